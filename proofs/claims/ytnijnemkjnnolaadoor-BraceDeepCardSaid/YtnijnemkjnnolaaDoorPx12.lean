-- Written by a program of this session (wip/mp): the kit's print, with contracts proved by hand let in as printed ones.
import Derived.Test.YtnijnemkjnnolaaDoorPx0
import Derived.Test.YtnijnemkjnnolaaDoorPx1
import Derived.Test.YtnijnemkjnnolaaDoorPx2
import Derived.Test.YtnijnemkjnnolaaDoorPx8
import Derived.Test.YtnijnemkjnnolaaDoorPx9
import Derived.Test.YtnijnemkjnnolaaDoorPx11
namespace Go.Proofs.YtnijnemkjnnolaaDoor.P
open Go.RowKit Go.Proofs.YtnijnemkjnnolaaDoorW.PrintWords Go.Proofs.YtnijnemkjnnolaaDoorW.PrintLast Go.Proofs.YtnijnemkjnnolaaDoorW.PrintMore
attribute [local go_sem] max2_int min2_int max_two min_two max_three min_three max_four min_four   -- for this text's walks alone
set_option linter.unusedVariables false
set_option linter.unusedSimpArgs false

attribute [local go_sem high] eqA29
/-! ### transhumancelaw5_BraceDeep: function 3 -/
def transhumancelaw5_BraceDeep.l0 : Nat → Bool → Int → ByteArray → ByteArray → Int → Int → Option (Bool)
  | 0, _, _, _, _, _, _ => none
  | k + 1, x1, x5, x6, x7, x8, x9 => if x9 < x5 then (if x9 = 8 then (if x1 = true then (if x6.size + 1 ≤ 9223372036854775807 then (if 1 + x7.size ≤ 9223372036854775807 then (transhumancelaw5_BraceDeep.l0 k x1 x5 (x6 ++ (⟨#[91]⟩ : ByteArray)) ((⟨#[93]⟩ : ByteArray) ++ x7) (x6.size : Int) (wrap64 (x9 + 1))) else (none)) else (none)) else (if (Int.tmod x9 2) = 0 then (if x6.size + 1 ≤ 9223372036854775807 then (if 1 + x7.size ≤ 9223372036854775807 then (transhumancelaw5_BraceDeep.l0 k x1 x5 (x6 ++ (⟨#[91]⟩ : ByteArray)) ((⟨#[93]⟩ : ByteArray) ++ x7) (x6.size : Int) (wrap64 (x9 + 1))) else (none)) else (none)) else (if x6.size + 5 ≤ 9223372036854775807 then (if 1 + x7.size ≤ 9223372036854775807 then (transhumancelaw5_BraceDeep.l0 k x1 x5 (x6 ++ (⟨#[123, 34, 97, 34, 58]⟩ : ByteArray)) ((⟨#[125]⟩ : ByteArray) ++ x7) (x6.size : Int) (wrap64 (x9 + 1))) else (none)) else (none)))) else (if x1 = true then (if x6.size + 1 ≤ 9223372036854775807 then (if 1 + x7.size ≤ 9223372036854775807 then (transhumancelaw5_BraceDeep.l0 k x1 x5 (x6 ++ (⟨#[91]⟩ : ByteArray)) ((⟨#[93]⟩ : ByteArray) ++ x7) x8 (wrap64 (x9 + 1))) else (none)) else (none)) else (if (Int.tmod x9 2) = 0 then (if x6.size + 1 ≤ 9223372036854775807 then (if 1 + x7.size ≤ 9223372036854775807 then (transhumancelaw5_BraceDeep.l0 k x1 x5 (x6 ++ (⟨#[91]⟩ : ByteArray)) ((⟨#[93]⟩ : ByteArray) ++ x7) x8 (wrap64 (x9 + 1))) else (none)) else (none)) else (if x6.size + 5 ≤ 9223372036854775807 then (if 1 + x7.size ≤ 9223372036854775807 then (transhumancelaw5_BraceDeep.l0 k x1 x5 (x6 ++ (⟨#[123, 34, 97, 34, 58]⟩ : ByteArray)) ((⟨#[125]⟩ : ByteArray) ++ x7) x8 (wrap64 (x9 + 1))) else (none)) else (none))))) else (if x6.size + 1 ≤ 9223372036854775807 then (if x6.size + 1 + x7.size ≤ 9223372036854775807 then ((brace_Parse.f ((x6 ++ (⟨#[49]⟩ : ByteArray)) ++ x7)).bind fun bt146 => (if x5 > 8 then (if bt146.2.2.2.2.2.2.2 = 3 then ((transhumanceref1_Place.f k ((x6 ++ (⟨#[49]⟩ : ByteArray)) ++ x7) x8).bind fun bt160 => (if (bt146.2.2.2.2.2.1 == bt160.1 && (bt146.2.2.2.2.2.2.1 == bt160.2)) = true then (some (bt146.1 == 0)) else (some false))) else (some false)) else (if bt146.2.2.2.2.2.2.2 = 0 then ((brace_Text.f k bt146.1 bt146.2.1 bt146.2.2.1 bt146.2.2.2.1 bt146.2.2.2.2.1).bind fun t162 => (some (t162.toList == ((x6 ++ (⟨#[49]⟩ : ByteArray)) ++ x7).toList))) else (some false)))) else (none)) else (none))
def transhumancelaw5_BraceDeep.f (k : Nat) (a0 : Int) (a1 : Bool) : Option (Bool) := (transhumancelaw5_known.f).bind fun t144 => (if t144 = true then ((transhumancelaw5_within.f a0 12).bind fun t145 => (transhumancelaw5_BraceDeep.l0 k a1 (wrap64 (1 + t145)) (⟨#[]⟩ : ByteArray) (⟨#[]⟩ : ByteArray) 0 0)) else (some false))
theorem transhumancelaw5_BraceDeep.mono_l : ∀ k, (∀ y0 y1 y2 y3 y4 y5, LeO (transhumancelaw5_BraceDeep.l0 k y0 y1 y2 y3 y4 y5) (transhumancelaw5_BraceDeep.l0 (k + 1) y0 y1 y2 y3 y4 y5))
  | 0 => fun _ _ _ _ _ _ r h => by simp [transhumancelaw5_BraceDeep.l0] at h
  | k + 1 => by
    have ih0 := transhumancelaw5_BraceDeep.mono_l k
    · intro y0 y1 y2 y3 y4 y5
      unfold transhumancelaw5_BraceDeep.l0
      repeat' first
      | (with_reducible exact ih0 _ _ _ _ _ _)
      | (with_reducible exact brace_Text.mono _ _ _ _ _ _)
      | (with_reducible exact transhumanceref1_Place.mono _ _ _)
      | (with_reducible exact LeO.refl _)
      | (with_reducible exact LeO.none _)
      | (with_reducible refine LeO.ite ?_ ?_)
      | (with_reducible refine LeO.bind ?_ (fun _ => ?_))
      | exact ih0 _ _ _ _ _ _
      | exact brace_Text.mono _ _ _ _ _ _
      | exact transhumanceref1_Place.mono _ _ _
      | exact LeO.none _
      | refine LeO.ite ?_ ?_
      | refine LeO.bind ?_ (fun _ => ?_)
theorem transhumancelaw5_BraceDeep.mono : ∀ a0 a1 k, LeO (transhumancelaw5_BraceDeep.f k a0 a1) (transhumancelaw5_BraceDeep.f (k + 1) a0 a1) := by
  intro a0 a1 k
  have ih0 := transhumancelaw5_BraceDeep.mono_l k
  unfold transhumancelaw5_BraceDeep.f
  repeat' first
      | (with_reducible exact ih0 _ _ _ _ _ _)
      | (with_reducible exact brace_Text.mono _ _ _ _ _ _)
      | (with_reducible exact transhumanceref1_Place.mono _ _ _)
      | (with_reducible exact LeO.refl _)
      | (with_reducible exact LeO.none _)
      | (with_reducible refine LeO.ite ?_ ?_)
      | (with_reducible refine LeO.bind ?_ (fun _ => ?_))
      | exact ih0 _ _ _ _ _ _
      | exact brace_Text.mono _ _ _ _ _ _
      | exact transhumanceref1_Place.mono _ _ _
      | exact LeO.none _
      | refine LeO.ite ?_ ?_
      | refine LeO.bind ?_ (fun _ => ?_)
def transhumancelaw5_BraceDeep.T17 : Bool × List (List Nat × List Nat) := (true, [([], []), ([0], [0]), ([1], [1]), ([2], [2]), ([2], [2]), ([2], [2]), ([4, 5, 2, 2], [2, 4, 5]), ([3, 6, 2], [2, 3, 6]), ([2, 7], [2, 7]), ([8, 6], [8]), ([9], [9]), ([10, 9], [9, 10]), ([11, 9], [9, 11]), ([9, 12], [9, 12]), ([13, 9, 0, 1, 2, 3, 4, 5, 6, 7, 8, 9, 10, 11, 12, 13], [13])])
def transhumancelaw5_BraceDeep.B17 : List Nat := [0, 1, 3, 7, 7, 7, 55, 127, 255, 511, 1023, 2047, 4095, 8191, 16383]
theorem transhumancelaw5_BraceDeep.tab17 : rtab .any (opsOf Tryd.f3 17) = transhumancelaw5_BraceDeep.T17 := by kernel_rfl
theorem transhumancelaw5_BraceDeep.bits17 : waitsOk transhumancelaw5_BraceDeep.T17.2 transhumancelaw5_BraceDeep.B17 = true := by kernel_rfl
set_option maxHeartbeats 8000000 in
set_option maxRecDepth 100000 in
theorem transhumancelaw5_BraceDeep.calls (k : Nat) (a0 : Int) (a1 : Bool) (r : Bool) (w : World) (hTab : Tab w) (h : transhumancelaw5_BraceDeep.f k a0 a1 = some r) :
    Calls Tryd.prog 3 #[.int .i64 a0, .bool a1] w fun e w' => e = .returned (.bool r) ∧ Below w.heap.size w w' := by
  have hu27 := Tryd.underlying27
  have hu29 := Tryd.underlying29
  have HT := Aside0.mk hTab
  clear hTab
  have HB := Aside0.mk (Below.refl w.heap.size w)
  have H : ((transhumancelaw5_known.f).bind fun t144 => (if t144 = true then ((transhumancelaw5_within.f a0 12).bind fun t145 => (transhumancelaw5_BraceDeep.l0 k a1 (wrap64 (1 + t145)) (⟨#[]⟩ : ByteArray) (⟨#[]⟩ : ByteArray) 0 0)) else (some false))) = some r := h
  clear h
  replace H := Option.bind_eq_some_iff.mp H
  obtain ⟨t144, A30, H⟩ := H
  replace H : (if t144 = true then ((transhumancelaw5_within.f a0 12).bind fun t145 => (transhumancelaw5_BraceDeep.l0 k a1 (wrap64 (1 + t145)) (⟨#[]⟩ : ByteArray) (⟨#[]⟩ : ByteArray) 0 0)) else (some false)) = some r := H
  have A3 := Aside0.mk A30
  clear A30
  by_cases c4 : t144 = true
  · subst c4
    have H1 : ((transhumancelaw5_within.f a0 12).bind fun t145 => (transhumancelaw5_BraceDeep.l0 k a1 (wrap64 (1 + t145)) (⟨#[]⟩ : ByteArray) (⟨#[]⟩ : ByteArray) 0 0)) = some r := by rw [if_pos rfl] at H; exact H
    clear H
    have H := H1
    clear H1
    replace H := Option.bind_eq_some_iff.mp H
    obtain ⟨t145, A50, H⟩ := H
    replace H : (transhumancelaw5_BraceDeep.l0 k a1 (wrap64 (1 + t145)) (⟨#[]⟩ : ByteArray) (⟨#[]⟩ : ByteArray) 0 0) = some r := H
    have A5 := Aside0.mk A50
    clear A50
    have H' := Aside0.mk H
    clear H
    go_enter Tryd.func3, Tryd.ntmps3
    go_wp2_with (first | ((with_reducible refine gate_callee (f := 6) rfl ?_); refine goesL_ (some 14) rfl rfl Tryd.func6 (by kernel_rfl) rfl #[] rfl (by (try simp only [List.map_toArray, List.map_cons, List.map_nil]); first | done | rfl | (simp only [List.length_drop, List.length_take]; rfl)) ?_; (with_reducible refine (transhumancelaw5_known.calls  true _ ?side1 A3.out).mono ?_); (case side1 => exact Tab.below HT.out (by repeat (first | (with_reducible first | exact HB.out | apply below_alloc | apply pw_below_drewN | apply below_drew1) | exact HB.out))); rintro e w6 ⟨rfl, hb⟩; refine ⟨_, rfl, ?_⟩; have n0_ := Aside0.mk (below_step (by repeat (first | (with_reducible first | exact HB.out | apply below_alloc | apply pw_below_drewN | apply below_drew1) | exact HB.out)) hb); clear HB; have HB := n0_; clear n0_; (try clear hb); (try clear hb2); (try clear hk); (try clear hi)) | ((with_reducible refine gate_callee (f := 7) rfl ?_); refine goesL_ (some 17) rfl rfl Tryd.func7 (by kernel_rfl) rfl #[.int .i64 a0, .int .i64 12] rfl (by (try simp only [List.map_toArray, List.map_cons, List.map_nil]); first | done | rfl | (simp only [List.length_drop, List.length_take]; rfl)) ?_; (with_reducible refine (transhumancelaw5_within.calls a0 12 t145 _ A5.out).mono ?_); rintro e w' ⟨rfl, ⟨nd, rfl⟩⟩; refine ⟨_, rfl, ?_⟩))
    go_loopg [6, 7, 8, 9] k (fun kq v6 v7 v8 v9 w' => ∃ (x6_1 : ByteArray) (x7_1 : ByteArray) (x8_1 : Int) (x9_1 : Int), v6 = .string x6_1 ∧ v7 = .string x7_1 ∧ v8 = .int .i64 x8_1 ∧ v9 = .int .i64 x9_1 ∧ Aside0 (transhumancelaw5_BraceDeep.l0 kq a1 (wrap64 (1 + t145)) x6_1 x7_1 x8_1 x9_1 = some r) ∧ Aside0 (kq ≤ k) ∧ Aside0 (Below w.heap.size w w'))
    case atStart => exact ⟨((⟨#[]⟩ : ByteArray)), ((⟨#[]⟩ : ByteArray)), (0), (0), (by first | rfl | (simp; done) | (simp [*]; done)), (by first | rfl | (simp; done) | (simp [*]; done)), (by first | rfl | (simp; done) | (simp [*]; done)), (by first | rfl | (simp; done) | (simp [*]; done)), H', ⟨Nat.le_refl _⟩, ⟨by repeat (first | (with_reducible first | exact HB.out | apply below_alloc | apply pw_below_drewN | apply below_drew1) | exact HB.out)⟩⟩
    case round =>
      clear H'
      try clear p2
      try clear c3
      try clear c4
      try clear c6
      try clear p6
      obtain ⟨x6_1, x7_1, x8_1, x9_1, rfl, rfl, rfl, rfl, HA, HK1, HB⟩ := hrel
      cases gk with
      | zero => exact absurd HA.out (by simp [transhumancelaw5_BraceDeep.l0])
      | succ k1 =>
        have H := HA.out
        clear HA
        simp only [transhumancelaw5_BraceDeep.l0] at H
        by_cases c7 : x9_1 < (wrap64 (1 + t145))
        · rw [if_pos c7] at H
          have c7b0 : decide (x9_1 < (wrap64 (1 + t145))) = true := decide_eq_true c7
          clear c7
          by_cases c8 : x9_1 = 8
          · rw [if_pos c8] at H
            have c8b0 : (x9_1 == 8) = true := beq_iff_eq.mpr c8
            have c8b1 : (x9_1 != 8) = false := bne_eq_false_iff_eq.mpr c8
            clear c8
            by_cases c9 : a1 = true
            · subst c9
              have H1 : (if x6_1.size + 1 ≤ 9223372036854775807 then (if 1 + x7_1.size ≤ 9223372036854775807 then (transhumancelaw5_BraceDeep.l0 k1 true (wrap64 (1 + t145)) (x6_1 ++ (⟨#[91]⟩ : ByteArray)) ((⟨#[93]⟩ : ByteArray) ++ x7_1) (x6_1.size : Int) (wrap64 (x9_1 + 1))) else (none)) else (none)) = some r := by rw [if_pos rfl] at H; exact H
              clear H
              have H := H1
              clear H1
              by_cases c10 : x6_1.size + 1 ≤ 9223372036854775807
              · rw [if_pos c10] at H
                have c10b0 := eq_true c10
                have c10b1 : decide (x6_1.size + 1 ≤ 9223372036854775807) = true := decide_eq_true c10
                try have c10b2 : (9223372036854775807 < x6_1.size + 1) = False := eq_false (Nat.not_lt.2 c10)
                by_cases c11 : 1 + x7_1.size ≤ 9223372036854775807
                · rw [if_pos c11] at H
                  have c11b0 := eq_true c11
                  have c11b1 : decide (1 + x7_1.size ≤ 9223372036854775807) = true := decide_eq_true c11
                  try have c11b2 : (9223372036854775807 < 1 + x7_1.size) = False := eq_false (Nat.not_lt.2 c11)
                  have H' := Aside0.mk H
                  clear H
                  go_wp2
                  go_roundg k1
                  case measure => have := HK1.out; omega
                  case rel => exact ⟨(x6_1 ++ (⟨#[91]⟩ : ByteArray)), ((⟨#[93]⟩ : ByteArray) ++ x7_1), ((x6_1.size : Int)), (wrap64 (x9_1 + 1)), (by first | rfl | (simp; done) | (simp [*]; done)), (by first | rfl | (simp; done) | (simp [*]; done)), (by first | rfl | (simp; done) | (simp [*]; done)), (by first | rfl | (simp; done) | (simp [*]; done)), H', ⟨by have := HK1.out; omega⟩, ⟨by repeat (first | (with_reducible first | exact HB.out | apply below_alloc | apply pw_below_drewN | apply below_drew1) | exact HB.out)⟩⟩
                · rw [if_neg c11] at H
                  exact absurd H (by simp)
              · rw [if_neg c10] at H
                exact absurd H (by simp)
            · replace c9 := Bool.eq_false_iff.mpr c9
              subst c9
              have H1 : (if (Int.tmod x9_1 2) = 0 then (if x6_1.size + 1 ≤ 9223372036854775807 then (if 1 + x7_1.size ≤ 9223372036854775807 then (transhumancelaw5_BraceDeep.l0 k1 false (wrap64 (1 + t145)) (x6_1 ++ (⟨#[91]⟩ : ByteArray)) ((⟨#[93]⟩ : ByteArray) ++ x7_1) (x6_1.size : Int) (wrap64 (x9_1 + 1))) else (none)) else (none)) else (if x6_1.size + 5 ≤ 9223372036854775807 then (if 1 + x7_1.size ≤ 9223372036854775807 then (transhumancelaw5_BraceDeep.l0 k1 false (wrap64 (1 + t145)) (x6_1 ++ (⟨#[123, 34, 97, 34, 58]⟩ : ByteArray)) ((⟨#[125]⟩ : ByteArray) ++ x7_1) (x6_1.size : Int) (wrap64 (x9_1 + 1))) else (none)) else (none))) = some r := by rw [if_neg (show ¬ (false = true) by decide)] at H; exact H
              clear H
              have H := H1
              clear H1
              by_cases c12 : (Int.tmod x9_1 2) = 0
              · rw [if_pos c12] at H
                have c12b0 : ((Int.tmod x9_1 2) == 0) = true := beq_iff_eq.mpr c12
                have c12b1 : ((Int.tmod x9_1 2) != 0) = false := bne_eq_false_iff_eq.mpr c12
                clear c12
                by_cases c13 : x6_1.size + 1 ≤ 9223372036854775807
                · rw [if_pos c13] at H
                  have c13b0 := eq_true c13
                  have c13b1 : decide (x6_1.size + 1 ≤ 9223372036854775807) = true := decide_eq_true c13
                  try have c13b2 : (9223372036854775807 < x6_1.size + 1) = False := eq_false (Nat.not_lt.2 c13)
                  by_cases c14 : 1 + x7_1.size ≤ 9223372036854775807
                  · rw [if_pos c14] at H
                    have c14b0 := eq_true c14
                    have c14b1 : decide (1 + x7_1.size ≤ 9223372036854775807) = true := decide_eq_true c14
                    try have c14b2 : (9223372036854775807 < 1 + x7_1.size) = False := eq_false (Nat.not_lt.2 c14)
                    have H' := Aside0.mk H
                    clear H
                    go_wp2
                    go_roundg k1
                    case measure => have := HK1.out; omega
                    case rel => exact ⟨(x6_1 ++ (⟨#[91]⟩ : ByteArray)), ((⟨#[93]⟩ : ByteArray) ++ x7_1), ((x6_1.size : Int)), (wrap64 (x9_1 + 1)), (by first | rfl | (simp; done) | (simp [*]; done)), (by first | rfl | (simp; done) | (simp [*]; done)), (by first | rfl | (simp; done) | (simp [*]; done)), (by first | rfl | (simp; done) | (simp [*]; done)), H', ⟨by have := HK1.out; omega⟩, ⟨by repeat (first | (with_reducible first | exact HB.out | apply below_alloc | apply pw_below_drewN | apply below_drew1) | exact HB.out)⟩⟩
                  · rw [if_neg c14] at H
                    exact absurd H (by simp)
                · rw [if_neg c13] at H
                  exact absurd H (by simp)
              · rw [if_neg c12] at H
                have c12b0 : ((Int.tmod x9_1 2) == 0) = false := beq_eq_false_iff_ne.mpr c12
                have c12b1 : ((Int.tmod x9_1 2) != 0) = true := bne_iff_ne.mpr c12
                by_cases c15 : x6_1.size + 5 ≤ 9223372036854775807
                · rw [if_pos c15] at H
                  have c15b0 := eq_true c15
                  have c15b1 : decide (x6_1.size + 5 ≤ 9223372036854775807) = true := decide_eq_true c15
                  try have c15b2 : (9223372036854775807 < x6_1.size + 5) = False := eq_false (Nat.not_lt.2 c15)
                  by_cases c16 : 1 + x7_1.size ≤ 9223372036854775807
                  · rw [if_pos c16] at H
                    have c16b0 := eq_true c16
                    have c16b1 : decide (1 + x7_1.size ≤ 9223372036854775807) = true := decide_eq_true c16
                    try have c16b2 : (9223372036854775807 < 1 + x7_1.size) = False := eq_false (Nat.not_lt.2 c16)
                    have H' := Aside0.mk H
                    clear H
                    go_wp2
                    go_roundg k1
                    case measure => have := HK1.out; omega
                    case rel => exact ⟨(x6_1 ++ (⟨#[123, 34, 97, 34, 58]⟩ : ByteArray)), ((⟨#[125]⟩ : ByteArray) ++ x7_1), ((x6_1.size : Int)), (wrap64 (x9_1 + 1)), (by first | rfl | (simp; done) | (simp [*]; done)), (by first | rfl | (simp; done) | (simp [*]; done)), (by first | rfl | (simp; done) | (simp [*]; done)), (by first | rfl | (simp; done) | (simp [*]; done)), H', ⟨by have := HK1.out; omega⟩, ⟨by repeat (first | (with_reducible first | exact HB.out | apply below_alloc | apply pw_below_drewN | apply below_drew1) | exact HB.out)⟩⟩
                  · rw [if_neg c16] at H
                    exact absurd H (by simp)
                · rw [if_neg c15] at H
                  exact absurd H (by simp)
          · rw [if_neg c8] at H
            have c8b0 : (x9_1 == 8) = false := beq_eq_false_iff_ne.mpr c8
            have c8b1 : (x9_1 != 8) = true := bne_iff_ne.mpr c8
            by_cases c17 : a1 = true
            · subst c17
              have H1 : (if x6_1.size + 1 ≤ 9223372036854775807 then (if 1 + x7_1.size ≤ 9223372036854775807 then (transhumancelaw5_BraceDeep.l0 k1 true (wrap64 (1 + t145)) (x6_1 ++ (⟨#[91]⟩ : ByteArray)) ((⟨#[93]⟩ : ByteArray) ++ x7_1) x8_1 (wrap64 (x9_1 + 1))) else (none)) else (none)) = some r := by rw [if_pos rfl] at H; exact H
              clear H
              have H := H1
              clear H1
              by_cases c18 : x6_1.size + 1 ≤ 9223372036854775807
              · rw [if_pos c18] at H
                have c18b0 := eq_true c18
                have c18b1 : decide (x6_1.size + 1 ≤ 9223372036854775807) = true := decide_eq_true c18
                try have c18b2 : (9223372036854775807 < x6_1.size + 1) = False := eq_false (Nat.not_lt.2 c18)
                by_cases c19 : 1 + x7_1.size ≤ 9223372036854775807
                · rw [if_pos c19] at H
                  have c19b0 := eq_true c19
                  have c19b1 : decide (1 + x7_1.size ≤ 9223372036854775807) = true := decide_eq_true c19
                  try have c19b2 : (9223372036854775807 < 1 + x7_1.size) = False := eq_false (Nat.not_lt.2 c19)
                  have H' := Aside0.mk H
                  clear H
                  go_wp2
                  go_roundg k1
                  case measure => have := HK1.out; omega
                  case rel => exact ⟨(x6_1 ++ (⟨#[91]⟩ : ByteArray)), ((⟨#[93]⟩ : ByteArray) ++ x7_1), (x8_1), (wrap64 (x9_1 + 1)), (by first | rfl | (simp; done) | (simp [*]; done)), (by first | rfl | (simp; done) | (simp [*]; done)), (by first | rfl | (simp; done) | (simp [*]; done)), (by first | rfl | (simp; done) | (simp [*]; done)), H', ⟨by have := HK1.out; omega⟩, ⟨by repeat (first | (with_reducible first | exact HB.out | apply below_alloc | apply pw_below_drewN | apply below_drew1) | exact HB.out)⟩⟩
                · rw [if_neg c19] at H
                  exact absurd H (by simp)
              · rw [if_neg c18] at H
                exact absurd H (by simp)
            · replace c17 := Bool.eq_false_iff.mpr c17
              subst c17
              have H1 : (if (Int.tmod x9_1 2) = 0 then (if x6_1.size + 1 ≤ 9223372036854775807 then (if 1 + x7_1.size ≤ 9223372036854775807 then (transhumancelaw5_BraceDeep.l0 k1 false (wrap64 (1 + t145)) (x6_1 ++ (⟨#[91]⟩ : ByteArray)) ((⟨#[93]⟩ : ByteArray) ++ x7_1) x8_1 (wrap64 (x9_1 + 1))) else (none)) else (none)) else (if x6_1.size + 5 ≤ 9223372036854775807 then (if 1 + x7_1.size ≤ 9223372036854775807 then (transhumancelaw5_BraceDeep.l0 k1 false (wrap64 (1 + t145)) (x6_1 ++ (⟨#[123, 34, 97, 34, 58]⟩ : ByteArray)) ((⟨#[125]⟩ : ByteArray) ++ x7_1) x8_1 (wrap64 (x9_1 + 1))) else (none)) else (none))) = some r := by rw [if_neg (show ¬ (false = true) by decide)] at H; exact H
              clear H
              have H := H1
              clear H1
              by_cases c20 : (Int.tmod x9_1 2) = 0
              · rw [if_pos c20] at H
                have c20b0 : ((Int.tmod x9_1 2) == 0) = true := beq_iff_eq.mpr c20
                have c20b1 : ((Int.tmod x9_1 2) != 0) = false := bne_eq_false_iff_eq.mpr c20
                clear c20
                by_cases c21 : x6_1.size + 1 ≤ 9223372036854775807
                · rw [if_pos c21] at H
                  have c21b0 := eq_true c21
                  have c21b1 : decide (x6_1.size + 1 ≤ 9223372036854775807) = true := decide_eq_true c21
                  try have c21b2 : (9223372036854775807 < x6_1.size + 1) = False := eq_false (Nat.not_lt.2 c21)
                  by_cases c22 : 1 + x7_1.size ≤ 9223372036854775807
                  · rw [if_pos c22] at H
                    have c22b0 := eq_true c22
                    have c22b1 : decide (1 + x7_1.size ≤ 9223372036854775807) = true := decide_eq_true c22
                    try have c22b2 : (9223372036854775807 < 1 + x7_1.size) = False := eq_false (Nat.not_lt.2 c22)
                    have H' := Aside0.mk H
                    clear H
                    go_wp2
                    go_roundg k1
                    case measure => have := HK1.out; omega
                    case rel => exact ⟨(x6_1 ++ (⟨#[91]⟩ : ByteArray)), ((⟨#[93]⟩ : ByteArray) ++ x7_1), (x8_1), (wrap64 (x9_1 + 1)), (by first | rfl | (simp; done) | (simp [*]; done)), (by first | rfl | (simp; done) | (simp [*]; done)), (by first | rfl | (simp; done) | (simp [*]; done)), (by first | rfl | (simp; done) | (simp [*]; done)), H', ⟨by have := HK1.out; omega⟩, ⟨by repeat (first | (with_reducible first | exact HB.out | apply below_alloc | apply pw_below_drewN | apply below_drew1) | exact HB.out)⟩⟩
                  · rw [if_neg c22] at H
                    exact absurd H (by simp)
                · rw [if_neg c21] at H
                  exact absurd H (by simp)
              · rw [if_neg c20] at H
                have c20b0 : ((Int.tmod x9_1 2) == 0) = false := beq_eq_false_iff_ne.mpr c20
                have c20b1 : ((Int.tmod x9_1 2) != 0) = true := bne_iff_ne.mpr c20
                by_cases c23 : x6_1.size + 5 ≤ 9223372036854775807
                · rw [if_pos c23] at H
                  have c23b0 := eq_true c23
                  have c23b1 : decide (x6_1.size + 5 ≤ 9223372036854775807) = true := decide_eq_true c23
                  try have c23b2 : (9223372036854775807 < x6_1.size + 5) = False := eq_false (Nat.not_lt.2 c23)
                  by_cases c24 : 1 + x7_1.size ≤ 9223372036854775807
                  · rw [if_pos c24] at H
                    have c24b0 := eq_true c24
                    have c24b1 : decide (1 + x7_1.size ≤ 9223372036854775807) = true := decide_eq_true c24
                    try have c24b2 : (9223372036854775807 < 1 + x7_1.size) = False := eq_false (Nat.not_lt.2 c24)
                    have H' := Aside0.mk H
                    clear H
                    go_wp2
                    go_roundg k1
                    case measure => have := HK1.out; omega
                    case rel => exact ⟨(x6_1 ++ (⟨#[123, 34, 97, 34, 58]⟩ : ByteArray)), ((⟨#[125]⟩ : ByteArray) ++ x7_1), (x8_1), (wrap64 (x9_1 + 1)), (by first | rfl | (simp; done) | (simp [*]; done)), (by first | rfl | (simp; done) | (simp [*]; done)), (by first | rfl | (simp; done) | (simp [*]; done)), (by first | rfl | (simp; done) | (simp [*]; done)), H', ⟨by have := HK1.out; omega⟩, ⟨by repeat (first | (with_reducible first | exact HB.out | apply below_alloc | apply pw_below_drewN | apply below_drew1) | exact HB.out)⟩⟩
                  · rw [if_neg c24] at H
                    exact absurd H (by simp)
                · rw [if_neg c23] at H
                  exact absurd H (by simp)
        · rw [if_neg c7] at H
          have c7b0 : decide (x9_1 < (wrap64 (1 + t145))) = false := decide_eq_false c7
          clear c7
          by_cases c25 : x6_1.size + 1 ≤ 9223372036854775807
          · rw [if_pos c25] at H
            have c25b0 := eq_true c25
            have c25b1 : decide (x6_1.size + 1 ≤ 9223372036854775807) = true := decide_eq_true c25
            try have c25b2 : (9223372036854775807 < x6_1.size + 1) = False := eq_false (Nat.not_lt.2 c25)
            by_cases c26 : x6_1.size + 1 + x7_1.size ≤ 9223372036854775807
            · rw [if_pos c26] at H
              have c26b0 := eq_true c26
              have c26b1 : decide (x6_1.size + 1 + x7_1.size ≤ 9223372036854775807) = true := decide_eq_true c26
              try have c26b2 : (9223372036854775807 < x6_1.size + 1 + x7_1.size) = False := eq_false (Nat.not_lt.2 c26)
              replace H := Option.bind_eq_some_iff.mp H
              obtain ⟨⟨t146, t147, t148, t149, t152, t155, t156, t157⟩, A270, H⟩ := H
              replace H : (if (wrap64 (1 + t145)) > 8 then (if t157 = 3 then ((transhumanceref1_Place.f k1 ((x6_1 ++ (⟨#[49]⟩ : ByteArray)) ++ x7_1) x8_1).bind fun bt160 => (if (t155 == bt160.1 && (t156 == bt160.2)) = true then (some (t146 == 0)) else (some false))) else (some false)) else (if t157 = 0 then ((brace_Text.f k1 t146 t147 t148 t149 t152).bind fun t162 => (some (t162.toList == ((x6_1 ++ (⟨#[49]⟩ : ByteArray)) ++ x7_1).toList))) else (some false))) = some r := H
              have A27 := Aside0.mk A270
              clear A270
              by_cases c28 : (wrap64 (1 + t145)) > 8
              · rw [if_pos c28] at H
                have c28b0 : decide (8 < (wrap64 (1 + t145))) = true := decide_eq_true c28
                clear c28
                by_cases c29 : t157 = 3
                · rw [if_pos c29] at H
                  have c29b0 : (t157 == 3) = true := beq_iff_eq.mpr c29
                  have c29b1 : (t157 != 3) = false := bne_eq_false_iff_eq.mpr c29
                  clear c29
                  replace H := Option.bind_eq_some_iff.mp H
                  obtain ⟨⟨t160, t161⟩, A300, H⟩ := H
                  replace H : (if (t155 == t160 && (t156 == t161)) = true then (some (t146 == 0)) else (some false)) = some r := H
                  have A30 := Aside0.mk A300
                  clear A300
                  by_cases c31 : (t155 == t160 && (t156 == t161)) = true
                  · rw [if_pos c31] at H
                    have c31b0 : (t155 == t160 && (t156 == t161)) = true := c31
                    (try (have c31b1 : decide (t155 = t160 && (t156 == t161)) = true := by simpa using c31))
                    (try (have c31b2 : (t155 == t160 && (t156 == t161)) = true := by simpa using c31))
                    clear c31
                    obtain rfl := Option.some.inj H
                    try go_wp2_with (first | ((with_reducible refine gate_callee (f := 8) rfl ?_); refine goesL_ (some 48) rfl rfl Tryd.func8 (by kernel_rfl) rfl #[.string ((x6_1 ++ (⟨#[49]⟩ : ByteArray)) ++ x7_1)] rfl (by (try simp only [List.map_toArray, List.map_cons, List.map_nil]); first | done | rfl | (simp only [List.length_drop, List.length_take]; rfl)) ?_; (with_reducible refine (brace_Parse.calls ((x6_1 ++ (⟨#[49]⟩ : ByteArray)) ++ x7_1) t146 t147 t148 t149 t152 t155 t156 t157 _ A27.out).mono ?_); rintro e w32 ⟨v150, v153, rfl, ho0, ho1, hb⟩; refine ⟨_, rfl, ?_⟩; have n0_ := Aside0.mk (Kd.R_lower ho0 (below_size (by repeat (first | (with_reducible first | exact HB.out | apply below_alloc | apply pw_below_drewN | apply below_drew1) | exact HB.out)))); have n1_ := Aside0.mk (Kd.R_lower ho1 (below_size (by repeat (first | (with_reducible first | exact HB.out | apply below_alloc | apply pw_below_drewN | apply below_drew1) | exact HB.out)))); have n2_ := Aside0.mk (below_step (by repeat (first | (with_reducible first | exact HB.out | apply below_alloc | apply pw_below_drewN | apply below_drew1) | exact HB.out)) hb); clear HB; have HO151 := n0_; have HO154 := n1_; have HB := n2_; clear n0_ n1_ n2_; (try clear hb); (try clear hb2); (try clear hk); (try clear hi); (try clear ho0); (try clear ho1)) | ((with_reducible refine gate_dst (N := 11) rfl ?_); refine box_event ?hg (N := 11) ?hd (cs := #[.int .i64 0, .int .i64 0, .string (⟨#[]⟩ : ByteArray), .slice none 0 0, .slice none 0 0]) (t := 27) ?hr ?_; (case hd => rfl); (case hg => rfl); (case hr => first | (go_simp; done) | (go_simp; rfl)); intro gb158 hg w33 hbox hb; have n0_ := Aside0.mk (Kd.R_below (by (with_reducible repeat (first | apply Kd.R_alloc | apply Kd.R_drewN | apply Kd.R_drew)); exact HO151.out) hb); have n1_ := Aside0.mk (Kd.R_below (Kd.R_elderB (by (with_reducible repeat (first | apply Kd.R_alloc | apply Kd.R_drewN | apply Kd.R_drew)); exact HO154.out) gb158 (Nat.le_of_eq hg.symm)) hb); have n2_ := Aside0.mk (below_step (by repeat (first | (with_reducible first | exact HB.out | apply below_alloc | apply pw_below_drewN | apply below_drew1) | exact HB.out)) hb); have n3_ := Aside0.mk (hbox); have n4_ := Aside0.mk ((by rw [hg]; exact (below_size (by repeat (first | (with_reducible first | exact HB.out | apply below_alloc | apply pw_below_drewN | apply below_drew1) | exact HB.out))) : w.heap.size ≤ gb158)); have n5_ := Aside0.mk ((by rw [hg]; exact (below_size (by repeat (first | (with_reducible first | exact HB.out | apply below_alloc | apply pw_below_drewN | apply below_drew1) | exact HB.out))) : w.heap.size ≤ gb158)); clear HO151; clear HO154; clear HB; have HO151 := n0_; have HO154 := n1_; have HB := n2_; have BK158 := n3_; have GW158 := n4_; have GE158 := n5_; clear n0_ n1_ n2_ n3_ n4_ n5_; clear hb hbox hg) | ((with_reducible refine gate_dst (N := 12) rfl ?_); refine box_event ?hg (N := 12) ?hd (cs := #[.int .i64 0, .int .i64 0]) (t := 29) ?hr ?_; (case hd => rfl); (case hg => rfl); (case hr => first | (go_simp; done) | (go_simp; rfl)); intro gb159 hg w34 hbox hb; have n0_ := Aside0.mk (Kd.R_below (by (with_reducible repeat (first | apply Kd.R_alloc | apply Kd.R_drewN | apply Kd.R_drew)); exact HO151.out) hb); have n1_ := Aside0.mk (Kd.R_below (by (with_reducible repeat (first | apply Kd.R_alloc | apply Kd.R_drewN | apply Kd.R_drew)); exact HO154.out) hb); have n2_ := Aside0.mk (blk_below (g := gb158) (o := .cells #[.int .i64 0, .int .i64 0, .string (⟨#[]⟩ : ByteArray), .slice none 0 0, .slice none 0 0] 27 (0, 0)) (by (with_reducible repeat (first | refine blk_drewN ?_ _ | refine blk_drew ?_ | refine blk_alloc ?_ _)); exact BK158.out) hb); have n3_ := Aside0.mk (below_step (by repeat (first | (with_reducible first | exact HB.out | apply below_alloc | apply pw_below_drewN | apply below_drew1 | refine below_set ?_ GE158.out) | exact HB.out)) hb); have n4_ := Aside0.mk (hbox); have n5_ := Aside0.mk ((by rw [hg]; exact (below_size (by repeat (first | (with_reducible first | exact HB.out | apply below_alloc | apply pw_below_drewN | apply below_drew1 | refine below_set ?_ GE158.out) | exact HB.out))) : w.heap.size ≤ gb159)); have n6_ := Aside0.mk ((by rw [hg]; exact (below_size (by repeat (first | (with_reducible first | exact HB.out | apply below_alloc | apply pw_below_drewN | apply below_drew1 | refine below_set ?_ GE158.out) | exact HB.out))) : w.heap.size ≤ gb159)); have n7_ := Aside0.mk ((by rw [hg]; exact Nat.ne_of_lt (blk_lt (g := gb158) (o := .cells #[.int .i64 0, .int .i64 0, .string (⟨#[]⟩ : ByteArray), .slice none 0 0, .slice none 0 0] 27 (0, 0)) (by (with_reducible repeat (first | refine blk_drewN ?_ _ | refine blk_drew ?_ | refine blk_alloc ?_ _)); exact BK158.out)) : gb158 ≠ gb159)); have n8_ := Aside0.mk ((by rw [hg]; exact Nat.ne_of_gt (blk_lt (g := gb158) (o := .cells #[.int .i64 0, .int .i64 0, .string (⟨#[]⟩ : ByteArray), .slice none 0 0, .slice none 0 0] 27 (0, 0)) (by (with_reducible repeat (first | refine blk_drewN ?_ _ | refine blk_drew ?_ | refine blk_alloc ?_ _)); exact BK158.out)) : gb159 ≠ gb158)); clear HO151; clear HO154; clear BK158; clear HB; have HO151 := n0_; have HO154 := n1_; have BK158 := n2_; have HB := n3_; have BK159 := n4_; have GW159 := n5_; have GE159 := n6_; have NB158_159 := n7_; have NB159_158 := n8_; clear n0_ n1_ n2_ n3_ n4_ n5_ n6_ n7_ n8_; clear hb hbox hg; have hnb35 := NB158_159.out; have hnc35 := NB159_158.out; have hcz36_0 : w34.cell? ⟨gb158, 0, none⟩ = some (.int .i64 0) := (blk_cell BK158.out 0).trans rfl; have hcz36_1 : w34.cell? ⟨gb158, 1, none⟩ = some (.int .i64 0) := (blk_cell BK158.out 1).trans rfl; have hcz36_2 : w34.cell? ⟨gb158, 2, none⟩ = some (.string (⟨#[]⟩ : ByteArray)) := (blk_cell BK158.out 2).trans rfl; have hcz36_3 : w34.cell? ⟨gb158, 3, none⟩ = some (.slice none 0 0) := (blk_cell BK158.out 3).trans rfl; have hcz36_4 : w34.cell? ⟨gb158, 4, none⟩ = some (.slice none 0 0) := (blk_cell BK158.out 4).trans rfl; have hfz36_0 := blk_frozen BK158.out 0; have hfz36_1 := blk_frozen BK158.out 1; have hfz36_2 := blk_frozen BK158.out 2; have hfz36_3 := blk_frozen BK158.out 3; have hfz36_4 := blk_frozen BK158.out 4; obtain ⟨Ao37, co37, eo37⟩ := Kd.R_slice HO151.out; subst eo37; obtain ⟨Ao38, co38, eo38⟩ := Kd.R_slice HO154.out; subst eo38; have hcz39_0 : w34.cell? ⟨gb159, 0, none⟩ = some (.int .i64 0) := (blk_cell BK159.out 0).trans rfl; have hcz39_1 : w34.cell? ⟨gb159, 1, none⟩ = some (.int .i64 0) := (blk_cell BK159.out 1).trans rfl; have hfz39_0 := blk_frozen BK159.out 0; have hfz39_1 := blk_frozen BK159.out 1))
                    have n0_ : Aside0 (Kd.R Kd.string 9 (((((((w34.setCell ⟨gb158, 0, none⟩ (.int .i64 t146)).setCell ⟨gb158, 1, none⟩ (.int .i64 t147)).setCell ⟨gb158, 2, none⟩ (.string t148)).setCell ⟨gb158, 3, none⟩ (.slice Ao37 t149.length co37)).setCell ⟨gb158, 4, none⟩ (.slice Ao38 t152.length co38)).setCell ⟨gb159, 0, none⟩ (.int .i64 t155)).setCell ⟨gb159, 1, none⟩ (.int .i64 t156)) w.heap.size (fun _ => True) (.slice Ao37 t149.length co37) t149) := ⟨by (with_reducible repeat (first | apply Kd.R_alloc | apply Kd.R_drewN | apply Kd.R_drew)); exact Kd.R_mono (Kd.R_far (p := ⟨gb159, 1, none⟩) (Kd.R_far (p := ⟨gb159, 0, none⟩) (Kd.R_far (p := ⟨gb158, 4, none⟩) (Kd.R_far (p := ⟨gb158, 3, none⟩) (Kd.R_far (p := ⟨gb158, 2, none⟩) (Kd.R_far (p := ⟨gb158, 1, none⟩) (Kd.R_far (p := ⟨gb158, 0, none⟩) (Kd.R_types (Kd.R_types HO151.out BK158.out (by decide)) BK159.out (by decide)) (fun _ hk => hk.1.2) (.int .i64 t146)) (fun _ hk => hk.1.2) (.int .i64 t147)) (fun _ hk => hk.1.2) (.string t148)) (fun _ hk => hk.1.2) (.slice Ao37 t149.length co37)) (fun _ hk => hk.1.2) (.slice Ao38 t152.length co38)) (fun _ hk => hk.2) (.int .i64 t155)) (fun _ hk => hk.2) (.int .i64 t156)) (fun _ hk => trivial)⟩
                    have n1_ : Aside0 (Kd.R k27 27 (((((((w34.setCell ⟨gb158, 0, none⟩ (.int .i64 t146)).setCell ⟨gb158, 1, none⟩ (.int .i64 t147)).setCell ⟨gb158, 2, none⟩ (.string t148)).setCell ⟨gb158, 3, none⟩ (.slice Ao37 t149.length co37)).setCell ⟨gb158, 4, none⟩ (.slice Ao38 t152.length co38)).setCell ⟨gb159, 0, none⟩ (.int .i64 t155)).setCell ⟨gb159, 1, none⟩ (.int .i64 t156)) w.heap.size (fun k_ => some k_ ≠ (.slice Ao37 t149.length co37 : Value).ownBlock ∧ k_ ≠ gb158) (.slice Ao38 t152.length co38) t152) := ⟨by (with_reducible repeat (first | apply Kd.R_alloc | apply Kd.R_drewN | apply Kd.R_drew)); exact Kd.R_mono (Kd.R_far (p := ⟨gb159, 1, none⟩) (Kd.R_far (p := ⟨gb159, 0, none⟩) (Kd.R_far (p := ⟨gb158, 4, none⟩) (Kd.R_far (p := ⟨gb158, 3, none⟩) (Kd.R_far (p := ⟨gb158, 2, none⟩) (Kd.R_far (p := ⟨gb158, 1, none⟩) (Kd.R_far (p := ⟨gb158, 0, none⟩) (Kd.R_types (Kd.R_mono HO154.out (fun k_ hk => (⟨hk, hk.2⟩ : _ ∧ k_ ≠ gb158))) BK159.out (by decide)) (fun _ hk => hk.1.2) (.int .i64 t146)) (fun _ hk => hk.1.2) (.int .i64 t147)) (fun _ hk => hk.1.2) (.string t148)) (fun _ hk => hk.1.2) (.slice Ao37 t149.length co37)) (fun _ hk => hk.1.2) (.slice Ao38 t152.length co38)) (fun _ hk => hk.2) (.int .i64 t155)) (fun _ hk => hk.2) (.int .i64 t156)) (fun _ hk => ⟨hk.1.1.1, hk.1.1.2⟩)⟩
                    have n2_ : Aside0 ((((((((w34.setCell ⟨gb158, 0, none⟩ (.int .i64 t146)).setCell ⟨gb158, 1, none⟩ (.int .i64 t147)).setCell ⟨gb158, 2, none⟩ (.string t148)).setCell ⟨gb158, 3, none⟩ (.slice Ao37 t149.length co37)).setCell ⟨gb158, 4, none⟩ (.slice Ao38 t152.length co38)).setCell ⟨gb159, 0, none⟩ (.int .i64 t155)).setCell ⟨gb159, 1, none⟩ (.int .i64 t156)).heap[gb158]? = some (.cells #[.int .i64 t146, .int .i64 t147, .string t148, .slice Ao37 t149.length co37, .slice Ao38 t152.length co38] 27 (0, 0))) := ⟨by (with_reducible repeat (first | refine blk_drewN ?_ _ | refine blk_drew ?_ | refine blk_alloc ?_ _)); refine blk_far ?_ NB158_159.out _; (with_reducible repeat (first | refine blk_drewN ?_ _ | refine blk_drew ?_ | refine blk_alloc ?_ _)); refine blk_far ?_ NB158_159.out _; (with_reducible repeat (first | refine blk_drewN ?_ _ | refine blk_drew ?_ | refine blk_alloc ?_ _)); refine blk_put (cs := #[.int .i64 t146, .int .i64 t147, .string t148, .slice Ao37 t149.length co37, .slice none 0 0]) ?_ 4 _ rfl; (with_reducible repeat (first | refine blk_drewN ?_ _ | refine blk_drew ?_ | refine blk_alloc ?_ _)); refine blk_put (cs := #[.int .i64 t146, .int .i64 t147, .string t148, .slice none 0 0, .slice none 0 0]) ?_ 3 _ rfl; (with_reducible repeat (first | refine blk_drewN ?_ _ | refine blk_drew ?_ | refine blk_alloc ?_ _)); refine blk_put (cs := #[.int .i64 t146, .int .i64 t147, .string (⟨#[]⟩ : ByteArray), .slice none 0 0, .slice none 0 0]) ?_ 2 _ rfl; (with_reducible repeat (first | refine blk_drewN ?_ _ | refine blk_drew ?_ | refine blk_alloc ?_ _)); refine blk_put (cs := #[.int .i64 t146, .int .i64 0, .string (⟨#[]⟩ : ByteArray), .slice none 0 0, .slice none 0 0]) ?_ 1 _ rfl; (with_reducible repeat (first | refine blk_drewN ?_ _ | refine blk_drew ?_ | refine blk_alloc ?_ _)); refine blk_put (cs := #[.int .i64 0, .int .i64 0, .string (⟨#[]⟩ : ByteArray), .slice none 0 0, .slice none 0 0]) ?_ 0 _ rfl; (with_reducible repeat (first | refine blk_drewN ?_ _ | refine blk_drew ?_ | refine blk_alloc ?_ _)); exact BK158.out⟩
                    have n3_ : Aside0 ((((((((w34.setCell ⟨gb158, 0, none⟩ (.int .i64 t146)).setCell ⟨gb158, 1, none⟩ (.int .i64 t147)).setCell ⟨gb158, 2, none⟩ (.string t148)).setCell ⟨gb158, 3, none⟩ (.slice Ao37 t149.length co37)).setCell ⟨gb158, 4, none⟩ (.slice Ao38 t152.length co38)).setCell ⟨gb159, 0, none⟩ (.int .i64 t155)).setCell ⟨gb159, 1, none⟩ (.int .i64 t156)).heap[gb159]? = some (.cells #[.int .i64 t155, .int .i64 t156] 29 (0, 0))) := ⟨by (with_reducible repeat (first | refine blk_drewN ?_ _ | refine blk_drew ?_ | refine blk_alloc ?_ _)); refine blk_put (cs := #[.int .i64 t155, .int .i64 0]) ?_ 1 _ rfl; (with_reducible repeat (first | refine blk_drewN ?_ _ | refine blk_drew ?_ | refine blk_alloc ?_ _)); refine blk_put (cs := #[.int .i64 0, .int .i64 0]) ?_ 0 _ rfl; (with_reducible repeat (first | refine blk_drewN ?_ _ | refine blk_drew ?_ | refine blk_alloc ?_ _)); refine blk_far ?_ NB159_158.out _; (with_reducible repeat (first | refine blk_drewN ?_ _ | refine blk_drew ?_ | refine blk_alloc ?_ _)); refine blk_far ?_ NB159_158.out _; (with_reducible repeat (first | refine blk_drewN ?_ _ | refine blk_drew ?_ | refine blk_alloc ?_ _)); refine blk_far ?_ NB159_158.out _; (with_reducible repeat (first | refine blk_drewN ?_ _ | refine blk_drew ?_ | refine blk_alloc ?_ _)); refine blk_far ?_ NB159_158.out _; (with_reducible repeat (first | refine blk_drewN ?_ _ | refine blk_drew ?_ | refine blk_alloc ?_ _)); refine blk_far ?_ NB159_158.out _; (with_reducible repeat (first | refine blk_drewN ?_ _ | refine blk_drew ?_ | refine blk_alloc ?_ _)); exact BK159.out⟩
                    have n4_ : Aside0 (Below w.heap.size w (((((((w34.setCell ⟨gb158, 0, none⟩ (.int .i64 t146)).setCell ⟨gb158, 1, none⟩ (.int .i64 t147)).setCell ⟨gb158, 2, none⟩ (.string t148)).setCell ⟨gb158, 3, none⟩ (.slice Ao37 t149.length co37)).setCell ⟨gb158, 4, none⟩ (.slice Ao38 t152.length co38)).setCell ⟨gb159, 0, none⟩ (.int .i64 t155)).setCell ⟨gb159, 1, none⟩ (.int .i64 t156))) := ⟨by repeat (first | (with_reducible first | exact HB.out | apply below_alloc | apply pw_below_drewN | apply below_drew1 | refine below_set ?_ GE158.out | refine below_set ?_ GE159.out) | exact HB.out)⟩
                    (try clear HO151)
                    (try clear HO154)
                    (try clear BK158)
                    (try clear BK159)
                    (try clear HB)
                    generalize (((((((w34.setCell ⟨gb158, 0, none⟩ (.int .i64 t146)).setCell ⟨gb158, 1, none⟩ (.int .i64 t147)).setCell ⟨gb158, 2, none⟩ (.string t148)).setCell ⟨gb158, 3, none⟩ (.slice Ao37 t149.length co37)).setCell ⟨gb158, 4, none⟩ (.slice Ao38 t152.length co38)).setCell ⟨gb159, 0, none⟩ (.int .i64 t155)).setCell ⟨gb159, 1, none⟩ (.int .i64 t156)) = w40 at n0_ n1_ n2_ n3_ n4_ ⊢
                    have HO151 := n0_
                    have HO154 := n1_
                    have BK158 := n2_
                    have BK159 := n3_
                    have HB := n4_
                    clear n0_ n1_ n2_ n3_ n4_
                    have n0_ := Aside0.mk (Kd.R_drew HO151.out)
                    have n1_ := Aside0.mk (Kd.R_drew HO154.out)
                    have n2_ := Aside0.mk (blk_drew BK158.out)
                    have n3_ := Aside0.mk (blk_drew BK159.out)
                    have n4_ := Aside0.mk (below_drew1 HB.out)
                    clear HO151
                    clear HO154
                    clear BK158
                    clear BK159
                    clear HB
                    have HO151 := n0_
                    have HO154 := n1_
                    have BK158 := n2_
                    have BK159 := n3_
                    have HB := n4_
                    clear n0_ n1_ n2_ n3_ n4_
                    refine start_ (n := 15) (S := fun w' => w'.cell? ⟨gb159, 0, none⟩ = some (.int .i64 t155) ∧ w'.cell? ⟨gb159, 1, none⟩ = some (.int .i64 t156) ∧ w'.cell? ⟨gb158, 0, none⟩ = some (.int .i64 t146) ∧ w'.cell? ⟨gb158, 1, none⟩ = some (.int .i64 t147) ∧ w'.cell? ⟨gb158, 2, none⟩ = some (.string t148) ∧ w'.cell? ⟨gb158, 3, none⟩ = some (.slice Ao37 t149.length co37) ∧ w'.cell? ⟨gb158, 4, none⟩ = some (.slice Ao38 t152.length co38)) (ds := []) #[false, false, false, false, false, false, false, false, false, false, false, false, false, false, false] (by kernel_rfl) rfl rfl ⟨(blk_cell BK159.out 0).trans rfl, (blk_cell BK159.out 1).trans rfl, (blk_cell BK158.out 0).trans rfl, (blk_cell BK158.out 1).trans rfl, (blk_cell BK158.out 2).trans rfl, (blk_cell BK158.out 3).trans rfl, (blk_cell BK158.out 4).trans rfl⟩ (fun hHeld => ?_); refine with_tabW transhumancelaw5_BraceDeep.tab17 transhumancelaw5_BraceDeep.bits17 (fun HT_ HW_ => ?_)
                    generalize w40.drew = w41 at HO151 HO154 BK158 BK159 HB hHeld ⊢
                    refine pure_ (i := 0) (N := some 54) (v := ?_) (a' := ?_) #[true, false, false, false, false, false, false, false, false, false, false, false, false, false, false] rfl rfl (any_of HT_.out (by kernel_rfl)) (fun _ _ _ h => h) (Or.inl ⟨by rfl, ?_⟩) ?_ ?_
                    rotate_left
                    · intro w'
                      go_simp
                      with_reducible rfl
                    rotate_left
                    · simp only [Act.put, List.setIfInBounds_toArray, List.set_cons_zero, List.set_cons_succ, i64_w, i32_w]
                      rfl
                    refine pure_ (i := 1) (N := some 55) (v := ?_) (a' := ?_) #[true, true, false, false, false, false, false, false, false, false, false, false, false, false, false] rfl rfl (any_of HT_.out (by kernel_rfl)) (fun _ _ _ h => h) (Or.inl ⟨by rfl, ?_⟩) ?_ ?_
                    rotate_left
                    · intro w'
                      go_simp
                      with_reducible rfl
                    rotate_left
                    · simp only [Act.put, List.setIfInBounds_toArray, List.set_cons_zero, List.set_cons_succ, i64_w, i32_w]
                      rfl
                    refine pure_ (i := 2) (N := some 56) (v := ?_) (a' := ?_) #[true, true, true, false, false, false, false, false, false, false, false, false, false, false, false] rfl rfl (any_of HT_.out (by kernel_rfl)) (fun _ _ _ h => h) (Or.inl ⟨by rfl, ?_⟩) ?_ ?_
                    rotate_left
                    · intro w'
                      go_simp
                      with_reducible rfl
                    rotate_left
                    · simp only [Act.put, List.setIfInBounds_toArray, List.set_cons_zero, List.set_cons_succ, i64_w, i32_w]
                      rfl
                    refine pure_ (i := 4) (N := some 58) (v := ?_) (a' := ?_) #[true, true, true, false, true, false, false, false, false, false, false, false, false, false, false] rfl rfl (any_of HT_.out (by kernel_rfl)) (fun _ _ _ h => h) (Or.inl ⟨by rfl, ?_⟩) ?_ ?_
                    rotate_left
                    · intro w'
                      go_simp
                      with_reducible rfl
                    rotate_left
                    · simp only [Act.put, List.setIfInBounds_toArray, List.set_cons_zero, List.set_cons_succ, i64_w, i32_w]
                      rfl
                    refine pure_ (i := 5) (N := some 59) (v := ?_) (a' := ?_) #[true, true, true, false, true, true, false, false, false, false, false, false, false, false, false] rfl rfl (any_of HT_.out (by kernel_rfl)) (fun _ _ _ h => h) (Or.inl ⟨by rfl, ?_⟩) ?_ ?_
                    rotate_left
                    · intro w'
                      go_simp
                      with_reducible rfl
                    rotate_left
                    · simp only [Act.put, List.setIfInBounds_toArray, List.set_cons_zero, List.set_cons_succ, i64_w, i32_w]
                      rfl
                    refine take_ (i := 3) (N := some 57) (v := ?_) (a' := ?_) #[true, true, true, true, true, true, false, false, false, false, false, false, false, false, false] rfl rfl (take_ofW HT_.out HW_.out (by kernel_rfl)) (fun _ _ _ h => h) (Or.inl ⟨by rfl, ?_⟩) hHeld ?_ ?_
                    rotate_left
                    · rintro w' ⟨s0, s1, s2, s3, s4, s5, s6⟩
                      go_simp
                      with_reducible rfl
                    rotate_left
                    · simp only [Act.put, List.setIfInBounds_toArray, List.set_cons_zero, List.set_cons_succ, i64_w, i32_w]
                      rfl
                    refine one_ (i := 6) (N := some 60) #[true, true, true, true, true, true, true, false, false, false, false, false, false, false, false] rfl rfl (one_of HT_.out (by kernel_rfl)) (by decide) (fun K hK => ?_)
                    refine goes_ Tryd.func9 (by kernel_rfl) rfl #[.string ((x6_1 ++ (⟨#[49]⟩ : ByteArray)) ++ x7_1), .int .i64 x8_1] (by rfl) rfl rfl (by (try simp only [List.map_toArray, List.map_cons, List.map_nil]); first | done | rfl | (simp only [List.length_drop, List.length_take]; rfl)) ?_
                    with_reducible refine (transhumanceref1_Place.calls k1 ((x6_1 ++ (⟨#[49]⟩ : ByteArray)) ++ x7_1) x8_1 t160 t161 _ A30.out).mono ?_
                    rintro e w42 ⟨rfl, hb⟩
                    refine ⟨_, rfl, ?_⟩
                    have n0_ := Aside0.mk (Kd.R_below (by (with_reducible repeat (first | apply Kd.R_alloc | apply Kd.R_drewN | apply Kd.R_drew)); exact HO151.out) hb)
                    have n1_ := Aside0.mk (Kd.R_below (by (with_reducible repeat (first | apply Kd.R_alloc | apply Kd.R_drewN | apply Kd.R_drew)); exact HO154.out) hb)
                    have n2_ := Aside0.mk (blk_below (g := gb158) (o := .cells #[.int .i64 t146, .int .i64 t147, .string t148, .slice Ao37 t149.length co37, .slice Ao38 t152.length co38] 27 (0, 0)) (by (with_reducible repeat (first | refine blk_drewN ?_ _ | refine blk_drew ?_ | refine blk_alloc ?_ _)); exact BK158.out) hb)
                    have n3_ := Aside0.mk (blk_below (g := gb159) (o := .cells #[.int .i64 t155, .int .i64 t156] 29 (0, 0)) (by (with_reducible repeat (first | refine blk_drewN ?_ _ | refine blk_drew ?_ | refine blk_alloc ?_ _)); exact BK159.out) hb)
                    have n4_ := Aside0.mk (below_step (by repeat (first | (with_reducible first | exact HB.out | apply below_alloc | apply pw_below_drewN | apply below_drew1 | refine below_set ?_ GE158.out | refine below_set ?_ GE159.out) | exact HB.out)) hb)
                    clear HO151
                    clear HO154
                    clear BK158
                    clear BK159
                    clear HB
                    have HO151 := n0_
                    have HO154 := n1_
                    have BK158 := n2_
                    have BK159 := n3_
                    have HB := n4_
                    clear n0_ n1_ n2_ n3_ n4_
                    (try clear hb)
                    (try clear hb2)
                    (try clear hk)
                    (try clear hi)
                    refine hK.out _ _ ⟨(blk_cell BK159.out 0).trans rfl, (blk_cell BK159.out 1).trans rfl, (blk_cell BK158.out 0).trans rfl, (blk_cell BK158.out 1).trans rfl, (blk_cell BK158.out 2).trans rfl, (blk_cell BK158.out 3).trans rfl, (blk_cell BK158.out 4).trans rfl⟩ (fun hHeld => ?_)
                    clear hK K
                    refine norm_ (a' := ?_) ?_ ?_
                    rotate_left
                    · show Act.put _ (some 60) _ = _
                      simp only [Act.put, List.setIfInBounds_toArray, List.set_cons_zero, List.set_cons_succ, i64_w, i32_w]
                      rfl
                    refine pure_ (i := 7) (N := some 61) (v := ?_) (a' := ?_) #[true, true, true, true, true, true, true, true, false, false, false, false, false, false, false] rfl rfl (any_of HT_.out (by kernel_rfl)) (fun _ _ _ h => h) (Or.inl ⟨by rfl, ?_⟩) ?_ ?_
                    rotate_left
                    · intro w'
                      go_simp
                      with_reducible rfl
                    rotate_left
                    · simp only [Act.put, List.setIfInBounds_toArray, List.set_cons_zero, List.set_cons_succ, i64_w, i32_w]
                      rfl
                    refine pure_ (i := 8) (N := some 62) (v := ?_) (a' := ?_) #[true, true, true, true, true, true, true, true, true, false, false, false, false, false, false] rfl rfl (any_of HT_.out (by kernel_rfl)) (fun _ _ _ h => h) (Or.inl ⟨by rfl, ?_⟩) ?_ ?_
                    rotate_left
                    · intro w'
                      go_simp
                      with_reducible rfl
                    rotate_left
                    · simp only [Act.put, List.setIfInBounds_toArray, List.set_cons_zero, List.set_cons_succ, i64_w, i32_w]
                      rfl
                    refine pure_ (i := 9) (N := some 63) (v := ?_) (a' := ?_) #[true, true, true, true, true, true, true, true, true, true, false, false, false, false, false] rfl rfl (any_of HT_.out (by kernel_rfl)) (fun _ _ _ h => h) (Or.inl ⟨by rfl, ?_⟩) ?_ ?_
                    rotate_left
                    · intro w'
                      go_simp
                      with_reducible rfl
                    rotate_left
                    · simp only [Act.put, List.setIfInBounds_toArray, List.set_cons_zero, List.set_cons_succ, i64_w, i32_w]
                      rfl
                    refine pure_ (i := 10) (N := some 64) (v := ?_) (a' := ?_) #[true, true, true, true, true, true, true, true, true, true, true, false, false, false, false] rfl rfl (any_of HT_.out (by kernel_rfl)) (fun _ _ _ h => h) (Or.inl ⟨by rfl, ?_⟩) ?_ ?_
                    rotate_left
                    · intro w'
                      go_simp
                      with_reducible rfl
                    rotate_left
                    · simp only [Act.put, List.setIfInBounds_toArray, List.set_cons_zero, List.set_cons_succ, i64_w, i32_w]
                      rfl
                    refine take_ (i := 11) (N := some 65) (v := ?_) (a' := ?_) #[true, true, true, true, true, true, true, true, true, true, true, true, false, false, false] rfl rfl (take_ofW HT_.out HW_.out (by kernel_rfl)) (fun _ _ _ h => h) (Or.inl ⟨by rfl, ?_⟩) hHeld ?_ ?_
                    rotate_left
                    · rintro w' ⟨s0, s1, s2, s3, s4, s5, s6⟩
                      go_simp
                      with_reducible rfl
                    rotate_left
                    · simp only [Act.put, List.setIfInBounds_toArray, List.set_cons_zero, List.set_cons_succ, i64_w, i32_w]
                      rfl
                    refine pure_ (i := 12) (N := some 66) (v := ?_) (a' := ?_) #[true, true, true, true, true, true, true, true, true, true, true, true, true, false, false] rfl rfl (any_of HT_.out (by kernel_rfl)) (fun _ _ _ h => h) (Or.inl ⟨by rfl, ?_⟩) ?_ ?_
                    rotate_left
                    · intro w'
                      go_simp
                      with_reducible rfl
                    rotate_left
                    · simp only [Act.put, List.setIfInBounds_toArray, List.set_cons_zero, List.set_cons_succ, i64_w, i32_w]
                      rfl
                    refine pure_ (i := 13) (N := some 67) (v := ?_) (a' := ?_) #[true, true, true, true, true, true, true, true, true, true, true, true, true, true, false] rfl rfl (any_of HT_.out (by kernel_rfl)) (fun _ _ _ h => h) (Or.inl ⟨by rfl, ?_⟩) ?_ ?_
                    rotate_left
                    · intro w'
                      go_simp
                      with_reducible rfl
                    rotate_left
                    · simp only [Act.put, List.setIfInBounds_toArray, List.set_cons_zero, List.set_cons_succ, i64_w, i32_w]
                      rfl
                    refine pure_ (i := 14) (N := some 4) (v := ?_) (a' := ?_) #[true, true, true, true, true, true, true, true, true, true, true, true, true, true, true] rfl rfl (any_of HT_.out (by kernel_rfl)) (fun _ _ _ h => h) (Or.inl ⟨by rfl, ?_⟩) ?_ ?_
                    rotate_left
                    · intro w'
                      go_simp
                      with_reducible rfl
                    rotate_left
                    · simp only [Act.put, List.setIfInBounds_toArray, List.set_cons_zero, List.set_cons_succ, i64_w, i32_w]
                      rfl
                    refine done_ (done_of HT_.out (by kernel_rfl)) ?_
                    try go_wp2
                    go_ret
                    exact ⟨by first | rfl | (simp [errW_none, errW_some] <;> rfl) | (simp [*, errW_none, errW_some] <;> rfl), by repeat (first | (with_reducible first | exact HB.out | apply below_alloc | apply pw_below_drewN | apply below_drew1 | refine below_set ?_ GE158.out | refine below_set ?_ GE159.out) | exact HB.out)⟩
                  · rw [if_neg c31] at H
                    have c31b0 : (t155 == t160 && (t156 == t161)) = false := by simpa using c31
                    (try (have c31b1 : decide (t155 = t160 && (t156 == t161)) = false := by simpa using c31))
                    (try (have c31b2 : (t155 == t160 && (t156 == t161)) = false := by simpa using c31))
                    (try (have c31b3 : ¬ (t155 = t160 && (t156 == t161)) := by simpa using c31))
                    clear c31
                    obtain rfl := Option.some.inj H
                    try go_wp2_with (first | ((with_reducible refine gate_callee (f := 8) rfl ?_); refine goesL_ (some 48) rfl rfl Tryd.func8 (by kernel_rfl) rfl #[.string ((x6_1 ++ (⟨#[49]⟩ : ByteArray)) ++ x7_1)] rfl (by (try simp only [List.map_toArray, List.map_cons, List.map_nil]); first | done | rfl | (simp only [List.length_drop, List.length_take]; rfl)) ?_; (with_reducible refine (brace_Parse.calls ((x6_1 ++ (⟨#[49]⟩ : ByteArray)) ++ x7_1) t146 t147 t148 t149 t152 t155 t156 t157 _ A27.out).mono ?_); rintro e w43 ⟨v150, v153, rfl, ho0, ho1, hb⟩; refine ⟨_, rfl, ?_⟩; have n0_ := Aside0.mk (Kd.R_lower ho0 (below_size (by repeat (first | (with_reducible first | exact HB.out | apply below_alloc | apply pw_below_drewN | apply below_drew1) | exact HB.out)))); have n1_ := Aside0.mk (Kd.R_lower ho1 (below_size (by repeat (first | (with_reducible first | exact HB.out | apply below_alloc | apply pw_below_drewN | apply below_drew1) | exact HB.out)))); have n2_ := Aside0.mk (below_step (by repeat (first | (with_reducible first | exact HB.out | apply below_alloc | apply pw_below_drewN | apply below_drew1) | exact HB.out)) hb); clear HB; have HO151 := n0_; have HO154 := n1_; have HB := n2_; clear n0_ n1_ n2_; (try clear hb); (try clear hb2); (try clear hk); (try clear hi); (try clear ho0); (try clear ho1)) | ((with_reducible refine gate_dst (N := 11) rfl ?_); refine box_event ?hg (N := 11) ?hd (cs := #[.int .i64 0, .int .i64 0, .string (⟨#[]⟩ : ByteArray), .slice none 0 0, .slice none 0 0]) (t := 27) ?hr ?_; (case hd => rfl); (case hg => rfl); (case hr => first | (go_simp; done) | (go_simp; rfl)); intro gb158 hg w44 hbox hb; have n0_ := Aside0.mk (Kd.R_below (by (with_reducible repeat (first | apply Kd.R_alloc | apply Kd.R_drewN | apply Kd.R_drew)); exact HO151.out) hb); have n1_ := Aside0.mk (Kd.R_below (Kd.R_elderB (by (with_reducible repeat (first | apply Kd.R_alloc | apply Kd.R_drewN | apply Kd.R_drew)); exact HO154.out) gb158 (Nat.le_of_eq hg.symm)) hb); have n2_ := Aside0.mk (below_step (by repeat (first | (with_reducible first | exact HB.out | apply below_alloc | apply pw_below_drewN | apply below_drew1) | exact HB.out)) hb); have n3_ := Aside0.mk (hbox); have n4_ := Aside0.mk ((by rw [hg]; exact (below_size (by repeat (first | (with_reducible first | exact HB.out | apply below_alloc | apply pw_below_drewN | apply below_drew1) | exact HB.out))) : w.heap.size ≤ gb158)); have n5_ := Aside0.mk ((by rw [hg]; exact (below_size (by repeat (first | (with_reducible first | exact HB.out | apply below_alloc | apply pw_below_drewN | apply below_drew1) | exact HB.out))) : w.heap.size ≤ gb158)); clear HO151; clear HO154; clear HB; have HO151 := n0_; have HO154 := n1_; have HB := n2_; have BK158 := n3_; have GW158 := n4_; have GE158 := n5_; clear n0_ n1_ n2_ n3_ n4_ n5_; clear hb hbox hg) | ((with_reducible refine gate_dst (N := 12) rfl ?_); refine box_event ?hg (N := 12) ?hd (cs := #[.int .i64 0, .int .i64 0]) (t := 29) ?hr ?_; (case hd => rfl); (case hg => rfl); (case hr => first | (go_simp; done) | (go_simp; rfl)); intro gb159 hg w45 hbox hb; have n0_ := Aside0.mk (Kd.R_below (by (with_reducible repeat (first | apply Kd.R_alloc | apply Kd.R_drewN | apply Kd.R_drew)); exact HO151.out) hb); have n1_ := Aside0.mk (Kd.R_below (by (with_reducible repeat (first | apply Kd.R_alloc | apply Kd.R_drewN | apply Kd.R_drew)); exact HO154.out) hb); have n2_ := Aside0.mk (blk_below (g := gb158) (o := .cells #[.int .i64 0, .int .i64 0, .string (⟨#[]⟩ : ByteArray), .slice none 0 0, .slice none 0 0] 27 (0, 0)) (by (with_reducible repeat (first | refine blk_drewN ?_ _ | refine blk_drew ?_ | refine blk_alloc ?_ _)); exact BK158.out) hb); have n3_ := Aside0.mk (below_step (by repeat (first | (with_reducible first | exact HB.out | apply below_alloc | apply pw_below_drewN | apply below_drew1 | refine below_set ?_ GE158.out) | exact HB.out)) hb); have n4_ := Aside0.mk (hbox); have n5_ := Aside0.mk ((by rw [hg]; exact (below_size (by repeat (first | (with_reducible first | exact HB.out | apply below_alloc | apply pw_below_drewN | apply below_drew1 | refine below_set ?_ GE158.out) | exact HB.out))) : w.heap.size ≤ gb159)); have n6_ := Aside0.mk ((by rw [hg]; exact (below_size (by repeat (first | (with_reducible first | exact HB.out | apply below_alloc | apply pw_below_drewN | apply below_drew1 | refine below_set ?_ GE158.out) | exact HB.out))) : w.heap.size ≤ gb159)); have n7_ := Aside0.mk ((by rw [hg]; exact Nat.ne_of_lt (blk_lt (g := gb158) (o := .cells #[.int .i64 0, .int .i64 0, .string (⟨#[]⟩ : ByteArray), .slice none 0 0, .slice none 0 0] 27 (0, 0)) (by (with_reducible repeat (first | refine blk_drewN ?_ _ | refine blk_drew ?_ | refine blk_alloc ?_ _)); exact BK158.out)) : gb158 ≠ gb159)); have n8_ := Aside0.mk ((by rw [hg]; exact Nat.ne_of_gt (blk_lt (g := gb158) (o := .cells #[.int .i64 0, .int .i64 0, .string (⟨#[]⟩ : ByteArray), .slice none 0 0, .slice none 0 0] 27 (0, 0)) (by (with_reducible repeat (first | refine blk_drewN ?_ _ | refine blk_drew ?_ | refine blk_alloc ?_ _)); exact BK158.out)) : gb159 ≠ gb158)); clear HO151; clear HO154; clear BK158; clear HB; have HO151 := n0_; have HO154 := n1_; have BK158 := n2_; have HB := n3_; have BK159 := n4_; have GW159 := n5_; have GE159 := n6_; have NB158_159 := n7_; have NB159_158 := n8_; clear n0_ n1_ n2_ n3_ n4_ n5_ n6_ n7_ n8_; clear hb hbox hg; have hnb46 := NB158_159.out; have hnc46 := NB159_158.out; have hcz47_0 : w45.cell? ⟨gb158, 0, none⟩ = some (.int .i64 0) := (blk_cell BK158.out 0).trans rfl; have hcz47_1 : w45.cell? ⟨gb158, 1, none⟩ = some (.int .i64 0) := (blk_cell BK158.out 1).trans rfl; have hcz47_2 : w45.cell? ⟨gb158, 2, none⟩ = some (.string (⟨#[]⟩ : ByteArray)) := (blk_cell BK158.out 2).trans rfl; have hcz47_3 : w45.cell? ⟨gb158, 3, none⟩ = some (.slice none 0 0) := (blk_cell BK158.out 3).trans rfl; have hcz47_4 : w45.cell? ⟨gb158, 4, none⟩ = some (.slice none 0 0) := (blk_cell BK158.out 4).trans rfl; have hfz47_0 := blk_frozen BK158.out 0; have hfz47_1 := blk_frozen BK158.out 1; have hfz47_2 := blk_frozen BK158.out 2; have hfz47_3 := blk_frozen BK158.out 3; have hfz47_4 := blk_frozen BK158.out 4; obtain ⟨Ao48, co48, eo48⟩ := Kd.R_slice HO151.out; subst eo48; obtain ⟨Ao49, co49, eo49⟩ := Kd.R_slice HO154.out; subst eo49; have hcz50_0 : w45.cell? ⟨gb159, 0, none⟩ = some (.int .i64 0) := (blk_cell BK159.out 0).trans rfl; have hcz50_1 : w45.cell? ⟨gb159, 1, none⟩ = some (.int .i64 0) := (blk_cell BK159.out 1).trans rfl; have hfz50_0 := blk_frozen BK159.out 0; have hfz50_1 := blk_frozen BK159.out 1))
                    have n0_ : Aside0 (Kd.R Kd.string 9 (((((((w45.setCell ⟨gb158, 0, none⟩ (.int .i64 t146)).setCell ⟨gb158, 1, none⟩ (.int .i64 t147)).setCell ⟨gb158, 2, none⟩ (.string t148)).setCell ⟨gb158, 3, none⟩ (.slice Ao48 t149.length co48)).setCell ⟨gb158, 4, none⟩ (.slice Ao49 t152.length co49)).setCell ⟨gb159, 0, none⟩ (.int .i64 t155)).setCell ⟨gb159, 1, none⟩ (.int .i64 t156)) w.heap.size (fun _ => True) (.slice Ao48 t149.length co48) t149) := ⟨by (with_reducible repeat (first | apply Kd.R_alloc | apply Kd.R_drewN | apply Kd.R_drew)); exact Kd.R_mono (Kd.R_far (p := ⟨gb159, 1, none⟩) (Kd.R_far (p := ⟨gb159, 0, none⟩) (Kd.R_far (p := ⟨gb158, 4, none⟩) (Kd.R_far (p := ⟨gb158, 3, none⟩) (Kd.R_far (p := ⟨gb158, 2, none⟩) (Kd.R_far (p := ⟨gb158, 1, none⟩) (Kd.R_far (p := ⟨gb158, 0, none⟩) (Kd.R_types (Kd.R_types HO151.out BK158.out (by decide)) BK159.out (by decide)) (fun _ hk => hk.1.2) (.int .i64 t146)) (fun _ hk => hk.1.2) (.int .i64 t147)) (fun _ hk => hk.1.2) (.string t148)) (fun _ hk => hk.1.2) (.slice Ao48 t149.length co48)) (fun _ hk => hk.1.2) (.slice Ao49 t152.length co49)) (fun _ hk => hk.2) (.int .i64 t155)) (fun _ hk => hk.2) (.int .i64 t156)) (fun _ hk => trivial)⟩
                    have n1_ : Aside0 (Kd.R k27 27 (((((((w45.setCell ⟨gb158, 0, none⟩ (.int .i64 t146)).setCell ⟨gb158, 1, none⟩ (.int .i64 t147)).setCell ⟨gb158, 2, none⟩ (.string t148)).setCell ⟨gb158, 3, none⟩ (.slice Ao48 t149.length co48)).setCell ⟨gb158, 4, none⟩ (.slice Ao49 t152.length co49)).setCell ⟨gb159, 0, none⟩ (.int .i64 t155)).setCell ⟨gb159, 1, none⟩ (.int .i64 t156)) w.heap.size (fun k_ => some k_ ≠ (.slice Ao48 t149.length co48 : Value).ownBlock ∧ k_ ≠ gb158) (.slice Ao49 t152.length co49) t152) := ⟨by (with_reducible repeat (first | apply Kd.R_alloc | apply Kd.R_drewN | apply Kd.R_drew)); exact Kd.R_mono (Kd.R_far (p := ⟨gb159, 1, none⟩) (Kd.R_far (p := ⟨gb159, 0, none⟩) (Kd.R_far (p := ⟨gb158, 4, none⟩) (Kd.R_far (p := ⟨gb158, 3, none⟩) (Kd.R_far (p := ⟨gb158, 2, none⟩) (Kd.R_far (p := ⟨gb158, 1, none⟩) (Kd.R_far (p := ⟨gb158, 0, none⟩) (Kd.R_types (Kd.R_mono HO154.out (fun k_ hk => (⟨hk, hk.2⟩ : _ ∧ k_ ≠ gb158))) BK159.out (by decide)) (fun _ hk => hk.1.2) (.int .i64 t146)) (fun _ hk => hk.1.2) (.int .i64 t147)) (fun _ hk => hk.1.2) (.string t148)) (fun _ hk => hk.1.2) (.slice Ao48 t149.length co48)) (fun _ hk => hk.1.2) (.slice Ao49 t152.length co49)) (fun _ hk => hk.2) (.int .i64 t155)) (fun _ hk => hk.2) (.int .i64 t156)) (fun _ hk => ⟨hk.1.1.1, hk.1.1.2⟩)⟩
                    have n2_ : Aside0 ((((((((w45.setCell ⟨gb158, 0, none⟩ (.int .i64 t146)).setCell ⟨gb158, 1, none⟩ (.int .i64 t147)).setCell ⟨gb158, 2, none⟩ (.string t148)).setCell ⟨gb158, 3, none⟩ (.slice Ao48 t149.length co48)).setCell ⟨gb158, 4, none⟩ (.slice Ao49 t152.length co49)).setCell ⟨gb159, 0, none⟩ (.int .i64 t155)).setCell ⟨gb159, 1, none⟩ (.int .i64 t156)).heap[gb158]? = some (.cells #[.int .i64 t146, .int .i64 t147, .string t148, .slice Ao48 t149.length co48, .slice Ao49 t152.length co49] 27 (0, 0))) := ⟨by (with_reducible repeat (first | refine blk_drewN ?_ _ | refine blk_drew ?_ | refine blk_alloc ?_ _)); refine blk_far ?_ NB158_159.out _; (with_reducible repeat (first | refine blk_drewN ?_ _ | refine blk_drew ?_ | refine blk_alloc ?_ _)); refine blk_far ?_ NB158_159.out _; (with_reducible repeat (first | refine blk_drewN ?_ _ | refine blk_drew ?_ | refine blk_alloc ?_ _)); refine blk_put (cs := #[.int .i64 t146, .int .i64 t147, .string t148, .slice Ao48 t149.length co48, .slice none 0 0]) ?_ 4 _ rfl; (with_reducible repeat (first | refine blk_drewN ?_ _ | refine blk_drew ?_ | refine blk_alloc ?_ _)); refine blk_put (cs := #[.int .i64 t146, .int .i64 t147, .string t148, .slice none 0 0, .slice none 0 0]) ?_ 3 _ rfl; (with_reducible repeat (first | refine blk_drewN ?_ _ | refine blk_drew ?_ | refine blk_alloc ?_ _)); refine blk_put (cs := #[.int .i64 t146, .int .i64 t147, .string (⟨#[]⟩ : ByteArray), .slice none 0 0, .slice none 0 0]) ?_ 2 _ rfl; (with_reducible repeat (first | refine blk_drewN ?_ _ | refine blk_drew ?_ | refine blk_alloc ?_ _)); refine blk_put (cs := #[.int .i64 t146, .int .i64 0, .string (⟨#[]⟩ : ByteArray), .slice none 0 0, .slice none 0 0]) ?_ 1 _ rfl; (with_reducible repeat (first | refine blk_drewN ?_ _ | refine blk_drew ?_ | refine blk_alloc ?_ _)); refine blk_put (cs := #[.int .i64 0, .int .i64 0, .string (⟨#[]⟩ : ByteArray), .slice none 0 0, .slice none 0 0]) ?_ 0 _ rfl; (with_reducible repeat (first | refine blk_drewN ?_ _ | refine blk_drew ?_ | refine blk_alloc ?_ _)); exact BK158.out⟩
                    have n3_ : Aside0 ((((((((w45.setCell ⟨gb158, 0, none⟩ (.int .i64 t146)).setCell ⟨gb158, 1, none⟩ (.int .i64 t147)).setCell ⟨gb158, 2, none⟩ (.string t148)).setCell ⟨gb158, 3, none⟩ (.slice Ao48 t149.length co48)).setCell ⟨gb158, 4, none⟩ (.slice Ao49 t152.length co49)).setCell ⟨gb159, 0, none⟩ (.int .i64 t155)).setCell ⟨gb159, 1, none⟩ (.int .i64 t156)).heap[gb159]? = some (.cells #[.int .i64 t155, .int .i64 t156] 29 (0, 0))) := ⟨by (with_reducible repeat (first | refine blk_drewN ?_ _ | refine blk_drew ?_ | refine blk_alloc ?_ _)); refine blk_put (cs := #[.int .i64 t155, .int .i64 0]) ?_ 1 _ rfl; (with_reducible repeat (first | refine blk_drewN ?_ _ | refine blk_drew ?_ | refine blk_alloc ?_ _)); refine blk_put (cs := #[.int .i64 0, .int .i64 0]) ?_ 0 _ rfl; (with_reducible repeat (first | refine blk_drewN ?_ _ | refine blk_drew ?_ | refine blk_alloc ?_ _)); refine blk_far ?_ NB159_158.out _; (with_reducible repeat (first | refine blk_drewN ?_ _ | refine blk_drew ?_ | refine blk_alloc ?_ _)); refine blk_far ?_ NB159_158.out _; (with_reducible repeat (first | refine blk_drewN ?_ _ | refine blk_drew ?_ | refine blk_alloc ?_ _)); refine blk_far ?_ NB159_158.out _; (with_reducible repeat (first | refine blk_drewN ?_ _ | refine blk_drew ?_ | refine blk_alloc ?_ _)); refine blk_far ?_ NB159_158.out _; (with_reducible repeat (first | refine blk_drewN ?_ _ | refine blk_drew ?_ | refine blk_alloc ?_ _)); refine blk_far ?_ NB159_158.out _; (with_reducible repeat (first | refine blk_drewN ?_ _ | refine blk_drew ?_ | refine blk_alloc ?_ _)); exact BK159.out⟩
                    have n4_ : Aside0 (Below w.heap.size w (((((((w45.setCell ⟨gb158, 0, none⟩ (.int .i64 t146)).setCell ⟨gb158, 1, none⟩ (.int .i64 t147)).setCell ⟨gb158, 2, none⟩ (.string t148)).setCell ⟨gb158, 3, none⟩ (.slice Ao48 t149.length co48)).setCell ⟨gb158, 4, none⟩ (.slice Ao49 t152.length co49)).setCell ⟨gb159, 0, none⟩ (.int .i64 t155)).setCell ⟨gb159, 1, none⟩ (.int .i64 t156))) := ⟨by repeat (first | (with_reducible first | exact HB.out | apply below_alloc | apply pw_below_drewN | apply below_drew1 | refine below_set ?_ GE158.out | refine below_set ?_ GE159.out) | exact HB.out)⟩
                    (try clear HO151)
                    (try clear HO154)
                    (try clear BK158)
                    (try clear BK159)
                    (try clear HB)
                    generalize (((((((w45.setCell ⟨gb158, 0, none⟩ (.int .i64 t146)).setCell ⟨gb158, 1, none⟩ (.int .i64 t147)).setCell ⟨gb158, 2, none⟩ (.string t148)).setCell ⟨gb158, 3, none⟩ (.slice Ao48 t149.length co48)).setCell ⟨gb158, 4, none⟩ (.slice Ao49 t152.length co49)).setCell ⟨gb159, 0, none⟩ (.int .i64 t155)).setCell ⟨gb159, 1, none⟩ (.int .i64 t156)) = w51 at n0_ n1_ n2_ n3_ n4_ ⊢
                    have HO151 := n0_
                    have HO154 := n1_
                    have BK158 := n2_
                    have BK159 := n3_
                    have HB := n4_
                    clear n0_ n1_ n2_ n3_ n4_
                    have n0_ := Aside0.mk (Kd.R_drew HO151.out)
                    have n1_ := Aside0.mk (Kd.R_drew HO154.out)
                    have n2_ := Aside0.mk (blk_drew BK158.out)
                    have n3_ := Aside0.mk (blk_drew BK159.out)
                    have n4_ := Aside0.mk (below_drew1 HB.out)
                    clear HO151
                    clear HO154
                    clear BK158
                    clear BK159
                    clear HB
                    have HO151 := n0_
                    have HO154 := n1_
                    have BK158 := n2_
                    have BK159 := n3_
                    have HB := n4_
                    clear n0_ n1_ n2_ n3_ n4_
                    refine start_ (n := 15) (S := fun w' => w'.cell? ⟨gb159, 0, none⟩ = some (.int .i64 t155) ∧ w'.cell? ⟨gb159, 1, none⟩ = some (.int .i64 t156)) (ds := []) #[false, false, false, false, false, false, false, false, false, false, false, false, false, false, false] (by kernel_rfl) rfl rfl ⟨(blk_cell BK159.out 0).trans rfl, (blk_cell BK159.out 1).trans rfl⟩ (fun hHeld => ?_); refine with_tabW transhumancelaw5_BraceDeep.tab17 transhumancelaw5_BraceDeep.bits17 (fun HT_ HW_ => ?_)
                    generalize w51.drew = w52 at HO151 HO154 BK158 BK159 HB hHeld ⊢
                    refine pure_ (i := 0) (N := some 54) (v := ?_) (a' := ?_) #[true, false, false, false, false, false, false, false, false, false, false, false, false, false, false] rfl rfl (any_of HT_.out (by kernel_rfl)) (fun _ _ _ h => h) (Or.inl ⟨by rfl, ?_⟩) ?_ ?_
                    rotate_left
                    · intro w'
                      go_simp
                      with_reducible rfl
                    rotate_left
                    · simp only [Act.put, List.setIfInBounds_toArray, List.set_cons_zero, List.set_cons_succ, i64_w, i32_w]
                      rfl
                    refine pure_ (i := 1) (N := some 55) (v := ?_) (a' := ?_) #[true, true, false, false, false, false, false, false, false, false, false, false, false, false, false] rfl rfl (any_of HT_.out (by kernel_rfl)) (fun _ _ _ h => h) (Or.inl ⟨by rfl, ?_⟩) ?_ ?_
                    rotate_left
                    · intro w'
                      go_simp
                      with_reducible rfl
                    rotate_left
                    · simp only [Act.put, List.setIfInBounds_toArray, List.set_cons_zero, List.set_cons_succ, i64_w, i32_w]
                      rfl
                    refine pure_ (i := 2) (N := some 56) (v := ?_) (a' := ?_) #[true, true, true, false, false, false, false, false, false, false, false, false, false, false, false] rfl rfl (any_of HT_.out (by kernel_rfl)) (fun _ _ _ h => h) (Or.inl ⟨by rfl, ?_⟩) ?_ ?_
                    rotate_left
                    · intro w'
                      go_simp
                      with_reducible rfl
                    rotate_left
                    · simp only [Act.put, List.setIfInBounds_toArray, List.set_cons_zero, List.set_cons_succ, i64_w, i32_w]
                      rfl
                    refine pure_ (i := 4) (N := some 58) (v := ?_) (a' := ?_) #[true, true, true, false, true, false, false, false, false, false, false, false, false, false, false] rfl rfl (any_of HT_.out (by kernel_rfl)) (fun _ _ _ h => h) (Or.inl ⟨by rfl, ?_⟩) ?_ ?_
                    rotate_left
                    · intro w'
                      go_simp
                      with_reducible rfl
                    rotate_left
                    · simp only [Act.put, List.setIfInBounds_toArray, List.set_cons_zero, List.set_cons_succ, i64_w, i32_w]
                      rfl
                    refine pure_ (i := 5) (N := some 59) (v := ?_) (a' := ?_) #[true, true, true, false, true, true, false, false, false, false, false, false, false, false, false] rfl rfl (any_of HT_.out (by kernel_rfl)) (fun _ _ _ h => h) (Or.inl ⟨by rfl, ?_⟩) ?_ ?_
                    rotate_left
                    · intro w'
                      go_simp
                      with_reducible rfl
                    rotate_left
                    · simp only [Act.put, List.setIfInBounds_toArray, List.set_cons_zero, List.set_cons_succ, i64_w, i32_w]
                      rfl
                    refine take_ (i := 3) (N := some 57) (v := ?_) (a' := ?_) #[true, true, true, true, true, true, false, false, false, false, false, false, false, false, false] rfl rfl (take_ofW HT_.out HW_.out (by kernel_rfl)) (fun _ _ _ h => h) (Or.inl ⟨by rfl, ?_⟩) hHeld ?_ ?_
                    rotate_left
                    · rintro w' ⟨s0, s1⟩
                      go_simp
                      with_reducible rfl
                    rotate_left
                    · simp only [Act.put, List.setIfInBounds_toArray, List.set_cons_zero, List.set_cons_succ, i64_w, i32_w]
                      rfl
                    refine one_ (i := 6) (N := some 60) #[true, true, true, true, true, true, true, false, false, false, false, false, false, false, false] rfl rfl (one_of HT_.out (by kernel_rfl)) (by decide) (fun K hK => ?_)
                    refine goes_ Tryd.func9 (by kernel_rfl) rfl #[.string ((x6_1 ++ (⟨#[49]⟩ : ByteArray)) ++ x7_1), .int .i64 x8_1] (by rfl) rfl rfl (by (try simp only [List.map_toArray, List.map_cons, List.map_nil]); first | done | rfl | (simp only [List.length_drop, List.length_take]; rfl)) ?_
                    with_reducible refine (transhumanceref1_Place.calls k1 ((x6_1 ++ (⟨#[49]⟩ : ByteArray)) ++ x7_1) x8_1 t160 t161 _ A30.out).mono ?_
                    rintro e w53 ⟨rfl, hb⟩
                    refine ⟨_, rfl, ?_⟩
                    have n0_ := Aside0.mk (Kd.R_below (by (with_reducible repeat (first | apply Kd.R_alloc | apply Kd.R_drewN | apply Kd.R_drew)); exact HO151.out) hb)
                    have n1_ := Aside0.mk (Kd.R_below (by (with_reducible repeat (first | apply Kd.R_alloc | apply Kd.R_drewN | apply Kd.R_drew)); exact HO154.out) hb)
                    have n2_ := Aside0.mk (blk_below (g := gb158) (o := .cells #[.int .i64 t146, .int .i64 t147, .string t148, .slice Ao48 t149.length co48, .slice Ao49 t152.length co49] 27 (0, 0)) (by (with_reducible repeat (first | refine blk_drewN ?_ _ | refine blk_drew ?_ | refine blk_alloc ?_ _)); exact BK158.out) hb)
                    have n3_ := Aside0.mk (blk_below (g := gb159) (o := .cells #[.int .i64 t155, .int .i64 t156] 29 (0, 0)) (by (with_reducible repeat (first | refine blk_drewN ?_ _ | refine blk_drew ?_ | refine blk_alloc ?_ _)); exact BK159.out) hb)
                    have n4_ := Aside0.mk (below_step (by repeat (first | (with_reducible first | exact HB.out | apply below_alloc | apply pw_below_drewN | apply below_drew1 | refine below_set ?_ GE158.out | refine below_set ?_ GE159.out) | exact HB.out)) hb)
                    clear HO151
                    clear HO154
                    clear BK158
                    clear BK159
                    clear HB
                    have HO151 := n0_
                    have HO154 := n1_
                    have BK158 := n2_
                    have BK159 := n3_
                    have HB := n4_
                    clear n0_ n1_ n2_ n3_ n4_
                    (try clear hb)
                    (try clear hb2)
                    (try clear hk)
                    (try clear hi)
                    refine hK.out _ _ ⟨(blk_cell BK159.out 0).trans rfl, (blk_cell BK159.out 1).trans rfl⟩ (fun hHeld => ?_)
                    clear hK K
                    refine norm_ (a' := ?_) ?_ ?_
                    rotate_left
                    · show Act.put _ (some 60) _ = _
                      simp only [Act.put, List.setIfInBounds_toArray, List.set_cons_zero, List.set_cons_succ, i64_w, i32_w]
                      rfl
                    refine pure_ (i := 7) (N := some 61) (v := ?_) (a' := ?_) #[true, true, true, true, true, true, true, true, false, false, false, false, false, false, false] rfl rfl (any_of HT_.out (by kernel_rfl)) (fun _ _ _ h => h) (Or.inl ⟨by rfl, ?_⟩) ?_ ?_
                    rotate_left
                    · intro w'
                      go_simp
                      with_reducible rfl
                    rotate_left
                    · simp only [Act.put, List.setIfInBounds_toArray, List.set_cons_zero, List.set_cons_succ, i64_w, i32_w]
                      rfl
                    refine pure_ (i := 8) (N := some 62) (v := ?_) (a' := ?_) #[true, true, true, true, true, true, true, true, true, false, false, false, false, false, false] rfl rfl (any_of HT_.out (by kernel_rfl)) (fun _ _ _ h => h) (Or.inl ⟨by rfl, ?_⟩) ?_ ?_
                    rotate_left
                    · intro w'
                      go_simp
                      with_reducible rfl
                    rotate_left
                    · simp only [Act.put, List.setIfInBounds_toArray, List.set_cons_zero, List.set_cons_succ, i64_w, i32_w]
                      rfl
                    refine pure_ (i := 9) (N := some 63) (v := ?_) (a' := ?_) #[true, true, true, true, true, true, true, true, true, true, false, false, false, false, false] rfl rfl (any_of HT_.out (by kernel_rfl)) (fun _ _ _ h => h) (Or.inl ⟨by rfl, ?_⟩) ?_ ?_
                    rotate_left
                    · intro w'
                      go_simp
                      with_reducible rfl
                    rotate_left
                    · simp only [Act.put, List.setIfInBounds_toArray, List.set_cons_zero, List.set_cons_succ, i64_w, i32_w]
                      rfl
                    refine pure_ (i := 10) (N := some 64) (v := undef) (a' := ?_) #[true, true, true, true, true, true, true, true, true, true, true, false, false, false, false] rfl rfl (any_of HT_.out (by kernel_rfl)) (fun _ _ _ h => h) (Or.inr ⟨by rfl, rfl⟩) ?_ ?_
                    rotate_left
                    · simp only [Act.put, List.setIfInBounds_toArray, List.set_cons_zero, List.set_cons_succ, i64_w, i32_w]
                      rfl
                    refine pure_ (i := 11) (N := some 65) (v := undef) (a' := ?_) #[true, true, true, true, true, true, true, true, true, true, true, true, false, false, false] rfl rfl (any_of HT_.out (by kernel_rfl)) (fun _ _ _ h => h) (Or.inr ⟨by rfl, rfl⟩) ?_ ?_
                    rotate_left
                    · simp only [Act.put, List.setIfInBounds_toArray, List.set_cons_zero, List.set_cons_succ, i64_w, i32_w]
                      rfl
                    refine pure_ (i := 12) (N := some 66) (v := undef) (a' := ?_) #[true, true, true, true, true, true, true, true, true, true, true, true, true, false, false] rfl rfl (any_of HT_.out (by kernel_rfl)) (fun _ _ _ h => h) (Or.inr ⟨by rfl, rfl⟩) ?_ ?_
                    rotate_left
                    · simp only [Act.put, List.setIfInBounds_toArray, List.set_cons_zero, List.set_cons_succ, i64_w, i32_w]
                      rfl
                    refine pure_ (i := 13) (N := some 67) (v := ?_) (a' := ?_) #[true, true, true, true, true, true, true, true, true, true, true, true, true, true, false] rfl rfl (any_of HT_.out (by kernel_rfl)) (fun _ _ _ h => h) (Or.inl ⟨by rfl, ?_⟩) ?_ ?_
                    rotate_left
                    · intro w'
                      go_simp
                      with_reducible rfl
                    rotate_left
                    · simp only [Act.put, List.setIfInBounds_toArray, List.set_cons_zero, List.set_cons_succ, i64_w, i32_w]
                      rfl
                    refine pure_ (i := 14) (N := some 4) (v := ?_) (a' := ?_) #[true, true, true, true, true, true, true, true, true, true, true, true, true, true, true] rfl rfl (any_of HT_.out (by kernel_rfl)) (fun _ _ _ h => h) (Or.inl ⟨by rfl, ?_⟩) ?_ ?_
                    rotate_left
                    · intro w'
                      go_simp
                      with_reducible rfl
                    rotate_left
                    · simp only [Act.put, List.setIfInBounds_toArray, List.set_cons_zero, List.set_cons_succ, i64_w, i32_w]
                      rfl
                    refine done_ (done_of HT_.out (by kernel_rfl)) ?_
                    try go_wp2
                    go_ret
                    exact ⟨by first | rfl | (simp [errW_none, errW_some] <;> rfl) | (simp [*, errW_none, errW_some] <;> rfl), by repeat (first | (with_reducible first | exact HB.out | apply below_alloc | apply pw_below_drewN | apply below_drew1 | refine below_set ?_ GE158.out | refine below_set ?_ GE159.out) | exact HB.out)⟩
                · rw [if_neg c29] at H
                  have c29b0 : (t157 == 3) = false := beq_eq_false_iff_ne.mpr c29
                  have c29b1 : (t157 != 3) = true := bne_iff_ne.mpr c29
                  obtain rfl := Option.some.inj H
                  try go_wp2_with (first | ((with_reducible refine gate_callee (f := 8) rfl ?_); refine goesL_ (some 48) rfl rfl Tryd.func8 (by kernel_rfl) rfl #[.string ((x6_1 ++ (⟨#[49]⟩ : ByteArray)) ++ x7_1)] rfl (by (try simp only [List.map_toArray, List.map_cons, List.map_nil]); first | done | rfl | (simp only [List.length_drop, List.length_take]; rfl)) ?_; (with_reducible refine (brace_Parse.calls ((x6_1 ++ (⟨#[49]⟩ : ByteArray)) ++ x7_1) t146 t147 t148 t149 t152 t155 t156 t157 _ A27.out).mono ?_); rintro e w54 ⟨v150, v153, rfl, ho0, ho1, hb⟩; refine ⟨_, rfl, ?_⟩; have n0_ := Aside0.mk (Kd.R_lower ho0 (below_size (by repeat (first | (with_reducible first | exact HB.out | apply below_alloc | apply pw_below_drewN | apply below_drew1) | exact HB.out)))); have n1_ := Aside0.mk (Kd.R_lower ho1 (below_size (by repeat (first | (with_reducible first | exact HB.out | apply below_alloc | apply pw_below_drewN | apply below_drew1) | exact HB.out)))); have n2_ := Aside0.mk (below_step (by repeat (first | (with_reducible first | exact HB.out | apply below_alloc | apply pw_below_drewN | apply below_drew1) | exact HB.out)) hb); clear HB; have HO151 := n0_; have HO154 := n1_; have HB := n2_; clear n0_ n1_ n2_; (try clear hb); (try clear hb2); (try clear hk); (try clear hi); (try clear ho0); (try clear ho1)) | ((with_reducible refine gate_dst (N := 11) rfl ?_); refine box_event ?hg (N := 11) ?hd (cs := #[.int .i64 0, .int .i64 0, .string (⟨#[]⟩ : ByteArray), .slice none 0 0, .slice none 0 0]) (t := 27) ?hr ?_; (case hd => rfl); (case hg => rfl); (case hr => first | (go_simp; done) | (go_simp; rfl)); intro gb158 hg w55 hbox hb; have n0_ := Aside0.mk (Kd.R_below (by (with_reducible repeat (first | apply Kd.R_alloc | apply Kd.R_drewN | apply Kd.R_drew)); exact HO151.out) hb); have n1_ := Aside0.mk (Kd.R_below (Kd.R_elderB (by (with_reducible repeat (first | apply Kd.R_alloc | apply Kd.R_drewN | apply Kd.R_drew)); exact HO154.out) gb158 (Nat.le_of_eq hg.symm)) hb); have n2_ := Aside0.mk (below_step (by repeat (first | (with_reducible first | exact HB.out | apply below_alloc | apply pw_below_drewN | apply below_drew1) | exact HB.out)) hb); have n3_ := Aside0.mk (hbox); have n4_ := Aside0.mk ((by rw [hg]; exact (below_size (by repeat (first | (with_reducible first | exact HB.out | apply below_alloc | apply pw_below_drewN | apply below_drew1) | exact HB.out))) : w.heap.size ≤ gb158)); have n5_ := Aside0.mk ((by rw [hg]; exact (below_size (by repeat (first | (with_reducible first | exact HB.out | apply below_alloc | apply pw_below_drewN | apply below_drew1) | exact HB.out))) : w.heap.size ≤ gb158)); clear HO151; clear HO154; clear HB; have HO151 := n0_; have HO154 := n1_; have HB := n2_; have BK158 := n3_; have GW158 := n4_; have GE158 := n5_; clear n0_ n1_ n2_ n3_ n4_ n5_; clear hb hbox hg) | ((with_reducible refine gate_dst (N := 12) rfl ?_); refine box_event ?hg (N := 12) ?hd (cs := #[.int .i64 0, .int .i64 0]) (t := 29) ?hr ?_; (case hd => rfl); (case hg => rfl); (case hr => first | (go_simp; done) | (go_simp; rfl)); intro gb159 hg w56 hbox hb; have n0_ := Aside0.mk (Kd.R_below (by (with_reducible repeat (first | apply Kd.R_alloc | apply Kd.R_drewN | apply Kd.R_drew)); exact HO151.out) hb); have n1_ := Aside0.mk (Kd.R_below (by (with_reducible repeat (first | apply Kd.R_alloc | apply Kd.R_drewN | apply Kd.R_drew)); exact HO154.out) hb); have n2_ := Aside0.mk (blk_below (g := gb158) (o := .cells #[.int .i64 0, .int .i64 0, .string (⟨#[]⟩ : ByteArray), .slice none 0 0, .slice none 0 0] 27 (0, 0)) (by (with_reducible repeat (first | refine blk_drewN ?_ _ | refine blk_drew ?_ | refine blk_alloc ?_ _)); exact BK158.out) hb); have n3_ := Aside0.mk (below_step (by repeat (first | (with_reducible first | exact HB.out | apply below_alloc | apply pw_below_drewN | apply below_drew1 | refine below_set ?_ GE158.out) | exact HB.out)) hb); have n4_ := Aside0.mk (hbox); have n5_ := Aside0.mk ((by rw [hg]; exact (below_size (by repeat (first | (with_reducible first | exact HB.out | apply below_alloc | apply pw_below_drewN | apply below_drew1 | refine below_set ?_ GE158.out) | exact HB.out))) : w.heap.size ≤ gb159)); have n6_ := Aside0.mk ((by rw [hg]; exact (below_size (by repeat (first | (with_reducible first | exact HB.out | apply below_alloc | apply pw_below_drewN | apply below_drew1 | refine below_set ?_ GE158.out) | exact HB.out))) : w.heap.size ≤ gb159)); have n7_ := Aside0.mk ((by rw [hg]; exact Nat.ne_of_lt (blk_lt (g := gb158) (o := .cells #[.int .i64 0, .int .i64 0, .string (⟨#[]⟩ : ByteArray), .slice none 0 0, .slice none 0 0] 27 (0, 0)) (by (with_reducible repeat (first | refine blk_drewN ?_ _ | refine blk_drew ?_ | refine blk_alloc ?_ _)); exact BK158.out)) : gb158 ≠ gb159)); have n8_ := Aside0.mk ((by rw [hg]; exact Nat.ne_of_gt (blk_lt (g := gb158) (o := .cells #[.int .i64 0, .int .i64 0, .string (⟨#[]⟩ : ByteArray), .slice none 0 0, .slice none 0 0] 27 (0, 0)) (by (with_reducible repeat (first | refine blk_drewN ?_ _ | refine blk_drew ?_ | refine blk_alloc ?_ _)); exact BK158.out)) : gb159 ≠ gb158)); clear HO151; clear HO154; clear BK158; clear HB; have HO151 := n0_; have HO154 := n1_; have BK158 := n2_; have HB := n3_; have BK159 := n4_; have GW159 := n5_; have GE159 := n6_; have NB158_159 := n7_; have NB159_158 := n8_; clear n0_ n1_ n2_ n3_ n4_ n5_ n6_ n7_ n8_; clear hb hbox hg; have hnb57 := NB158_159.out; have hnc57 := NB159_158.out; have hcz58_0 : w56.cell? ⟨gb158, 0, none⟩ = some (.int .i64 0) := (blk_cell BK158.out 0).trans rfl; have hcz58_1 : w56.cell? ⟨gb158, 1, none⟩ = some (.int .i64 0) := (blk_cell BK158.out 1).trans rfl; have hcz58_2 : w56.cell? ⟨gb158, 2, none⟩ = some (.string (⟨#[]⟩ : ByteArray)) := (blk_cell BK158.out 2).trans rfl; have hcz58_3 : w56.cell? ⟨gb158, 3, none⟩ = some (.slice none 0 0) := (blk_cell BK158.out 3).trans rfl; have hcz58_4 : w56.cell? ⟨gb158, 4, none⟩ = some (.slice none 0 0) := (blk_cell BK158.out 4).trans rfl; have hfz58_0 := blk_frozen BK158.out 0; have hfz58_1 := blk_frozen BK158.out 1; have hfz58_2 := blk_frozen BK158.out 2; have hfz58_3 := blk_frozen BK158.out 3; have hfz58_4 := blk_frozen BK158.out 4; obtain ⟨Ao59, co59, eo59⟩ := Kd.R_slice HO151.out; subst eo59; obtain ⟨Ao60, co60, eo60⟩ := Kd.R_slice HO154.out; subst eo60; have hcz61_0 : w56.cell? ⟨gb159, 0, none⟩ = some (.int .i64 0) := (blk_cell BK159.out 0).trans rfl; have hcz61_1 : w56.cell? ⟨gb159, 1, none⟩ = some (.int .i64 0) := (blk_cell BK159.out 1).trans rfl; have hfz61_0 := blk_frozen BK159.out 0; have hfz61_1 := blk_frozen BK159.out 1))
                  have n0_ : Aside0 (Kd.R Kd.string 9 (((((((w56.setCell ⟨gb158, 0, none⟩ (.int .i64 t146)).setCell ⟨gb158, 1, none⟩ (.int .i64 t147)).setCell ⟨gb158, 2, none⟩ (.string t148)).setCell ⟨gb158, 3, none⟩ (.slice Ao59 t149.length co59)).setCell ⟨gb158, 4, none⟩ (.slice Ao60 t152.length co60)).setCell ⟨gb159, 0, none⟩ (.int .i64 t155)).setCell ⟨gb159, 1, none⟩ (.int .i64 t156)) w.heap.size (fun _ => True) (.slice Ao59 t149.length co59) t149) := ⟨by (with_reducible repeat (first | apply Kd.R_alloc | apply Kd.R_drewN | apply Kd.R_drew)); exact Kd.R_mono (Kd.R_far (p := ⟨gb159, 1, none⟩) (Kd.R_far (p := ⟨gb159, 0, none⟩) (Kd.R_far (p := ⟨gb158, 4, none⟩) (Kd.R_far (p := ⟨gb158, 3, none⟩) (Kd.R_far (p := ⟨gb158, 2, none⟩) (Kd.R_far (p := ⟨gb158, 1, none⟩) (Kd.R_far (p := ⟨gb158, 0, none⟩) (Kd.R_types (Kd.R_types HO151.out BK158.out (by decide)) BK159.out (by decide)) (fun _ hk => hk.1.2) (.int .i64 t146)) (fun _ hk => hk.1.2) (.int .i64 t147)) (fun _ hk => hk.1.2) (.string t148)) (fun _ hk => hk.1.2) (.slice Ao59 t149.length co59)) (fun _ hk => hk.1.2) (.slice Ao60 t152.length co60)) (fun _ hk => hk.2) (.int .i64 t155)) (fun _ hk => hk.2) (.int .i64 t156)) (fun _ hk => trivial)⟩
                  have n1_ : Aside0 (Kd.R k27 27 (((((((w56.setCell ⟨gb158, 0, none⟩ (.int .i64 t146)).setCell ⟨gb158, 1, none⟩ (.int .i64 t147)).setCell ⟨gb158, 2, none⟩ (.string t148)).setCell ⟨gb158, 3, none⟩ (.slice Ao59 t149.length co59)).setCell ⟨gb158, 4, none⟩ (.slice Ao60 t152.length co60)).setCell ⟨gb159, 0, none⟩ (.int .i64 t155)).setCell ⟨gb159, 1, none⟩ (.int .i64 t156)) w.heap.size (fun k_ => some k_ ≠ (.slice Ao59 t149.length co59 : Value).ownBlock ∧ k_ ≠ gb158) (.slice Ao60 t152.length co60) t152) := ⟨by (with_reducible repeat (first | apply Kd.R_alloc | apply Kd.R_drewN | apply Kd.R_drew)); exact Kd.R_mono (Kd.R_far (p := ⟨gb159, 1, none⟩) (Kd.R_far (p := ⟨gb159, 0, none⟩) (Kd.R_far (p := ⟨gb158, 4, none⟩) (Kd.R_far (p := ⟨gb158, 3, none⟩) (Kd.R_far (p := ⟨gb158, 2, none⟩) (Kd.R_far (p := ⟨gb158, 1, none⟩) (Kd.R_far (p := ⟨gb158, 0, none⟩) (Kd.R_types (Kd.R_mono HO154.out (fun k_ hk => (⟨hk, hk.2⟩ : _ ∧ k_ ≠ gb158))) BK159.out (by decide)) (fun _ hk => hk.1.2) (.int .i64 t146)) (fun _ hk => hk.1.2) (.int .i64 t147)) (fun _ hk => hk.1.2) (.string t148)) (fun _ hk => hk.1.2) (.slice Ao59 t149.length co59)) (fun _ hk => hk.1.2) (.slice Ao60 t152.length co60)) (fun _ hk => hk.2) (.int .i64 t155)) (fun _ hk => hk.2) (.int .i64 t156)) (fun _ hk => ⟨hk.1.1.1, hk.1.1.2⟩)⟩
                  have n2_ : Aside0 ((((((((w56.setCell ⟨gb158, 0, none⟩ (.int .i64 t146)).setCell ⟨gb158, 1, none⟩ (.int .i64 t147)).setCell ⟨gb158, 2, none⟩ (.string t148)).setCell ⟨gb158, 3, none⟩ (.slice Ao59 t149.length co59)).setCell ⟨gb158, 4, none⟩ (.slice Ao60 t152.length co60)).setCell ⟨gb159, 0, none⟩ (.int .i64 t155)).setCell ⟨gb159, 1, none⟩ (.int .i64 t156)).heap[gb158]? = some (.cells #[.int .i64 t146, .int .i64 t147, .string t148, .slice Ao59 t149.length co59, .slice Ao60 t152.length co60] 27 (0, 0))) := ⟨by (with_reducible repeat (first | refine blk_drewN ?_ _ | refine blk_drew ?_ | refine blk_alloc ?_ _)); refine blk_far ?_ NB158_159.out _; (with_reducible repeat (first | refine blk_drewN ?_ _ | refine blk_drew ?_ | refine blk_alloc ?_ _)); refine blk_far ?_ NB158_159.out _; (with_reducible repeat (first | refine blk_drewN ?_ _ | refine blk_drew ?_ | refine blk_alloc ?_ _)); refine blk_put (cs := #[.int .i64 t146, .int .i64 t147, .string t148, .slice Ao59 t149.length co59, .slice none 0 0]) ?_ 4 _ rfl; (with_reducible repeat (first | refine blk_drewN ?_ _ | refine blk_drew ?_ | refine blk_alloc ?_ _)); refine blk_put (cs := #[.int .i64 t146, .int .i64 t147, .string t148, .slice none 0 0, .slice none 0 0]) ?_ 3 _ rfl; (with_reducible repeat (first | refine blk_drewN ?_ _ | refine blk_drew ?_ | refine blk_alloc ?_ _)); refine blk_put (cs := #[.int .i64 t146, .int .i64 t147, .string (⟨#[]⟩ : ByteArray), .slice none 0 0, .slice none 0 0]) ?_ 2 _ rfl; (with_reducible repeat (first | refine blk_drewN ?_ _ | refine blk_drew ?_ | refine blk_alloc ?_ _)); refine blk_put (cs := #[.int .i64 t146, .int .i64 0, .string (⟨#[]⟩ : ByteArray), .slice none 0 0, .slice none 0 0]) ?_ 1 _ rfl; (with_reducible repeat (first | refine blk_drewN ?_ _ | refine blk_drew ?_ | refine blk_alloc ?_ _)); refine blk_put (cs := #[.int .i64 0, .int .i64 0, .string (⟨#[]⟩ : ByteArray), .slice none 0 0, .slice none 0 0]) ?_ 0 _ rfl; (with_reducible repeat (first | refine blk_drewN ?_ _ | refine blk_drew ?_ | refine blk_alloc ?_ _)); exact BK158.out⟩
                  have n3_ : Aside0 ((((((((w56.setCell ⟨gb158, 0, none⟩ (.int .i64 t146)).setCell ⟨gb158, 1, none⟩ (.int .i64 t147)).setCell ⟨gb158, 2, none⟩ (.string t148)).setCell ⟨gb158, 3, none⟩ (.slice Ao59 t149.length co59)).setCell ⟨gb158, 4, none⟩ (.slice Ao60 t152.length co60)).setCell ⟨gb159, 0, none⟩ (.int .i64 t155)).setCell ⟨gb159, 1, none⟩ (.int .i64 t156)).heap[gb159]? = some (.cells #[.int .i64 t155, .int .i64 t156] 29 (0, 0))) := ⟨by (with_reducible repeat (first | refine blk_drewN ?_ _ | refine blk_drew ?_ | refine blk_alloc ?_ _)); refine blk_put (cs := #[.int .i64 t155, .int .i64 0]) ?_ 1 _ rfl; (with_reducible repeat (first | refine blk_drewN ?_ _ | refine blk_drew ?_ | refine blk_alloc ?_ _)); refine blk_put (cs := #[.int .i64 0, .int .i64 0]) ?_ 0 _ rfl; (with_reducible repeat (first | refine blk_drewN ?_ _ | refine blk_drew ?_ | refine blk_alloc ?_ _)); refine blk_far ?_ NB159_158.out _; (with_reducible repeat (first | refine blk_drewN ?_ _ | refine blk_drew ?_ | refine blk_alloc ?_ _)); refine blk_far ?_ NB159_158.out _; (with_reducible repeat (first | refine blk_drewN ?_ _ | refine blk_drew ?_ | refine blk_alloc ?_ _)); refine blk_far ?_ NB159_158.out _; (with_reducible repeat (first | refine blk_drewN ?_ _ | refine blk_drew ?_ | refine blk_alloc ?_ _)); refine blk_far ?_ NB159_158.out _; (with_reducible repeat (first | refine blk_drewN ?_ _ | refine blk_drew ?_ | refine blk_alloc ?_ _)); refine blk_far ?_ NB159_158.out _; (with_reducible repeat (first | refine blk_drewN ?_ _ | refine blk_drew ?_ | refine blk_alloc ?_ _)); exact BK159.out⟩
                  have n4_ : Aside0 (Below w.heap.size w (((((((w56.setCell ⟨gb158, 0, none⟩ (.int .i64 t146)).setCell ⟨gb158, 1, none⟩ (.int .i64 t147)).setCell ⟨gb158, 2, none⟩ (.string t148)).setCell ⟨gb158, 3, none⟩ (.slice Ao59 t149.length co59)).setCell ⟨gb158, 4, none⟩ (.slice Ao60 t152.length co60)).setCell ⟨gb159, 0, none⟩ (.int .i64 t155)).setCell ⟨gb159, 1, none⟩ (.int .i64 t156))) := ⟨by repeat (first | (with_reducible first | exact HB.out | apply below_alloc | apply pw_below_drewN | apply below_drew1 | refine below_set ?_ GE158.out | refine below_set ?_ GE159.out) | exact HB.out)⟩
                  (try clear HO151)
                  (try clear HO154)
                  (try clear BK158)
                  (try clear BK159)
                  (try clear HB)
                  generalize (((((((w56.setCell ⟨gb158, 0, none⟩ (.int .i64 t146)).setCell ⟨gb158, 1, none⟩ (.int .i64 t147)).setCell ⟨gb158, 2, none⟩ (.string t148)).setCell ⟨gb158, 3, none⟩ (.slice Ao59 t149.length co59)).setCell ⟨gb158, 4, none⟩ (.slice Ao60 t152.length co60)).setCell ⟨gb159, 0, none⟩ (.int .i64 t155)).setCell ⟨gb159, 1, none⟩ (.int .i64 t156)) = w62 at n0_ n1_ n2_ n3_ n4_ ⊢
                  have HO151 := n0_
                  have HO154 := n1_
                  have BK158 := n2_
                  have BK159 := n3_
                  have HB := n4_
                  clear n0_ n1_ n2_ n3_ n4_
                  have n0_ := Aside0.mk (Kd.R_drew HO151.out)
                  have n1_ := Aside0.mk (Kd.R_drew HO154.out)
                  have n2_ := Aside0.mk (blk_drew BK158.out)
                  have n3_ := Aside0.mk (blk_drew BK159.out)
                  have n4_ := Aside0.mk (below_drew1 HB.out)
                  clear HO151
                  clear HO154
                  clear BK158
                  clear BK159
                  clear HB
                  have HO151 := n0_
                  have HO154 := n1_
                  have BK158 := n2_
                  have BK159 := n3_
                  have HB := n4_
                  clear n0_ n1_ n2_ n3_ n4_
                  refine start_ (n := 15) (S := fun w' => True) (ds := []) #[false, false, false, false, false, false, false, false, false, false, false, false, false, false, false] (by kernel_rfl) rfl rfl trivial (fun hHeld => ?_); refine with_tabW transhumancelaw5_BraceDeep.tab17 transhumancelaw5_BraceDeep.bits17 (fun HT_ HW_ => ?_)
                  generalize w62.drew = w63 at HO151 HO154 BK158 BK159 HB hHeld ⊢
                  refine pure_ (i := 0) (N := some 54) (v := ?_) (a' := ?_) #[true, false, false, false, false, false, false, false, false, false, false, false, false, false, false] rfl rfl (any_of HT_.out (by kernel_rfl)) (fun _ _ _ h => h) (Or.inl ⟨by rfl, ?_⟩) ?_ ?_
                  rotate_left
                  · intro w'
                    go_simp
                    with_reducible rfl
                  rotate_left
                  · simp only [Act.put, List.setIfInBounds_toArray, List.set_cons_zero, List.set_cons_succ, i64_w, i32_w]
                    rfl
                  refine pure_ (i := 1) (N := some 55) (v := ?_) (a' := ?_) #[true, true, false, false, false, false, false, false, false, false, false, false, false, false, false] rfl rfl (any_of HT_.out (by kernel_rfl)) (fun _ _ _ h => h) (Or.inl ⟨by rfl, ?_⟩) ?_ ?_
                  rotate_left
                  · intro w'
                    go_simp
                    with_reducible rfl
                  rotate_left
                  · simp only [Act.put, List.setIfInBounds_toArray, List.set_cons_zero, List.set_cons_succ, i64_w, i32_w]
                    rfl
                  refine pure_ (i := 2) (N := some 56) (v := ?_) (a' := ?_) #[true, true, true, false, false, false, false, false, false, false, false, false, false, false, false] rfl rfl (any_of HT_.out (by kernel_rfl)) (fun _ _ _ h => h) (Or.inl ⟨by rfl, ?_⟩) ?_ ?_
                  rotate_left
                  · intro w'
                    go_simp
                    with_reducible rfl
                  rotate_left
                  · simp only [Act.put, List.setIfInBounds_toArray, List.set_cons_zero, List.set_cons_succ, i64_w, i32_w]
                    rfl
                  refine pure_ (i := 3) (N := some 57) (v := undef) (a' := ?_) #[true, true, true, true, false, false, false, false, false, false, false, false, false, false, false] rfl rfl (any_of HT_.out (by kernel_rfl)) (fun _ _ _ h => h) (Or.inr ⟨by rfl, rfl⟩) ?_ ?_
                  rotate_left
                  · simp only [Act.put, List.setIfInBounds_toArray, List.set_cons_zero, List.set_cons_succ, i64_w, i32_w]
                    rfl
                  refine pure_ (i := 4) (N := some 58) (v := undef) (a' := ?_) #[true, true, true, true, true, false, false, false, false, false, false, false, false, false, false] rfl rfl (any_of HT_.out (by kernel_rfl)) (fun _ _ _ h => h) (Or.inr ⟨by rfl, rfl⟩) ?_ ?_
                  rotate_left
                  · simp only [Act.put, List.setIfInBounds_toArray, List.set_cons_zero, List.set_cons_succ, i64_w, i32_w]
                    rfl
                  refine pure_ (i := 5) (N := some 59) (v := undef) (a' := ?_) #[true, true, true, true, true, true, false, false, false, false, false, false, false, false, false] rfl rfl (any_of HT_.out (by kernel_rfl)) (fun _ _ _ h => h) (Or.inr ⟨by rfl, rfl⟩) ?_ ?_
                  rotate_left
                  · simp only [Act.put, List.setIfInBounds_toArray, List.set_cons_zero, List.set_cons_succ, i64_w, i32_w]
                    rfl
                  refine pure_ (i := 6) (N := some 60) (v := undef) (a' := ?_) #[true, true, true, true, true, true, true, false, false, false, false, false, false, false, false] rfl rfl (any_of HT_.out (by kernel_rfl)) (fun _ _ _ h => h) (Or.inr ⟨by rfl, rfl⟩) ?_ ?_
                  rotate_left
                  · simp only [Act.put, List.setIfInBounds_toArray, List.set_cons_zero, List.set_cons_succ, i64_w, i32_w]
                    rfl
                  refine pure_ (i := 7) (N := some 61) (v := undef) (a' := ?_) #[true, true, true, true, true, true, true, true, false, false, false, false, false, false, false] rfl rfl (any_of HT_.out (by kernel_rfl)) (fun _ _ _ h => h) (Or.inr ⟨by rfl, rfl⟩) ?_ ?_
                  rotate_left
                  · simp only [Act.put, List.setIfInBounds_toArray, List.set_cons_zero, List.set_cons_succ, i64_w, i32_w]
                    rfl
                  refine pure_ (i := 8) (N := some 62) (v := ?_) (a' := ?_) #[true, true, true, true, true, true, true, true, true, false, false, false, false, false, false] rfl rfl (any_of HT_.out (by kernel_rfl)) (fun _ _ _ h => h) (Or.inl ⟨by rfl, ?_⟩) ?_ ?_
                  rotate_left
                  · intro w'
                    go_simp
                    with_reducible rfl
                  rotate_left
                  · simp only [Act.put, List.setIfInBounds_toArray, List.set_cons_zero, List.set_cons_succ, i64_w, i32_w]
                    rfl
                  refine pure_ (i := 9) (N := some 63) (v := ?_) (a' := ?_) #[true, true, true, true, true, true, true, true, true, true, false, false, false, false, false] rfl rfl (any_of HT_.out (by kernel_rfl)) (fun _ _ _ h => h) (Or.inl ⟨by rfl, ?_⟩) ?_ ?_
                  rotate_left
                  · intro w'
                    go_simp
                    with_reducible rfl
                  rotate_left
                  · simp only [Act.put, List.setIfInBounds_toArray, List.set_cons_zero, List.set_cons_succ, i64_w, i32_w]
                    rfl
                  refine pure_ (i := 10) (N := some 64) (v := undef) (a' := ?_) #[true, true, true, true, true, true, true, true, true, true, true, false, false, false, false] rfl rfl (any_of HT_.out (by kernel_rfl)) (fun _ _ _ h => h) (Or.inr ⟨by rfl, rfl⟩) ?_ ?_
                  rotate_left
                  · simp only [Act.put, List.setIfInBounds_toArray, List.set_cons_zero, List.set_cons_succ, i64_w, i32_w]
                    rfl
                  refine pure_ (i := 11) (N := some 65) (v := undef) (a' := ?_) #[true, true, true, true, true, true, true, true, true, true, true, true, false, false, false] rfl rfl (any_of HT_.out (by kernel_rfl)) (fun _ _ _ h => h) (Or.inr ⟨by rfl, rfl⟩) ?_ ?_
                  rotate_left
                  · simp only [Act.put, List.setIfInBounds_toArray, List.set_cons_zero, List.set_cons_succ, i64_w, i32_w]
                    rfl
                  refine pure_ (i := 12) (N := some 66) (v := undef) (a' := ?_) #[true, true, true, true, true, true, true, true, true, true, true, true, true, false, false] rfl rfl (any_of HT_.out (by kernel_rfl)) (fun _ _ _ h => h) (Or.inr ⟨by rfl, rfl⟩) ?_ ?_
                  rotate_left
                  · simp only [Act.put, List.setIfInBounds_toArray, List.set_cons_zero, List.set_cons_succ, i64_w, i32_w]
                    rfl
                  refine pure_ (i := 13) (N := some 67) (v := ?_) (a' := ?_) #[true, true, true, true, true, true, true, true, true, true, true, true, true, true, false] rfl rfl (any_of HT_.out (by kernel_rfl)) (fun _ _ _ h => h) (Or.inl ⟨by rfl, ?_⟩) ?_ ?_
                  rotate_left
                  · intro w'
                    go_simp
                    with_reducible rfl
                  rotate_left
                  · simp only [Act.put, List.setIfInBounds_toArray, List.set_cons_zero, List.set_cons_succ, i64_w, i32_w]
                    rfl
                  refine pure_ (i := 14) (N := some 4) (v := ?_) (a' := ?_) #[true, true, true, true, true, true, true, true, true, true, true, true, true, true, true] rfl rfl (any_of HT_.out (by kernel_rfl)) (fun _ _ _ h => h) (Or.inl ⟨by rfl, ?_⟩) ?_ ?_
                  rotate_left
                  · intro w'
                    go_simp
                    with_reducible rfl
                  rotate_left
                  · simp only [Act.put, List.setIfInBounds_toArray, List.set_cons_zero, List.set_cons_succ, i64_w, i32_w]
                    rfl
                  refine done_ (done_of HT_.out (by kernel_rfl)) ?_
                  try go_wp2
                  go_ret
                  exact ⟨by first | rfl | (simp [errW_none, errW_some] <;> rfl) | (simp [*, errW_none, errW_some] <;> rfl), by repeat (first | (with_reducible first | exact HB.out | apply below_alloc | apply pw_below_drewN | apply below_drew1 | refine below_set ?_ GE158.out | refine below_set ?_ GE159.out) | exact HB.out)⟩
              · rw [if_neg c28] at H
                have c28b0 : decide (8 < (wrap64 (1 + t145))) = false := decide_eq_false c28
                clear c28
                by_cases c64 : t157 = 0
                · rw [if_pos c64] at H
                  have c64b0 : (t157 == 0) = true := beq_iff_eq.mpr c64
                  have c64b1 : (t157 != 0) = false := bne_eq_false_iff_eq.mpr c64
                  clear c64
                  replace H := Option.bind_eq_some_iff.mp H
                  obtain ⟨t162, A650, H⟩ := H
                  replace H : (some (t162.toList == ((x6_1 ++ (⟨#[49]⟩ : ByteArray)) ++ x7_1).toList)) = some r := H
                  have A65 := Aside0.mk A650
                  clear A650
                  obtain rfl := Option.some.inj H
                  go_wp2_with (first | ((with_reducible refine gate_callee (f := 8) rfl ?_); refine goesL_ (some 48) rfl rfl Tryd.func8 (by kernel_rfl) rfl #[.string ((x6_1 ++ (⟨#[49]⟩ : ByteArray)) ++ x7_1)] rfl (by (try simp only [List.map_toArray, List.map_cons, List.map_nil]); first | done | rfl | (simp only [List.length_drop, List.length_take]; rfl)) ?_; (with_reducible refine (brace_Parse.calls ((x6_1 ++ (⟨#[49]⟩ : ByteArray)) ++ x7_1) t146 t147 t148 t149 t152 t155 t156 t157 _ A27.out).mono ?_); rintro e w66 ⟨v150, v153, rfl, ho0, ho1, hb⟩; refine ⟨_, rfl, ?_⟩; have n0_ := Aside0.mk (Kd.R_lower ho0 (below_size (by repeat (first | (with_reducible first | exact HB.out | apply below_alloc | apply pw_below_drewN | apply below_drew1) | exact HB.out)))); have n1_ := Aside0.mk (Kd.R_lower ho1 (below_size (by repeat (first | (with_reducible first | exact HB.out | apply below_alloc | apply pw_below_drewN | apply below_drew1) | exact HB.out)))); have n2_ := Aside0.mk (below_step (by repeat (first | (with_reducible first | exact HB.out | apply below_alloc | apply pw_below_drewN | apply below_drew1) | exact HB.out)) hb); clear HB; have HO151 := n0_; have HO154 := n1_; have HB := n2_; clear n0_ n1_ n2_; (try clear hb); (try clear hb2); (try clear hk); (try clear hi); (try clear ho0); (try clear ho1)) | ((with_reducible refine gate_dst (N := 11) rfl ?_); refine box_event ?hg (N := 11) ?hd (cs := #[.int .i64 0, .int .i64 0, .string (⟨#[]⟩ : ByteArray), .slice none 0 0, .slice none 0 0]) (t := 27) ?hr ?_; (case hd => rfl); (case hg => rfl); (case hr => first | (go_simp; done) | (go_simp; rfl)); intro gb158 hg w67 hbox hb; have n0_ := Aside0.mk (Kd.R_below (by (with_reducible repeat (first | apply Kd.R_alloc | apply Kd.R_drewN | apply Kd.R_drew)); exact HO151.out) hb); have n1_ := Aside0.mk (Kd.R_below (Kd.R_elderB (by (with_reducible repeat (first | apply Kd.R_alloc | apply Kd.R_drewN | apply Kd.R_drew)); exact HO154.out) gb158 (Nat.le_of_eq hg.symm)) hb); have n2_ := Aside0.mk (below_step (by repeat (first | (with_reducible first | exact HB.out | apply below_alloc | apply pw_below_drewN | apply below_drew1) | exact HB.out)) hb); have n3_ := Aside0.mk (hbox); have n4_ := Aside0.mk ((by rw [hg]; exact (below_size (by repeat (first | (with_reducible first | exact HB.out | apply below_alloc | apply pw_below_drewN | apply below_drew1) | exact HB.out))) : w.heap.size ≤ gb158)); have n5_ := Aside0.mk ((by rw [hg]; exact (below_size (by repeat (first | (with_reducible first | exact HB.out | apply below_alloc | apply pw_below_drewN | apply below_drew1) | exact HB.out))) : w.heap.size ≤ gb158)); clear HO151; clear HO154; clear HB; have HO151 := n0_; have HO154 := n1_; have HB := n2_; have BK158 := n3_; have GW158 := n4_; have GE158 := n5_; clear n0_ n1_ n2_ n3_ n4_ n5_; clear hb hbox hg) | ((with_reducible refine gate_dst (N := 12) rfl ?_); refine box_event ?hg (N := 12) ?hd (cs := #[.int .i64 0, .int .i64 0]) (t := 29) ?hr ?_; (case hd => rfl); (case hg => rfl); (case hr => first | (go_simp; done) | (go_simp; rfl)); intro gb159 hg w68 hbox hb; have n0_ := Aside0.mk (Kd.R_below (by (with_reducible repeat (first | apply Kd.R_alloc | apply Kd.R_drewN | apply Kd.R_drew)); exact HO151.out) hb); have n1_ := Aside0.mk (Kd.R_below (by (with_reducible repeat (first | apply Kd.R_alloc | apply Kd.R_drewN | apply Kd.R_drew)); exact HO154.out) hb); have n2_ := Aside0.mk (blk_below (g := gb158) (o := .cells #[.int .i64 0, .int .i64 0, .string (⟨#[]⟩ : ByteArray), .slice none 0 0, .slice none 0 0] 27 (0, 0)) (by (with_reducible repeat (first | refine blk_drewN ?_ _ | refine blk_drew ?_ | refine blk_alloc ?_ _)); exact BK158.out) hb); have n3_ := Aside0.mk (below_step (by repeat (first | (with_reducible first | exact HB.out | apply below_alloc | apply pw_below_drewN | apply below_drew1 | refine below_set ?_ GE158.out) | exact HB.out)) hb); have n4_ := Aside0.mk (hbox); have n5_ := Aside0.mk ((by rw [hg]; exact (below_size (by repeat (first | (with_reducible first | exact HB.out | apply below_alloc | apply pw_below_drewN | apply below_drew1 | refine below_set ?_ GE158.out) | exact HB.out))) : w.heap.size ≤ gb159)); have n6_ := Aside0.mk ((by rw [hg]; exact (below_size (by repeat (first | (with_reducible first | exact HB.out | apply below_alloc | apply pw_below_drewN | apply below_drew1 | refine below_set ?_ GE158.out) | exact HB.out))) : w.heap.size ≤ gb159)); have n7_ := Aside0.mk ((by rw [hg]; exact Nat.ne_of_lt (blk_lt (g := gb158) (o := .cells #[.int .i64 0, .int .i64 0, .string (⟨#[]⟩ : ByteArray), .slice none 0 0, .slice none 0 0] 27 (0, 0)) (by (with_reducible repeat (first | refine blk_drewN ?_ _ | refine blk_drew ?_ | refine blk_alloc ?_ _)); exact BK158.out)) : gb158 ≠ gb159)); have n8_ := Aside0.mk ((by rw [hg]; exact Nat.ne_of_gt (blk_lt (g := gb158) (o := .cells #[.int .i64 0, .int .i64 0, .string (⟨#[]⟩ : ByteArray), .slice none 0 0, .slice none 0 0] 27 (0, 0)) (by (with_reducible repeat (first | refine blk_drewN ?_ _ | refine blk_drew ?_ | refine blk_alloc ?_ _)); exact BK158.out)) : gb159 ≠ gb158)); clear HO151; clear HO154; clear BK158; clear HB; have HO151 := n0_; have HO154 := n1_; have BK158 := n2_; have HB := n3_; have BK159 := n4_; have GW159 := n5_; have GE159 := n6_; have NB158_159 := n7_; have NB159_158 := n8_; clear n0_ n1_ n2_ n3_ n4_ n5_ n6_ n7_ n8_; clear hb hbox hg; have hnb69 := NB158_159.out; have hnc69 := NB159_158.out; have hcz70_0 : w68.cell? ⟨gb158, 0, none⟩ = some (.int .i64 0) := (blk_cell BK158.out 0).trans rfl; have hcz70_1 : w68.cell? ⟨gb158, 1, none⟩ = some (.int .i64 0) := (blk_cell BK158.out 1).trans rfl; have hcz70_2 : w68.cell? ⟨gb158, 2, none⟩ = some (.string (⟨#[]⟩ : ByteArray)) := (blk_cell BK158.out 2).trans rfl; have hcz70_3 : w68.cell? ⟨gb158, 3, none⟩ = some (.slice none 0 0) := (blk_cell BK158.out 3).trans rfl; have hcz70_4 : w68.cell? ⟨gb158, 4, none⟩ = some (.slice none 0 0) := (blk_cell BK158.out 4).trans rfl; have hfz70_0 := blk_frozen BK158.out 0; have hfz70_1 := blk_frozen BK158.out 1; have hfz70_2 := blk_frozen BK158.out 2; have hfz70_3 := blk_frozen BK158.out 3; have hfz70_4 := blk_frozen BK158.out 4; obtain ⟨Ao71, co71, eo71⟩ := Kd.R_slice HO151.out; subst eo71; obtain ⟨Ao72, co72, eo72⟩ := Kd.R_slice HO154.out; subst eo72; have hcz73_0 : w68.cell? ⟨gb159, 0, none⟩ = some (.int .i64 0) := (blk_cell BK159.out 0).trans rfl; have hcz73_1 : w68.cell? ⟨gb159, 1, none⟩ = some (.int .i64 0) := (blk_cell BK159.out 1).trans rfl; have hfz73_0 := blk_frozen BK159.out 0; have hfz73_1 := blk_frozen BK159.out 1) | (go_at_call 10; (with_reducible refine (brace_Text.calls k1 t146 t147 t148 _ _ t149 _ _ t152 t162 _ ?side1 ?side2 ?side3 ?side4 ?side5 A65.out).mono ?_); (case side1 => refine (Kd.R_reads' (e := 9) (base := w.heap.size) (ok := fun k_ => True) (n := t149.length) (c := co71) ?_).2.2; exact (by (with_reducible repeat (first | apply Kd.R_alloc | apply Kd.R_drewN | apply Kd.R_drew)); exact (Kd.R_mono (Kd.R_mono (Kd.R_far (p := ⟨gb159, 1, none⟩) (Kd.R_far (p := ⟨gb159, 0, none⟩) (Kd.R_far (p := ⟨gb158, 4, none⟩) (Kd.R_far (p := ⟨gb158, 3, none⟩) (Kd.R_far (p := ⟨gb158, 2, none⟩) (Kd.R_far (p := ⟨gb158, 1, none⟩) (Kd.R_far (p := ⟨gb158, 0, none⟩) (Kd.R_types (Kd.R_types HO151.out BK158.out (by decide)) BK159.out (by decide)) (fun _ hk => hk.1.2) (.int .i64 t146)) (fun _ hk => hk.1.2) (.int .i64 t147)) (fun _ hk => hk.1.2) (.string t148)) (fun _ hk => hk.1.2) (.slice Ao71 t149.length co71)) (fun _ hk => hk.1.2) (.slice Ao72 t152.length co72)) (fun _ hk => hk.2) (.int .i64 t155)) (fun _ hk => hk.2) (.int .i64 t156)) (fun _ h_ => h_.1)) (fun _ h_ => h_.1)))); (case side2 => exact (Kd.R_reads' HO151.out).2.1); (case side3 => refine (Kd.R_reads' (e := 27) (base := w.heap.size) (ok := fun k_ => (some k_ ≠ (.slice Ao71 t149.length co71 : Value).ownBlock ∧ k_ ≠ gb158)) (n := t152.length) (c := co72) ?_).2.2; exact (by (with_reducible repeat (first | apply Kd.R_alloc | apply Kd.R_drewN | apply Kd.R_drew)); exact (Kd.R_mono (Kd.R_mono (Kd.R_far (p := ⟨gb159, 1, none⟩) (Kd.R_far (p := ⟨gb159, 0, none⟩) (Kd.R_far (p := ⟨gb158, 4, none⟩) (Kd.R_far (p := ⟨gb158, 3, none⟩) (Kd.R_far (p := ⟨gb158, 2, none⟩) (Kd.R_far (p := ⟨gb158, 1, none⟩) (Kd.R_far (p := ⟨gb158, 0, none⟩) (Kd.R_types (Kd.R_mono HO154.out (fun k_ hk => (⟨hk, hk.2⟩ : _ ∧ k_ ≠ gb158))) BK159.out (by decide)) (fun _ hk => hk.1.2) (.int .i64 t146)) (fun _ hk => hk.1.2) (.int .i64 t147)) (fun _ hk => hk.1.2) (.string t148)) (fun _ hk => hk.1.2) (.slice Ao71 t149.length co71)) (fun _ hk => hk.1.2) (.slice Ao72 t152.length co72)) (fun _ hk => hk.2) (.int .i64 t155)) (fun _ hk => hk.2) (.int .i64 t156)) (fun _ h_ => h_.1)) (fun _ h_ => h_.1)))); (case side4 => exact (Kd.R_reads' HO154.out).2.1); (case side5 => exact Tab.below HT.out (by repeat (first | (with_reducible first | exact HB.out | apply below_alloc | apply pw_below_drewN | apply below_drew1 | refine below_set ?_ GE158.out | refine below_set ?_ GE159.out) | exact HB.out))); rintro e w74 ⟨rfl, hb⟩; have n0_ := Aside0.mk (Kd.R_below (by (with_reducible repeat (first | apply Kd.R_alloc | apply Kd.R_drewN | apply Kd.R_drew)); exact (Kd.R_mono (Kd.R_mono (Kd.R_far (p := ⟨gb159, 1, none⟩) (Kd.R_far (p := ⟨gb159, 0, none⟩) (Kd.R_far (p := ⟨gb158, 4, none⟩) (Kd.R_far (p := ⟨gb158, 3, none⟩) (Kd.R_far (p := ⟨gb158, 2, none⟩) (Kd.R_far (p := ⟨gb158, 1, none⟩) (Kd.R_far (p := ⟨gb158, 0, none⟩) (Kd.R_types (Kd.R_types HO151.out BK158.out (by decide)) BK159.out (by decide)) (fun _ hk => hk.1.2) (.int .i64 t146)) (fun _ hk => hk.1.2) (.int .i64 t147)) (fun _ hk => hk.1.2) (.string t148)) (fun _ hk => hk.1.2) (.slice Ao71 t149.length co71)) (fun _ hk => hk.1.2) (.slice Ao72 t152.length co72)) (fun _ hk => hk.2) (.int .i64 t155)) (fun _ hk => hk.2) (.int .i64 t156)) (fun _ h_ => h_.1)) (fun _ h_ => h_.1))) hb); have n1_ := Aside0.mk (Kd.R_below (by (with_reducible repeat (first | apply Kd.R_alloc | apply Kd.R_drewN | apply Kd.R_drew)); exact (Kd.R_mono (Kd.R_mono (Kd.R_far (p := ⟨gb159, 1, none⟩) (Kd.R_far (p := ⟨gb159, 0, none⟩) (Kd.R_far (p := ⟨gb158, 4, none⟩) (Kd.R_far (p := ⟨gb158, 3, none⟩) (Kd.R_far (p := ⟨gb158, 2, none⟩) (Kd.R_far (p := ⟨gb158, 1, none⟩) (Kd.R_far (p := ⟨gb158, 0, none⟩) (Kd.R_types (Kd.R_mono HO154.out (fun k_ hk => (⟨hk, hk.2⟩ : _ ∧ k_ ≠ gb158))) BK159.out (by decide)) (fun _ hk => hk.1.2) (.int .i64 t146)) (fun _ hk => hk.1.2) (.int .i64 t147)) (fun _ hk => hk.1.2) (.string t148)) (fun _ hk => hk.1.2) (.slice Ao71 t149.length co71)) (fun _ hk => hk.1.2) (.slice Ao72 t152.length co72)) (fun _ hk => hk.2) (.int .i64 t155)) (fun _ hk => hk.2) (.int .i64 t156)) (fun _ h_ => h_.1)) (fun _ h_ => h_.1))) hb); have n2_ := Aside0.mk (blk_below (g := gb158) (o := .cells #[.int .i64 t146, .int .i64 t147, .string t148, .slice Ao71 t149.length co71, .slice Ao72 t152.length co72] 27 (0, 0)) (by (with_reducible repeat (first | refine blk_drewN ?_ _ | refine blk_drew ?_ | refine blk_alloc ?_ _)); refine blk_far ?_ NB158_159.out _; (with_reducible repeat (first | refine blk_drewN ?_ _ | refine blk_drew ?_ | refine blk_alloc ?_ _)); refine blk_far ?_ NB158_159.out _; (with_reducible repeat (first | refine blk_drewN ?_ _ | refine blk_drew ?_ | refine blk_alloc ?_ _)); refine blk_put (cs := #[.int .i64 t146, .int .i64 t147, .string t148, .slice Ao71 t149.length co71, .slice none 0 0]) ?_ 4 _ rfl; (with_reducible repeat (first | refine blk_drewN ?_ _ | refine blk_drew ?_ | refine blk_alloc ?_ _)); refine blk_put (cs := #[.int .i64 t146, .int .i64 t147, .string t148, .slice none 0 0, .slice none 0 0]) ?_ 3 _ rfl; (with_reducible repeat (first | refine blk_drewN ?_ _ | refine blk_drew ?_ | refine blk_alloc ?_ _)); refine blk_put (cs := #[.int .i64 t146, .int .i64 t147, .string (⟨#[]⟩ : ByteArray), .slice none 0 0, .slice none 0 0]) ?_ 2 _ rfl; (with_reducible repeat (first | refine blk_drewN ?_ _ | refine blk_drew ?_ | refine blk_alloc ?_ _)); refine blk_put (cs := #[.int .i64 t146, .int .i64 0, .string (⟨#[]⟩ : ByteArray), .slice none 0 0, .slice none 0 0]) ?_ 1 _ rfl; (with_reducible repeat (first | refine blk_drewN ?_ _ | refine blk_drew ?_ | refine blk_alloc ?_ _)); refine blk_put (cs := #[.int .i64 0, .int .i64 0, .string (⟨#[]⟩ : ByteArray), .slice none 0 0, .slice none 0 0]) ?_ 0 _ rfl; (with_reducible repeat (first | refine blk_drewN ?_ _ | refine blk_drew ?_ | refine blk_alloc ?_ _)); exact BK158.out) hb); have n3_ := Aside0.mk (blk_below (g := gb159) (o := .cells #[.int .i64 t155, .int .i64 t156] 29 (0, 0)) (by (with_reducible repeat (first | refine blk_drewN ?_ _ | refine blk_drew ?_ | refine blk_alloc ?_ _)); refine blk_put (cs := #[.int .i64 t155, .int .i64 0]) ?_ 1 _ rfl; (with_reducible repeat (first | refine blk_drewN ?_ _ | refine blk_drew ?_ | refine blk_alloc ?_ _)); refine blk_put (cs := #[.int .i64 0, .int .i64 0]) ?_ 0 _ rfl; (with_reducible repeat (first | refine blk_drewN ?_ _ | refine blk_drew ?_ | refine blk_alloc ?_ _)); refine blk_far ?_ NB159_158.out _; (with_reducible repeat (first | refine blk_drewN ?_ _ | refine blk_drew ?_ | refine blk_alloc ?_ _)); refine blk_far ?_ NB159_158.out _; (with_reducible repeat (first | refine blk_drewN ?_ _ | refine blk_drew ?_ | refine blk_alloc ?_ _)); refine blk_far ?_ NB159_158.out _; (with_reducible repeat (first | refine blk_drewN ?_ _ | refine blk_drew ?_ | refine blk_alloc ?_ _)); refine blk_far ?_ NB159_158.out _; (with_reducible repeat (first | refine blk_drewN ?_ _ | refine blk_drew ?_ | refine blk_alloc ?_ _)); refine blk_far ?_ NB159_158.out _; (with_reducible repeat (first | refine blk_drewN ?_ _ | refine blk_drew ?_ | refine blk_alloc ?_ _)); exact BK159.out) hb); have n4_ := Aside0.mk (below_step (by repeat (first | (with_reducible first | exact HB.out | apply below_alloc | apply pw_below_drewN | apply below_drew1 | refine below_set ?_ GE158.out | refine below_set ?_ GE159.out) | exact HB.out)) hb); clear HO151; clear HO154; clear BK158; clear BK159; clear HB; have HO151 := n0_; have HO154 := n1_; have BK158 := n2_; have BK159 := n3_; have HB := n4_; clear n0_ n1_ n2_ n3_ n4_; (try clear hb); (try clear hb2); (try clear hk); (try clear hi)))
                  go_ret
                  exact ⟨by first | rfl | (simp [errW_none, errW_some] <;> rfl) | (simp [*, errW_none, errW_some] <;> rfl), by repeat (first | (with_reducible first | exact HB.out | apply below_alloc | apply pw_below_drewN | apply below_drew1 | refine below_set ?_ GE158.out | refine below_set ?_ GE159.out) | exact HB.out)⟩
                · rw [if_neg c64] at H
                  have c64b0 : (t157 == 0) = false := beq_eq_false_iff_ne.mpr c64
                  have c64b1 : (t157 != 0) = true := bne_iff_ne.mpr c64
                  obtain rfl := Option.some.inj H
                  go_wp2_with (first | ((with_reducible refine gate_callee (f := 8) rfl ?_); refine goesL_ (some 48) rfl rfl Tryd.func8 (by kernel_rfl) rfl #[.string ((x6_1 ++ (⟨#[49]⟩ : ByteArray)) ++ x7_1)] rfl (by (try simp only [List.map_toArray, List.map_cons, List.map_nil]); first | done | rfl | (simp only [List.length_drop, List.length_take]; rfl)) ?_; (with_reducible refine (brace_Parse.calls ((x6_1 ++ (⟨#[49]⟩ : ByteArray)) ++ x7_1) t146 t147 t148 t149 t152 t155 t156 t157 _ A27.out).mono ?_); rintro e w75 ⟨v150, v153, rfl, ho0, ho1, hb⟩; refine ⟨_, rfl, ?_⟩; have n0_ := Aside0.mk (Kd.R_lower ho0 (below_size (by repeat (first | (with_reducible first | exact HB.out | apply below_alloc | apply pw_below_drewN | apply below_drew1) | exact HB.out)))); have n1_ := Aside0.mk (Kd.R_lower ho1 (below_size (by repeat (first | (with_reducible first | exact HB.out | apply below_alloc | apply pw_below_drewN | apply below_drew1) | exact HB.out)))); have n2_ := Aside0.mk (below_step (by repeat (first | (with_reducible first | exact HB.out | apply below_alloc | apply pw_below_drewN | apply below_drew1) | exact HB.out)) hb); clear HB; have HO151 := n0_; have HO154 := n1_; have HB := n2_; clear n0_ n1_ n2_; (try clear hb); (try clear hb2); (try clear hk); (try clear hi); (try clear ho0); (try clear ho1)) | ((with_reducible refine gate_dst (N := 11) rfl ?_); refine box_event ?hg (N := 11) ?hd (cs := #[.int .i64 0, .int .i64 0, .string (⟨#[]⟩ : ByteArray), .slice none 0 0, .slice none 0 0]) (t := 27) ?hr ?_; (case hd => rfl); (case hg => rfl); (case hr => first | (go_simp; done) | (go_simp; rfl)); intro gb158 hg w76 hbox hb; have n0_ := Aside0.mk (Kd.R_below (by (with_reducible repeat (first | apply Kd.R_alloc | apply Kd.R_drewN | apply Kd.R_drew)); exact HO151.out) hb); have n1_ := Aside0.mk (Kd.R_below (Kd.R_elderB (by (with_reducible repeat (first | apply Kd.R_alloc | apply Kd.R_drewN | apply Kd.R_drew)); exact HO154.out) gb158 (Nat.le_of_eq hg.symm)) hb); have n2_ := Aside0.mk (below_step (by repeat (first | (with_reducible first | exact HB.out | apply below_alloc | apply pw_below_drewN | apply below_drew1) | exact HB.out)) hb); have n3_ := Aside0.mk (hbox); have n4_ := Aside0.mk ((by rw [hg]; exact (below_size (by repeat (first | (with_reducible first | exact HB.out | apply below_alloc | apply pw_below_drewN | apply below_drew1) | exact HB.out))) : w.heap.size ≤ gb158)); have n5_ := Aside0.mk ((by rw [hg]; exact (below_size (by repeat (first | (with_reducible first | exact HB.out | apply below_alloc | apply pw_below_drewN | apply below_drew1) | exact HB.out))) : w.heap.size ≤ gb158)); clear HO151; clear HO154; clear HB; have HO151 := n0_; have HO154 := n1_; have HB := n2_; have BK158 := n3_; have GW158 := n4_; have GE158 := n5_; clear n0_ n1_ n2_ n3_ n4_ n5_; clear hb hbox hg) | ((with_reducible refine gate_dst (N := 12) rfl ?_); refine box_event ?hg (N := 12) ?hd (cs := #[.int .i64 0, .int .i64 0]) (t := 29) ?hr ?_; (case hd => rfl); (case hg => rfl); (case hr => first | (go_simp; done) | (go_simp; rfl)); intro gb159 hg w77 hbox hb; have n0_ := Aside0.mk (Kd.R_below (by (with_reducible repeat (first | apply Kd.R_alloc | apply Kd.R_drewN | apply Kd.R_drew)); exact HO151.out) hb); have n1_ := Aside0.mk (Kd.R_below (by (with_reducible repeat (first | apply Kd.R_alloc | apply Kd.R_drewN | apply Kd.R_drew)); exact HO154.out) hb); have n2_ := Aside0.mk (blk_below (g := gb158) (o := .cells #[.int .i64 0, .int .i64 0, .string (⟨#[]⟩ : ByteArray), .slice none 0 0, .slice none 0 0] 27 (0, 0)) (by (with_reducible repeat (first | refine blk_drewN ?_ _ | refine blk_drew ?_ | refine blk_alloc ?_ _)); exact BK158.out) hb); have n3_ := Aside0.mk (below_step (by repeat (first | (with_reducible first | exact HB.out | apply below_alloc | apply pw_below_drewN | apply below_drew1 | refine below_set ?_ GE158.out) | exact HB.out)) hb); have n4_ := Aside0.mk (hbox); have n5_ := Aside0.mk ((by rw [hg]; exact (below_size (by repeat (first | (with_reducible first | exact HB.out | apply below_alloc | apply pw_below_drewN | apply below_drew1 | refine below_set ?_ GE158.out) | exact HB.out))) : w.heap.size ≤ gb159)); have n6_ := Aside0.mk ((by rw [hg]; exact (below_size (by repeat (first | (with_reducible first | exact HB.out | apply below_alloc | apply pw_below_drewN | apply below_drew1 | refine below_set ?_ GE158.out) | exact HB.out))) : w.heap.size ≤ gb159)); have n7_ := Aside0.mk ((by rw [hg]; exact Nat.ne_of_lt (blk_lt (g := gb158) (o := .cells #[.int .i64 0, .int .i64 0, .string (⟨#[]⟩ : ByteArray), .slice none 0 0, .slice none 0 0] 27 (0, 0)) (by (with_reducible repeat (first | refine blk_drewN ?_ _ | refine blk_drew ?_ | refine blk_alloc ?_ _)); exact BK158.out)) : gb158 ≠ gb159)); have n8_ := Aside0.mk ((by rw [hg]; exact Nat.ne_of_gt (blk_lt (g := gb158) (o := .cells #[.int .i64 0, .int .i64 0, .string (⟨#[]⟩ : ByteArray), .slice none 0 0, .slice none 0 0] 27 (0, 0)) (by (with_reducible repeat (first | refine blk_drewN ?_ _ | refine blk_drew ?_ | refine blk_alloc ?_ _)); exact BK158.out)) : gb159 ≠ gb158)); clear HO151; clear HO154; clear BK158; clear HB; have HO151 := n0_; have HO154 := n1_; have BK158 := n2_; have HB := n3_; have BK159 := n4_; have GW159 := n5_; have GE159 := n6_; have NB158_159 := n7_; have NB159_158 := n8_; clear n0_ n1_ n2_ n3_ n4_ n5_ n6_ n7_ n8_; clear hb hbox hg; have hnb78 := NB158_159.out; have hnc78 := NB159_158.out; have hcz79_0 : w77.cell? ⟨gb158, 0, none⟩ = some (.int .i64 0) := (blk_cell BK158.out 0).trans rfl; have hcz79_1 : w77.cell? ⟨gb158, 1, none⟩ = some (.int .i64 0) := (blk_cell BK158.out 1).trans rfl; have hcz79_2 : w77.cell? ⟨gb158, 2, none⟩ = some (.string (⟨#[]⟩ : ByteArray)) := (blk_cell BK158.out 2).trans rfl; have hcz79_3 : w77.cell? ⟨gb158, 3, none⟩ = some (.slice none 0 0) := (blk_cell BK158.out 3).trans rfl; have hcz79_4 : w77.cell? ⟨gb158, 4, none⟩ = some (.slice none 0 0) := (blk_cell BK158.out 4).trans rfl; have hfz79_0 := blk_frozen BK158.out 0; have hfz79_1 := blk_frozen BK158.out 1; have hfz79_2 := blk_frozen BK158.out 2; have hfz79_3 := blk_frozen BK158.out 3; have hfz79_4 := blk_frozen BK158.out 4; obtain ⟨Ao80, co80, eo80⟩ := Kd.R_slice HO151.out; subst eo80; obtain ⟨Ao81, co81, eo81⟩ := Kd.R_slice HO154.out; subst eo81; have hcz82_0 : w77.cell? ⟨gb159, 0, none⟩ = some (.int .i64 0) := (blk_cell BK159.out 0).trans rfl; have hcz82_1 : w77.cell? ⟨gb159, 1, none⟩ = some (.int .i64 0) := (blk_cell BK159.out 1).trans rfl; have hfz82_0 := blk_frozen BK159.out 0; have hfz82_1 := blk_frozen BK159.out 1))
                  go_ret
                  exact ⟨by first | rfl | (simp [errW_none, errW_some] <;> rfl) | (simp [*, errW_none, errW_some] <;> rfl), by repeat (first | (with_reducible first | exact HB.out | apply below_alloc | apply pw_below_drewN | apply below_drew1 | refine below_set ?_ GE158.out | refine below_set ?_ GE159.out) | exact HB.out)⟩
            · rw [if_neg c26] at H
              exact absurd H (by simp)
          · rw [if_neg c25] at H
            exact absurd H (by simp)
  · replace c4 := Bool.eq_false_iff.mpr c4
    subst c4
    have H1 : (some false) = some r := by rw [if_neg (show ¬ (false = true) by decide)] at H; exact H
    clear H
    have H := H1
    clear H1
    obtain rfl := Option.some.inj H
    go_enter Tryd.func3, Tryd.ntmps3
    go_wp2_with (first | ((with_reducible refine gate_callee (f := 6) rfl ?_); refine goesL_ (some 14) rfl rfl Tryd.func6 (by kernel_rfl) rfl #[] rfl (by (try simp only [List.map_toArray, List.map_cons, List.map_nil]); first | done | rfl | (simp only [List.length_drop, List.length_take]; rfl)) ?_; (with_reducible refine (transhumancelaw5_known.calls  false _ ?side1 A3.out).mono ?_); (case side1 => exact Tab.below HT.out (by repeat (first | (with_reducible first | exact HB.out | apply below_alloc | apply pw_below_drewN | apply below_drew1) | exact HB.out))); rintro e w83 ⟨rfl, hb⟩; refine ⟨_, rfl, ?_⟩; have n0_ := Aside0.mk (below_step (by repeat (first | (with_reducible first | exact HB.out | apply below_alloc | apply pw_below_drewN | apply below_drew1) | exact HB.out)) hb); clear HB; have HB := n0_; clear n0_; (try clear hb); (try clear hb2); (try clear hk); (try clear hi)))
    go_ret
    exact ⟨by first | rfl | (simp [errW_none, errW_some] <;> rfl) | (simp [*, errW_none, errW_some] <;> rfl), by repeat (first | (with_reducible first | exact HB.out | apply below_alloc | apply pw_below_drewN | apply below_drew1) | exact HB.out)⟩

/-- THE ONE PURE STATEMENT of transhumancelaw5_BraceDeep: yours. -/
def transhumancelaw5_BraceDeep.Pure : Prop := ∀ (a0 : Int) (a1 : Bool), (Lit.int .i64 a0).wf = true → ∃ k, transhumancelaw5_BraceDeep.f k a0 a1 = some true
theorem transhumancelaw5_BraceDeep.walk (P : transhumancelaw5_BraceDeep.Pure) (a0 : Int) (a1 : Bool) (w : World) (w0 : (Lit.int .i64 a0).wf = true) (hTab : Tab w) :
    Calls Tryd.prog 3 #[.int .i64 a0, .bool a1] w fun e w' => e = .returned (.bool true) ∧ Below w.heap.size w w' := by
  obtain ⟨k, h⟩ := P a0 a1 w0
  refine (transhumancelaw5_BraceDeep.calls k a0 a1 true w hTab h).mono ?_
  rintro e w' ⟨rfl, hd⟩
  exact ⟨rfl, hd⟩

end Go.Proofs.YtnijnemkjnnolaaDoor.P
