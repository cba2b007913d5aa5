-- Written by a program of this session (wip/mp): the kit's print, with contracts proved by hand let in as printed ones.
import Derived.Test.YtnijnemkjnnolaaDoorPx0
import Derived.Test.YtnijnemkjnnolaaDoorPx2
import Derived.Test.YtnijnemkjnnolaaDoorPx5
import Derived.Test.YtnijnemkjnnolaaDoorPx9
namespace Go.Proofs.YtnijnemkjnnolaaDoor.P
open Go.RowKit Go.Proofs.YtnijnemkjnnolaaDoorW.PrintWords Go.Proofs.YtnijnemkjnnolaaDoorW.PrintLast Go.Proofs.YtnijnemkjnnolaaDoorW.PrintMore
attribute [local go_sem] max2_int min2_int max_two min_two max_three min_three max_four min_four   -- for this text's walks alone
set_option linter.unusedVariables false
set_option linter.unusedSimpArgs false

/-! ### path_signs: function 67 -/
def path_signs.l0 : Nat → ByteArray → Int → Int → Option (Bool)
  | 0, _, _, _ => none
  | k + 1, x0, x6, x7 => if x7 < x6 then (if 0 ≤ x7 then (if x7 < (x0.size : Int) then (if (bt x0 x7) ≥ 97 then (if (bt x0 x7) ≤ 122 then (path_signs.l0 k x0 x6 (wrap64 (x7 + 1))) else (if (bt x0 x7) ≥ 48 then (if (bt x0 x7) ≤ 57 then (path_signs.l0 k x0 x6 (wrap64 (x7 + 1))) else (if (bt x0 x7) = 46 then (path_signs.l0 k x0 x6 (wrap64 (x7 + 1))) else (if (bt x0 x7) = 45 then (path_signs.l0 k x0 x6 (wrap64 (x7 + 1))) else (if ((bt x0 x7) = 95) then (path_signs.l0 k x0 x6 (wrap64 (x7 + 1))) else (some false))))) else (if (bt x0 x7) = 46 then (path_signs.l0 k x0 x6 (wrap64 (x7 + 1))) else (if (bt x0 x7) = 45 then (path_signs.l0 k x0 x6 (wrap64 (x7 + 1))) else (if ((bt x0 x7) = 95) then (path_signs.l0 k x0 x6 (wrap64 (x7 + 1))) else (some false)))))) else (if (bt x0 x7) ≥ 48 then (if (bt x0 x7) ≤ 57 then (path_signs.l0 k x0 x6 (wrap64 (x7 + 1))) else (if (bt x0 x7) = 46 then (path_signs.l0 k x0 x6 (wrap64 (x7 + 1))) else (if (bt x0 x7) = 45 then (path_signs.l0 k x0 x6 (wrap64 (x7 + 1))) else (if ((bt x0 x7) = 95) then (path_signs.l0 k x0 x6 (wrap64 (x7 + 1))) else (some false))))) else (if (bt x0 x7) = 46 then (path_signs.l0 k x0 x6 (wrap64 (x7 + 1))) else (if (bt x0 x7) = 45 then (path_signs.l0 k x0 x6 (wrap64 (x7 + 1))) else (if ((bt x0 x7) = 95) then (path_signs.l0 k x0 x6 (wrap64 (x7 + 1))) else (some false)))))) else (none)) else (none)) else (some true)
def path_signs.f (k : Nat) (a0 : ByteArray) : Option (Bool) := path_signs.l0 k a0 (a0.size : Int) 0
theorem path_signs.mono_l : ∀ k, (∀ y0 y1 y2, LeO (path_signs.l0 k y0 y1 y2) (path_signs.l0 (k + 1) y0 y1 y2))
  | 0 => fun _ _ _ r h => by simp [path_signs.l0] at h
  | k + 1 => by
    have ih0 := path_signs.mono_l k
    · intro y0 y1 y2
      unfold path_signs.l0
      repeat' first
      | (with_reducible exact ih0 _ _ _)
      | (with_reducible exact LeO.refl _)
      | (with_reducible exact LeO.none _)
      | (with_reducible refine LeO.ite ?_ ?_)
      | (with_reducible refine LeO.bind ?_ (fun _ => ?_))
      | exact ih0 _ _ _
      | exact LeO.none _
      | refine LeO.ite ?_ ?_
      | refine LeO.bind ?_ (fun _ => ?_)
theorem path_signs.mono : ∀ a0 k, LeO (path_signs.f k a0) (path_signs.f (k + 1) a0) := by
  intro a0 k
  have ih0 := path_signs.mono_l k
  unfold path_signs.f
  repeat' first
      | (with_reducible exact ih0 _ _ _)
      | (with_reducible exact LeO.refl _)
      | (with_reducible exact LeO.none _)
      | (with_reducible refine LeO.ite ?_ ?_)
      | (with_reducible refine LeO.bind ?_ (fun _ => ?_))
      | exact ih0 _ _ _
      | exact LeO.none _
      | refine LeO.ite ?_ ?_
      | refine LeO.bind ?_ (fun _ => ?_)
set_option maxHeartbeats 8000000 in
set_option maxRecDepth 100000 in
theorem path_signs.calls (k : Nat) (a0 : ByteArray) (r : Bool) (w : World) (h : path_signs.f k a0 = some r) :
    Calls Tryd.prog 67 #[.string a0] w fun e w' => e = .returned (.bool r) ∧ Drawn0 w w' := by
  have H : (path_signs.l0 k a0 (a0.size : Int) 0) = some r := h
  clear h
  have H' := Aside0.mk H
  clear H
  go_enter Tryd.func67, Tryd.ntmps67
  go_wp2
  go_loopg [7] k (fun kq v7 w' => ∃ (x7_1 : Int), v7 = .int .i64 x7_1 ∧ Aside0 (path_signs.l0 kq a0 (a0.size : Int) x7_1 = some r) ∧ Aside0 (kq ≤ k) ∧ Drawn0 w w')
  case atStart => exact ⟨(0), (by first | rfl | (simp; done) | (simp [*]; done)), H', ⟨Nat.le_refl _⟩, by repeat (first | exact Drawn0.refl _ | apply Drawn0.step)⟩
  case round =>
    clear H'
    obtain ⟨x7_1, rfl, HA, HK1, ⟨m1, rfl⟩⟩ := hrel
    cases gk with
    | zero => exact absurd HA.out (by simp [path_signs.l0])
    | succ k1 =>
      have H := HA.out
      clear HA
      simp only [path_signs.l0] at H
      by_cases c2 : x7_1 < (a0.size : Int)
      · rw [if_pos c2] at H
        have c2b0 : decide (x7_1 < (a0.size : Int)) = true := decide_eq_true c2
        clear c2
        by_cases c3 : 0 ≤ x7_1
        · rw [if_pos c3] at H
          have c3b0 : decide (0 ≤ x7_1) = true := decide_eq_true c3
          clear c3
          by_cases c4 : x7_1 < (a0.size : Int)
          · rw [if_pos c4] at H
            have c4b0 : decide (x7_1 < (a0.size : Int)) = true := decide_eq_true c4
            clear c4
            by_cases c6 : (bt a0 x7_1) ≥ 97
            · rw [if_pos c6] at H
              have c6b0 : decide (97 ≤ (bt a0 x7_1)) = true := decide_eq_true c6
              clear c6
              by_cases c7 : (bt a0 x7_1) ≤ 122
              · rw [if_pos c7] at H
                have c7b0 : decide ((bt a0 x7_1) ≤ 122) = true := decide_eq_true c7
                clear c7
                have H' := Aside0.mk H
                clear H
                have p5 : 0 ≤ (x7_1 : Int) := of_decide_eq_true (by first | (with_reducible assumption) | assumption)
                have q5 : x7_1 < (a0.size : Int) := of_decide_eq_true (by first | (with_reducible assumption) | assumption)
                have hx5 := bt_at a0 x7_1
                replace p5 := eq_true p5
                replace q5 := eq_true q5
                go_wp2
                go_roundg k1
                case measure => have := HK1.out; omega
                case rel => exact ⟨(wrap64 (x7_1 + 1)), (by first | rfl | (simp; done) | (simp [*]; done)), H', ⟨by have := HK1.out; omega⟩, by repeat (first | exact Drawn0.refl _ | apply Drawn0.step)⟩
              · rw [if_neg c7] at H
                have c7b0 : decide ((bt a0 x7_1) ≤ 122) = false := decide_eq_false c7
                clear c7
                by_cases c8 : (bt a0 x7_1) ≥ 48
                · rw [if_pos c8] at H
                  have c8b0 : decide (48 ≤ (bt a0 x7_1)) = true := decide_eq_true c8
                  clear c8
                  by_cases c9 : (bt a0 x7_1) ≤ 57
                  · rw [if_pos c9] at H
                    have c9b0 : decide ((bt a0 x7_1) ≤ 57) = true := decide_eq_true c9
                    clear c9
                    have H' := Aside0.mk H
                    clear H
                    have p5 : 0 ≤ (x7_1 : Int) := of_decide_eq_true (by first | (with_reducible assumption) | assumption)
                    have q5 : x7_1 < (a0.size : Int) := of_decide_eq_true (by first | (with_reducible assumption) | assumption)
                    have hx5 := bt_at a0 x7_1
                    replace p5 := eq_true p5
                    replace q5 := eq_true q5
                    go_wp2
                    go_roundg k1
                    case measure => have := HK1.out; omega
                    case rel => exact ⟨(wrap64 (x7_1 + 1)), (by first | rfl | (simp; done) | (simp [*]; done)), H', ⟨by have := HK1.out; omega⟩, by repeat (first | exact Drawn0.refl _ | apply Drawn0.step)⟩
                  · rw [if_neg c9] at H
                    have c9b0 : decide ((bt a0 x7_1) ≤ 57) = false := decide_eq_false c9
                    clear c9
                    by_cases c10 : (bt a0 x7_1) = 46
                    · rw [if_pos c10] at H
                      have c10b0 : ((bt a0 x7_1) == 46) = true := beq_iff_eq.mpr c10
                      have c10b1 : ((bt a0 x7_1) != 46) = false := bne_eq_false_iff_eq.mpr c10
                      clear c10
                      have H' := Aside0.mk H
                      clear H
                      have p5 : 0 ≤ (x7_1 : Int) := of_decide_eq_true (by first | (with_reducible assumption) | assumption)
                      have q5 : x7_1 < (a0.size : Int) := of_decide_eq_true (by first | (with_reducible assumption) | assumption)
                      have hx5 := bt_at a0 x7_1
                      replace p5 := eq_true p5
                      replace q5 := eq_true q5
                      go_wp2
                      go_roundg k1
                      case measure => have := HK1.out; omega
                      case rel => exact ⟨(wrap64 (x7_1 + 1)), (by first | rfl | (simp; done) | (simp [*]; done)), H', ⟨by have := HK1.out; omega⟩, by repeat (first | exact Drawn0.refl _ | apply Drawn0.step)⟩
                    · rw [if_neg c10] at H
                      have c10b0 : ((bt a0 x7_1) == 46) = false := beq_eq_false_iff_ne.mpr c10
                      have c10b1 : ((bt a0 x7_1) != 46) = true := bne_iff_ne.mpr c10
                      by_cases c11 : (bt a0 x7_1) = 45
                      · rw [if_pos c11] at H
                        have c11b0 : ((bt a0 x7_1) == 45) = true := beq_iff_eq.mpr c11
                        have c11b1 : ((bt a0 x7_1) != 45) = false := bne_eq_false_iff_eq.mpr c11
                        clear c11
                        have H' := Aside0.mk H
                        clear H
                        have p5 : 0 ≤ (x7_1 : Int) := of_decide_eq_true (by first | (with_reducible assumption) | assumption)
                        have q5 : x7_1 < (a0.size : Int) := of_decide_eq_true (by first | (with_reducible assumption) | assumption)
                        have hx5 := bt_at a0 x7_1
                        replace p5 := eq_true p5
                        replace q5 := eq_true q5
                        go_wp2
                        go_roundg k1
                        case measure => have := HK1.out; omega
                        case rel => exact ⟨(wrap64 (x7_1 + 1)), (by first | rfl | (simp; done) | (simp [*]; done)), H', ⟨by have := HK1.out; omega⟩, by repeat (first | exact Drawn0.refl _ | apply Drawn0.step)⟩
                      · rw [if_neg c11] at H
                        have c11b0 : ((bt a0 x7_1) == 45) = false := beq_eq_false_iff_ne.mpr c11
                        have c11b1 : ((bt a0 x7_1) != 45) = true := bne_iff_ne.mpr c11
                        by_cases c12 : ((bt a0 x7_1) = 95)
                        · rw [if_pos c12] at H
                          have c12b0 : ((bt a0 x7_1) == 95) = true := beq_iff_eq.mpr c12
                          have c12b1 : ((bt a0 x7_1) != 95) = false := bne_eq_false_iff_eq.mpr c12
                          clear c12
                          have H' := Aside0.mk H
                          clear H
                          have p5 : 0 ≤ (x7_1 : Int) := of_decide_eq_true (by first | (with_reducible assumption) | assumption)
                          have q5 : x7_1 < (a0.size : Int) := of_decide_eq_true (by first | (with_reducible assumption) | assumption)
                          have hx5 := bt_at a0 x7_1
                          replace p5 := eq_true p5
                          replace q5 := eq_true q5
                          go_wp2
                          go_roundg k1
                          case measure => have := HK1.out; omega
                          case rel => exact ⟨(wrap64 (x7_1 + 1)), (by first | rfl | (simp; done) | (simp [*]; done)), H', ⟨by have := HK1.out; omega⟩, by repeat (first | exact Drawn0.refl _ | apply Drawn0.step)⟩
                        · rw [if_neg c12] at H
                          have c12b0 : ((bt a0 x7_1) == 95) = false := beq_eq_false_iff_ne.mpr c12
                          have c12b1 : ((bt a0 x7_1) != 95) = true := bne_iff_ne.mpr c12
                          obtain rfl := Option.some.inj H
                          have p5 : 0 ≤ (x7_1 : Int) := of_decide_eq_true (by first | (with_reducible assumption) | assumption)
                          have q5 : x7_1 < (a0.size : Int) := of_decide_eq_true (by first | (with_reducible assumption) | assumption)
                          have hx5 := bt_at a0 x7_1
                          replace p5 := eq_true p5
                          replace q5 := eq_true q5
                          go_wp2
                          go_ret
                          exact ⟨by first | rfl | (simp; done) | (simp [*]; done), by repeat (first | exact Drawn0.refl _ | apply Drawn0.step)⟩
                · rw [if_neg c8] at H
                  have c8b0 : decide (48 ≤ (bt a0 x7_1)) = false := decide_eq_false c8
                  clear c8
                  by_cases c13 : (bt a0 x7_1) = 46
                  · rw [if_pos c13] at H
                    have c13b0 : ((bt a0 x7_1) == 46) = true := beq_iff_eq.mpr c13
                    have c13b1 : ((bt a0 x7_1) != 46) = false := bne_eq_false_iff_eq.mpr c13
                    clear c13
                    have H' := Aside0.mk H
                    clear H
                    have p5 : 0 ≤ (x7_1 : Int) := of_decide_eq_true (by first | (with_reducible assumption) | assumption)
                    have q5 : x7_1 < (a0.size : Int) := of_decide_eq_true (by first | (with_reducible assumption) | assumption)
                    have hx5 := bt_at a0 x7_1
                    replace p5 := eq_true p5
                    replace q5 := eq_true q5
                    go_wp2
                    go_roundg k1
                    case measure => have := HK1.out; omega
                    case rel => exact ⟨(wrap64 (x7_1 + 1)), (by first | rfl | (simp; done) | (simp [*]; done)), H', ⟨by have := HK1.out; omega⟩, by repeat (first | exact Drawn0.refl _ | apply Drawn0.step)⟩
                  · rw [if_neg c13] at H
                    have c13b0 : ((bt a0 x7_1) == 46) = false := beq_eq_false_iff_ne.mpr c13
                    have c13b1 : ((bt a0 x7_1) != 46) = true := bne_iff_ne.mpr c13
                    by_cases c14 : (bt a0 x7_1) = 45
                    · rw [if_pos c14] at H
                      have c14b0 : ((bt a0 x7_1) == 45) = true := beq_iff_eq.mpr c14
                      have c14b1 : ((bt a0 x7_1) != 45) = false := bne_eq_false_iff_eq.mpr c14
                      clear c14
                      have H' := Aside0.mk H
                      clear H
                      have p5 : 0 ≤ (x7_1 : Int) := of_decide_eq_true (by first | (with_reducible assumption) | assumption)
                      have q5 : x7_1 < (a0.size : Int) := of_decide_eq_true (by first | (with_reducible assumption) | assumption)
                      have hx5 := bt_at a0 x7_1
                      replace p5 := eq_true p5
                      replace q5 := eq_true q5
                      go_wp2
                      go_roundg k1
                      case measure => have := HK1.out; omega
                      case rel => exact ⟨(wrap64 (x7_1 + 1)), (by first | rfl | (simp; done) | (simp [*]; done)), H', ⟨by have := HK1.out; omega⟩, by repeat (first | exact Drawn0.refl _ | apply Drawn0.step)⟩
                    · rw [if_neg c14] at H
                      have c14b0 : ((bt a0 x7_1) == 45) = false := beq_eq_false_iff_ne.mpr c14
                      have c14b1 : ((bt a0 x7_1) != 45) = true := bne_iff_ne.mpr c14
                      by_cases c15 : ((bt a0 x7_1) = 95)
                      · rw [if_pos c15] at H
                        have c15b0 : ((bt a0 x7_1) == 95) = true := beq_iff_eq.mpr c15
                        have c15b1 : ((bt a0 x7_1) != 95) = false := bne_eq_false_iff_eq.mpr c15
                        clear c15
                        have H' := Aside0.mk H
                        clear H
                        have p5 : 0 ≤ (x7_1 : Int) := of_decide_eq_true (by first | (with_reducible assumption) | assumption)
                        have q5 : x7_1 < (a0.size : Int) := of_decide_eq_true (by first | (with_reducible assumption) | assumption)
                        have hx5 := bt_at a0 x7_1
                        replace p5 := eq_true p5
                        replace q5 := eq_true q5
                        go_wp2
                        go_roundg k1
                        case measure => have := HK1.out; omega
                        case rel => exact ⟨(wrap64 (x7_1 + 1)), (by first | rfl | (simp; done) | (simp [*]; done)), H', ⟨by have := HK1.out; omega⟩, by repeat (first | exact Drawn0.refl _ | apply Drawn0.step)⟩
                      · rw [if_neg c15] at H
                        have c15b0 : ((bt a0 x7_1) == 95) = false := beq_eq_false_iff_ne.mpr c15
                        have c15b1 : ((bt a0 x7_1) != 95) = true := bne_iff_ne.mpr c15
                        obtain rfl := Option.some.inj H
                        have p5 : 0 ≤ (x7_1 : Int) := of_decide_eq_true (by first | (with_reducible assumption) | assumption)
                        have q5 : x7_1 < (a0.size : Int) := of_decide_eq_true (by first | (with_reducible assumption) | assumption)
                        have hx5 := bt_at a0 x7_1
                        replace p5 := eq_true p5
                        replace q5 := eq_true q5
                        go_wp2
                        go_ret
                        exact ⟨by first | rfl | (simp; done) | (simp [*]; done), by repeat (first | exact Drawn0.refl _ | apply Drawn0.step)⟩
            · rw [if_neg c6] at H
              have c6b0 : decide (97 ≤ (bt a0 x7_1)) = false := decide_eq_false c6
              clear c6
              by_cases c16 : (bt a0 x7_1) ≥ 48
              · rw [if_pos c16] at H
                have c16b0 : decide (48 ≤ (bt a0 x7_1)) = true := decide_eq_true c16
                clear c16
                by_cases c17 : (bt a0 x7_1) ≤ 57
                · rw [if_pos c17] at H
                  have c17b0 : decide ((bt a0 x7_1) ≤ 57) = true := decide_eq_true c17
                  clear c17
                  have H' := Aside0.mk H
                  clear H
                  have p5 : 0 ≤ (x7_1 : Int) := of_decide_eq_true (by first | (with_reducible assumption) | assumption)
                  have q5 : x7_1 < (a0.size : Int) := of_decide_eq_true (by first | (with_reducible assumption) | assumption)
                  have hx5 := bt_at a0 x7_1
                  replace p5 := eq_true p5
                  replace q5 := eq_true q5
                  go_wp2
                  go_roundg k1
                  case measure => have := HK1.out; omega
                  case rel => exact ⟨(wrap64 (x7_1 + 1)), (by first | rfl | (simp; done) | (simp [*]; done)), H', ⟨by have := HK1.out; omega⟩, by repeat (first | exact Drawn0.refl _ | apply Drawn0.step)⟩
                · rw [if_neg c17] at H
                  have c17b0 : decide ((bt a0 x7_1) ≤ 57) = false := decide_eq_false c17
                  clear c17
                  by_cases c18 : (bt a0 x7_1) = 46
                  · rw [if_pos c18] at H
                    have c18b0 : ((bt a0 x7_1) == 46) = true := beq_iff_eq.mpr c18
                    have c18b1 : ((bt a0 x7_1) != 46) = false := bne_eq_false_iff_eq.mpr c18
                    clear c18
                    have H' := Aside0.mk H
                    clear H
                    have p5 : 0 ≤ (x7_1 : Int) := of_decide_eq_true (by first | (with_reducible assumption) | assumption)
                    have q5 : x7_1 < (a0.size : Int) := of_decide_eq_true (by first | (with_reducible assumption) | assumption)
                    have hx5 := bt_at a0 x7_1
                    replace p5 := eq_true p5
                    replace q5 := eq_true q5
                    go_wp2
                    go_roundg k1
                    case measure => have := HK1.out; omega
                    case rel => exact ⟨(wrap64 (x7_1 + 1)), (by first | rfl | (simp; done) | (simp [*]; done)), H', ⟨by have := HK1.out; omega⟩, by repeat (first | exact Drawn0.refl _ | apply Drawn0.step)⟩
                  · rw [if_neg c18] at H
                    have c18b0 : ((bt a0 x7_1) == 46) = false := beq_eq_false_iff_ne.mpr c18
                    have c18b1 : ((bt a0 x7_1) != 46) = true := bne_iff_ne.mpr c18
                    by_cases c19 : (bt a0 x7_1) = 45
                    · rw [if_pos c19] at H
                      have c19b0 : ((bt a0 x7_1) == 45) = true := beq_iff_eq.mpr c19
                      have c19b1 : ((bt a0 x7_1) != 45) = false := bne_eq_false_iff_eq.mpr c19
                      clear c19
                      have H' := Aside0.mk H
                      clear H
                      have p5 : 0 ≤ (x7_1 : Int) := of_decide_eq_true (by first | (with_reducible assumption) | assumption)
                      have q5 : x7_1 < (a0.size : Int) := of_decide_eq_true (by first | (with_reducible assumption) | assumption)
                      have hx5 := bt_at a0 x7_1
                      replace p5 := eq_true p5
                      replace q5 := eq_true q5
                      go_wp2
                      go_roundg k1
                      case measure => have := HK1.out; omega
                      case rel => exact ⟨(wrap64 (x7_1 + 1)), (by first | rfl | (simp; done) | (simp [*]; done)), H', ⟨by have := HK1.out; omega⟩, by repeat (first | exact Drawn0.refl _ | apply Drawn0.step)⟩
                    · rw [if_neg c19] at H
                      have c19b0 : ((bt a0 x7_1) == 45) = false := beq_eq_false_iff_ne.mpr c19
                      have c19b1 : ((bt a0 x7_1) != 45) = true := bne_iff_ne.mpr c19
                      by_cases c20 : ((bt a0 x7_1) = 95)
                      · rw [if_pos c20] at H
                        have c20b0 : ((bt a0 x7_1) == 95) = true := beq_iff_eq.mpr c20
                        have c20b1 : ((bt a0 x7_1) != 95) = false := bne_eq_false_iff_eq.mpr c20
                        clear c20
                        have H' := Aside0.mk H
                        clear H
                        have p5 : 0 ≤ (x7_1 : Int) := of_decide_eq_true (by first | (with_reducible assumption) | assumption)
                        have q5 : x7_1 < (a0.size : Int) := of_decide_eq_true (by first | (with_reducible assumption) | assumption)
                        have hx5 := bt_at a0 x7_1
                        replace p5 := eq_true p5
                        replace q5 := eq_true q5
                        go_wp2
                        go_roundg k1
                        case measure => have := HK1.out; omega
                        case rel => exact ⟨(wrap64 (x7_1 + 1)), (by first | rfl | (simp; done) | (simp [*]; done)), H', ⟨by have := HK1.out; omega⟩, by repeat (first | exact Drawn0.refl _ | apply Drawn0.step)⟩
                      · rw [if_neg c20] at H
                        have c20b0 : ((bt a0 x7_1) == 95) = false := beq_eq_false_iff_ne.mpr c20
                        have c20b1 : ((bt a0 x7_1) != 95) = true := bne_iff_ne.mpr c20
                        obtain rfl := Option.some.inj H
                        have p5 : 0 ≤ (x7_1 : Int) := of_decide_eq_true (by first | (with_reducible assumption) | assumption)
                        have q5 : x7_1 < (a0.size : Int) := of_decide_eq_true (by first | (with_reducible assumption) | assumption)
                        have hx5 := bt_at a0 x7_1
                        replace p5 := eq_true p5
                        replace q5 := eq_true q5
                        go_wp2
                        go_ret
                        exact ⟨by first | rfl | (simp; done) | (simp [*]; done), by repeat (first | exact Drawn0.refl _ | apply Drawn0.step)⟩
              · rw [if_neg c16] at H
                have c16b0 : decide (48 ≤ (bt a0 x7_1)) = false := decide_eq_false c16
                clear c16
                by_cases c21 : (bt a0 x7_1) = 46
                · rw [if_pos c21] at H
                  have c21b0 : ((bt a0 x7_1) == 46) = true := beq_iff_eq.mpr c21
                  have c21b1 : ((bt a0 x7_1) != 46) = false := bne_eq_false_iff_eq.mpr c21
                  clear c21
                  have H' := Aside0.mk H
                  clear H
                  have p5 : 0 ≤ (x7_1 : Int) := of_decide_eq_true (by first | (with_reducible assumption) | assumption)
                  have q5 : x7_1 < (a0.size : Int) := of_decide_eq_true (by first | (with_reducible assumption) | assumption)
                  have hx5 := bt_at a0 x7_1
                  replace p5 := eq_true p5
                  replace q5 := eq_true q5
                  go_wp2
                  go_roundg k1
                  case measure => have := HK1.out; omega
                  case rel => exact ⟨(wrap64 (x7_1 + 1)), (by first | rfl | (simp; done) | (simp [*]; done)), H', ⟨by have := HK1.out; omega⟩, by repeat (first | exact Drawn0.refl _ | apply Drawn0.step)⟩
                · rw [if_neg c21] at H
                  have c21b0 : ((bt a0 x7_1) == 46) = false := beq_eq_false_iff_ne.mpr c21
                  have c21b1 : ((bt a0 x7_1) != 46) = true := bne_iff_ne.mpr c21
                  by_cases c22 : (bt a0 x7_1) = 45
                  · rw [if_pos c22] at H
                    have c22b0 : ((bt a0 x7_1) == 45) = true := beq_iff_eq.mpr c22
                    have c22b1 : ((bt a0 x7_1) != 45) = false := bne_eq_false_iff_eq.mpr c22
                    clear c22
                    have H' := Aside0.mk H
                    clear H
                    have p5 : 0 ≤ (x7_1 : Int) := of_decide_eq_true (by first | (with_reducible assumption) | assumption)
                    have q5 : x7_1 < (a0.size : Int) := of_decide_eq_true (by first | (with_reducible assumption) | assumption)
                    have hx5 := bt_at a0 x7_1
                    replace p5 := eq_true p5
                    replace q5 := eq_true q5
                    go_wp2
                    go_roundg k1
                    case measure => have := HK1.out; omega
                    case rel => exact ⟨(wrap64 (x7_1 + 1)), (by first | rfl | (simp; done) | (simp [*]; done)), H', ⟨by have := HK1.out; omega⟩, by repeat (first | exact Drawn0.refl _ | apply Drawn0.step)⟩
                  · rw [if_neg c22] at H
                    have c22b0 : ((bt a0 x7_1) == 45) = false := beq_eq_false_iff_ne.mpr c22
                    have c22b1 : ((bt a0 x7_1) != 45) = true := bne_iff_ne.mpr c22
                    by_cases c23 : ((bt a0 x7_1) = 95)
                    · rw [if_pos c23] at H
                      have c23b0 : ((bt a0 x7_1) == 95) = true := beq_iff_eq.mpr c23
                      have c23b1 : ((bt a0 x7_1) != 95) = false := bne_eq_false_iff_eq.mpr c23
                      clear c23
                      have H' := Aside0.mk H
                      clear H
                      have p5 : 0 ≤ (x7_1 : Int) := of_decide_eq_true (by first | (with_reducible assumption) | assumption)
                      have q5 : x7_1 < (a0.size : Int) := of_decide_eq_true (by first | (with_reducible assumption) | assumption)
                      have hx5 := bt_at a0 x7_1
                      replace p5 := eq_true p5
                      replace q5 := eq_true q5
                      go_wp2
                      go_roundg k1
                      case measure => have := HK1.out; omega
                      case rel => exact ⟨(wrap64 (x7_1 + 1)), (by first | rfl | (simp; done) | (simp [*]; done)), H', ⟨by have := HK1.out; omega⟩, by repeat (first | exact Drawn0.refl _ | apply Drawn0.step)⟩
                    · rw [if_neg c23] at H
                      have c23b0 : ((bt a0 x7_1) == 95) = false := beq_eq_false_iff_ne.mpr c23
                      have c23b1 : ((bt a0 x7_1) != 95) = true := bne_iff_ne.mpr c23
                      obtain rfl := Option.some.inj H
                      have p5 : 0 ≤ (x7_1 : Int) := of_decide_eq_true (by first | (with_reducible assumption) | assumption)
                      have q5 : x7_1 < (a0.size : Int) := of_decide_eq_true (by first | (with_reducible assumption) | assumption)
                      have hx5 := bt_at a0 x7_1
                      replace p5 := eq_true p5
                      replace q5 := eq_true q5
                      go_wp2
                      go_ret
                      exact ⟨by first | rfl | (simp; done) | (simp [*]; done), by repeat (first | exact Drawn0.refl _ | apply Drawn0.step)⟩
          · rw [if_neg c4] at H
            exact absurd H (by simp)
        · rw [if_neg c3] at H
          exact absurd H (by simp)
      · rw [if_neg c2] at H
        have c2b0 : decide (x7_1 < (a0.size : Int)) = false := decide_eq_false c2
        clear c2
        obtain rfl := Option.some.inj H
        go_wp2
        go_ret
        exact ⟨by first | rfl | (simp; done) | (simp [*]; done), by repeat (first | exact Drawn0.refl _ | apply Drawn0.step)⟩

/-! ### path_Right: function 48 -/
def path_Right.go : Nat → ByteArray → Option Bool
  | 0, _ => none
  | k + 1, s => (strings_Cut.f s ⟨#[47]⟩).bind fun c => if c.1.toList = [] then some false else if c.1.toList = [46] then some false else if c.1.toList = [46, 46] then some false else
    (path_signs.f k c.1).bind fun b => if b = true then (if c.2.2 = true then path_Right.go k c.2.1 else some true) else some false
def path_Right.f (k : Nat) (a0 : ByteArray) : Option Bool := if (a0.size : Int) < 1 then some false else if (a0.size : Int) > 40 then some false else path_Right.go k a0
theorem path_Right.mono_l : ∀ k s, LeO (path_Right.go k s) (path_Right.go (k + 1) s)
  | 0, _ => fun r h => by simp [path_Right.go] at h
  | k + 1, s => by
    intro r h
    rw [path_Right.go] at h ⊢
    obtain ⟨c, hc, h⟩ := Option.bind_eq_some_iff.mp h
    rw [hc, Option.bind_some]
    split at h
    · rename_i q; rw [if_pos q]; exact h
    · rename_i q; rw [if_neg q]
      split at h
      · rename_i q; rw [if_pos q]; exact h
      · rename_i q; rw [if_neg q]
        split at h
        · rename_i q; rw [if_pos q]; exact h
        · rename_i q; rw [if_neg q]
          obtain ⟨b, hb, h⟩ := Option.bind_eq_some_iff.mp h
          rw [path_signs.mono _ k b hb, Option.bind_some]
          split at h
          · rename_i q; rw [if_pos q]
            split at h
            · rename_i q; rw [if_pos q]; exact path_Right.mono_l k _ r h
            · rename_i q; rw [if_neg q]; exact h
          · rename_i q; rw [if_neg q]; exact h
theorem path_Right.mono (a0 : ByteArray) (k : Nat) : LeO (path_Right.f k a0) (path_Right.f (k + 1) a0) := by
  intro r h
  unfold path_Right.f at h ⊢
  split at h
  · rename_i q; rw [if_pos q]; exact h
  · rename_i q; rw [if_neg q]
    split at h
    · rename_i q; rw [if_pos q]; exact h
    · rename_i q; rw [if_neg q]; exact path_Right.mono_l k a0 r h
theorem path_Right.cases {k : Nat} {s : ByteArray} {r : Bool} (h : path_Right.go (k + 1) s = some r) : ∃ w1 w2 m, strings_Cut.f s ⟨#[47]⟩ = some (w1, w2, m) ∧ ((w1.toList = [] ∧ r = false) ∨ (¬ w1.toList = [] ∧ w1.toList = [46] ∧ r = false) ∨ (¬ w1.toList = [] ∧ ¬ w1.toList = [46] ∧ w1.toList = [46, 46] ∧ r = false) ∨
    (¬ w1.toList = [] ∧ ¬ w1.toList = [46] ∧ ¬ w1.toList = [46, 46] ∧ ∃ b, path_signs.f k w1 = some b ∧ ((b = false ∧ r = false) ∨ (b = true ∧ m = false ∧ r = true) ∨ (b = true ∧ m = true ∧ path_Right.go k w2 = some r)))) := by
  rw [path_Right.go] at h
  obtain ⟨⟨w1, w2, m⟩, hc, h⟩ := Option.bind_eq_some_iff.mp h
  refine ⟨w1, w2, m, hc, ?_⟩
  simp only at h
  split at h
  · rename_i q; exact .inl ⟨q, (Option.some.inj h).symm⟩
  · rename_i q1
    split at h
    · rename_i q; exact .inr (.inl ⟨q1, q, (Option.some.inj h).symm⟩)
    · rename_i q2
      split at h
      · rename_i q; exact .inr (.inr (.inl ⟨q1, q2, q, (Option.some.inj h).symm⟩))
      · rename_i q3
        obtain ⟨b, hb, h⟩ := Option.bind_eq_some_iff.mp h
        refine .inr (.inr (.inr ⟨q1, q2, q3, b, hb, ?_⟩))
        cases b with
        | false => exact .inl ⟨rfl, by simpa using h.symm⟩
        | true =>
          cases m with
          | false => exact .inr (.inl ⟨rfl, rfl, by simpa using h.symm⟩)
          | true => exact .inr (.inr ⟨rfl, rfl, by simpa using h⟩)
theorem path_Right.cut_lt {s w1 w2 : ByteArray} {m : Bool} (h40 : s.size ≤ 40) (h : strings_Cut.f s ⟨#[47]⟩ = some (w1, w2, m)) : m = true → w2.size < s.size := by
  rintro rfl
  unfold strings_Cut.f stringslite_Cut.f stringslite_Index.f at h
  simp only [Option.bind_some] at h
  have hs : (⟨#[47]⟩ : ByteArray).size = 1 := rfl
  rw [hs] at h
  repeat' split at h
  all_goals first
    | (simp at h; done)
    | (simp only [Option.bind_some, Option.some.injEq, Prod.mk.injEq] at h
       obtain ⟨_, rfl, _⟩ := h
       rw [ByteArray.size_extract, Nat.min_self]
       unfold wrap64 at *
       omega)
def strSize : Value → Nat
  | .string s => s.size
  | _ => 0
set_option maxHeartbeats 4000000 in
set_option maxRecDepth 100000 in
theorem path_Right.calls (k : Nat) (a0 : ByteArray) (r : Bool) (w : World) (h : path_Right.f k a0 = some r) :
    Calls Tryd.prog 48 #[.string a0] w fun e w' => e = .returned (.bool r) ∧ Drawn0 w w' := by
  unfold path_Right.f at h
  by_cases h1 : (a0.size : Int) < 1
  · rw [if_pos h1] at h
    obtain rfl := Option.some.inj h
    have d1 : decide ((a0.size : Int) < 1) = true := decide_eq_true h1
    clear h
    go_enter Tryd.func48, Tryd.ntmps48
    go_wp2
    refine wp_scope_jumps 0 (fun a' w' => False) (fun a' _ => 0) rfl ?_ (fun _ _ h => h.elim)
    go_wp2
    simp only [Exit.jump]
    go_ret
    exact ⟨rfl, Drawn0.refl _⟩
  · rw [if_neg h1] at h
    have d1 : decide ((a0.size : Int) < 1) = false := decide_eq_false h1
    by_cases h2 : (a0.size : Int) > 40
    · rw [if_pos h2] at h
      obtain rfl := Option.some.inj h
      have d2 : decide ((a0.size : Int) > 40) = true := decide_eq_true h2
      clear h
      go_enter Tryd.func48, Tryd.ntmps48
      go_wp2
      refine wp_scope_jumps 0 (fun a' w' => False) (fun a' _ => 0) rfl ?_ (fun _ _ h => h.elim)
      go_wp2
      simp only [Exit.jump]
      go_ret
      exact ⟨rfl, Drawn0.refl _⟩
    · rw [if_neg h2] at h
      have d2 : decide ((a0.size : Int) > 40) = false := decide_eq_false h2
      have hpos : ∀ (k : Nat) (s : ByteArray), path_Right.go k s = some r → ∃ m, k = m + 1 := by
        intro k s h
        cases k with
        | zero => exact absurd h (by simp [path_Right.go])
        | succ m => exact ⟨m, rfl⟩
      have HP := Lib.hid hpos
      have h40 : a0.size ≤ 40 := by omega
      clear hpos h1 h2
      go_enter Tryd.func48, Tryd.ntmps48
      go_wp2
      refine wp_scope_jumps 0 (fun a' w' => ∃ (k : Nat) (rest : ByteArray) (u1 u5 u6 u7 u8 u9 u10 u11 u12 u13 u14 u15 u16 u17 u18 u19 u20 u21 u22 u23 u24 u25 u26 u27 u28 u29 u30 u31 u32 u33 u34 u35 u36 : Value), a' = { tmps := #[.string a0, u1, .bool false, .string rest, .bool true, u5, u6, u7, u8, u9, u10, u11, u12, u13, u14, u15, u16, u17, u18, u19, u20, u21, u22, u23, u24, u25, u26, u27, u28, u29, u30, u31, u32, u33, u34, u35, u36], defers := [] } ∧ rest.size ≤ 40 ∧ path_Right.go k rest = some r ∧ Drawn0 w w') (fun a' _ => strSize (a'.tmps.getD 3 undef)) rfl ?_ ?_
      · obtain ⟨k, rfl⟩ := HP.out _ _ h
        have hgo := h
        clear h
        obtain ⟨w1, w2, m, hc, hcase⟩ := path_Right.cases hgo
        have hlt := path_Right.cut_lt h40 hc
        have HC := Lib.hid (fun W => strings_Cut.calls a0 ⟨#[47]⟩ w1 w2 m W hc)
        clear hc hgo
        rcases hcase with ⟨q1, rfl⟩ | ⟨q1, q2, rfl⟩ | ⟨q1, q2, q3, rfl⟩ | ⟨q1, q2, q3, b, hb, hcase⟩
        · skip
          go_wp2
          go_step3
          go_wp2_with (go_at_call 66; go_must (refine (HC.out _).mono ?_); rintro e w5 ⟨rfl, ⟨n5, rfl⟩⟩)
          simp only [Exit.jump]
          go_ret
          exact ⟨rfl, by first | exact Drawn0.refl _ | exact ⟨_, rfl⟩ | exact ⟨_ + _, by simp⟩ | (repeat (first | exact Drawn0.refl _ | apply Drawn0.step))⟩
        · skip
          have z1 : w1.toList.isEmpty = false := by simpa using q1
          go_wp2
          go_step3
          go_wp2_with (go_at_call 66; go_must (refine (HC.out _).mono ?_); rintro e w5 ⟨rfl, ⟨n5, rfl⟩⟩)
          simp only [Exit.jump]
          go_ret
          exact ⟨rfl, by first | exact Drawn0.refl _ | exact ⟨_, rfl⟩ | exact ⟨_ + _, by simp⟩ | (repeat (first | exact Drawn0.refl _ | apply Drawn0.step))⟩
        · skip
          have z1 : w1.toList.isEmpty = false := by simpa using q1
          go_wp2
          go_step3
          go_wp2_with (go_at_call 66; go_must (refine (HC.out _).mono ?_); rintro e w5 ⟨rfl, ⟨n5, rfl⟩⟩)
          simp only [Exit.jump]
          go_ret
          exact ⟨rfl, by first | exact Drawn0.refl _ | exact ⟨_, rfl⟩ | exact ⟨_ + _, by simp⟩ | (repeat (first | exact Drawn0.refl _ | apply Drawn0.step))⟩
        · skip
          have z1 : w1.toList.isEmpty = false := by simpa using q1
          have z2 : (w1.toList == [46]) = false := by simpa using q2
          have z3 : (w1.toList == [46, 46]) = false := by simpa using q3
          have HS := Lib.hid (fun W => path_signs.calls k w1 b W hb)
          clear hb
          rcases hcase with ⟨rfl, rfl⟩ | ⟨rfl, rfl, rfl⟩ | ⟨rfl, rfl, hgo⟩
          · skip
            go_wp2
            go_step3
            go_wp2_with (first | (go_at_call 66; go_must (refine (HC.out _).mono ?_); rintro e w5 ⟨rfl, ⟨n5, rfl⟩⟩) | (go_at_call 67; go_must (refine (HS.out _).mono ?_); rintro e w6 ⟨rfl, ⟨n6, rfl⟩⟩))
            simp only [Exit.jump]
            go_ret
            exact ⟨rfl, by first | exact Drawn0.refl _ | exact ⟨_, rfl⟩ | exact ⟨_ + _, by simp⟩ | (repeat (first | exact Drawn0.refl _ | apply Drawn0.step))⟩
          · skip
            go_wp2
            go_step3
            go_wp2_with (first | (go_at_call 66; go_must (refine (HC.out _).mono ?_); rintro e w5 ⟨rfl, ⟨n5, rfl⟩⟩) | (go_at_call 67; go_must (refine (HS.out _).mono ?_); rintro e w6 ⟨rfl, ⟨n6, rfl⟩⟩))
            simp only [Exit.jump]
            go_ret
            exact ⟨rfl, by first | exact Drawn0.refl _ | exact ⟨_, rfl⟩ | exact ⟨_ + _, by simp⟩ | (repeat (first | exact Drawn0.refl _ | apply Drawn0.step))⟩
          · skip
            go_wp2
            go_step3
            go_wp2_with (first | (go_at_call 66; go_must (refine (HC.out _).mono ?_); rintro e w5 ⟨rfl, ⟨n5, rfl⟩⟩) | (go_at_call 67; go_must (refine (HS.out _).mono ?_); rintro e w6 ⟨rfl, ⟨n6, rfl⟩⟩))
            go_step3
            have hlt := hlt (by first | rfl | trivial)
            exact ⟨rfl, k, _, _, _, _, _, _, _, _, _, _, _, _, _, _, _, _, _, _, _, _, _, _, _, _, _, _, _, _, _, _, _, _, _, _, rfl, by omega, hgo, by first | exact Drawn0.refl _ | exact ⟨_, rfl⟩ | exact ⟨_ + _, by simp⟩ | (repeat (first | exact Drawn0.refl _ | apply Drawn0.step))⟩
      · rintro a' w' ⟨k, rest, u1, u5, u6, u7, u8, u9, u10, u11, u12, u13, u14, u15, u16, u17, u18, u19, u20, u21, u22, u23, u24, u25, u26, u27, u28, u29, u30, u31, u32, u33, u34, u35, u36, rfl, h40r, hgo, ⟨nd, rfl⟩⟩
        clear h d1 d2 h40
        have h40 := h40r
        clear h40r
        obtain ⟨k, rfl⟩ := HP.out _ _ hgo
        obtain ⟨w1, w2, m, hc, hcase⟩ := path_Right.cases hgo
        have hlt := path_Right.cut_lt h40 hc
        have HC := Lib.hid (fun W => strings_Cut.calls rest ⟨#[47]⟩ w1 w2 m W hc)
        clear hc hgo
        rcases hcase with ⟨q1, rfl⟩ | ⟨q1, q2, rfl⟩ | ⟨q1, q2, q3, rfl⟩ | ⟨q1, q2, q3, b, hb, hcase⟩
        · skip
          go_wp2_with (go_at_call 66; go_must (refine (HC.out _).mono ?_); rintro e w5 ⟨rfl, ⟨n5, rfl⟩⟩)
          simp only [Exit.jump]
          go_ret
          exact ⟨rfl, by first | exact Drawn0.refl _ | exact ⟨_, rfl⟩ | exact ⟨_ + _, by simp⟩ | (repeat (first | exact Drawn0.refl _ | apply Drawn0.step))⟩
        · skip
          have z1 : w1.toList.isEmpty = false := by simpa using q1
          go_wp2_with (go_at_call 66; go_must (refine (HC.out _).mono ?_); rintro e w5 ⟨rfl, ⟨n5, rfl⟩⟩)
          simp only [Exit.jump]
          go_ret
          exact ⟨rfl, by first | exact Drawn0.refl _ | exact ⟨_, rfl⟩ | exact ⟨_ + _, by simp⟩ | (repeat (first | exact Drawn0.refl _ | apply Drawn0.step))⟩
        · skip
          have z1 : w1.toList.isEmpty = false := by simpa using q1
          go_wp2_with (go_at_call 66; go_must (refine (HC.out _).mono ?_); rintro e w5 ⟨rfl, ⟨n5, rfl⟩⟩)
          simp only [Exit.jump]
          go_ret
          exact ⟨rfl, by first | exact Drawn0.refl _ | exact ⟨_, rfl⟩ | exact ⟨_ + _, by simp⟩ | (repeat (first | exact Drawn0.refl _ | apply Drawn0.step))⟩
        · skip
          have z1 : w1.toList.isEmpty = false := by simpa using q1
          have z2 : (w1.toList == [46]) = false := by simpa using q2
          have z3 : (w1.toList == [46, 46]) = false := by simpa using q3
          have HS := Lib.hid (fun W => path_signs.calls k w1 b W hb)
          clear hb
          rcases hcase with ⟨rfl, rfl⟩ | ⟨rfl, rfl, rfl⟩ | ⟨rfl, rfl, hgo⟩
          · skip
            go_wp2_with (first | (go_at_call 66; go_must (refine (HC.out _).mono ?_); rintro e w5 ⟨rfl, ⟨n5, rfl⟩⟩) | (go_at_call 67; go_must (refine (HS.out _).mono ?_); rintro e w6 ⟨rfl, ⟨n6, rfl⟩⟩))
            simp only [Exit.jump]
            go_ret
            exact ⟨rfl, by first | exact Drawn0.refl _ | exact ⟨_, rfl⟩ | exact ⟨_ + _, by simp⟩ | (repeat (first | exact Drawn0.refl _ | apply Drawn0.step))⟩
          · skip
            go_wp2_with (first | (go_at_call 66; go_must (refine (HC.out _).mono ?_); rintro e w5 ⟨rfl, ⟨n5, rfl⟩⟩) | (go_at_call 67; go_must (refine (HS.out _).mono ?_); rintro e w6 ⟨rfl, ⟨n6, rfl⟩⟩))
            simp only [Exit.jump]
            go_ret
            exact ⟨rfl, by first | exact Drawn0.refl _ | exact ⟨_, rfl⟩ | exact ⟨_ + _, by simp⟩ | (repeat (first | exact Drawn0.refl _ | apply Drawn0.step))⟩
          · skip
            go_wp2_with (first | (go_at_call 66; go_must (refine (HC.out _).mono ?_); rintro e w5 ⟨rfl, ⟨n5, rfl⟩⟩) | (go_at_call 67; go_must (refine (HS.out _).mono ?_); rintro e w6 ⟨rfl, ⟨n6, rfl⟩⟩))
            go_step3
            have hlt := hlt (by first | rfl | trivial)
            exact ⟨rfl, ⟨k, _, _, _, _, _, _, _, _, _, _, _, _, _, _, _, _, _, _, _, _, _, _, _, _, _, _, _, _, _, _, _, _, _, _, rfl, by omega, hgo, by first | exact Drawn0.refl _ | exact ⟨_, rfl⟩ | exact ⟨_ + _, by simp⟩ | (repeat (first | exact Drawn0.refl _ | apply Drawn0.step))⟩, hlt⟩

/-! ### brace_checked: function 26 -/
theorem indexFunc_zero (A : Option Addr) (c : Nat) (fv : Value) (w : World) :
    Calls Tryd.prog 68 #[.slice A 0 c, fv] w fun e w' => e = .returned (.int .i64 (-1)) ∧ w = w' := by
  go_enter Tryd.func68, Tryd.ntmps68
  go_wp2
  go_loopg [8] 0 (fun kq v wr => v = .int .i64 0 ∧ w = wr)
  case atStart => exact ⟨rfl, rfl⟩
  case round =>
    obtain ⟨rfl, rfl⟩ := hrel
    go_wp2
    go_ret
    exact ⟨rfl, rfl⟩
theorem containsFunc_zero (A : Option Addr) (c : Nat) (fv : Value) (w : World) :
    Calls Tryd.prog 49 #[.slice A 0 c, fv] w fun e w' => e = .returned (.bool false) ∧ w = w' := by
  go_enter Tryd.func49, Tryd.ntmps49
  go_wp2_with (go_at_call 68; go_must (refine (indexFunc_zero _ _ _ _).mono ?_); rintro e w1 ⟨rfl, rfl⟩)
  go_ret
  exact ⟨rfl, rfl⟩
/-- So much of checked as is wanted: of no lock, of one that is right and has a version alone. -/
def brace_checked.f (k : Nat) (l0 : List S45) : Option Int := match l0 with
  | [] => some 0
  | [x] => (path_Right.f k x.f0).bind fun b => if b = true ∧ x.f4.toList = [] ∧ x.f2.toList = [] ∧ ¬ x.f1.toList = [] then some 0 else none
  | _ => none
theorem brace_checked.mono (l0 : List S45) (k : Nat) : LeO (brace_checked.f k l0) (brace_checked.f (k + 1) l0) := by
  intro r h
  unfold brace_checked.f at h ⊢
  split at h
  · exact h
  · obtain ⟨b, hb, h⟩ := Option.bind_eq_some_iff.mp h
    rw [path_Right.mono _ _ b hb]
    exact h
  · exact h
set_option maxHeartbeats 4000000 in
set_option maxRecDepth 100000 in
theorem brace_checked.calls (k : Nat) (A0 : Option Addr) (c0 : Nat) (l0 : List S45) (r : Int) (w : World) (hr0 : Kd.C k45 w A0 l0.length l0) (hc0 : l0.length ≤ c0) (h : brace_checked.f k l0 = some r) :
    Calls Tryd.prog 26 #[.slice A0 l0.length c0] w fun e w' => e = .returned (.int .i64 r) ∧ Below w.heap.size w w' := by
  unfold brace_checked.f at h
  split at h
  · obtain rfl := Option.some.inj h
    clear h
    go_enter Tryd.func26, Tryd.ntmps26
    go_wp2
    go_loopg [7] 0 (fun kq v wr => v = .int .i64 0 ∧ w = wr)
    case atStart => exact ⟨rfl, rfl⟩
    case round =>
      obtain ⟨rfl, rfl⟩ := hrel
      go_wp2
      go_ret
      exact ⟨rfl, Below.refl _ _⟩
  · rename_i x
    obtain ⟨b, hb, h⟩ := Option.bind_eq_some_iff.mp h
    split at h
    · rename_i hx
      obtain ⟨rfl, x4, x2, x1⟩ := hx
      obtain rfl := Option.some.inj h
      obtain ⟨ad, ea, q0, q1, q2, q3, q4⟩ := at_T45 hr0 0 (by omega) (by simp)
      subst ea
      simp only [Int.toNat_zero, Nat.zero_mul, show rd_T45 [x] 0 = x from rfl, show ad.add 0 = ad from by simp [Addr.add]] at q0 q1 q2 q3 q4
      have HP := Lib.hid (fun W => path_Right.calls k x.f0 true W hb)
      have X1 := Lib.hid x1
      have z1 : x.f1.toList.isEmpty = false := by simpa using x1
      clear h hb hr0
      have hmf : ∀ (fn : Fn) (first cap : Array Value) (w : World), (Instr.makeFunc fn first cap).run Tryd.prog w = .ok (.func fn first cap) w := fun _ _ _ _ => rfl
      go_enter Tryd.func26, Tryd.ntmps26
      go_wp2
      go_loopg [7] 1 (fun kq v wr => ∃ k : Nat, k ≤ 1 ∧ kq = 1 - k ∧ v = .int .i64 k ∧ Below w.heap.size w wr)
      case atStart => exact ⟨0, by omega, rfl, rfl, Below.refl _ _⟩
      case round =>
        obtain ⟨k, hk, hkq, rfl, hB⟩ := hrel
        obtain rfl | rfl : k = 0 ∨ k = 1 := by omega
        · have m0 := kp_cell q0 (Kp.of_below hB (fun _ => False)) (fun h => h)
          have m1 := kp_cell q1 (Kp.of_below hB (fun _ => False)) (fun h => h)
          have m2 := kp_cell q2 (Kp.of_below hB (fun _ => False)) (fun h => h)
          have m3 := kp_cell q3 (Kp.of_below hB (fun _ => False)) (fun h => h)
          have m4 := kp_cell q4 (Kp.of_below hB (fun _ => False)) (fun h => h)
          have HB := Lib.hid hB
          clear q0 q1 q2 q3 q4 hB
          go_wp2_with (first
            | (go_at_call 48; go_must (refine (HP.out _).mono ?_); rintro e w5 ⟨rfl, ⟨n5, rfl⟩⟩)
            | (go_at_call 49; go_must (refine (containsFunc_zero _ _ _ _).mono ?_); rintro e w6 ⟨rfl, rfl⟩))
          go_roundg 0
          case measure => omega
          case rel => exact ⟨1, by omega, rfl, rfl, by have h9 := below_alloc HB.out (.cells #[.string x.f0, .string x.f1, .string x.f2, .string x.f3, .string x.f4] 45); exact pw_below_drewN h9 _⟩
        · go_wp2
          go_ret
          exact ⟨rfl, hB⟩
    · simp at h
  · simp at h

/-! ### brace.get, lock: what is read of a map -/
/-- What a map has by a key; an empty one: nothing. -/
def getP (l3 : List ByteArray) (l4 : List S27) (key : ByteArray) : S27 := if idxS l3 key < 0 then z27 else rd_T27 l4 (idxS l3 key)
/-- A value that can be read in a world, as an aggregate. -/
def Got1 (w : World) (x : S27) (v : Value) : Prop := ∃ A3 c3 A4 c4, v = .agg #[.int .i64 x.f0, .int .i64 x.f1, .string x.f2, .slice A3 x.f3.length c3, .slice A4 x.f4.length c4] ∧ x.f3.length ≤ c3 ∧ Kd.C Kd.string w A3 x.f3.length x.f3 ∧ x.f4.length ≤ c4 ∧ Kd.C k27 w A4 x.f4.length x.f4
def GetPost (w : World) (x : S27) (e : Ending) (w' : World) : Prop := ∃ v, e = .returned v ∧ Got1 w' x v ∧ Below w.heap.size w w'
theorem Got1.below {w w' : World} {x : S27} {v : Value} (h : Got1 w x v) (hb : Below w.heap.size w w') : Got1 w' x v := by
  obtain ⟨A3, c3, A4, c4, rfl, h1, h2, h3, h4⟩ := h
  exact ⟨A3, c3, A4, c4, rfl, h1, Kd.C_below h2 hb, h3, Kd.C_below h4 hb⟩
theorem blk_set5 {w : World} {V : Nat} (a b c d e : Value) : Kp (fun b => b = V) w (set5 w V a b c d e) := set5_kp (S := fun b => b = V) (Kp.refl _ _) (.inl rfl) _ _ _ _ _
/-- A result's block of one's own is written. -/
theorem below_set5 {w0 w : World} {V : Nat} (h : Below w0.heap.size w0 w) (hV : w0.heap.size ≤ V) (a b c d e : Value) : Below w0.heap.size w0 (set5 w V a b c d e) := Kp.to_below h (blk_set5 a b c d e) (fun b hb => by rw [hb]; exact hV)
theorem C_set5 {α : Type} {k : Kd α} {w0 w : World} {V : Nat} {A : Option Addr} {n : Nat} {xs : List α} (h : Kd.C k w0 A n xs) (hb : Below w0.heap.size w0 w) (hV : w0.heap.size ≤ V) (a b c d e : Value) : Kd.C k (set5 w V a b c d e) A n xs := Kd.C_below h (below_set5 hb hV a b c d e)
set_option maxHeartbeats 2000000 in
set_option maxRecDepth 100000 in
theorem get_any (a b : Int) (c : ByteArray) (A3 : Option Addr) (c3 : Nat) (l3 : List ByteArray) (A4 : Option Addr) (c4 : Nat) (l4 : List S27) (key : ByteArray) (w : World) (h3 : Kd.C Kd.string w A3 l3.length l3) (hc3 : l3.length ≤ c3) (h4 : Kd.C k27 w A4 l4.length l4) (hi : idxS l3 key < l4.length) :
    Calls Tryd.prog 46 #[.agg #[.int .i64 a, .int .i64 b, .string c, .slice A3 l3.length c3, .slice A4 l4.length c4], .string key] w (GetPost w (getP l3 l4 key)) := by
  have B0 := Lib.hid (below_alloc (below_alloc (Below.refl w.heap.size w) (.cells #[.int .i64 a, .int .i64 b, .string c, .slice A3 l3.length c3, .slice A4 l4.length c4] 27)) (.cells #[.int .i64 0, .int .i64 0, .string ⟨#[]⟩, .slice none 0 0, .slice none 0 0] 27))
  have X0 := Lib.hid (blk_alloc (blk_new w (.cells #[.int .i64 a, .int .i64 b, .string c, .slice A3 l3.length c3, .slice A4 l4.length c4] 27)) (.cells #[.int .i64 0, .int .i64 0, .string ⟨#[]⟩, .slice none 0 0, .slice none 0 0] 27))
  have X1 := Lib.hid (blk_new (w.alloc (.cells #[.int .i64 a, .int .i64 b, .string c, .slice A3 l3.length c3, .slice A4 l4.length c4] 27)) (.cells #[.int .i64 0, .int .i64 0, .string ⟨#[]⟩, .slice none 0 0, .slice none 0 0] 27))
  rw [World.size_alloc] at X1
  have H4 := Lib.hid h4
  have HI := Lib.hid (fun w h => slices_Index_string_string.calls A3 c3 l3 key (idxS l3 key) w h hc3 rfl)
  have H3 := Lib.hid h3
  unfold getP
  by_cases hn : idxS l3 key < 0
  · rw [if_pos hn]
    have hd : decide (idxS l3 key < 0) = true := decide_eq_true hn
    generalize idxS l3 key = i at hd HI
    clear hn hi h3 hc3 h4
    go_enter Tryd.func46, Tryd.ntmps46
    go_wp2_with (go_at_call 65; go_must (refine (HI.out _ (Kd.C_below H3.out B0.out)).mono ?_); rintro e w1 ⟨rfl, hdr⟩; have Y1 := Lib.hid (blk_below X1.out hdr.below); have B1 := Lib.hid (B0.out.trans (hdr.below.mono B0.out.size)); have x0 := (blk_cell Y1.out 0).trans rfl; have x1 := (blk_cell Y1.out 1).trans rfl; have x2 := (blk_cell Y1.out 2).trans rfl; have x3 := (blk_cell Y1.out 3).trans rfl; have x4 := (blk_cell Y1.out 4).trans rfl; have y0 := blk_frozen Y1.out 0; have y1 := blk_frozen Y1.out 1; have y2 := blk_frozen Y1.out 2; have y3 := blk_frozen Y1.out 3; have y4 := blk_frozen Y1.out 4; clear hdr)
    refine bodyPost_ret (results_cell_row rfl _ _ _ 27 _ (0, 0) _ rfl (set5_blk Y1.out _ _ _ _ _) Tryd.underlying27 rfl (by kernel_rfl)) rfl ?_
    exact ⟨_, rfl, ⟨none, 0, none, 0, rfl, Nat.le_refl _, Kd.C_nil _ _, Nat.le_refl _, Kd.C_nil _ _⟩, below_set5 B1.out (Nat.le_add_right _ _) _ _ _ _ _⟩
  · rw [if_neg hn]
    have hd : decide (idxS l3 key < 0) = false := decide_eq_false hn
    generalize idxS l3 key = i at hd HI hi hn ⊢
    have h0 : 0 ≤ i := by omega
    obtain ⟨ad, B3, k3, B4, k4, ea, q0, q1, q2, q3, q4, ql3, g3, ql4, g4⟩ := at_T27 h4 i h0 hi
    subst ea
    have Q0 := Lib.hid (fun W (hb : Below w.heap.size w W) => kp_cell q0 (Kp.of_below hb (fun _ => False)) (fun h => h))
    have Q1 := Lib.hid (fun W (hb : Below w.heap.size w W) => kp_cell q1 (Kp.of_below hb (fun _ => False)) (fun h => h))
    have Q2 := Lib.hid (fun W (hb : Below w.heap.size w W) => kp_cell q2 (Kp.of_below hb (fun _ => False)) (fun h => h))
    have Q3 := Lib.hid (fun W (hb : Below w.heap.size w W) => kp_cell q3 (Kp.of_below hb (fun _ => False)) (fun h => h))
    have Q4 := Lib.hid (fun W (hb : Below w.heap.size w W) => kp_cell q4 (Kp.of_below hb (fun _ => False)) (fun h => h))
    have G3 := Lib.hid g3
    have G4 := Lib.hid g4
    have L3 := Lib.hid ql3
    have L4 := Lib.hid ql4
    clear hn h3 hc3 h4 q0 q1 q2 q3 q4 g3 g4 ql3 ql4

    go_enter Tryd.func46, Tryd.ntmps46
    go_wp2_with (go_at_call 65; go_must (refine (HI.out _ (Kd.C_below H3.out B0.out)).mono ?_); rintro e w1 ⟨rfl, hdr⟩; have Y1 := Lib.hid (blk_below X1.out hdr.below); have Y0 := Lib.hid (blk_below X0.out hdr.below); have B1 := Lib.hid (B0.out.trans (hdr.below.mono B0.out.size)); have x0 := (blk_cell Y1.out 0).trans rfl; have x1 := (blk_cell Y1.out 1).trans rfl; have x2 := (blk_cell Y1.out 2).trans rfl; have x3 := (blk_cell Y1.out 3).trans rfl; have x4 := (blk_cell Y1.out 4).trans rfl; have y0 := blk_frozen Y1.out 0; have y1 := blk_frozen Y1.out 1; have y2 := blk_frozen Y1.out 2; have y3 := blk_frozen Y1.out 3; have y4 := blk_frozen Y1.out 4; have z4 := (blk_cell Y0.out 4).trans rfl; have q0 := Q0.out w1 B1.out; have q1 := Q1.out w1 B1.out; have q2 := Q2.out w1 B1.out; have q3 := Q3.out w1 B1.out; have q4 := Q4.out w1 B1.out; clear hdr)

    refine bodyPost_ret (results_cell_row rfl _ _ _ 27 _ (0, 0) _ rfl (set5_blk Y1.out _ _ _ _ _) Tryd.underlying27 rfl (by kernel_rfl)) rfl ?_
    have BZ := below_set5 B1.out (Nat.le_add_right w.heap.size 1) (.int .i64 (rd_T27 l4 i).f0) (.int .i64 (rd_T27 l4 i).f1) (.string (rd_T27 l4 i).f2) (.slice B3 (rd_T27 l4 i).f3.length k3) (.slice B4 (rd_T27 l4 i).f4.length k4)
    exact ⟨_, rfl, ⟨B3, k3, B4, k4, rfl, L3.out, Kd.C_below G3.out BZ, L4.out, Kd.C_below G4.out BZ⟩, BZ⟩

end Go.Proofs.YtnijnemkjnnolaaDoor.P
