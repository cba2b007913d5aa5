/- For every number and either kind of nesting: the law BraceDeep answers true (the plain side: no memory, no Go). -/
import Derived.Test.YtnijnemkjnnolaaDoorPx12
namespace Go.Proofs.YtnijnemkjnnolaaDoor.Pure
open Go.RowKit Go.Proofs.YtnijnemkjnnolaaDoor.P Go.Proofs.YtnijnemkjnnolaaDoorW.PrintWords Go.Proofs.YtnijnemkjnnolaaDoorW.PrintLast
theorem within_at (a n : Int) (h0 : 0 < n) (hn : n ≤ 4611686018427387904) : ∃ r : Nat, transhumancelaw5_within.f a n = some (r : Int) ∧ (r : Int) < n := by
  have h1 := Int.lt_tmod_of_pos a h0
  have h2 := Int.tmod_lt_of_pos a h0
  unfold transhumancelaw5_within.f
  rw [if_neg (by omega)]
  by_cases h : Int.tmod a n < 0
  · rw [if_pos h]
    refine ⟨(Int.tmod a n + n).toNat, ?_, by omega⟩
    rw [show wrap64 (Int.tmod a n + n) = Int.tmod a n + n from by unfold wrap64; omega]
    congr 1
    omega
  · rw [if_neg h]
    exact ⟨(Int.tmod a n).toNat, by congr 1; omega, by omega⟩
theorem deep_0_true : transhumancelaw5_BraceDeep.l0 200 true (wrap64 (1 + ((0 : Nat) : Int))) (⟨#[]⟩ : ByteArray) (⟨#[]⟩ : ByteArray) 0 0 = some true := by kernel_rfl
theorem deep_0_false : transhumancelaw5_BraceDeep.l0 200 false (wrap64 (1 + ((0 : Nat) : Int))) (⟨#[]⟩ : ByteArray) (⟨#[]⟩ : ByteArray) 0 0 = some true := by kernel_rfl
theorem deep_1_true : transhumancelaw5_BraceDeep.l0 200 true (wrap64 (1 + ((1 : Nat) : Int))) (⟨#[]⟩ : ByteArray) (⟨#[]⟩ : ByteArray) 0 0 = some true := by kernel_rfl
theorem deep_1_false : transhumancelaw5_BraceDeep.l0 200 false (wrap64 (1 + ((1 : Nat) : Int))) (⟨#[]⟩ : ByteArray) (⟨#[]⟩ : ByteArray) 0 0 = some true := by kernel_rfl
theorem deep_2_true : transhumancelaw5_BraceDeep.l0 200 true (wrap64 (1 + ((2 : Nat) : Int))) (⟨#[]⟩ : ByteArray) (⟨#[]⟩ : ByteArray) 0 0 = some true := by kernel_rfl
theorem deep_2_false : transhumancelaw5_BraceDeep.l0 200 false (wrap64 (1 + ((2 : Nat) : Int))) (⟨#[]⟩ : ByteArray) (⟨#[]⟩ : ByteArray) 0 0 = some true := by kernel_rfl
theorem deep_3_true : transhumancelaw5_BraceDeep.l0 200 true (wrap64 (1 + ((3 : Nat) : Int))) (⟨#[]⟩ : ByteArray) (⟨#[]⟩ : ByteArray) 0 0 = some true := by kernel_rfl
theorem deep_3_false : transhumancelaw5_BraceDeep.l0 200 false (wrap64 (1 + ((3 : Nat) : Int))) (⟨#[]⟩ : ByteArray) (⟨#[]⟩ : ByteArray) 0 0 = some true := by kernel_rfl
theorem deep_4_true : transhumancelaw5_BraceDeep.l0 200 true (wrap64 (1 + ((4 : Nat) : Int))) (⟨#[]⟩ : ByteArray) (⟨#[]⟩ : ByteArray) 0 0 = some true := by kernel_rfl
theorem deep_4_false : transhumancelaw5_BraceDeep.l0 200 false (wrap64 (1 + ((4 : Nat) : Int))) (⟨#[]⟩ : ByteArray) (⟨#[]⟩ : ByteArray) 0 0 = some true := by kernel_rfl
theorem deep_5_true : transhumancelaw5_BraceDeep.l0 200 true (wrap64 (1 + ((5 : Nat) : Int))) (⟨#[]⟩ : ByteArray) (⟨#[]⟩ : ByteArray) 0 0 = some true := by kernel_rfl
theorem deep_5_false : transhumancelaw5_BraceDeep.l0 200 false (wrap64 (1 + ((5 : Nat) : Int))) (⟨#[]⟩ : ByteArray) (⟨#[]⟩ : ByteArray) 0 0 = some true := by kernel_rfl
theorem deep_6_true : transhumancelaw5_BraceDeep.l0 200 true (wrap64 (1 + ((6 : Nat) : Int))) (⟨#[]⟩ : ByteArray) (⟨#[]⟩ : ByteArray) 0 0 = some true := by kernel_rfl
theorem deep_6_false : transhumancelaw5_BraceDeep.l0 200 false (wrap64 (1 + ((6 : Nat) : Int))) (⟨#[]⟩ : ByteArray) (⟨#[]⟩ : ByteArray) 0 0 = some true := by kernel_rfl
theorem deep_7_true : transhumancelaw5_BraceDeep.l0 200 true (wrap64 (1 + ((7 : Nat) : Int))) (⟨#[]⟩ : ByteArray) (⟨#[]⟩ : ByteArray) 0 0 = some true := by kernel_rfl
theorem deep_7_false : transhumancelaw5_BraceDeep.l0 200 false (wrap64 (1 + ((7 : Nat) : Int))) (⟨#[]⟩ : ByteArray) (⟨#[]⟩ : ByteArray) 0 0 = some true := by kernel_rfl
theorem deep_8_true : transhumancelaw5_BraceDeep.l0 200 true (wrap64 (1 + ((8 : Nat) : Int))) (⟨#[]⟩ : ByteArray) (⟨#[]⟩ : ByteArray) 0 0 = some true := by kernel_rfl
theorem deep_8_false : transhumancelaw5_BraceDeep.l0 200 false (wrap64 (1 + ((8 : Nat) : Int))) (⟨#[]⟩ : ByteArray) (⟨#[]⟩ : ByteArray) 0 0 = some true := by kernel_rfl
theorem deep_9_true : transhumancelaw5_BraceDeep.l0 200 true (wrap64 (1 + ((9 : Nat) : Int))) (⟨#[]⟩ : ByteArray) (⟨#[]⟩ : ByteArray) 0 0 = some true := by kernel_rfl
theorem deep_9_false : transhumancelaw5_BraceDeep.l0 200 false (wrap64 (1 + ((9 : Nat) : Int))) (⟨#[]⟩ : ByteArray) (⟨#[]⟩ : ByteArray) 0 0 = some true := by kernel_rfl
theorem deep_10_true : transhumancelaw5_BraceDeep.l0 200 true (wrap64 (1 + ((10 : Nat) : Int))) (⟨#[]⟩ : ByteArray) (⟨#[]⟩ : ByteArray) 0 0 = some true := by kernel_rfl
theorem deep_10_false : transhumancelaw5_BraceDeep.l0 200 false (wrap64 (1 + ((10 : Nat) : Int))) (⟨#[]⟩ : ByteArray) (⟨#[]⟩ : ByteArray) 0 0 = some true := by kernel_rfl
theorem deep_11_true : transhumancelaw5_BraceDeep.l0 200 true (wrap64 (1 + ((11 : Nat) : Int))) (⟨#[]⟩ : ByteArray) (⟨#[]⟩ : ByteArray) 0 0 = some true := by kernel_rfl
theorem deep_11_false : transhumancelaw5_BraceDeep.l0 200 false (wrap64 (1 + ((11 : Nat) : Int))) (⟨#[]⟩ : ByteArray) (⟨#[]⟩ : ByteArray) 0 0 = some true := by kernel_rfl
theorem BraceDeep : transhumancelaw5_BraceDeep.Pure := by
  intro a0 a1 _
  obtain ⟨r, hr, hlt⟩ := within_at a0 12 (by omega) (by omega)
  refine ⟨200, ?_⟩
  have h1 : transhumancelaw5_BraceDeep.f 200 a0 a1 = (transhumancelaw5_within.f a0 12).bind fun t145 => transhumancelaw5_BraceDeep.l0 200 a1 (wrap64 (1 + t145)) (⟨#[]⟩ : ByteArray) (⟨#[]⟩ : ByteArray) 0 0 := rfl
  rw [h1, hr, Option.bind_some]
  have h : r < 12 := by omega
  clear hr hlt h1
  match r, a1, h with
  | 0, true, _ => exact deep_0_true
  | 0, false, _ => exact deep_0_false
  | 1, true, _ => exact deep_1_true
  | 1, false, _ => exact deep_1_false
  | 2, true, _ => exact deep_2_true
  | 2, false, _ => exact deep_2_false
  | 3, true, _ => exact deep_3_true
  | 3, false, _ => exact deep_3_false
  | 4, true, _ => exact deep_4_true
  | 4, false, _ => exact deep_4_false
  | 5, true, _ => exact deep_5_true
  | 5, false, _ => exact deep_5_false
  | 6, true, _ => exact deep_6_true
  | 6, false, _ => exact deep_6_false
  | 7, true, _ => exact deep_7_true
  | 7, false, _ => exact deep_7_false
  | 8, true, _ => exact deep_8_true
  | 8, false, _ => exact deep_8_false
  | 9, true, _ => exact deep_9_true
  | 9, false, _ => exact deep_9_false
  | 10, true, _ => exact deep_10_true
  | 10, false, _ => exact deep_10_false
  | 11, true, _ => exact deep_11_true
  | 11, false, _ => exact deep_11_false
  | n + 12, _, h => exact absurd h (by omega)
end Go.Proofs.YtnijnemkjnnolaaDoor.Pure
