-- Written by a program of this session (wip/mp): the kit's print, with contracts proved by hand let in as printed ones.
import Derived.Test.YtnijnemkjnnolaaDoorPx0
import Derived.Test.YtnijnemkjnnolaaDoorPx2
import Derived.Test.YtnijnemkjnnolaaDoorPx5
import Derived.Test.YtnijnemkjnnolaaDoorPx7
import Derived.Test.YtnijnemkjnnolaaDoorPx8
import Derived.Test.YtnijnemkjnnolaaDoorPx9
import Derived.Test.YtnijnemkjnnolaaDoorPx10
namespace Go.Proofs.YtnijnemkjnnolaaDoor.P
open Go.RowKit Go.Proofs.YtnijnemkjnnolaaDoorW.PrintWords Go.Proofs.YtnijnemkjnnolaaDoorW.PrintLast Go.Proofs.YtnijnemkjnnolaaDoorW.PrintMore
attribute [local go_sem] max2_int min2_int max_two min_two max_three min_three max_four min_four   -- for this text's walks alone
set_option linter.unusedVariables false
set_option linter.unusedSimpArgs false

def lockNames : ByteArray := ⟨#[112, 114, 118, 119, 111]⟩
/-- A lock's keys, in the order of their signs; where the text of each is kept. -/
def nameK : Nat → ByteArray
  | 0 => ⟨#[112, 97, 116, 104]⟩
  | 1 => ⟨#[114, 101, 118, 105, 115, 105, 111, 110]⟩
  | 2 => ⟨#[118, 101, 114, 115, 105, 111, 110]⟩
  | 3 => ⟨#[119, 105, 116, 104, 105, 110]⟩
  | _ => ⟨#[111, 114, 105, 103, 105, 110]⟩
def fieldK : Nat → Nat
  | 0 => 0
  | 1 => 2
  | 2 => 1
  | 3 => 3
  | _ => 4
def lockArr (v : Nat → ByteArray) (k : Nat) : Array Value := #[.string (if 0 < k then v 0 else ⟨#[]⟩), .string (if 2 < k then v 2 else ⟨#[]⟩), .string (if 1 < k then v 1 else ⟨#[]⟩), .string (if 3 < k then v 3 else ⟨#[]⟩), .string (if 4 < k then v 4 else ⟨#[]⟩)]
theorem lockArr_step (v : Nat → ByteArray) (k : Nat) (h : k < 5) : (lockArr v k).setIfInBounds (fieldK k) (.string (v k)) = lockArr v (k + 1) := by
  obtain rfl | rfl | rfl | rfl | rfl : k = 0 ∨ k = 1 ∨ k = 2 ∨ k = 3 ∨ k = 4 := by omega
  all_goals rfl
theorem key_0 (L : Nat) (w : World) :
    Calls Tryd.prog 28 #[.pointer (some ⟨L, 0, none⟩), .int .i32 112] w fun e w' => e = .returned (.tuple #[.string (nameK 0), .pointer (some ⟨L, fieldK 0, none⟩)]) ∧ Drawn0 w w' := by
  go_enter Tryd.func28, Tryd.ntmps28
  go_wp2
  go_quiet (fail)
  go_wp2
  go_ret2
  exact ⟨rfl, by repeat (first | exact Drawn0.refl _ | apply Drawn0.step)⟩
theorem key_1 (L : Nat) (w : World) :
    Calls Tryd.prog 28 #[.pointer (some ⟨L, 0, none⟩), .int .i32 114] w fun e w' => e = .returned (.tuple #[.string (nameK 1), .pointer (some ⟨L, fieldK 1, none⟩)]) ∧ Drawn0 w w' := by
  go_enter Tryd.func28, Tryd.ntmps28
  go_wp2
  go_quiet (fail)
  go_wp2
  go_ret2
  exact ⟨rfl, by repeat (first | exact Drawn0.refl _ | apply Drawn0.step)⟩
theorem key_2 (L : Nat) (w : World) :
    Calls Tryd.prog 28 #[.pointer (some ⟨L, 0, none⟩), .int .i32 118] w fun e w' => e = .returned (.tuple #[.string (nameK 2), .pointer (some ⟨L, fieldK 2, none⟩)]) ∧ Drawn0 w w' := by
  go_enter Tryd.func28, Tryd.ntmps28
  go_wp2
  go_quiet (fail)
  go_wp2
  go_ret2
  exact ⟨rfl, by repeat (first | exact Drawn0.refl _ | apply Drawn0.step)⟩
theorem key_3 (L : Nat) (w : World) :
    Calls Tryd.prog 28 #[.pointer (some ⟨L, 0, none⟩), .int .i32 119] w fun e w' => e = .returned (.tuple #[.string (nameK 3), .pointer (some ⟨L, fieldK 3, none⟩)]) ∧ Drawn0 w w' := by
  go_enter Tryd.func28, Tryd.ntmps28
  go_wp2
  go_quiet (fail)
  go_wp2
  go_ret2
  exact ⟨rfl, by repeat (first | exact Drawn0.refl _ | apply Drawn0.step)⟩
theorem key_4 (L : Nat) (w : World) :
    Calls Tryd.prog 28 #[.pointer (some ⟨L, 0, none⟩), .int .i32 111] w fun e w' => e = .returned (.tuple #[.string (nameK 4), .pointer (some ⟨L, fieldK 4, none⟩)]) ∧ Drawn0 w w' := by
  go_enter Tryd.func28, Tryd.ntmps28
  go_wp2
  go_quiet (fail)
  go_wp2
  go_ret2
  exact ⟨rfl, by repeat (first | exact Drawn0.refl _ | apply Drawn0.step)⟩
def runeK : Nat → Int
  | 0 => 112
  | 1 => 114
  | 2 => 118
  | 3 => 119
  | _ => 111
theorem key_k (k : Nat) (hk : k < 5) (L : Nat) (w : World) :
    Calls Tryd.prog 28 #[.pointer (some ⟨L, 0, none⟩), .int .i32 (runeK k)] w fun e w' => e = .returned (.tuple #[.string (nameK k), .pointer (some ⟨L, fieldK k, none⟩)]) ∧ Drawn0 w w' := by
  obtain rfl | rfl | rfl | rfl | rfl : k = 0 ∨ k = 1 ∨ k = 2 ∨ k = 3 ∨ k = 4 := by omega
  · exact key_0 L w
  · exact key_1 L w
  · exact key_2 L w
  · exact key_3 L w
  · exact key_4 L w
def emptyLock : Array Value := #[.string ⟨#[]⟩, .string ⟨#[]⟩, .string ⟨#[]⟩, .string ⟨#[]⟩, .string ⟨#[]⟩]
/-- In lock: the map's block, the result's, the lock's that is filled, the place in the names. -/
structure LockIn (w0 w : World) (mc : Array Value) (v : Nat → ByteArray) (k j : Nat) : Prop where
  m : w.heap[w0.heap.size]? = some (.cells mc 27 (0, 0))
  r : w.heap[w0.heap.size + 1]? = some (.cells emptyLock 45 (0, 0))
  l : w.heap[w0.heap.size + 1 + 1]? = some (.cells (lockArr v k) 45 (0, 0))
  it : w.heap[w0.heap.size + 1 + 1 + 1]? = some (.stringIter lockNames j)
  bel : Below w0.heap.size w0 w
section
variable {w0 w w' : World} {mc : Array Value} {v : Nat → ByteArray} {k j : Nat}
theorem LockIn.below (h : LockIn w0 w mc v k j) (hb : Below w.heap.size w w') : LockIn w0 w' mc v k j :=
  ⟨blk_below h.m hb, blk_below h.r hb, blk_below h.l hb, blk_below h.it hb, h.bel.trans (hb.mono h.bel.size)⟩
theorem LockIn.start (w0 : World) (mc : Array Value) (v : Nat → ByteArray) : LockIn w0 ((((w0.alloc (.cells mc 27)).alloc (.cells emptyLock 45)).alloc (.cells emptyLock 45)).iter lockNames 0) mc v 0 0 := by
  have h1 := blk_new w0 (.cells mc 27)
  have h2 := blk_new (w0.alloc (.cells mc 27)) (.cells emptyLock 45)
  have h3 := blk_new ((w0.alloc (.cells mc 27)).alloc (.cells emptyLock 45)) (.cells emptyLock 45)
  have h4 := blk_new (((w0.alloc (.cells mc 27)).alloc (.cells emptyLock 45)).alloc (.cells emptyLock 45)) (.stringIter lockNames 0)
  simp only [World.size_alloc] at h1 h2 h3 h4
  exact ⟨blk_alloc (blk_alloc (blk_alloc h1 _) _) _, blk_alloc (blk_alloc h2 _) _, blk_alloc h3 _, h4, below_alloc (below_alloc (below_alloc (below_alloc (Below.refl _ _) _) _) _) _⟩
theorem names_lt (h : j < 5) : j < lockNames.size := h
theorem names_ascii : ∀ j (h : j < 5), (lockNames[j]'(names_lt h)).toNat < 128
  | 0, _ => (by decide : (112 : UInt8).toNat < 128)
  | 1, _ => (by decide : (114 : UInt8).toNat < 128)
  | 2, _ => (by decide : (118 : UInt8).toNat < 128)
  | 3, _ => (by decide : (119 : UInt8).toNat < 128)
  | 4, _ => (by decide : (111 : UInt8).toNat < 128)
  | n + 5, h => absurd h (by omega)
theorem LockIn.next (h : LockIn w0 w mc v k j) (hj : j < 5) : ∃ w', (∀ ty, (Instr.next (.pointer (some ⟨w0.heap.size + 1 + 1 + 1, 0, none⟩)) true ty).run Tryd.prog w = .ok (.tuple #[.bool true, .int .i64 j, .int .i32 (runeK j)]) w') ∧ LockIn w0 w' mc v k (j + 1) := by
  refine ⟨{ w with heap := w.heap.setIfInBounds (w0.heap.size + 1 + 1 + 1) (.stringIter lockNames (j + 1)) }, fun ty => ?_, ?_⟩
  · have hd := decode_ascii lockNames j (names_lt hj) (names_ascii j hj)
    have hr : ((lockNames[j]'(names_lt hj)).toNat : Int) = runeK j := by obtain rfl | rfl | rfl | rfl | rfl : j = 0 ∨ j = 1 ∨ j = 2 ∨ j = 3 ∨ j = 4 := (by omega); all_goals rfl
    simp only [Instr.next, getObj, setObj, Sem.run_bind, Sem.run, h.it, Result.andThen, names_lt hj, if_true, hd]
    simp [goInt, Sem.run, h.it, hr]
  · have far : ∀ g o, g ≠ w0.heap.size + 1 + 1 + 1 → w.heap[g]? = some o → (w.heap.setIfInBounds (w0.heap.size + 1 + 1 + 1) (.stringIter lockNames (j + 1)))[g]? = some o := fun g o hne hg => by
      rw [Array.getElem?_setIfInBounds_ne (fun e => hne e.symm)]
      exact hg
    refine ⟨far _ _ (by omega) h.m, far _ _ (by omega) h.r, far _ _ (by omega) h.l, ?_, ?_⟩
    · show (w.heap.setIfInBounds _ _)[_]? = _
      rw [Array.getElem?_setIfInBounds_self_of_lt (blk_lt h.it)]
    · have hb := h.bel
      exact ⟨hb.os, hb.tape, hb.output, by show _ ≤ (w.heap.setIfInBounds _ _).size; rw [Array.size_setIfInBounds]; exact hb.size, fun i hi => by
        show (w.heap.setIfInBounds _ _)[i]? = _
        rw [Array.getElem?_setIfInBounds_ne (by omega)]
        exact hb.block i hi⟩
theorem LockIn.over (h : LockIn w0 w mc v k 5) : ∀ ty, (Instr.next (.pointer (some ⟨w0.heap.size + 1 + 1 + 1, 0, none⟩)) true ty).run Tryd.prog w = .ok (.tuple #[.bool false]) w := fun ty => by
  have : ¬ (5 < lockNames.size) := by decide
  simp [Instr.next, getObj, Sem.run, h.it, this]
theorem LockIn.lcell (h : LockIn w0 w mc v k j) (hk : k < 5) : w.cell? ⟨w0.heap.size + 1 + 1, fieldK k, none⟩ = some (.string ⟨#[]⟩) := by
  rw [blk_cell h.l]
  obtain rfl | rfl | rfl | rfl | rfl : k = 0 ∨ k = 1 ∨ k = 2 ∨ k = 3 ∨ k = 4 := by omega
  all_goals rfl
theorem LockIn.lfz (h : LockIn w0 w mc v k j) (i : Nat) : w.frozen? ⟨w0.heap.size + 1 + 1, i, none⟩ = false := blk_frozen h.l i
theorem LockIn.put (h : LockIn w0 w mc v k j) (hk : k < 5) : LockIn w0 (w.setCell ⟨w0.heap.size + 1 + 1, fieldK k, none⟩ (.string (v k))) mc v (k + 1) j := by
  have k1 : Kp (fun b => b = w0.heap.size + 1 + 1) w (w.setCell ⟨w0.heap.size + 1 + 1, fieldK k, none⟩ (.string (v k))) := Kp.setCell (S := fun b => b = w0.heap.size + 1 + 1) (Kp.refl _ _) (.inl rfl) _
  exact ⟨blk_kp h.m k1 (by omega), blk_kp h.r k1 (by omega), blk_put h.l _ _ (lockArr_step v k hk), blk_kp h.it k1 (by omega), Kp.to_below h.bel k1 (fun b e => by omega)⟩
end
theorem below_drop {w : World} (o : Obj) : Below w.heap.size w (w.alloc o) := below_alloc (Below.refl _ _) o
/-- What a map's keys of a lock say: each is there as a text, or not there. -/
def LockOk (l3 : List ByteArray) (l4 : List S27) (k : Nat) : Prop := idxS l3 (nameK k) < l4.length ∧ ((getP l3 l4 (nameK k)).f0 = 0 ∨ (getP l3 l4 (nameK k)).f0 = 1)
def lockV (l3 : List ByteArray) (l4 : List S27) (k : Nat) : ByteArray := (getP l3 l4 (nameK k)).f2
set_option maxHeartbeats 4000000 in
set_option maxRecDepth 100000 in
theorem lock_any (a b : Int) (c : ByteArray) (A3 : Option Addr) (c3 : Nat) (l3 : List ByteArray) (A4 : Option Addr) (c4 : Nat) (l4 : List S27) (w : World) (h3 : Kd.C Kd.string w A3 l3.length l3) (hc3 : l3.length ≤ c3) (h4 : Kd.C k27 w A4 l4.length l4) (ok : ∀ k, k < 5 → LockOk l3 l4 k) :
    Calls Tryd.prog 47 #[.agg #[.int .i64 a, .int .i64 b, .string c, .slice A3 l3.length c3, .slice A4 l4.length c4]] w fun e w' => e = .returned (.tuple #[.agg (lockArr (lockV l3 l4) 5), .bool (a == 5)]) ∧ Below w.heap.size w w' := by
  have S0 := Lib.hid (LockIn.start w #[.int .i64 a, .int .i64 b, .string c, .slice A3 l3.length c3, .slice A4 l4.length c4] (lockV l3 l4))
  have HG := Lib.hid (fun (W : World) (hb : Below w.heap.size w W) (k : Nat) (hk : k < 5) => get_any a b c A3 c3 l3 A4 c4 l4 (nameK k) W (Kd.C_below h3 hb) hc3 (Kd.C_below h4 hb) (ok k hk).1)
  have HK := Lib.hid (fun k (hk : k < 5) => (ok k hk).2)
  clear ok h3 hc3 h4
  go_enter Tryd.func47, Tryd.ntmps47
  go_wp2_with fail
  go_loopg [] 5 (fun kq wr => ∃ k, k ≤ 5 ∧ kq = 5 - k ∧ LockIn w wr #[.int .i64 a, .int .i64 b, .string c, .slice A3 l3.length c3, .slice A4 l4.length c4] (lockV l3 l4) k k)
  case atStart => exact ⟨0, by omega, rfl, S0.out⟩
  case round =>
    obtain ⟨k, hk, hkq, hR⟩ := hrel
    by_cases h5 : k < 5
    · obtain ⟨w1, hnx, h1⟩ := hR.next h5
      have H1 := Lib.hid h1
      have m0 := (blk_cell h1.m 0).trans rfl
      clear h1 hR
      rcases HK.out k h5 with hz | hz
      · have f1 : ((getP l3 l4 (nameK k)).f0 != 0) = false := by rw [hz]; rfl
        have HL : Hid (lockV l3 l4 k = (getP l3 l4 (nameK k)).f2) := rfl
        clear hz
        go_wp2_with (first
          | (go_at_call 28; go_must (refine (key_k k h5 _ _).mono ?_); rintro e w2 ⟨rfl, hd⟩; have H2 := Lib.hid (H1.out.below hd.below); have a0 := (blk_cell H2.out.m 0).trans rfl; have a1 := (blk_cell H2.out.m 1).trans rfl; have a2 := (blk_cell H2.out.m 2).trans rfl; have a3 := (blk_cell H2.out.m 3).trans rfl; have a4 := (blk_cell H2.out.m 4).trans rfl; clear hd)
          | (go_at_call 46; go_must (refine (HG.out _ H2.out.bel k h5).mono ?_); rintro e w3 ⟨v, rfl, ⟨B3, k3, B4, k4, rfl, _, _, _, _⟩, hb⟩; have H3 := Lib.hid ((H2.out.below hb).below (below_drop (.cells #[.int .i64 (getP l3 l4 (nameK k)).f0, .int .i64 (getP l3 l4 (nameK k)).f1, .string (getP l3 l4 (nameK k)).f2, .slice B3 (getP l3 l4 (nameK k)).f3.length k3, .slice B4 (getP l3 l4 (nameK k)).f4.length k4] 27))); have l0 := H3.out.lcell h5; have l1 := H3.out.lfz (fieldK k); clear hb))
        go_roundg (5 - (k + 1))
        case measure => omega
        case rel => exact ⟨k + 1, by omega, rfl, H3.out.put h5⟩
      · have f1 : ((getP l3 l4 (nameK k)).f0 != 0) = true := by rw [hz]; rfl
        have f2 : ((getP l3 l4 (nameK k)).f0 != 1) = false := by rw [hz]; rfl
        have HL : Hid (lockV l3 l4 k = (getP l3 l4 (nameK k)).f2) := rfl
        clear hz
        go_wp2_with (first
          | (go_at_call 28; go_must (refine (key_k k h5 _ _).mono ?_); rintro e w2 ⟨rfl, hd⟩; have H2 := Lib.hid (H1.out.below hd.below); have a0 := (blk_cell H2.out.m 0).trans rfl; have a1 := (blk_cell H2.out.m 1).trans rfl; have a2 := (blk_cell H2.out.m 2).trans rfl; have a3 := (blk_cell H2.out.m 3).trans rfl; have a4 := (blk_cell H2.out.m 4).trans rfl; clear hd)
          | (go_at_call 46; go_must (refine (HG.out _ H2.out.bel k h5).mono ?_); rintro e w3 ⟨v, rfl, ⟨B3, k3, B4, k4, rfl, _, _, _, _⟩, hb⟩; have H3 := Lib.hid ((H2.out.below hb).below (below_drop (.cells #[.int .i64 (getP l3 l4 (nameK k)).f0, .int .i64 (getP l3 l4 (nameK k)).f1, .string (getP l3 l4 (nameK k)).f2, .slice B3 (getP l3 l4 (nameK k)).f3.length k3, .slice B4 (getP l3 l4 (nameK k)).f4.length k4] 27))); have l0 := H3.out.lcell h5; have l1 := H3.out.lfz (fieldK k); clear hb))
        go_roundg (5 - (k + 1))
        case measure => omega
        case rel => exact ⟨k + 1, by omega, rfl, H3.out.put h5⟩
    · obtain rfl : k = 5 := by omega
      have hnx := hR.over
      have HR := Lib.hid hR
      have s0 := (blk_cell hR.l 0).trans rfl
      have x0 : wr.cell? ⟨w.heap.size + 1, 0, none⟩ = some (.string ⟨#[]⟩) := (blk_cell hR.r 0).trans rfl
      have y0 := blk_frozen hR.r 0
      have x1 : wr.cell? ⟨w.heap.size + 1, 1, none⟩ = some (.string ⟨#[]⟩) := (blk_cell hR.r 1).trans rfl
      have y1 := blk_frozen hR.r 1
      have x2 : wr.cell? ⟨w.heap.size + 1, 2, none⟩ = some (.string ⟨#[]⟩) := (blk_cell hR.r 2).trans rfl
      have y2 := blk_frozen hR.r 2
      have x3 : wr.cell? ⟨w.heap.size + 1, 3, none⟩ = some (.string ⟨#[]⟩) := (blk_cell hR.r 3).trans rfl
      have y3 := blk_frozen hR.r 3
      have x4 : wr.cell? ⟨w.heap.size + 1, 4, none⟩ = some (.string ⟨#[]⟩) := (blk_cell hR.r 4).trans rfl
      have y4 := blk_frozen hR.r 4
      clear hR
      go_wp2_with fail
      refine start_ (n := 6) (S := fun w' => w'.cell? ⟨w.heap.size + 1 + 1, 0, none⟩ = some (.string (lockV l3 l4 0)) ∧ w'.cell? ⟨w.heap.size + 1 + 1, 1, none⟩ = some (.string (lockV l3 l4 2)) ∧ w'.cell? ⟨w.heap.size + 1 + 1, 2, none⟩ = some (.string (lockV l3 l4 1)) ∧ w'.cell? ⟨w.heap.size + 1 + 1, 3, none⟩ = some (.string (lockV l3 l4 3)) ∧ w'.cell? ⟨w.heap.size + 1 + 1, 4, none⟩ = some (.string (lockV l3 l4 4)) ∧ w'.cell? ⟨w.heap.size, 0, none⟩ = some (.int .i64 a)) (ds := []) #[false, false, false, false, false, false] (by kernel_rfl) rfl rfl ⟨(blk_cell HR.out.l 0).trans rfl, (blk_cell HR.out.l 1).trans rfl, (blk_cell HR.out.l 2).trans rfl, (blk_cell HR.out.l 3).trans rfl, (blk_cell HR.out.l 4).trans rfl, (blk_cell HR.out.m 0).trans rfl⟩ (fun hHeld => ?_)
      refine pure_ (i := 1) (N := some 36) (v := ?_) (a' := ?_) #[false, true, false, false, false, false] rfl rfl (by kernel_rfl) (fun _ _ _ h => h) (Or.inl ⟨by rfl, ?_⟩) ?_ ?_
      rotate_left
      · intro w'
        go_simp
        with_reducible rfl
      rotate_left
      · simp only [Act.put, List.setIfInBounds_toArray, List.set_cons_zero, List.set_cons_succ, i64_w, i32_w]
        rfl
      refine take_ (i := 0) (N := some 35) (v := ?_) (a' := ?_) #[true, true, false, false, false, false] rfl rfl (by kernel_rfl) (fun _ _ _ h => h) (Or.inl ⟨by rfl, ?_⟩) hHeld ?_ ?_
      rotate_left
      · rintro w' ⟨s0, s1, s2, s3, s4, s5⟩
        go_simp
        with_reducible rfl
      rotate_left
      · simp only [Act.put, List.setIfInBounds_toArray, List.set_cons_zero, List.set_cons_succ, i64_w, i32_w]
        rfl
      refine take_ (i := 2) (N := some 37) (v := ?_) (a' := ?_) #[true, true, true, false, false, false] rfl rfl (by kernel_rfl) (fun _ _ _ h => h) (Or.inl ⟨by rfl, ?_⟩) hHeld ?_ ?_
      rotate_left
      · rintro w' ⟨s0, s1, s2, s3, s4, s5⟩
        go_simp
        with_reducible rfl
      rotate_left
      · simp only [Act.put, List.setIfInBounds_toArray, List.set_cons_zero, List.set_cons_succ, i64_w, i32_w]
        rfl
      refine pure_ (i := 3) (N := some 38) (v := ?_) (a' := ?_) #[true, true, true, true, false, false] rfl rfl (by kernel_rfl) (fun _ _ _ h => h) (Or.inl ⟨by rfl, ?_⟩) ?_ ?_
      rotate_left
      · intro w'
        go_simp
        with_reducible rfl
      rotate_left
      · simp only [Act.put, List.setIfInBounds_toArray, List.set_cons_zero, List.set_cons_succ, i64_w, i32_w]
        rfl
      refine one_ (i := 4) (N := none) #[true, true, true, true, true, false] rfl rfl (by kernel_rfl) (by decide) (fun K hK => ?_)
      refine skip_ (w1 := ?_) (by rfl) rfl ?_ ?_
      rotate_left
      · go_simp
        rfl
      have KZ := Lib.hid (blk_set5 (w := wr) (V := w.heap.size + 1) (.string (lockV l3 l4 0)) (.string (lockV l3 l4 2)) (.string (lockV l3 l4 1)) (.string (lockV l3 l4 3)) (.string (lockV l3 l4 4))).drew
      have LZ := Lib.hid (blk_kp (w := wr) HR.out.l KZ.out (show ¬ (w.heap.size + 1 + 1 = w.heap.size + 1) from by omega))
      have MZ := Lib.hid (blk_kp (w := wr) HR.out.m KZ.out (show ¬ (w.heap.size = w.heap.size + 1) from by omega))
      refine hK.out _ _ ⟨(blk_cell LZ.out 0).trans rfl, (blk_cell LZ.out 1).trans rfl, (blk_cell LZ.out 2).trans rfl, (blk_cell LZ.out 3).trans rfl, (blk_cell LZ.out 4).trans rfl, (blk_cell MZ.out 0).trans rfl⟩ (fun hHeld => ?_)
      clear hK K
      refine pure_ (i := 5) (N := some 3) (v := ?_) (a' := ?_) #[true, true, true, true, true, true] rfl rfl (by kernel_rfl) (fun _ _ _ h => h) (Or.inl ⟨by rfl, ?_⟩) ?_ ?_
      rotate_left
      · intro w'
        go_simp
        with_reducible rfl
      rotate_left
      · simp only [Act.put, List.setIfInBounds_toArray, List.set_cons_zero, List.set_cons_succ, i64_w, i32_w]
        rfl
      refine done_ (by kernel_rfl) ?_
      clear hHeld
      go_wp2
      refine bodyPost_ret (results_list (rs := [.cell 2 45, .tmp 3]) rfl (by simp) (.cell _ 45 (lockArr (lockV l3 l4) 5) (0, 0) _ rfl (set5_blk (t := 45) HR.out.r _ _ _ _ _) Tryd.underlying45 rfl (by kernel_rfl) (.tmp .nil))) rfl ?_
      exact ⟨rfl, below_drew1 (below_set5 HR.out.bel (Nat.le_add_right _ _) _ _ _ _ _)⟩

theorem infoLock : (Tryd.prog.info? 45).map (fun i => (i.zero, i.size, i.bytes)) = some (some (.agg #[.string ⟨#[]⟩, .string ⟨#[]⟩, .string ⟨#[]⟩, .string ⟨#[]⟩, .string ⟨#[]⟩]), 5, 80) := by kernel_rfl
def lockS (m : S27) : S45 := ⟨lockV m.f3 m.f4 0, lockV m.f3 m.f4 2, lockV m.f3 m.f4 1, lockV m.f3 m.f4 3, lockV m.f3 m.f4 4⟩
def lockCells (m : S27) : Array Value := #[.string (lockS m).f0, .string (lockS m).f1, .string (lockS m).f2, .string (lockS m).f3, .string (lockS m).f4]
theorem lock_all (m : S27) (A3 : Option Addr) (c3 : Nat) (A4 : Option Addr) (c4 : Nat) (w : World) (h3 : Kd.C Kd.string w A3 m.f3.length m.f3) (hc3 : m.f3.length ≤ c3) (h4 : Kd.C k27 w A4 m.f4.length m.f4) (ok : ∀ k, k < 5 → LockOk m.f3 m.f4 k) (h5 : m.f0 = 5) :
    Calls Tryd.prog 47 #[.agg #[.int .i64 m.f0, .int .i64 m.f1, .string m.f2, .slice A3 m.f3.length c3, .slice A4 m.f4.length c4]] w fun e w' => e = .returned (.tuple #[.agg #[.string (lockS m).f0, .string (lockS m).f1, .string (lockS m).f2, .string (lockS m).f3, .string (lockS m).f4], .bool true]) ∧ Below w.heap.size w w' := by
  refine (lock_any m.f0 m.f1 m.f2 A3 c3 m.f3 A4 c4 m.f4 w h3 hc3 h4 ok).mono ?_
  rintro e w' ⟨rfl, hb⟩
  rw [show (m.f0 == 5) = true from beq_iff_eq.2 h5]
  exact ⟨rfl, hb⟩
def locksKey : ByteArray := ⟨#[108, 111, 99, 107, 115]⟩
/-- A value whose locks are of the form. -/
structure OfOk (a : Int) (l3 : List ByteArray) (l4 : List S27) : Prop where
  map : a = 5
  idx : idxS l3 locksKey < l4.length
  kind : (getP l3 l4 locksKey).f0 = 0 ∨ (getP l3 l4 locksKey).f0 = 4
  each : ∀ i, i < (getP l3 l4 locksKey).f4.length → (rd_T27 (getP l3 l4 locksKey).f4 (i : Int)).f0 = 5 ∧ ∀ k, k < 5 → LockOk (rd_T27 (getP l3 l4 locksKey).f4 (i : Int)).f3 (rd_T27 (getP l3 l4 locksKey).f4 (i : Int)).f4 k
  few : (getP l3 l4 locksKey).f4.length ≤ 1000000000
set_option maxHeartbeats 4000000 in
set_option maxRecDepth 100000 in
theorem of_any (a b : Int) (c : ByteArray) (A3 : Option Addr) (c3 : Nat) (l3 : List ByteArray) (A4 : Option Addr) (c4 : Nat) (l4 : List S27) (w : World) (h3 : Kd.C Kd.string w A3 l3.length l3) (hc3 : l3.length ≤ c3) (h4 : Kd.C k27 w A4 l4.length l4) (ok : OfOk a l3 l4) :
    Calls Tryd.prog 25 #[.agg #[.int .i64 a, .int .i64 b, .string c, .slice A3 l3.length c3, .slice A4 l4.length c4]] w fun e w' => ∃ v0_ : Value, e = .returned (.tuple #[v0_, .bool true]) ∧ Kd.R k45 45 w' w.heap.size (fun _ => True) v0_ ((getP l3 l4 locksKey).f4.map lockS) ∧ Below w.heap.size w w' := by
  obtain ⟨rfl, hidx, hkind, heach, hfew⟩ := ok
  have B0 := Lib.hid (below_alloc (Below.refl w.heap.size w) (.cells #[.int .i64 5, .int .i64 b, .string c, .slice A3 l3.length c3, .slice A4 l4.length c4] 27))
  have X0 := Lib.hid (blk_new w (.cells #[.int .i64 5, .int .i64 b, .string c, .slice A3 l3.length c3, .slice A4 l4.length c4] 27))
  have HG := Lib.hid (fun (W : World) (hb : Below w.heap.size w W) => get_any 5 b c A3 c3 l3 A4 c4 l4 locksKey W (Kd.C_below h3 hb) hc3 (Kd.C_below h4 hb) hidx)
  generalize getP l3 l4 locksKey = x at hkind heach hfew HG ⊢
  clear h3 hc3 h4 hidx
  have HF := Lib.hid hfew
  have HE := Lib.hid heach
  have hcase : ((x.f0 != 0) = false) ∨ ((x.f0 != 0) = true ∧ (x.f0 != 4) = false) := by
    rcases hkind with h | h
    · exact .inl (by rw [h]; rfl)
    · exact .inr ⟨by rw [h]; rfl, by rw [h]; rfl⟩
  clear hkind hfew heach
  rcases hcase with f1 | ⟨f1, f2⟩
  all_goals
    go_enter Tryd.func25, Tryd.ntmps25
    go_wp2_with (go_at_call 46; go_must (refine (HG.out _ B0.out).mono ?_); rintro e w1 ⟨v, rfl, ⟨B3, k3, B4, k4, rfl, L3, G3, L4, G4⟩, hb⟩; have Y1 := Lib.hid (blk_alloc (blk_below X0.out hb) (.cells #[.int .i64 x.f0, .int .i64 x.f1, .string x.f2, .slice B3 x.f3.length k3, .slice B4 x.f4.length k4] 27)); have B1 := Lib.hid (below_alloc (B0.out.trans (hb.mono B0.out.size)) (.cells #[.int .i64 x.f0, .int .i64 x.f1, .string x.f2, .slice B3 x.f3.length k3, .slice B4 x.f4.length k4] 27)); have H4 := Lib.hid (Kd.C_alloc G4 (.cells #[.int .i64 x.f0, .int .i64 x.f1, .string x.f2, .slice B3 x.f3.length k3, .slice B4 x.f4.length k4] 27)); have z0 := (blk_cell Y1.out 0).trans rfl; clear hb L3 G3 L4 G4)
    obtain ⟨W2, hW2⟩ : ∃ W, w1.alloc (.cells #[.int .i64 x.f0, .int .i64 x.f1, .string x.f2, .slice B3 x.f3.length k3, .slice B4 x.f4.length k4] 27) = W := ⟨_, rfl⟩
    rw [hW2] at B1 H4 ⊢
    clear Y1 z0 hW2
    go_loopg [28, 5] x.f4.length (fun kq v28 u wr => ∃ k : Nat, k ≤ x.f4.length ∧ kq = x.f4.length - k ∧ v28 = .int .i64 k ∧ Kd.R k45 45 wr W2.heap.size (fun _ => True) u ((x.f4.take k).map lockS) ∧ Below W2.heap.size W2 wr)
    case atStart => exact ⟨0, Nat.zero_le _, rfl, rfl, Kd.R_nil _ _ _ _ _, Below.refl _ _⟩
    case round =>
      obtain ⟨k, hk, hkq, rfl, hR, hB⟩ := hrel
      by_cases hlt : k < x.f4.length
      · have p0 : (0 : Int) ≤ (k : Int) := by omega
        have p1 : (k : Int) < (x.f4.length : Int) := by omega
        have p2 : (k : Int) ≤ 1000000000 := by have := HF.out; omega
        obtain ⟨ad, E3, e3, E4, e4, ea, q0, q1, q2, q3, q4, l3_, g3, l4_, g4⟩ := at_T27 H4.out (k : Int) p0 p1
        subst ea
        simp only [Int.toNat_natCast] at q0 q1 q2 q3 q4
        obtain ⟨hm5, hmk⟩ := HE.out k hlt
        have HL := Lib.hid (fun (W : World) (hb : Below W2.heap.size W2 W) => lock_all (rd_T27 x.f4 (k : Int)) E3 e3 E4 e4 W (Kd.C_below g3 hb) l3_ (Kd.C_below g4 hb) hmk hm5)
        have hsnoc : (x.f4.take (k + 1)).map lockS = (x.f4.take k).map lockS ++ [lockS (rd_T27 x.f4 (k : Int))] := by
          rw [List.take_succ_eq_append_getElem hlt, List.map_append]
          simp [rd_T27, hlt]
        have Hsn := Lib.hid hsnoc
        generalize rd_T27 x.f4 (k : Int) = m at q0 q1 q2 q3 q4 HL Hsn
        have m0 := kp_cell q0 (Kp.of_below hB (fun _ => False)) (fun h => h)
        have m1 := kp_cell q1 (Kp.of_below hB (fun _ => False)) (fun h => h)
        have m2 := kp_cell q2 (Kp.of_below hB (fun _ => False)) (fun h => h)
        have m3 := kp_cell q3 (Kp.of_below hB (fun _ => False)) (fun h => h)
        have m4 := kp_cell q4 (Kp.of_below hB (fun _ => False)) (fun h => h)
        have HR := Lib.hid hR
        have HB := Lib.hid hB
        have Hlt := Lib.hid hlt
        clear q0 q1 q2 q3 q4 l3_ g3 l4_ g4 hm5 hmk hsnoc hR hB
        go_wp2_with (first
          | (go_at_call 47; go_must (refine (HL.out _ (below_alloc HB.out (.cells #[.int .i64 m.f0, .int .i64 m.f1, .string m.f2, .slice E3 m.f3.length e3, .slice E4 m.f4.length e4] 27))).mono ?_); rintro e w3 ⟨rfl, hb⟩; have B3 := Lib.hid (below_alloc ((below_alloc HB.out (.cells #[.int .i64 m.f0, .int .i64 m.f1, .string m.f2, .slice E3 m.f3.length e3, .slice E4 m.f4.length e4] 27)).trans (hb.mono (below_alloc HB.out _).size)) (.cells #[.string (lockS m).f0, .string (lockS m).f1, .string (lockS m).f2, .string (lockS m).f3, .string (lockS m).f4] 45)); have R3 := Lib.hid (Kd.R_alloc (Kd.R_below (Kd.R_alloc HR.out (.cells #[.int .i64 m.f0, .int .i64 m.f1, .string m.f2, .slice E3 m.f3.length e3, .slice E4 m.f4.length e4] 27)) hb) (.cells #[.string (lockS m).f0, .string (lockS m).f1, .string (lockS m).f2, .string (lockS m).f3, .string (lockS m).f4] 45)); clear hb)
          | ((with_reducible refine gate_builtin (b := .append) (xs := #[.tmp 39, .tmp 41]) rfl ?_); (at_builtin; refine Kd.R_append k45 (w0 := W2) (W := w3.alloc (.cells #[.string (lockS m).f0, .string (lockS m).f1, .string (lockS m).f2, .string (lockS m).f3, .string (lockS m).f4] 45)) W2.heap.size rfl (.tmp 39) (.tmp 41) 40 45 (.agg #[.string ⟨#[]⟩, .string ⟨#[]⟩, .string ⟨#[]⟩, .string ⟨#[]⟩, .string ⟨#[]⟩]) 80 rfl Tryd.underlying40 infoLock rfl (by decide) (by omega) u5 ((x.f4.take k).map lockS) (lockS m) [.string (lockS m).f0, .string (lockS m).f1, .string (lockS m).f2, .string (lockS m).f3, .string (lockS m).f4] (fun _ => True) (fun _ => False) rfl (by show Value.slice (some ⟨w3.heap.size + 1, 0, none⟩) 1 1 = _; rw [World.size_alloc]) (k45_mkM _ _ _ _) (fun _ hk => hk.elim) (fun _ _ => trivial) R3.out B3.out B3.out.size (by rw [List.length_map, List.length_take]; have := HF.out; omega) ?_; intro v1 w4 hR4 hB4 _ _; have R4 := Lib.hid hR4; have B4 := Lib.hid hB4; clear hR4 hB4)))
        go_roundg (x.f4.length - (k + 1))
        case measure => have := Hlt.out; omega
        case rel => exact ⟨k + 1, by have := Hlt.out; omega, rfl, by go_num, by rw [Hsn.out]; exact R4.out, B4.out⟩
      · obtain rfl : k = x.f4.length := by omega
        have p1 : ¬ ((x.f4.length : Int) < (x.f4.length : Int)) := by omega
        have hR5 := Lib.hid (show Kd.R k45 45 wr W2.heap.size (fun _ => True) u5 (x.f4.map lockS) from by rw [List.take_length] at hR; exact hR)
        have HB := Lib.hid hB
        clear hR hB
        go_wp2
        go_ret2
        exact ⟨u5, rfl, Kd.R_lower hR5.out B1.out.size, B1.out.trans (HB.out.mono B1.out.size)⟩

/-! ### brace_Locks: function 12 -/
theorem clip_any (A : Option Addr) (n c : Nat) (hn : n ≤ c) (w : World) :
    Calls Tryd.prog 27 #[.slice A n c] w fun e w' => e = .returned (.slice A n n) ∧ w = w' := by
  have h1 : (n : Int) ≤ (c : Int) := by omega
  go_enter Tryd.func27, Tryd.ntmps27
  go_wp2
  go_ret
  exact ⟨rfl, rfl⟩
instance {l3 : List ByteArray} {l4 : List S27} {k : Nat} : Decidable (LockOk l3 l4 k) := by unfold LockOk; infer_instance
instance {a : Int} {l3 : List ByteArray} {l4 : List S27} : Decidable (OfOk a l3 l4) :=
  decidable_of_iff (a = 5 ∧ idxS l3 locksKey < l4.length ∧ ((getP l3 l4 locksKey).f0 = 0 ∨ (getP l3 l4 locksKey).f0 = 4) ∧ (∀ i, i < (getP l3 l4 locksKey).f4.length → (rd_T27 (getP l3 l4 locksKey).f4 (i : Int)).f0 = 5 ∧ ∀ k, k < 5 → LockOk (rd_T27 (getP l3 l4 locksKey).f4 (i : Int)).f3 (rd_T27 (getP l3 l4 locksKey).f4 (i : Int)).f4 k) ∧ (getP l3 l4 locksKey).f4.length ≤ 1000000000)
    ⟨fun h => ⟨h.1, h.2.1, h.2.2.1, h.2.2.2.1, h.2.2.2.2⟩, fun h => ⟨h.map, h.idx, h.kind, h.each, h.few⟩⟩
/-- So much of Locks as is wanted. -/
def brace_Locks.f (k : Nat) (a0 : ByteArray) : Option (List S45 × Int × Int × Int) :=
  if a0.size ≤ 140737488351232 then
    (if (parseP a0).2.2 = 0 then (if OfOk (parseP a0).1.f0 (parseP a0).1.f3 (parseP a0).1.f4 then
        (brace_checked.f k ((getP (parseP a0).1.f3 (parseP a0).1.f4 locksKey).f4.map lockS)).bind fun c => if c = 0 then some ((getP (parseP a0).1.f3 (parseP a0).1.f4 locksKey).f4.map lockS, 0, 0, 0) else none
      else none)
    else some ([], (parseP a0).2.1.1, (parseP a0).2.1.2, (parseP a0).2.2))
  else none
theorem brace_Locks.mono (a0 : ByteArray) (k : Nat) : LeO (brace_Locks.f k a0) (brace_Locks.f (k + 1) a0) := by
  intro r h
  unfold brace_Locks.f at h ⊢
  split at h
  · rename_i q; rw [if_pos q]
    split at h
    · rename_i q; rw [if_pos q]
      split at h
      · rename_i q; rw [if_pos q]
        obtain ⟨c, hc, h⟩ := Option.bind_eq_some_iff.mp h
        rw [brace_checked.mono _ _ c hc]
        exact h
      · simp at h
    · rename_i q; rw [if_neg q]; exact h
  · simp at h
/-- Two blocks of results of a call, laid by the walk: its value and its place. -/
def pvO (x : S27) (v3 v4 : Value) : Obj := .cells #[.int .i64 x.f0, .int .i64 x.f1, .string x.f2, v3, v4] 27
set_option maxHeartbeats 4000000 in
set_option maxRecDepth 100000 in
theorem brace_Locks.calls (k : Nat) (a0 : ByteArray) (r1 : List S45) (r2 r3 r4 : Int) (w : World) (h : brace_Locks.f k a0 = some (r1, r2, r3, r4)) :
    Calls Tryd.prog 12 #[.string a0] w fun e w' => ∃ v0_ : Value, e = .returned (.tuple #[v0_, .agg #[.int .i64 r2, .int .i64 r3], .int .i64 r4]) ∧ Kd.V k45 45 w' w.heap.size (fun _ => True) v0_ r1 ∧ Below w.heap.size w w' := by
  unfold brace_Locks.f at h
  split at h
  case isFalse => simp at h
  rename_i hs
  have HP := Lib.hid (fun W => parse_any a0 hs W)
  generalize parseP a0 = p at h HP
  obtain ⟨x, ⟨p1, p2⟩, ee⟩ := p
  simp only at h
  have X0 := Lib.hid (blk_new w placeO)
  have B0 := Lib.hid (below_alloc (Below.refl w.heap.size w) placeO)
  split at h
  · rename_i he
    subst he
    split at h
    case isFalse => simp at h
    rename_i hok
    obtain ⟨c, hc, h⟩ := Option.bind_eq_some_iff.mp h
    split at h
    case isFalse => simp at h
    rename_i hc0
    subst hc0
    simp only [Option.some.injEq, Prod.mk.injEq] at h
    obtain ⟨rfl, rfl, rfl, rfl⟩ := h
    have HO := Lib.hid (fun A3 c3 A4 c4 W h3 hc3 h4 => of_any x.f0 x.f1 x.f2 A3 c3 x.f3 A4 c4 x.f4 W h3 hc3 h4 hok)
    have HC := Lib.hid (fun A0 c0 W hr0 hc0 => brace_checked.calls k A0 c0 _ 0 W hr0 hc0 hc)
    generalize (getP x.f3 x.f4 locksKey).f4.map lockS = L at HO HC ⊢
    clear hok hc hs
    go_enter Tryd.func12, Tryd.ntmps12
    go_wp2_with (first
      | (go_at_call 8; go_must (refine (HP.out _).mono ?_); rintro e w1 ⟨v3, v4, rfl, h3, h4, hb⟩; obtain ⟨A3, c3, hv3⟩ := own_slice h3.2.choose_spec.1; obtain ⟨A4, c4, hv4⟩ := own_slice h4.2.choose_spec.1; subst hv3; subst hv4; have X1 := Lib.hid (blk_alloc (blk_alloc (blk_below X0.out hb) (.cells #[.int .i64 x.f0, .int .i64 x.f1, .string x.f2, .slice A3 x.f3.length c3, .slice A4 x.f4.length c4] 27)) (.cells #[.int .i64 p1, .int .i64 p2] 29)); have B1 := Lib.hid (below_alloc (below_alloc (B0.out.trans (hb.mono B0.out.size)) (.cells #[.int .i64 x.f0, .int .i64 x.f1, .string x.f2, .slice A3 x.f3.length c3, .slice A4 x.f4.length c4] 27)) (.cells #[.int .i64 p1, .int .i64 p2] 29)); have C3 := Lib.hid (Kd.C_alloc (Kd.C_alloc (Kd.R_reads' h3).2.2 (.cells #[.int .i64 x.f0, .int .i64 x.f1, .string x.f2, .slice A3 x.f3.length c3, .slice A4 x.f4.length c4] 27)) (.cells #[.int .i64 p1, .int .i64 p2] 29)); have C4 := Lib.hid (Kd.C_alloc (Kd.C_alloc (Kd.R_reads' h4).2.2 (.cells #[.int .i64 x.f0, .int .i64 x.f1, .string x.f2, .slice A3 x.f3.length c3, .slice A4 x.f4.length c4] 27)) (.cells #[.int .i64 p1, .int .i64 p2] 29)); have C3l := Lib.hid (Kd.R_reads' h3).2.1; have C4l := Lib.hid (Kd.R_reads' h4).2.1; clear h3 h4 hb)
      | (go_at_call 25; go_must (refine (HO.out _ _ _ _ _ C3.out C3l.out C4.out).mono ?_); rintro e w3 ⟨v0, rfl, hR, hb⟩; obtain ⟨A, c, hv0⟩ := own_slice hR.2.choose_spec.1; subst hv0; have R3 := Lib.hid hR; have X3 := Lib.hid (blk_below X1.out hb); have B3 := Lib.hid (B1.out.trans (hb.mono B1.out.size)); clear hR hb)
      | (go_at_call 26; go_must (refine (HC.out A c _ (Kd.R_reads' R3.out).2.2 (Kd.R_reads' R3.out).2.1).mono ?_); rintro e w4 ⟨rfl, hb⟩; have R4 := Lib.hid (Kd.R_below R3.out hb); have X4 := Lib.hid (blk_below X3.out hb); have B4 := Lib.hid (B3.out.trans (hb.mono B3.out.size)); clear hb)
      | (go_at_call 27; go_must (refine (clip_any A _ c (Kd.R_reads' R4.out).2.1 _).mono ?_); rintro e w5 ⟨rfl, rfl⟩; have r0 : w4.cell? ⟨w.heap.size, 0, none⟩ = some (.int .i64 0) := (blk_cell X4.out 0).trans rfl; have r1 : w4.cell? ⟨w.heap.size, 1, none⟩ = some (.int .i64 0) := (blk_cell X4.out 1).trans rfl; have q0 := blk_frozen X4.out 0; have q1 := blk_frozen X4.out 1))
    refine bodyPost_ret (results_list (rs := [.tmp 2, .cell 3 29, .tmp 4]) rfl (by simp) (.tmp (.cell _ 29 _ (0, 0) _ rfl (set2_blk X4.out _ _) Tryd.underlying29 rfl (by kernel_rfl) (.tmp .nil)))) rfl ?_
    have KZ : Kp (fun b => b = w.heap.size) w4 (set2 w4 w.heap.size (.int .i64 0) (.int .i64 0)) := set2_kp (S := fun b => b = w.heap.size) (Kp.refl _ _) (.inl rfl) _ _
    have hlt := blk_lt X1.out
    have hR5 := Kd.R_mono (Kd.R_step (Kd.R_bound R4.out) (fun b hb hl => KZ.block b hl (fun e => by have := hb.2.1; omega))) (ok' := fun _ => True) (fun _ _ => trivial)
    exact ⟨_, rfl, Kd.V_mk (Nat.le_refl _) (Kd.R_F hR5), Kp.to_below B4.out KZ (fun b e => by omega)⟩
  · rename_i he
    have e1 : (ee != 0) = true := by simpa using he
    simp only [Option.some.injEq, Prod.mk.injEq] at h
    obtain ⟨rfl, rfl, rfl, rfl⟩ := h
    clear he hs
    go_enter Tryd.func12, Tryd.ntmps12
    go_wp2_with (go_at_call 8; go_must (refine (HP.out _).mono ?_); rintro e w1 ⟨v3, v4, rfl, h3, h4, hb⟩; obtain ⟨A3, c3, hv3⟩ := own_slice h3.2.choose_spec.1; obtain ⟨A4, c4, hv4⟩ := own_slice h4.2.choose_spec.1; subst hv3; subst hv4; have X1 := Lib.hid (blk_alloc (blk_alloc (blk_below X0.out hb) (.cells #[.int .i64 x.f0, .int .i64 x.f1, .string x.f2, .slice A3 x.f3.length c3, .slice A4 x.f4.length c4] 27)) (.cells #[.int .i64 p1, .int .i64 p2] 29)); have B1 := Lib.hid (below_alloc (below_alloc (B0.out.trans (hb.mono B0.out.size)) (.cells #[.int .i64 x.f0, .int .i64 x.f1, .string x.f2, .slice A3 x.f3.length c3, .slice A4 x.f4.length c4] 27)) (.cells #[.int .i64 p1, .int .i64 p2] 29)); have hl := blk_new (w1.alloc (.cells #[.int .i64 x.f0, .int .i64 x.f1, .string x.f2, .slice A3 x.f3.length c3, .slice A4 x.f4.length c4] 27)) (.cells #[.int .i64 p1, .int .i64 p2] 29); rw [World.size_alloc] at hl; have XP := Lib.hid hl; have HL := Lib.hid (Nat.lt_of_lt_of_le (blk_lt X0.out) hb.size); clear hl; have x0 : ((w1.alloc (.cells #[.int .i64 x.f0, .int .i64 x.f1, .string x.f2, .slice A3 x.f3.length c3, .slice A4 x.f4.length c4] 27)).alloc (.cells #[.int .i64 p1, .int .i64 p2] 29)).cell? ⟨w.heap.size, 0, none⟩ = some (.int .i64 0) := (blk_cell X1.out 0).trans rfl; have y0 := blk_frozen X1.out 0;  have x1 : ((w1.alloc (.cells #[.int .i64 x.f0, .int .i64 x.f1, .string x.f2, .slice A3 x.f3.length c3, .slice A4 x.f4.length c4] 27)).alloc (.cells #[.int .i64 p1, .int .i64 p2] 29)).cell? ⟨w.heap.size, 1, none⟩ = some (.int .i64 0) := (blk_cell X1.out 1).trans rfl; have y1 := blk_frozen X1.out 1; clear h3 h4 hb)
    refine start_ (n := 5) (S := fun w' => w'.cell? ⟨w1.heap.size + 1, 0, none⟩ = some (.int .i64 p1) ∧ w'.cell? ⟨w1.heap.size + 1, 1, none⟩ = some (.int .i64 p2)) (ds := []) #[false, false, false, false, false] (by kernel_rfl) rfl rfl ⟨(blk_cell XP.out 0).trans rfl, (blk_cell XP.out 1).trans rfl⟩ (fun hHeld => ?_)
    refine pure_ (i := 1) (N := some 20) (v := ?_) (a' := ?_) #[false, true, false, false, false] rfl rfl (by kernel_rfl) (fun _ _ _ h => h) (Or.inl ⟨by rfl, ?_⟩) ?_ ?_
    rotate_left
    · intro w'
      go_simp
      with_reducible rfl
    rotate_left
    · simp only [Act.put, List.setIfInBounds_toArray, List.set_cons_zero, List.set_cons_succ, i64_w, i32_w]
      rfl
    refine pure_ (i := 2) (N := some 2) (v := ?_) (a' := ?_) #[false, true, true, false, false] rfl rfl (by kernel_rfl) (fun _ _ _ h => h) (Or.inl ⟨by rfl, ?_⟩) ?_ ?_
    rotate_left
    · intro w'
      go_simp
      with_reducible rfl
    rotate_left
    · simp only [Act.put, List.setIfInBounds_toArray, List.set_cons_zero, List.set_cons_succ, i64_w, i32_w]
      rfl
    refine take_ (i := 0) (N := some 19) (v := ?_) (a' := ?_) #[true, true, true, false, false] rfl rfl (by kernel_rfl) (fun _ _ _ h => h) (Or.inl ⟨by rfl, ?_⟩) hHeld ?_ ?_
    rotate_left
    · rintro w' ⟨s0, s1⟩
      go_simp
      with_reducible rfl
    rotate_left
    · simp only [Act.put, List.setIfInBounds_toArray, List.set_cons_zero, List.set_cons_succ, i64_w, i32_w]
      rfl
    refine one_ (i := 3) (N := none) #[true, true, true, true, false] rfl rfl (by kernel_rfl) (by decide) (fun K hK => ?_)
    refine skip_ (w1 := ?_) (by rfl) rfl ?_ ?_
    rotate_left
    · go_simp
      rfl
    have KZ := Lib.hid (set2_kp (S := fun b => b = w.heap.size) (V := w.heap.size) (Kp.refl (fun b => b = w.heap.size) ((w1.alloc (.cells #[.int .i64 x.f0, .int .i64 x.f1, .string x.f2, .slice A3 x.f3.length c3, .slice A4 x.f4.length c4] 27)).alloc (.cells #[.int .i64 p1, .int .i64 p2] 29))) (.inl rfl) (.int .i64 p1) (.int .i64 p2))
    have MZ := Lib.hid (blk_kp XP.out KZ.out (show ¬ (w1.heap.size + 1 = w.heap.size) from by have := HL.out; omega))
    refine hK.out _ _ ⟨(blk_cell MZ.out 0).trans rfl, (blk_cell MZ.out 1).trans rfl⟩ (fun hHeld => ?_)
    clear hK K
    refine pure_ (i := 4) (N := some 4) (v := ?_) (a' := ?_) #[true, true, true, true, true] rfl rfl (by kernel_rfl) (fun _ _ _ h => h) (Or.inl ⟨by rfl, ?_⟩) ?_ ?_
    rotate_left
    · intro w'
      go_simp
      with_reducible rfl
    rotate_left
    · simp only [Act.put, List.setIfInBounds_toArray, List.set_cons_zero, List.set_cons_succ, i64_w, i32_w]
      rfl
    refine done_ (by kernel_rfl) ?_
    clear hHeld
    go_wp2
    refine bodyPost_ret (results_list (rs := [.tmp 2, .cell 3 29, .tmp 4]) rfl (by simp) (.tmp (.cell _ 29 _ (0, 0) _ rfl (set2_blk X1.out _ _) Tryd.underlying29 rfl (by kernel_rfl) (.tmp .nil)))) rfl ?_
    exact ⟨_, rfl, Kd.V_nil _ _ _ _ _, below_drew1 (Kp.to_below B1.out (set2_kp (S := fun b => b = w.heap.size) (Kp.refl _ _) (.inl rfl) _ _) (fun b e => by omega))⟩

/-! ### brace_Write: function 14 -/
def wKey : ByteArray := ⟨#[108, 111, 99, 107, 115]⟩
def wList : S27 := ⟨4, 0, ⟨#[]⟩, [], []⟩
/-- So much of Write as is wanted: of no lock. -/
def brace_Write.f (k : Nat) (l0 : List S45) : Option ByteArray := match l0 with
  | [] => (brace_Text.f k 5 0 ⟨#[]⟩ [wKey] [wList]).bind fun t => if t.size ≤ 1000000 then some (t ++ ⟨#[10]⟩) else none
  | _ => none
theorem one_C {α : Type} {d : Kd α} {x : α} {cs : List Value} {w : World} {Z : Nat} {t : TypeId} (h : w.heap[Z]? = some (.cells cs.toArray t (0, 0))) (hK : d.K w x cs) (hl : cs.length = d.sz) : Kd.C d w (some ⟨Z, 0, none⟩) 1 [x] := by
  refine ⟨rfl, by decide, fun _ => ⟨_, rfl, fun j p hj => ?_⟩⟩
  rcases j with _ | j
  · obtain rfl := Option.some.inj hj
    refine ⟨cs, hl, hK, fun i u hu => ?_⟩
    rw [add_plain, Nat.zero_mul, Nat.zero_add]
    refine (blk_cell h i).trans ?_
    rw [← hu]
    simp
  · cases hj
theorem brace_Write.mono (l0 : List S45) (k : Nat) : LeO (brace_Write.f k l0) (brace_Write.f (k + 1) l0) := by
  intro r h
  unfold brace_Write.f at h ⊢
  split at h
  · obtain ⟨t, ht, h⟩ := Option.bind_eq_some_iff.mp h
    rw [brace_Text.mono _ _ _ _ _ _ t ht]
    exact h
  · simp at h
set_option maxHeartbeats 4000000 in
set_option maxRecDepth 100000 in
theorem brace_Write.calls (k : Nat) (A0 : Option Addr) (c0 : Nat) (l0 : List S45) (r : ByteArray) (w : World) (hr0 : Kd.C k45 w A0 l0.length l0) (hc0 : l0.length ≤ c0) (hTab : Tab w) (h : brace_Write.f k l0 = some r) :
    Calls Tryd.prog 14 #[.slice A0 l0.length c0] w fun e w' => e = .returned (.string r) ∧ Below w.heap.size w w' := by
  unfold brace_Write.f at h
  split at h
  · obtain ⟨t, ht, h⟩ := Option.bind_eq_some_iff.mp h
    split at h
    · rename_i hz
      obtain rfl := Option.some.inj h
      have HTab := Lib.hid hTab
      clear h hTab
      go_enter Tryd.func14, Tryd.ntmps14
      go_wp2
      go_loopg [14] 0 (fun kq v wr => v = .int .i64 0 ∧ wr.heap[w.heap.size]? = some (builtO 4) ∧ Below w.heap.size w wr)
      case atStart => exact ⟨rfl, blk_new w (builtO 4), below_alloc (Below.refl _ _) _⟩
      case round =>
        obtain ⟨rfl, hX, hB⟩ := hrel
        have x0 : (wr.alloc (.cells #[.string ⟨#[108, 111, 99, 107, 115]⟩] 9)).cell? ⟨w.heap.size, 0, none⟩ = some (.int .i64 4) := (blk_cell (blk_alloc hX _) 0).trans rfl
        have x1 : (wr.alloc (.cells #[.string ⟨#[108, 111, 99, 107, 115]⟩] 9)).cell? ⟨w.heap.size, 1, none⟩ = some (.int .i64 0) := (blk_cell (blk_alloc hX _) 1).trans rfl
        have x2 : (wr.alloc (.cells #[.string ⟨#[108, 111, 99, 107, 115]⟩] 9)).cell? ⟨w.heap.size, 2, none⟩ = some (.string ⟨#[]⟩) := (blk_cell (blk_alloc hX _) 2).trans rfl
        have x3 : (wr.alloc (.cells #[.string ⟨#[108, 111, 99, 107, 115]⟩] 9)).cell? ⟨w.heap.size, 3, none⟩ = some (.slice none 0 0) := (blk_cell (blk_alloc hX _) 3).trans rfl
        have x4 : (wr.alloc (.cells #[.string ⟨#[108, 111, 99, 107, 115]⟩] 9)).cell? ⟨w.heap.size, 4, none⟩ = some (.slice none 0 0) := (blk_cell (blk_alloc hX _) 4).trans rfl
        have hk := blk_new wr (.cells #[.string ⟨#[108, 111, 99, 107, 115]⟩] 9)
        have hl := blk_new (wr.alloc (.cells #[.string ⟨#[108, 111, 99, 107, 115]⟩] 9)) (.cells #[.int .i64 4, .int .i64 0, .string ⟨#[]⟩, .slice none 0 0, .slice none 0 0] 27)
        rw [World.size_alloc] at hl
        have C3 := Lib.hid (one_C (d := Kd.string) (x := wKey) (cs := [.string wKey]) (blk_alloc hk (.cells #[.int .i64 4, .int .i64 0, .string ⟨#[]⟩, .slice none 0 0, .slice none 0 0] 27)) rfl rfl)
        have C4 := Lib.hid (one_C (d := k27) (x := wList) (cs := [.int .i64 4, .int .i64 0, .string ⟨#[]⟩, .slice none 0 0, .slice none 0 0]) hl (k27_mk _ wList (Nat.le_refl _) (Kd.C_nil _ _) (Nat.le_refl _) (Kd.C_nil _ _)) rfl)
        have B4 := Lib.hid (below_alloc (below_alloc hB (.cells #[.string ⟨#[108, 111, 99, 107, 115]⟩] 9)) (.cells #[.int .i64 4, .int .i64 0, .string ⟨#[]⟩, .slice none 0 0, .slice none 0 0] 27))
        have HX := Lib.hid (brace_Text.calls k 5 0 ⟨#[]⟩ (some ⟨wr.heap.size, 0, none⟩) 1 [wKey] (some ⟨wr.heap.size + 1, 0, none⟩) 1 [wList] t _ C3.out (by decide) C4.out (by decide) (HTab.out.below B4.out) ht)
        clear hk hl
        clear hX hB
        go_wp2_with (go_at_call 10; go_must (refine HX.out.mono ?_); rintro e w5 ⟨rfl, h5⟩)
        go_ret
        exact ⟨rfl, B4.out.trans (h5.mono B4.out.size)⟩
    · simp at h
  · simp at h

/-! ### transhumancelaw5_known: function 6 -/
def knownText : ByteArray := ⟨#[123, 34, 108, 111, 99, 107, 115, 34, 58, 91, 123, 34, 112, 97, 116, 104, 34, 58, 34, 97, 34, 44, 34, 118, 101, 114, 115, 105, 111, 110, 34, 58, 34, 118, 49, 46, 48, 46, 48, 34, 125, 93, 125]⟩
def knownLock : S45 := ⟨⟨#[97]⟩, ⟨#[118, 49, 46, 48, 46, 48]⟩, ⟨#[]⟩, ⟨#[]⟩, ⟨#[]⟩⟩
theorem known_1 : parseP ⟨#[91, 93]⟩ = (⟨4, 0, ⟨#[]⟩, [], []⟩, (0, 0), 0) := by kernel_rfl
theorem known_2 : brace_Locks.f 100 knownText = some ([knownLock], 0, 0, 0) := by kernel_rfl
theorem known_3 : parseP ⟨#[91, 49, 10, 44, 120, 93]⟩ = (⟨0, 0, ⟨#[]⟩, [], []⟩, (2, 2), 1) := by kernel_rfl
theorem known_4 : brace_Text.f 100 4 0 ⟨#[]⟩ [] [] = some ⟨#[91, 93]⟩ := by kernel_rfl
theorem known_5 : brace_Write.f 100 [] = some ⟨#[123, 34, 108, 111, 99, 107, 115, 34, 58, 91, 93, 125, 10]⟩ := by kernel_rfl
set_option maxHeartbeats 4000000 in
set_option maxRecDepth 100000 in
theorem known_any (w : World) (hTab : Tab w) :
    Calls Tryd.prog 6 #[] w fun e w' => e = .returned (.bool true) ∧ Below w.heap.size w w' := by
  have HP1 := Lib.hid (fun W => parse_any ⟨#[91, 93]⟩ (by decide) W)
  rw [known_1] at HP1
  have HP3 := Lib.hid (fun W => parse_any ⟨#[91, 49, 10, 44, 120, 93]⟩ (by decide) W)
  rw [known_3] at HP3
  have HL := Lib.hid (fun W => brace_Locks.calls 100 knownText [knownLock] 0 0 0 W known_2)
  have HX := Lib.hid (fun A3 c3 A4 c4 W h3 h4 hT => brace_Text.calls 100 4 0 ⟨#[]⟩ A3 c3 [] A4 c4 [] ⟨#[91, 93]⟩ W h3 (Nat.zero_le _) h4 (Nat.zero_le _) hT known_4)
  have HW := Lib.hid (fun W hT => brace_Write.calls 100 none 0 [] _ W (Kd.C_nil _ W) (Nat.le_refl _) hT known_5)
  have HT := Lib.hid hTab
  clear hTab
  go_enter Tryd.func6, Tryd.ntmps6
  go_wp2_with (first
    | (go_at_call 8; (first
      | ((with_reducible refine (HP1.out _).mono ?_); rintro e w1 ⟨v3, v4, rfl, h3, h4, hb⟩; obtain ⟨A3, c3, hv3⟩ := own_slice h3.2.choose_spec.1; obtain ⟨A4, c4, hv4⟩ := own_slice h4.2.choose_spec.1; subst hv3; subst hv4; have B1 := Lib.hid (below_alloc (below_alloc hb (.cells #[.int .i64 4, .int .i64 0, .string ⟨#[]⟩, .slice A3 0 c3, .slice A4 0 c4] 27)) (.cells #[.int .i64 0, .int .i64 0] 29)); have X1 := Lib.hid (blk_alloc (blk_new w1 (.cells #[.int .i64 4, .int .i64 0, .string ⟨#[]⟩, .slice A3 0 c3, .slice A4 0 c4] 27)) (.cells #[.int .i64 0, .int .i64 0] 29)); have C3 := Lib.hid (Kd.C_alloc (Kd.C_alloc (Kd.R_reads' h3).2.2 (.cells #[.int .i64 4, .int .i64 0, .string ⟨#[]⟩, .slice A3 0 c3, .slice A4 0 c4] 27)) (.cells #[.int .i64 0, .int .i64 0] 29)); have C4 := Lib.hid (Kd.C_alloc (Kd.C_alloc (Kd.R_reads' h4).2.2 (.cells #[.int .i64 4, .int .i64 0, .string ⟨#[]⟩, .slice A3 0 c3, .slice A4 0 c4] 27)) (.cells #[.int .i64 0, .int .i64 0] 29)); clear h3 h4 hb)
      | (go_must (refine (HP3.out _).mono ?_); rintro e w3 ⟨v3, v4, rfl, h3, h4, hb⟩; obtain ⟨D3, d3, hv3⟩ := own_slice h3.2.choose_spec.1; obtain ⟨D4, d4, hv4⟩ := own_slice h4.2.choose_spec.1; subst hv3; subst hv4; have hd := below_alloc (below_alloc hb (.cells #[.int .i64 0, .int .i64 0, .string ⟨#[]⟩, .slice D3 0 d3, .slice D4 0 d4] 27)) (.cells #[.int .i64 2, .int .i64 2] 29); have X3 := Lib.hid (blk_below X2.out hd); have B3 := Lib.hid (B2.out.trans (hd.mono B2.out.size)); have hp := blk_new (w3.alloc (.cells #[.int .i64 0, .int .i64 0, .string ⟨#[]⟩, .slice D3 0 d3, .slice D4 0 d4] 27)) (.cells #[.int .i64 2, .int .i64 2] 29); rw [World.size_alloc] at hp; have F3 := Lib.hid (Kd.C_below E3.out hd); have F4 := Lib.hid (Kd.C_below E4.out hd);
          have x0 : ((w3.alloc (.cells #[.int .i64 0, .int .i64 0, .string ⟨#[]⟩, .slice D3 0 d3, .slice D4 0 d4] 27)).alloc (.cells #[.int .i64 2, .int .i64 2] 29)).cell? ⟨w1.heap.size, 0, none⟩ = some (.int .i64 4) := (blk_cell X3.out 0).trans rfl; have x1 : ((w3.alloc (.cells #[.int .i64 0, .int .i64 0, .string ⟨#[]⟩, .slice D3 0 d3, .slice D4 0 d4] 27)).alloc (.cells #[.int .i64 2, .int .i64 2] 29)).cell? ⟨w1.heap.size, 1, none⟩ = some (.int .i64 0) := (blk_cell X3.out 1).trans rfl; have x2 : ((w3.alloc (.cells #[.int .i64 0, .int .i64 0, .string ⟨#[]⟩, .slice D3 0 d3, .slice D4 0 d4] 27)).alloc (.cells #[.int .i64 2, .int .i64 2] 29)).cell? ⟨w1.heap.size, 2, none⟩ = some (.string ⟨#[]⟩) := (blk_cell X3.out 2).trans rfl; have x3 : ((w3.alloc (.cells #[.int .i64 0, .int .i64 0, .string ⟨#[]⟩, .slice D3 0 d3, .slice D4 0 d4] 27)).alloc (.cells #[.int .i64 2, .int .i64 2] 29)).cell? ⟨w1.heap.size, 3, none⟩ = some (.slice A3 0 c3) := (blk_cell X3.out 3).trans rfl; have x4 : ((w3.alloc (.cells #[.int .i64 0, .int .i64 0, .string ⟨#[]⟩, .slice D3 0 d3, .slice D4 0 d4] 27)).alloc (.cells #[.int .i64 2, .int .i64 2] 29)).cell? ⟨w1.heap.size, 4, none⟩ = some (.slice A4 0 c4) := (blk_cell X3.out 4).trans rfl;
          have p0 : ((w3.alloc (.cells #[.int .i64 0, .int .i64 0, .string ⟨#[]⟩, .slice D3 0 d3, .slice D4 0 d4] 27)).alloc (.cells #[.int .i64 2, .int .i64 2] 29)).cell? ⟨w3.heap.size + 1, 0, none⟩ = some (.int .i64 2) := (blk_cell hp 0).trans rfl; have p1 : ((w3.alloc (.cells #[.int .i64 0, .int .i64 0, .string ⟨#[]⟩, .slice D3 0 d3, .slice D4 0 d4] 27)).alloc (.cells #[.int .i64 2, .int .i64 2] 29)).cell? ⟨w3.heap.size + 1, 1, none⟩ = some (.int .i64 2) := (blk_cell hp 1).trans rfl;
          have z0 := kp_cell Q0.out (Kp.of_below hd (fun _ => False)) (fun h => h); have z1 := kp_cell Q1.out (Kp.of_below hd (fun _ => False)) (fun h => h); clear h3 h4 hb hd hp)))
    | (go_at_call 12; go_must (refine (HL.out _).mono ?_); rintro e w2 ⟨v0, rfl, hV, hb⟩; obtain ⟨A0, c0, hv0⟩ := Kd.V_slice hV; subst hv0; obtain ⟨ad, ea, q0, q1, q2, q3, q4⟩ := at_T45 (Kd.V_reads' hV).2.2 0 (by omega) (by simp); subst ea; simp only [Int.toNat_zero, Nat.zero_mul, show ad.add 0 = ad from by simp [Addr.add], show rd_T45 [knownLock] 0 = knownLock from rfl] at q0 q1; simp only [knownLock] at q0 q1; have hd := below_alloc hb (.cells #[.int .i64 0, .int .i64 0] 29); have X2 := Lib.hid (blk_below X1.out hd); have B2 := Lib.hid (B1.out.trans (hd.mono B1.out.size)); have E3 := Lib.hid (Kd.C_below C3.out hd); have E4 := Lib.hid (Kd.C_below C4.out hd); have Q0 := Lib.hid (kp_cell q0 (Kp.of_below (below_alloc (Below.refl _ _) (.cells #[.int .i64 0, .int .i64 0] 29)) (fun _ => False)) (fun h => h)); have Q1 := Lib.hid (kp_cell q1 (Kp.of_below (below_alloc (Below.refl _ _) (.cells #[.int .i64 0, .int .i64 0] 29)) (fun _ => False)) (fun h => h)); clear hV hb hd q0 q1 q2 q3 q4)
    | (go_at_call 10; go_must (refine (HX.out A3 c3 A4 c4 _ F3.out F4.out (HT.out.below B3.out)).mono ?_); rintro e w5 ⟨rfl, hb⟩; have B5 := Lib.hid (B3.out.trans (hb.mono B3.out.size)); clear hb)
    | (go_at_call 14; go_must (refine (HW.out _ (HT.out.below B5.out)).mono ?_); rintro e w6 ⟨rfl, hb⟩; have B6 := Lib.hid (B5.out.trans (hb.mono B5.out.size)); clear hb))
  go_ret
  exact ⟨rfl, B6.out⟩

def transhumancelaw5_known.f : Option Bool := some true
theorem transhumancelaw5_known.calls (r : Bool) (w : World) (hTab : Tab w) (h : transhumancelaw5_known.f = some r) :
    Calls Tryd.prog 6 #[] w fun e w' => e = .returned (.bool r) ∧ Below w.heap.size w w' := by
  obtain rfl := Option.some.inj h
  exact known_any w hTab

/-! ### transhumancelaw5_within: function 7 -/
def transhumancelaw5_within.f (a0 : Int) (a1 : Int) : Option (Int) := if a1 = 0 then (none) else (if (Int.tmod a0 a1) < 0 then (some (wrap64 ((Int.tmod a0 a1) + a1))) else (some (Int.tmod a0 a1)))
set_option maxHeartbeats 8000000 in
set_option maxRecDepth 100000 in
theorem transhumancelaw5_within.calls (a0 : Int) (a1 : Int) (r : Int) (w : World) (h : transhumancelaw5_within.f a0 a1 = some r) :
    Calls Tryd.prog 7 #[.int .i64 a0, .int .i64 a1] w fun e w' => e = .returned (.int .i64 r) ∧ Drawn0 w w' := by
  have H : (if a1 = 0 then (none) else (if (Int.tmod a0 a1) < 0 then (some (wrap64 ((Int.tmod a0 a1) + a1))) else (some (Int.tmod a0 a1)))) = some r := h
  clear h
  by_cases c3 : a1 = 0
  · rw [if_pos c3] at H
    exact absurd H (by simp)
  · rw [if_neg c3] at H
    have c3b0 : (a1 == 0) = false := beq_eq_false_iff_ne.mpr c3
    have c3b1 : (a1 != 0) = true := bne_iff_ne.mpr c3
    by_cases c4 : (Int.tmod a0 a1) < 0
    · rw [if_pos c4] at H
      have c4b0 : decide ((Int.tmod a0 a1) < 0) = true := decide_eq_true c4
      clear c4
      obtain rfl := Option.some.inj H
      go_enter Tryd.func7, Tryd.ntmps7
      go_wp2
      go_ret
      exact ⟨by first | rfl | (simp; done) | (simp [*]; done), by repeat (first | exact Drawn0.refl _ | apply Drawn0.step)⟩
    · rw [if_neg c4] at H
      have c4b0 : decide ((Int.tmod a0 a1) < 0) = false := decide_eq_false c4
      clear c4
      obtain rfl := Option.some.inj H
      go_enter Tryd.func7, Tryd.ntmps7
      go_wp2
      go_ret
      exact ⟨by first | rfl | (simp; done) | (simp [*]; done), by repeat (first | exact Drawn0.refl _ | apply Drawn0.step)⟩

/-! ### transhumanceref1_Place: function 9 -/
mutual
def transhumanceref1_Place.l0 : Nat → ByteArray → Int → Int → Int → Int → Option (Int × Int)
  | 0, _, _, _, _, _ => none
  | k + 1, x0, x1, x6, x144000, x144001 => if x6 < (x0.size : Int) then (transhumanceref1_Place.j1 k x0 x1 x6 (decide (x6 < x1)) x144000 x144001) else (transhumanceref1_Place.j1 k x0 x1 x6 false x144000 x144001)
def transhumanceref1_Place.j1 : Nat → ByteArray → Int → Int → Bool → Int → Int → Option (Int × Int)
  | 0, _, _, _, _, _, _ => none
  | k + 1, x0, x1, x6, x16, x144000, x144001 => if x16 = true then (if 0 ≤ x6 then (if x6 < (x0.size : Int) then (if (bt x0 x6) = 10 then (transhumanceref1_Place.l0 k x0 x1 (wrap64 (x6 + 1)) (wrap64 (x144000 + 1)) 1) else (transhumanceref1_Place.l0 k x0 x1 (wrap64 (x6 + 1)) x144000 (wrap64 (x144001 + 1)))) else (none)) else (none)) else (some (x144000, x144001))
end
def transhumanceref1_Place.f (k : Nat) (a0 : ByteArray) (a1 : Int) : Option (Int × Int) := transhumanceref1_Place.l0 k a0 a1 0 1 1
theorem transhumanceref1_Place.mono_l : ∀ k, (∀ y0 y1 y2 y3 y4, LeO (transhumanceref1_Place.l0 k y0 y1 y2 y3 y4) (transhumanceref1_Place.l0 (k + 1) y0 y1 y2 y3 y4)) ∧ (∀ y0 y1 y2 y3 y4 y5, LeO (transhumanceref1_Place.j1 k y0 y1 y2 y3 y4 y5) (transhumanceref1_Place.j1 (k + 1) y0 y1 y2 y3 y4 y5))
  | 0 => ⟨fun _ _ _ _ _ r h => by simp [transhumanceref1_Place.l0] at h, fun _ _ _ _ _ _ r h => by simp [transhumanceref1_Place.j1] at h⟩
  | k + 1 => by
    obtain ⟨ih0, ih1⟩ := transhumanceref1_Place.mono_l k
    refine ⟨?_, ?_⟩
    · intro y0 y1 y2 y3 y4
      unfold transhumanceref1_Place.l0
      repeat' first
      | (with_reducible exact ih0 _ _ _ _ _)
      | (with_reducible exact ih1 _ _ _ _ _ _)
      | (with_reducible exact LeO.refl _)
      | (with_reducible exact LeO.none _)
      | (with_reducible refine LeO.ite ?_ ?_)
      | (with_reducible refine LeO.bind ?_ (fun _ => ?_))
      | exact ih0 _ _ _ _ _
      | exact ih1 _ _ _ _ _ _
      | exact LeO.none _
      | refine LeO.ite ?_ ?_
      | refine LeO.bind ?_ (fun _ => ?_)
    · intro y0 y1 y2 y3 y4 y5
      unfold transhumanceref1_Place.j1
      repeat' first
      | (with_reducible exact ih0 _ _ _ _ _)
      | (with_reducible exact ih1 _ _ _ _ _ _)
      | (with_reducible exact LeO.refl _)
      | (with_reducible exact LeO.none _)
      | (with_reducible refine LeO.ite ?_ ?_)
      | (with_reducible refine LeO.bind ?_ (fun _ => ?_))
      | exact ih0 _ _ _ _ _
      | exact ih1 _ _ _ _ _ _
      | exact LeO.none _
      | refine LeO.ite ?_ ?_
      | refine LeO.bind ?_ (fun _ => ?_)
theorem transhumanceref1_Place.mono : ∀ a0 a1 k, LeO (transhumanceref1_Place.f k a0 a1) (transhumanceref1_Place.f (k + 1) a0 a1) := by
  intro a0 a1 k
  obtain ⟨ih0, ih1⟩ := transhumanceref1_Place.mono_l k
  unfold transhumanceref1_Place.f
  repeat' first
      | (with_reducible exact ih0 _ _ _ _ _)
      | (with_reducible exact ih1 _ _ _ _ _ _)
      | (with_reducible exact LeO.refl _)
      | (with_reducible exact LeO.none _)
      | (with_reducible refine LeO.ite ?_ ?_)
      | (with_reducible refine LeO.bind ?_ (fun _ => ?_))
      | exact ih0 _ _ _ _ _
      | exact ih1 _ _ _ _ _ _
      | exact LeO.none _
      | refine LeO.ite ?_ ?_
      | refine LeO.bind ?_ (fun _ => ?_)
set_option maxHeartbeats 8000000 in
set_option maxRecDepth 100000 in
theorem transhumanceref1_Place.calls (k : Nat) (a0 : ByteArray) (a1 : Int) (r1 : Int) (r2 : Int) (w : World) (h : transhumanceref1_Place.f k a0 a1 = some (r1, r2)) :
    Calls Tryd.prog 9 #[.string a0, .int .i64 a1] w fun e w' => e = .returned (.agg #[.int .i64 r1, .int .i64 r2]) ∧ Below w.heap.size w w' := by
  have hu29 := Tryd.underlying29
  have HB := Aside0.mk (Below.refl w.heap.size w)
  have H : (transhumanceref1_Place.l0 k a0 a1 0 1 1) = some (r1, r2) := h
  clear h
  have H' := Aside0.mk H
  clear H
  go_enter Tryd.func9, Tryd.ntmps9
  go_wp2_with (first | ((with_reducible refine gate_dst (N := 4) rfl ?_); refine box_event ?hg (N := 4) ?hd (cs := #[.int .i64 0, .int .i64 0]) (t := 29) ?hr ?_; (case hd => rfl); (case hg => rfl); (case hr => first | (go_simp; done) | (go_simp; rfl)); intro gb142 hg w3 hbox hb; have n0_ := Aside0.mk (below_step (by repeat (first | (with_reducible first | exact HB.out | apply below_alloc | apply pw_below_drewN | apply below_drew1) | exact HB.out)) hb); have n1_ := Aside0.mk (hbox); have n2_ := Aside0.mk ((by rw [hg]; exact (below_size (by repeat (first | (with_reducible first | exact HB.out | apply below_alloc | apply pw_below_drewN | apply below_drew1) | exact HB.out))) : w.heap.size ≤ gb142)); have n3_ := Aside0.mk ((by rw [hg]; exact (below_size (by repeat (first | (with_reducible first | exact HB.out | apply below_alloc | apply pw_below_drewN | apply below_drew1) | exact HB.out))) : w.heap.size ≤ gb142)); clear HB; have HB := n0_; have BK142 := n1_; have GW142 := n2_; have GE142 := n3_; clear n0_ n1_ n2_ n3_; clear hb hbox hg) | ((with_reducible refine gate_dst (N := 5) rfl ?_); refine box_event ?hg (N := 5) ?hd (cs := #[.int .i64 0, .int .i64 0]) (t := 29) ?hr ?_; (case hd => rfl); (case hg => rfl); (case hr => first | (go_simp; done) | (go_simp; rfl)); intro gb143 hg w4 hbox hb; have n0_ := Aside0.mk (blk_below (g := gb142) (o := .cells #[.int .i64 0, .int .i64 0] 29 (0, 0)) (by (with_reducible repeat (first | refine blk_drewN ?_ _ | refine blk_drew ?_ | refine blk_alloc ?_ _)); exact BK142.out) hb); have n1_ := Aside0.mk (below_step (by repeat (first | (with_reducible first | exact HB.out | apply below_alloc | apply pw_below_drewN | apply below_drew1 | refine below_set ?_ GE142.out) | exact HB.out)) hb); have n2_ := Aside0.mk (hbox); have n3_ := Aside0.mk ((by rw [hg]; exact (below_size (by repeat (first | (with_reducible first | exact HB.out | apply below_alloc | apply pw_below_drewN | apply below_drew1 | refine below_set ?_ GE142.out) | exact HB.out))) : w.heap.size ≤ gb143)); have n4_ := Aside0.mk ((by rw [hg]; exact (below_size (by repeat (first | (with_reducible first | exact HB.out | apply below_alloc | apply pw_below_drewN | apply below_drew1 | refine below_set ?_ GE142.out) | exact HB.out))) : w.heap.size ≤ gb143)); have n5_ := Aside0.mk ((by rw [hg]; exact Nat.ne_of_lt (blk_lt (g := gb142) (o := .cells #[.int .i64 0, .int .i64 0] 29 (0, 0)) (by (with_reducible repeat (first | refine blk_drewN ?_ _ | refine blk_drew ?_ | refine blk_alloc ?_ _)); exact BK142.out)) : gb142 ≠ gb143)); have n6_ := Aside0.mk ((by rw [hg]; exact Nat.ne_of_gt (blk_lt (g := gb142) (o := .cells #[.int .i64 0, .int .i64 0] 29 (0, 0)) (by (with_reducible repeat (first | refine blk_drewN ?_ _ | refine blk_drew ?_ | refine blk_alloc ?_ _)); exact BK142.out)) : gb143 ≠ gb142)); clear BK142; clear HB; have BK142 := n0_; have HB := n1_; have BK143 := n2_; have GW143 := n3_; have GE143 := n4_; have NB142_143 := n5_; have NB143_142 := n6_; clear n0_ n1_ n2_ n3_ n4_ n5_ n6_; clear hb hbox hg; have hnb5 := NB143_142.out; have hnc5 := NB142_143.out; have hcz6_0 : w4.cell? ⟨gb143, 0, none⟩ = some (.int .i64 0) := (blk_cell BK143.out 0).trans rfl; have hcz6_1 : w4.cell? ⟨gb143, 1, none⟩ = some (.int .i64 0) := (blk_cell BK143.out 1).trans rfl; have hfz6_0 := blk_frozen BK143.out 0; have hfz6_1 := blk_frozen BK143.out 1))
  go_loopg [6] k (fun kq v6 w' => ∃ (x6_1 : Int) (x144000_1 : Int) (x144001_1 : Int), v6 = .int .i64 x6_1 ∧ Aside0 (transhumanceref1_Place.l0 kq a0 a1 x6_1 x144000_1 x144001_1 = some (r1, r2)) ∧ Aside0 (kq ≤ k) ∧ Aside0 (w'.heap[gb142]? = some (.cells #[.int .i64 0, .int .i64 0] 29 (0, 0))) ∧ Aside0 (w'.heap[gb143]? = some (.cells #[.int .i64 x144000_1, .int .i64 x144001_1] 29 (0, 0))) ∧ Aside0 (Below w.heap.size w w'))
  case atStart => exact ⟨(0), (1), (1), (by first | rfl | (simp; done) | (simp [*]; done)), H', ⟨Nat.le_refl _⟩, ⟨by (with_reducible repeat (first | refine blk_drewN ?_ _ | refine blk_drew ?_ | refine blk_alloc ?_ _)); refine blk_far ?_ NB142_143.out _; (with_reducible repeat (first | refine blk_drewN ?_ _ | refine blk_drew ?_ | refine blk_alloc ?_ _)); refine blk_far ?_ NB142_143.out _; (with_reducible repeat (first | refine blk_drewN ?_ _ | refine blk_drew ?_ | refine blk_alloc ?_ _)); exact BK142.out⟩, ⟨by (with_reducible repeat (first | refine blk_drewN ?_ _ | refine blk_drew ?_ | refine blk_alloc ?_ _)); refine blk_put (cs := #[.int .i64 1, .int .i64 0]) ?_ 1 _ rfl; (with_reducible repeat (first | refine blk_drewN ?_ _ | refine blk_drew ?_ | refine blk_alloc ?_ _)); refine blk_put (cs := #[.int .i64 0, .int .i64 0]) ?_ 0 _ rfl; (with_reducible repeat (first | refine blk_drewN ?_ _ | refine blk_drew ?_ | refine blk_alloc ?_ _)); exact BK143.out⟩, ⟨by repeat (first | (with_reducible first | exact HB.out | apply below_alloc | apply pw_below_drewN | apply below_drew1 | refine below_set ?_ GE142.out | refine below_set ?_ GE143.out) | exact HB.out)⟩⟩
  case round =>
    clear H'
    try clear p2
    try clear c5
    try clear hcz6_0
    try clear hcz6_1
    try clear hfz6_0
    try clear hfz6_1
    obtain ⟨x6_1, x144000_1, x144001_1, rfl, HA, HK1, BK142, BK143, HB⟩ := hrel
    cases gk with
    | zero => exact absurd HA.out (by simp [transhumanceref1_Place.l0])
    | succ k1 =>
      have H := HA.out
      clear HA
      simp only [transhumanceref1_Place.l0] at H
      have HC7 := Aside0.mk H
      clear H
      go_upto_region 3 with (fail)
      go_cut [16] (fun v16 wc => ∃ (kq : Nat) (x16_6 : Bool), v16 = .bool x16_6 ∧ Aside0 (transhumanceref1_Place.j1 kq a0 a1 x6_1 x16_6 x144000_1 x144001_1 = some (r1, r2)) ∧ Aside0 (kq ≤ k1) ∧ Aside0 (wc.heap[gb142]? = some (.cells #[.int .i64 0, .int .i64 0] 29 (0, 0))) ∧ Aside0 (wc.heap[gb143]? = some (.cells #[.int .i64 x144000_1, .int .i64 x144001_1] 29 (0, 0))) ∧ Aside0 (Below w.heap.size w wc))
      case first =>
        have H := HC7.out
        clear HC7
        by_cases c8 : x6_1 < (a0.size : Int)
        · rw [if_pos c8] at H
          have c8b0 : decide (x6_1 < (a0.size : Int)) = true := decide_eq_true c8
          clear c8
          (first | rw [c8b0] | (simp only [i64_w, i32_w]; rw [c8b0]) | skip)
          have H' := Aside0.mk H
          clear H
          go_wp2
          go_meet
          case rel => exact ⟨_, (decide (x6_1 < a1)), (by first | rfl | (simp; done) | (simp [*]; done)), H', ⟨by have := HK1.out; first | omega | exact Nat.le_refl _⟩, ⟨by (with_reducible repeat (first | refine blk_drewN ?_ _ | refine blk_drew ?_ | refine blk_alloc ?_ _)); exact BK142.out⟩, ⟨by (with_reducible repeat (first | refine blk_drewN ?_ _ | refine blk_drew ?_ | refine blk_alloc ?_ _)); exact BK143.out⟩, ⟨by repeat (first | (with_reducible first | exact HB.out | apply below_alloc | apply pw_below_drewN | apply below_drew1 | refine below_set ?_ GE142.out | refine below_set ?_ GE143.out) | exact HB.out)⟩⟩
        · rw [if_neg c8] at H
          have c8b0 : decide (x6_1 < (a0.size : Int)) = false := decide_eq_false c8
          clear c8
          (first | rw [c8b0] | (simp only [i64_w, i32_w]; rw [c8b0]) | skip)
          have H' := Aside0.mk H
          clear H
          go_wp2
          go_meet
          case rel => exact ⟨_, (false), (by first | rfl | (simp; done) | (simp [*]; done)), H', ⟨by have := HK1.out; first | omega | exact Nat.le_refl _⟩, ⟨by (with_reducible repeat (first | refine blk_drewN ?_ _ | refine blk_drew ?_ | refine blk_alloc ?_ _)); exact BK142.out⟩, ⟨by (with_reducible repeat (first | refine blk_drewN ?_ _ | refine blk_drew ?_ | refine blk_alloc ?_ _)); exact BK143.out⟩, ⟨by repeat (first | (with_reducible first | exact HB.out | apply below_alloc | apply pw_below_drewN | apply below_drew1 | refine below_set ?_ GE142.out | refine below_set ?_ GE143.out) | exact HB.out)⟩⟩
      case rest =>
        clear HC7
        try clear p2
        try clear c5
        try clear c8
        try clear c8b0
        try clear hcz6_0
        try clear hcz6_1
        try clear hfz6_0
        try clear hfz6_1
        try clear p2
        obtain ⟨kq, x16_6, rfl, HA, HJ6, BK142, BK143, HB⟩ := hcut
        cases kq with
        | zero => exact absurd HA.out (by simp [transhumanceref1_Place.j1])
        | succ kj6 =>
          have H := HA.out
          clear HA
          simp only [transhumanceref1_Place.j1] at H
          by_cases c9 : x16_6 = true
          · subst c9
            have H1 : (if 0 ≤ x6_1 then (if x6_1 < (a0.size : Int) then (if (bt a0 x6_1) = 10 then (transhumanceref1_Place.l0 kj6 a0 a1 (wrap64 (x6_1 + 1)) (wrap64 (x144000_1 + 1)) 1) else (transhumanceref1_Place.l0 kj6 a0 a1 (wrap64 (x6_1 + 1)) x144000_1 (wrap64 (x144001_1 + 1)))) else (none)) else (none)) = some (r1, r2) := by rw [if_pos rfl] at H; exact H
            clear H
            have H := H1
            clear H1
            by_cases c10 : 0 ≤ x6_1
            · rw [if_pos c10] at H
              have c10b0 : decide (0 ≤ x6_1) = true := decide_eq_true c10
              clear c10
              by_cases c11 : x6_1 < (a0.size : Int)
              · rw [if_pos c11] at H
                have c11b0 : decide (x6_1 < (a0.size : Int)) = true := decide_eq_true c11
                clear c11
                by_cases c13 : (bt a0 x6_1) = 10
                · rw [if_pos c13] at H
                  have c13b0 : ((bt a0 x6_1) == 10) = true := beq_iff_eq.mpr c13
                  have c13b1 : ((bt a0 x6_1) != 10) = false := bne_eq_false_iff_eq.mpr c13
                  clear c13
                  have H' := Aside0.mk H
                  clear H
                  have hnb14 := NB143_142.out
                  have hnc14 := NB142_143.out
                  have hcz15_0 : wc.cell? ⟨gb143, 0, none⟩ = some (.int .i64 x144000_1) := (blk_cell BK143.out 0).trans rfl
                  have hcz15_1 : wc.cell? ⟨gb143, 1, none⟩ = some (.int .i64 x144001_1) := (blk_cell BK143.out 1).trans rfl
                  have hfz15_0 := blk_frozen BK143.out 0
                  have hfz15_1 := blk_frozen BK143.out 1
                  have p12 : 0 ≤ (x6_1 : Int) := of_decide_eq_true (by first | (with_reducible assumption) | assumption)
                  have q12 : x6_1 < (a0.size : Int) := of_decide_eq_true (by first | (with_reducible assumption) | assumption)
                  have hx12 := bt_at a0 x6_1
                  replace p12 := eq_true p12
                  replace q12 := eq_true q12
                  go_wp2
                  go_roundg kj6
                  case measure => have := HK1.out; have := HJ6.out; omega
                  case rel => exact ⟨(wrap64 (x6_1 + 1)), (wrap64 (x144000_1 + 1)), (1), (by first | rfl | (simp; done) | (simp [*]; done)), H', ⟨by have := HK1.out; have := HJ6.out; omega⟩, ⟨by (with_reducible repeat (first | refine blk_drewN ?_ _ | refine blk_drew ?_ | refine blk_alloc ?_ _)); refine blk_far ?_ NB142_143.out _; (with_reducible repeat (first | refine blk_drewN ?_ _ | refine blk_drew ?_ | refine blk_alloc ?_ _)); refine blk_far ?_ NB142_143.out _; (with_reducible repeat (first | refine blk_drewN ?_ _ | refine blk_drew ?_ | refine blk_alloc ?_ _)); refine blk_far ?_ NB142_143.out _; (with_reducible repeat (first | refine blk_drewN ?_ _ | refine blk_drew ?_ | refine blk_alloc ?_ _)); exact BK142.out⟩, ⟨by (with_reducible repeat (first | refine blk_drewN ?_ _ | refine blk_drew ?_ | refine blk_alloc ?_ _)); refine blk_put (cs := #[.int .i64 (wrap64 (x144000_1 + 1)), .int .i64 (wrap64 (x144001_1 + 1))]) ?_ 1 _ rfl; (with_reducible repeat (first | refine blk_drewN ?_ _ | refine blk_drew ?_ | refine blk_alloc ?_ _)); refine blk_put (cs := #[.int .i64 x144000_1, .int .i64 (wrap64 (x144001_1 + 1))]) ?_ 0 _ rfl; (with_reducible repeat (first | refine blk_drewN ?_ _ | refine blk_drew ?_ | refine blk_alloc ?_ _)); refine blk_put (cs := #[.int .i64 x144000_1, .int .i64 x144001_1]) ?_ 1 _ rfl; (with_reducible repeat (first | refine blk_drewN ?_ _ | refine blk_drew ?_ | refine blk_alloc ?_ _)); exact BK143.out⟩, ⟨by repeat (first | (with_reducible first | exact HB.out | apply below_alloc | apply pw_below_drewN | apply below_drew1 | refine below_set ?_ GE142.out | refine below_set ?_ GE143.out) | exact HB.out)⟩⟩
                · rw [if_neg c13] at H
                  have c13b0 : ((bt a0 x6_1) == 10) = false := beq_eq_false_iff_ne.mpr c13
                  have c13b1 : ((bt a0 x6_1) != 10) = true := bne_iff_ne.mpr c13
                  have H' := Aside0.mk H
                  clear H
                  have hnb16 := NB143_142.out
                  have hnc16 := NB142_143.out
                  have hcz17_0 : wc.cell? ⟨gb143, 0, none⟩ = some (.int .i64 x144000_1) := (blk_cell BK143.out 0).trans rfl
                  have hcz17_1 : wc.cell? ⟨gb143, 1, none⟩ = some (.int .i64 x144001_1) := (blk_cell BK143.out 1).trans rfl
                  have hfz17_0 := blk_frozen BK143.out 0
                  have hfz17_1 := blk_frozen BK143.out 1
                  have p12 : 0 ≤ (x6_1 : Int) := of_decide_eq_true (by first | (with_reducible assumption) | assumption)
                  have q12 : x6_1 < (a0.size : Int) := of_decide_eq_true (by first | (with_reducible assumption) | assumption)
                  have hx12 := bt_at a0 x6_1
                  replace p12 := eq_true p12
                  replace q12 := eq_true q12
                  go_wp2
                  go_roundg kj6
                  case measure => have := HK1.out; have := HJ6.out; omega
                  case rel => exact ⟨(wrap64 (x6_1 + 1)), (x144000_1), (wrap64 (x144001_1 + 1)), (by first | rfl | (simp; done) | (simp [*]; done)), H', ⟨by have := HK1.out; have := HJ6.out; omega⟩, ⟨by (with_reducible repeat (first | refine blk_drewN ?_ _ | refine blk_drew ?_ | refine blk_alloc ?_ _)); refine blk_far ?_ NB142_143.out _; (with_reducible repeat (first | refine blk_drewN ?_ _ | refine blk_drew ?_ | refine blk_alloc ?_ _)); exact BK142.out⟩, ⟨by (with_reducible repeat (first | refine blk_drewN ?_ _ | refine blk_drew ?_ | refine blk_alloc ?_ _)); refine blk_put (cs := #[.int .i64 x144000_1, .int .i64 x144001_1]) ?_ 1 _ rfl; (with_reducible repeat (first | refine blk_drewN ?_ _ | refine blk_drew ?_ | refine blk_alloc ?_ _)); exact BK143.out⟩, ⟨by repeat (first | (with_reducible first | exact HB.out | apply below_alloc | apply pw_below_drewN | apply below_drew1 | refine below_set ?_ GE142.out | refine below_set ?_ GE143.out) | exact HB.out)⟩⟩
              · rw [if_neg c11] at H
                exact absurd H (by simp)
            · rw [if_neg c10] at H
              exact absurd H (by simp)
          · replace c9 := Bool.eq_false_iff.mpr c9
            subst c9
            have H1 : (some (x144000_1, x144001_1)) = some (r1, r2) := by rw [if_neg (show ¬ (false = true) by decide)] at H; exact H
            clear H
            have H := H1
            clear H1
            simp only [Option.some.injEq, Prod.mk.injEq] at H
            obtain ⟨rfl, rfl⟩ := H
            have hnb18 := NB143_142.out
            have hnc18 := NB142_143.out
            have hcz19_0 : wc.cell? ⟨gb143, 0, none⟩ = some (.int .i64 x144000_1) := (blk_cell BK143.out 0).trans rfl
            have hcz19_1 : wc.cell? ⟨gb143, 1, none⟩ = some (.int .i64 x144001_1) := (blk_cell BK143.out 1).trans rfl
            have hfz19_0 := blk_frozen BK143.out 0
            have hfz19_1 := blk_frozen BK143.out 1
            have hcz20_0 : wc.cell? ⟨gb142, 0, none⟩ = some (.int .i64 0) := (blk_cell BK142.out 0).trans rfl
            have hcz20_1 : wc.cell? ⟨gb142, 1, none⟩ = some (.int .i64 0) := (blk_cell BK142.out 1).trans rfl
            have hfz20_0 := blk_frozen BK142.out 0
            have hfz20_1 := blk_frozen BK142.out 1
            go_wp2
            refine bodyPost_ret (results_cell_row rfl _ _ gb142 29 #[.int .i64 x144000_1, .int .i64 x144001_1] (0, 0) _ rfl (by (with_reducible repeat (first | refine blk_drewN ?_ _ | refine blk_drew ?_ | refine blk_alloc ?_ _)); refine blk_put (cs := #[.int .i64 x144000_1, .int .i64 0]) ?_ 1 _ rfl; (with_reducible repeat (first | refine blk_drewN ?_ _ | refine blk_drew ?_ | refine blk_alloc ?_ _)); refine blk_put (cs := #[.int .i64 0, .int .i64 0]) ?_ 0 _ rfl; (with_reducible repeat (first | refine blk_drewN ?_ _ | refine blk_drew ?_ | refine blk_alloc ?_ _)); exact BK142.out) Tryd.underlying29 rfl (by kernel_rfl)) rfl ?_
            exact ⟨by first | rfl | (simp [errW_none, errW_some] <;> rfl) | (simp [*, errW_none, errW_some] <;> rfl), by repeat (first | (with_reducible first | exact HB.out | apply below_alloc | apply pw_below_drewN | apply below_drew1 | refine below_set ?_ GE142.out | refine below_set ?_ GE143.out) | exact HB.out)⟩

end Go.Proofs.YtnijnemkjnnolaaDoor.P
