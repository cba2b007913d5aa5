-- Written by a program of this session (wip/mp): the kit's print, with contracts proved by hand let in as printed ones.
import Derived.Test.YtnijnemkjnnolaaDoorPx0
namespace Go.Proofs.YtnijnemkjnnolaaDoor.P
open Go.RowKit Go.Proofs.YtnijnemkjnnolaaDoorW.PrintWords Go.Proofs.YtnijnemkjnnolaaDoorW.PrintLast Go.Proofs.YtnijnemkjnnolaaDoorW.PrintMore
attribute [local go_sem] max2_int min2_int max_two min_two max_three min_three max_four min_four   -- for this text's walks alone
set_option linter.unusedVariables false
set_option linter.unusedSimpArgs false

/-- What the calls of Go's library that read package variables ask of the world. -/
structure Tab (w : World) : Prop where
  tab : Lib.TabIs Tryd.prog w "internal/strconv.uint64pow10" .u64 Lib.pow10Tab
  shape : w.ShapedOpen Tryd.prog
theorem tabGlobal : Tryd.prog.globalNamed "internal/strconv.uint64pow10" = some 1 := by kernel_rfl
theorem tabIs_below {P : Program} {n : String} {g : Nat} {k : IntKind} {zs : List Int} {w w' : World} (hg : P.globalNamed n = some g) (h : Lib.TabIs P w n k zs) (hb : Below w.heap.size w w') : Lib.TabIs P w' n k zs := by
  unfold Lib.TabIs World.var? at h ⊢
  rw [hg] at h ⊢
  simp only [Option.bind_some] at h ⊢
  have hlt : g < w.heap.size := by
    rcases Nat.lt_or_ge g w.heap.size with h' | h'
    · exact h'
    · rw [Array.getElem?_eq_none h'] at h
      cases h
  rw [hb.block g hlt]
  exact h
theorem Tab.below {w0 W : World} (h : Tab w0) (hb : Below w0.heap.size w0 W) : Tab W :=
  ⟨tabIs_below tabGlobal h.tab hb, h.shape.keptBut (hb.frame (fun _ => False)) (fun _ hp => hp.elim)⟩
theorem Drawn0.of_ex {w w' : World} (h : ∃ n, w' = w.drewN n) : Drawn0 w w' := ⟨h⟩
/-- A text as the list of its bytes, made a text again. -/
def bs (l : List UInt8) : ByteArray := ⟨l.toArray⟩
theorem bs_toList (s : ByteArray) : bs s.data.toList = s := by cases s; simp [bs]
theorem bs_size (l : List UInt8) : (bs l).size = l.length := by simp [bs, ByteArray.size]
theorem bs_data (l : List UInt8) : (bs l).data.toList = l := by simp [bs]

/-! ### What a call keeps: all but the blocks of S, and what is new since; the streams -/
structure Kp (S : Nat → Prop) (w w' : World) : Prop where
  os : w'.os = w.os
  tape : w'.tape = w.tape
  output : w'.output = w.output
  size : w.heap.size ≤ w'.heap.size
  block : ∀ k, k < w.heap.size → ¬ S k → w'.heap[k]? = w.heap[k]?
section
variable {S S' : Nat → Prop} {w w1 w2 : World}
theorem Kp.refl (S : Nat → Prop) (w : World) : Kp S w w := ⟨rfl, rfl, rfl, Nat.le_refl _, fun _ _ _ => rfl⟩
theorem Kp.trans (h : Kp S w w1) (k : Kp S' w1 w2) (hs : ∀ b, S' b → S b ∨ w.heap.size ≤ b) : Kp S w w2 :=
  ⟨k.os.trans h.os, k.tape.trans h.tape, k.output.trans h.output, Nat.le_trans h.size k.size, fun i hi hn =>
    (k.block i (Nat.lt_of_lt_of_le hi h.size) (fun hb => (hs i hb).elim hn (fun h2 => by omega))).trans (h.block i hi hn)⟩
theorem Kp.then_ (h : Kp S w w1) (k : Kp S w1 w2) : Kp S w w2 := h.trans k (fun _ hb => .inl hb)
theorem Kp.mono (h : Kp S w w1) (hs : ∀ b, S b → S' b) : Kp S' w w1 := ⟨h.os, h.tape, h.output, h.size, fun i hi hn => h.block i hi (fun hb => hn (hs i hb))⟩
theorem Kp.of_below (h : Below w.heap.size w w1) (S : Nat → Prop) : Kp S w w1 := ⟨h.os, h.tape, h.output, h.size, fun i hi _ => h.block i hi⟩
theorem Kp.below (h : Kp S w w1) (k : Below w1.heap.size w1 w2) : Kp S w w2 := h.trans (Kp.of_below k (fun _ => False)) (fun _ hb => hb.elim)
theorem Kp.drawn (h : Kp S w w1) (k : Drawn0 w1 w2) : Kp S w w2 := h.below k.below
theorem Kp.drew (h : Kp S w w1) : Kp S w w1.drew := ⟨h.os, h.tape, h.output, h.size, h.block⟩
theorem Kp.drewN (h : Kp S w w1) (n : Nat) : Kp S w (w1.drewN n) := ⟨h.os, h.tape, h.output, h.size, h.block⟩
theorem Kp.alloc (h : Kp S w w1) (o : Obj) : Kp S w (w1.alloc o) := h.below (below_alloc (Below.refl _ _) o)
theorem Kp.setCell (h : Kp S w w1) {p : Addr} (hp : S p.block ∨ w.heap.size ≤ p.block) (u : Value) : Kp S w (w1.setCell p u) :=
  h.trans (S' := fun b => b = p.block) ⟨rfl, rfl, rfl, by simp [World.setCell], fun i _ hn => Below.heap_setCell w1 p u i hn⟩ (fun b hb => by rw [hb]; exact hp)
theorem Kp.grown {row : Option Nat} (h : Kp S w w1) (hg : w1.grownBy w2 row) (hr : ∀ k, row = some k → S k ∨ w.heap.size ≤ k) : Kp S w w2 :=
  h.trans (S' := fun b => row = some b) ⟨hg.os, hg.tape, hg.output, hg.size, fun i hi hn => hg.block i hi (fun e => hn e.symm)⟩ (fun b hb => hr b hb)
/-- What was written is new since an elder world: to that one nothing has turned. -/
theorem Kp.to_below {w0 : World} (h : Below w0.heap.size w0 w) (k : Kp S w w1) (hs : ∀ b, S b → w0.heap.size ≤ b) : Below w0.heap.size w0 w1 :=
  ⟨k.os.trans h.os, k.tape.trans h.tape, k.output.trans h.output, Nat.le_trans h.size k.size, fun i hi => (k.block i (Nat.lt_of_lt_of_le hi h.size) (fun hb => by have := hs i hb; omega)).trans (h.block i hi)⟩
theorem Kp.none (k : Kp (fun _ => False) w w1) : Below w.heap.size w w1 := Kp.to_below (Below.refl _ _) k (fun _ h => h.elim)
theorem Kp.lift {w0 : World} (h : Kp S' w0 w) (k : Kp S w w1) (hs : ∀ b, S b → S' b ∨ w0.heap.size ≤ b) : Kp S' w0 w1 := h.trans k hs
theorem blk_kp {g : Nat} {o : Obj} (hb : w.heap[g]? = some o) (k : Kp S w w1) (hn : ¬ S g) : w1.heap[g]? = some o := (k.block g (blk_lt hb) hn).trans hb
end

/-- Where a text stands first in a list; -1: nowhere. -/
def idxFrom : List ByteArray → ByteArray → Nat → Int
  | [], _, _ => -1
  | y :: r, x, i => if (x.toList == y.toList) = true then (i : Int) else idxFrom r x (i + 1)
def idxS (l : List ByteArray) (x : ByteArray) : Int := idxFrom l x 0
def hasS (l : List ByteArray) (x : ByteArray) : Bool := decide (0 ≤ idxS l x)
theorem idxFrom_hit (l : List ByteArray) (x y : ByteArray) (k : Nat) (hk : k < l.length) (hy : rdOf ByteArray.empty l k = y) (h : (x.toList == y.toList) = true) : idxFrom (l.drop k) x k = k := by
  have e : rdOf ByteArray.empty l k = l[k] := by simp [rdOf, List.getD_eq_getElem?_getD, hk]
  rw [List.drop_eq_getElem_cons hk, idxFrom, ← e, hy, if_pos h]
theorem idxFrom_go (l : List ByteArray) (x y : ByteArray) (k : Nat) (hk : k < l.length) (hy : rdOf ByteArray.empty l k = y) (h : (x.toList == y.toList) = false) : idxFrom (l.drop k) x k = idxFrom (l.drop (k + 1)) x (k + 1) := by
  have e : rdOf ByteArray.empty l k = l[k] := by simp [rdOf, List.getD_eq_getElem?_getD, hk]
  rw [List.drop_eq_getElem_cons hk, idxFrom, ← e, hy, if_neg (by rw [h]; decide)]

/-! ### text_Place: function 16 -/
/-- What text.Place answers. -/
def plc (s : ByteArray) (i : Int) : Int × Int :=
  let n := (max 0 (min i s.size)).toNat
  (wrap64 (1 + Lib.countByte (s.data.toList.take n) 10), wrap64 ((n : Int) - Lib.lastIndexByte (s.extract 0 n) 10))
theorem plc_mid (s : ByteArray) (i : Int) (h0 : 0 ≤ i) (h1 : i ≤ s.size) : plc s i = (wrap64 (1 + Lib.countByte (s.data.toList.take i.toNat) 10), wrap64 (max i 0 - Lib.lastIndexByte (s.extract 0 i.toNat) 10)) := by
  unfold plc
  rw [show max 0 (min i (s.size : Int)) = i from by omega, show max i 0 = ((i.toNat : Nat) : Int) from by omega]
theorem plc_hi (s : ByteArray) (i : Int) (h1 : (s.size : Int) ≤ i) : plc s i = (wrap64 (1 + Lib.countByte (s.data.toList.take s.size) 10), wrap64 ((s.size : Int) - Lib.lastIndexByte s 10)) := by
  unfold plc
  rw [show (max 0 (min i (s.size : Int))).toNat = s.size from by omega]
  show (_, wrap64 ((s.size : Int) - Lib.lastIndexByte (s.extract 0 s.size) 10)) = _
  rw [show s.extract 0 s.size = s from by simp]
theorem plc_lo (s : ByteArray) (i : Int) (h1 : i ≤ 0) : plc s i = (1, 1) := by
  unfold plc
  rw [show (max 0 (min i (s.size : Int))).toNat = 0 from by omega]
  show (wrap64 (1 + Lib.countByte (s.data.toList.take 0) 10), wrap64 (((0 : Nat) : Int) - Lib.lastIndexByte (s.extract 0 0) 10)) = _
  rw [show s.extract 0 0 = ByteArray.empty from by simp]
  rw [List.take_zero]
  decide +kernel
theorem plc_none : wrap64 (1 + (Lib.countByte [] 10 : Nat)) = 1 ∧ wrap64 (-Lib.lastIndexByte ByteArray.empty 10) = 1 := by decide +kernel
def text_Place.f (a0 : ByteArray) (a1 : Int) : Option (Int × Int) := if a0.size ≤ 140737488351232 then some (plc a0 a1) else none
theorem text_Place.calls (a0 : ByteArray) (a1 : Int) (r1 r2 : Int) (w : World) (h : text_Place.f a0 a1 = some (r1, r2)) :
    Calls Tryd.prog 16 #[.string a0, .int .i64 a1] w fun e w' => e = .returned (.agg #[.int .i64 r1, .int .i64 r2]) ∧ Below w.heap.size w w' := by
  unfold text_Place.f at h
  split at h
  · rename_i hs
    have Hr := Lib.hid (show plc a0 a1 = (r1, r2) from Option.some.inj h)
    clear h
    go_enter Tryd.func16, Tryd.ntmps16
    go_wp2_with (first
      | (go_at_call 29; refine (Tryd.strings_Count_one _ 10 _).mono ?_; rintro e w' ⟨rfl, rfl⟩)
      | (go_at_call 30; refine (Tryd.strings_LastIndexByte _ _ ?hsz _).mono ?_; (case hsz => simp [ByteArray.size_extract]; omega); rintro e w' ⟨rfl, rfl⟩))
    all_goals refine bodyPost_ret (results_cell_row rfl _ _ w.heap.size 29 _ (0, 0) _ rfl (heap_alloc_new w _) Tryd.underlying29 rfl (by kernel_rfl)) rfl ?_
    all_goals refine ⟨?_, below_alloc (Below.refl _ _) _⟩
    · have E := plc_hi a0 a1 (by omega)
      obtain ⟨rfl, rfl⟩ := Prod.mk.inj (E.symm.trans Hr.out)
      rfl
    · rename_i hp
      rw [if_neg (by omega)] at hp
      have E := plc_mid a0 a1 (by omega) (by omega)
      obtain ⟨rfl, rfl⟩ := Prod.mk.inj (E.symm.trans Hr.out)
      rfl
    · rename_i hp
      rw [if_pos (by omega)] at hp
      have E := plc_hi a0 a1 (by omega)
      have e0 : a0 = ByteArray.empty := by
        apply ByteArray.ext
        apply Array.eq_empty_of_size_eq_zero
        have : a0.size = 0 := by omega
        exact this
      subst e0
      obtain ⟨rfl, rfl⟩ := Prod.mk.inj (E.symm.trans Hr.out)
      rfl
    · rename_i hp
      rw [if_neg (by omega)] at hp
      have E := plc_lo a0 a1 (by omega)
      obtain ⟨rfl, rfl⟩ := Prod.mk.inj (E.symm.trans Hr.out)
      rw [plc_none.1, plc_none.2]
  · exact absurd h (by simp)

/-! ### text_Number: function 58 -/
mutual
def text_Number.j0 : Nat → ByteArray → Bool → Option (Int × Bool)
  | 0, _, _ => none
  | k + 1, x0, x23 => if x23 = true then (some (0, false)) else (text_Number.l0 k x0 0 (x0.size : Int) 0)
def text_Number.l0 : Nat → ByteArray → Int → Int → Int → Option (Int × Bool)
  | 0, _, _, _, _ => none
  | k + 1, x0, x4, x25, x26 => if x26 < x25 then (if 0 ≤ x26 then (if x26 < (x0.size : Int) then (if (bt x0 x26) < 48 then (some (0, false)) else (if (bt x0 x26) > 57 then (some (0, false)) else (text_Number.l0 k x0 (wrap64 ((wrap64 (10 * x4)) + (((bt x0 x26) - 48) % 256))) x25 (wrap64 (x26 + 1))))) else (none)) else (none)) else (some (x4, true))
end
def text_Number.f (k : Nat) (a0 : ByteArray) : Option (Int × Bool) := if (a0.size : Int) < 1 then (text_Number.j0 k a0 true) else (if (a0.size : Int) > 9 then (text_Number.j0 k a0 true) else (if (a0.size : Int) > 1 then (if 0 < (a0.size : Int) then (text_Number.j0 k a0 ((bt a0 0) == 48)) else (none)) else (text_Number.j0 k a0 false)))
theorem text_Number.mono_l : ∀ k, (∀ y0 y1, LeO (text_Number.j0 k y0 y1) (text_Number.j0 (k + 1) y0 y1)) ∧ (∀ y0 y1 y2 y3, LeO (text_Number.l0 k y0 y1 y2 y3) (text_Number.l0 (k + 1) y0 y1 y2 y3))
  | 0 => ⟨fun _ _ r h => by simp [text_Number.j0] at h, fun _ _ _ _ r h => by simp [text_Number.l0] at h⟩
  | k + 1 => by
    obtain ⟨ih0, ih1⟩ := text_Number.mono_l k
    refine ⟨?_, ?_⟩
    · intro y0 y1
      unfold text_Number.j0
      repeat' first
      | (with_reducible exact ih0 _ _)
      | (with_reducible exact ih1 _ _ _ _)
      | (with_reducible exact LeO.refl _)
      | (with_reducible exact LeO.none _)
      | (with_reducible refine LeO.ite ?_ ?_)
      | (with_reducible refine LeO.bind ?_ (fun _ => ?_))
      | exact ih0 _ _
      | exact ih1 _ _ _ _
      | exact LeO.none _
      | refine LeO.ite ?_ ?_
      | refine LeO.bind ?_ (fun _ => ?_)
    · intro y0 y1 y2 y3
      unfold text_Number.l0
      repeat' first
      | (with_reducible exact ih0 _ _)
      | (with_reducible exact ih1 _ _ _ _)
      | (with_reducible exact LeO.refl _)
      | (with_reducible exact LeO.none _)
      | (with_reducible refine LeO.ite ?_ ?_)
      | (with_reducible refine LeO.bind ?_ (fun _ => ?_))
      | exact ih0 _ _
      | exact ih1 _ _ _ _
      | exact LeO.none _
      | refine LeO.ite ?_ ?_
      | refine LeO.bind ?_ (fun _ => ?_)
theorem text_Number.mono : ∀ a0 k, LeO (text_Number.f k a0) (text_Number.f (k + 1) a0) := by
  intro a0 k
  obtain ⟨ih0, ih1⟩ := text_Number.mono_l k
  unfold text_Number.f
  repeat' first
      | (with_reducible exact ih0 _ _)
      | (with_reducible exact ih1 _ _ _ _)
      | (with_reducible exact LeO.refl _)
      | (with_reducible exact LeO.none _)
      | (with_reducible refine LeO.ite ?_ ?_)
      | (with_reducible refine LeO.bind ?_ (fun _ => ?_))
      | exact ih0 _ _
      | exact ih1 _ _ _ _
      | exact LeO.none _
      | refine LeO.ite ?_ ?_
      | refine LeO.bind ?_ (fun _ => ?_)
set_option maxHeartbeats 8000000 in
set_option maxRecDepth 100000 in
theorem text_Number.calls (k : Nat) (a0 : ByteArray) (r1 : Int) (r2 : Bool) (w : World) (h : text_Number.f k a0 = some (r1, r2)) :
    Calls Tryd.prog 58 #[.string a0] w fun e w' => e = .returned (.tuple #[.int .i64 r1, .bool r2]) ∧ Drawn0 w w' := by
  have H : (if (a0.size : Int) < 1 then (text_Number.j0 k a0 true) else (if (a0.size : Int) > 9 then (text_Number.j0 k a0 true) else (if (a0.size : Int) > 1 then (if 0 < (a0.size : Int) then (text_Number.j0 k a0 ((bt a0 0) == 48)) else (none)) else (text_Number.j0 k a0 false)))) = some (r1, r2) := h
  clear h
  have HC2 := Aside0.mk H
  clear H
  go_enter Tryd.func58, Tryd.ntmps58
  go_upto_region 1 with (fail)
  go_cut [23] (fun v23 wc => ∃ (kq : Nat) (x23_1 : Bool), v23 = .bool x23_1 ∧ Aside0 (text_Number.j0 kq a0 x23_1 = some (r1, r2)) ∧ Aside0 (kq ≤ k) ∧ Drawn0 w wc)
  case first =>
    have H := HC2.out
    clear HC2
    by_cases c3 : (a0.size : Int) < 1
    · rw [if_pos c3] at H
      have c3b0 : decide ((a0.size : Int) < 1) = true := decide_eq_true c3
      have c3b1 : decide (a0.size < 1) = true := decide_eq_true (by omega)
      clear c3
      (first | rw [c3b0] | (simp only [i64_w, i32_w]; rw [c3b0]) | skip)
      have H' := Aside0.mk H
      clear H
      go_wp2
      go_meet
      case rel => exact ⟨_, (true), (by first | rfl | (simp; done) | (simp [*]; done)), H', ⟨by first | omega | exact Nat.le_refl _⟩, by repeat (first | exact Drawn0.refl _ | apply Drawn0.step)⟩
    · rw [if_neg c3] at H
      have c3b0 : decide ((a0.size : Int) < 1) = false := decide_eq_false c3
      have c3b1 : decide (a0.size < 1) = false := decide_eq_false (by omega)
      clear c3
      (first | rw [c3b0] | (simp only [i64_w, i32_w]; rw [c3b0]) | skip)
      by_cases c4 : (a0.size : Int) > 9
      · rw [if_pos c4] at H
        have c4b0 : decide (9 < (a0.size : Int)) = true := decide_eq_true c4
        have c4b1 : decide (9 < a0.size) = true := decide_eq_true (by omega)
        clear c4
        have H' := Aside0.mk H
        clear H
        go_wp2
        go_meet
        case rel => exact ⟨_, (true), (by first | rfl | (simp; done) | (simp [*]; done)), H', ⟨by first | omega | exact Nat.le_refl _⟩, by repeat (first | exact Drawn0.refl _ | apply Drawn0.step)⟩
      · rw [if_neg c4] at H
        have c4b0 : decide (9 < (a0.size : Int)) = false := decide_eq_false c4
        have c4b1 : decide (9 < a0.size) = false := decide_eq_false (by omega)
        clear c4
        by_cases c5 : (a0.size : Int) > 1
        · rw [if_pos c5] at H
          have c5b0 : decide (1 < (a0.size : Int)) = true := decide_eq_true c5
          have c5b1 : decide (1 < a0.size) = true := decide_eq_true (by omega)
          clear c5
          by_cases c6 : 0 < (a0.size : Int)
          · rw [if_pos c6] at H
            have c6b0 : decide (0 < (a0.size : Int)) = true := decide_eq_true c6
            have c6b1 : decide (0 < a0.size) = true := decide_eq_true (by omega)
            clear c6
            have H' := Aside0.mk H
            clear H
            have p7 : 0 ≤ (0 : Int) := (by omega)
            have q7 : 0 < a0.size := (by have : (0 : Int) < (a0.size : Int) := of_decide_eq_true (by first | (with_reducible assumption) | assumption); omega)
            have hx7 : ∀ h : 0 < a0.size, ((a0[0]'h).toNat : Int) = bt a0 0 := bt_at a0 0
            clear p7
            have qi7 : (0 < (a0.size : Int)) = True := eq_true (of_decide_eq_true (by first | (with_reducible assumption) | assumption))
            replace q7 := eq_true q7
            go_wp2
            go_meet
            case rel => exact ⟨_, (((bt a0 0) == 48)), (by first | rfl | (simp; done) | (simp [*]; done)), H', ⟨by first | omega | exact Nat.le_refl _⟩, by repeat (first | exact Drawn0.refl _ | apply Drawn0.step)⟩
          · rw [if_neg c6] at H
            exact absurd H (by simp)
        · rw [if_neg c5] at H
          have c5b0 : decide (1 < (a0.size : Int)) = false := decide_eq_false c5
          have c5b1 : decide (1 < a0.size) = false := decide_eq_false (by omega)
          clear c5
          have H' := Aside0.mk H
          clear H
          go_wp2
          go_meet
          case rel => exact ⟨_, (false), (by first | rfl | (simp; done) | (simp [*]; done)), H', ⟨by first | omega | exact Nat.le_refl _⟩, by repeat (first | exact Drawn0.refl _ | apply Drawn0.step)⟩
  case rest =>
    clear HC2
    try clear p2
    try clear c3
    try clear c3b0
    try clear c3b1
    try clear c4
    try clear c4b0
    try clear c4b1
    try clear c5
    try clear c5b0
    try clear c5b1
    try clear c6
    try clear c6b0
    try clear c6b1
    try clear p7
    try clear q7
    try clear hx7
    try clear qi7
    try clear p7
    try clear q7
    obtain ⟨kq, x23_1, rfl, HA, HJ1, ⟨mc1, rfl⟩⟩ := hcut
    cases kq with
    | zero => exact absurd HA.out (by simp [text_Number.j0])
    | succ kj1 =>
      have H := HA.out
      clear HA
      simp only [text_Number.j0] at H
      by_cases c8 : x23_1 = true
      · subst c8
        have H1 : (some (0, false)) = some (r1, r2) := by rw [if_pos rfl] at H; exact H
        clear H
        have H := H1
        clear H1
        simp only [Option.some.injEq, Prod.mk.injEq] at H
        obtain ⟨rfl, rfl⟩ := H
        go_wp2
        go_ret2
        exact ⟨by first | rfl | (simp; done) | (simp [*]; done), by repeat (first | exact Drawn0.refl _ | apply Drawn0.step)⟩
      · replace c8 := Bool.eq_false_iff.mpr c8
        subst c8
        have H1 : (text_Number.l0 kj1 a0 0 (a0.size : Int) 0) = some (r1, r2) := by rw [if_neg (show ¬ (false = true) by decide)] at H; exact H
        clear H
        have H := H1
        clear H1
        have H' := Aside0.mk H
        clear H
        go_wp2
        go_loopg [4, 26] kj1 (fun kq v4 v26 w' => ∃ (x4_2 : Int) (x26_2 : Int), v4 = .int .i64 x4_2 ∧ v26 = .int .i64 x26_2 ∧ Aside0 (text_Number.l0 kq a0 x4_2 (a0.size : Int) x26_2 = some (r1, r2)) ∧ Aside0 (kq ≤ kj1) ∧ Drawn0 w w')
        case atStart => exact ⟨(0), (0), (by first | rfl | (simp; done) | (simp [*]; done)), (by first | rfl | (simp; done) | (simp [*]; done)), H', ⟨Nat.le_refl _⟩, by repeat (first | exact Drawn0.refl _ | apply Drawn0.step)⟩
        case round =>
          clear H'
          try clear c1
          try clear p2
          try clear c3
          try clear c3b0
          try clear c3b1
          try clear c4
          try clear c4b0
          try clear c4b1
          try clear c5
          try clear c5b0
          try clear c5b1
          try clear c6
          try clear c6b0
          try clear c6b1
          try clear p7
          try clear q7
          try clear hx7
          try clear qi7
          try clear c8
          try clear p2
          try clear p7
          try clear q7
          obtain ⟨x4_2, x26_2, rfl, rfl, HA, HK2, ⟨m2, rfl⟩⟩ := hrel
          cases gk with
          | zero => exact absurd HA.out (by simp [text_Number.l0])
          | succ k2 =>
            have H := HA.out
            clear HA
            simp only [text_Number.l0] at H
            by_cases c9 : x26_2 < (a0.size : Int)
            · rw [if_pos c9] at H
              have c9b0 : decide (x26_2 < (a0.size : Int)) = true := decide_eq_true c9
              clear c9
              by_cases c10 : 0 ≤ x26_2
              · rw [if_pos c10] at H
                have c10b0 : decide (0 ≤ x26_2) = true := decide_eq_true c10
                clear c10
                by_cases c11 : x26_2 < (a0.size : Int)
                · rw [if_pos c11] at H
                  have c11b0 : decide (x26_2 < (a0.size : Int)) = true := decide_eq_true c11
                  clear c11
                  by_cases c13 : (bt a0 x26_2) < 48
                  · rw [if_pos c13] at H
                    have c13b0 : decide ((bt a0 x26_2) < 48) = true := decide_eq_true c13
                    clear c13
                    simp only [Option.some.injEq, Prod.mk.injEq] at H
                    obtain ⟨rfl, rfl⟩ := H
                    have p12 : 0 ≤ (x26_2 : Int) := of_decide_eq_true (by first | (with_reducible assumption) | assumption)
                    have q12 : x26_2 < (a0.size : Int) := of_decide_eq_true (by first | (with_reducible assumption) | assumption)
                    have hx12 := bt_at a0 x26_2
                    replace p12 := eq_true p12
                    replace q12 := eq_true q12
                    go_wp2
                    go_ret2
                    exact ⟨by first | rfl | (simp; done) | (simp [*]; done), by repeat (first | exact Drawn0.refl _ | apply Drawn0.step)⟩
                  · rw [if_neg c13] at H
                    have c13b0 : decide ((bt a0 x26_2) < 48) = false := decide_eq_false c13
                    clear c13
                    by_cases c15 : (bt a0 x26_2) > 57
                    · rw [if_pos c15] at H
                      have c15b0 : decide (57 < (bt a0 x26_2)) = true := decide_eq_true c15
                      clear c15
                      simp only [Option.some.injEq, Prod.mk.injEq] at H
                      obtain ⟨rfl, rfl⟩ := H
                      have p12 : 0 ≤ (x26_2 : Int) := of_decide_eq_true (by first | (with_reducible assumption) | assumption)
                      have q12 : x26_2 < (a0.size : Int) := of_decide_eq_true (by first | (with_reducible assumption) | assumption)
                      have hx12 := bt_at a0 x26_2
                      replace p12 := eq_true p12
                      replace q12 := eq_true q12
                      have p14 : 0 ≤ (x26_2 : Int) := of_decide_eq_true (by first | (with_reducible assumption) | assumption)
                      have q14 : x26_2 < (a0.size : Int) := of_decide_eq_true (by first | (with_reducible assumption) | assumption)
                      have hx14 := bt_at a0 x26_2
                      replace p14 := eq_true p14
                      replace q14 := eq_true q14
                      go_wp2
                      go_ret2
                      exact ⟨by first | rfl | (simp; done) | (simp [*]; done), by repeat (first | exact Drawn0.refl _ | apply Drawn0.step)⟩
                    · rw [if_neg c15] at H
                      have c15b0 : decide (57 < (bt a0 x26_2)) = false := decide_eq_false c15
                      clear c15
                      have H' := Aside0.mk H
                      clear H
                      have p12 : 0 ≤ (x26_2 : Int) := of_decide_eq_true (by first | (with_reducible assumption) | assumption)
                      have q12 : x26_2 < (a0.size : Int) := of_decide_eq_true (by first | (with_reducible assumption) | assumption)
                      have hx12 := bt_at a0 x26_2
                      replace p12 := eq_true p12
                      replace q12 := eq_true q12
                      have p14 : 0 ≤ (x26_2 : Int) := of_decide_eq_true (by first | (with_reducible assumption) | assumption)
                      have q14 : x26_2 < (a0.size : Int) := of_decide_eq_true (by first | (with_reducible assumption) | assumption)
                      have hx14 := bt_at a0 x26_2
                      replace p14 := eq_true p14
                      replace q14 := eq_true q14
                      have p16 : 0 ≤ (x26_2 : Int) := of_decide_eq_true (by first | (with_reducible assumption) | assumption)
                      have q16 : x26_2 < (a0.size : Int) := of_decide_eq_true (by first | (with_reducible assumption) | assumption)
                      have hx16 := bt_at a0 x26_2
                      replace p16 := eq_true p16
                      replace q16 := eq_true q16
                      go_wp2
                      go_roundg k2
                      case measure => have := HJ1.out; have := HK2.out; omega
                      case rel => exact ⟨(wrap64 ((wrap64 (10 * x4_2)) + (((bt a0 x26_2) - 48) % 256))), (wrap64 (x26_2 + 1)), (by first | rfl | (simp; done) | (simp [*]; done)), (by first | rfl | (simp; done) | (simp [*]; done)), H', ⟨by have := HJ1.out; have := HK2.out; omega⟩, by repeat (first | exact Drawn0.refl _ | apply Drawn0.step)⟩
                · rw [if_neg c11] at H
                  exact absurd H (by simp)
              · rw [if_neg c10] at H
                exact absurd H (by simp)
            · rw [if_neg c9] at H
              have c9b0 : decide (x26_2 < (a0.size : Int)) = false := decide_eq_false c9
              clear c9
              simp only [Option.some.injEq, Prod.mk.injEq] at H
              obtain ⟨rfl, rfl⟩ := H
              go_wp2
              go_ret2
              exact ⟨by first | rfl | (simp; done) | (simp [*]; done), by repeat (first | exact Drawn0.refl _ | apply Drawn0.step)⟩

/-! ### slices_Index_string_string: function 65 -/
def slices_Index_string_string.f (l0 : List ByteArray) (a1 : ByteArray) : Option Int := some (idxS l0 a1)
theorem slices_Index_string_string.calls (A0 : Option Addr) (c0 : Nat) (l0 : List ByteArray) (a1 : ByteArray) (r : Int) (w : World) (hr0 : Kd.C Kd.string w A0 l0.length l0) (hc0 : l0.length ≤ c0) (h : slices_Index_string_string.f l0 a1 = some r) :
    Calls Tryd.prog 65 #[.slice A0 l0.length c0, .string a1] w fun e w' => e = .returned (.int .i64 r) ∧ Drawn0 w w' := by
  have HR0 := Aside0.mk hr0
  have hm : l0.length ≤ 9223372036854775807 := hr0.2.1
  have hr := Option.some.inj h
  have Hr := Aside0.mk (show idxFrom (l0.drop 0) a1 0 = r from hr)
  clear hr0 hc0 h hr
  go_enter Tryd.func65, Tryd.ntmps65
  go_wp2
  go_loopg [8] l0.length (fun kq v8 w' => ∃ (x : Nat), v8 = .int .i64 x ∧ x ≤ l0.length ∧ kq = l0.length - x ∧ Aside0 (idxFrom (l0.drop x) a1 x = r) ∧ Drawn0 w w')
  case atStart => exact ⟨0, rfl, Nat.zero_le _, rfl, Hr, by repeat (first | exact Drawn0.refl _ | apply Drawn0.step)⟩
  case round =>
    obtain ⟨x, rfl, hx, hk, HA, ⟨m1, rfl⟩⟩ := hrel
    by_cases hlt : x < l0.length
    · have p : (0 : Int) ≤ (x : Int) := by omega
      have q : (x : Int) < (l0.length : Int) := by omega
      obtain ⟨ad, e, hc⟩ := Kd.at_string HR0.out (x : Int) p q
      cases e
      have Hhit := Aside0.mk (idxFrom_hit l0 a1 _ x hlt rfl)
      have Hgo := Aside0.mk (idxFrom_go l0 a1 _ x hlt rfl)
      rw [Int.toNat_natCast] at hc
      generalize rdOf ByteArray.empty l0 (x : Int) = y at hc Hhit Hgo
      cases he : (a1.toList == y.toList) with
      | true =>
        have H2 := Aside0.mk (HA.out.symm.trans (Hhit.out he))
        go_wp2
        go_ret
        exact ⟨by rw [H2.out]; rfl, by repeat (first | exact Drawn0.refl _ | apply Drawn0.step)⟩
      | false =>
        have H2 := Aside0.mk ((Hgo.out he).symm.trans HA.out)
        go_wp2
        go_roundg (l0.length - (x + 1))
        case measure => omega
        case rel => exact ⟨x + 1, by go_num, by omega, rfl, H2, by repeat (first | exact Drawn0.refl _ | apply Drawn0.step)⟩
    · have hxe : x = l0.length := by omega
      have H2 := Aside0.mk (show r = -1 by rw [← HA.out, hxe, List.drop_length]; rfl)
      have q : ¬ (x : Int) < (l0.length : Int) := by omega
      clear hxe
      go_wp2
      go_ret
      exact ⟨by rw [H2.out]; rfl, by repeat (first | exact Drawn0.refl _ | apply Drawn0.step)⟩

/-! ### The cursor (text.Cursor): what its methods do to its block -/
theorem front_At (C : Nat) (n : Int) (w : World) (h : w.cell? ⟨C, 1, none⟩ = some (.int .i64 n)) :
    Calls Tryd.prog 19 #[.pointer (some ⟨C, 0, none⟩)] w fun e w' => e = .returned (.int .i64 n) ∧ w = w' := by
  go_enter Tryd.func19, Tryd.ntmps19
  go_wp2
  go_ret
  exact ⟨rfl, rfl⟩
theorem front_Peek_no (C : Nat) (s : ByteArray) (n : Int) (w : World) (h0 : w.cell? ⟨C, 0, none⟩ = some (.string s)) (h1 : w.cell? ⟨C, 1, none⟩ = some (.int .i64 n)) (hn : n ≥ s.size) :
    Calls Tryd.prog 39 #[.pointer (some ⟨C, 0, none⟩)] w fun e w' => e = .returned (.tuple #[.int .u8 0, .bool false]) ∧ Drawn0 w w' := by
  have hd : decide (n ≥ (s.size : Int)) = true := decide_eq_true hn
  go_enter Tryd.func39, Tryd.ntmps39
  go_wp2
  go_quiet (fail)
  go_wp2
  go_ret2
  exact ⟨rfl, by repeat (first | exact Drawn0.refl _ | apply Drawn0.step)⟩
theorem front_Peek (C : Nat) (s : ByteArray) (n : Nat) (w : World) (h0 : w.cell? ⟨C, 0, none⟩ = some (.string s)) (h1 : w.cell? ⟨C, 1, none⟩ = some (.int .i64 n)) (hn : n < s.size) :
    Calls Tryd.prog 39 #[.pointer (some ⟨C, 0, none⟩)] w fun e w' => e = .returned (.tuple #[.int .u8 s[n].toNat, .bool true]) ∧ Drawn0 w w' := by
  have hd : decide ((n : Int) ≥ (s.size : Int)) = false := decide_eq_false (by omega)
  have hi : (n : Int) < (s.size : Int) := by omega
  go_enter Tryd.func39, Tryd.ntmps39
  go_wp2
  go_quiet (fail)
  go_wp2
  go_quiet (fail)
  go_wp2
  go_ret2
  exact ⟨rfl, by repeat (first | exact Drawn0.refl _ | apply Drawn0.step)⟩

/-- A cursor's block: its text, and how far it was taken. -/
def Cur (w : World) (C : Nat) (s : ByteArray) (n : Nat) : Prop := w.heap[C]? = some (.cells #[.string s, .int .i64 n] 58 (0, 0))
theorem Cur.cells {w : World} {C : Nat} {s : ByteArray} {n : Nat} (h : Cur w C s n) : w.cell? ⟨C, 0, none⟩ = some (.string s) ∧ w.cell? ⟨C, 1, none⟩ = some (.int .i64 n) ∧ w.frozen? ⟨C, 1, none⟩ = false :=
  ⟨(blk_cell h 0).trans rfl, (blk_cell h 1).trans rfl, blk_frozen h 1⟩
theorem Cur.set {w : World} {C : Nat} {s : ByteArray} {n m : Nat} (h : Cur w C s n) : Cur (w.setCell ⟨C, 1, none⟩ (.int .i64 m)) C s m := blk_put (cs := #[.string s, .int .i64 n]) h 1 _ rfl
theorem Cur.drewN {w : World} {C : Nat} {s : ByteArray} {n : Nat} (h : Cur w C s n) (m : Nat) : Cur (w.drewN m) C s n := h

/-- Is a text next, from a place on? -/
def nextIs (s : ByteArray) (n : Nat) (p : ByteArray) : Bool := Lib.hasPrefix (s.data.toList.drop n) p.data.toList

theorem take_rest {α : Type} (l : List α) (n m : Nat) (h : l.length = m) : List.take (m - n) (List.drop n l) = List.drop n l := List.take_of_length_le (by rw [List.length_drop]; omega)
theorem next_spelled (s : ByteArray) (n : Nat) (p : ByteArray) : Lib.hasPrefix (List.take (s.size - n) (List.drop n s.data.toList)) p.data.toList = nextIs s n p := by
  rw [take_rest _ _ _ (by rw [Array.length_toList]; rfl)]
  rfl
theorem cur_Take_no (C : Nat) (s : ByteArray) (n : Nat) (p : ByteArray) (w : World) (h : Cur w C s n) (hn : n ≤ s.size) (hs : s.size ≤ 140737488351232) (hb : nextIs s n p = false) :
    Calls Tryd.prog 37 #[.pointer (some ⟨C, 0, none⟩), .string p] w fun e w' =>
      e = .returned (.bool false) ∧ Cur w' C s n ∧ Drawn0 w w' := by
  obtain ⟨c0, c1, f1⟩ := h.cells
  have hle : (n : Int) ≤ (s.size : Int) := by omega
  have hp := (next_spelled s n p).trans hb
  have Hc := Lib.hid h
  clear hb h
  go_enter Tryd.func37, Tryd.ntmps37
  go_wp2_with fail
  go_quiet ((first
    | (go_at_call 19; exact Calls.quiet_of_same ((front_At C n _ (by assumption)).mono fun _ _ hh => ⟨hh.1, hh.2.symm⟩))
    | (go_at_call 59; exact Calls.quiet_of_same (Tryd.strings_HasPrefix _ _ _))))
  go_wp2
  go_ret
  exact ⟨rfl, Hc.out.drewN _, ⟨_, rfl⟩⟩
theorem cur_Take_yes (C : Nat) (s : ByteArray) (n : Nat) (p : ByteArray) (w : World) (h : Cur w C s n) (hn : n ≤ s.size) (hs : s.size ≤ 140737488351232) (hps : p.size ≤ 140737488351232) (hb : nextIs s n p = true) :
    Calls Tryd.prog 37 #[.pointer (some ⟨C, 0, none⟩), .string p] w fun e w' =>
      e = .returned (.bool true) ∧ Cur w' C s (n + p.size) ∧ Kp (fun b => b = C) w w' := by
  obtain ⟨c0, c1, f1⟩ := h.cells
  have hle : (n : Int) ≤ (s.size : Int) := by omega
  have hp := (next_spelled s n p).trans hb
  have Hc := Lib.hid h
  clear hb h
  go_enter Tryd.func37, Tryd.ntmps37
  go_wp2_with fail
  go_quiet ((first
    | (go_at_call 19; exact Calls.quiet_of_same ((front_At C n _ (by assumption)).mono fun _ _ hh => ⟨hh.1, hh.2.symm⟩))
    | (go_at_call 59; exact Calls.quiet_of_same (Tryd.strings_HasPrefix _ _ _))))
  go_wp2
  go_ret
  exact ⟨rfl, by have := Cur.set (m := n + p.size) (Hc.out.drewN nq); simpa using this, Kp.setCell (S := fun b => b = C) ((Kp.refl _ _).drewN _) (.inl rfl) _⟩

/-! ### While -/
def inSet (set : ByteArray) (c : UInt8) : Bool := decide (0 ≤ Lib.indexByte set.data.toList c)
/-- How far the bytes of a set go, from a place on. -/
def spanTo (s : ByteArray) (n : Nat) (set : ByteArray) : Nat := n + ((s.data.toList.drop n).takeWhile (inSet set)).length
theorem takeWhile_to {α : Type} (p : α → Bool) : ∀ (l : List α) (k : Nat), k ≤ l.length → (∀ j (h : j < k) (h2 : j < l.length), p l[j] = true) → (∀ h : k < l.length, p l[k] = false) → (l.takeWhile p).length = k := by
  intro l
  induction l with
  | nil => intro k hk _ _; simp at hk; simp [hk]
  | cons a l ih =>
    intro k hk h1 h2
    cases k with
    | zero =>
      have := h2 (by simp)
      simp at this
      simp [List.takeWhile_cons, this]
    | succ k =>
      have := h1 0 (by omega) (by simp)
      simp at this
      rw [List.takeWhile_cons, if_pos this, List.length_cons, ih k (by simpa using hk) (fun j h h3 => by have := h1 (j + 1) (by omega) (by simpa using h3); simpa using this) (fun h => by have := h2 (by simpa using h); simpa using this)]
theorem spanTo_eq (s : ByteArray) (n m : Nat) (set : ByteArray) (h0 : n ≤ m) (h1 : m ≤ s.size) (h2 : ∀ j (h : j < s.size), n ≤ j → j < m → inSet set s[j] = true) (h3 : ∀ h : m < s.size, inSet set s[m] = false) : m = spanTo s n set := by
  have hl : s.data.toList.length = s.size := by rw [Array.length_toList]; rfl
  have e : ∀ j (h : j < s.size) , s.data.toList[j]'(by omega) = s[j] := fun j h => by simp [ByteArray.getElem_eq_getElem_data]
  unfold spanTo
  rw [takeWhile_to (inSet set) (s.data.toList.drop n) (m - n) (by rw [List.length_drop]; omega)]
  · omega
  · intro j hj hj2
    rw [List.getElem_drop, e (n + j) (by omega)]
    exact h2 (n + j) (by omega) (by omega) (by omega)
  · intro hj
    rw [List.length_drop] at hj
    rw [List.getElem_drop, e _ (by omega)]
    have : n + (m - n) = m := by omega
    simp only [this]
    exact h3 (by omega)
/-- The next byte, as Peek tells it: 0 where there is none. -/
def pkB (s : ByteArray) (n : Nat) : Int := if h : n < s.size then (s[n].toNat : Int) else 0
def pkIs (s : ByteArray) (n : Nat) : Bool := decide (n < s.size)
theorem front_Peek_any (C : Nat) (s : ByteArray) (n : Nat) (w : World) (h : Cur w C s n) :
    Calls Tryd.prog 39 #[.pointer (some ⟨C, 0, none⟩)] w fun e w' => e = .returned (.tuple #[.int .u8 (pkB s n), .bool (pkIs s n)]) ∧ Drawn0 w w' := by
  obtain ⟨c0, c1, _⟩ := h.cells
  unfold pkB pkIs
  by_cases hn : n < s.size
  · rw [dif_pos hn, decide_eq_true hn]
    exact front_Peek C s n w c0 c1 hn
  · rw [dif_neg hn, decide_eq_false hn]
    exact front_Peek_no C s n w c0 c1 (by omega)
/-- How far a cursor was taken, read off its block. -/
def curN (w : World) (C : Nat) : Nat := (intOf ((w.cell? ⟨C, 1, none⟩).getD undef)).toNat
theorem Cur.curN {w : World} {C : Nat} {s : ByteArray} {n : Nat} (h : Cur w C s n) : curN w C = n := by
  unfold P.curN
  rw [h.cells.2.1]
  simp [intOf]
theorem pk_yes (s : ByteArray) (n : Nat) (h : n < s.size) : pkB s n = (s[n].toNat : Int) ∧ pkIs s n = true := by simp [pkB, pkIs, h]
theorem pk_no (s : ByteArray) (n : Nat) (h : ¬ n < s.size) : pkB s n = 0 ∧ pkIs s n = false := by simp [pkB, pkIs, h]
theorem strings_Clone_any (s : ByteArray) (w : World) (h : s.size ≤ 281474976710656) :
    Calls Tryd.prog 60 #[.string s] w fun e w' => e = .returned (.string s) ∧ Below w.heap.size w w' := by
  go_enter Tryd.func60, Tryd.ntmps60
  go_wp2_with (go_at_call 73; refine (Tryd.stringslite_Clone _ _ h).mono ?_; rintro e w' ⟨rfl, hw⟩)
  go_ret
  exact ⟨rfl, hw⟩
theorem While_end (C : Nat) (s : ByteArray) (n m : Nat) (set : ByteArray) (w wr : World) (hc : Cur wr C s m) (hk : Kp (fun b => b = C) w wr) (h0 : n ≤ m) (h1 : m ≤ s.size) (ha : ∀ j (h : j < s.size), n ≤ j → j < m → inSet set s[j] = true) (he : ∀ h : m < s.size, inSet set s[m] = false) {e : Ending} (hr : e = .returned (.string (s.extract n m))) {w' : World} (hb : Below wr.heap.size wr w') :
    e = .returned (.string (s.extract n (spanTo s n set))) ∧ Cur w' C s (spanTo s n set) ∧ Kp (fun b => b = C) w w' := by
  rw [← spanTo_eq s n m set h0 h1 ha he]
  exact ⟨hr, blk_below hc hb, hk.below hb⟩
set_option maxHeartbeats 1000000 in
theorem cur_While (C : Nat) (s : ByteArray) (n : Nat) (set : ByteArray) (w : World) (h : Cur w C s n) (hn : n ≤ s.size) (hs : s.size ≤ 140737488351232) :
    Calls Tryd.prog 38 #[.pointer (some ⟨C, 0, none⟩), .string set] w fun e w' =>
      e = .returned (.string (s.extract n (spanTo s n set))) ∧ Cur w' C s (spanTo s n set) ∧ Kp (fun b => b = C) w w' := by
  obtain ⟨c0, c1, f1⟩ := h.cells
  have Hc := Lib.hid h
  clear h
  go_enter Tryd.func38, Tryd.ntmps38
  go_wp2_with (go_at_call 39; refine (front_Peek_any C s n _ Hc.out).mono ?_; rintro e w' ⟨rfl, hw⟩)
  have Hd := Lib.hid hw
  clear hw c0 c1 f1
  go_loopw [6, 7] (fun b i wr => ∃ m : Nat, n ≤ m ∧ m ≤ s.size ∧ b = .int .u8 (pkB s m) ∧ i = .bool (pkIs s m) ∧ Cur wr C s m ∧ Kp (fun b => b = C) w wr ∧ (∀ j (h : j < s.size), n ≤ j → j < m → inSet set s[j] = true)) (fun _ _ wr => s.size - P.curN wr C)
  case atStart => exact ⟨n, Nat.le_refl _, hn, rfl, rfl, by obtain ⟨k, rfl⟩ := Hd.out.out; exact Hc.out.drewN _, (Kp.refl _ _).drawn Hd.out, fun j _ _ _ => by omega⟩
  case round =>
    obtain ⟨m, h0, h1, rfl, rfl, hc, hk, ha⟩ := hrel
    obtain ⟨c0, c1, f1⟩ := hc.cells
    have Hc2 := Lib.hid hc
    have Hk := Lib.hid hk
    have Ha := Lib.hid ha
    clear hc hk ha
    by_cases hm : m < s.size
    · obtain ⟨p1, p2⟩ := pk_yes s m hm
      rw [p1, p2]
      clear p1 p2
      by_cases hin : 0 ≤ Lib.indexByte set.data.toList s[m]
      · have Hin := Lib.hid (show inSet set s[m] = true from decide_eq_true hin)
        go_wp2_with (first
          | (go_at_call 40; refine (Tryd.strings_IndexByte _ _ _).mono ?_; rintro e w' ⟨rfl, rfl⟩)
          | (go_at_call 39; refine (front_Peek_any C s (m + 1) _ (by have := Cur.set (m := m + 1) Hc2.out; simpa using this)).mono ?_; rintro e w' ⟨rfl, hw⟩))
        have hc3 : Cur w' C s (m + 1) := by
          have := Cur.set (m := m + 1) Hc2.out
          obtain ⟨k, rfl⟩ := hw.out
          simpa using this.drewN k
        refine ⟨⟨m + 1, by omega, by omega, rfl, rfl, hc3, ?_, fun j hj h2 h3 => ?_⟩, ?_⟩
        · exact (Kp.setCell (S := fun b => b = C) Hk.out (.inl rfl) _).drawn hw
        · by_cases e : j = m
          · subst e; exact Hin.out
          · exact Ha.out j hj h2 (by omega)
        · rw [hc3.curN, Hc2.out.curN]; omega
      · have Hin := Lib.hid (show inSet set s[m] = false from decide_eq_false hin)
        have hle1 : (n : Int) ≤ (m : Int) := by omega
        have hle2 : (m : Int) ≤ (s.size : Int) := by omega
        go_wp2_with (go_at_call 40; refine (Tryd.strings_IndexByte _ _ _).mono ?_; rintro e w' ⟨rfl, rfl⟩)
        go_region_with (go_at_call 60; refine (strings_Clone_any _ _ (by rw [ByteArray.size_extract]; omega)).mono ?_; rintro e w' ⟨rfl, hw⟩)
        all_goals (go_wp2; go_ret)
        all_goals exact While_end C s n m set w _ Hc2.out Hk.out h0 h1 Ha.out (fun _ => Hin.out) rfl (below_then (below_drew (Below.refl _ _)) (Nat.le_refl _) hw)
    · obtain ⟨p1, p2⟩ := pk_no s m hm
      rw [p1, p2]
      clear p1 p2
      have hle1 : (n : Int) ≤ (m : Int) := by omega
      have hle2 : (m : Int) ≤ (s.size : Int) := by omega
      have Hm := Lib.hid hm
      clear hm
      go_wp2_with fail
      go_region_with (go_at_call 60; refine (strings_Clone_any _ _ (by rw [ByteArray.size_extract]; omega)).mono ?_; rintro e w' ⟨rfl, hw⟩)
      all_goals (go_wp2; go_ret)
      all_goals exact While_end C s n m set w _ Hc2.out Hk.out h0 h1 Ha.out (fun h => absurd h Hm.out) rfl (below_then (below_drew (Below.refl _ _)) (Nat.le_refl _) hw)

end Go.Proofs.YtnijnemkjnnolaaDoor.P
