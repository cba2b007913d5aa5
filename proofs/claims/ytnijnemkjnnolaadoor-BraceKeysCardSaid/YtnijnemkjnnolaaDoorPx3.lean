-- Written by a program of this session (wip/mp): the kit's print, with contracts proved by hand let in as printed ones.
import Derived.Test.YtnijnemkjnnolaaDoorPx0
import Derived.Test.YtnijnemkjnnolaaDoorPx2
namespace Go.Proofs.YtnijnemkjnnolaaDoor.P
open Go.RowKit Go.Proofs.YtnijnemkjnnolaaDoorW.PrintWords Go.Proofs.YtnijnemkjnnolaaDoorW.PrintLast Go.Proofs.YtnijnemkjnnolaaDoorW.PrintMore
attribute [local go_sem] max2_int min2_int max_two min_two max_three min_three max_four min_four   -- for this text's walks alone
set_option linter.unusedVariables false
set_option linter.unusedSimpArgs false

/-! ### New, Unquote -/
theorem text_New_any (s : ByteArray) (w : World) :
    Calls Tryd.prog 15 #[.string s] w fun e w' => e = .returned (.pointer (some ⟨w.heap.size, 0, none⟩)) ∧ w' = w.alloc (.cells #[.string s, .int .i64 0] 58) := by
  go_enter Tryd.func15, Tryd.ntmps15
  go_wp2
  go_ret
  exact ⟨rfl, rfl⟩
/-- What a sign behind a backslash stands for. -/
def escOf (y : UInt8) : Option UInt8 := if y = 34 then some 34 else if y = 92 then some 92 else if y = 110 then some 10 else if y = 116 then some 9 else if y = 47 then some 47 else none
/-- A quoted text, behind its first quote: what it says, where it ends. -/
def unq : List UInt8 → List UInt8 → Nat → Option (List UInt8 × Nat)
  | [], _, _ => none
  | [x], out, n => if x = 34 then some (out, n + 1) else none
  | x :: y :: r, out, n => if x = 34 then some (out, n + 1) else if x = 92 then match escOf y with
      | none => none
      | some z => unq r (out ++ [z]) (n + 2)
    else if 32 ≤ x ∧ x ≤ 126 then unq (y :: r) (out ++ [x]) (n + 1) else none
def unquoteP (l : List UInt8) : Option (List UInt8 × Nat) := match l with
  | 34 :: r => unq r [] 1
  | _ => none
theorem unq_cons (x : UInt8) (l out : List UInt8) (n : Nat) (h1 : x ≠ 34) (h2 : x ≠ 92) (h3 : 32 ≤ x) (h4 : x ≤ 126) : unq (x :: l) out n = unq l (out ++ [x]) (n + 1) := by
  cases l with
  | nil => simp [unq, h1]
  | cons y r => simp [unq, h1, h2, h3, h4]
theorem unq_quote (l out : List UInt8) (n : Nat) : unq (34 :: l) out n = some (out, n + 1) := by
  cases l <;> simp [unq]
theorem unq_bad (x : UInt8) (l out : List UInt8) (n : Nat) (h : ¬ (32 ≤ x ∧ x ≤ 126)) : unq (x :: l) out n = none := by
  have h1 : x ≠ 34 := by rintro rfl; exact h (by decide)
  have h2 : x ≠ 92 := by rintro rfl; exact h (by decide)
  cases l with
  | nil => simp [unq, h1]
  | cons y r => simp only [unq]; rw [if_neg h1, if_neg h2, if_neg h]
theorem unq_esc (y : UInt8) (l out : List UInt8) (n : Nat) : unq (92 :: y :: l) out n = match escOf y with
    | none => none
    | some z => unq l (out ++ [z]) (n + 2) := by simp [unq]
theorem unq_esc_end (out : List UInt8) (n : Nat) : unq [92] out n = none := by simp [unq]
def UnqPost (w : World) (r : Option (List UInt8 × Nat)) (e : Ending) (w' : World) : Prop :=
  e = .returned (match r with
    | none => .tuple #[.string ⟨#[]⟩, .int .i64 0, .bool false]
    | some (o, n) => .tuple #[.string (bs o), .int .i64 n, .bool true]) ∧ Below w.heap.size w w'
theorem isBuf_set {T e : TypeId} {B b : Nat} {l : List Value} {w : World} (h : Lib.IsBuffer T e B b l w) {p : Addr} (hp : p.block < B) (u : Value) : Lib.IsBuffer T e B b l (w.setCell p u) := by
  obtain ⟨h0, v, lr, h1, h2, h3⟩ := h
  exact ⟨h0, v, lr, blk_far h1 (by omega) u, ownsRow_setCell_below h2 hp u, h3⟩
theorem isBuf_drewN {T e : TypeId} {B b : Nat} {l : List Value} {w : World} (h : Lib.IsBuffer T e B b l w) (k : Nat) : Lib.IsBuffer T e B b l (w.drewN k) := h
theorem isBuf_drawn {T e : TypeId} {B b : Nat} {l : List Value} {w w' : World} (h : Lib.IsBuffer T e B b l w) (hd : Drawn0 w w') : Lib.IsBuffer T e B b l w' := by
  obtain ⟨k, rfl⟩ := hd.out
  exact h
theorem Cur.set2 {w : World} {C : Nat} {s : ByteArray} {n : Nat} (h : Cur w C s (n + 1)) : Cur (w.setCell ⟨C, 1, none⟩ (.int .i64 ((n : Int) + 1 + 1))) C s (n + 2) := by
  have := Cur.set (m := n + 2) h
  rwa [show ((n + 2 : Nat) : Int) = (n : Int) + 1 + 1 from by omega] at this
theorem byteCells_one (out : List UInt8) : ∀ v ∈ Lib.byteCells out, v.oneCell' = true := by
  intro v hv
  simp only [Lib.byteCells, List.mem_map] at hv
  obtain ⟨b, _, rfl⟩ := hv
  rfl
theorem byteCells_snoc (out : List UInt8) (c : UInt8) : Lib.byteCells out ++ [Value.int .u8 (c.toNat : Int)] = Lib.byteCells (out ++ [c]) := by simp [Lib.byteCells]
/-- What the loop of Unquote holds at each round's head. -/
structure UnqRel (w : World) (s : ByteArray) (C B b : Nat) (R : Option (List UInt8 × Nat)) (n : Nat) (out : List UInt8) (wr : World) : Prop where
  le : n ≤ s.size
  cur : Cur wr C s n
  buf : Lib.IsBuffer 110 5 B b (Lib.byteCells out) wr
  bel : Below w.heap.size w wr
  len : out.length ≤ n
  ans : unq (s.data.toList.drop n) out n = R
/-- A byte has been written, the next one is peeked at. -/
theorem UnqRel.step {w : World} {s : ByteArray} {C B b : Nat} {R : Option (List UInt8 × Nat)} {n m : Nat} {out : List UInt8} {wr w1 w2 w3 : World} (h : UnqRel w s C B b R n out wr) (c : UInt8) (hm : n < m) (hms : m ≤ s.size) (hCB : C < B) (hwC : w.heap.size ≤ C)
    (hk : Kp (fun b => b = C) wr w1) (hc : Cur w1 C s m) (hbuf : Lib.IsBuffer 110 5 B b (Lib.byteCells out ++ [Value.int .u8 (c.toNat : Int)]) w2) (hb : Below B w1 w2) (hd : Drawn0 w2 w3) (ha : unq (s.data.toList.drop m) (out ++ [c]) m = R) : UnqRel w s C B b R m (out ++ [c]) w3 := by
  obtain ⟨k, rfl⟩ := hd.out
  refine ⟨hms, Cur.drewN (show w2.heap[C]? = _ from (hb.block C hCB).trans hc) k, isBuf_drewN (by rw [← byteCells_snoc]; exact hbuf) k, ?_, by have := h.len; simp; omega, ha⟩
  have h1 : Below w.heap.size w w1 := Kp.to_below h.bel hk (fun b hb => by rw [hb]; exact hwC)
  exact pw_below_drewN (h1.trans (hb.mono (by omega))) k
theorem turned_idx (y : UInt8) : (Lib.indexByte [34, 92, 110, 116, 47] y = -1 ∧ escOf y = none) ∨ ∃ i : Nat, ∃ h : i < 5, Lib.indexByte [34, 92, 110, 116, 47] y = i ∧ escOf y = some ((⟨#[34, 92, 10, 9, 47]⟩ : ByteArray)[i]'h) := by
  by_cases h0 : y = 34
  · subst h0; exact .inr ⟨0, by decide, by decide, by decide⟩
  by_cases h1 : y = 92
  · subst h1; exact .inr ⟨1, by decide, by decide, by decide⟩
  by_cases h2 : y = 110
  · subst h2; exact .inr ⟨2, by decide, by decide, by decide⟩
  by_cases h3 : y = 116
  · subst h3; exact .inr ⟨3, by decide, by decide, by decide⟩
  by_cases h4 : y = 47
  · subst h4; exact .inr ⟨4, by decide, by decide, by decide⟩
  refine .inl ⟨?_, by simp [escOf, h0, h1, h2, h3, h4]⟩
  have e0 : (34 == y) = false := by simp; exact fun h => h0 h.symm
  have e1 : (92 == y) = false := by simp; exact fun h => h1 h.symm
  have e2 : (110 == y) = false := by simp; exact fun h => h2 h.symm
  have e3 : (116 == y) = false := by simp; exact fun h => h3 h.symm
  have e4 : (47 == y) = false := by simp; exact fun h => h4 h.symm
  simp [Lib.indexByte, e0, e1, e2, e3, e4]
theorem idx_turned (y i : Int) (w : World) (h : Lib.indexByte [34, 92, 110, 116, 47] y.toNat.toUInt8 = i) :
    Calls Tryd.prog 40 #[.string ⟨#[34, 92, 110, 116, 47]⟩, .int .u8 y] w fun e w' => e = .returned (.int .i64 i) ∧ w = w' := by
  subst h
  exact (Tryd.strings_IndexByte _ y w).mono fun e w' h => ⟨h.1, h.2.symm⟩
theorem unq_no (s : ByteArray) (h : nextIs s 0 ⟨#[34]⟩ = false) : unquoteP s.data.toList = none := by
  unfold nextIs Lib.hasPrefix at h
  rw [List.drop_zero] at h
  revert h
  cases s.data.toList with
  | nil => intro _; rfl
  | cons a l =>
    intro h
    unfold unquoteP
    split
    · rename_i r e
      injection e with e1 e2
      subst e1
      exact absurd h (by simp)
    · rfl
theorem unq_yes (s : ByteArray) (h : nextIs s 0 ⟨#[34]⟩ = true) : 1 ≤ s.size ∧ unquoteP s.data.toList = unq (s.data.toList.drop 1) [] 1 := by
  unfold nextIs Lib.hasPrefix at h
  rw [List.drop_zero] at h
  have hl : s.data.toList.length = s.size := by rw [Array.length_toList]; rfl
  revert h hl
  cases s.data.toList with
  | nil => intro h; exact absurd h (by simp)
  | cons a l =>
    intro h hl
    simp at h hl
    obtain rfl := h
    exact ⟨by omega, rfl⟩
theorem unq_at (s : ByteArray) (n : Nat) (h : n < s.size) : s.data.toList.drop n = s[n] :: s.data.toList.drop (n + 1) := by
  rw [List.drop_eq_getElem_cons (by rw [Array.length_toList]; exact h)]
  simp [ByteArray.getElem_eq_getElem_data]
theorem unq_past (s : ByteArray) (n : Nat) (h : ¬ n < s.size) : s.data.toList.drop n = [] := List.drop_eq_nil_of_le (by rw [Array.length_toList]; exact Nat.le_of_not_lt h)
set_option maxHeartbeats 1000000 in
theorem text_Unquote_any (s : ByteArray) (w : World) (hs : s.size ≤ 140737488351232) :
    Calls Tryd.prog 55 #[.string s] w (UnqPost w (unquoteP s.data.toList)) := by
  have c0 : Cur (w.alloc (.cells #[.string s, .int .i64 ((0 : Nat) : Int)] 58)) w.heap.size s 0 := blk_new w _
  have Hc := Lib.hid c0
  clear c0
  cases hq : nextIs s 0 ⟨#[34]⟩ with
  | false =>
    have Hq := Lib.hid (unq_no s hq)
    go_enter Tryd.func55, Tryd.ntmps55
    go_wp2_with (first
      | (go_at_call 15; refine (text_New_any _ _).mono ?_; rintro e w' ⟨rfl, rfl⟩)
      | (go_at_call 37; refine (cur_Take_no _ s 0 _ _ Hc.out (Nat.zero_le _) hs hq).mono ?_; rintro e w' ⟨rfl, _, hw⟩))
    go_ret3
    rw [Hq.out]
    exact ⟨rfl, below_then (below_alloc (Below.refl _ _) _) (by simp) hw.below⟩
  | true =>
    obtain ⟨h1, hans⟩ := unq_yes s hq
    rw [hans]
    clear hans
    generalize hR : unq (s.data.toList.drop 1) [] 1 = R
    have HR := Lib.hid hR
    clear hR
    go_enter Tryd.func55, Tryd.ntmps55
    go_wp2_with (first
      | (go_at_call 15; refine (text_New_any _ _).mono ?_; rintro e w' ⟨rfl, rfl⟩)
      | (go_at_call 37; refine (cur_Take_yes _ s 0 _ _ Hc.out (Nat.zero_le _) hs (by decide) hq).mono ?_; rintro e w' ⟨rfl, hc1, hw⟩; have Hc1 := Lib.hid hc1; have Hw := Lib.hid hw; clear hc1 hw))
    go_wp2_with (go_at_call 39; go_must (refine (front_Peek_any _ s 1 _ (blk_alloc (show Cur _ _ s 1 from Hc1.out) _)).mono ?_); rintro e w2 ⟨rfl, hw2⟩)
    obtain ⟨w2, rfl⟩ : ∃ w3, w3 = w2 := ⟨_, rfl⟩
    have hstart : UnqRel w s w.heap.size (w'.heap.size) (w'.heap.size) R 1 [] w2 := by
      obtain ⟨k, rfl⟩ := hw2.out
      have hb1 : Below w.heap.size w w' := Kp.to_below (below_alloc (Below.refl _ _) _) Hw.out (fun b hb => by rw [hb]; exact Nat.le_refl _)
      exact ⟨h1, Cur.drewN (blk_alloc (show Cur _ _ s 1 from Hc1.out) _) k, isBuf_drewN (Lib.fresh_isBuffer _ _ _) k, pw_below_drewN (below_alloc hb1 _) k, Nat.zero_le _, HR.out⟩
    have hCB : w.heap.size < w'.heap.size := by have := Hw.out.size; simp at this; omega
    clear hw2 Hw Hc1 HR Hc
    generalize w'.heap.size = B at *
    generalize hC : w.heap.size = C at *
    have HC := Lib.hid hC
    clear hC
    go_loopw [7, 8] (fun x i wr => ∃ n out, x = .int .u8 (pkB s n) ∧ i = .bool (pkIs s n) ∧ UnqRel w s C B B R n out wr) (fun _ _ wr => s.size - P.curN wr C)
    case atStart => exact ⟨1, [], rfl, rfl, hstart⟩
    case round =>
      clear hstart
      obtain ⟨n, out, rfl, rfl, hrel2⟩ := hrel
      have Hrel := Lib.hid hrel2
      obtain ⟨c0, c1, f1⟩ := hrel2.cur.cells
      clear hrel2
      by_cases hn : n < s.size
      · obtain ⟨p1, p2⟩ := pk_yes s n hn
        rw [p1, p2]
        clear p1 p2
        have Hat := Lib.hid (unq_at s n hn)
        have hcur1 : Cur (wr.setCell ⟨C, 1, none⟩ (.int .i64 ((n : Int) + 1))) C s (n + 1) := by have := Cur.set (m := n + 1) Hrel.out.cur; simpa using this
        have Hcur1 := Lib.hid hcur1
        clear hcur1
        have hbuf1 := isBuf_set Hrel.out.buf (p := ⟨C, 1, none⟩) hCB (.int .i64 ((n : Int) + 1))
        have Hbuf1 := Lib.hid hbuf1
        clear hbuf1
        by_cases hx : 32 ≤ s[n] ∧ s[n] ≤ 126
        · have x1 : (32 : Int) ≤ (s[n].toNat : Int) := by have := UInt8.le_iff_toNat_le.1 hx.1; simp at this; omega
          have x2 : (s[n].toNat : Int) ≤ 126 := by have := UInt8.le_iff_toNat_le.1 hx.2; simp at this; omega
          have Hx := Lib.hid hx
          clear hx
          by_cases hqt : s[n] = 34
          · have e1 : ((s[n].toNat : Int) == 34) = true := by rw [hqt]; rfl
            have Hqt := Lib.hid hqt
            clear hqt
            have Ha : R = some (out, n + 1) := by rw [← Hrel.out.ans, Hat.out, Hqt.out, unq_quote]
            have HA := Lib.hid Ha
            clear Ha
            go_wp2_with fail
            go_quiet ((first
              | (go_at_call 19; exact Calls.quiet_of_same ((front_At C _ _ (Cur.cells (s := s) (n := n + 1) (Cur.drewN Hcur1.out _)).2.1).mono fun _ _ hh => ⟨hh.1, hh.2.symm⟩))
              | (go_at_call 70; exact Calls.quiet_of (Tryd.Buffer_String B B out _ (by exact Hbuf1.out)))))
            go_wp2
            go_ret3
            rw [HA.out]
            exact ⟨rfl, pw_below_drewN (Kp.to_below Hrel.out.bel (Kp.setCell (S := fun b => b = C) (Kp.refl _ _) (.inl rfl) _) (fun b hb => by rw [hb, ← HC.out]; exact Nat.le_refl _)) _⟩
          · have e1 : ((s[n].toNat : Int) == 34) = false := by
              rw [beq_eq_false_iff_ne]
              intro e
              exact hqt (UInt8.toNat_inj.1 (by have : s[n].toNat = 34 := by omega
                                               rw [this]; rfl))
            have Hqt := Lib.hid hqt
            clear hqt
            by_cases hbs : s[n] = 92
            · have e2 : ((s[n].toNat : Int) == 92) = true := by rw [hbs]; rfl
              have Hbs := Lib.hid hbs
              clear hbs
              by_cases hn1 : n + 1 < s.size
              · obtain ⟨q1, q2⟩ := pk_yes s (n + 1) hn1
                have hat2 := unq_at s (n + 1) hn1
                have Ha : unq (92 :: s[n + 1] :: s.data.toList.drop (n + 2)) out n = R := by rw [← hat2, ← Hbs.out, ← Hat.out]; exact Hrel.out.ans
                rw [unq_esc] at Ha
                have hy : (s[n + 1].toNat : Int).toNat.toUInt8 = s[n + 1] := by simp
                rcases turned_idx s[n + 1] with ⟨hi, he⟩ | ⟨i, hi5, hi, he⟩
                · rw [he] at Ha
                  have HA := Lib.hid Ha
                  have Hi := Lib.hid ((show Lib.indexByte [34, 92, 110, 116, 47] (pkB s (n + 1)).toNat.toUInt8 = -1 by rw [q1, hy]; exact hi))
                  clear Ha hi he hy q1 q2 hat2
                  go_wp2_with (first
                    | (go_at_call 39; go_must (refine (front_Peek_any C s (n + 1) _ Hcur1.out).mono ?_); rintro e w3 ⟨rfl, hw3⟩)
                    | (go_at_call 40; go_must (refine (idx_turned _ _ _ Hi.out).mono ?_); rintro e w4 ⟨rfl, rfl⟩))
                  go_ret3
                  rw [← HA.out]
                  exact ⟨rfl, (Kp.to_below Hrel.out.bel (Kp.setCell (S := fun b => b = C) (Kp.refl _ _) (.inl rfl) _) (fun b hb => by rw [hb, ← HC.out]; exact Nat.le_refl _)).trans (hw3.below.mono (by have := Hrel.out.bel.size; simp [World.setCell]; omega))⟩
                · rw [he] at Ha
                  have HA := Lib.hid (show unq (s.data.toList.drop (n + 2)) (out ++ [(⟨#[34, 92, 10, 9, 47]⟩ : ByteArray)[i]'hi5]) (n + 2) = R from Ha)
                  have Hi := Lib.hid ((show Lib.indexByte [34, 92, 110, 116, 47] (pkB s (n + 1)).toNat.toUInt8 = (i : Int) by rw [q1, hy]; exact hi))
                  clear Ha hi he hy q1 q2 hat2
                  have hi6 : (i : Int) < 5 := by omega
                  have hlim : (Lib.byteCells out).length + 1 ≤ 140737488355328 := by have := Hrel.out.len; simp [Lib.byteCells]; omega
                  have Hlim := Lib.hid hlim
                  clear hlim
                  go_wp2_with (first
                    | (go_at_call 39; refine (front_Peek_any C s (n + 1) _ Hcur1.out).mono ?_; rintro e w4 ⟨rfl, hw4⟩; have Hcur4 := Lib.hid (show Cur w4 C s (n + 1) from blk_below Hcur1.out hw4.below); have c41 := Hcur4.out.cells.2.1; have f41 := Hcur4.out.cells.2.2; have Hw4 := Lib.hid hw4; clear hw4)
                    | (go_at_call 40; refine (idx_turned _ _ _ Hi.out).mono ?_; rintro e w5 ⟨rfl, rfl⟩)
                    | (go_at_call 71; have hb4 := isBuf_set (isBuf_drawn Hbuf1.out Hw4.out) (p := ⟨C, 1, none⟩) hCB (.int .i64 ((n : Int) + 1 + 1)); have hc6 : Cur (w4.setCell ⟨C, 1, none⟩ (.int .i64 ((n : Int) + 1 + 1))) C s (n + 2) := Cur.set2 Hcur4.out; have Hcur6 := Lib.hid hc6; clear hc6; refine (Tryd.Buffer_WriteByte B B _ _ _ hb4 (Nat.le_of_lt hb4.lt) (byteCells_one _) Hlim.out).mono ?_; rintro e w2 ⟨rfl, hw2, hb2⟩; have Hw2 := Lib.hid hw2; have Hb2 := Lib.hid hb2; clear hw2 hb2 hb4)
                    | (go_at_call 39; refine (front_Peek_any C s (n + 2) _ (show Cur _ C s (n + 2) from (Hb2.out.block C hCB).trans Hcur6.out)).mono ?_; rintro e w3 ⟨rfl, hw3⟩))
                  have hrel3 : UnqRel w s C B B R (n + 2) (out ++ [(⟨#[34, 92, 10, 9, 47]⟩ : ByteArray)[i]'hi5]) w3 := Hrel.out.step _ (by omega) (by omega) hCB (by rw [HC.out]; exact Nat.le_refl _) (Kp.setCell (S := fun b => b = C) ((Kp.setCell (S := fun b => b = C) (Kp.refl _ _) (.inl rfl) _).drawn Hw4.out) (.inl rfl) _) Hcur6.out Hw2.out Hb2.out hw3 HA.out
                  refine ⟨⟨(n + 2), _, rfl, rfl, hrel3⟩, ?_⟩
                  rw [hrel3.cur.curN, Hrel.out.cur.curN]
                  omega
              · obtain ⟨q1, q2⟩ := pk_no s (n + 1) hn1
                have hat2 := unq_past s (n + 1) hn1
                have Ha : none = R := by rw [← Hrel.out.ans, Hat.out, hat2, Hbs.out]; exact (unq_esc_end out n).symm
                have HA := Lib.hid Ha
                have Hi := Lib.hid ((show Lib.indexByte [34, 92, 110, 116, 47] (pkB s (n + 1)).toNat.toUInt8 = -1 by rw [q1]; decide))
                clear Ha q1 q2 hat2
                go_wp2_with (first
                  | (go_at_call 39; go_must (refine (front_Peek_any C s (n + 1) _ Hcur1.out).mono ?_); rintro e w3 ⟨rfl, hw3⟩)
                  | (go_at_call 40; go_must (refine (idx_turned _ _ _ Hi.out).mono ?_); rintro e w4 ⟨rfl, rfl⟩))
                go_ret3
                rw [← HA.out]
                exact ⟨rfl, (Kp.to_below Hrel.out.bel (Kp.setCell (S := fun b => b = C) (Kp.refl _ _) (.inl rfl) _) (fun b hb => by rw [hb, ← HC.out]; exact Nat.le_refl _)).trans (hw3.below.mono (by have := Hrel.out.bel.size; simp [World.setCell]; omega))⟩
            · have e2 : ((s[n].toNat : Int) == 92) = false := by
                rw [beq_eq_false_iff_ne]
                intro e
                exact hbs (UInt8.toNat_inj.1 (by have : s[n].toNat = 92 := by omega
                                                 rw [this]; rfl))
              have Ha : unq (s.data.toList.drop (n + 1)) (out ++ [s[n]]) (n + 1) = R := by rw [← unq_cons _ _ _ _ Hqt.out hbs Hx.out.1 Hx.out.2, ← Hat.out]; exact Hrel.out.ans
              have HA := Lib.hid Ha
              clear Ha hbs
              have hlim : (Lib.byteCells out).length + 1 ≤ 140737488355328 := by have := Hrel.out.len; simp [Lib.byteCells]; omega
              have Hlim := Lib.hid hlim
              clear hlim
              have hBw : B ≤ (wr.setCell ⟨C, 1, none⟩ (.int .i64 ((n : Int) + 1))).heap.size := by have := Hbuf1.out.lt; omega
              have HBw := Lib.hid hBw
              clear hBw
              go_wp2_with (first
                | (go_at_call 71; go_must (refine (Tryd.Buffer_WriteByte B B _ _ _ Hbuf1.out HBw.out (byteCells_one _) Hlim.out).mono ?_); rintro e w2 ⟨rfl, hw2, hb2⟩)
                | (go_at_call 39; go_must (refine (front_Peek_any C s (n + 1) _ (show Cur _ C s (n + 1) from (hb2.block C hCB).trans Hcur1.out)).mono ?_); rintro e w3 ⟨rfl, hw3⟩))
              have hrel3 : UnqRel w s C B B R (n + 1) (out ++ [s[n]]) w3 := Hrel.out.step s[n] (by omega) (by omega) hCB (by rw [HC.out]; exact Nat.le_refl _) (Kp.setCell (S := fun b => b = C) (Kp.refl _ _) (.inl rfl) _) Hcur1.out hw2 hb2 hw3 HA.out
              refine ⟨⟨(n + 1), _, rfl, rfl, hrel3⟩, ?_⟩
              rw [hrel3.cur.curN, Hrel.out.cur.curN]
              omega
        · have Ha : R = none := by rw [← Hrel.out.ans, Hat.out, unq_bad _ _ _ _ hx]
          have HA := Lib.hid Ha
          clear Ha
          have hx2 : ¬ ((32 : Int) ≤ (s[n].toNat : Int) ∧ (s[n].toNat : Int) ≤ 126) := by
            intro h
            exact hx ⟨UInt8.le_iff_toNat_le.2 (by simp; omega), UInt8.le_iff_toNat_le.2 (by simp; omega)⟩
          clear hx
          by_cases hx3 : (32 : Int) ≤ (s[n].toNat : Int)
          · have hx4 : ¬ (s[n].toNat : Int) ≤ 126 := fun h => hx2 ⟨hx3, h⟩
            clear hx2
            go_wp2_with fail
            go_ret3
            rw [HA.out]
            exact ⟨rfl, Hrel.out.bel⟩
          · clear hx2
            go_wp2_with fail
            go_ret3
            rw [HA.out]
            exact ⟨rfl, Hrel.out.bel⟩
      · obtain ⟨p1, p2⟩ := pk_no s n hn
        rw [p1, p2]
        have Ha := Hrel.out.ans
        rw [unq_past s n hn, show unq [] out n = none from rfl] at Ha
        clear p1 p2
        go_wp2_with fail
        go_ret3
        rw [← Ha]
        exact ⟨rfl, Hrel.out.bel⟩

end Go.Proofs.YtnijnemkjnnolaaDoor.P
