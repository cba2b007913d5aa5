-- Written by a program of this session (wip/mp): the kit's print, with contracts proved by hand let in as printed ones.
import Derived.Test.YtnijnemkjnnolaaDoorPx0
import Derived.Test.YtnijnemkjnnolaaDoorPx2
import Derived.Test.YtnijnemkjnnolaaDoorPx3
namespace Go.Proofs.YtnijnemkjnnolaaDoor.P
open Go.RowKit Go.Proofs.YtnijnemkjnnolaaDoorW.PrintWords Go.Proofs.YtnijnemkjnnolaaDoorW.PrintLast Go.Proofs.YtnijnemkjnnolaaDoorW.PrintMore
attribute [local go_sem] max2_int min2_int max_two min_two max_three min_three max_four min_four   -- for this text's walks alone
set_option linter.unusedVariables false
set_option linter.unusedSimpArgs false

/-! ### The reader of brace: blanks, wrong, must, quoted, number -/
structure RSt where
  pos : Nat
  deep : Nat
  whr : Nat
  e : Nat
/-- A reader's block, and its cursor's. -/
structure Rdr (w : World) (R C : Nat) (s : ByteArray) (st : RSt) : Prop where
  rd : w.heap[R]? = some (.cells #[.pointer (some ⟨C, 0, none⟩), .string s, .int .i64 st.deep, .int .i64 st.whr, .int .i64 st.e] 51 (0, 0))
  cur : Cur w C s st.pos
  ne : R ≠ C
section
variable {w w' : World} {R C : Nat} {s : ByteArray} {st : RSt}
theorem Rdr.c0 (h : Rdr w R C s st) : w.cell? ⟨R, 0, none⟩ = some (.pointer (some ⟨C, 0, none⟩)) := (blk_cell h.rd 0).trans rfl
theorem Rdr.c1 (h : Rdr w R C s st) : w.cell? ⟨R, 1, none⟩ = some (.string s) := (blk_cell h.rd 1).trans rfl
theorem Rdr.c2 (h : Rdr w R C s st) : w.cell? ⟨R, 2, none⟩ = some (.int .i64 st.deep) := (blk_cell h.rd 2).trans rfl
theorem Rdr.c3 (h : Rdr w R C s st) : w.cell? ⟨R, 3, none⟩ = some (.int .i64 st.whr) := (blk_cell h.rd 3).trans rfl
theorem Rdr.c4 (h : Rdr w R C s st) : w.cell? ⟨R, 4, none⟩ = some (.int .i64 st.e) := (blk_cell h.rd 4).trans rfl
theorem Rdr.fz (h : Rdr w R C s st) (i : Nat) : w.frozen? ⟨R, i, none⟩ = false := blk_frozen h.rd i
theorem Rdr.drewN (h : Rdr w R C s st) (n : Nat) : Rdr (w.drewN n) R C s st := ⟨h.rd, h.cur, h.ne⟩
theorem Rdr.drew (h : Rdr w R C s st) : Rdr w.drew R C s st := ⟨h.rd, h.cur, h.ne⟩
theorem Rdr.drawn (h : Rdr w R C s st) (hd : Drawn0 w w') : Rdr w' R C s st := by obtain ⟨k, rfl⟩ := hd.out; exact h.drewN k
theorem Rdr.below (h : Rdr w R C s st) (hb : Below w.heap.size w w') : Rdr w' R C s st := ⟨blk_below h.rd hb, blk_below h.cur hb, h.ne⟩
theorem Rdr.alloc (h : Rdr w R C s st) (o : Obj) : Rdr (w.alloc o) R C s st := h.below (below_alloc (Below.refl _ _) o)
/-- The cursor has gone on, nothing else. -/
theorem Rdr.cursor (h : Rdr w R C s st) {n : Nat} (hc : Cur w' C s n) (hk : Kp (fun b => b = C) w w') : Rdr w' R C s { st with pos := n } := ⟨blk_kp h.rd hk h.ne, hc, h.ne⟩
theorem Rdr.kp (h : Rdr w R C s st) {S : Nat → Prop} (hk : Kp S w w') (hR : ¬ S R) (hC : ¬ S C) : Rdr w' R C s st := ⟨blk_kp h.rd hk hR, blk_kp h.cur hk hC, h.ne⟩
theorem Rdr.set2 (h : Rdr w R C s st) (n : Nat) : Rdr (w.setCell ⟨R, 2, none⟩ (.int .i64 n)) R C s { st with deep := n } := ⟨blk_put h.rd 2 _ rfl, blk_far h.cur (fun e => h.ne e.symm) _, h.ne⟩
theorem Rdr.set3 (h : Rdr w R C s st) (n : Nat) : Rdr (w.setCell ⟨R, 3, none⟩ (.int .i64 n)) R C s { st with whr := n } := ⟨blk_put h.rd 3 _ rfl, blk_far h.cur (fun e => h.ne e.symm) _, h.ne⟩
theorem Rdr.set4 (h : Rdr w R C s st) (n : Nat) : Rdr (w.setCell ⟨R, 4, none⟩ (.int .i64 n)) R C s { st with e := n } := ⟨blk_put h.rd 4 _ rfl, blk_far h.cur (fun e => h.ne e.symm) _, h.ne⟩
end
/-- Blocks R, C. -/
def RC (R C : Nat) : Nat → Prop := fun b => b = R ∨ b = C
theorem kp_C {R C : Nat} {w w' : World} (h : Kp (fun b => b = C) w w') : Kp (RC R C) w w' := h.mono (fun _ hb => .inr hb)
theorem kp_R {R C : Nat} {w w' : World} (h : Kp (fun b => b = R) w w') : Kp (RC R C) w w' := h.mono (fun _ hb => .inl hb)
def blankSet : ByteArray := ⟨#[32, 9, 10]⟩
def blanksP (s : ByteArray) (st : RSt) : RSt := { st with pos := spanTo s st.pos blankSet }
def wrongP (st : RSt) (a e : Nat) : RSt := if st.e = 0 then { st with whr := a, e := e } else st
theorem spanTo_le (s : ByteArray) (n : Nat) (set : ByteArray) (h : n ≤ s.size) : spanTo s n set ≤ s.size := by
  unfold spanTo
  have h1 := (List.takeWhile_sublist (inSet set) (l := s.data.toList.drop n)).length_le
  have hl : s.data.toList.length = s.size := by rw [Array.length_toList]; rfl
  rw [List.length_drop, hl] at h1
  omega
theorem spanTo_ge (s : ByteArray) (n : Nat) (set : ByteArray) : n ≤ spanTo s n set := by unfold spanTo; omega
theorem rd_blanks (R C : Nat) (s : ByteArray) (st : RSt) (w : World) (h : Rdr w R C s st) (hp : st.pos ≤ s.size) (hs : s.size ≤ 140737488351232) :
    Calls Tryd.prog 18 #[.pointer (some ⟨R, 0, none⟩)] w fun e w' => e = .returned (.int .u8 (pkB s (blanksP s st).pos)) ∧ Rdr w' R C s (blanksP s st) ∧ Kp (fun b => b = C) w w' := by
  have c0 := h.c0
  have H := Lib.hid h
  clear h
  go_enter Tryd.func18, Tryd.ntmps18
  go_wp2_with (first
    | (go_at_call 38; go_must (refine (cur_While C s st.pos blankSet _ H.out.cur hp hs).mono ?_); rintro e w1 ⟨rfl, hc1, hk1⟩; have H1 := Lib.hid (H.out.cursor hc1 hk1); have K1 := Lib.hid hk1; have d0 := H1.out.c0; clear hc1 hk1)
    | (go_at_call 39; go_must (refine (front_Peek_any C s _ _ H1.out.cur).mono ?_); rintro e w2 ⟨rfl, hd⟩))
  go_ret
  exact ⟨rfl, H1.out.drawn hd, K1.out.drawn hd⟩
theorem rd_wrong (R C : Nat) (s : ByteArray) (st : RSt) (a e : Nat) (w : World) (h : Rdr w R C s st) :
    Calls Tryd.prog 20 #[.pointer (some ⟨R, 0, none⟩), .int .i64 a, .int .i64 e] w fun e1 w' => e1 = .returned (.tuple #[]) ∧ Rdr w' R C s (wrongP st a e) ∧ Kp (fun b => b = R) w w' := by
  have c4 := h.c4
  have c3 := h.c3
  have f3 := h.fz 3
  have f4 := h.fz 4
  have H := Lib.hid h
  clear h
  unfold wrongP
  by_cases he : st.e = 0
  · rw [if_pos he]
    have e1 : ((st.e : Int) == 0) = true := by rw [he]; rfl
    clear he
    go_enter Tryd.func20, Tryd.ntmps20
    go_wp2
    go_end0
    exact ⟨rfl, (H.out.set3 a).set4 e, Kp.setCell (S := fun b => b = R) (Kp.setCell (S := fun b => b = R) (Kp.refl _ _) (.inl rfl) _) (.inl rfl) _⟩
  · rw [if_neg he]
    have e1 : ((st.e : Int) == 0) = false := by rw [beq_eq_false_iff_ne]; omega
    clear he
    go_enter Tryd.func20, Tryd.ntmps20
    go_wp2
    go_end0
    exact ⟨rfl, H.out, Kp.refl _ _⟩
def mustP (s : ByteArray) (st : RSt) (b : ByteArray) : Bool × RSt :=
  let st1 := blanksP s st
  if st1.e = 0 ∧ nextIs s st1.pos b = true then (true, { st1 with pos := st1.pos + b.size }) else (false, wrongP st1 st1.pos 1)
def quotedP (s : ByteArray) (st : RSt) : ByteArray × RSt :=
  let st1 := blanksP s st
  match unquoteP (s.data.toList.drop st1.pos) with
  | none => (⟨#[]⟩, wrongP st1 st1.pos 1)
  | some (o, n) => (bs o, { st1 with pos := st1.pos + n })
theorem kp_then {R C : Nat} {w w1 w2 : World} (h : Kp (RC R C) w w1) (k : Kp (RC R C) w1 w2) : Kp (RC R C) w w2 := h.then_ k
theorem rd_must (R C : Nat) (s : ByteArray) (st : RSt) (b : ByteArray) (w : World) (h : Rdr w R C s st) (hp : st.pos ≤ s.size) (hs : s.size ≤ 140737488351232) (hb : b.size ≤ 140737488351232) :
    Calls Tryd.prog 56 #[.pointer (some ⟨R, 0, none⟩), .string b] w fun e1 w' => e1 = .returned (.bool (mustP s st b).1) ∧ Rdr w' R C s (mustP s st b).2 ∧ Kp (RC R C) w w' := by
  have hbl := rd_blanks R C s st w h hp hs
  have Hle := Lib.hid (spanTo_le s st.pos blankSet hp)
  have Hbl := Lib.hid hbl
  clear hbl h
  generalize hst1 : blanksP s st = st1 at *
  have hpos : st1.pos ≤ s.size := by rw [← hst1]; exact Hle.out
  have Hm : Hid (mustP s st b = if st1.e = 0 ∧ nextIs s st1.pos b = true then (true, { st1 with pos := st1.pos + b.size }) else (false, wrongP st1 st1.pos 1)) := by rw [← hst1]; exact rfl
  clear hst1 Hle
  by_cases he : st1.e = 0
  · have e1 : ((st1.e : Int) != 0) = false := by rw [he]; rfl
    cases hn : nextIs s st1.pos b with
    | true =>
      rw [Hm.out, if_pos ⟨he, hn⟩]
      have Hn := Lib.hid hn
      clear he hn Hm
      go_enter Tryd.func56, Tryd.ntmps56
      go_wp2_with (first
        | (go_at_call 18; go_must (refine Hbl.out.mono ?_); rintro e w1 ⟨rfl, h1, k1⟩; have H1 := Lib.hid h1; have K1 := Lib.hid k1; have d0 := H1.out.c0; have d4 := H1.out.c4; clear h1 k1)
        | (go_at_call 37; go_must (refine (cur_Take_yes C s _ b _ H1.out.cur hpos hs hb Hn.out).mono ?_); rintro e w2 ⟨rfl, h2, k2⟩))
      go_ret
      exact ⟨rfl, H1.out.cursor h2 k2, kp_then (kp_C K1.out) (kp_C k2)⟩
    | false =>
      rw [Hm.out, if_neg (by rw [hn]; simp)]
      have Hn := Lib.hid hn
      clear he hn Hm
      go_enter Tryd.func56, Tryd.ntmps56
      go_wp2_with (first
        | (go_at_call 18; go_must (refine Hbl.out.mono ?_); rintro e w1 ⟨rfl, h1, k1⟩; have H1 := Lib.hid h1; have K1 := Lib.hid k1; have d0 := H1.out.c0; have d4 := H1.out.c4; clear h1 k1)
        | (go_at_call 37; go_must (refine (cur_Take_no C s _ b _ H1.out.cur hpos hs Hn.out).mono ?_); rintro e w2 ⟨rfl, _, k2⟩; have H2 := Lib.hid (H1.out.drawn k2); have K2 := Lib.hid (K1.out.drawn k2); have g0 := H2.out.c0; clear k2)
        | (go_at_call 19; go_must (refine (front_At C _ _ H2.out.cur.cells.2.1).mono ?_); rintro e w3 ⟨rfl, rfl⟩)
        | (go_at_call 20; go_must (refine (rd_wrong R C s st1 st1.pos 1 _ H2.out).mono ?_); rintro e w4 ⟨rfl, h4, k4⟩))
      go_ret
      exact ⟨rfl, h4, kp_then (kp_C K2.out) (kp_R k4)⟩
  · have e1 : ((st1.e : Int) != 0) = true := by rw [bne_iff_ne]; omega
    rw [Hm.out, if_neg (fun h => he h.1)]
    clear he Hm
    go_enter Tryd.func56, Tryd.ntmps56
    go_wp2_with (first
      | (go_at_call 18; go_must (refine Hbl.out.mono ?_); rintro e w1 ⟨rfl, h1, k1⟩; have H1 := Lib.hid h1; have K1 := Lib.hid k1; have d0 := H1.out.c0; have d4 := H1.out.c4; clear h1 k1)
      | (go_at_call 19; go_must (refine (front_At C _ _ H1.out.cur.cells.2.1).mono ?_); rintro e w3 ⟨rfl, rfl⟩)
      | (go_at_call 20; go_must (refine (rd_wrong R C s st1 st1.pos 1 _ H1.out).mono ?_); rintro e w4 ⟨rfl, h4, k4⟩))
    go_ret
    exact ⟨rfl, h4, kp_then (kp_C K1.out) (kp_R k4)⟩
theorem unq_le : ∀ (l out : List UInt8) (n : Nat) (o : List UInt8) (m : Nat), unq l out n = some (o, m) → n < m ∧ m ≤ n + l.length ∧ o.length + n + 1 ≤ m + out.length
  | [], out, n, o, m, h => by simp [unq] at h
  | [x], out, n, o, m, h => by
    simp only [unq] at h
    split at h
    · simp at h; obtain ⟨rfl, rfl⟩ := h; simp; omega
    · simp at h
  | x :: y :: r, out, n, o, m, h => by
    simp only [unq] at h
    split at h
    · simp at h; obtain ⟨rfl, rfl⟩ := h; simp; omega
    · split at h
      · split at h
        · simp at h
        · have := unq_le r _ _ _ _ h; simp at this ⊢; omega
      · split at h
        · have := unq_le (y :: r) _ _ _ _ h; simp at this ⊢; omega
        · simp at h
theorem unquoteP_le (l o : List UInt8) (m : Nat) (h : unquoteP l = some (o, m)) : m ≤ l.length ∧ o.length ≤ m := by
  unfold unquoteP at h
  split at h
  · have := unq_le _ _ _ _ _ h; simp at this ⊢; omega
  · simp at h
theorem extract_self (s : ByteArray) (a b : Nat) (hab : a ≤ b) (hb : b ≤ s.size) : (s.extract a b).size = b - a := by rw [ByteArray.size_extract]; omega
/-- What was cut out there is next there. -/
theorem next_cut (s : ByteArray) (n m : Nat) (h : n + m ≤ s.size) : nextIs s n (s.extract n (n + m)) = true := by
  unfold nextIs Lib.hasPrefix
  rw [List.isPrefixOf_iff_prefix]
  have : (s.extract n (n + m)).data.toList = (s.data.toList.drop n).take m := by simp [Lib.extract_data]
  rw [this]
  exact List.take_prefix _ _
set_option maxHeartbeats 1000000 in
set_option maxRecDepth 100000 in
theorem rd_quoted (R C : Nat) (s : ByteArray) (st : RSt) (w : World) (h : Rdr w R C s st) (hp : st.pos ≤ s.size) (hs : s.size ≤ 140737488351232) :
    Calls Tryd.prog 31 #[.pointer (some ⟨R, 0, none⟩)] w fun e1 w' => e1 = .returned (.string (quotedP s st).1) ∧ Rdr w' R C s (quotedP s st).2 ∧ Kp (RC R C) w w' := by
  have hbl := rd_blanks R C s st w h hp hs
  have Hle := Lib.hid (spanTo_le s st.pos blankSet hp)
  have Hbl := Lib.hid hbl
  clear hbl h
  generalize hst1 : blanksP s st = st1 at *
  have hpos : (st1.pos : Int) ≤ (s.size : Int) := by rw [← hst1]; have := Hle.out; exact Int.ofNat_le.2 this
  have Hm : Hid (quotedP s st = match unquoteP (s.data.toList.drop st1.pos) with
    | none => (⟨#[]⟩, wrongP st1 st1.pos 1)
    | some (o, n) => (bs o, { st1 with pos := st1.pos + n })) := by rw [← hst1]; exact rfl
  clear hst1 Hle
  have hrest : (s.extract st1.pos s.size).data.toList = s.data.toList.drop st1.pos := by rw [Lib.extract_data]; exact take_rest _ _ _ (by rw [Array.length_toList]; rfl)
  have hsz : (s.extract st1.pos s.size).size ≤ 140737488351232 := by rw [ByteArray.size_extract]; omega
  have Hu := Lib.hid (text_Unquote_any (s.extract st1.pos s.size))
  rw [hrest] at Hu
  have Hsz := Lib.hid hsz
  clear hrest hsz
  cases hu : unquoteP (s.data.toList.drop st1.pos) with
  | none =>
    rw [Hm.out, hu]
    rw [hu] at Hu
    clear hu Hm
    go_enter Tryd.func31, Tryd.ntmps31
    go_wp2_with (go_at_call 18; refine Hbl.out.mono ?_; rintro e w1 ⟨rfl, h1, k1⟩; have H1 := Lib.hid h1; have K1 := Lib.hid k1; clear h1 k1)
    refine start_ (n := 20) (S := fun w' => Rdr w' R C s st1 ∧ w'.cell? ⟨R, 1, none⟩ = some (.string s) ∧ w'.cell? ⟨R, 0, none⟩ = some (.pointer (some ⟨C, 0, none⟩))) (ds := [12]) #[false, false, false, false, false, false, false, false, false, false, false, false, false, false, false, false, false, false, false, false] (by kernel_rfl) rfl rfl ⟨H1.out.drew, H1.out.drew.c1, H1.out.drew.c0⟩ (fun hHeld => ?_)
    refine pure_ (i := 0) (N := some 9) (v := ?_) (a' := ?_) #[true, false, false, false, false, false, false, false, false, false, false, false, false, false, false, false, false, false, false, false] rfl rfl (by kernel_rfl) (fun _ _ _ h => h) (Or.inl ⟨by rfl, ?_⟩) ?_ ?_
    rotate_left
    · intro w'
      go_simp
      with_reducible rfl
    rotate_left
    · simp only [Act.put, List.setIfInBounds_toArray, List.set_cons_zero, List.set_cons_succ, i64_w, i32_w]
      rfl
    refine pure_ (i := 1) (N := some 10) (v := ?_) (a' := ?_) #[true, true, false, false, false, false, false, false, false, false, false, false, false, false, false, false, false, false, false, false] rfl rfl (by kernel_rfl) (fun _ _ _ h => h) (Or.inl ⟨by rfl, ?_⟩) ?_ ?_
    rotate_left
    · intro w'
      go_simp
      with_reducible rfl
    rotate_left
    · simp only [Act.put, List.setIfInBounds_toArray, List.set_cons_zero, List.set_cons_succ, i64_w, i32_w]
      rfl
    refine pure_ (i := 2) (N := some 11) (v := ?_) (a' := ?_) #[true, true, true, false, false, false, false, false, false, false, false, false, false, false, false, false, false, false, false, false] rfl rfl (by kernel_rfl) (fun _ _ _ h => h) (Or.inl ⟨by rfl, ?_⟩) ?_ ?_
    rotate_left
    · intro w'
      go_simp
      with_reducible rfl
    rotate_left
    · simp only [Act.put, List.setIfInBounds_toArray, List.set_cons_zero, List.set_cons_succ, i64_w, i32_w]
      rfl
    refine pure_ (i := 4) (N := some 13) (v := ?_) (a' := ?_) #[true, true, true, false, true, false, false, false, false, false, false, false, false, false, false, false, false, false, false, false] rfl rfl (by kernel_rfl) (fun _ _ _ h => h) (Or.inl ⟨by rfl, ?_⟩) ?_ ?_
    rotate_left
    · intro w'
      go_simp
      with_reducible rfl
    rotate_left
    · simp only [Act.put, List.setIfInBounds_toArray, List.set_cons_zero, List.set_cons_succ, i64_w, i32_w]
      rfl
    refine pure_ (i := 5) (N := some 14) (v := ?_) (a' := ?_) #[true, true, true, false, true, true, false, false, false, false, false, false, false, false, false, false, false, false, false, false] rfl rfl (by kernel_rfl) (fun _ _ _ h => h) (Or.inl ⟨by rfl, ?_⟩) ?_ ?_
    rotate_left
    · intro w'
      go_simp
      with_reducible rfl
    rotate_left
    · simp only [Act.put, List.setIfInBounds_toArray, List.set_cons_zero, List.set_cons_succ, i64_w, i32_w]
      rfl
    refine pure_ (i := 6) (N := some 15) (v := ?_) (a' := ?_) #[true, true, true, false, true, true, true, false, false, false, false, false, false, false, false, false, false, false, false, false] rfl rfl (by kernel_rfl) (fun _ _ _ h => h) (Or.inl ⟨by rfl, ?_⟩) ?_ ?_
    rotate_left
    · intro w'
      go_simp
      with_reducible rfl
    rotate_left
    · simp only [Act.put, List.setIfInBounds_toArray, List.set_cons_zero, List.set_cons_succ, i64_w, i32_w]
      rfl
    refine take_ (i := 3) (N := some 12) (v := ?_) (a' := ?_) #[true, true, true, true, true, true, true, false, false, false, false, false, false, false, false, false, false, false, false, false] rfl rfl (by kernel_rfl) (fun _ _ _ h => h) (Or.inl ⟨by rfl, ?_⟩) hHeld ?_ ?_
    rotate_left
    · rintro w' ⟨s0, s1, s2⟩
      go_simp
      with_reducible rfl
    rotate_left
    · simp only [Act.put, List.setIfInBounds_toArray, List.set_cons_zero, List.set_cons_succ, i64_w, i32_w]
      rfl
    refine take_ (i := 7) (N := some 16) (v := ?_) (a' := ?_) #[true, true, true, true, true, true, true, true, false, false, false, false, false, false, false, false, false, false, false, false] rfl rfl (by kernel_rfl) (fun _ _ _ h => h) (Or.inl ⟨by rfl, ?_⟩) hHeld ?_ ?_
    rotate_left
    · rintro w' ⟨s0, s1, s2⟩
      go_simp
      with_reducible rfl
    rotate_left
    · simp only [Act.put, List.setIfInBounds_toArray, List.set_cons_zero, List.set_cons_succ, i64_w, i32_w]
      rfl
    refine pure_ (i := 8) (N := some 17) (v := ?_) (a' := ?_) #[true, true, true, true, true, true, true, true, true, false, false, false, false, false, false, false, false, false, false, false] rfl rfl (by kernel_rfl) (fun _ _ _ h => h) (Or.inl ⟨by rfl, ?_⟩) ?_ ?_
    rotate_left
    · intro w'
      go_simp
      with_reducible rfl
    rotate_left
    · simp only [Act.put, List.setIfInBounds_toArray, List.set_cons_zero, List.set_cons_succ, i64_w, i32_w]
      rfl
    refine pure_ (i := 9) (N := some 18) (v := ?_) (a' := ?_) #[true, true, true, true, true, true, true, true, true, true, false, false, false, false, false, false, false, false, false, false] rfl rfl (by kernel_rfl) (fun _ _ _ h => h) (Or.inl ⟨by rfl, ?_⟩) ?_ ?_
    rotate_left
    · intro w'
      go_simp
      with_reducible rfl
    rotate_left
    · simp only [Act.put, List.setIfInBounds_toArray, List.set_cons_zero, List.set_cons_succ, i64_w, i32_w]
      rfl
    refine one_ (i := 10) (N := some 19) #[true, true, true, true, true, true, true, true, true, true, true, false, false, false, false, false, false, false, false, false] rfl rfl (by kernel_rfl) (by decide) (fun K hK => ?_)
    refine goes_ Tryd.func19 (by kernel_rfl) rfl #[.pointer (some ⟨C, 0, none⟩)] (by rfl) rfl rfl (by simp only [List.map_toArray, List.map_cons, List.map_nil]; rfl) ?_
    with_reducible refine (front_At C st1.pos _ hHeld.1.cur.cells.2.1).mono ?_
    rintro e w3 ⟨rfl, rfl⟩
    refine ⟨_, rfl, ?_⟩
    refine hK.out _ _ ⟨hHeld.1, hHeld.2.1, hHeld.2.2⟩ (fun hHeld => ?_)
    clear hK K
    refine norm_ (a' := ?_) ?_ ?_
    rotate_left
    · show Act.put _ (some 19) _ = _
      simp only [Act.put, List.setIfInBounds_toArray, List.set_cons_zero, List.set_cons_succ, i64_w, i32_w]
      rfl
    refine pure_ (i := 11) (N := some 20) (v := ?_) (a' := ?_) #[true, true, true, true, true, true, true, true, true, true, true, true, false, false, false, false, false, false, false, false] rfl rfl (by kernel_rfl) (fun _ _ _ h => h) (Or.inl ⟨by rfl, ?_⟩) ?_ ?_
    rotate_left
    · intro w'
      go_simp
      with_reducible rfl
    rotate_left
    · simp only [Act.put, List.setIfInBounds_toArray, List.set_cons_zero, List.set_cons_succ, i64_w, i32_w]
      rfl
    refine last_ (i := 12) (N := some 21) #[true, true, true, true, true, true, true, true, true, true, true, true, true, false, false, false, false, false, false, false] rfl rfl (by kernel_rfl) (by decide) (fun K hK => ?_)
    refine goes_ Tryd.func55 (by kernel_rfl) rfl #[.string (s.extract st1.pos s.size)] (by rfl) rfl rfl (by simp only [List.map_toArray, List.map_cons, List.map_nil]; rfl) ?_
    with_reducible refine (Hu.out _ Hsz.out).mono ?_
    rintro e w4 ⟨rfl, hb⟩
    refine ⟨_, rfl, ?_⟩
    refine hK.out _ _ ?_
    clear hK K
    refine norm_ (a' := ?_) ?_ ?_
    rotate_left
    · show Act.put _ (some 21) _ = _
      simp only [Act.put, List.setIfInBounds_toArray, List.set_cons_zero, List.set_cons_succ, i64_w, i32_w]
      rfl
    refine pure_ (i := 13) (N := some 8) (v := ?_) (a' := ?_) #[true, true, true, true, true, true, true, true, true, true, true, true, true, true, false, false, false, false, false, false] rfl rfl (by kernel_rfl) (fun _ _ _ h => h) (Or.inl ⟨by rfl, ?_⟩) ?_ ?_
    rotate_left
    · intro w'
      go_simp
      with_reducible rfl
    rotate_left
    · simp only [Act.put, List.setIfInBounds_toArray, List.set_cons_zero, List.set_cons_succ, i64_w, i32_w]
      rfl
    refine pure_ (i := 14) (N := some 22) (v := ?_) (a' := ?_) #[true, true, true, true, true, true, true, true, true, true, true, true, true, true, true, false, false, false, false, false] rfl rfl (by kernel_rfl) (fun _ _ _ h => h) (Or.inl ⟨by rfl, ?_⟩) ?_ ?_
    rotate_left
    · intro w'
      go_simp
      with_reducible rfl
    rotate_left
    · simp only [Act.put, List.setIfInBounds_toArray, List.set_cons_zero, List.set_cons_succ, i64_w, i32_w]
      rfl
    refine pure_ (i := 15) (N := some 23) (v := ?_) (a' := ?_) #[true, true, true, true, true, true, true, true, true, true, true, true, true, true, true, true, false, false, false, false] rfl rfl (by kernel_rfl) (fun _ _ _ h => h) (Or.inl ⟨by rfl, ?_⟩) ?_ ?_
    rotate_left
    · intro w'
      go_simp
      with_reducible rfl
    rotate_left
    · simp only [Act.put, List.setIfInBounds_toArray, List.set_cons_zero, List.set_cons_succ, i64_w, i32_w]
      rfl
    refine pure_ (i := 16) (N := some 24) (v := ?_) (a' := ?_) #[true, true, true, true, true, true, true, true, true, true, true, true, true, true, true, true, true, false, false, false] rfl rfl (by kernel_rfl) (fun _ _ _ h => h) (Or.inl ⟨by rfl, ?_⟩) ?_ ?_
    rotate_left
    · intro w'
      go_simp
      with_reducible rfl
    rotate_left
    · simp only [Act.put, List.setIfInBounds_toArray, List.set_cons_zero, List.set_cons_succ, i64_w, i32_w]
      rfl
    refine pure_ (i := 17) (N := some 3) (v := ?_) (a' := ?_) #[true, true, true, true, true, true, true, true, true, true, true, true, true, true, true, true, true, true, false, false] rfl rfl (by kernel_rfl) (fun _ _ _ h => h) (Or.inl ⟨by rfl, ?_⟩) ?_ ?_
    rotate_left
    · intro w'
      go_simp
      with_reducible rfl
    rotate_left
    · simp only [Act.put, List.setIfInBounds_toArray, List.set_cons_zero, List.set_cons_succ, i64_w, i32_w]
      rfl
    refine pure_ (i := 18) (N := some 4) (v := ?_) (a' := ?_) #[true, true, true, true, true, true, true, true, true, true, true, true, true, true, true, true, true, true, true, false] rfl rfl (by kernel_rfl) (fun _ _ _ h => h) (Or.inl ⟨by rfl, ?_⟩) ?_ ?_
    rotate_left
    · intro w'
      go_simp
      with_reducible rfl
    rotate_left
    · simp only [Act.put, List.setIfInBounds_toArray, List.set_cons_zero, List.set_cons_succ, i64_w, i32_w]
      rfl
    refine pure_ (i := 19) (N := some 5) (v := ?_) (a' := ?_) #[true, true, true, true, true, true, true, true, true, true, true, true, true, true, true, true, true, true, true, true] rfl rfl (by kernel_rfl) (fun _ _ _ h => h) (Or.inl ⟨by rfl, ?_⟩) ?_ ?_
    rotate_left
    · intro w'
      go_simp
      with_reducible rfl
    rotate_left
    · simp only [Act.put, List.setIfInBounds_toArray, List.set_cons_zero, List.set_cons_succ, i64_w, i32_w]
      rfl
    refine done_ (by kernel_rfl) ?_
    have H4 := Lib.hid (H1.out.drew.below hb)
    have K4 := Lib.hid (K1.out.drew.below hb)
    have g0 := H4.out.c0
    clear hb hHeld
    go_wp2_with (first
      | (go_at_call 19; go_must (refine (front_At C _ _ H4.out.cur.cells.2.1).mono ?_); rintro e w3 ⟨rfl, rfl⟩)
      | (go_at_call 20; go_must (refine (rd_wrong R C s st1 st1.pos 1 _ H4.out).mono ?_); rintro e w5 ⟨rfl, h5, k5⟩))
    go_ret
    exact ⟨rfl, h5, kp_then (kp_C K4.out) (kp_R k5)⟩
  | some r =>
    obtain ⟨o, n⟩ := r
    have hle := unquoteP_le _ _ _ hu
    have hlen : (s.data.toList.drop st1.pos).length = s.size - st1.pos := by rw [List.length_drop, Array.length_toList]; rfl
    rw [hlen] at hle
    rw [Hm.out, hu]
    rw [hu] at Hu
    have hn0 : (st1.pos : Int) ≤ (st1.pos : Int) + (n : Int) := by omega
    have hn1 : (st1.pos : Int) + (n : Int) ≤ (s.size : Int) := by omega
    have Hcut := Lib.hid (next_cut s st1.pos n (by omega))
    have Hcs := Lib.hid (extract_self s st1.pos (st1.pos + n) (by omega) (by omega))
    clear hu Hm hle hlen
    go_enter Tryd.func31, Tryd.ntmps31
    go_wp2_with (go_at_call 18; refine Hbl.out.mono ?_; rintro e w1 ⟨rfl, h1, k1⟩; have H1 := Lib.hid h1; have K1 := Lib.hid k1; clear h1 k1)
    refine start_ (n := 20) (S := fun w' => Rdr w' R C s st1 ∧ w'.cell? ⟨R, 1, none⟩ = some (.string s) ∧ w'.cell? ⟨R, 0, none⟩ = some (.pointer (some ⟨C, 0, none⟩))) (ds := [12]) #[false, false, false, false, false, false, false, false, false, false, false, false, false, false, false, false, false, false, false, false] (by kernel_rfl) rfl rfl ⟨H1.out.drew, H1.out.drew.c1, H1.out.drew.c0⟩ (fun hHeld => ?_)
    refine pure_ (i := 0) (N := some 9) (v := ?_) (a' := ?_) #[true, false, false, false, false, false, false, false, false, false, false, false, false, false, false, false, false, false, false, false] rfl rfl (by kernel_rfl) (fun _ _ _ h => h) (Or.inl ⟨by rfl, ?_⟩) ?_ ?_
    rotate_left
    · intro w'
      go_simp
      with_reducible rfl
    rotate_left
    · simp only [Act.put, List.setIfInBounds_toArray, List.set_cons_zero, List.set_cons_succ, i64_w, i32_w]
      rfl
    refine pure_ (i := 1) (N := some 10) (v := ?_) (a' := ?_) #[true, true, false, false, false, false, false, false, false, false, false, false, false, false, false, false, false, false, false, false] rfl rfl (by kernel_rfl) (fun _ _ _ h => h) (Or.inl ⟨by rfl, ?_⟩) ?_ ?_
    rotate_left
    · intro w'
      go_simp
      with_reducible rfl
    rotate_left
    · simp only [Act.put, List.setIfInBounds_toArray, List.set_cons_zero, List.set_cons_succ, i64_w, i32_w]
      rfl
    refine pure_ (i := 2) (N := some 11) (v := ?_) (a' := ?_) #[true, true, true, false, false, false, false, false, false, false, false, false, false, false, false, false, false, false, false, false] rfl rfl (by kernel_rfl) (fun _ _ _ h => h) (Or.inl ⟨by rfl, ?_⟩) ?_ ?_
    rotate_left
    · intro w'
      go_simp
      with_reducible rfl
    rotate_left
    · simp only [Act.put, List.setIfInBounds_toArray, List.set_cons_zero, List.set_cons_succ, i64_w, i32_w]
      rfl
    refine pure_ (i := 4) (N := some 13) (v := ?_) (a' := ?_) #[true, true, true, false, true, false, false, false, false, false, false, false, false, false, false, false, false, false, false, false] rfl rfl (by kernel_rfl) (fun _ _ _ h => h) (Or.inl ⟨by rfl, ?_⟩) ?_ ?_
    rotate_left
    · intro w'
      go_simp
      with_reducible rfl
    rotate_left
    · simp only [Act.put, List.setIfInBounds_toArray, List.set_cons_zero, List.set_cons_succ, i64_w, i32_w]
      rfl
    refine pure_ (i := 5) (N := some 14) (v := ?_) (a' := ?_) #[true, true, true, false, true, true, false, false, false, false, false, false, false, false, false, false, false, false, false, false] rfl rfl (by kernel_rfl) (fun _ _ _ h => h) (Or.inl ⟨by rfl, ?_⟩) ?_ ?_
    rotate_left
    · intro w'
      go_simp
      with_reducible rfl
    rotate_left
    · simp only [Act.put, List.setIfInBounds_toArray, List.set_cons_zero, List.set_cons_succ, i64_w, i32_w]
      rfl
    refine pure_ (i := 6) (N := some 15) (v := ?_) (a' := ?_) #[true, true, true, false, true, true, true, false, false, false, false, false, false, false, false, false, false, false, false, false] rfl rfl (by kernel_rfl) (fun _ _ _ h => h) (Or.inl ⟨by rfl, ?_⟩) ?_ ?_
    rotate_left
    · intro w'
      go_simp
      with_reducible rfl
    rotate_left
    · simp only [Act.put, List.setIfInBounds_toArray, List.set_cons_zero, List.set_cons_succ, i64_w, i32_w]
      rfl
    refine take_ (i := 3) (N := some 12) (v := ?_) (a' := ?_) #[true, true, true, true, true, true, true, false, false, false, false, false, false, false, false, false, false, false, false, false] rfl rfl (by kernel_rfl) (fun _ _ _ h => h) (Or.inl ⟨by rfl, ?_⟩) hHeld ?_ ?_
    rotate_left
    · rintro w' ⟨s0, s1, s2⟩
      go_simp
      with_reducible rfl
    rotate_left
    · simp only [Act.put, List.setIfInBounds_toArray, List.set_cons_zero, List.set_cons_succ, i64_w, i32_w]
      rfl
    refine take_ (i := 7) (N := some 16) (v := ?_) (a' := ?_) #[true, true, true, true, true, true, true, true, false, false, false, false, false, false, false, false, false, false, false, false] rfl rfl (by kernel_rfl) (fun _ _ _ h => h) (Or.inl ⟨by rfl, ?_⟩) hHeld ?_ ?_
    rotate_left
    · rintro w' ⟨s0, s1, s2⟩
      go_simp
      with_reducible rfl
    rotate_left
    · simp only [Act.put, List.setIfInBounds_toArray, List.set_cons_zero, List.set_cons_succ, i64_w, i32_w]
      rfl
    refine pure_ (i := 8) (N := some 17) (v := ?_) (a' := ?_) #[true, true, true, true, true, true, true, true, true, false, false, false, false, false, false, false, false, false, false, false] rfl rfl (by kernel_rfl) (fun _ _ _ h => h) (Or.inl ⟨by rfl, ?_⟩) ?_ ?_
    rotate_left
    · intro w'
      go_simp
      with_reducible rfl
    rotate_left
    · simp only [Act.put, List.setIfInBounds_toArray, List.set_cons_zero, List.set_cons_succ, i64_w, i32_w]
      rfl
    refine pure_ (i := 9) (N := some 18) (v := ?_) (a' := ?_) #[true, true, true, true, true, true, true, true, true, true, false, false, false, false, false, false, false, false, false, false] rfl rfl (by kernel_rfl) (fun _ _ _ h => h) (Or.inl ⟨by rfl, ?_⟩) ?_ ?_
    rotate_left
    · intro w'
      go_simp
      with_reducible rfl
    rotate_left
    · simp only [Act.put, List.setIfInBounds_toArray, List.set_cons_zero, List.set_cons_succ, i64_w, i32_w]
      rfl
    refine one_ (i := 10) (N := some 19) #[true, true, true, true, true, true, true, true, true, true, true, false, false, false, false, false, false, false, false, false] rfl rfl (by kernel_rfl) (by decide) (fun K hK => ?_)
    refine goes_ Tryd.func19 (by kernel_rfl) rfl #[.pointer (some ⟨C, 0, none⟩)] (by rfl) rfl rfl (by simp only [List.map_toArray, List.map_cons, List.map_nil]; rfl) ?_
    with_reducible refine (front_At C st1.pos _ hHeld.1.cur.cells.2.1).mono ?_
    rintro e w3 ⟨rfl, rfl⟩
    refine ⟨_, rfl, ?_⟩
    refine hK.out _ _ ⟨hHeld.1, hHeld.2.1, hHeld.2.2⟩ (fun hHeld => ?_)
    clear hK K
    refine norm_ (a' := ?_) ?_ ?_
    rotate_left
    · show Act.put _ (some 19) _ = _
      simp only [Act.put, List.setIfInBounds_toArray, List.set_cons_zero, List.set_cons_succ, i64_w, i32_w]
      rfl
    refine pure_ (i := 11) (N := some 20) (v := ?_) (a' := ?_) #[true, true, true, true, true, true, true, true, true, true, true, true, false, false, false, false, false, false, false, false] rfl rfl (by kernel_rfl) (fun _ _ _ h => h) (Or.inl ⟨by rfl, ?_⟩) ?_ ?_
    rotate_left
    · intro w'
      go_simp
      with_reducible rfl
    rotate_left
    · simp only [Act.put, List.setIfInBounds_toArray, List.set_cons_zero, List.set_cons_succ, i64_w, i32_w]
      rfl
    refine last_ (i := 12) (N := some 21) #[true, true, true, true, true, true, true, true, true, true, true, true, true, false, false, false, false, false, false, false] rfl rfl (by kernel_rfl) (by decide) (fun K hK => ?_)
    refine goes_ Tryd.func55 (by kernel_rfl) rfl #[.string (s.extract st1.pos s.size)] (by rfl) rfl rfl (by simp only [List.map_toArray, List.map_cons, List.map_nil]; rfl) ?_
    with_reducible refine (Hu.out _ Hsz.out).mono ?_
    rintro e w4 ⟨rfl, hb⟩
    refine ⟨_, rfl, ?_⟩
    refine hK.out _ _ ?_
    clear hK K
    refine norm_ (a' := ?_) ?_ ?_
    rotate_left
    · show Act.put _ (some 21) _ = _
      simp only [Act.put, List.setIfInBounds_toArray, List.set_cons_zero, List.set_cons_succ, i64_w, i32_w]
      rfl
    refine pure_ (i := 13) (N := some 8) (v := ?_) (a' := ?_) #[true, true, true, true, true, true, true, true, true, true, true, true, true, true, false, false, false, false, false, false] rfl rfl (by kernel_rfl) (fun _ _ _ h => h) (Or.inl ⟨by rfl, ?_⟩) ?_ ?_
    rotate_left
    · intro w'
      go_simp
      with_reducible rfl
    rotate_left
    · simp only [Act.put, List.setIfInBounds_toArray, List.set_cons_zero, List.set_cons_succ, i64_w, i32_w]
      rfl
    refine pure_ (i := 14) (N := some 22) (v := ?_) (a' := ?_) #[true, true, true, true, true, true, true, true, true, true, true, true, true, true, true, false, false, false, false, false] rfl rfl (by kernel_rfl) (fun _ _ _ h => h) (Or.inl ⟨by rfl, ?_⟩) ?_ ?_
    rotate_left
    · intro w'
      go_simp
      with_reducible rfl
    rotate_left
    · simp only [Act.put, List.setIfInBounds_toArray, List.set_cons_zero, List.set_cons_succ, i64_w, i32_w]
      rfl
    refine pure_ (i := 15) (N := some 23) (v := ?_) (a' := ?_) #[true, true, true, true, true, true, true, true, true, true, true, true, true, true, true, true, false, false, false, false] rfl rfl (by kernel_rfl) (fun _ _ _ h => h) (Or.inl ⟨by rfl, ?_⟩) ?_ ?_
    rotate_left
    · intro w'
      go_simp
      with_reducible rfl
    rotate_left
    · simp only [Act.put, List.setIfInBounds_toArray, List.set_cons_zero, List.set_cons_succ, i64_w, i32_w]
      rfl
    refine pure_ (i := 16) (N := some 24) (v := ?_) (a' := ?_) #[true, true, true, true, true, true, true, true, true, true, true, true, true, true, true, true, true, false, false, false] rfl rfl (by kernel_rfl) (fun _ _ _ h => h) (Or.inl ⟨by rfl, ?_⟩) ?_ ?_
    rotate_left
    · intro w'
      go_simp
      with_reducible rfl
    rotate_left
    · simp only [Act.put, List.setIfInBounds_toArray, List.set_cons_zero, List.set_cons_succ, i64_w, i32_w]
      rfl
    refine pure_ (i := 17) (N := some 3) (v := ?_) (a' := ?_) #[true, true, true, true, true, true, true, true, true, true, true, true, true, true, true, true, true, true, false, false] rfl rfl (by kernel_rfl) (fun _ _ _ h => h) (Or.inl ⟨by rfl, ?_⟩) ?_ ?_
    rotate_left
    · intro w'
      go_simp
      with_reducible rfl
    rotate_left
    · simp only [Act.put, List.setIfInBounds_toArray, List.set_cons_zero, List.set_cons_succ, i64_w, i32_w]
      rfl
    refine pure_ (i := 18) (N := some 4) (v := ?_) (a' := ?_) #[true, true, true, true, true, true, true, true, true, true, true, true, true, true, true, true, true, true, true, false] rfl rfl (by kernel_rfl) (fun _ _ _ h => h) (Or.inl ⟨by rfl, ?_⟩) ?_ ?_
    rotate_left
    · intro w'
      go_simp
      with_reducible rfl
    rotate_left
    · simp only [Act.put, List.setIfInBounds_toArray, List.set_cons_zero, List.set_cons_succ, i64_w, i32_w]
      rfl
    refine pure_ (i := 19) (N := some 5) (v := ?_) (a' := ?_) #[true, true, true, true, true, true, true, true, true, true, true, true, true, true, true, true, true, true, true, true] rfl rfl (by kernel_rfl) (fun _ _ _ h => h) (Or.inl ⟨by rfl, ?_⟩) ?_ ?_
    rotate_left
    · intro w'
      go_simp
      with_reducible rfl
    rotate_left
    · simp only [Act.put, List.setIfInBounds_toArray, List.set_cons_zero, List.set_cons_succ, i64_w, i32_w]
      rfl
    refine done_ (by kernel_rfl) ?_
    have H4 := Lib.hid (H1.out.drew.below hb)
    have K4 := Lib.hid (K1.out.drew.below hb)
    clear hb hHeld
    clear hHeld
    go_wp2_with fail
    have hwr : wrap64 ((st1.pos : Int) + (n : Int)) = (st1.pos : Int) + (n : Int) := by unfold wrap64; omega
    have htn : ((st1.pos : Int) + (n : Int)).toNat = st1.pos + n := by omega
    refine start_ (n := 26) (S := fun w' => Rdr w' R C s st1 ∧ w'.cell? ⟨R, 1, none⟩ = some (.string s) ∧ w'.cell? ⟨R, 0, none⟩ = some (.pointer (some ⟨C, 0, none⟩)) ∧ w' = w4.drew) (ds := [25]) #[false, false, false, false, false, false, false, false, false, false, false, false, false, false, false, false, false, false, false, false, false, false, false, false, false, false] (by kernel_rfl) rfl rfl ⟨H4.out.drew, H4.out.drew.c1, H4.out.drew.c0, rfl⟩ (fun hHeld => ?_)
    refine pure_ (i := 0) (N := some 36) (v := ?_) (a' := ?_) #[true, false, false, false, false, false, false, false, false, false, false, false, false, false, false, false, false, false, false, false, false, false, false, false, false, false] rfl rfl (by kernel_rfl) (fun _ _ _ h => h) (Or.inl ⟨by rfl, ?_⟩) ?_ ?_
    rotate_left
    · intro w'
      go_simp
      with_reducible rfl
    rotate_left
    · simp only [Act.put, List.setIfInBounds_toArray, List.set_cons_zero, List.set_cons_succ, i64_w, i32_w]
      rfl
    refine pure_ (i := 1) (N := some 37) (v := ?_) (a' := ?_) #[true, true, false, false, false, false, false, false, false, false, false, false, false, false, false, false, false, false, false, false, false, false, false, false, false, false] rfl rfl (by kernel_rfl) (fun _ _ _ h => h) (Or.inl ⟨by rfl, ?_⟩) ?_ ?_
    rotate_left
    · intro w'
      go_simp
      with_reducible rfl
    rotate_left
    · simp only [Act.put, List.setIfInBounds_toArray, List.set_cons_zero, List.set_cons_succ, i64_w, i32_w]
      rfl
    refine pure_ (i := 2) (N := some 38) (v := ?_) (a' := ?_) #[true, true, true, false, false, false, false, false, false, false, false, false, false, false, false, false, false, false, false, false, false, false, false, false, false, false] rfl rfl (by kernel_rfl) (fun _ _ _ h => h) (Or.inl ⟨by rfl, ?_⟩) ?_ ?_
    rotate_left
    · intro w'
      go_simp
      with_reducible rfl
    rotate_left
    · simp only [Act.put, List.setIfInBounds_toArray, List.set_cons_zero, List.set_cons_succ, i64_w, i32_w]
      rfl
    refine pure_ (i := 4) (N := some 40) (v := ?_) (a' := ?_) #[true, true, true, false, true, false, false, false, false, false, false, false, false, false, false, false, false, false, false, false, false, false, false, false, false, false] rfl rfl (by kernel_rfl) (fun _ _ _ h => h) (Or.inl ⟨by rfl, ?_⟩) ?_ ?_
    rotate_left
    · intro w'
      go_simp
      with_reducible rfl
    rotate_left
    · simp only [Act.put, List.setIfInBounds_toArray, List.set_cons_zero, List.set_cons_succ, i64_w, i32_w]
      rfl
    refine pure_ (i := 5) (N := some 41) (v := ?_) (a' := ?_) #[true, true, true, false, true, true, false, false, false, false, false, false, false, false, false, false, false, false, false, false, false, false, false, false, false, false] rfl rfl (by kernel_rfl) (fun _ _ _ h => h) (Or.inl ⟨by rfl, ?_⟩) ?_ ?_
    rotate_left
    · intro w'
      go_simp
      with_reducible rfl
    rotate_left
    · simp only [Act.put, List.setIfInBounds_toArray, List.set_cons_zero, List.set_cons_succ, i64_w, i32_w]
      rfl
    refine pure_ (i := 6) (N := some 42) (v := ?_) (a' := ?_) #[true, true, true, false, true, true, true, false, false, false, false, false, false, false, false, false, false, false, false, false, false, false, false, false, false, false] rfl rfl (by kernel_rfl) (fun _ _ _ h => h) (Or.inl ⟨by rfl, ?_⟩) ?_ ?_
    rotate_left
    · intro w'
      go_simp
      with_reducible rfl
    rotate_left
    · simp only [Act.put, List.setIfInBounds_toArray, List.set_cons_zero, List.set_cons_succ, i64_w, i32_w]
      rfl
    refine pure_ (i := 8) (N := some 44) (v := ?_) (a' := ?_) #[true, true, true, false, true, true, true, false, true, false, false, false, false, false, false, false, false, false, false, false, false, false, false, false, false, false] rfl rfl (by kernel_rfl) (fun _ _ _ h => h) (Or.inl ⟨by rfl, ?_⟩) ?_ ?_
    rotate_left
    · intro w'
      go_simp
      with_reducible rfl
    rotate_left
    · simp only [Act.put, List.setIfInBounds_toArray, List.set_cons_zero, List.set_cons_succ, i64_w, i32_w]
      rfl
    refine pure_ (i := 9) (N := some 45) (v := ?_) (a' := ?_) #[true, true, true, false, true, true, true, false, true, true, false, false, false, false, false, false, false, false, false, false, false, false, false, false, false, false] rfl rfl (by kernel_rfl) (fun _ _ _ h => h) (Or.inl ⟨by rfl, ?_⟩) ?_ ?_
    rotate_left
    · intro w'
      go_simp
      with_reducible rfl
    rotate_left
    · simp only [Act.put, List.setIfInBounds_toArray, List.set_cons_zero, List.set_cons_succ, i64_w, i32_w]
      rfl
    refine pure_ (i := 10) (N := some 46) (v := ?_) (a' := ?_) #[true, true, true, false, true, true, true, false, true, true, true, false, false, false, false, false, false, false, false, false, false, false, false, false, false, false] rfl rfl (by kernel_rfl) (fun _ _ _ h => h) (Or.inl ⟨by rfl, ?_⟩) ?_ ?_
    rotate_left
    · intro w'
      go_simp
      with_reducible rfl
    rotate_left
    · simp only [Act.put, List.setIfInBounds_toArray, List.set_cons_zero, List.set_cons_succ, i64_w, i32_w]
      rfl
    refine pure_ (i := 15) (N := some 51) (v := ?_) (a' := ?_) #[true, true, true, false, true, true, true, false, true, true, true, false, false, false, false, true, false, false, false, false, false, false, false, false, false, false] rfl rfl (by kernel_rfl) (fun _ _ _ h => h) (Or.inl ⟨by rfl, ?_⟩) ?_ ?_
    rotate_left
    · intro w'
      go_simp
      with_reducible rfl
    rotate_left
    · simp only [Act.put, List.setIfInBounds_toArray, List.set_cons_zero, List.set_cons_succ, i64_w, i32_w]
      rfl
    refine pure_ (i := 16) (N := some 52) (v := ?_) (a' := ?_) #[true, true, true, false, true, true, true, false, true, true, true, false, false, false, false, true, true, false, false, false, false, false, false, false, false, false] rfl rfl (by kernel_rfl) (fun _ _ _ h => h) (Or.inl ⟨by rfl, ?_⟩) ?_ ?_
    rotate_left
    · intro w'
      go_simp
      with_reducible rfl
    rotate_left
    · simp only [Act.put, List.setIfInBounds_toArray, List.set_cons_zero, List.set_cons_succ, i64_w, i32_w]
      rfl
    refine pure_ (i := 17) (N := some 53) (v := ?_) (a' := ?_) #[true, true, true, false, true, true, true, false, true, true, true, false, false, false, false, true, true, true, false, false, false, false, false, false, false, false] rfl rfl (by kernel_rfl) (fun _ _ _ h => h) (Or.inl ⟨by rfl, ?_⟩) ?_ ?_
    rotate_left
    · intro w'
      go_simp
      with_reducible rfl
    rotate_left
    · simp only [Act.put, List.setIfInBounds_toArray, List.set_cons_zero, List.set_cons_succ, i64_w, i32_w]
      rfl
    refine pure_ (i := 22) (N := some 58) (v := ?_) (a' := ?_) #[true, true, true, false, true, true, true, false, true, true, true, false, false, false, false, true, true, true, false, false, false, false, true, false, false, false] rfl rfl (by kernel_rfl) (fun _ _ _ h => h) (Or.inl ⟨by rfl, ?_⟩) ?_ ?_
    rotate_left
    · intro w'
      go_simp
      with_reducible rfl
    rotate_left
    · simp only [Act.put, List.setIfInBounds_toArray, List.set_cons_zero, List.set_cons_succ, i64_w, i32_w]
      rfl
    refine take_ (i := 3) (N := some 39) (v := ?_) (a' := ?_) #[true, true, true, true, true, true, true, false, true, true, true, false, false, false, false, true, true, true, false, false, false, false, true, false, false, false] rfl rfl (by kernel_rfl) (fun _ _ _ h => h) (Or.inl ⟨by rfl, ?_⟩) hHeld ?_ ?_
    rotate_left
    · rintro w' ⟨s0, s1, s2, s3⟩
      go_simp
      with_reducible rfl
    rotate_left
    · simp only [Act.put, List.setIfInBounds_toArray, List.set_cons_zero, List.set_cons_succ, i64_w, i32_w]
      rfl
    refine take_ (i := 7) (N := some 43) (v := ?_) (a' := ?_) #[true, true, true, true, true, true, true, true, true, true, true, false, false, false, false, true, true, true, false, false, false, false, true, false, false, false] rfl rfl (by kernel_rfl) (fun _ _ _ h => h) (Or.inl ⟨by rfl, ?_⟩) hHeld ?_ ?_
    rotate_left
    · rintro w' ⟨s0, s1, s2, s3⟩
      go_simp
      with_reducible rfl
    rotate_left
    · simp only [Act.put, List.setIfInBounds_toArray, List.set_cons_zero, List.set_cons_succ, i64_w, i32_w]
      rfl
    refine take_ (i := 11) (N := some 47) (v := ?_) (a' := ?_) #[true, true, true, true, true, true, true, true, true, true, true, true, false, false, false, true, true, true, false, false, false, false, true, false, false, false] rfl rfl (by kernel_rfl) (fun _ _ _ h => h) (Or.inl ⟨by rfl, ?_⟩) hHeld ?_ ?_
    rotate_left
    · rintro w' ⟨s0, s1, s2, s3⟩
      go_simp
      with_reducible rfl
    rotate_left
    · simp only [Act.put, List.setIfInBounds_toArray, List.set_cons_zero, List.set_cons_succ, i64_w, i32_w]
      rfl
    refine pure_ (i := 12) (N := some 48) (v := ?_) (a' := ?_) #[true, true, true, true, true, true, true, true, true, true, true, true, true, false, false, true, true, true, false, false, false, false, true, false, false, false] rfl rfl (by kernel_rfl) (fun _ _ _ h => h) (Or.inl ⟨by rfl, ?_⟩) ?_ ?_
    rotate_left
    · intro w'
      go_simp
      with_reducible rfl
    rotate_left
    · simp only [Act.put, List.setIfInBounds_toArray, List.set_cons_zero, List.set_cons_succ, i64_w, i32_w]
      rfl
    refine pure_ (i := 13) (N := some 49) (v := ?_) (a' := ?_) #[true, true, true, true, true, true, true, true, true, true, true, true, true, true, false, true, true, true, false, false, false, false, true, false, false, false] rfl rfl (by kernel_rfl) (fun _ _ _ h => h) (Or.inl ⟨by rfl, ?_⟩) ?_ ?_
    rotate_left
    · intro w'
      go_simp
      with_reducible rfl
    rotate_left
    · simp only [Act.put, List.setIfInBounds_toArray, List.set_cons_zero, List.set_cons_succ, i64_w, i32_w]
      rfl
    refine take_ (i := 18) (N := some 54) (v := ?_) (a' := ?_) #[true, true, true, true, true, true, true, true, true, true, true, true, true, true, false, true, true, true, true, false, false, false, true, false, false, false] rfl rfl (by kernel_rfl) (fun _ _ _ h => h) (Or.inl ⟨by rfl, ?_⟩) hHeld ?_ ?_
    rotate_left
    · rintro w' ⟨s0, s1, s2, s3⟩
      go_simp
      with_reducible rfl
    rotate_left
    · simp only [Act.put, List.setIfInBounds_toArray, List.set_cons_zero, List.set_cons_succ, i64_w, i32_w]
      rfl
    refine pure_ (i := 19) (N := some 55) (v := ?_) (a' := ?_) #[true, true, true, true, true, true, true, true, true, true, true, true, true, true, false, true, true, true, true, true, false, false, true, false, false, false] rfl rfl (by kernel_rfl) (fun _ _ _ h => h) (Or.inl ⟨by rfl, ?_⟩) ?_ ?_
    rotate_left
    · intro w'
      go_simp
      with_reducible rfl
    rotate_left
    · simp only [Act.put, List.setIfInBounds_toArray, List.set_cons_zero, List.set_cons_succ, i64_w, i32_w]
      rfl
    refine pure_ (i := 20) (N := some 56) (v := ?_) (a' := ?_) #[true, true, true, true, true, true, true, true, true, true, true, true, true, true, false, true, true, true, true, true, true, false, true, false, false, false] rfl rfl (by kernel_rfl) (fun _ _ _ h => h) (Or.inl ⟨by rfl, ?_⟩) ?_ ?_
    rotate_left
    · intro w'
      go_simp
      with_reducible rfl
    rotate_left
    · simp only [Act.put, List.setIfInBounds_toArray, List.set_cons_zero, List.set_cons_succ, i64_w, i32_w]
      rfl
    refine one_ (i := 14) (N := some 50) #[true, true, true, true, true, true, true, true, true, true, true, true, true, true, true, true, true, true, true, true, true, false, true, false, false, false] rfl rfl (by kernel_rfl) (by decide) (fun K hK => ?_)
    refine goes_ Tryd.func19 (by kernel_rfl) rfl #[.pointer (some ⟨C, 0, none⟩)] (by rfl) rfl rfl (by simp only [List.map_toArray, List.map_cons, List.map_nil]; rfl) ?_
    with_reducible refine (front_At C st1.pos _ hHeld.1.cur.cells.2.1).mono ?_
    rintro e w3 ⟨rfl, rfl⟩
    refine ⟨_, rfl, ?_⟩
    refine hK.out _ _ ⟨hHeld.1, hHeld.2.1, hHeld.2.2.1, rfl⟩ (fun hHeld => ?_)
    clear hK K
    refine norm_ (a' := ?_) ?_ ?_
    rotate_left
    · show Act.put _ (some 50) _ = _
      simp only [Act.put, List.setIfInBounds_toArray, List.set_cons_zero, List.set_cons_succ, i64_w, i32_w]
      rfl
    refine one_ (i := 21) (N := some 57) #[true, true, true, true, true, true, true, true, true, true, true, true, true, true, true, true, true, true, true, true, true, true, true, false, false, false] rfl rfl (by kernel_rfl) (by decide) (fun K hK => ?_)
    refine goes_ Tryd.func19 (by kernel_rfl) rfl #[.pointer (some ⟨C, 0, none⟩)] (by rfl) rfl rfl (by simp only [List.map_toArray, List.map_cons, List.map_nil]; rfl) ?_
    with_reducible refine (front_At C st1.pos _ hHeld.1.cur.cells.2.1).mono ?_
    rintro e w3 ⟨rfl, rfl⟩
    refine ⟨_, rfl, ?_⟩
    refine hK.out _ _ ⟨hHeld.1, hHeld.2.1, hHeld.2.2.1, rfl⟩ (fun hHeld => ?_)
    clear hK K
    refine norm_ (a' := ?_) ?_ ?_
    rotate_left
    · show Act.put _ (some 57) _ = _
      simp only [Act.put, List.setIfInBounds_toArray, List.set_cons_zero, List.set_cons_succ, i64_w, i32_w]
      rfl
    refine pure_ (i := 23) (N := some 59) (v := ?_) (a' := ?_) #[true, true, true, true, true, true, true, true, true, true, true, true, true, true, true, true, true, true, true, true, true, true, true, true, false, false] rfl rfl (by kernel_rfl) (fun _ _ _ h => h) (Or.inl ⟨by rfl, ?_⟩) ?_ ?_
    rotate_left
    · intro w'
      go_simp
      with_reducible rfl
    rotate_left
    · simp only [Act.put, List.setIfInBounds_toArray, List.set_cons_zero, List.set_cons_succ, i64_w, i32_w]
      rfl
    refine pure_ (i := 24) (N := some 60) (v := ?_) (a' := ?_) #[true, true, true, true, true, true, true, true, true, true, true, true, true, true, true, true, true, true, true, true, true, true, true, true, true, false] rfl rfl (by kernel_rfl) (fun _ _ _ h => h) (Or.inl ⟨by rfl, ?_⟩) ?_ ?_
    rotate_left
    · intro w'
      go_simp
      with_reducible rfl
    rotate_left
    · simp only [Act.put, List.setIfInBounds_toArray, List.set_cons_zero, List.set_cons_succ, i64_w, i32_w]
      rfl
    refine last_ (i := 25) (N := some 61) #[true, true, true, true, true, true, true, true, true, true, true, true, true, true, true, true, true, true, true, true, true, true, true, true, true, true] rfl rfl (by kernel_rfl) (by decide) (fun K hK => ?_)
    refine goes_ Tryd.func37 (by kernel_rfl) rfl #[.pointer (some ⟨C, 0, none⟩), .string (s.extract st1.pos (st1.pos + n))] (by rfl) rfl rfl (by simp only [List.map_toArray, List.map_cons, List.map_nil]; rfl) ?_
    with_reducible refine (cur_Take_yes C s _ _ _ H4.out.drew.cur (Int.ofNat_le.1 hpos) hs (by rw [Hcs.out]; omega) Hcut.out).mono ?_
    rintro e w5 ⟨rfl, h5, k5⟩
    refine ⟨_, rfl, ?_⟩
    refine hK.out _ _ ?_
    clear hK K
    refine norm_ (a' := ?_) ?_ ?_
    rotate_left
    · show Act.put _ (some 61) _ = _
      simp only [Act.put, List.setIfInBounds_toArray, List.set_cons_zero, List.set_cons_succ, i64_w, i32_w]
      rfl
    refine done_ (by kernel_rfl) ?_
    clear hwr htn
    rw [Hcs.out] at h5
    have H5 := Lib.hid (H4.out.drew.cursor h5 k5)
    have K5 := Lib.hid (K4.out.drew.then_ k5)
    clear h5 k5 hHeld
    clear hHeld
    go_wp2_with fail
    go_ret
    rw [show st1.pos + (st1.pos + n - st1.pos) = st1.pos + n from by omega] at H5
    exact ⟨rfl, H5.out, kp_C K5.out⟩

end Go.Proofs.YtnijnemkjnnolaaDoor.P
