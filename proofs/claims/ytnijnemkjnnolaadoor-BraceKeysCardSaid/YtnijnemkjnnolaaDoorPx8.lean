-- Written by a program of this session (wip/mp): the kit's print, with contracts proved by hand let in as printed ones.
import Derived.Test.YtnijnemkjnnolaaDoorPx0
import Derived.Test.YtnijnemkjnnolaaDoorPx2
import Derived.Test.YtnijnemkjnnolaaDoorPx3
import Derived.Test.YtnijnemkjnnolaaDoorPx4
import Derived.Test.YtnijnemkjnnolaaDoorPx5
import Derived.Test.YtnijnemkjnnolaaDoorPx7
namespace Go.Proofs.YtnijnemkjnnolaaDoor.P
open Go.RowKit Go.Proofs.YtnijnemkjnnolaaDoorW.PrintWords Go.Proofs.YtnijnemkjnnolaaDoorW.PrintLast Go.Proofs.YtnijnemkjnnolaaDoorW.PrintMore
attribute [local go_sem] max2_int min2_int max_two min_two max_three min_three max_four min_four   -- for this text's walks alone
set_option linter.unusedVariables false
set_option linter.unusedSimpArgs false

theorem value_all (s : ByteArray) (hs : s.size ≤ 1000000000) : ∀ d, ValC s d
  | 0 => fun R C st w h hp hdp hd9 => absurd hd9 (by omega)
  | d + 1 => value_any s hs d (value_all s hs d)
/-- Behind the value: what Parse answers. -/
def endP (s : ByteArray) (x : S27) (st3 : RSt) : S27 × (Int × Int) × Int :=
  if st3.e = 0 then (x, (0, 0), 0) else (z27, plc s st3.whr, st3.e)
def lastP (s : ByteArray) (st2 : RSt) : RSt := if st2.pos < s.size then wrongP st2 st2.pos 1 else st2
/-- What brace.Parse answers. -/
def parseP (s : ByteArray) : S27 × (Int × Int) × Int :=
  if 8000 < s.size then (z27, plc s 0, 2) else endP s (pV s 9 ⟨0, 0, 0, 0⟩).1 (lastP s (blanksP s (pV s 9 ⟨0, 0, 0, 0⟩).2))
def placeO : Obj := .cells #[.int .i64 0, .int .i64 0] 29 (0, 0)
/-- Inside Parse: the reader, the results' blocks. -/
structure PI (w0 w : World) (s : ByteArray) (st : RSt) : Prop where
  rd : Rdr w (w0.heap.size + 1 + 1 + 1) (w0.heap.size + 1 + 1) s st
  r1 : w.heap[w0.heap.size]? = some zeroO
  r2 : w.heap[w0.heap.size + 1]? = some placeO
  bel : Below w0.heap.size w0 w
def PW (w : World) (s : ByteArray) : World := (((w.alloc zeroO).alloc placeO).alloc (.cells #[.string s, .int .i64 0] 58)).alloc (.cells #[.pointer (some ⟨w.heap.size + 1 + 1, 0, none⟩), .string s, .int .i64 0, .int .i64 0, .int .i64 0] 51)
theorem PI.start (w : World) (s : ByteArray) : PI w (PW w s) s ⟨0, 0, 0, 0⟩ := by
  unfold PW
  have h1 := blk_new w zeroO
  have h2 := blk_new (w.alloc zeroO) placeO
  have h3 := blk_new ((w.alloc zeroO).alloc placeO) (.cells #[.string s, .int .i64 0] 58)
  have h4 := blk_new (((w.alloc zeroO).alloc placeO).alloc (.cells #[.string s, .int .i64 0] 58)) (.cells #[.pointer (some ⟨w.heap.size + 1 + 1, 0, none⟩), .string s, .int .i64 0, .int .i64 0, .int .i64 0] 51)
  simp only [World.size_alloc] at h1 h2 h3 h4
  exact ⟨⟨h4, blk_alloc h3 _, by omega⟩, blk_alloc (blk_alloc (blk_alloc h1 _) _) _, blk_alloc (blk_alloc h2 _) _, below_alloc (below_alloc (below_alloc (below_alloc (Below.refl _ _) _) _) _) _⟩
section
variable {w0 w w' : World} {s : ByteArray} {st st' : RSt}
theorem PI.move (h : PI w0 w s st) (k : Kp (RC (w0.heap.size + 1 + 1 + 1) (w0.heap.size + 1 + 1)) w w') (hr : Rdr w' (w0.heap.size + 1 + 1 + 1) (w0.heap.size + 1 + 1) s st') : PI w0 w' s st' :=
  ⟨hr, blk_kp h.r1 k (fun e => by rcases e with e | e <;> omega), blk_kp h.r2 k (fun e => by rcases e with e | e <;> omega), Kp.to_below h.bel k (fun b e => by rcases e with e | e <;> omega)⟩
theorem PI.below (h : PI w0 w s st) (hb : Below w.heap.size w w') : PI w0 w' s st :=
  ⟨h.rd.below hb, blk_below h.r1 hb, blk_below h.r2 hb, h.bel.trans (hb.mono h.bel.size)⟩
theorem PI.cells (h : PI w0 w s st) : w.cell? ⟨w0.heap.size, 0, none⟩ = some (.int .i64 0) ∧ w.cell? ⟨w0.heap.size, 1, none⟩ = some (.int .i64 0) ∧ w.cell? ⟨w0.heap.size, 2, none⟩ = some (.string ⟨#[]⟩) ∧ w.cell? ⟨w0.heap.size, 3, none⟩ = some (.slice none 0 0) ∧ w.cell? ⟨w0.heap.size, 4, none⟩ = some (.slice none 0 0) :=
  ⟨(blk_cell h.r1 0).trans rfl, (blk_cell h.r1 1).trans rfl, (blk_cell h.r1 2).trans rfl, (blk_cell h.r1 3).trans rfl, (blk_cell h.r1 4).trans rfl⟩
theorem PI.cells2 (h : PI w0 w s st) : w.cell? ⟨w0.heap.size + 1, 0, none⟩ = some (.int .i64 0) ∧ w.cell? ⟨w0.heap.size + 1, 1, none⟩ = some (.int .i64 0) :=
  ⟨(blk_cell h.r2 0).trans rfl, (blk_cell h.r2 1).trans rfl⟩
theorem PI.fz1 (h : PI w0 w s st) (i : Nat) : w.frozen? ⟨w0.heap.size, i, none⟩ = false := blk_frozen h.r1 i
theorem PI.fz2 (h : PI w0 w s st) (i : Nat) : w.frozen? ⟨w0.heap.size + 1, i, none⟩ = false := blk_frozen h.r2 i
end
def set2 (w : World) (V : Nat) (a b : Value) : World := (w.setCell ⟨V, 0, none⟩ a).setCell ⟨V, 1, none⟩ b
theorem set2_blk {w : World} {V : Nat} {t : TypeId} {x0 x1 : Value} (h : w.heap[V]? = some (.cells #[x0, x1] t (0, 0))) (a b : Value) : (set2 w V a b).heap[V]? = some (.cells #[a, b] t (0, 0)) := blk_put (blk_put h 0 a rfl) 1 b rfl
theorem set2_kp {S : Nat → Prop} {w0 w : World} {V : Nat} (h : Kp S w0 w) (hV : S V ∨ w0.heap.size ≤ V) (a b : Value) : Kp S w0 (set2 w V a b) :=
  Kp.setCell (Kp.setCell h (p := ⟨V, 0, none⟩) hV _) (p := ⟨V, 1, none⟩) hV _
/-- Both results are written. -/
theorem PI.both {w0 w : World} {s : ByteArray} {st : RSt} (h : PI w0 w s st) (a b c d e x y : Value) :
    (set2 (set5 w w0.heap.size a b c d e) (w0.heap.size + 1) x y).heap[w0.heap.size]? = some (.cells #[a, b, c, d, e] 27 (0, 0)) ∧ (set2 (set5 w w0.heap.size a b c d e) (w0.heap.size + 1) x y).heap[w0.heap.size + 1]? = some (.cells #[x, y] 29 (0, 0)) ∧ Kp (fun b => b = w0.heap.size ∨ b = w0.heap.size + 1) w (set2 (set5 w w0.heap.size a b c d e) (w0.heap.size + 1) x y) := by
  have k5 : Kp (fun b => b = w0.heap.size) w (set5 w w0.heap.size a b c d e) := set5_kp (S := fun b => b = w0.heap.size) (Kp.refl _ _) (.inl rfl) _ _ _ _ _
  have k2 : Kp (fun b => b = w0.heap.size + 1) (set5 w w0.heap.size a b c d e) (set2 (set5 w w0.heap.size a b c d e) (w0.heap.size + 1) x y) := set2_kp (S := fun b => b = w0.heap.size + 1) (Kp.refl _ _) (.inl rfl) _ _
  exact ⟨blk_kp (set5_blk h.r1 _ _ _ _ _) k2 (by simp), set2_blk (blk_kp h.r2 k5 (by simp)) _ _, (k5.mono (fun _ h => .inl h)).then_ (k2.mono (fun _ h => .inr h))⟩
/-- What Parse hands back. -/
def ParsePost (w : World) (r : S27 × (Int × Int) × Int) (e : Ending) (w' : World) : Prop :=
  ∃ v3 v4, e = .returned (.tuple #[.agg #[.int .i64 r.1.f0, .int .i64 r.1.f1, .string r.1.f2, v3, v4], .agg #[.int .i64 r.2.1.1, .int .i64 r.2.1.2], .int .i64 r.2.2]) ∧ Kd.string.R 9 w' w.heap.size (fun _ => True) v3 r.1.f3 ∧ k27.R 27 w' w.heap.size (fun k => some k ≠ v3.ownBlock) v4 r.1.f4 ∧ Below w.heap.size w w'
theorem PI.bad {w0 w : World} {s : ByteArray} {st : RSt} (h : PI w0 w s st) (p1 p2 e : Int) :
    ParsePost w0 (z27, (p1, p2), e) (.returned (.tuple #[.agg #[.int .i64 0, .int .i64 0, .string ⟨#[]⟩, .slice none 0 0, .slice none 0 0], .agg #[.int .i64 p1, .int .i64 p2], .int .i64 e])) (set2 (set5 w w0.heap.size (.int .i64 0) (.int .i64 0) (.string ⟨#[]⟩) (.slice none 0 0) (.slice none 0 0)) (w0.heap.size + 1) (.int .i64 p1) (.int .i64 p2)) :=
  ⟨_, _, rfl, Kd.R_nil _ _ _ _ _, Kd.R_nil _ _ _ _ _, Kp.to_below h.bel (h.both _ _ _ _ _ _ _).2.2 (fun b e => by rcases e with e | e <;> omega)⟩
/-- A value was read and laid. -/
structure PV (w0 w : World) (s : ByteArray) (st : RSt) (V : Nat) (x : S27) (v3 v4 : Value) : Prop where
  pi : PI w0 w s st
  blk : w.heap[V]? = some (.cells #[.int .i64 x.f0, .int .i64 x.f1, .string x.f2, v3, v4] 27 (0, 0))
  keys : Kd.string.R 9 w (w0.heap.size + 4) (fun _ => True) v3 x.f3
  vals : k27.R 27 w (w0.heap.size + 4) (fun k => some k ≠ v3.ownBlock) v4 x.f4
  far : w0.heap.size + 4 ≤ V
section
variable {w0 w w' : World} {s : ByteArray} {st st' : RSt} {V : Nat} {x : S27} {v3 v4 : Value}
theorem PV.move (h : PV w0 w s st V x v3 v4) (k : Kp (RC (w0.heap.size + 1 + 1 + 1) (w0.heap.size + 1 + 1)) w w') (hr : Rdr w' (w0.heap.size + 1 + 1 + 1) (w0.heap.size + 1 + 1) s st') : PV w0 w' s st' V x v3 v4 :=
  ⟨h.pi.move k hr, blk_kp h.blk k (fun e => by have := h.far; rcases e with e | e <;> omega),
    Kd.R_mono (Kd.R_step (Kd.R_bound h.keys) (fun b hb hlt => k.block b hlt (fun e => by have := hb.2.1; rcases e with e | e <;> omega))) (fun _ hk => hk.1),
    Kd.R_mono (Kd.R_step (Kd.R_bound h.vals) (fun b hb hlt => k.block b hlt (fun e => by have := hb.2.1; rcases e with e | e <;> omega))) (fun _ hk => hk.1), h.far⟩
theorem PV.cells (h : PV w0 w s st V x v3 v4) : w.cell? ⟨V, 0, none⟩ = some (.int .i64 x.f0) ∧ w.cell? ⟨V, 1, none⟩ = some (.int .i64 x.f1) ∧ w.cell? ⟨V, 2, none⟩ = some (.string x.f2) ∧ w.cell? ⟨V, 3, none⟩ = some v3 ∧ w.cell? ⟨V, 4, none⟩ = some v4 :=
  ⟨(blk_cell h.blk 0).trans rfl, (blk_cell h.blk 1).trans rfl, (blk_cell h.blk 2).trans rfl, (blk_cell h.blk 3).trans rfl, (blk_cell h.blk 4).trans rfl⟩
theorem PV.laid {w1 : World} (h0 : PI w0 (PW w0 s) s ⟨0, 0, 0, 0⟩) (k : Kp (RC (w0.heap.size + 1 + 1 + 1) (w0.heap.size + 1 + 1)) (PW w0 s) w1) (hr : Rdr w1 (w0.heap.size + 1 + 1 + 1) (w0.heap.size + 1 + 1) s st)
    (h3 : Kd.string.R 9 w1 (PW w0 s).heap.size (fun _ => True) v3 x.f3) (h4 : k27.R 27 w1 (PW w0 s).heap.size (fun k => some k ≠ v3.ownBlock) v4 x.f4) :
    PV w0 (w1.alloc (.cells #[.int .i64 x.f0, .int .i64 x.f1, .string x.f2, v3, v4] 27)) s st w1.heap.size x v3 v4 := by
  have hsz : (PW w0 s).heap.size = w0.heap.size + 4 := by simp [PW]
  rw [hsz] at h3 h4
  have hle := k.size
  rw [hsz] at hle
  exact ⟨(h0.move k hr).below (below_alloc (Below.refl _ _) _), blk_new w1 _, Kd.R_below h3 (below_alloc (Below.refl _ _) _), Kd.R_below h4 (below_alloc (Below.refl _ _) _), hle⟩
theorem PV.good (h : PV w0 w s st V x v3 v4) :
    ParsePost w0 (x, (0, 0), 0) (.returned (.tuple #[.agg #[.int .i64 x.f0, .int .i64 x.f1, .string x.f2, v3, v4], .agg #[.int .i64 0, .int .i64 0], .int .i64 0])) (set2 (set5 w w0.heap.size (.int .i64 x.f0) (.int .i64 x.f1) (.string x.f2) v3 v4) (w0.heap.size + 1) (.int .i64 0) (.int .i64 0)) := by
  have k := (h.pi.both (.int .i64 x.f0) (.int .i64 x.f1) (.string x.f2) v3 v4 (.int .i64 0) (.int .i64 0)).2.2
  refine ⟨v3, v4, rfl, ?_, ?_, Kp.to_below h.pi.bel k (fun b e => by rcases e with e | e <;> omega)⟩
  · exact Kd.R_lower (Kd.R_mono (Kd.R_step (Kd.R_bound h.keys) (fun b hb hlt => k.block b hlt (fun e => by have := hb.2.1; rcases e with e | e <;> omega))) (fun _ hk => hk.1)) (by omega)
  · exact Kd.R_lower (Kd.R_mono (Kd.R_step (Kd.R_bound h.vals) (fun b hb hlt => k.block b hlt (fun e => by have := hb.2.1; rcases e with e | e <;> omega))) (fun _ hk => hk.1)) (by omega)
end
theorem PI.drew {w0 w : World} {s : ByteArray} {st : RSt} (h : PI w0 w s st) : PI w0 w.drew s st := ⟨h.rd.drew, h.r1, h.r2, below_drew1 h.bel⟩
set_option maxHeartbeats 4000000 in
set_option maxRecDepth 100000 in
theorem parse_long (s : ByteArray) (hs : s.size ≤ 140737488351232) (h8 : 8000 < s.size) (w : World) :
    Calls Tryd.prog 8 #[.string s] w (ParsePost w (z27, plc s 0, 2)) := by
  have P0 := Lib.hid (PI.start w s)
  have hpl : text_Place.f s 0 = some (plc s 0) := if_pos hs
  have h8i : (s.size : Int) > 8000 := by omega
  have h8d : decide ((s.size : Int) > 8000) = true := decide_eq_true h8i
  generalize plc s 0 = pl at hpl ⊢
  obtain ⟨pl1, pl2⟩ := pl
  have Hpl := Lib.hid (fun w => text_Place.calls s 0 pl1 pl2 w hpl)
  clear hpl hs h8 h8i
  go_enter Tryd.func8, Tryd.ntmps8
  go_wp2_with (first
    | (go_at_call 15; go_must (refine (text_New_any _ _).mono ?_); rintro e w1 ⟨rfl, rfl⟩)
    | (go_at_call 16; go_must (refine (Hpl.out _).mono ?_); rintro e w2 ⟨rfl, hb⟩; have PZ := Lib.hid (P0.out.below hb); obtain ⟨x0, x1, x2, x3, x4⟩ := PZ.out.cells; obtain ⟨p0, p1⟩ := PZ.out.cells2; have y0 := PZ.out.fz1 0; have y1 := PZ.out.fz1 1; have y2 := PZ.out.fz1 2; have y3 := PZ.out.fz1 3; have y4 := PZ.out.fz1 4; have q0 := PZ.out.fz2 0; have q1 := PZ.out.fz2 1; clear hb))
  have BO := PZ.out.both (.int .i64 0) (.int .i64 0) (.string ⟨#[]⟩) (.slice none 0 0) (.slice none 0 0) (.int .i64 pl1) (.int .i64 pl2)
  refine bodyPost_ret (results_list (rs := [.cell 2 27, .cell 3 29, .tmp 4]) rfl (by simp) (.cell _ 27 _ (0, 0) _ rfl BO.1 Tryd.underlying27 rfl (by kernel_rfl) (.cell _ 29 _ (0, 0) _ rfl BO.2.1 Tryd.underlying29 rfl (by kernel_rfl) (.tmp .nil)))) rfl ?_
  exact PZ.out.bad pl1 pl2 2
set_option maxHeartbeats 4000000 in
set_option maxRecDepth 100000 in
theorem parse_fits (s : ByteArray) (h8 : s.size ≤ 8000) (w : World) :
    Calls Tryd.prog 8 #[.string s] w (ParsePost w (endP s (pV s 9 ⟨0, 0, 0, 0⟩).1 (lastP s (blanksP s (pV s 9 ⟨0, 0, 0, 0⟩).2)))) := by
  have P0 := Lib.hid (PI.start w s)
  have hs2 : s.size ≤ 140737488351232 := by omega
  have h8i : ¬ (s.size : Int) > 8000 := by omega
  have h8d : decide ((s.size : Int) > 8000) = false := decide_eq_false h8i
  have HV := Lib.hid (value_all s (by omega) 9 (w.heap.size + 1 + 1 + 1) (w.heap.size + 1 + 1) ⟨0, 0, 0, 0⟩ (PW w s) P0.out.rd (Nat.zero_le _) (Nat.zero_le _) (Nat.le_refl _))
  have g1 := goes_pV (s := s) 9 ⟨0, 0, 0, 0⟩ (Nat.zero_le _)
  generalize pV s 9 ⟨0, 0, 0, 0⟩ = r at HV g1 ⊢
  obtain ⟨x, st1⟩ := r
  simp only at HV g1 ⊢
  have HB := Lib.hid (fun W h => rd_blanks (w.heap.size + 1 + 1 + 1) (w.heap.size + 1 + 1) s st1 W h g1.hi hs2)
  have g2 := goes_blanks g1.hi
  generalize blanksP s st1 = st2 at HB g2 ⊢
  clear h8i g1 h8
  unfold lastP
  by_cases hlt : st2.pos < s.size
  · rw [if_pos hlt]
    have l1 : ((st2.pos : Int) < (s.size : Int)) := by omega
    have l2 : decide (st2.pos < s.size) = true := decide_eq_true hlt
    have hz : (wrongP st2 st2.pos 1).e ≠ 0 := by unfold wrongP; split <;> simp_all
    have HW := Lib.hid (fun W h => rd_wrong1 (w.heap.size + 1 + 1 + 1) (w.heap.size + 1 + 1) s st2 st2.pos W h)
    generalize wrongP st2 st2.pos 1 = st3 at hz HW ⊢
    unfold endP
    rw [if_neg hz]
    have e1 : ((st3.e : Int) != 0) = true := by rw [bne_iff_ne]; omega
    have hpl : text_Place.f s st3.whr = some (plc s st3.whr) := if_pos hs2
    generalize plc s st3.whr = pl at hpl ⊢
    obtain ⟨pl1, pl2⟩ := pl
    have Hpl := Lib.hid (fun w => text_Place.calls s st3.whr pl1 pl2 w hpl)
    clear hpl hs2 hz g2 hlt
    go_enter Tryd.func8, Tryd.ntmps8
    go_wp2_with (first
      | (go_at_call 15; go_must (refine (text_New_any _ _).mono ?_); rintro e w1 ⟨rfl, rfl⟩)
      | (go_at_call 17; go_must (refine HV.out.mono ?_); rintro e w1 ⟨v3, v4, rfl, h3, h4, h1, k1⟩; obtain ⟨A3, c3, hv3⟩ := own_slice h3.2.choose_spec.1; obtain ⟨A4, c4, hv4⟩ := own_slice h4.2.choose_spec.1; subst hv3; subst hv4; have V1 := Lib.hid (PV.laid P0.out k1 h1 h3 h4); clear h3 h4 h1 k1)
      | (go_at_call 18; go_must (refine (HB.out _ V1.out.pi.rd).mono ?_); rintro e w2 ⟨rfl, h2, k2⟩; have V2 := Lib.hid (V1.out.move (kp_C k2) h2); have r0 := h2.c0; have r4 := h2.c4; have cu := h2.cur.cells.2.1; clear h2 k2)
      | (go_at_call 19; go_must (refine (front_At _ _ _ cu).mono ?_); rintro e w5 ⟨rfl, rfl⟩)
      | (go_at_call 20; go_must (refine (HW.out _ V2.out.pi.rd).mono ?_); rintro e w4 ⟨rfl, h4, k4⟩; have V4 := Lib.hid (V2.out.move (kp_R k4) h4); have t0 := h4.c0; have t4 := h4.c4; clear h4 k4))
    refine start_ (n := 14) (S := fun w' => Rdr w' (w.heap.size + 1 + 1 + 1) (w.heap.size + 1 + 1) s st3 ∧ w'.cell? ⟨w.heap.size + 1 + 1 + 1, 3, none⟩ = some (.int .i64 st3.whr) ∧ w'.cell? ⟨w.heap.size + 1 + 1 + 1, 4, none⟩ = some (.int .i64 st3.e)) (ds := []) #[false, false, false, false, false, false, false, false, false, false, false, false, false, false] (by kernel_rfl) rfl rfl ⟨V4.out.pi.rd.drew, V4.out.pi.rd.drew.c3, V4.out.pi.rd.drew.c4⟩ (fun hHeld => ?_)
    refine pure_ (i := 0) (N := some 46) (v := ?_) (a' := ?_) #[true, false, false, false, false, false, false, false, false, false, false, false, false, false] rfl rfl (by kernel_rfl) (fun _ _ _ h => h) (Or.inl ⟨by rfl, ?_⟩) ?_ ?_
    rotate_left
    · intro w'
      go_simp
      with_reducible rfl
    rotate_left
    · simp only [Act.put, List.setIfInBounds_toArray, List.set_cons_zero, List.set_cons_succ, i64_w, i32_w]
      rfl
    refine pure_ (i := 1) (N := some 47) (v := ?_) (a' := ?_) #[true, true, false, false, false, false, false, false, false, false, false, false, false, false] rfl rfl (by kernel_rfl) (fun _ _ _ h => h) (Or.inl ⟨by rfl, ?_⟩) ?_ ?_
    rotate_left
    · intro w'
      go_simp
      with_reducible rfl
    rotate_left
    · simp only [Act.put, List.setIfInBounds_toArray, List.set_cons_zero, List.set_cons_succ, i64_w, i32_w]
      rfl
    refine pure_ (i := 2) (N := some 48) (v := ?_) (a' := ?_) #[true, true, true, false, false, false, false, false, false, false, false, false, false, false] rfl rfl (by kernel_rfl) (fun _ _ _ h => h) (Or.inl ⟨by rfl, ?_⟩) ?_ ?_
    rotate_left
    · intro w'
      go_simp
      with_reducible rfl
    rotate_left
    · simp only [Act.put, List.setIfInBounds_toArray, List.set_cons_zero, List.set_cons_succ, i64_w, i32_w]
      rfl
    refine pure_ (i := 3) (N := some 49) (v := ?_) (a' := ?_) #[true, true, true, true, false, false, false, false, false, false, false, false, false, false] rfl rfl (by kernel_rfl) (fun _ _ _ h => h) (Or.inl ⟨by rfl, ?_⟩) ?_ ?_
    rotate_left
    · intro w'
      go_simp
      with_reducible rfl
    rotate_left
    · simp only [Act.put, List.setIfInBounds_toArray, List.set_cons_zero, List.set_cons_succ, i64_w, i32_w]
      rfl
    refine pure_ (i := 4) (N := some 50) (v := ?_) (a' := ?_) #[true, true, true, true, true, false, false, false, false, false, false, false, false, false] rfl rfl (by kernel_rfl) (fun _ _ _ h => h) (Or.inl ⟨by rfl, ?_⟩) ?_ ?_
    rotate_left
    · intro w'
      go_simp
      with_reducible rfl
    rotate_left
    · simp only [Act.put, List.setIfInBounds_toArray, List.set_cons_zero, List.set_cons_succ, i64_w, i32_w]
      rfl
    refine pure_ (i := 7) (N := some 53) (v := ?_) (a' := ?_) #[true, true, true, true, true, false, false, true, false, false, false, false, false, false] rfl rfl (by kernel_rfl) (fun _ _ _ h => h) (Or.inl ⟨by rfl, ?_⟩) ?_ ?_
    rotate_left
    · intro w'
      go_simp
      with_reducible rfl
    rotate_left
    · simp only [Act.put, List.setIfInBounds_toArray, List.set_cons_zero, List.set_cons_succ, i64_w, i32_w]
      rfl
    refine pure_ (i := 8) (N := some 54) (v := ?_) (a' := ?_) #[true, true, true, true, true, false, false, true, true, false, false, false, false, false] rfl rfl (by kernel_rfl) (fun _ _ _ h => h) (Or.inl ⟨by rfl, ?_⟩) ?_ ?_
    rotate_left
    · intro w'
      go_simp
      with_reducible rfl
    rotate_left
    · simp only [Act.put, List.setIfInBounds_toArray, List.set_cons_zero, List.set_cons_succ, i64_w, i32_w]
      rfl
    refine pure_ (i := 9) (N := some 55) (v := ?_) (a' := ?_) #[true, true, true, true, true, false, false, true, true, true, false, false, false, false] rfl rfl (by kernel_rfl) (fun _ _ _ h => h) (Or.inl ⟨by rfl, ?_⟩) ?_ ?_
    rotate_left
    · intro w'
      go_simp
      with_reducible rfl
    rotate_left
    · simp only [Act.put, List.setIfInBounds_toArray, List.set_cons_zero, List.set_cons_succ, i64_w, i32_w]
      rfl
    refine take_ (i := 5) (N := some 51) (v := ?_) (a' := ?_) #[true, true, true, true, true, true, false, true, true, true, false, false, false, false] rfl rfl (by kernel_rfl) (fun _ _ _ h => h) (Or.inl ⟨by rfl, ?_⟩) hHeld ?_ ?_
    rotate_left
    · rintro w' ⟨s0, s1, s2⟩
      go_simp
      with_reducible rfl
    rotate_left
    · simp only [Act.put, List.setIfInBounds_toArray, List.set_cons_zero, List.set_cons_succ, i64_w, i32_w]
      rfl
    refine take_ (i := 10) (N := some 56) (v := ?_) (a' := ?_) #[true, true, true, true, true, true, false, true, true, true, true, false, false, false] rfl rfl (by kernel_rfl) (fun _ _ _ h => h) (Or.inl ⟨by rfl, ?_⟩) hHeld ?_ ?_
    rotate_left
    · rintro w' ⟨s0, s1, s2⟩
      go_simp
      with_reducible rfl
    rotate_left
    · simp only [Act.put, List.setIfInBounds_toArray, List.set_cons_zero, List.set_cons_succ, i64_w, i32_w]
      rfl
    refine one_ (i := 6) (N := some 52) #[true, true, true, true, true, true, true, true, true, true, true, false, false, false] rfl rfl (by kernel_rfl) (by decide) (fun K hK => ?_)
    refine goes_ Tryd.func16 (by kernel_rfl) rfl #[.string s, .int .i64 st3.whr] (by rfl) rfl rfl (by simp only [List.map_toArray, List.map_cons, List.map_nil]; rfl) ?_
    with_reducible refine (Hpl.out _).mono ?_
    rintro e w5 ⟨rfl, hb⟩
    refine ⟨_, rfl, ?_⟩
    have PZ := Lib.hid (V4.out.pi.drew.below hb)
    obtain ⟨x0, x1, x2, x3, x4⟩ := PZ.out.cells; obtain ⟨p0, p1⟩ := PZ.out.cells2; have y0 := PZ.out.fz1 0; have y1 := PZ.out.fz1 1; have y2 := PZ.out.fz1 2; have y3 := PZ.out.fz1 3; have y4 := PZ.out.fz1 4; have q0 := PZ.out.fz2 0; have q1 := PZ.out.fz2 1
    refine hK.out _ _ ⟨PZ.out.rd, PZ.out.rd.c3, PZ.out.rd.c4⟩ (fun hHeld => ?_)
    clear hK K
    refine norm_ (a' := ?_) ?_ ?_
    rotate_left
    · show Act.put _ (some 52) _ = _
      simp only [Act.put, List.setIfInBounds_toArray, List.set_cons_zero, List.set_cons_succ, i64_w, i32_w]
      rfl
    refine one_ (i := 11) (N := none) #[true, true, true, true, true, true, true, true, true, true, true, true, false, false] rfl rfl (by kernel_rfl) (by decide) (fun K hK => ?_)
    refine skip_ (w1 := ?_) (by rfl) rfl ?_ ?_
    rotate_left
    · go_simp
      rfl
    have PY := Lib.hid (set5_rd PZ.out.rd (V := w.heap.size) (by omega) (by omega) (.int .i64 0) (.int .i64 0) (.string ⟨#[]⟩) (.slice none 0 0) (.slice none 0 0))
    refine hK.out _ _ ⟨PY.out, PY.out.c3, PY.out.c4⟩ (fun hHeld => ?_)
    clear hK K
    refine one_ (i := 12) (N := none) #[true, true, true, true, true, true, true, true, true, true, true, true, true, false] rfl rfl (by kernel_rfl) (by decide) (fun K hK => ?_)
    refine skip_ (w1 := ?_) (by rfl) rfl ?_ ?_
    rotate_left
    · go_simp
      rfl
    have PX := Lib.hid (PY.out.kp (set2_kp (S := fun b => b = w.heap.size + 1) (V := w.heap.size + 1) (Kp.refl _ _) (.inl rfl) (.int .i64 pl1) (.int .i64 pl2)) (by omega) (by omega))
    refine hK.out _ _ ⟨PX.out, PX.out.c3, PX.out.c4⟩ (fun hHeld => ?_)
    clear hK K
    refine pure_ (i := 13) (N := some 4) (v := ?_) (a' := ?_) #[true, true, true, true, true, true, true, true, true, true, true, true, true, true] rfl rfl (by kernel_rfl) (fun _ _ _ h => h) (Or.inl ⟨by rfl, ?_⟩) ?_ ?_
    rotate_left
    · intro w'
      go_simp
      with_reducible rfl
    rotate_left
    · simp only [Act.put, List.setIfInBounds_toArray, List.set_cons_zero, List.set_cons_succ, i64_w, i32_w]
      rfl
    refine done_ (by kernel_rfl) ?_
    clear hHeld
    go_wp2
    have BO := PZ.out.both (.int .i64 0) (.int .i64 0) (.string ⟨#[]⟩) (.slice none 0 0) (.slice none 0 0) (.int .i64 pl1) (.int .i64 pl2)
    refine bodyPost_ret (results_list (rs := [.cell 2 27, .cell 3 29, .tmp 4]) rfl (by simp) (.cell _ 27 _ (0, 0) _ rfl BO.1 Tryd.underlying27 rfl (by kernel_rfl) (.cell _ 29 _ (0, 0) _ rfl BO.2.1 Tryd.underlying29 rfl (by kernel_rfl) (.tmp .nil)))) rfl ?_
    exact PZ.out.bad pl1 pl2 _
  · rw [if_neg hlt]
    have l1 : ¬ ((st2.pos : Int) < (s.size : Int)) := by omega
    have l2 : decide (st2.pos < s.size) = false := decide_eq_false hlt
    unfold endP
    by_cases hz : st2.e = 0
    · rw [if_pos hz]
      have e1 : ((st2.e : Int) != 0) = false := by rw [hz]; rfl
      clear hz hlt g2 hs2
      go_enter Tryd.func8, Tryd.ntmps8
      go_wp2_with (first
        | (go_at_call 15; go_must (refine (text_New_any _ _).mono ?_); rintro e w1 ⟨rfl, rfl⟩)
        | (go_at_call 17; go_must (refine HV.out.mono ?_); rintro e w1 ⟨v3, v4, rfl, h3, h4, h1, k1⟩; obtain ⟨A3, c3, hv3⟩ := own_slice h3.2.choose_spec.1; obtain ⟨A4, c4, hv4⟩ := own_slice h4.2.choose_spec.1; subst hv3; subst hv4; have V1 := Lib.hid (PV.laid P0.out k1 h1 h3 h4); clear h3 h4 h1 k1)
        | (go_at_call 18; go_must (refine (HB.out _ V1.out.pi.rd).mono ?_); rintro e w2 ⟨rfl, h2, k2⟩; have V2 := Lib.hid (V1.out.move (kp_C k2) h2); have r0 := h2.c0; have r4 := h2.c4; have cu := h2.cur.cells.2.1; have PZ := Lib.hid V2.out.pi; obtain ⟨z0, z1, z2, z3, z4⟩ := V2.out.cells; obtain ⟨x0, x1, x2, x3, x4⟩ := PZ.out.cells; obtain ⟨p0, p1⟩ := PZ.out.cells2; have y0 := PZ.out.fz1 0; have y1 := PZ.out.fz1 1; have y2 := PZ.out.fz1 2; have y3 := PZ.out.fz1 3; have y4 := PZ.out.fz1 4; have q0 := PZ.out.fz2 0; have q1 := PZ.out.fz2 1; clear h2 k2)
        | (go_at_call 19; go_must (refine (front_At _ _ _ cu).mono ?_); rintro e w5 ⟨rfl, rfl⟩))
      have BO := PZ.out.both (.int .i64 x.f0) (.int .i64 x.f1) (.string x.f2) (.slice A3 x.f3.length c3) (.slice A4 x.f4.length c4) (.int .i64 0) (.int .i64 0)
      refine bodyPost_ret (results_list (rs := [.cell 2 27, .cell 3 29, .tmp 4]) rfl (by simp) (.cell _ 27 _ (0, 0) _ rfl BO.1 Tryd.underlying27 rfl (by kernel_rfl) (.cell _ 29 _ (0, 0) _ rfl BO.2.1 Tryd.underlying29 rfl (by kernel_rfl) (.tmp .nil)))) rfl ?_
      exact V2.out.good
    · rw [if_neg hz]
      have e1 : ((st2.e : Int) != 0) = true := by rw [bne_iff_ne]; omega
      have hpl : text_Place.f s st2.whr = some (plc s st2.whr) := if_pos hs2
      generalize plc s st2.whr = pl at hpl ⊢
      obtain ⟨pl1, pl2⟩ := pl
      have Hpl := Lib.hid (fun w => text_Place.calls s st2.whr pl1 pl2 w hpl)
      clear hpl hs2 hz g2 hlt
      go_enter Tryd.func8, Tryd.ntmps8
      go_wp2_with (first
        | (go_at_call 15; go_must (refine (text_New_any _ _).mono ?_); rintro e w1 ⟨rfl, rfl⟩)
        | (go_at_call 17; go_must (refine HV.out.mono ?_); rintro e w1 ⟨v3, v4, rfl, h3, h4, h1, k1⟩; obtain ⟨A3, c3, hv3⟩ := own_slice h3.2.choose_spec.1; obtain ⟨A4, c4, hv4⟩ := own_slice h4.2.choose_spec.1; subst hv3; subst hv4; have V1 := Lib.hid (PV.laid P0.out k1 h1 h3 h4); clear h3 h4 h1 k1)
        | (go_at_call 18; go_must (refine (HB.out _ V1.out.pi.rd).mono ?_); rintro e w2 ⟨rfl, h2, k2⟩; have V2 := Lib.hid (V1.out.move (kp_C k2) h2); have r0 := h2.c0; have r4 := h2.c4; have cu := h2.cur.cells.2.1; clear h2 k2)
        | (go_at_call 19; go_must (refine (front_At _ _ _ cu).mono ?_); rintro e w5 ⟨rfl, rfl⟩))
      refine start_ (n := 14) (S := fun w' => Rdr w' (w.heap.size + 1 + 1 + 1) (w.heap.size + 1 + 1) s st2 ∧ w'.cell? ⟨w.heap.size + 1 + 1 + 1, 3, none⟩ = some (.int .i64 st2.whr) ∧ w'.cell? ⟨w.heap.size + 1 + 1 + 1, 4, none⟩ = some (.int .i64 st2.e)) (ds := []) #[false, false, false, false, false, false, false, false, false, false, false, false, false, false] (by kernel_rfl) rfl rfl ⟨V2.out.pi.rd.drew, V2.out.pi.rd.drew.c3, V2.out.pi.rd.drew.c4⟩ (fun hHeld => ?_)
      refine pure_ (i := 0) (N := some 46) (v := ?_) (a' := ?_) #[true, false, false, false, false, false, false, false, false, false, false, false, false, false] rfl rfl (by kernel_rfl) (fun _ _ _ h => h) (Or.inl ⟨by rfl, ?_⟩) ?_ ?_
      rotate_left
      · intro w'
        go_simp
        with_reducible rfl
      rotate_left
      · simp only [Act.put, List.setIfInBounds_toArray, List.set_cons_zero, List.set_cons_succ, i64_w, i32_w]
        rfl
      refine pure_ (i := 1) (N := some 47) (v := ?_) (a' := ?_) #[true, true, false, false, false, false, false, false, false, false, false, false, false, false] rfl rfl (by kernel_rfl) (fun _ _ _ h => h) (Or.inl ⟨by rfl, ?_⟩) ?_ ?_
      rotate_left
      · intro w'
        go_simp
        with_reducible rfl
      rotate_left
      · simp only [Act.put, List.setIfInBounds_toArray, List.set_cons_zero, List.set_cons_succ, i64_w, i32_w]
        rfl
      refine pure_ (i := 2) (N := some 48) (v := ?_) (a' := ?_) #[true, true, true, false, false, false, false, false, false, false, false, false, false, false] rfl rfl (by kernel_rfl) (fun _ _ _ h => h) (Or.inl ⟨by rfl, ?_⟩) ?_ ?_
      rotate_left
      · intro w'
        go_simp
        with_reducible rfl
      rotate_left
      · simp only [Act.put, List.setIfInBounds_toArray, List.set_cons_zero, List.set_cons_succ, i64_w, i32_w]
        rfl
      refine pure_ (i := 3) (N := some 49) (v := ?_) (a' := ?_) #[true, true, true, true, false, false, false, false, false, false, false, false, false, false] rfl rfl (by kernel_rfl) (fun _ _ _ h => h) (Or.inl ⟨by rfl, ?_⟩) ?_ ?_
      rotate_left
      · intro w'
        go_simp
        with_reducible rfl
      rotate_left
      · simp only [Act.put, List.setIfInBounds_toArray, List.set_cons_zero, List.set_cons_succ, i64_w, i32_w]
        rfl
      refine pure_ (i := 4) (N := some 50) (v := ?_) (a' := ?_) #[true, true, true, true, true, false, false, false, false, false, false, false, false, false] rfl rfl (by kernel_rfl) (fun _ _ _ h => h) (Or.inl ⟨by rfl, ?_⟩) ?_ ?_
      rotate_left
      · intro w'
        go_simp
        with_reducible rfl
      rotate_left
      · simp only [Act.put, List.setIfInBounds_toArray, List.set_cons_zero, List.set_cons_succ, i64_w, i32_w]
        rfl
      refine pure_ (i := 7) (N := some 53) (v := ?_) (a' := ?_) #[true, true, true, true, true, false, false, true, false, false, false, false, false, false] rfl rfl (by kernel_rfl) (fun _ _ _ h => h) (Or.inl ⟨by rfl, ?_⟩) ?_ ?_
      rotate_left
      · intro w'
        go_simp
        with_reducible rfl
      rotate_left
      · simp only [Act.put, List.setIfInBounds_toArray, List.set_cons_zero, List.set_cons_succ, i64_w, i32_w]
        rfl
      refine pure_ (i := 8) (N := some 54) (v := ?_) (a' := ?_) #[true, true, true, true, true, false, false, true, true, false, false, false, false, false] rfl rfl (by kernel_rfl) (fun _ _ _ h => h) (Or.inl ⟨by rfl, ?_⟩) ?_ ?_
      rotate_left
      · intro w'
        go_simp
        with_reducible rfl
      rotate_left
      · simp only [Act.put, List.setIfInBounds_toArray, List.set_cons_zero, List.set_cons_succ, i64_w, i32_w]
        rfl
      refine pure_ (i := 9) (N := some 55) (v := ?_) (a' := ?_) #[true, true, true, true, true, false, false, true, true, true, false, false, false, false] rfl rfl (by kernel_rfl) (fun _ _ _ h => h) (Or.inl ⟨by rfl, ?_⟩) ?_ ?_
      rotate_left
      · intro w'
        go_simp
        with_reducible rfl
      rotate_left
      · simp only [Act.put, List.setIfInBounds_toArray, List.set_cons_zero, List.set_cons_succ, i64_w, i32_w]
        rfl
      refine take_ (i := 5) (N := some 51) (v := ?_) (a' := ?_) #[true, true, true, true, true, true, false, true, true, true, false, false, false, false] rfl rfl (by kernel_rfl) (fun _ _ _ h => h) (Or.inl ⟨by rfl, ?_⟩) hHeld ?_ ?_
      rotate_left
      · rintro w' ⟨s0, s1, s2⟩
        go_simp
        with_reducible rfl
      rotate_left
      · simp only [Act.put, List.setIfInBounds_toArray, List.set_cons_zero, List.set_cons_succ, i64_w, i32_w]
        rfl
      refine take_ (i := 10) (N := some 56) (v := ?_) (a' := ?_) #[true, true, true, true, true, true, false, true, true, true, true, false, false, false] rfl rfl (by kernel_rfl) (fun _ _ _ h => h) (Or.inl ⟨by rfl, ?_⟩) hHeld ?_ ?_
      rotate_left
      · rintro w' ⟨s0, s1, s2⟩
        go_simp
        with_reducible rfl
      rotate_left
      · simp only [Act.put, List.setIfInBounds_toArray, List.set_cons_zero, List.set_cons_succ, i64_w, i32_w]
        rfl
      refine one_ (i := 6) (N := some 52) #[true, true, true, true, true, true, true, true, true, true, true, false, false, false] rfl rfl (by kernel_rfl) (by decide) (fun K hK => ?_)
      refine goes_ Tryd.func16 (by kernel_rfl) rfl #[.string s, .int .i64 st2.whr] (by rfl) rfl rfl (by simp only [List.map_toArray, List.map_cons, List.map_nil]; rfl) ?_
      with_reducible refine (Hpl.out _).mono ?_
      rintro e w5 ⟨rfl, hb⟩
      refine ⟨_, rfl, ?_⟩
      have PZ := Lib.hid (V2.out.pi.drew.below hb)
      obtain ⟨x0, x1, x2, x3, x4⟩ := PZ.out.cells; obtain ⟨p0, p1⟩ := PZ.out.cells2; have y0 := PZ.out.fz1 0; have y1 := PZ.out.fz1 1; have y2 := PZ.out.fz1 2; have y3 := PZ.out.fz1 3; have y4 := PZ.out.fz1 4; have q0 := PZ.out.fz2 0; have q1 := PZ.out.fz2 1
      refine hK.out _ _ ⟨PZ.out.rd, PZ.out.rd.c3, PZ.out.rd.c4⟩ (fun hHeld => ?_)
      clear hK K
      refine norm_ (a' := ?_) ?_ ?_
      rotate_left
      · show Act.put _ (some 52) _ = _
        simp only [Act.put, List.setIfInBounds_toArray, List.set_cons_zero, List.set_cons_succ, i64_w, i32_w]
        rfl
      refine one_ (i := 11) (N := none) #[true, true, true, true, true, true, true, true, true, true, true, true, false, false] rfl rfl (by kernel_rfl) (by decide) (fun K hK => ?_)
      refine skip_ (w1 := ?_) (by rfl) rfl ?_ ?_
      rotate_left
      · go_simp
        rfl
      have PY := Lib.hid (set5_rd PZ.out.rd (V := w.heap.size) (by omega) (by omega) (.int .i64 0) (.int .i64 0) (.string ⟨#[]⟩) (.slice none 0 0) (.slice none 0 0))
      refine hK.out _ _ ⟨PY.out, PY.out.c3, PY.out.c4⟩ (fun hHeld => ?_)
      clear hK K
      refine one_ (i := 12) (N := none) #[true, true, true, true, true, true, true, true, true, true, true, true, true, false] rfl rfl (by kernel_rfl) (by decide) (fun K hK => ?_)
      refine skip_ (w1 := ?_) (by rfl) rfl ?_ ?_
      rotate_left
      · go_simp
        rfl
      have PX := Lib.hid (PY.out.kp (set2_kp (S := fun b => b = w.heap.size + 1) (V := w.heap.size + 1) (Kp.refl _ _) (.inl rfl) (.int .i64 pl1) (.int .i64 pl2)) (by omega) (by omega))
      refine hK.out _ _ ⟨PX.out, PX.out.c3, PX.out.c4⟩ (fun hHeld => ?_)
      clear hK K
      refine pure_ (i := 13) (N := some 4) (v := ?_) (a' := ?_) #[true, true, true, true, true, true, true, true, true, true, true, true, true, true] rfl rfl (by kernel_rfl) (fun _ _ _ h => h) (Or.inl ⟨by rfl, ?_⟩) ?_ ?_
      rotate_left
      · intro w'
        go_simp
        with_reducible rfl
      rotate_left
      · simp only [Act.put, List.setIfInBounds_toArray, List.set_cons_zero, List.set_cons_succ, i64_w, i32_w]
        rfl
      refine done_ (by kernel_rfl) ?_
      clear hHeld
      go_wp2
      have BO := PZ.out.both (.int .i64 0) (.int .i64 0) (.string ⟨#[]⟩) (.slice none 0 0) (.slice none 0 0) (.int .i64 pl1) (.int .i64 pl2)
      refine bodyPost_ret (results_list (rs := [.cell 2 27, .cell 3 29, .tmp 4]) rfl (by simp) (.cell _ 27 _ (0, 0) _ rfl BO.1 Tryd.underlying27 rfl (by kernel_rfl) (.cell _ 29 _ (0, 0) _ rfl BO.2.1 Tryd.underlying29 rfl (by kernel_rfl) (.tmp .nil)))) rfl ?_
      exact PZ.out.bad pl1 pl2 _

theorem parse_any (s : ByteArray) (hs : s.size ≤ 140737488351232) (w : World) :
    Calls Tryd.prog 8 #[.string s] w (ParsePost w (parseP s)) := by
  unfold parseP
  by_cases h : 8000 < s.size
  · rw [if_pos h]
    exact parse_long s hs h w
  · rw [if_neg h]
    exact parse_fits s (by omega) w

/-! ### brace_Parse: function 8 -/
def brace_Parse.f (a0 : ByteArray) : Option (Int × Int × ByteArray × List ByteArray × List S27 × Int × Int × Int) :=
  if a0.size ≤ 140737488351232 then some ((parseP a0).1.f0, (parseP a0).1.f1, (parseP a0).1.f2, (parseP a0).1.f3, (parseP a0).1.f4, (parseP a0).2.1.1, (parseP a0).2.1.2, (parseP a0).2.2) else none
theorem brace_Parse.calls (a0 : ByteArray) (r1 : Int) (r2 : Int) (r3 : ByteArray) (r4 : List ByteArray) (r5 : List S27) (r6 r7 r8 : Int) (w : World) (h : brace_Parse.f a0 = some (r1, r2, r3, r4, r5, r6, r7, r8)) :
    Calls Tryd.prog 8 #[.string a0] w fun e w' => ∃ v3_ v4_ : Value, e = .returned (.tuple #[.agg #[.int .i64 r1, .int .i64 r2, .string r3, v3_, v4_], .agg #[.int .i64 r6, .int .i64 r7], .int .i64 r8]) ∧ Kd.R Kd.string 9 w' w.heap.size (fun _ => True) v3_ r4 ∧ Kd.R k27 27 w' w.heap.size (fun k_ => some k_ ≠ (v3_ : Value).ownBlock) v4_ r5 ∧ Below w.heap.size w w' := by
  unfold brace_Parse.f at h
  split at h
  · rename_i hs
    simp only [Option.some.injEq, Prod.mk.injEq] at h
    obtain ⟨rfl, rfl, rfl, rfl, rfl, rfl, rfl, rfl⟩ := h
    exact parse_any a0 hs w
  · simp at h

/-! ### strings_IndexByte: function 40 -/
def strings_IndexByte.f (a0 : ByteArray) (a1 : Int) : Option (Int) := some (Lib.indexByte a0.data.toList a1.toNat.toUInt8)
theorem strings_IndexByte.calls (a0 : ByteArray) (a1 : Int) (r : Int) (w : World) (h : strings_IndexByte.f a0 a1 = some r) :
    Calls Tryd.prog 40 #[.string a0, .int .u8 a1] w fun e w' => e = .returned (.int .i64 r) ∧ Drawn0 w w' := by
  obtain rfl := Option.some.inj h
  exact (Tryd.strings_IndexByte a0 a1 w).mono fun e w' h => ⟨h.1, by rw [h.2]; exact Drawn0.refl w⟩

/-! ### text_Quote: function 21 -/
def text_Quote.l0 : Nat → ByteArray → List Int → Int → Int → Option (ByteArray)
  | 0, _, _, _, _ => none
  | k + 1, x0, x3, x8, x9 => if x9 < x8 then (if 0 ≤ 4 then (if 4 ≤ 5 then (if 0 ≤ x9 then (if x9 < (x0.size : Int) then ((strings_IndexByte.f ((⟨#[34, 92, 10, 9, 47]⟩ : ByteArray).extract 0 4) (bt x0 x9)).bind fun t104 => (if t104 ≥ 0 then (if 0 ≤ t104 then (if t104 < 5 then ((some (([92, bt (⟨#[34, 92, 110, 116, 47]⟩ : ByteArray) t104] : List Int) : List Int)).bind fun y105 => (if x3.length + y105.length < 140737488355328 then (text_Quote.l0 k x0 (x3 ++ y105) x8 (wrap64 (x9 + 1))) else (none))) else (none)) else (none)) else (if x3.length < 140737488355328 then (text_Quote.l0 k x0 (x3 ++ [bt x0 x9]) x8 (wrap64 (x9 + 1))) else (none)))) else (none)) else (none)) else (none)) else (none)) else (if x3.length < 140737488355328 then (some (strOfNums (x3 ++ [34]))) else (none))
def text_Quote.f (k : Nat) (a0 : ByteArray) : Option (ByteArray) := text_Quote.l0 k a0 (([34] : List Int)) (a0.size : Int) 0
theorem text_Quote.mono_l : ∀ k, (∀ y0 y1 y2 y3, LeO (text_Quote.l0 k y0 y1 y2 y3) (text_Quote.l0 (k + 1) y0 y1 y2 y3))
  | 0 => fun _ _ _ _ r h => by simp [text_Quote.l0] at h
  | k + 1 => by
    have ih0 := text_Quote.mono_l k
    · intro y0 y1 y2 y3
      unfold text_Quote.l0
      repeat' first
      | (with_reducible exact ih0 _ _ _ _)
      | (with_reducible exact LeO.refl _)
      | (with_reducible exact LeO.none _)
      | (with_reducible refine LeO.ite ?_ ?_)
      | (with_reducible refine LeO.bind ?_ (fun _ => ?_))
      | exact ih0 _ _ _ _
      | exact LeO.none _
      | refine LeO.ite ?_ ?_
      | refine LeO.bind ?_ (fun _ => ?_)
theorem text_Quote.mono : ∀ a0 k, LeO (text_Quote.f k a0) (text_Quote.f (k + 1) a0) := by
  intro a0 k
  have ih0 := text_Quote.mono_l k
  unfold text_Quote.f
  repeat' first
      | (with_reducible exact ih0 _ _ _ _)
      | (with_reducible exact LeO.refl _)
      | (with_reducible exact LeO.none _)
      | (with_reducible refine LeO.ite ?_ ?_)
      | (with_reducible refine LeO.bind ?_ (fun _ => ?_))
      | exact ih0 _ _ _ _
      | exact LeO.none _
      | refine LeO.ite ?_ ?_
      | refine LeO.bind ?_ (fun _ => ?_)
set_option maxHeartbeats 8000000 in
set_option maxRecDepth 100000 in
theorem text_Quote.calls (k : Nat) (a0 : ByteArray) (r : ByteArray) (w : World) (h : text_Quote.f k a0 = some r) :
    Calls Tryd.prog 21 #[.string a0] w fun e w' => e = .returned (.string r) ∧ Below w.heap.size w w' := by
  have HB := Aside0.mk (Below.refl w.heap.size w)
  have H : (text_Quote.l0 k a0 (([34] : List Int)) (a0.size : Int) 0) = some r := h
  clear h
  obtain ⟨y101, hy101⟩ : ∃ y_ : List Int, y_ = (([34] : List Int)) := ⟨_, rfl⟩
  replace H : (text_Quote.l0 k a0 y101 (a0.size : Int) 0) = some r := by first | (rw [hy101]; with_reducible exact H) | (have H2_ := (Option.bind_some _ _).symm.trans H; rw [hy101]; with_reducible exact H2_) | (have H2_ := (Option.bind_some _ _).symm.trans H; with_reducible exact H2_) | with_reducible exact H | (rw [hy101]; exact H) | exact H
  have Ny101 := Aside0.mk hy101
  clear hy101
  have H' := Aside0.mk H
  clear H
  go_enter Tryd.func21, Tryd.ntmps21
  go_wp2_with (first | ((with_reducible refine gate_dst (N := 6) rfl ?_); refine Kd.R_lit (Kd.int .u8) _ 5 ?hg (N := 6) ?hd (xs := ([34] : List Int)) (inner := [.int .u8 34]) (ok := fun _ => True) (okp := fun _ => True) ?hr ?hp (fun _ hk => hk) trivial (Below.refl _ _) (Nat.le_refl _) (by simp) ?_; (case hd => rfl); (case hg => rfl); (case hr => first | (go_simp; done) | (go_simp; rfl)); (case hp => exact (Reps.one (show Kd.M (Kd.int .u8) _ _ _ 34 [.int .u8 34] from rfl) (Reps.none _ _))); intro v102 w2 ho3 hb hg_ hnew_; clear hg_ hnew_; (first | rw [← Ny101.out] at ho3 | (simp only [Int.reduceToNat] at ho3; rw [← Ny101.out] at ho3)); have n0_ := Aside0.mk (Kd.R_lower ho3 (below_size (by repeat (first | (with_reducible first | exact HB.out | apply below_alloc | apply pw_below_drewN | apply below_drew1) | exact HB.out)))); have n1_ := Aside0.mk (below_step (by repeat (first | (with_reducible first | exact HB.out | apply below_alloc | apply pw_below_drewN | apply below_drew1) | exact HB.out)) hb); clear HB; have HO103 := n0_; have HB := n1_; clear n0_ n1_; clear hb ho3))
  repeat (go_quiet (first | ((with_reducible refine gate_dst (N := 6) rfl ?_); refine Kd.R_lit (Kd.int .u8) _ 5 ?hg (N := 6) ?hd (xs := ([34] : List Int)) (inner := [.int .u8 34]) (ok := fun _ => True) (okp := fun _ => True) ?hr ?hp (fun _ hk => hk) trivial (Below.refl _ _) (Nat.le_refl _) (by simp) ?_; (case hd => rfl); (case hg => rfl); (case hr => first | (go_simp; done) | (go_simp; rfl)); (case hp => exact (Reps.one (show Kd.M (Kd.int .u8) _ _ _ 34 [.int .u8 34] from rfl) (Reps.none _ _))); intro v102 w2 ho3 hb hg_ hnew_; clear hg_ hnew_; (first | rw [← Ny101.out] at ho3 | (simp only [Int.reduceToNat] at ho3; rw [← Ny101.out] at ho3)); have n0_ := Aside0.mk (Kd.R_lower ho3 (below_size (by repeat (first | (with_reducible first | exact HB.out | apply below_alloc | apply pw_below_drewN | apply below_drew1) | exact HB.out)))); have n1_ := Aside0.mk (below_step (by repeat (first | (with_reducible first | exact HB.out | apply below_alloc | apply pw_below_drewN | apply below_drew1) | exact HB.out)) hb); clear HB; have HO103 := n0_; have HB := n1_; clear n0_ n1_; clear hb ho3)); try go_wp2_with (first | ((with_reducible refine gate_dst (N := 6) rfl ?_); refine Kd.R_lit (Kd.int .u8) _ 5 ?hg (N := 6) ?hd (xs := ([34] : List Int)) (inner := [.int .u8 34]) (ok := fun _ => True) (okp := fun _ => True) ?hr ?hp (fun _ hk => hk) trivial (Below.refl _ _) (Nat.le_refl _) (by simp) ?_; (case hd => rfl); (case hg => rfl); (case hr => first | (go_simp; done) | (go_simp; rfl)); (case hp => exact (Reps.one (show Kd.M (Kd.int .u8) _ _ _ 34 [.int .u8 34] from rfl) (Reps.none _ _))); intro v102 w2 ho3 hb hg_ hnew_; clear hg_ hnew_; (first | rw [← Ny101.out] at ho3 | (simp only [Int.reduceToNat] at ho3; rw [← Ny101.out] at ho3)); have n0_ := Aside0.mk (Kd.R_lower ho3 (below_size (by repeat (first | (with_reducible first | exact HB.out | apply below_alloc | apply pw_below_drewN | apply below_drew1) | exact HB.out)))); have n1_ := Aside0.mk (below_step (by repeat (first | (with_reducible first | exact HB.out | apply below_alloc | apply pw_below_drewN | apply below_drew1) | exact HB.out)) hb); clear HB; have HO103 := n0_; have HB := n1_; clear n0_ n1_; clear hb ho3)))
  go_loopg [3, 9] k (fun kq v3 v9 w' => ∃ (x3_1 : List Int) (x9_1 : Int), v9 = .int .i64 x9_1 ∧ Aside0 (text_Quote.l0 kq a0 x3_1 (a0.size : Int) x9_1 = some r) ∧ Aside0 (kq ≤ k) ∧ Aside0 (Kd.R (Kd.int .u8) 5 w' w.heap.size (fun _ => True) v3 x3_1) ∧ Aside0 (Below w.heap.size w w'))
  case atStart => exact ⟨(y101), (0), (by first | rfl | (simp; done) | (simp [*]; done)), H', ⟨Nat.le_refl _⟩, ⟨by (with_reducible repeat (first | apply Kd.R_alloc | apply Kd.R_drewN | apply Kd.R_drew)); exact HO103.out⟩, ⟨by repeat (first | (with_reducible first | exact HB.out | apply below_alloc | apply pw_below_drewN | apply below_drew1) | exact HB.out)⟩⟩
  case round =>
    clear H'
    try clear c2
    try clear p2
    obtain ⟨x3_1, x9_1, rfl, HA, HK1, HO_3, HB⟩ := hrel
    cases gk with
    | zero => exact absurd HA.out (by simp [text_Quote.l0])
    | succ k1 =>
      have H := HA.out
      clear HA
      simp only [text_Quote.l0] at H
      by_cases c4 : x9_1 < (a0.size : Int)
      · rw [if_pos c4] at H
        have c4b0 : decide (x9_1 < (a0.size : Int)) = true := decide_eq_true c4
        clear c4
        by_cases c5 : 0 ≤ 4
        · rw [if_pos c5] at H
          have c5b0 := eq_true c5
          have c5b1 : decide (0 ≤ 4) = true := decide_eq_true c5
          clear c5
          by_cases c6 : 4 ≤ 5
          · rw [if_pos c6] at H
            have c6b0 := eq_true c6
            have c6b1 : decide (4 ≤ 5) = true := decide_eq_true c6
            clear c6
            by_cases c7 : 0 ≤ x9_1
            · rw [if_pos c7] at H
              have c7b0 : decide (0 ≤ x9_1) = true := decide_eq_true c7
              clear c7
              by_cases c8 : x9_1 < (a0.size : Int)
              · rw [if_pos c8] at H
                have c8b0 : decide (x9_1 < (a0.size : Int)) = true := decide_eq_true c8
                clear c8
                replace H := Option.bind_eq_some_iff.mp H
                obtain ⟨t104, A100, H⟩ := H
                replace H : (if t104 ≥ 0 then (if 0 ≤ t104 then (if t104 < 5 then ((some (([92, bt (⟨#[34, 92, 110, 116, 47]⟩ : ByteArray) t104] : List Int) : List Int)).bind fun y105 => (if x3_1.length + y105.length < 140737488355328 then (text_Quote.l0 k1 a0 (x3_1 ++ y105) (a0.size : Int) (wrap64 (x9_1 + 1))) else (none))) else (none)) else (none)) else (if x3_1.length < 140737488355328 then (text_Quote.l0 k1 a0 (x3_1 ++ [bt a0 x9_1]) (a0.size : Int) (wrap64 (x9_1 + 1))) else (none))) = some r := H
                have A10 := Aside0.mk A100
                clear A100
                by_cases c11 : t104 ≥ 0
                · rw [if_pos c11] at H
                  have c11b0 : decide (0 ≤ t104) = true := decide_eq_true c11
                  clear c11
                  by_cases c12 : 0 ≤ t104
                  · rw [if_pos c12] at H
                    have c12b0 : decide (0 ≤ t104) = true := decide_eq_true c12
                    clear c12
                    by_cases c13 : t104 < 5
                    · rw [if_pos c13] at H
                      have c13b0 : decide (t104 < 5) = true := decide_eq_true c13
                      clear c13
                      obtain ⟨y105, hy105⟩ : ∃ y_ : List Int, y_ = (([92, bt (⟨#[34, 92, 110, 116, 47]⟩ : ByteArray) t104] : List Int)) := ⟨_, rfl⟩
                      replace H : (if x3_1.length + y105.length < 140737488355328 then (text_Quote.l0 k1 a0 (x3_1 ++ y105) (a0.size : Int) (wrap64 (x9_1 + 1))) else (none)) = some r := by first | (rw [hy105]; with_reducible exact H) | (have H2_ := (Option.bind_some _ _).symm.trans H; rw [hy105]; with_reducible exact H2_) | (have H2_ := (Option.bind_some _ _).symm.trans H; with_reducible exact H2_) | with_reducible exact H | (rw [hy105]; exact H) | exact H
                      have Ny105 := Aside0.mk hy105
                      clear hy105
                      by_cases c15 : x3_1.length + y105.length < 140737488355328
                      · rw [if_pos c15] at H
                        have LMc15 := Aside0.mk c15
                        clear c15
                        obtain ⟨y108, hy108⟩ : ∃ y_ : List Int, y_ = (x3_1 ++ y105) := ⟨_, rfl⟩
                        replace H : (text_Quote.l0 k1 a0 y108 (a0.size : Int) (wrap64 (x9_1 + 1))) = some r := by first | (rw [hy108]; with_reducible exact H) | (have H2_ := (Option.bind_some _ _).symm.trans H; rw [hy108]; with_reducible exact H2_) | (have H2_ := (Option.bind_some _ _).symm.trans H; with_reducible exact H2_) | with_reducible exact H | (rw [hy108]; exact H) | exact H
                        have Ny108 := Aside0.mk hy108
                        clear hy108
                        have H' := Aside0.mk H
                        clear H
                        have p9 : 0 ≤ (x9_1 : Int) := of_decide_eq_true (by first | (with_reducible assumption) | assumption)
                        have q9 : x9_1 < (a0.size : Int) := of_decide_eq_true (by first | (with_reducible assumption) | assumption)
                        have hx9 := bt_at a0 x9_1
                        replace p9 := eq_true p9
                        replace q9 := eq_true q9
                        go_wp2_with (first | (go_at_call 40; (with_reducible refine (strings_IndexByte.calls ((⟨#[34, 92, 10, 9, 47]⟩ : ByteArray).extract 0 4) (bt a0 x9_1) t104 _ A10.out).mono ?_); rintro e w' ⟨rfl, ⟨nd, rfl⟩⟩; (try first | exact ⟨rfl, _, World.drewN_drewN _ _ _⟩ | exact ⟨rfl, _, Eq.trans (World.drewN_drewN _ _ _) (congrArg (World.drewN _) (Nat.add_assoc _ _ _))⟩); have p14 : 0 ≤ (t104 : Int) := of_decide_eq_true (by first | (with_reducible assumption) | assumption); have q14 : t104 < (5 : Int) := of_decide_eq_true (by first | (with_reducible assumption) | assumption); have hx14 := bt_at (⟨#[34, 92, 110, 116, 47]⟩ : ByteArray) t104; replace p14 := eq_true p14; replace q14 := eq_true q14) | ((with_reducible refine gate_dst (N := 22) rfl ?_); refine Kd.R_lit (Kd.int .u8) _ 5 ?hg (N := 22) ?hd (xs := ([92, bt (⟨#[34, 92, 110, 116, 47]⟩ : ByteArray) t104] : List Int)) (inner := [.int .u8 92, .int .u8 (bt (⟨#[34, 92, 110, 116, 47]⟩ : ByteArray) t104)]) (ok := fun _ => True) (okp := fun _ => True) ?hr ?hp (fun _ hk => hk) trivial (Below.refl _ _) (Nat.le_refl _) (by simp) ?_; (case hd => rfl); (case hg => rfl); (case hr => first | (go_simp; done) | (go_simp; rfl)); (case hp => exact (Reps.one (show Kd.M (Kd.int .u8) _ _ _ 92 [.int .u8 92] from rfl) (Reps.one (show Kd.M (Kd.int .u8) _ _ _ (bt (⟨#[34, 92, 110, 116, 47]⟩ : ByteArray) t104) [.int .u8 (bt (⟨#[34, 92, 110, 116, 47]⟩ : ByteArray) t104)] from rfl) (Reps.none _ _)))); intro v106 w16 ho17 hb hg_ hnew_; clear hg_ hnew_; (first | rw [← Ny105.out] at ho17 | (simp only [Int.reduceToNat] at ho17; rw [← Ny105.out] at ho17)); have n0_ := Aside0.mk (Kd.R_elder' (by (with_reducible repeat (first | apply Kd.R_alloc | apply Kd.R_drewN | apply Kd.R_drew)); exact HO_3.out) (Kd.R_base ho17) hb); have n1_ := Aside0.mk (Kd.R_lower (Kd.R_new' ho17 (Kd.R_lt (by (with_reducible repeat (first | apply Kd.R_alloc | apply Kd.R_drewN | apply Kd.R_drew)); exact HO_3.out))) (below_size (by repeat (first | (with_reducible first | exact HB.out | apply below_alloc | apply pw_below_drewN | apply below_drew1) | exact HB.out)))); have n2_ := Aside0.mk (below_step (by repeat (first | (with_reducible first | exact HB.out | apply below_alloc | apply pw_below_drewN | apply below_drew1) | exact HB.out)) hb); clear HO_3; clear HB; have HO_3 := n0_; have HO107 := n1_; have HB := n2_; clear n0_ n1_ n2_; clear hb ho17; obtain ⟨Ao19, co19, eo19⟩ := Kd.R_slice HO107.out; subst eo19) | ((with_reducible refine gate_builtin (b := .append) (xs := #[.tmp 19, .tmp 22]) rfl ?_); at_builtin; refine Kd.R_append_rows (Kd.int .u8) (w0 := w) w.heap.size rfl (.tmp 19) (.tmp 22) 39 5 (.int .u8 0) 1 rfl Tryd.underlying39 info5 rfl (by decide) (by omega) u3 x3_1 y105 _ _ _ (fun k_ => some k_ ≠ (.slice Ao19 y105.length co19 : Value).ownBlock) (fun _ => False) rfl rfl ?aO ?aR (fun _ _ h => h) (fun _ h => h.elim) ?aF ?aB ?aS ?aL ?_; (case aR => repeat (first | exact (Kd.R_reads' HO107.out).2.2 | (with_reducible refine Kd.C_alloc ?_ _) | (with_reducible refine Kd.C_drewN ?_ _) | (with_reducible refine Kd.C_drew ?_))); (case aB => exact (by repeat (first | (with_reducible first | exact HB.out | apply below_alloc | apply pw_below_drewN | apply below_drew1) | exact HB.out))); (case aF => exact (fun k_ hk => Kd.fresh' (Kd.R_lt (by (with_reducible repeat (first | apply Kd.R_alloc | apply Kd.R_drewN | apply Kd.R_drew)); exact HO107.out)) k_ hk)); (case aO => exact (by (with_reducible repeat (first | apply Kd.R_alloc | apply Kd.R_drewN | apply Kd.R_drew)); exact Kd.R_mono HO_3.out (fun _ hk => hk.2))); (case aS => exact (below_size (by repeat (first | (with_reducible first | exact HB.out | apply below_alloc | apply pw_below_drewN | apply below_drew1) | exact HB.out)))); (case aL => have := LMc15.out; omega); intro v109 w18 ho hb hg hat; rw [← Ny108.out] at ho; have n0_ := Aside0.mk (Kd.R_after (ok := (fun _ => True)) (by (with_reducible repeat (first | apply Kd.R_alloc | apply Kd.R_drewN | apply Kd.R_drew)); exact HO107.out) hg hat); have n1_ := Aside0.mk (hb); have n2_ := Aside0.mk (ho); clear HO107; clear HB; clear HO_3; have HO107 := n0_; have HB := n1_; have HO110 := n2_; clear n0_ n1_ n2_; clear ho hb hg hat))
                        repeat (go_quiet (first | (go_at_call 40; (with_reducible refine (strings_IndexByte.calls ((⟨#[34, 92, 10, 9, 47]⟩ : ByteArray).extract 0 4) (bt a0 x9_1) t104 _ A10.out).mono ?_); rintro e w' ⟨rfl, ⟨nd, rfl⟩⟩; (try first | exact ⟨rfl, _, World.drewN_drewN _ _ _⟩ | exact ⟨rfl, _, Eq.trans (World.drewN_drewN _ _ _) (congrArg (World.drewN _) (Nat.add_assoc _ _ _))⟩); have p14 : 0 ≤ (t104 : Int) := of_decide_eq_true (by first | (with_reducible assumption) | assumption); have q14 : t104 < (5 : Int) := of_decide_eq_true (by first | (with_reducible assumption) | assumption); have hx14 := bt_at (⟨#[34, 92, 110, 116, 47]⟩ : ByteArray) t104; replace p14 := eq_true p14; replace q14 := eq_true q14) | ((with_reducible refine gate_dst (N := 22) rfl ?_); refine Kd.R_lit (Kd.int .u8) _ 5 ?hg (N := 22) ?hd (xs := ([92, bt (⟨#[34, 92, 110, 116, 47]⟩ : ByteArray) t104] : List Int)) (inner := [.int .u8 92, .int .u8 (bt (⟨#[34, 92, 110, 116, 47]⟩ : ByteArray) t104)]) (ok := fun _ => True) (okp := fun _ => True) ?hr ?hp (fun _ hk => hk) trivial (Below.refl _ _) (Nat.le_refl _) (by simp) ?_; (case hd => rfl); (case hg => rfl); (case hr => first | (go_simp; done) | (go_simp; rfl)); (case hp => exact (Reps.one (show Kd.M (Kd.int .u8) _ _ _ 92 [.int .u8 92] from rfl) (Reps.one (show Kd.M (Kd.int .u8) _ _ _ (bt (⟨#[34, 92, 110, 116, 47]⟩ : ByteArray) t104) [.int .u8 (bt (⟨#[34, 92, 110, 116, 47]⟩ : ByteArray) t104)] from rfl) (Reps.none _ _)))); intro v106 w16 ho17 hb hg_ hnew_; clear hg_ hnew_; (first | rw [← Ny105.out] at ho17 | (simp only [Int.reduceToNat] at ho17; rw [← Ny105.out] at ho17)); have n0_ := Aside0.mk (Kd.R_elder' (by (with_reducible repeat (first | apply Kd.R_alloc | apply Kd.R_drewN | apply Kd.R_drew)); exact HO_3.out) (Kd.R_base ho17) hb); have n1_ := Aside0.mk (Kd.R_lower (Kd.R_new' ho17 (Kd.R_lt (by (with_reducible repeat (first | apply Kd.R_alloc | apply Kd.R_drewN | apply Kd.R_drew)); exact HO_3.out))) (below_size (by repeat (first | (with_reducible first | exact HB.out | apply below_alloc | apply pw_below_drewN | apply below_drew1) | exact HB.out)))); have n2_ := Aside0.mk (below_step (by repeat (first | (with_reducible first | exact HB.out | apply below_alloc | apply pw_below_drewN | apply below_drew1) | exact HB.out)) hb); clear HO_3; clear HB; have HO_3 := n0_; have HO107 := n1_; have HB := n2_; clear n0_ n1_ n2_; clear hb ho17; obtain ⟨Ao19, co19, eo19⟩ := Kd.R_slice HO107.out; subst eo19) | ((with_reducible refine gate_builtin (b := .append) (xs := #[.tmp 19, .tmp 22]) rfl ?_); at_builtin; refine Kd.R_append_rows (Kd.int .u8) (w0 := w) w.heap.size rfl (.tmp 19) (.tmp 22) 39 5 (.int .u8 0) 1 rfl Tryd.underlying39 info5 rfl (by decide) (by omega) u3 x3_1 y105 _ _ _ (fun k_ => some k_ ≠ (.slice Ao19 y105.length co19 : Value).ownBlock) (fun _ => False) rfl rfl ?aO ?aR (fun _ _ h => h) (fun _ h => h.elim) ?aF ?aB ?aS ?aL ?_; (case aR => repeat (first | exact (Kd.R_reads' HO107.out).2.2 | (with_reducible refine Kd.C_alloc ?_ _) | (with_reducible refine Kd.C_drewN ?_ _) | (with_reducible refine Kd.C_drew ?_))); (case aB => exact (by repeat (first | (with_reducible first | exact HB.out | apply below_alloc | apply pw_below_drewN | apply below_drew1) | exact HB.out))); (case aF => exact (fun k_ hk => Kd.fresh' (Kd.R_lt (by (with_reducible repeat (first | apply Kd.R_alloc | apply Kd.R_drewN | apply Kd.R_drew)); exact HO107.out)) k_ hk)); (case aO => exact (by (with_reducible repeat (first | apply Kd.R_alloc | apply Kd.R_drewN | apply Kd.R_drew)); exact Kd.R_mono HO_3.out (fun _ hk => hk.2))); (case aS => exact (below_size (by repeat (first | (with_reducible first | exact HB.out | apply below_alloc | apply pw_below_drewN | apply below_drew1) | exact HB.out)))); (case aL => have := LMc15.out; omega); intro v109 w18 ho hb hg hat; rw [← Ny108.out] at ho; have n0_ := Aside0.mk (Kd.R_after (ok := (fun _ => True)) (by (with_reducible repeat (first | apply Kd.R_alloc | apply Kd.R_drewN | apply Kd.R_drew)); exact HO107.out) hg hat); have n1_ := Aside0.mk (hb); have n2_ := Aside0.mk (ho); clear HO107; clear HB; clear HO_3; have HO107 := n0_; have HB := n1_; have HO110 := n2_; clear n0_ n1_ n2_; clear ho hb hg hat)); try go_wp2_with (first | (go_at_call 40; (with_reducible refine (strings_IndexByte.calls ((⟨#[34, 92, 10, 9, 47]⟩ : ByteArray).extract 0 4) (bt a0 x9_1) t104 _ A10.out).mono ?_); rintro e w' ⟨rfl, ⟨nd, rfl⟩⟩; (try first | exact ⟨rfl, _, World.drewN_drewN _ _ _⟩ | exact ⟨rfl, _, Eq.trans (World.drewN_drewN _ _ _) (congrArg (World.drewN _) (Nat.add_assoc _ _ _))⟩); have p14 : 0 ≤ (t104 : Int) := of_decide_eq_true (by first | (with_reducible assumption) | assumption); have q14 : t104 < (5 : Int) := of_decide_eq_true (by first | (with_reducible assumption) | assumption); have hx14 := bt_at (⟨#[34, 92, 110, 116, 47]⟩ : ByteArray) t104; replace p14 := eq_true p14; replace q14 := eq_true q14) | ((with_reducible refine gate_dst (N := 22) rfl ?_); refine Kd.R_lit (Kd.int .u8) _ 5 ?hg (N := 22) ?hd (xs := ([92, bt (⟨#[34, 92, 110, 116, 47]⟩ : ByteArray) t104] : List Int)) (inner := [.int .u8 92, .int .u8 (bt (⟨#[34, 92, 110, 116, 47]⟩ : ByteArray) t104)]) (ok := fun _ => True) (okp := fun _ => True) ?hr ?hp (fun _ hk => hk) trivial (Below.refl _ _) (Nat.le_refl _) (by simp) ?_; (case hd => rfl); (case hg => rfl); (case hr => first | (go_simp; done) | (go_simp; rfl)); (case hp => exact (Reps.one (show Kd.M (Kd.int .u8) _ _ _ 92 [.int .u8 92] from rfl) (Reps.one (show Kd.M (Kd.int .u8) _ _ _ (bt (⟨#[34, 92, 110, 116, 47]⟩ : ByteArray) t104) [.int .u8 (bt (⟨#[34, 92, 110, 116, 47]⟩ : ByteArray) t104)] from rfl) (Reps.none _ _)))); intro v106 w16 ho17 hb hg_ hnew_; clear hg_ hnew_; (first | rw [← Ny105.out] at ho17 | (simp only [Int.reduceToNat] at ho17; rw [← Ny105.out] at ho17)); have n0_ := Aside0.mk (Kd.R_elder' (by (with_reducible repeat (first | apply Kd.R_alloc | apply Kd.R_drewN | apply Kd.R_drew)); exact HO_3.out) (Kd.R_base ho17) hb); have n1_ := Aside0.mk (Kd.R_lower (Kd.R_new' ho17 (Kd.R_lt (by (with_reducible repeat (first | apply Kd.R_alloc | apply Kd.R_drewN | apply Kd.R_drew)); exact HO_3.out))) (below_size (by repeat (first | (with_reducible first | exact HB.out | apply below_alloc | apply pw_below_drewN | apply below_drew1) | exact HB.out)))); have n2_ := Aside0.mk (below_step (by repeat (first | (with_reducible first | exact HB.out | apply below_alloc | apply pw_below_drewN | apply below_drew1) | exact HB.out)) hb); clear HO_3; clear HB; have HO_3 := n0_; have HO107 := n1_; have HB := n2_; clear n0_ n1_ n2_; clear hb ho17; obtain ⟨Ao19, co19, eo19⟩ := Kd.R_slice HO107.out; subst eo19) | ((with_reducible refine gate_builtin (b := .append) (xs := #[.tmp 19, .tmp 22]) rfl ?_); at_builtin; refine Kd.R_append_rows (Kd.int .u8) (w0 := w) w.heap.size rfl (.tmp 19) (.tmp 22) 39 5 (.int .u8 0) 1 rfl Tryd.underlying39 info5 rfl (by decide) (by omega) u3 x3_1 y105 _ _ _ (fun k_ => some k_ ≠ (.slice Ao19 y105.length co19 : Value).ownBlock) (fun _ => False) rfl rfl ?aO ?aR (fun _ _ h => h) (fun _ h => h.elim) ?aF ?aB ?aS ?aL ?_; (case aR => repeat (first | exact (Kd.R_reads' HO107.out).2.2 | (with_reducible refine Kd.C_alloc ?_ _) | (with_reducible refine Kd.C_drewN ?_ _) | (with_reducible refine Kd.C_drew ?_))); (case aB => exact (by repeat (first | (with_reducible first | exact HB.out | apply below_alloc | apply pw_below_drewN | apply below_drew1) | exact HB.out))); (case aF => exact (fun k_ hk => Kd.fresh' (Kd.R_lt (by (with_reducible repeat (first | apply Kd.R_alloc | apply Kd.R_drewN | apply Kd.R_drew)); exact HO107.out)) k_ hk)); (case aO => exact (by (with_reducible repeat (first | apply Kd.R_alloc | apply Kd.R_drewN | apply Kd.R_drew)); exact Kd.R_mono HO_3.out (fun _ hk => hk.2))); (case aS => exact (below_size (by repeat (first | (with_reducible first | exact HB.out | apply below_alloc | apply pw_below_drewN | apply below_drew1) | exact HB.out)))); (case aL => have := LMc15.out; omega); intro v109 w18 ho hb hg hat; rw [← Ny108.out] at ho; have n0_ := Aside0.mk (Kd.R_after (ok := (fun _ => True)) (by (with_reducible repeat (first | apply Kd.R_alloc | apply Kd.R_drewN | apply Kd.R_drew)); exact HO107.out) hg hat); have n1_ := Aside0.mk (hb); have n2_ := Aside0.mk (ho); clear HO107; clear HB; clear HO_3; have HO107 := n0_; have HB := n1_; have HO110 := n2_; clear n0_ n1_ n2_; clear ho hb hg hat)))
                        go_roundg k1
                        case measure => have := HK1.out; omega
                        case rel => exact ⟨(y108), (wrap64 (x9_1 + 1)), (by first | rfl | (simp; done) | (simp [*]; done)), H', ⟨by have := HK1.out; omega⟩, ⟨by (with_reducible repeat (first | apply Kd.R_alloc | apply Kd.R_drewN | apply Kd.R_drew)); exact Kd.R_mono HO110.out (fun _ hk => trivial)⟩, ⟨by repeat (first | (with_reducible first | exact HB.out | apply below_alloc | apply pw_below_drewN | apply below_drew1) | exact HB.out)⟩⟩
                      · rw [if_neg c15] at H
                        exact absurd H (by simp)
                    · rw [if_neg c13] at H
                      exact absurd H (by simp)
                  · rw [if_neg c12] at H
                    exact absurd H (by simp)
                · rw [if_neg c11] at H
                  have c11b0 : decide (0 ≤ t104) = false := decide_eq_false c11
                  clear c11
                  by_cases c21 : x3_1.length < 140737488355328
                  · rw [if_pos c21] at H
                    have LMc21 := Aside0.mk c21
                    clear c21
                    obtain ⟨y111, hy111⟩ : ∃ y_ : List Int, y_ = (x3_1 ++ [bt a0 x9_1]) := ⟨_, rfl⟩
                    replace H : (text_Quote.l0 k1 a0 y111 (a0.size : Int) (wrap64 (x9_1 + 1))) = some r := by first | (rw [hy111]; with_reducible exact H) | (have H2_ := (Option.bind_some _ _).symm.trans H; rw [hy111]; with_reducible exact H2_) | (have H2_ := (Option.bind_some _ _).symm.trans H; with_reducible exact H2_) | with_reducible exact H | (rw [hy111]; exact H) | exact H
                    have Ny111 := Aside0.mk hy111
                    clear hy111
                    have H' := Aside0.mk H
                    clear H
                    have p9 : 0 ≤ (x9_1 : Int) := of_decide_eq_true (by first | (with_reducible assumption) | assumption)
                    have q9 : x9_1 < (a0.size : Int) := of_decide_eq_true (by first | (with_reducible assumption) | assumption)
                    have hx9 := bt_at a0 x9_1
                    replace p9 := eq_true p9
                    replace q9 := eq_true q9
                    go_wp2_with (first | (go_at_call 40; (with_reducible refine (strings_IndexByte.calls ((⟨#[34, 92, 10, 9, 47]⟩ : ByteArray).extract 0 4) (bt a0 x9_1) t104 _ A10.out).mono ?_); rintro e w' ⟨rfl, ⟨nd, rfl⟩⟩; (try first | exact ⟨rfl, _, World.drewN_drewN _ _ _⟩ | exact ⟨rfl, _, Eq.trans (World.drewN_drewN _ _ _) (congrArg (World.drewN _) (Nat.add_assoc _ _ _))⟩); have p20 : 0 ≤ (x9_1 : Int) := of_decide_eq_true (by first | (with_reducible assumption) | assumption); have q20 : x9_1 < (a0.size : Int) := of_decide_eq_true (by first | (with_reducible assumption) | assumption); have hx20 := bt_at a0 x9_1; replace p20 := eq_true p20; replace q20 := eq_true q20) | ((with_reducible refine gate_builtin (b := .append) (xs := #[.tmp 24, .tmp 28]) rfl ?_); at_builtin; refine Kd.R_append (Kd.int .u8) (w0 := w) w.heap.size rfl (.tmp 24) (.tmp 28) 39 5 (.int .u8 0) 1 rfl Tryd.underlying39 info5 rfl (by decide) (by omega) u3 x3_1 (bt a0 x9_1) [.int .u8 (bt a0 x9_1)] (fun _ => True) (fun _ => False) rfl rfl ?aP (fun _ hk => hk.elim) ?aF ?aO ?aB ?aS ?aL ?_; (case aP => exact rfl); (case aB => exact (by repeat (first | (with_reducible first | exact HB.out | apply below_alloc | apply pw_below_drewN | apply below_drew1) | exact HB.out))); (case aF => exact (fun _ _ => trivial)); (case aO => exact (by (with_reducible repeat (first | apply Kd.R_alloc | apply Kd.R_drewN | apply Kd.R_drew)); exact HO_3.out)); (case aS => exact (below_size (by repeat (first | (with_reducible first | exact HB.out | apply below_alloc | apply pw_below_drewN | apply below_drew1) | exact HB.out)))); (case aL => have := LMc21.out; omega); intro v112 w22 ho hb hg hat; rw [← Ny111.out] at ho; have n0_ := Aside0.mk (hb); have n1_ := Aside0.mk (ho); clear HB; clear HO_3; have HB := n0_; have HO113 := n1_; clear n0_ n1_; clear ho hb hg hat))
                    repeat (go_quiet (first | (go_at_call 40; (with_reducible refine (strings_IndexByte.calls ((⟨#[34, 92, 10, 9, 47]⟩ : ByteArray).extract 0 4) (bt a0 x9_1) t104 _ A10.out).mono ?_); rintro e w' ⟨rfl, ⟨nd, rfl⟩⟩; (try first | exact ⟨rfl, _, World.drewN_drewN _ _ _⟩ | exact ⟨rfl, _, Eq.trans (World.drewN_drewN _ _ _) (congrArg (World.drewN _) (Nat.add_assoc _ _ _))⟩); have p20 : 0 ≤ (x9_1 : Int) := of_decide_eq_true (by first | (with_reducible assumption) | assumption); have q20 : x9_1 < (a0.size : Int) := of_decide_eq_true (by first | (with_reducible assumption) | assumption); have hx20 := bt_at a0 x9_1; replace p20 := eq_true p20; replace q20 := eq_true q20) | ((with_reducible refine gate_builtin (b := .append) (xs := #[.tmp 24, .tmp 28]) rfl ?_); at_builtin; refine Kd.R_append (Kd.int .u8) (w0 := w) w.heap.size rfl (.tmp 24) (.tmp 28) 39 5 (.int .u8 0) 1 rfl Tryd.underlying39 info5 rfl (by decide) (by omega) u3 x3_1 (bt a0 x9_1) [.int .u8 (bt a0 x9_1)] (fun _ => True) (fun _ => False) rfl rfl ?aP (fun _ hk => hk.elim) ?aF ?aO ?aB ?aS ?aL ?_; (case aP => exact rfl); (case aB => exact (by repeat (first | (with_reducible first | exact HB.out | apply below_alloc | apply pw_below_drewN | apply below_drew1) | exact HB.out))); (case aF => exact (fun _ _ => trivial)); (case aO => exact (by (with_reducible repeat (first | apply Kd.R_alloc | apply Kd.R_drewN | apply Kd.R_drew)); exact HO_3.out)); (case aS => exact (below_size (by repeat (first | (with_reducible first | exact HB.out | apply below_alloc | apply pw_below_drewN | apply below_drew1) | exact HB.out)))); (case aL => have := LMc21.out; omega); intro v112 w22 ho hb hg hat; rw [← Ny111.out] at ho; have n0_ := Aside0.mk (hb); have n1_ := Aside0.mk (ho); clear HB; clear HO_3; have HB := n0_; have HO113 := n1_; clear n0_ n1_; clear ho hb hg hat)); try go_wp2_with (first | (go_at_call 40; (with_reducible refine (strings_IndexByte.calls ((⟨#[34, 92, 10, 9, 47]⟩ : ByteArray).extract 0 4) (bt a0 x9_1) t104 _ A10.out).mono ?_); rintro e w' ⟨rfl, ⟨nd, rfl⟩⟩; (try first | exact ⟨rfl, _, World.drewN_drewN _ _ _⟩ | exact ⟨rfl, _, Eq.trans (World.drewN_drewN _ _ _) (congrArg (World.drewN _) (Nat.add_assoc _ _ _))⟩); have p20 : 0 ≤ (x9_1 : Int) := of_decide_eq_true (by first | (with_reducible assumption) | assumption); have q20 : x9_1 < (a0.size : Int) := of_decide_eq_true (by first | (with_reducible assumption) | assumption); have hx20 := bt_at a0 x9_1; replace p20 := eq_true p20; replace q20 := eq_true q20) | ((with_reducible refine gate_builtin (b := .append) (xs := #[.tmp 24, .tmp 28]) rfl ?_); at_builtin; refine Kd.R_append (Kd.int .u8) (w0 := w) w.heap.size rfl (.tmp 24) (.tmp 28) 39 5 (.int .u8 0) 1 rfl Tryd.underlying39 info5 rfl (by decide) (by omega) u3 x3_1 (bt a0 x9_1) [.int .u8 (bt a0 x9_1)] (fun _ => True) (fun _ => False) rfl rfl ?aP (fun _ hk => hk.elim) ?aF ?aO ?aB ?aS ?aL ?_; (case aP => exact rfl); (case aB => exact (by repeat (first | (with_reducible first | exact HB.out | apply below_alloc | apply pw_below_drewN | apply below_drew1) | exact HB.out))); (case aF => exact (fun _ _ => trivial)); (case aO => exact (by (with_reducible repeat (first | apply Kd.R_alloc | apply Kd.R_drewN | apply Kd.R_drew)); exact HO_3.out)); (case aS => exact (below_size (by repeat (first | (with_reducible first | exact HB.out | apply below_alloc | apply pw_below_drewN | apply below_drew1) | exact HB.out)))); (case aL => have := LMc21.out; omega); intro v112 w22 ho hb hg hat; rw [← Ny111.out] at ho; have n0_ := Aside0.mk (hb); have n1_ := Aside0.mk (ho); clear HB; clear HO_3; have HB := n0_; have HO113 := n1_; clear n0_ n1_; clear ho hb hg hat)))
                    go_roundg k1
                    case measure => have := HK1.out; omega
                    case rel => exact ⟨(y111), (wrap64 (x9_1 + 1)), (by first | rfl | (simp; done) | (simp [*]; done)), H', ⟨by have := HK1.out; omega⟩, ⟨by (with_reducible repeat (first | apply Kd.R_alloc | apply Kd.R_drewN | apply Kd.R_drew)); exact HO113.out⟩, ⟨by repeat (first | (with_reducible first | exact HB.out | apply below_alloc | apply pw_below_drewN | apply below_drew1) | exact HB.out)⟩⟩
                  · rw [if_neg c21] at H
                    exact absurd H (by simp)
              · rw [if_neg c8] at H
                exact absurd H (by simp)
            · rw [if_neg c7] at H
              exact absurd H (by simp)
          · rw [if_neg c6] at H
            exact absurd H (by simp)
        · rw [if_neg c5] at H
          exact absurd H (by simp)
      · rw [if_neg c4] at H
        have c4b0 : decide (x9_1 < (a0.size : Int)) = false := decide_eq_false c4
        clear c4
        by_cases c23 : x3_1.length < 140737488355328
        · rw [if_pos c23] at H
          have LMc23 := Aside0.mk c23
          clear c23
          obtain ⟨y114, hy114⟩ : ∃ y_ : List Int, y_ = (x3_1 ++ [34]) := ⟨_, rfl⟩
          replace H : (some (strOfNums y114)) = some r := by first | (rw [hy114]; with_reducible exact H) | (have H2_ := (Option.bind_some _ _).symm.trans H; rw [hy114]; with_reducible exact H2_) | (have H2_ := (Option.bind_some _ _).symm.trans H; with_reducible exact H2_) | with_reducible exact H | (rw [hy114]; exact H) | exact H
          have Ny114 := Aside0.mk hy114
          clear hy114
          obtain rfl := Option.some.inj H
          go_wp2_with (first | ((with_reducible refine gate_builtin (b := .append) (xs := #[.tmp 31, .tmp 32]) rfl ?_); at_builtin; refine Kd.R_append (Kd.int .u8) (w0 := w) w.heap.size rfl (.tmp 31) (.tmp 32) 39 5 (.int .u8 0) 1 rfl Tryd.underlying39 info5 rfl (by decide) (by omega) u3 x3_1 34 [.int .u8 34] (fun _ => True) (fun _ => False) rfl rfl ?aP (fun _ hk => hk.elim) ?aF ?aO ?aB ?aS ?aL ?_; (case aP => exact rfl); (case aB => exact (by repeat (first | (with_reducible first | exact HB.out | apply below_alloc | apply pw_below_drewN | apply below_drew1) | exact HB.out))); (case aF => exact (fun _ _ => trivial)); (case aO => exact (by (with_reducible repeat (first | apply Kd.R_alloc | apply Kd.R_drewN | apply Kd.R_drew)); exact HO_3.out)); (case aS => exact (below_size (by repeat (first | (with_reducible first | exact HB.out | apply below_alloc | apply pw_below_drewN | apply below_drew1) | exact HB.out)))); (case aL => have := LMc23.out; omega); intro v115 w24 ho hb hg hat; rw [← Ny114.out] at ho; have n0_ := Aside0.mk (hb); have n1_ := Aside0.mk (ho); clear HB; clear HO_3; have HB := n0_; have HO116 := n1_; clear n0_ n1_; clear ho hb hg hat; have hcv25 := own_string (P := Tryd.prog) Tryd.underlying39 Tryd.underlying5 Tryd.underlying9 (Kd.own_of_R HO116.out)))
          repeat (go_quiet (first | ((with_reducible refine gate_builtin (b := .append) (xs := #[.tmp 31, .tmp 32]) rfl ?_); at_builtin; refine Kd.R_append (Kd.int .u8) (w0 := w) w.heap.size rfl (.tmp 31) (.tmp 32) 39 5 (.int .u8 0) 1 rfl Tryd.underlying39 info5 rfl (by decide) (by omega) u3 x3_1 34 [.int .u8 34] (fun _ => True) (fun _ => False) rfl rfl ?aP (fun _ hk => hk.elim) ?aF ?aO ?aB ?aS ?aL ?_; (case aP => exact rfl); (case aB => exact (by repeat (first | (with_reducible first | exact HB.out | apply below_alloc | apply pw_below_drewN | apply below_drew1) | exact HB.out))); (case aF => exact (fun _ _ => trivial)); (case aO => exact (by (with_reducible repeat (first | apply Kd.R_alloc | apply Kd.R_drewN | apply Kd.R_drew)); exact HO_3.out)); (case aS => exact (below_size (by repeat (first | (with_reducible first | exact HB.out | apply below_alloc | apply pw_below_drewN | apply below_drew1) | exact HB.out)))); (case aL => have := LMc23.out; omega); intro v115 w24 ho hb hg hat; rw [← Ny114.out] at ho; have n0_ := Aside0.mk (hb); have n1_ := Aside0.mk (ho); clear HB; clear HO_3; have HB := n0_; have HO116 := n1_; clear n0_ n1_; clear ho hb hg hat; have hcv25 := own_string (P := Tryd.prog) Tryd.underlying39 Tryd.underlying5 Tryd.underlying9 (Kd.own_of_R HO116.out))); try go_wp2_with (first | ((with_reducible refine gate_builtin (b := .append) (xs := #[.tmp 31, .tmp 32]) rfl ?_); at_builtin; refine Kd.R_append (Kd.int .u8) (w0 := w) w.heap.size rfl (.tmp 31) (.tmp 32) 39 5 (.int .u8 0) 1 rfl Tryd.underlying39 info5 rfl (by decide) (by omega) u3 x3_1 34 [.int .u8 34] (fun _ => True) (fun _ => False) rfl rfl ?aP (fun _ hk => hk.elim) ?aF ?aO ?aB ?aS ?aL ?_; (case aP => exact rfl); (case aB => exact (by repeat (first | (with_reducible first | exact HB.out | apply below_alloc | apply pw_below_drewN | apply below_drew1) | exact HB.out))); (case aF => exact (fun _ _ => trivial)); (case aO => exact (by (with_reducible repeat (first | apply Kd.R_alloc | apply Kd.R_drewN | apply Kd.R_drew)); exact HO_3.out)); (case aS => exact (below_size (by repeat (first | (with_reducible first | exact HB.out | apply below_alloc | apply pw_below_drewN | apply below_drew1) | exact HB.out)))); (case aL => have := LMc23.out; omega); intro v115 w24 ho hb hg hat; rw [← Ny114.out] at ho; have n0_ := Aside0.mk (hb); have n1_ := Aside0.mk (ho); clear HB; clear HO_3; have HB := n0_; have HO116 := n1_; clear n0_ n1_; clear ho hb hg hat; have hcv25 := own_string (P := Tryd.prog) Tryd.underlying39 Tryd.underlying5 Tryd.underlying9 (Kd.own_of_R HO116.out))))
          go_ret
          exact ⟨by first | rfl | (simp [errW_none, errW_some] <;> rfl) | (simp [*, errW_none, errW_some] <;> rfl), by repeat (first | (with_reducible first | exact HB.out | apply below_alloc | apply pw_below_drewN | apply below_drew1) | exact HB.out)⟩
        · rw [if_neg c23] at H
          exact absurd H (by simp)

/-! ### strconv_Itoa: function 22 -/
def strconv_Itoa.f (a0 : Int) : Option (ByteArray) := if -9223372036854775808 ≤ a0 ∧ a0 ≤ 9223372036854775807 then some (bs (Lib.itoa a0)) else none
theorem below_grow {w : World} (k : Nat) (o : Array Obj) : Below w.heap.size w (Go.Sort.grow (w.drewN k) o) :=
  ⟨rfl, rfl, rfl, by simp, fun i hi => Go.Sort.heap_grow_old (w.drewN k) o (by simpa using hi)⟩
theorem strconv_Itoa.calls (a0 : Int) (r : ByteArray) (w : World) (hTab : Tab w) (h : strconv_Itoa.f a0 = some r) :
    Calls Tryd.prog 22 #[.int .i64 a0] w fun e w' => e = .returned (.string r) ∧ Below w.heap.size w w' := by
  unfold strconv_Itoa.f at h
  split at h
  · rename_i e
    obtain rfl := Option.some.inj h
    refine (Tryd.strconv_Itoa a0 e.1 e.2 w hTab.tab).mono ?_
    rintro e w' ⟨rfl, k, o, rfl⟩
    exact ⟨rfl, below_grow k o⟩
  · exact absurd h (by simp)

/-! ### strconv_FormatBool_42: function 42 -/
def strconv_FormatBool_42.f (a0 : Bool) : Option (ByteArray) := if a0 = true then (some (⟨#[116, 114, 117, 101]⟩ : ByteArray)) else (some (⟨#[102, 97, 108, 115, 101]⟩ : ByteArray))
set_option maxHeartbeats 8000000 in
set_option maxRecDepth 100000 in
theorem strconv_FormatBool_42.calls (a0 : Bool) (r : ByteArray) (w : World) (h : strconv_FormatBool_42.f a0 = some r) :
    Calls Tryd.prog 42 #[.bool a0] w fun e w' => e = .returned (.string r) ∧ Drawn0 w w' := by
  have H : (if a0 = true then (some (⟨#[116, 114, 117, 101]⟩ : ByteArray)) else (some (⟨#[102, 97, 108, 115, 101]⟩ : ByteArray))) = some r := h
  clear h
  by_cases c2 : a0 = true
  · subst c2
    have H1 : (some (⟨#[116, 114, 117, 101]⟩ : ByteArray)) = some r := by rw [if_pos rfl] at H; exact H
    clear H
    have H := H1
    clear H1
    obtain rfl := Option.some.inj H
    go_enter Tryd.func42, Tryd.ntmps42
    go_wp2
    go_ret
    exact ⟨by first | rfl | (simp; done) | (simp [*]; done), by repeat (first | exact Drawn0.refl _ | apply Drawn0.step)⟩
  · replace c2 := Bool.eq_false_iff.mpr c2
    subst c2
    have H1 : (some (⟨#[102, 97, 108, 115, 101]⟩ : ByteArray)) = some r := by rw [if_neg (show ¬ (false = true) by decide)] at H; exact H
    clear H
    have H := H1
    clear H1
    obtain rfl := Option.some.inj H
    go_enter Tryd.func42, Tryd.ntmps42
    go_wp2
    go_ret
    exact ⟨by first | rfl | (simp; done) | (simp [*]; done), by repeat (first | exact Drawn0.refl _ | apply Drawn0.step)⟩

/-! ### strconv_FormatBool_23: function 23 -/
def strconv_FormatBool_23.f (a0 : Bool) : Option (ByteArray) := (strconv_FormatBool_42.f a0).bind fun t117 => (some t117)
set_option maxHeartbeats 8000000 in
set_option maxRecDepth 100000 in
theorem strconv_FormatBool_23.calls (a0 : Bool) (r : ByteArray) (w : World) (h : strconv_FormatBool_23.f a0 = some r) :
    Calls Tryd.prog 23 #[.bool a0] w fun e w' => e = .returned (.string r) ∧ Drawn0 w w' := by
  have H : ((strconv_FormatBool_42.f a0).bind fun t117 => (some t117)) = some r := h
  clear h
  replace H := Option.bind_eq_some_iff.mp H
  obtain ⟨t117, A20, H⟩ := H
  replace H : (some t117) = some r := H
  have A2 := Aside0.mk A20
  clear A20
  obtain rfl := Option.some.inj H
  go_enter Tryd.func23, Tryd.ntmps23
  go_wp2_with (first | ((with_reducible refine gate_callee (f := 42) rfl ?_); refine goesL_ (some 4) rfl rfl Tryd.func42 (by kernel_rfl) rfl #[.bool a0] rfl (by (try simp only [List.map_toArray, List.map_cons, List.map_nil]); first | done | rfl | (simp only [List.length_drop, List.length_take]; rfl)) ?_; (with_reducible refine (strconv_FormatBool_42.calls a0 t117 _ A2.out).mono ?_); rintro e w' ⟨rfl, ⟨nd, rfl⟩⟩; refine ⟨_, rfl, ?_⟩))
  go_ret
  exact ⟨by first | rfl | (simp; done) | (simp [*]; done), by repeat (first | exact Drawn0.refl _ | apply Drawn0.step)⟩

/-! ### strings_Join: function 24 -/
def strings_Join.f (l0 : List ByteArray) (a1 : ByteArray) : Option (ByteArray) := if (Lib.join (l0.map (·.data.toList)) a1.data.toList).length ≤ 140737488355328 ∧ l0.length ≤ 140737488355328 then some (bs (Lib.join (l0.map (·.data.toList)) a1.data.toList)) else none
theorem addr_plain {w : World} {a : Addr} {v : Value} (h : w.cell? a = some v) : a = ⟨a.block, a.off, none⟩ := by
  unfold World.cell? at h
  split at h
  · split at h
    · exact absurd h (by simp)
    · rename_i hs
      cases a with
      | mk b o s => cases s with
        | none => rfl
        | some x => exact absurd rfl hs
  · exact absurd h (by simp)
theorem strings_Join.calls (A0 : Option Addr) (c0 : Nat) (l0 : List ByteArray) (a1 : ByteArray) (r : ByteArray) (w : World) (hr0 : Kd.C Kd.string w A0 l0.length l0) (hc0 : l0.length ≤ c0) (h : strings_Join.f l0 a1 = some r) :
    Calls Tryd.prog 24 #[.slice A0 l0.length c0, .string a1] w fun e w' => e = .returned (.string r) ∧ Below w.heap.size w w' := by
  unfold strings_Join.f at h
  split at h
  · rename_i hl
    obtain rfl := Option.some.inj h
    rcases Nat.eq_zero_or_pos l0.length with h0 | h0
    · obtain rfl : l0 = [] := List.eq_nil_of_length_eq_zero h0
      exact (Tryd.strings_Join_none A0 c0 a1 w).mono fun e w' h => ⟨h.1, by rw [h.2]; exact Below.refl _ _⟩
    · obtain ⟨ad, rfl, hc⟩ := hr0.2.2 h0
      have hcell : ∀ (j : Nat) x, l0[j]? = some x → w.cell? (ad.add j) = some (.string x) := by
        intro j x hx
        obtain ⟨c, _, hk, hu⟩ := hc j x hx
        have := hu 0 (.string x) (by rw [show c = [Value.string x] from hk]; rfl)
        simpa [show Kd.string.sz = 1 from rfl] using this
      have h1 := hcell 0 l0[0] (List.getElem?_eq_getElem h0)
      have hp : ad = ⟨ad.block, ad.off, none⟩ := addr_plain (by simpa [Addr.add] using h1)
      rw [hp] at hcell ⊢
      refine Tryd.strings_Join ad.block ad.off c0 l0 a1 w (fun j x hx => ?_) (World.block_lt_of_cell? w ad (by simpa [Addr.add] using h1)) hl.2 hc0 hl.1
      have := hcell j x hx
      unfold Addr.add at this
      split at this
      · rename_i e; rw [e]; exact this
      · exact this
  · exact absurd h (by simp)

end Go.Proofs.YtnijnemkjnnolaaDoor.P
