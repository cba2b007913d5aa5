-- Written by a program of this session (wip/mp): the kit's print, with contracts proved by hand let in as printed ones.
import Derived.Test.YtnijnemkjnnolaaDoorPx0
import Derived.Test.YtnijnemkjnnolaaDoorPx2
import Derived.Test.YtnijnemkjnnolaaDoorPx3
import Derived.Test.YtnijnemkjnnolaaDoorPx4
namespace Go.Proofs.YtnijnemkjnnolaaDoor.P
open Go.RowKit Go.Proofs.YtnijnemkjnnolaaDoorW.PrintWords Go.Proofs.YtnijnemkjnnolaaDoorW.PrintLast Go.Proofs.YtnijnemkjnnolaaDoorW.PrintMore
attribute [local go_sem] max2_int min2_int max_two min_two max_three min_three max_four min_four   -- for this text's walks alone
set_option linter.unusedVariables false
set_option linter.unusedSimpArgs false

/-! ### Numbers -/
def dig (c : UInt8) : Bool := decide (48 ≤ c.toNat ∧ c.toNat ≤ 57)
def numAcc (n : Nat) (l : List UInt8) : Nat := l.foldl (fun n c => 10 * n + (c.toNat - 48)) n
/-- The number that digits are. -/
def numP (l : List UInt8) : Option Nat := if l.length < 1 ∨ 9 < l.length ∨ (1 < l.length ∧ l.head? = some 48) then none else if l.all dig = true then some (numAcc 0 l) else none
def numR (l : List UInt8) : Int × Bool := match numP l with
  | none => (0, false)
  | some n => ((n : Int), true)
theorem wrap_id {x : Int} (h0 : -9223372036854775808 ≤ x) (h1 : x ≤ 9223372036854775807) : wrap64 x = x := by unfold wrap64; omega
theorem number_j0 (k : Nat) (s : ByteArray) : text_Number.j0 (k + 1) s false = text_Number.l0 k s 0 (s.size : Int) 0 := by
  rw [text_Number.j0]
  exact if_neg (by decide)
theorem bt_get (s : ByteArray) (i : Nat) (h : i < s.size) : bt s (i : Int) = (s[i].toNat : Int) := by simp [bt, h]
theorem num_loop (s : ByteArray) (hs : s.size ≤ 9) : ∀ (d i acc : Nat), s.size - i = d → i ≤ s.size → acc < 10 ^ i → ∀ k, d < k →
    text_Number.l0 k s (acc : Int) (s.size : Int) (i : Int) = some (if (s.data.toList.drop i).all dig = true then (((numAcc acc (s.data.toList.drop i) : Nat) : Int), true) else ((0 : Int), false)) := by
  intro d
  induction d with
  | zero =>
    intro i acc hd hi ha k hk
    obtain ⟨k, rfl⟩ : ∃ m, k = m + 1 := ⟨k - 1, by omega⟩
    have e : i = s.size := by omega
    subst e
    simp only [text_Number.l0]
    rw [if_neg (by omega), unq_past s s.size (by omega)]
    rfl
  | succ d ih =>
    intro i acc hd hi ha k hk
    obtain ⟨k, rfl⟩ : ∃ m, k = m + 1 := ⟨k - 1, by omega⟩
    have hlt : i < s.size := by omega
    have hpow : acc < 100000000 := Nat.lt_of_lt_of_le ha (Nat.le_trans (Nat.pow_le_pow_right (n := 10) (by decide) (show i ≤ 8 by omega)) (by decide))
    have hnext : ∀ c, c ≤ 9 → 10 * acc + c < 10 ^ (i + 1) := by
      intro c hc
      rw [Nat.pow_succ]
      generalize 10 ^ i = P at ha
      omega
    clear ha
    have hc := (s[i]).toNat_lt
    simp only [text_Number.l0]
    rw [if_pos (show (i : Int) < (s.size : Int) by omega), if_pos (show (0 : Int) ≤ (i : Int) by omega), if_pos (show (i : Int) < (s.size : Int) by omega), bt_get s i hlt, unq_at s i hlt]
    by_cases h1 : (s[i].toNat : Int) < 48
    · have hdg : dig s[i] = false := by unfold dig; exact decide_eq_false (by omega)
      rw [if_pos h1]
      rw [if_neg (by rw [List.all_cons, hdg]; simp)]
    · rw [if_neg h1]
      by_cases h2 : (s[i].toNat : Int) > 57
      · have hdg : dig s[i] = false := by unfold dig; exact decide_eq_false (by omega)
        rw [if_pos h2]
        rw [if_neg (by rw [List.all_cons, hdg]; simp)]
      · rw [if_neg h2]
        have hdg : dig s[i] = true := by unfold dig; exact decide_eq_true (by omega)
        have e1 : wrap64 (wrap64 (10 * (acc : Int)) + (((s[i].toNat : Int) - 48) % 256)) = ((10 * acc + (s[i].toNat - 48) : Nat) : Int) := by
          rw [wrap_id (x := 10 * (acc : Int)) (by omega) (by omega), Int.emod_eq_of_lt (by omega) (by omega), wrap_id (by omega) (by omega)]
          omega
        have e2 : wrap64 ((i : Int) + 1) = ((i + 1 : Nat) : Int) := by
          rw [wrap_id (by omega) (by omega)]
          omega
        rw [e1, e2, ih (i + 1) _ (by omega) (by omega) (hnext _ (by omega)) k (by omega)]
        simp only [List.all_cons, hdg, Bool.true_and]
        rfl
theorem num_f (s : ByteArray) : text_Number.f 11 s = some (numR s.data.toList) := by
  have hl : s.data.toList.length = s.size := by rw [Array.length_toList]; rfl
  unfold text_Number.f numR numP
  rw [hl]
  by_cases h1 : s.size < 1
  · rw [if_pos (by omega), if_pos (Or.inl h1)]; rfl
  · rw [if_neg (by omega)]
    by_cases h2 : 9 < s.size
    · rw [if_pos (by omega), if_pos (Or.inr (Or.inl h2))]; rfl
    · rw [if_neg (by omega)]
      have hat := unq_at s 0 (by omega)
      rw [List.drop_zero] at hat
      have hloop := num_loop s (by omega) s.size 0 0 (by omega) (by omega) (by simp) 10 (by omega)
      rw [List.drop_zero] at hloop
      by_cases h3 : 1 < s.size
      · rw [if_pos (by omega), if_pos (by omega), show (0 : Int) = ((0 : Nat) : Int) from rfl, bt_get s 0 (by omega)]
        by_cases h4 : s[0] = 48
        · rw [if_pos (Or.inr (Or.inr ⟨h3, by rw [hat, h4]; rfl⟩)), h4]
          rfl
        · have e : ((s[0].toNat : Int) == 48) = false := by
            rw [beq_eq_false_iff_ne]
            intro e
            exact h4 (UInt8.toNat_inj.1 (by have : s[0].toNat = 48 := by omega
                                            rw [this]; rfl))
          have hno : ¬ (s.size < 1 ∨ 9 < s.size ∨ (1 < s.size ∧ s.data.toList.head? = some 48)) := by
            rintro (h | h | ⟨_, h⟩)
            · omega
            · omega
            · rw [hat] at h
              exact h4 (Option.some.inj h)
          rw [e, if_neg hno, number_j0]
          refine hloop.trans ?_
          by_cases hd : s.data.toList.all dig = true
          · rw [if_pos hd, if_pos hd]
          · rw [if_neg hd, if_neg hd]
            rfl
      · rw [if_neg (by omega), if_neg (by omega), number_j0]
        refine hloop.trans ?_
        by_cases hd : s.data.toList.all dig = true
        · rw [if_pos hd, if_pos hd]
        · rw [if_neg hd, if_neg hd]
theorem text_Number_any (s : ByteArray) (w : World) :
    Calls Tryd.prog 58 #[.string s] w fun e w' => e = .returned (.tuple #[.int .i64 (numR s.data.toList).1, .bool (numR s.data.toList).2]) ∧ Drawn0 w w' :=
  text_Number.calls 11 s _ _ w (num_f s)
/-- What reader.number answers: its value's number, the state behind it; none: it is no number. -/
def digitSet : ByteArray := ⟨#[48, 49, 50, 51, 52, 53, 54, 55, 56, 57]⟩
def numberP (s : ByteArray) (st : RSt) : Option Int × RSt :=
  let minus := nextIs s st.pos ⟨#[45]⟩
  let p1 := if minus = true then st.pos + 1 else st.pos
  let p2 := spanTo s p1 digitSet
  let r := numR (s.extract p1 p2).data.toList
  let st2 : RSt := { st with pos := p2 }
  if r.2 = false ∨ (minus = true ∧ r.1 = 0) then (none, wrongP st2 st.pos 1) else (some (if minus = true then -r.1 else r.1), st2)
theorem numAcc_lt : ∀ (l : List UInt8) (n : Nat), l.all dig = true → numAcc n l < (n + 1) * 10 ^ l.length := by
  intro l
  induction l with
  | nil => intro n _; simp [numAcc]
  | cons c l ih =>
    intro n h
    simp only [List.all_cons, Bool.and_eq_true] at h
    have hc : 48 ≤ c.toNat ∧ c.toNat ≤ 57 := of_decide_eq_true h.1
    have := ih (10 * n + (c.toNat - 48)) h.2
    unfold numAcc at this ⊢
    rw [List.foldl_cons]
    refine Nat.lt_of_lt_of_le this ?_
    rw [List.length_cons, Nat.pow_succ, Nat.mul_comm (10 ^ l.length) 10, ← Nat.mul_assoc]
    exact Nat.mul_le_mul_right _ (by omega)
theorem numR_range (l : List UInt8) : 0 ≤ (numR l).1 ∧ (numR l).1 ≤ 999999999 := by
  unfold numR numP
  split
  · exact ⟨by omega, by omega⟩
  · rename_i n h
    split at h
    · exact absurd h (by simp)
    · split at h
      · rename_i h1 h2
        obtain rfl := Option.some.inj h
        have := numAcc_lt l 0 h2
        have h3 : 10 ^ l.length ≤ 10 ^ 9 := Nat.pow_le_pow_right (by omega) (by omega)
        omega
      · exact absurd h (by simp)
/-- Five cells of a block, stored one by one. -/
def set5 (w : World) (V : Nat) (a b c d e : Value) : World := ((((w.setCell ⟨V, 0, none⟩ a).setCell ⟨V, 1, none⟩ b).setCell ⟨V, 2, none⟩ c).setCell ⟨V, 3, none⟩ d).setCell ⟨V, 4, none⟩ e
theorem set5_blk {w : World} {V : Nat} {t : TypeId} {x0 x1 x2 x3 x4 : Value} (h : w.heap[V]? = some (.cells #[x0, x1, x2, x3, x4] t (0, 0))) (a b c d e : Value) : (set5 w V a b c d e).heap[V]? = some (.cells #[a, b, c, d, e] t (0, 0)) :=
  blk_put (blk_put (blk_put (blk_put (blk_put h 0 a rfl) 1 b rfl) 2 c rfl) 3 d rfl) 4 e rfl
theorem set5_kp {S : Nat → Prop} {w0 w : World} {V : Nat} (h : Kp S w0 w) (hV : S V ∨ w0.heap.size ≤ V) (a b c d e : Value) : Kp S w0 (set5 w V a b c d e) :=
  Kp.setCell (Kp.setCell (Kp.setCell (Kp.setCell (Kp.setCell h (p := ⟨V, 0, none⟩) hV _) (p := ⟨V, 1, none⟩) hV _) (p := ⟨V, 2, none⟩) hV _) (p := ⟨V, 3, none⟩) hV _) (p := ⟨V, 4, none⟩) hV _
theorem set5_rd {w : World} {V R C : Nat} {s : ByteArray} {st : RSt} (h : Rdr w R C s st) (hR : R ≠ V) (hC : C ≠ V) (a b c d e : Value) : Rdr (set5 w V a b c d e) R C s st :=
  h.kp (set5_kp (S := fun b => b = V) (Kp.refl _ _) (.inl rfl) a b c d e) hR hC
def zeroV : Array Value := #[.int .i64 0, .int .i64 0, .string ⟨#[]⟩, .slice none 0 0, .slice none 0 0]
theorem text_Number_is (s : ByteArray) (n : Int) (b : Bool) (h : numR s.data.toList = (n, b)) (w : World) :
    Calls Tryd.prog 58 #[.string s] w fun e w' => e = .returned (.tuple #[.int .i64 n, .bool b]) ∧ Drawn0 w w' := by
  have := text_Number_any s w
  rw [h] at this
  exact this
theorem cellV {w : World} {V : Nat} {t : TypeId} {cs : Array Value} (h : w.heap[V]? = some (.cells cs t (0, 0))) (i : Nat) (v : Value) (e : cs[i]? = some v) : w.cell? ⟨V, i, none⟩ = some v := (blk_cell h i).trans e
theorem Rdr.lt {w : World} {R C : Nat} {s : ByteArray} {st : RSt} (h : Rdr w R C s st) : R < w.heap.size ∧ C < w.heap.size := ⟨blk_lt h.rd, blk_lt h.cur⟩
/-- What reader.number hands back. -/
def NumPost (w : World) (R C : Nat) (s : ByteArray) (r : Option Int × RSt) (e : Ending) (w' : World) : Prop :=
  e = .returned (match r.1 with
    | none => .agg #[.int .i64 0, .int .i64 0, .string ⟨#[]⟩, .slice none 0 0, .slice none 0 0]
    | some n => .agg #[.int .i64 2, .int .i64 n, .string ⟨#[]⟩, .slice none 0 0, .slice none 0 0]) ∧ Rdr w' R C s r.2 ∧ Kp (RC R C) w w'
set_option maxHeartbeats 2000000 in
theorem rd_number (R C : Nat) (s : ByteArray) (st : RSt) (w : World) (h : Rdr w R C s st) (hp : st.pos ≤ s.size) (hs : s.size ≤ 140737488351232) :
    Calls Tryd.prog 36 #[.pointer (some ⟨R, 0, none⟩)] w (NumPost w R C s (numberP s st)) := by
  have hlt := h.lt
  have H0 := Lib.hid (h.alloc (.cells #[.int .i64 0, .int .i64 0, .string ⟨#[]⟩, .slice none 0 0, .slice none 0 0] 27))
  have K0 := Lib.hid (Kp.alloc (Kp.refl (RC R C) w) (.cells #[.int .i64 0, .int .i64 0, .string ⟨#[]⟩, .slice none 0 0, .slice none 0 0] 27))
  have V0 := Lib.hid (blk_new w (.cells #[.int .i64 0, .int .i64 0, .string ⟨#[]⟩, .slice none 0 0, .slice none 0 0] 27))
  have a0 := H0.out.c0
  have hVR : R ≠ w.heap.size := by omega
  have hVC : C ≠ w.heap.size := by omega
  have hVR' : ¬ RC R C w.heap.size := fun h => h.elim (fun e => hVR e.symm) (fun e => hVC e.symm)
  have hVle : RC R C w.heap.size ∨ w.heap.size ≤ w.heap.size := .inr (Nat.le_refl _)
  have Hn := Lib.hid (⟨hVR, hVC, hVR', hVle⟩ : R ≠ w.heap.size ∧ C ≠ w.heap.size ∧ ¬ RC R C w.heap.size ∧ (RC R C w.heap.size ∨ w.heap.size ≤ w.heap.size))
  clear h hlt hVR hVC hVR' hVle
  have hps : (if nextIs s st.pos ⟨#[45]⟩ = true then st.pos + 1 else st.pos) ≤ s.size := by
    split
    · rename_i hm
      unfold nextIs Lib.hasPrefix at hm
      by_cases hlt : st.pos < s.size
      · omega
      · rw [unq_past s st.pos hlt] at hm
        exact absurd hm (by decide)
    · exact hp
  obtain ⟨n, b, hnb⟩ : ∃ n b, numR (s.extract (if nextIs s st.pos ⟨#[45]⟩ = true then st.pos + 1 else st.pos) (spanTo s (if nextIs s st.pos ⟨#[45]⟩ = true then st.pos + 1 else st.pos) digitSet)).data.toList = (n, b) := ⟨_, _, rfl⟩
  have hbd := numR_range (s.extract (if nextIs s st.pos ⟨#[45]⟩ = true then st.pos + 1 else st.pos) (spanTo s (if nextIs s st.pos ⟨#[45]⟩ = true then st.pos + 1 else st.pos) digitSet)).data.toList
  rw [hnb] at hbd
  have hb0 : 0 ≤ n := hbd.1
  have hb1 : n ≤ 999999999 := hbd.2
  clear hbd
  have HN := Lib.hid (text_Number_is _ n b hnb)
  have hR : numberP s st = if b = false ∨ (nextIs s st.pos ⟨#[45]⟩ = true ∧ n = 0) then (none, wrongP { st with pos := spanTo s (if nextIs s st.pos ⟨#[45]⟩ = true then st.pos + 1 else st.pos) digitSet } st.pos 1) else (some (if nextIs s st.pos ⟨#[45]⟩ = true then -n else n), { st with pos := spanTo s (if nextIs s st.pos ⟨#[45]⟩ = true then st.pos + 1 else st.pos) digitSet }) := by
    unfold numberP
    simp only [hnb]
  clear hnb
  generalize numberP s st = r at hR ⊢
  cases hm : nextIs s st.pos ⟨#[45]⟩ with
  | true =>
    rw [hm, if_pos rfl] at hps HN
    simp only [hm, if_true] at hR
    have Hm := Lib.hid hm
    clear hm
    cases b with
    | false =>
      rw [if_pos (Or.inl rfl)] at hR
      have HR := Lib.hid hR
      clear hR
      go_enter Tryd.func36, Tryd.ntmps36
      go_wp2_with (first
        | (go_at_call 19; go_must (refine (front_At C _ _ H0.out.cur.cells.2.1).mono ?_); rintro e w1 ⟨rfl, rfl⟩)
        | (go_at_call 37; go_must (refine (cur_Take_yes C s _ _ _ H0.out.cur hp hs (by decide) Hm.out).mono ?_); rintro e w2 ⟨rfl, h2, k2⟩; have H2 := Lib.hid (H0.out.cursor h2 k2); have K2 := Lib.hid (kp_then K0.out (kp_C k2)); have V2 := Lib.hid (blk_kp V0.out k2 (fun e => Hn.out.2.1 e.symm)); have d0 := H2.out.c0; clear h2 k2)
        | (go_at_call 38; go_must (refine (cur_While C s _ digitSet _ H2.out.cur hps hs).mono ?_); rintro e w3 ⟨rfl, h3, k3⟩; have H3 := Lib.hid (H2.out.cursor h3 k3); have K3 := Lib.hid (kp_then K2.out (kp_C k3)); have V3 := Lib.hid (blk_kp V2.out k3 (fun e => Hn.out.2.1 e.symm)); clear h3 k3)
        | (go_at_call 58; go_must (refine (HN.out _).mono ?_); rintro e w4 ⟨rfl, h4⟩; have H4 := Lib.hid (H3.out.drawn h4); have K4 := Lib.hid (K3.out.drawn h4); have V4 := Lib.hid (blk_below V3.out h4.below); clear h4)
        | (go_at_call 20; go_must (refine (rd_wrong R C s _ st.pos 1 _ H4.out).mono ?_); rintro e w5 ⟨rfl, h5, k5⟩; have H5 := Lib.hid h5; have K5 := Lib.hid (kp_then K4.out (kp_R k5)); have V5 := Lib.hid (blk_kp V4.out k5 (fun e => Hn.out.1 e.symm)); have x0 := cellV V5.out 0 (.int .i64 0) rfl; have x1 := cellV V5.out 1 (.int .i64 0) rfl; have x2 := cellV V5.out 2 (.string ⟨#[]⟩) rfl; have x3 := cellV V5.out 3 (.slice none 0 0) rfl; have x4 := cellV V5.out 4 (.slice none 0 0) rfl; have y0 := blk_frozen V5.out 0; have y1 := blk_frozen V5.out 1; have y2 := blk_frozen V5.out 2; have y3 := blk_frozen V5.out 3; have y4 := blk_frozen V5.out 4; clear h5 k5))
      refine bodyPost_ret (results_cell_row rfl _ _ _ 27 _ (0, 0) _ rfl (set5_blk V5.out _ _ _ _ _) Tryd.underlying27 rfl (by kernel_rfl)) rfl ?_
      rw [HR.out]
      exact ⟨rfl, set5_rd H5.out Hn.out.1 Hn.out.2.1 _ _ _ _ _, set5_kp K5.out (.inr (Nat.le_refl _)) _ _ _ _ _⟩
    | true =>
      by_cases hn0 : n = 0
      · rw [if_pos (Or.inr ⟨trivial, hn0⟩)] at hR
        have HR := Lib.hid hR
        have e1 : (n == 0) = true := by rw [hn0]; rfl
        clear hR hn0
        go_enter Tryd.func36, Tryd.ntmps36
        go_wp2_with (first
          | (go_at_call 19; go_must (refine (front_At C _ _ H0.out.cur.cells.2.1).mono ?_); rintro e w1 ⟨rfl, rfl⟩)
          | (go_at_call 37; go_must (refine (cur_Take_yes C s _ _ _ H0.out.cur hp hs (by decide) Hm.out).mono ?_); rintro e w2 ⟨rfl, h2, k2⟩; have H2 := Lib.hid (H0.out.cursor h2 k2); have K2 := Lib.hid (kp_then K0.out (kp_C k2)); have V2 := Lib.hid (blk_kp V0.out k2 (fun e => Hn.out.2.1 e.symm)); have d0 := H2.out.c0; clear h2 k2)
          | (go_at_call 38; go_must (refine (cur_While C s _ digitSet _ H2.out.cur hps hs).mono ?_); rintro e w3 ⟨rfl, h3, k3⟩; have H3 := Lib.hid (H2.out.cursor h3 k3); have K3 := Lib.hid (kp_then K2.out (kp_C k3)); have V3 := Lib.hid (blk_kp V2.out k3 (fun e => Hn.out.2.1 e.symm)); clear h3 k3)
          | (go_at_call 58; go_must (refine (HN.out _).mono ?_); rintro e w4 ⟨rfl, h4⟩; have H4 := Lib.hid (H3.out.drawn h4); have K4 := Lib.hid (K3.out.drawn h4); have V4 := Lib.hid (blk_below V3.out h4.below); clear h4)
          | (go_at_call 20; go_must (refine (rd_wrong R C s _ st.pos 1 _ H4.out).mono ?_); rintro e w5 ⟨rfl, h5, k5⟩; have H5 := Lib.hid h5; have K5 := Lib.hid (kp_then K4.out (kp_R k5)); have V5 := Lib.hid (blk_kp V4.out k5 (fun e => Hn.out.1 e.symm)); have x0 := cellV V5.out 0 (.int .i64 0) rfl; have x1 := cellV V5.out 1 (.int .i64 0) rfl; have x2 := cellV V5.out 2 (.string ⟨#[]⟩) rfl; have x3 := cellV V5.out 3 (.slice none 0 0) rfl; have x4 := cellV V5.out 4 (.slice none 0 0) rfl; have y0 := blk_frozen V5.out 0; have y1 := blk_frozen V5.out 1; have y2 := blk_frozen V5.out 2; have y3 := blk_frozen V5.out 3; have y4 := blk_frozen V5.out 4; clear h5 k5))
        refine bodyPost_ret (results_cell_row rfl _ _ _ 27 _ (0, 0) _ rfl (set5_blk V5.out _ _ _ _ _) Tryd.underlying27 rfl (by kernel_rfl)) rfl ?_
        rw [HR.out]
        exact ⟨rfl, set5_rd H5.out Hn.out.1 Hn.out.2.1 _ _ _ _ _, set5_kp K5.out (.inr (Nat.le_refl _)) _ _ _ _ _⟩
      · rw [if_neg (fun h => h.elim (fun h => absurd h (by simp)) (fun h => hn0 h.2))] at hR
        have HR := Lib.hid hR
        have e1 : (n == 0) = false := beq_eq_false_iff_ne.2 hn0
        clear hR hn0
        go_enter Tryd.func36, Tryd.ntmps36
        go_wp2_with (first
          | (go_at_call 19; go_must (refine (front_At C _ _ H0.out.cur.cells.2.1).mono ?_); rintro e w1 ⟨rfl, rfl⟩)
          | (go_at_call 37; go_must (refine (cur_Take_yes C s _ _ _ H0.out.cur hp hs (by decide) Hm.out).mono ?_); rintro e w2 ⟨rfl, h2, k2⟩; have H2 := Lib.hid (H0.out.cursor h2 k2); have K2 := Lib.hid (kp_then K0.out (kp_C k2)); have V2 := Lib.hid (blk_kp V0.out k2 (fun e => Hn.out.2.1 e.symm)); have d0 := H2.out.c0; clear h2 k2)
          | (go_at_call 38; go_must (refine (cur_While C s _ digitSet _ H2.out.cur hps hs).mono ?_); rintro e w3 ⟨rfl, h3, k3⟩; have H3 := Lib.hid (H2.out.cursor h3 k3); have K3 := Lib.hid (kp_then K2.out (kp_C k3)); have V3 := Lib.hid (blk_kp V2.out k3 (fun e => Hn.out.2.1 e.symm)); clear h3 k3)
          | (go_at_call 58; go_must (refine (HN.out _).mono ?_); rintro e w4 ⟨rfl, h4⟩; have H4 := Lib.hid (H3.out.drawn h4); have K4 := Lib.hid (K3.out.drawn h4); have V4 := Lib.hid (blk_below V3.out h4.below); have x0 := cellV V4.out 0 (.int .i64 0) rfl; have x1 := cellV V4.out 1 (.int .i64 0) rfl; have x2 := cellV V4.out 2 (.string ⟨#[]⟩) rfl; have x3 := cellV V4.out 3 (.slice none 0 0) rfl; have x4 := cellV V4.out 4 (.slice none 0 0) rfl; have y0 := blk_frozen V4.out 0; have y1 := blk_frozen V4.out 1; have y2 := blk_frozen V4.out 2; have y3 := blk_frozen V4.out 3; have y4 := blk_frozen V4.out 4; clear h4))
        refine bodyPost_ret (results_cell_row rfl _ _ _ 27 _ (0, 0) _ rfl (set5_blk V4.out _ _ _ _ _) Tryd.underlying27 rfl (by kernel_rfl)) rfl ?_
        rw [HR.out]
        exact ⟨rfl, set5_rd H4.out Hn.out.1 Hn.out.2.1 _ _ _ _ _, set5_kp K4.out (.inr (Nat.le_refl _)) _ _ _ _ _⟩
  | false =>
    rw [hm, if_neg (by decide)] at hps HN
    simp only [hm, if_false, Bool.false_eq_true, false_and, or_false] at hR
    have Hm := Lib.hid hm
    clear hm
    cases b with
    | false =>
      rw [if_pos rfl] at hR
      have HR := Lib.hid hR
      clear hR
      go_enter Tryd.func36, Tryd.ntmps36
      go_wp2_with (first
        | (go_at_call 19; go_must (refine (front_At C _ _ H0.out.cur.cells.2.1).mono ?_); rintro e w1 ⟨rfl, rfl⟩)
        | (go_at_call 37; go_must (refine (cur_Take_no C s _ _ _ H0.out.cur hp hs Hm.out).mono ?_); rintro e w2 ⟨rfl, h2, k2⟩; have H2 := Lib.hid (H0.out.drawn k2); have K2 := Lib.hid (K0.out.drawn k2); have V2 := Lib.hid (blk_below V0.out k2.below); have d0 := H2.out.c0; clear h2 k2)
        | (go_at_call 38; go_must (refine (cur_While C s _ digitSet _ H2.out.cur hps hs).mono ?_); rintro e w3 ⟨rfl, h3, k3⟩; have H3 := Lib.hid (H2.out.cursor h3 k3); have K3 := Lib.hid (kp_then K2.out (kp_C k3)); have V3 := Lib.hid (blk_kp V2.out k3 (fun e => Hn.out.2.1 e.symm)); clear h3 k3)
        | (go_at_call 58; go_must (refine (HN.out _).mono ?_); rintro e w4 ⟨rfl, h4⟩; have H4 := Lib.hid (H3.out.drawn h4); have K4 := Lib.hid (K3.out.drawn h4); have V4 := Lib.hid (blk_below V3.out h4.below); clear h4)
        | (go_at_call 20; go_must (refine (rd_wrong R C s _ st.pos 1 _ H4.out).mono ?_); rintro e w5 ⟨rfl, h5, k5⟩; have H5 := Lib.hid h5; have K5 := Lib.hid (kp_then K4.out (kp_R k5)); have V5 := Lib.hid (blk_kp V4.out k5 (fun e => Hn.out.1 e.symm)); have x0 := cellV V5.out 0 (.int .i64 0) rfl; have x1 := cellV V5.out 1 (.int .i64 0) rfl; have x2 := cellV V5.out 2 (.string ⟨#[]⟩) rfl; have x3 := cellV V5.out 3 (.slice none 0 0) rfl; have x4 := cellV V5.out 4 (.slice none 0 0) rfl; have y0 := blk_frozen V5.out 0; have y1 := blk_frozen V5.out 1; have y2 := blk_frozen V5.out 2; have y3 := blk_frozen V5.out 3; have y4 := blk_frozen V5.out 4; clear h5 k5))
      refine bodyPost_ret (results_cell_row rfl _ _ _ 27 _ (0, 0) _ rfl (set5_blk V5.out _ _ _ _ _) Tryd.underlying27 rfl (by kernel_rfl)) rfl ?_
      rw [HR.out]
      exact ⟨rfl, set5_rd H5.out Hn.out.1 Hn.out.2.1 _ _ _ _ _, set5_kp K5.out (.inr (Nat.le_refl _)) _ _ _ _ _⟩
    | true =>
      rw [if_neg (by decide)] at hR
      have HR := Lib.hid hR
      clear hR
      go_enter Tryd.func36, Tryd.ntmps36
      go_wp2_with (first
        | (go_at_call 19; go_must (refine (front_At C _ _ H0.out.cur.cells.2.1).mono ?_); rintro e w1 ⟨rfl, rfl⟩)
        | (go_at_call 37; go_must (refine (cur_Take_no C s _ _ _ H0.out.cur hp hs Hm.out).mono ?_); rintro e w2 ⟨rfl, h2, k2⟩; have H2 := Lib.hid (H0.out.drawn k2); have K2 := Lib.hid (K0.out.drawn k2); have V2 := Lib.hid (blk_below V0.out k2.below); have d0 := H2.out.c0; clear h2 k2)
        | (go_at_call 38; go_must (refine (cur_While C s _ digitSet _ H2.out.cur hps hs).mono ?_); rintro e w3 ⟨rfl, h3, k3⟩; have H3 := Lib.hid (H2.out.cursor h3 k3); have K3 := Lib.hid (kp_then K2.out (kp_C k3)); have V3 := Lib.hid (blk_kp V2.out k3 (fun e => Hn.out.2.1 e.symm)); clear h3 k3)
        | (go_at_call 58; go_must (refine (HN.out _).mono ?_); rintro e w4 ⟨rfl, h4⟩; have H4 := Lib.hid (H3.out.drawn h4); have K4 := Lib.hid (K3.out.drawn h4); have V4 := Lib.hid (blk_below V3.out h4.below); have x0 := cellV V4.out 0 (.int .i64 0) rfl; have x1 := cellV V4.out 1 (.int .i64 0) rfl; have x2 := cellV V4.out 2 (.string ⟨#[]⟩) rfl; have x3 := cellV V4.out 3 (.slice none 0 0) rfl; have x4 := cellV V4.out 4 (.slice none 0 0) rfl; have y0 := blk_frozen V4.out 0; have y1 := blk_frozen V4.out 1; have y2 := blk_frozen V4.out 2; have y3 := blk_frozen V4.out 3; have y4 := blk_frozen V4.out 4; clear h4))
      refine bodyPost_ret (results_cell_row rfl _ _ _ 27 _ (0, 0) _ rfl (set5_blk V4.out _ _ _ _ _) Tryd.underlying27 rfl (by kernel_rfl)) rfl ?_
      rw [HR.out]
      exact ⟨rfl, set5_rd H4.out Hn.out.1 Hn.out.2.1 _ _ _ _ _, set5_kp K4.out (.inr (Nat.le_refl _)) _ _ _ _ _⟩

/-! ### What the reader makes of a text: plain functions, and what they keep -/
abbrev KV := List ByteArray × List S27
def takeP (s : ByteArray) (st : RSt) (b : ByteArray) : RSt := if nextIs s st.pos b = true then { st with pos := st.pos + b.size } else st
def partL (value : RSt → S27 × RSt) (kv : KV) (st : RSt) : KV × RSt := ((kv.1, kv.2 ++ [(value st).1]), (value st).2)
def pairQ (s : ByteArray) (keys : List ByteArray) (st : RSt) : RSt :=
  if (quotedP s (blanksP s st)).2.e = 0 ∧ hasS keys (quotedP s (blanksP s st)).1 = true then wrongP (quotedP s (blanksP s st)).2 (blanksP s st).pos 4 else (quotedP s (blanksP s st)).2
def partM (s : ByteArray) (value : RSt → S27 × RSt) (kv : KV) (st : RSt) : KV × RSt :=
  let m := mustP s (pairQ s kv.1 st) ⟨#[58]⟩
  if m.1 = false then (kv, m.2) else ((kv.1 ++ [(quotedP s (blanksP s st)).1], kv.2 ++ [(value m.2).1]), (value m.2).2)
def loopP (s en : ByteArray) (part : KV → RSt → KV × RSt) : Nat → KV → RSt → KV × RSt
  | 0, kv, st => (kv, st)
  | n + 1, kv, st =>
    if st.e = 0 then
      let st1 := blanksP s st
      if nextIs s st1.pos en = true then (kv, takeP s st1 en)
      else
        let m := mustP s st1 ⟨#[44]⟩
        if m.2.e = 0 then let r := part kv m.2; loopP s en part n r.1 r.2 else (kv, m.2)
    else (kv, st)
def openP (s be : ByteArray) (st : RSt) : RSt := blanksP s { takeP s st be with deep := st.deep + 1 }
def bodyP (s en : ByteArray) (part : KV → RSt → KV × RSt) (st2 : RSt) : KV × RSt :=
  if nextIs s st2.pos en = true then (([], []), takeP s st2 en) else
    let p := part ([], []) st2
    loopP s en part (s.size + 1) p.1 p.2
def insideP (s be en : ByteArray) (part : KV → RSt → KV × RSt) (st : RSt) : KV × RSt :=
  if 8 ≤ st.deep then (([], []), wrongP st st.pos 3) else
    let r := bodyP s en part (openP s be st)
    (r.1, { r.2 with deep := r.2.deep - 1 })
def valP (r : Option Int × RSt) : S27 × RSt := (match r.1 with
  | none => z27
  | some n => ⟨2, n, ⟨#[]⟩, [], []⟩, r.2)
theorem valP_goes {P : RSt → Prop} {r : Option Int × RSt} (h : P r.2) : P (valP r).2 := h
def pV (s : ByteArray) : Nat → RSt → S27 × RSt
  | 0, st => (z27, st)
  | d + 1, st =>
    let st1 := blanksP s st
    let b := pkB s st1.pos
    if b = 34 then let q := quotedP s st1; (⟨1, 0, q.1, [], []⟩, q.2)
    else if b = 91 then let r := insideP s ⟨#[91]⟩ ⟨#[93]⟩ (partL (pV s d)) st1; (⟨4, 0, ⟨#[]⟩, r.1.1, r.1.2⟩, r.2)
    else if b = 123 then let r := insideP s ⟨#[123]⟩ ⟨#[125]⟩ (partM s (pV s d)) st1; (⟨5, 0, ⟨#[]⟩, r.1.1, r.1.2⟩, r.2)
    else if b = 45 ∨ (48 ≤ b ∧ b ≤ 57) then valP (numberP s st1)
    else if nextIs s st1.pos ⟨#[116, 114, 117, 101]⟩ = true then (⟨3, 1, ⟨#[]⟩, [], []⟩, takeP s st1 ⟨#[116, 114, 117, 101]⟩)
    else if nextIs s st1.pos ⟨#[102, 97, 108, 115, 101]⟩ = true then (⟨3, 0, ⟨#[]⟩, [], []⟩, takeP s st1 ⟨#[102, 97, 108, 115, 101]⟩)
    else (z27, wrongP st1 st1.pos 1)
/-- How a state goes on: as deep, no place back, none beyond the text. -/
structure Goes (s : ByteArray) (st st' : RSt) : Prop where
  deep : st'.deep = st.deep
  lo : st.pos ≤ st'.pos
  hi : st'.pos ≤ s.size
theorem Goes.trans {s : ByteArray} {a b c : RSt} (h : Goes s a b) (k : Goes s b c) : Goes s a c := ⟨k.deep.trans h.deep, Nat.le_trans h.lo k.lo, k.hi⟩
theorem goes_blanks {s : ByteArray} {st : RSt} (h : st.pos ≤ s.size) : Goes s st (blanksP s st) := ⟨rfl, spanTo_ge s st.pos blankSet, spanTo_le s st.pos blankSet h⟩
theorem goes_wrong {s : ByteArray} {st : RSt} (h : st.pos ≤ s.size) (a e : Nat) : Goes s st (wrongP st a e) := by
  unfold wrongP
  split
  · exact ⟨rfl, Nat.le_refl _, h⟩
  · exact ⟨rfl, Nat.le_refl _, h⟩
theorem next_fits {s : ByteArray} {n : Nat} {p : ByteArray} (h : nextIs s n p = true) (h0 : n ≤ s.size) : n + p.size ≤ s.size := by
  unfold nextIs Lib.hasPrefix at h
  rw [List.isPrefixOf_iff_prefix] at h
  have := h.length_le
  rw [List.length_drop] at this
  have e1 : p.data.toList.length = p.size := by rw [Array.length_toList]; rfl
  have e2 : s.data.toList.length = s.size := by rw [Array.length_toList]; rfl
  omega
theorem goes_take {s : ByteArray} {st : RSt} (h : st.pos ≤ s.size) (b : ByteArray) : Goes s st (takeP s st b) := by
  unfold takeP
  split
  · rename_i hn
    exact ⟨rfl, Nat.le_add_right _ _, next_fits hn h⟩
  · exact ⟨rfl, Nat.le_refl _, h⟩
theorem goes_must {s : ByteArray} {st : RSt} (h : st.pos ≤ s.size) (b : ByteArray) : Goes s st (mustP s st b).2 := by
  have hb := goes_blanks h
  unfold mustP
  simp only
  split
  · rename_i hn
    exact ⟨hb.deep, Nat.le_trans hb.lo (Nat.le_add_right _ _), next_fits hn.2 hb.hi⟩
  · exact hb.trans (goes_wrong hb.hi _ _)
/-- What is taken without an error is taken. -/
theorem must_on {s : ByteArray} {st : RSt} (b : ByteArray) (h : (mustP s st b).2.e = 0) : st.pos + b.size ≤ (mustP s st b).2.pos := by
  have h1 := spanTo_ge s st.pos blankSet
  unfold mustP at h ⊢
  simp only at h ⊢
  split at h
  · rename_i hn
    rw [if_pos hn]
    show st.pos + b.size ≤ spanTo s st.pos blankSet + b.size
    omega
  · exfalso
    rename_i hn
    unfold wrongP at h
    split at h
    · exact absurd h (by simp)
    · rename_i h2
      exact h2 h
theorem goes_quoted {s : ByteArray} {st : RSt} (h : st.pos ≤ s.size) : Goes s st (quotedP s st).2 := by
  have hb := goes_blanks h
  unfold quotedP
  simp only
  split
  · exact hb.trans (goes_wrong hb.hi _ _)
  · rename_i o n hu
    have := unquoteP_le _ _ _ hu
    rw [List.length_drop] at this
    have e2 : s.data.toList.length = s.size := by rw [Array.length_toList]; rfl
    have := hb.hi
    exact ⟨hb.deep, Nat.le_trans hb.lo (Nat.le_add_right _ _), by show (blanksP s st).pos + n ≤ s.size; omega⟩
theorem snd_ite {α : Type} {c : Prop} [Decidable c] {a b : α × RSt} {P : RSt → Prop} (ha : P a.2) (hb : P b.2) : P (if c then a else b).2 := by
  split
  · exact ha
  · exact hb
theorem goes_number {s : ByteArray} {st : RSt} (h : st.pos ≤ s.size) : Goes s st (numberP s st).2 := by
  have hp : st.pos ≤ (if nextIs s st.pos ⟨#[45]⟩ = true then st.pos + 1 else st.pos) ∧ (if nextIs s st.pos ⟨#[45]⟩ = true then st.pos + 1 else st.pos) ≤ s.size := by
    split
    · rename_i hm
      exact ⟨by omega, next_fits hm h⟩
    · exact ⟨Nat.le_refl _, h⟩
  have h1 := spanTo_ge s (if nextIs s st.pos ⟨#[45]⟩ = true then st.pos + 1 else st.pos) digitSet
  have h2 := spanTo_le s (if nextIs s st.pos ⟨#[45]⟩ = true then st.pos + 1 else st.pos) digitSet hp.2
  have h0 : Goes s st { st with pos := spanTo s (if nextIs s st.pos ⟨#[45]⟩ = true then st.pos + 1 else st.pos) digitSet } := ⟨rfl, Nat.le_trans hp.1 h1, h2⟩
  unfold numberP
  exact snd_ite (h0.trans (goes_wrong h0.hi _ _)) h0
theorem goes_pairQ {s : ByteArray} {st : RSt} (keys : List ByteArray) (h : st.pos ≤ s.size) : Goes s st (pairQ s keys st) := by
  have hq := (goes_blanks h).trans (goes_quoted (goes_blanks h).hi)
  unfold pairQ
  split
  · exact hq.trans (goes_wrong hq.hi _ _)
  · exact hq
/-- What a part keeps. -/
structure PartGoes (s : ByteArray) (part : KV → RSt → KV × RSt) : Prop where
  goes : ∀ kv st, st.pos ≤ s.size → Goes s st (part kv st).2
  len : ∀ kv st, st.pos ≤ s.size → kv.2.length ≤ st.pos → kv.1.length ≤ kv.2.length → (part kv st).1.2.length ≤ (part kv st).2.pos + 1 ∧ (part kv st).1.1.length ≤ (part kv st).1.2.length
theorem partL_goes {s : ByteArray} {value : RSt → S27 × RSt} (hv : ∀ st, st.pos ≤ s.size → Goes s st (value st).2) : PartGoes s (partL value) :=
  ⟨fun kv st h => hv st h, fun kv st h h1 h2 => by
    have := (hv st h).lo
    unfold partL
    simp only [List.length_append, List.length_singleton]
    omega⟩
theorem partM_goes {s : ByteArray} {value : RSt → S27 × RSt} (hv : ∀ st, st.pos ≤ s.size → Goes s st (value st).2) : PartGoes s (partM s value) := by
  have hm : ∀ (kv : KV) st, st.pos ≤ s.size → Goes s st (mustP s (pairQ s kv.1 st) ⟨#[58]⟩).2 := fun kv st h => (goes_pairQ kv.1 h).trans (goes_must (goes_pairQ kv.1 h).hi _)
  refine ⟨fun kv st h => ?_, fun kv st h h1 h2 => ?_⟩
  · have := hm kv st h
    unfold partM
    simp only
    split
    · exact this
    · exact this.trans (hv _ this.hi)
  · have hm := hm kv st h
    have hl := (hv _ hm.hi).lo
    have := hm.lo
    unfold partM
    simp only
    split
    · exact ⟨by simp only; omega, h2⟩
    · simp only [List.length_append, List.length_singleton]
      omega
theorem goes_loop {s en : ByteArray} {part : KV → RSt → KV × RSt} (hp : PartGoes s part) : ∀ (n : Nat) (kv : KV) (st : RSt), st.pos ≤ s.size → Goes s st (loopP s en part n kv st).2 := by
  intro n
  induction n with
  | zero => exact fun kv st h => ⟨rfl, Nat.le_refl _, h⟩
  | succ n ih =>
    intro kv st h
    have hb := goes_blanks h
    have hm := goes_must hb.hi ⟨#[44]⟩
    unfold loopP
    simp only
    split
    · split
      · exact hb.trans (goes_take hb.hi _)
      · split
        · exact hb.trans (hm.trans ((hp.goes kv _ hm.hi).trans (ih _ _ (hp.goes kv _ hm.hi).hi)))
        · exact hb.trans hm
    · exact ⟨rfl, Nat.le_refl _, h⟩
theorem goes_open {s be : ByteArray} {st : RSt} (h : st.pos ≤ s.size) : (openP s be st).deep = st.deep + 1 ∧ st.pos ≤ (openP s be st).pos ∧ (openP s be st).pos ≤ s.size := by
  have h1 := goes_take h be
  have h2 := goes_blanks (s := s) (st := { takeP s st be with deep := st.deep + 1 }) h1.hi
  exact ⟨h2.deep, Nat.le_trans h1.lo h2.lo, h2.hi⟩
theorem goes_body {s en : ByteArray} {part : KV → RSt → KV × RSt} (hp : PartGoes s part) (st : RSt) (h : st.pos ≤ s.size) : Goes s st (bodyP s en part st).2 := by
  unfold bodyP
  split
  · exact goes_take h _
  · exact (hp.goes _ st h).trans (goes_loop hp _ _ _ (hp.goes _ st h).hi)
theorem goes_inside {s be en : ByteArray} {part : KV → RSt → KV × RSt} (hp : PartGoes s part) (st : RSt) (h : st.pos ≤ s.size) : Goes s st (insideP s be en part st).2 := by
  have ho := goes_open (be := be) h
  have hb := goes_body (en := en) hp (openP s be st) ho.2.2
  unfold insideP
  split
  · exact goes_wrong h _ _
  · exact ⟨by show (bodyP s en part (openP s be st)).2.deep - 1 = st.deep; rw [hb.deep, ho.1]; omega, Nat.le_trans ho.2.1 hb.lo, hb.hi⟩
theorem goes_pV {s : ByteArray} : ∀ (d : Nat) (st : RSt), st.pos ≤ s.size → Goes s st (pV s d st).2 := by
  intro d
  induction d with
  | zero => exact fun st h => ⟨rfl, Nat.le_refl _, h⟩
  | succ d ih =>
    intro st h
    have hb := goes_blanks h
    unfold pV
    exact snd_ite (hb.trans (goes_quoted hb.hi)) (snd_ite (hb.trans (goes_inside (partL_goes ih) _ hb.hi)) (snd_ite (hb.trans (goes_inside (partM_goes ih) _ hb.hi)) (snd_ite (valP_goes (hb.trans (goes_number hb.hi))) (snd_ite (hb.trans (goes_take hb.hi _)) (snd_ite (hb.trans (goes_take hb.hi _)) (hb.trans (goes_wrong hb.hi _ _)))))))

/-! ### The value that is being built, in its block; append of a value that was read -/
theorem kp_cell {S : Nat → Prop} {w w1 : World} {p : Addr} {v : Value} (h : w.cell? p = some v) (k : Kp S w w1) (hn : ¬ S p.block) : w1.cell? p = some v := by
  have hlt : p.block < w.heap.size := World.block_lt_of_cell? w p h
  have := k.block p.block hlt hn
  unfold World.cell? at h ⊢
  rw [this]
  exact h
/-- Two last stores, in either order. -/
theorem both_last {P : Program} {ops : Array Oper} {Q : Exit → Act → World → Prop} {md : Region.Mode} {S : World → Prop} {ds : List Nat} {i j : Nat} {oi oj : Oper} {fuel : Nat} {l : Array Bool} {a : Act} {w w1 w2 w12 w21 : World} (F : World → Prop) (li lj l' : Array Bool)
    (hi : ops[i]? = some oi) (hj : ops[j]? = some oj) (hNi : oi.dst = none) (hNj : oj.dst = none)
    (hc : (Region.ready md ops l == [i, j] && l.setIfInBounds i true == li && l.setIfInBounds j true == lj && readyB md ops li l' j && readyB md ops lj l' i && Region.ready md ops l' == []) = true) (hdi : i ∈ ds) (hdj : j ∈ ds)
    (hwi : Region.wanted oi (yielded ops a.tmps) = true) (hwj : Region.wanted oj (yielded ops a.tmps) = true)
    (r1 : (execOp a.eval oi).run P w = .ok .skip w1) (r12 : (execOp a.eval oj).run P w1 = .ok .skip w12) (r2 : (execOp a.eval oj).run P w = .ok .skip w2) (r21 : (execOp a.eval oi).run P w2 = .ok .skip w21)
    (h12 : F w12) (h21 : F w21) (hQ : ∀ w', F w' → Q .normal a w') : wpAnyLast P md ops Q S ds (fuel + 2) l a w := by
  simp only [Bool.and_eq_true, beq_iff_eq] at hc
  obtain ⟨⟨⟨⟨⟨h3, h4⟩, h5⟩, h6⟩, h7⟩, h8⟩ := hc
  have g1 : wpAnyLast P md ops Q S ds (fuel + 1) li a w1 := last_ l' hj hNj h6 hdj (fun K hK => skip_ hwj hNj r12 (hK.out _ _ (done_ (by rw [h8]; rfl) (hQ _ h12))))
  have g2 : wpAnyLast P md ops Q S ds (fuel + 1) lj a w2 := last_ l' hi hNi h7 hdi (fun K hK => skip_ hwi hNi r21 (hK.out _ _ (done_ (by rw [h8]; rfl) (hQ _ h21))))
  refine wpAnyLast_ready h3 (by simp) (AllReadyL.cons_last hi hdi (fun K hK => ?_) (AllReadyL.cons_last hj hdj (fun K hK => ?_) AllReadyL.nil))
  · rw [h4] at hK
    rw [hNi]
    exact skip_ hwi hNi r1 (hK.out _ _ g1)
  · rw [h5] at hK
    rw [hNj]
    exact skip_ hwj hNj r2 (hK.out _ _ g2)
theorem exec_store {P : Program} {a : Act} {oi : Oper} {W w1 : World} {t : TypeId} {p x : Operand} (ad : Addr) (u : Value) (ho : oi.op = .store t p x) (hp : a.eval p = .pointer (some ad)) (hx : a.eval x = u)
    (h : (Instr.storeAt t (.pointer (some ad)) u).run P W = .ok () w1) : (execOp a.eval oi).run P W = .ok .skip w1 := by
  unfold execOp
  simp only [ho, hp, hx, Sem.run_bind, Sem.run_pure, Result.andThen_ok, h]
def zeroL : List Value := [.int .i64 0, .int .i64 0, .string ⟨#[]⟩, .slice none 0 0, .slice none 0 0]
theorem zero_M (w : World) (base : Nat) (ok : Nat → Prop) : k27.M w base ok z27 zeroL := k27_mkM w base ok z27 (Kd.R_nil _ _ _ _ _) (Kd.R_nil _ _ _ _ _)
/-- A value's block. -/
structure Vb (w : World) (base V : Nat) (kind : Int) (kv : KV) (v3 v4 : Value) : Prop where
  blk : w.heap[V]? = some (.cells #[.int .i64 kind, .int .i64 0, .string ⟨#[]⟩, v3, v4] 27 (0, 0))
  keys : Kd.string.R 9 w base (fun _ => True) v3 kv.1
  vals : k27.R 27 w base (fun k => some k ≠ v3.ownBlock) v4 kv.2
theorem Vb.kp {S : Nat → Prop} {w w' : World} {base V : Nat} {kind : Int} {kv : KV} {v3 v4 : Value} (h : Vb w base V kind kv v3 v4) (k : Kp S w w') (hV : ¬ S V) (hS : ∀ b, S b → b < base) : Vb w' base V kind kv v3 v4 :=
  ⟨blk_kp h.blk k hV, Kd.R_mono (Kd.R_step (Kd.R_bound h.keys) (fun b hb hlt => k.block b hlt (fun hs => by have := hS b hs; have := hb.2.1; omega))) (fun _ hk => hk.1), Kd.R_mono (Kd.R_step (Kd.R_bound h.vals) (fun b hb hlt => k.block b hlt (fun hs => by have := hS b hs; have := hb.2.1; omega))) (fun _ hk => hk.1)⟩
/-- Blocks that are apart: the reader's, its cursor's, the value's, the box of the closure; rows that are built lie from base on. -/
structure Lie (R C V B base : Nat) : Prop where
  rc : R ≠ C
  rv : R ≠ V
  rb : R ≠ B
  cv : C ≠ V
  cb : C ≠ B
  vb : V ≠ B
  r : R < base
  c : C < base
  v : V < base
  b : B < base
/-- A world in which a part of a value is read. -/
structure Env (w : World) (R C V B base : Nat) (kind : Int) (s : ByteArray) (st : RSt) (kv : KV) (v3 v4 : Value) : Prop where
  rd : Rdr w R C s st
  vb : Vb w base V kind kv v3 v4
  box : w.heap[B]? = some (.cells #[.pointer (some ⟨R, 0, none⟩)] 47 (0, 0))
  size : base ≤ w.heap.size
def Own4 (R C V base : Nat) : Nat → Prop := fun b => b = R ∨ b = C ∨ b = V ∨ base ≤ b
theorem kp_RC4 {R C V base : Nat} {w w' : World} (h : Kp (RC R C) w w') : Kp (Own4 R C V base) w w' := h.mono (fun _ hb => hb.elim .inl (fun e => .inr (.inl e)))
theorem Env.kp {w w' : World} {R C V B base : Nat} {kind : Int} {s : ByteArray} {st st' : RSt} {kv : KV} {v3 v4 : Value} (h : Env w R C V B base kind s st kv v3 v4) (l : Lie R C V B base) (k : Kp (RC R C) w w') (hr : Rdr w' R C s st') : Env w' R C V B base kind s st' kv v3 v4 :=
  ⟨hr, h.vb.kp k (fun e => e.elim (fun e => l.rv e.symm) (fun e => l.cv e.symm)) (fun b e => e.elim (fun e => by rw [e]; exact l.r) (fun e => by rw [e]; exact l.c)), blk_kp h.box k (fun e => e.elim (fun e => l.rb e.symm) (fun e => l.cb e.symm)), Nat.le_trans h.size k.size⟩
/-- What stands before an append of a value that was read: the value, and the row of one that append is given. -/
structure Got (w1 w' : World) (R C base : Nat) (s : ByteArray) (st' : RSt) (x : S27) (v3 v4 : Value) (Z : Nat) : Prop where
  rd : Rdr w' R C s st'
  kp : Kp (RC R C) w1 w'
  m : k27.M w' base (fun k => w1.heap.size ≤ k) x [.int .i64 x.f0, .int .i64 x.f1, .string x.f2, v3, v4]
  z : w'.heap[Z]? = some (.cells zeroL.toArray 27 (0, 0))
/-- The contract of value, at a depth that is left. -/
def ValC (s : ByteArray) (d : Nat) : Prop :=
  ∀ (R C : Nat) (st : RSt) (w : World), Rdr w R C s st → st.pos ≤ s.size → st.deep ≤ 8 → 9 ≤ st.deep + d →
    Calls Tryd.prog 17 #[.pointer (some ⟨R, 0, none⟩)] w fun e w' => ∃ v3 v4,
      e = .returned (.agg #[.int .i64 (pV s d st).1.f0, .int .i64 (pV s d st).1.f1, .string (pV s d st).1.f2, v3, v4]) ∧ Kd.string.R 9 w' w.heap.size (fun _ => True) v3 (pV s d st).1.f3 ∧ k27.R 27 w' w.heap.size (fun k => some k ≠ v3.ownBlock) v4 (pV s d st).1.f4 ∧ Rdr w' R C s (pV s d st).2 ∧ Kp (RC R C) w w'
theorem got_M {w w' : World} {base : Nat} {x : S27} {v3 v4 : Value} (hb : base ≤ w.heap.size) (h3 : Kd.string.R 9 w' w.heap.size (fun _ => True) v3 x.f3) (h4 : k27.R 27 w' w.heap.size (fun k => some k ≠ v3.ownBlock) v4 x.f4) :
    k27.M w' base (fun k => w.heap.size ≤ k) x [.int .i64 x.f0, .int .i64 x.f1, .string x.f2, v3, v4] :=
  k27_mkM w' base _ x (Kd.R_lower (Kd.R_mono (Kd.R_bound h3) (fun _ hk => hk.2.1)) hb) (Kd.R_lower (Kd.R_mono (Kd.R_bound h4) (fun _ hk => hk.2.1)) hb)
set_option maxRecDepth 100000 in
/-- The value is stored into the new element. -/
theorem put_elem {W : World} {base g cap : Nat} {ok okp : Nat → Prop} {xs : List S27} {y x : S27} {n : Nat} (hn : n = (xs ++ [y]).length) (h : k27.R 27 W base ok (.slice (some ⟨g, 0, none⟩) n cap) (xs ++ [y])) {v3 v4 : Value}
    (hM : k27.M W base okp x [.int .i64 x.f0, .int .i64 x.f1, .string x.f2, v3, v4]) (hokp : ∀ k, okp k → ok k ∧ k ≠ g) :
    k27.R 27 (W.setCells g (xs.length * 5) [.int .i64 x.f0, .int .i64 x.f1, .string x.f2, v3, v4]) base ok (.slice (some ⟨g, 0, none⟩) n cap) (xs ++ [x])
    ∧ W.grownBy (W.setCells g (xs.length * 5) [.int .i64 x.f0, .int .i64 x.f1, .string x.f2, v3, v4]) (some g)
    ∧ (Instr.storeAt 27 (.pointer (some ⟨g, xs.length * 5, none⟩)) (.agg #[.int .i64 x.f0, .int .i64 x.f1, .string x.f2, v3, v4])).run Tryd.prog W = .ok () (W.setCells g (xs.length * 5) [.int .i64 x.f0, .int .i64 x.f1, .string x.f2, v3, v4]) := by
  subst hn
  have hl : (xs ++ [y]).length = xs.length + 1 := by simp
  obtain ⟨c, hcl, _, hcc⟩ := Go.Proofs.YtnijnemkjnnolaaDoorW.PrintMore.Kd.R_get h y (xs.length : Int) (by omega) (by rw [hl]; omega)
  have hcl5 : c.length = 5 := hcl
  have hsz : k27.sz = 5 := rfl
  have h2 := Kd.R_seg h (xs.length : Int) (by omega) (by rw [hl]; omega) (seg := [.int .i64 x.f0, .int .i64 x.f1, .string x.f2, v3, v4]) (j := 0) hcl (fun j u hu => by have := hcc j u hu; rwa [add_plain] at this) (by rw [hsz]; exact Nat.le_refl 5) (x' := x) (okp := okp) (by rw [List.drop_of_length_le (by rw [hcl5]; exact Nat.le_refl 5)]; simpa using hM) hokp
  have hset : (xs ++ [y]).set xs.length x = xs ++ [x] := by simp
  simp only [Int.toNat_natCast, hsz, Nat.add_zero, hset] at h2
  refine ⟨h2.1, h2.2, ?_⟩
  obtain ⟨_, inner, ho, hr⟩ := h
  rcases ho.2 with ⟨hv, _⟩ | ⟨g', cap', cur, hv, hb, hh, hnc, hcm, hcs, _⟩
  · cases hv
  injection hv with ha _ hc
  injection ha with ha
  injection ha with hg
  subst hg; subst hc
  refine run_store_run _ _ _ hh rfl (by kernel_rfl) ?_ ?_
  · rw [hcs, hsz]
    show xs.length * 5 + 5 ≤ cap * 5
    omega
  · exact Kd.K_one _ (Kd.K_of_M _ hM)

theorem temp_reads {w : World} {Z : Nat} (h : w.heap[Z]? = some (.cells zeroL.toArray 27 (0, 0))) : ReadsRow (fun (x : S27) cs => x = z27 ∧ cs = zeroL) 5 w (some ⟨Z, 0, none⟩) 1 [z27] := by
  refine ⟨rfl, by decide, fun _ => ⟨_, rfl, fun j p hj => ?_⟩⟩
  rcases j with _ | j
  · obtain rfl := Option.some.inj hj
    refine ⟨zeroL, rfl, ⟨rfl, rfl⟩, fun i u hu => ?_⟩
    rw [add_plain, Nat.zero_mul, Nat.zero_add]
    refine (blk_cell h i).trans ?_
    rw [← hu]
    simp
  · cases hj
theorem store_V {w : World} {V : Nat} {a b c d e : Value} {A : Option Addr} {n k : Nat} (h : w.heap[V]? = some (.cells #[a, b, c, d, e] 27 (0, 0))) :
    (Instr.storeAt 25 (.pointer (some ⟨V, 4, none⟩)) (.slice A n k)).run Tryd.prog w = .ok () (w.setCell ⟨V, 4, none⟩ (.slice A n k)) :=
  run_store_run _ _ [.slice A n k] h rfl (by kernel_rfl) (Nat.le_refl 5) (by simp [Value.oneCell'])
theorem blk_far2 {w w1 : World} {V g : Nat} {o : Obj} (hg : w.grownBy w1 (some g)) (h : w.heap[V]? = some o) (hne : V ≠ g) : w1.heap[V]? = some o := (hg.block V (blk_lt h) (fun e => hne (Option.some.inj e))).trans h
/-- Behind the append: a world in which a part has been read. -/
theorem fin_app {w w1 w' : World} {R C V B base : Nat} {kind : Int} {s : ByteArray} {st st' : RSt} {kv : KV} {v3 v4 : Value} {x : S27} {u3 u4 : Value} {Z g n cap : Nat} (hl : Lie R C V B base) (hE : Env w R C V B base kind s st kv v3 v4)
    (hG : Got w.drew w1 R C base s st' x u3 u4 Z) (hk : Kp (fun b => some b = v4.ownBlock ∨ b = g ∨ b = V) w1 w') (hb : w'.heap[V]? = some (.cells #[.int .i64 kind, .int .i64 0, .string ⟨#[]⟩, v3, .slice (some ⟨g, 0, none⟩) n cap] 27 (0, 0)))
    (hR : k27.R 27 w' base (fun k => some k ≠ v3.ownBlock) (.slice (some ⟨g, 0, none⟩) n cap) (kv.2 ++ [x])) :
    Env w' R C V B base kind s st' (kv.1, kv.2 ++ [x]) v3 (.slice (some ⟨g, 0, none⟩) n cap) ∧ Kp (Own4 R C V base) w w' := by
  have hg : base ≤ g := Kd.R_base hR g rfl
  have hrow : ∀ b, some b = v4.ownBlock → base ≤ b := fun b e => Kd.R_base hE.vb.vals b e.symm
  have hS : ∀ b, b < base → b ≠ V → ¬ (some b = v4.ownBlock ∨ b = g ∨ b = V) := fun b hb hV h => h.elim (fun e => by have := hrow b e; omega) (fun h => h.elim (fun e => by omega) hV)
  have k1 : Kp (RC R C) w w1 := (Kp.refl (RC R C) w).drew.then_ hG.kp
  have hvb := hE.vb.kp k1 (fun e => e.elim (fun e => hl.rv e.symm) (fun e => hl.cv e.symm)) (fun b e => e.elim (fun e => by rw [e]; exact hl.r) (fun e => by rw [e]; exact hl.c))
  refine ⟨⟨hG.rd.kp hk (hS R hl.r hl.rv) (hS C hl.c hl.cv), ⟨hb, ?_, hR⟩, blk_kp (blk_kp hE.box k1 (fun e => e.elim (fun e => hl.rb e.symm) (fun e => hl.cb e.symm))) hk (hS B hl.b (fun e => hl.vb e.symm)), Nat.le_trans hE.size (Nat.le_trans k1.size hk.size)⟩, (kp_RC4 k1).then_ (hk.mono (fun b h => h.elim (fun e => .inr (.inr (.inr (hrow b e)))) (fun h => h.elim (fun e => .inr (.inr (.inr (by rw [e]; exact hg)))) (fun e => .inr (.inr (.inl e))))))⟩
  refine Kd.R_mono (Kd.R_step (Kd.R_bound (Kd.R_tight rfl hvb.keys)) (fun b h hlt => hk.block b hlt (fun h2 => ?_))) (fun _ _ => trivial)
  rcases h2 with h2 | h2 | h2
  · exact hvb.vals.1 b h2.symm h.1
  · exact hR.1 b (by rw [h2]; rfl) h.1
  · have := h.2.1
    have := hl.v
    omega
set_option maxHeartbeats 2000000 in
set_option maxRecDepth 100000 in
theorem part_L {s : ByteArray} {d : Nat} (hV : ValC s d) {R C V B base : Nat} {kind : Int} {st : RSt} {kv : KV} {v3 v4 : Value} {w : World} (hE : Env w R C V B base kind s st kv v3 v4) (hl : Lie R C V B base) (hp : st.pos ≤ s.size) (hdp : st.deep ≤ 8) (hd9 : 9 ≤ st.deep + d) (hlen : kv.2.length ≤ 1000000000) :
    Calls Tryd.prog 33 #[.pointer (some ⟨V, 0, none⟩), .pointer (some ⟨B, 0, none⟩)] w fun e w' => e = .returned (.tuple #[]) ∧ ∃ v3' v4', Env w' R C V B base kind s (partL (pV s d) kv st).2 (partL (pV s d) kv st).1 v3' v4' ∧ Kp (Own4 R C V base) w w' := by
  have hv := fun w h => hV R C st w h hp hdp hd9
  unfold partL
  generalize hx : pV s d st = r at hv ⊢
  obtain ⟨x, st'⟩ := r
  simp only at hv ⊢
  clear hx hp hdp hd9 hV
  obtain ⟨A, c, hv4⟩ := own_slice hE.vb.vals.2.choose_spec.1
  subst hv4
  have HE := Lib.hid hE
  have Hl := Lib.hid hl
  have Hv := Lib.hid hv
  have hVC : ¬ RC R C V := fun e => e.elim (fun e => hl.rv e.symm) (fun e => hl.cv e.symm)
  have hBC : ¬ RC R C B := fun e => e.elim (fun e => hl.rb e.symm) (fun e => hl.cb e.symm)
  have hi0 : (kv.2.length : Int) < (kv.2.length : Int) + 1 := by omega
  clear hE hl hv
  go_enter Tryd.func33, Tryd.ntmps33
  go_wp2_with fail
  refine start_ (n := 11) (S := fun w' => w'.cell? ⟨V, 4, none⟩ = some (.slice A kv.2.length c) ∧ w'.cell? ⟨B, 0, none⟩ = some (.pointer (some ⟨R, 0, none⟩))) (ds := [8, 10]) #[false, false, false, false, false, false, false, false, false, false, false] (by kernel_rfl) rfl rfl ⟨cellV HE.out.vb.blk 4 _ rfl, cellV HE.out.box 0 _ rfl⟩ (fun hHeld => ?_)
  refine pure_ (i := 0) (N := some 2) (v := ?_) (a' := ?_) #[true, false, false, false, false, false, false, false, false, false, false] rfl rfl (by kernel_rfl) (fun _ _ _ h => h) (Or.inl ⟨by rfl, ?_⟩) ?_ ?_
  rotate_left
  · intro w'
    go_simp
    with_reducible rfl
  rotate_left
  · simp only [Act.put, List.setIfInBounds_toArray, List.set_cons_zero, List.set_cons_succ, i64_w, i32_w]
    rfl
  refine take_ (i := 1) (N := some 3) (v := ?_) (a' := ?_) #[true, true, false, false, false, false, false, false, false, false, false] rfl rfl (by kernel_rfl) (fun _ _ _ h => h) (Or.inl ⟨by rfl, ?_⟩) hHeld ?_ ?_
  rotate_left
  · rintro w' ⟨s0, s1⟩
    go_simp
    with_reducible rfl
  rotate_left
  · simp only [Act.put, List.setIfInBounds_toArray, List.set_cons_zero, List.set_cons_succ, i64_w, i32_w]
    rfl
  refine pure_ (i := 4) (N := some 6) (v := ?_) (a' := ?_) #[true, true, false, false, true, false, false, false, false, false, false] rfl rfl (by kernel_rfl) (fun _ _ _ h => h) (Or.inl ⟨by rfl, ?_⟩) ?_ ?_
  rotate_left
  · intro w'
    go_simp
    with_reducible rfl
  rotate_left
  · simp only [Act.put, List.setIfInBounds_toArray, List.set_cons_zero, List.set_cons_succ, i64_w, i32_w]
    rfl
  refine take_ (i := 2) (N := some 4) (v := ?_) (a' := ?_) #[true, true, true, false, true, false, false, false, false, false, false] rfl rfl (by kernel_rfl) (fun _ _ _ h => h) (Or.inl ⟨by rfl, ?_⟩) hHeld ?_ ?_
  rotate_left
  · rintro w' ⟨s0, s1⟩
    go_simp
    with_reducible rfl
  rotate_left
  · simp only [Act.put, List.setIfInBounds_toArray, List.set_cons_zero, List.set_cons_succ, i64_w, i32_w]
    rfl
  refine join_ (σ := Value × Value × Nat) 5 #[true, true, true, true, true, true, false, false, false, false, false] (fun q => [(5, .agg #[.int .i64 x.f0, .int .i64 x.f1, .string x.f2, q.1, q.2.1]), (7, .slice (some ⟨q.2.2, 0, none⟩) 1 1)]) (fun q w' => (w'.cell? ⟨V, 4, none⟩ = some (.slice A kv.2.length c) ∧ w'.cell? ⟨B, 0, none⟩ = some (.pointer (some ⟨R, 0, none⟩))) ∧ Got w.drew w' R C base s st' x q.1 q.2.1 q.2.2) ?_ ?_
  rotate_left
  · intro hCont
    refine two_ (i := 3) (j := 5) (Ni := some 5) (Nj := some 7) #[true, true, true, true, true, false, false, false, false, false, false] #[true, true, true, false, true, true, false, false, false, false, false] rfl rfl rfl rfl (by kernel_rfl) (by decide) (by decide) (fun K hK => ?_) (fun K hK => ?_)
    · skip
      refine goes_ Tryd.func17 (by kernel_rfl) rfl #[.pointer (some ⟨R, 0, none⟩)] (by rfl) rfl rfl (by simp only [List.map_toArray, List.map_cons, List.map_nil]; rfl) ?_
      with_reducible refine (Hv.out _ HE.out.rd.drew).mono ?_
      rintro e w2 ⟨u3, u4, rfl, h3, h4, hr, hk⟩
      refine ⟨_, rfl, ?_⟩
      refine hK.out _ _ ⟨kp_cell hHeld.1 hk hVC, kp_cell hHeld.2 hk hBC⟩ (fun hHeld => ?_)
      clear hK K
      refine norm_ (a' := ?_) ?_ ?_
      rotate_left
      · show Act.put _ (some 5) _ = _
        simp only [Act.put, List.setIfInBounds_toArray, List.set_cons_zero, List.set_cons_succ, i64_w, i32_w]
        rfl
      refine one_ (i := 5) (N := some 7) #[true, true, true, true, true, true, false, false, false, false, false] rfl rfl (by kernel_rfl) (by decide) (fun K hK => ?_)
      refine value_ (w1 := ?_) (v := ?_) (by rfl) rfl ?_ ?_
      rotate_left 2
      · go_simp
        constructor
        · rfl
        · rfl
      refine hK.out _ _ ⟨kp_cell hHeld.1 (Kp.alloc (Kp.refl (fun _ => False) _) _) (fun h => h), kp_cell hHeld.2 (Kp.alloc (Kp.refl (fun _ => False) _) _) (fun h => h)⟩ (fun hHeld => ?_)
      clear hK K
      refine norm_ (a' := ?_) ?_ ?_
      rotate_left
      · show Act.put _ (some 7) _ = _
        simp only [Act.put, List.setIfInBounds_toArray, List.set_cons_zero, List.set_cons_succ, i64_w, i32_w]
        rfl
      exact norm_ (by simp only [putAll, Act.put, List.setIfInBounds_toArray, List.set_cons_zero, List.set_cons_succ]) (hCont (u3, u4, w2.heap.size) _ ⟨⟨hHeld.1, hHeld.2⟩, ⟨hr.alloc _, hk.alloc _, Kd.M_below (got_M HE.out.size h3 h4) (below_alloc (Below.refl _ _) _), blk_new _ _⟩⟩)
    · skip
      refine value_ (w1 := ?_) (v := ?_) (by rfl) rfl ?_ ?_
      rotate_left 2
      · go_simp
        constructor
        · rfl
        · rfl
      refine hK.out _ _ ⟨kp_cell hHeld.1 (Kp.alloc (Kp.refl (fun _ => False) _) _) (fun h => h), kp_cell hHeld.2 (Kp.alloc (Kp.refl (fun _ => False) _) _) (fun h => h)⟩ (fun hHeld => ?_)
      clear hK K
      refine norm_ (a' := ?_) ?_ ?_
      rotate_left
      · show Act.put _ (some 7) _ = _
        simp only [Act.put, List.setIfInBounds_toArray, List.set_cons_zero, List.set_cons_succ, i64_w, i32_w]
        rfl
      refine one_ (i := 3) (N := some 5) #[true, true, true, true, true, true, false, false, false, false, false] rfl rfl (by kernel_rfl) (by decide) (fun K hK => ?_)
      refine goes_ Tryd.func17 (by kernel_rfl) rfl #[.pointer (some ⟨R, 0, none⟩)] (by rfl) rfl rfl (by simp only [List.map_toArray, List.map_cons, List.map_nil]; rfl) ?_
      with_reducible refine (Hv.out _ (HE.out.rd.alloc _).drew).mono ?_
      rintro e w2 ⟨u3, u4, rfl, h3, h4, hr, hk⟩
      refine ⟨_, rfl, ?_⟩
      refine hK.out _ _ ⟨kp_cell hHeld.1 hk hVC, kp_cell hHeld.2 hk hBC⟩ (fun hHeld => ?_)
      clear hK K
      refine norm_ (a' := ?_) ?_ ?_
      rotate_left
      · show Act.put _ (some 5) _ = _
        simp only [Act.put, List.setIfInBounds_toArray, List.set_cons_zero, List.set_cons_succ, i64_w, i32_w]
        rfl
      exact norm_ (by simp only [putAll, Act.put, List.setIfInBounds_toArray, List.set_cons_zero, List.set_cons_succ]) (hCont (u3, u4, w.heap.size) _ ⟨⟨hHeld.1, hHeld.2⟩, ⟨hr, ((Kp.refl (RC R C) _).alloc _).then_ hk, k27.M_mono (fun k hk => Nat.le_trans (by simp) hk) (got_M (Nat.le_trans HE.out.size (by simp)) h3 h4), blk_kp (w := (w.alloc _).drew) (blk_new w _) hk (show ¬ RC R C w.heap.size from fun h => h.elim (fun e => absurd HE.out.rd.lt.1 (by rw [← e]; exact Nat.lt_irrefl _)) (fun e => absurd HE.out.rd.lt.2 (by rw [← e]; exact Nat.lt_irrefl _)))⟩⟩)
  rintro ⟨u3, u4, Z⟩ w1 ⟨hHeld, hG⟩
  refine norm_ (a' := ?_) ?_ ?_
  rotate_left
  · simp only [putAll, Act.put, List.setIfInBounds_toArray, List.set_cons_zero, List.set_cons_succ]
    rfl
  refine one_ (i := 6) (N := some 8) #[true, true, true, true, true, true, true, false, false, false, false] rfl rfl (by kernel_rfl) (by decide) (fun K hK => ?_)
  have k1 : Kp (RC R C) w w1 := (Kp.refl (RC R C) w).drew.then_ hG.kp
  have hvb := HE.out.vb.kp k1 hVC (fun b e => e.elim (fun e => by rw [e]; exact Hl.out.r) (fun e => by rw [e]; exact Hl.out.c))
  refine Kd.R_append_rows_step k27 (w0 := w1) base (by rfl) _ _ _ 27 (.agg zeroL.toArray) 80 rfl (by kernel_rfl) (by kernel_rfl) rfl (by decide) (by decide) (.slice A kv.2.length c) kv.2 [z27] (some ⟨Z, 0, none⟩) 1 1 (fun k => some k ≠ v3.ownBlock) (fun _ => False) rfl rfl hvb.vals (temp_reads hG.z) (fun x cs h => by obtain ⟨rfl, rfl⟩ := h; exact zero_M _ _ _) (fun _ h => h.elim) (fun k hk e => by have := own_lt hvb.keys.2.choose_spec.1 k e.symm; omega) (Below.refl _ _) (Nat.le_trans HE.out.size k1.size) (by omega) ?_
  intro v1 w2 hR2 _ hg2 hat
  obtain ⟨g, cap, rfl, hbg, hgl, _⟩ := Kd.R_form hR2 (by simp)
  refine hK.out _ _ ⟨cell_grown hg2 hHeld.1 (fun e => by have := Kd.R_base hvb.vals V e.symm; have := Hl.out.v; omega), cell_grown hg2 hHeld.2 (fun e => by have := Kd.R_base hvb.vals B e.symm; have := Hl.out.b; omega)⟩ (fun hHeld => ?_)
  clear hK K
  refine norm_ (a' := ?_) ?_ ?_
  rotate_left
  · show Act.put _ (some 8) _ = _
    simp only [Act.put, List.setIfInBounds_toArray, List.set_cons_zero, List.set_cons_succ, i64_w, i32_w]
    rfl
  refine pure_ (i := 7) (N := some 9) (v := ?_) (a' := ?_) #[true, true, true, true, true, true, true, true, false, false, false] rfl rfl (by kernel_rfl) (fun _ _ _ h => h) (Or.inl ⟨by rfl, ?_⟩) ?_ ?_
  rotate_left
  · intro w'
    go_simp
    with_reducible rfl
  rotate_left
  · simp only [Act.put, List.setIfInBounds_toArray, List.set_cons_zero, List.set_cons_succ, i64_w, i32_w]
    rfl
  refine pure_ (i := 9) (N := some 10) (v := ?_) (a' := ?_) #[true, true, true, true, true, true, true, true, false, true, false] rfl rfl (by kernel_rfl) (fun _ _ _ h => h) (Or.inl ⟨by rfl, ?_⟩) ?_ ?_
  rotate_left
  · intro w'
    go_simp
    with_reducible rfl
  rotate_left
  · simp only [Act.put, List.setIfInBounds_toArray, List.set_cons_zero, List.set_cons_succ, i64_w, i32_w]
    rfl
  have hgV : V ≠ g := fun e => by have := Hl.out.v; omega
  have hokg : ∀ k, (w.drew.heap.size ≤ k ∧ k < w1.heap.size) → some k ≠ v3.ownBlock ∧ k ≠ g := fun k hk => ⟨fun e => by have h1 := own_lt HE.out.vb.keys.2.choose_spec.1 k e.symm; have h2 : w.heap.size ≤ k := hk.1; omega, fun e => hat.elim (fun h => by have h1 := own_lt HE.out.vb.vals.2.choose_spec.1 g (h.symm.trans rfl); have h2 : w.heap.size ≤ k := hk.1; omega) (fun h => by obtain ⟨b, hb, hle⟩ := h; have hb2 : g = b := Option.some.inj hb; have := hk.2; omega)⟩
  have hM4 : k27.M w2 base (fun k => w.drew.heap.size ≤ k ∧ k < w1.heap.size) x [.int .i64 x.f0, .int .i64 x.f1, .string x.f2, u3, u4] := Kd.M_grown (k27.M_mono (fun k hk => ⟨hk.1, hk.2.2.1⟩) (k27.M_bound hG.m)) hg2 (fun k hk e => by have h1 := own_lt HE.out.vb.vals.2.choose_spec.1 k e.symm; have h2 : w.heap.size ≤ k := hk.1; omega)
  have hVb2 : w2.heap[V]? = some (.cells #[.int .i64 kind, .int .i64 0, .string ⟨#[]⟩, v3, .slice A kv.2.length c] 27 (0, 0)) := (hg2.block V (blk_lt hvb.blk) (fun e => by have := Kd.R_base hvb.vals V e.symm; have := Hl.out.v; omega)).trans hvb.blk
  obtain ⟨e1, e2, e3⟩ := put_elem rfl hR2 hM4 hokg
  have kV : Kp (fun b => b = V) w2 (w2.setCell ⟨V, 4, none⟩ (.slice (some ⟨g, 0, none⟩) (kv.2 ++ [z27]).length cap)) := Kp.setCell (S := fun b => b = V) (p := ⟨V, 4, none⟩) (Kp.refl _ _) (.inl rfl) _
  have hR5 := Kd.R_mono (Kd.R_step (Kd.R_bound hR2) (fun b hb hlt => kV.block b hlt (fun e => by have := hb.2.1; have := Hl.out.v; omega))) (fun _ hk => hk.1)
  have hM5 := k27.M_mono (fun _ hk => hk.1) (Kd.M_step (k27.M_bound hM4) (fun b hb hlt => kV.block b hlt (fun e => by have := hb.2.1; have := Hl.out.v; omega)))
  obtain ⟨q1, q2, q3⟩ := put_elem rfl hR5 hM5 hokg
  have kg2 : Kp (fun b => some b = (Value.slice A kv.2.length c).ownBlock ∨ b = g ∨ b = V) w1 w2 := Kp.grown (Kp.refl _ _) hg2 (fun k e => .inl (.inl e.symm))
  refine both_last (i := 8) (j := 10) (F := fun w' => Env w' R C V B base kind s st' (kv.1, kv.2 ++ [x]) v3 (.slice (some ⟨g, 0, none⟩) (kv.2 ++ [z27]).length cap) ∧ Kp (Own4 R C V base) w w') #[true, true, true, true, true, true, true, true, true, true, false] #[true, true, true, true, true, true, true, true, false, true, true] #[true, true, true, true, true, true, true, true, true, true, true] rfl rfl rfl rfl (by kernel_rfl) (by decide) (by decide) (by rfl) (by rfl)
    (exec_store ⟨g, kv.2.length * 5, none⟩ _ rfl rfl rfl e3) (exec_store ⟨V, 4, none⟩ _ rfl rfl rfl (store_V (blk_far2 e2 hVb2 hgV))) (exec_store ⟨V, 4, none⟩ _ rfl rfl rfl (store_V hVb2)) (exec_store ⟨g, kv.2.length * 5, none⟩ _ rfl rfl rfl q3) ?_ ?_ ?_
  · refine fin_app Hl.out HE.out hG (Kp.setCell (Kp.grown kg2 e2 (fun k e => .inl (.inr (.inl (Option.some.inj e).symm)))) (.inl (.inr (.inr rfl))) _) (blk_put (blk_far2 e2 hVb2 hgV) 4 _ rfl) ?_
    have k6 : Kp (fun b => b = V) (w2.setCells g (kv.2.length * 5) [.int .i64 x.f0, .int .i64 x.f1, .string x.f2, u3, u4]) _ := Kp.setCell (S := fun b => b = V) (p := ⟨V, 4, none⟩) (Kp.refl (fun b => b = V) _) (.inl rfl) (.slice (some ⟨g, 0, none⟩) (kv.2 ++ [z27]).length cap)
    exact Kd.R_mono (Kd.R_step (Kd.R_bound e1) (fun b hb hlt => k6.block b hlt (fun e => by have := hb.2.1; have := Hl.out.v; omega))) (fun _ hk => hk.1)
  · exact fin_app Hl.out HE.out hG (Kp.grown (Kp.setCell kg2 (.inl (.inr (.inr rfl))) _) q2 (fun k e => .inl (.inr (.inl (Option.some.inj e).symm)))) (blk_far2 q2 (blk_put hVb2 4 _ rfl) hgV) q1
  · rintro w' ⟨f1, f2⟩
    clear hR2 hR5 e1 q1
    go_wp2
    go_end0
    exact ⟨rfl, ⟨_, _, f1⟩, f2⟩

theorem slices_Contains_any (A0 : Option Addr) (c0 : Nat) (l0 : List ByteArray) (a1 : ByteArray) (w : World) (hr0 : Kd.C Kd.string w A0 l0.length l0) (hc0 : l0.length ≤ c0) :
    Calls Tryd.prog 57 #[.slice A0 l0.length c0, .string a1] w fun e w' => e = .returned (.bool (hasS l0 a1)) ∧ Drawn0 w w' := by
  have H := Aside0.mk (slices_Index_string_string.calls A0 c0 l0 a1 _ w hr0 hc0 rfl)
  clear hr0 hc0
  unfold hasS
  generalize idxS l0 a1 = r at H ⊢
  go_enter Tryd.func57, Tryd.ntmps57
  go_wp2_with (go_at_call 65; go_must (refine H.out.mono ?_); rintro e w1 ⟨rfl, hd⟩)
  go_ret
  exact ⟨rfl, hd⟩

end Go.Proofs.YtnijnemkjnnolaaDoor.P
