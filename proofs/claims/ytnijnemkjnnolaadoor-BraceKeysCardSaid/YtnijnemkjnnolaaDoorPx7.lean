-- Written by a program of this session (wip/mp): the kit's print, with contracts proved by hand let in as printed ones.
import Derived.Test.YtnijnemkjnnolaaDoorPx0
import Derived.Test.YtnijnemkjnnolaaDoorPx2
import Derived.Test.YtnijnemkjnnolaaDoorPx4
import Derived.Test.YtnijnemkjnnolaaDoorPx5
import Derived.Test.YtnijnemkjnnolaaDoorPx6
namespace Go.Proofs.YtnijnemkjnnolaaDoor.P
open Go.RowKit Go.Proofs.YtnijnemkjnnolaaDoorW.PrintWords Go.Proofs.YtnijnemkjnnolaaDoorW.PrintLast Go.Proofs.YtnijnemkjnnolaaDoorW.PrintMore
attribute [local go_sem] max2_int min2_int max_two min_two max_three min_three max_four min_four   -- for this text's walks alone
set_option linter.unusedVariables false
set_option linter.unusedSimpArgs false

theorem rd_Take (R C : Nat) (s : ByteArray) (st : RSt) (b : ByteArray) (w : World) (h : Rdr w R C s st) (hp : st.pos ≤ s.size) (hs : s.size ≤ 140737488351232) (hb : b.size ≤ 140737488351232) :
    Calls Tryd.prog 37 #[.pointer (some ⟨C, 0, none⟩), .string b] w fun e w' => e = .returned (.bool (nextIs s st.pos b)) ∧ Rdr w' R C s (takeP s st b) ∧ Kp (fun b => b = C) w w' := by
  unfold takeP
  cases hn : nextIs s st.pos b with
  | true =>
    refine (cur_Take_yes C s st.pos b w h.cur hp hs hb hn).mono ?_
    rintro e w' ⟨rfl, h1, k1⟩
    exact ⟨rfl, h.cursor h1 k1, k1⟩
  | false =>
    refine (cur_Take_no C s st.pos b w h.cur hp hs hn).mono ?_
    rintro e w' ⟨rfl, h1, k1⟩
    exact ⟨rfl, h.drawn k1, Kp.of_below k1.below _⟩
section
variable {w : World} {R C V B base D : Nat} {kind : Int} {s : ByteArray} {st : RSt} {kv : KV} {v3 v4 : Value}
theorem Env.d1 (h : Env w R C V B base kind s st kv v3 v4) (hd : st.deep = D + 1) : w.cell? ⟨R, 2, none⟩ = some (.int .i64 ((D : Int) + 1)) := by
  have := h.rd.c2
  rw [hd] at this
  simpa using this
theorem Env.deep (h : Env w R C V B base kind s st kv v3 v4) (l : Lie R C V B base) (n : Nat) : Env (w.setCell ⟨R, 2, none⟩ (.int .i64 n)) R C V B base kind s { st with deep := n } kv v3 v4 :=
  h.kp l (Kp.setCell (S := RC R C) (p := ⟨R, 2, none⟩) (Kp.refl _ _) (.inl (.inl rfl)) _) (h.rd.set2 n)
theorem Env.deep1 (h : Env w R C V B base kind s st kv v3 v4) (l : Lie R C V B base) (n : Nat) : Env (w.setCell ⟨R, 2, none⟩ (.int .i64 ((n : Int) + 1))) R C V B base kind s { st with deep := n + 1 } kv v3 v4 := by
  have := h.deep l (n + 1)
  simpa using this
theorem kp_R2 (w : World) (x : Value) : Kp (Own4 R C V base) w (w.setCell ⟨R, 2, none⟩ x) := Kp.setCell (S := Own4 R C V base) (p := ⟨R, 2, none⟩) (Kp.refl _ _) (.inl (.inl rfl)) _
end
/-- What a part does, called as a function value. -/
def PartC (s : ByteArray) (part : KV → RSt → KV × RSt) (f : Nat) (caps : Array Value) (R C V B base D : Nat) (kind : Int) : Prop :=
  ∀ (kv : KV) (st : RSt) (v3 v4 : Value) (w : World), Env w R C V B base kind s st kv v3 v4 → st.pos ≤ s.size → st.deep = D + 1 → kv.2.length ≤ s.size → kv.1.length ≤ kv.2.length →
    Calls Tryd.prog f caps w fun e w' => e = .returned (.tuple #[]) ∧ ∃ v3' v4', Env w' R C V B base kind s (part kv st).2 (part kv st).1 v3' v4' ∧ Kp (Own4 R C V base) w w'
/-- In the loop of inside. -/
def InLoop (w : World) (R C V B base D : Nat) (kind : Int) (s en : ByteArray) (part : KV → RSt → KV × RSt) (X : KV × RSt) (gg : Nat) (wr : World) : Prop :=
  ∃ kv st v3 v4, Env wr R C V B base kind s st kv v3 v4 ∧ st.pos ≤ s.size ∧ st.deep = D + 1 ∧ kv.2.length ≤ st.pos + 1 ∧ kv.1.length ≤ kv.2.length ∧ s.size < gg + st.pos ∧ loopP s en part gg kv st = X ∧ Kp (Own4 R C V base) w wr
set_option maxHeartbeats 4000000 in
set_option maxRecDepth 100000 in
theorem inside_any {s : ByteArray} {part : KV → RSt → KV × RSt} (hpg : PartGoes s part) {f : Nat} {caps : Array Value} (eg : ∀ args w, (callFunc f args).run Tryd.prog w = .ok (.enter f args) w) {R C V B base D : Nat} {kind : Int} (hl : Lie R C V B base)
    (hpart : D < 8 → PartC s part f caps R C V B base D kind) {be en : ByteArray} (hbe : be.size ≤ 8) (hen : en.size ≤ 8) {st : RSt} {v3 v4 : Value} {w : World} (hE : Env w R C V B base kind s st ([], []) v3 v4) (hp : st.pos ≤ s.size) (hs : s.size ≤ 1000000000) (hD : st.deep = D) (hD8 : D ≤ 8) :
    Calls Tryd.prog 32 #[.pointer (some ⟨R, 0, none⟩), .string be, .string en, .func (.func f) #[] caps] w fun e w' => e = .returned (.tuple #[]) ∧ ∃ v3' v4', Env w' R C V B base kind s (insideP s be en part st).2 (insideP s be en part st).1 v3' v4' ∧ Kp (Own4 R C V base) w w' := by
  have HE := Lib.hid hE
  have Hl := Lib.hid hl
  have d0 := hE.rd.c0
  have d2 := hE.rd.c2
  rw [hD] at d2
  have hs2 : s.size ≤ 140737488351232 := by omega
  by_cases h8 : 8 ≤ D
  · have hP : insideP s be en part st = (([], []), wrongP st st.pos 3) := by unfold insideP; rw [if_pos (by omega)]
    rw [hP]
    have hd8 : (D : Int) ≥ 8 := by omega
    have hdd : decide ((D : Int) ≥ 8) = true := decide_eq_true hd8
    clear hE hl hP hpart eg hpg
    go_enter Tryd.func32, Tryd.ntmps32
    go_wp2_with (first
      | (go_at_call 19; go_must (refine (front_At C _ _ HE.out.rd.cur.cells.2.1).mono ?_); rintro e w2 ⟨rfl, rfl⟩)
      | (go_at_call 20; go_must (refine (rd_wrong R C s _ _ 3 _ HE.out.rd).mono ?_); rintro e w5 ⟨rfl, h5, k5⟩; have E5 := Lib.hid (HE.out.kp Hl.out (kp_R k5) h5); have K5 := Lib.hid (kp_RC4 (R := R) (C := C) (V := V) (base := base) (kp_R k5)); clear h5 k5))
    ((try simp only [Exit.inBlock, Exit.then]); refine bodyPost_ret (results_none rfl _ _ _) rfl ?_)
    exact ⟨rfl, _, _, E5.out, K5.out⟩
  · have hpart := hpart (by omega)
    have hd8 : ¬ (D : Int) ≥ 8 := by omega
    have hdd : decide ((D : Int) ≥ 8) = false := decide_eq_false hd8
    have hP : insideP s be en part st = ((bodyP s en part (openP s be st)).1, { (bodyP s en part (openP s be st)).2 with deep := D }) := by
      have ho := goes_open (be := be) hp
      have hb := goes_body (en := en) hpg (openP s be st) ho.2.2
      unfold insideP
      rw [if_neg (by omega)]
      show ((bodyP s en part (openP s be st)).1, { (bodyP s en part (openP s be st)).2 with deep := (bodyP s en part (openP s be st)).2.deep - 1 }) = _
      rw [hb.deep, ho.1, hD]
      rfl
    rw [hP]
    have ho := goes_open (be := be) hp
    have g1 := goes_take hp be
    have hT := fun w h => rd_Take R C s st be w h hp hs2 (by omega)
    have hB := fun w h => rd_blanks R C s { takeP s st be with deep := D + 1 } w h g1.hi hs2
    have hst2 : openP s be st = blanksP s { takeP s st be with deep := D + 1 } := by unfold openP; rw [hD]
    rw [← hst2] at hB
    have hdp : (openP s be st).deep = D + 1 := by rw [ho.1, hD]
    have hp2 := ho.2.2
    have hdt : (takeP s st be).deep = D := by rw [g1.deep, hD]
    clear hP ho hst2 hE hl hd8
    generalize openP s be st = st2 at hB hdp hp2 ⊢
    generalize takeP s st be = st1 at hT hB hdt g1
    have HT := Lib.hid hT
    have HB := Lib.hid hB
    have HP := Lib.hid hpart
    have Hdt := Lib.hid hdt
    have Hdp := Lib.hid hdp
    have Hpg := Lib.hid hpg
    clear hT hB hpart hdt hdp g1 hpg
    have HT2 := Lib.hid (fun w h => rd_Take R C s st2 en w h hp2 hs2 (by omega))
    have hg2 := goes_take hp2 en
    cases hn : nextIs s st2.pos en with
    | true =>
      have hbd : bodyP s en part st2 = (([], []), takeP s st2 en) := by unfold bodyP; rw [if_pos hn]
      rw [hbd]
      rw [hn] at HT2
      have hdz : (takeP s st2 en).deep = D + 1 := by rw [hg2.deep, Hdp.out]
      generalize takeP s st2 en = st3 at HT2 hdz ⊢
      have Hdz := Lib.hid hdz
      clear hbd hn hg2 hdz eg HP
      go_enter Tryd.func32, Tryd.ntmps32
      go_wp2_with (first
        | (go_at_call 37; (first
          | ((with_reducible refine (HT.out _ HE.out.rd).mono ?_); rintro e w1 ⟨rfl, h1, k1⟩; have E1 := Lib.hid (HE.out.kp Hl.out (kp_C k1) h1); have K1 := Lib.hid (kp_RC4 (R := R) (C := C) (V := V) (base := base) (kp_C k1)); have a2 := h1.c2; rw [Hdt.out] at a2; have a0 := h1.c0; have f2 := h1.fz 2; have E2 := Lib.hid (E1.out.deep1 Hl.out D); have K2 := Lib.hid (K1.out.then_ (kp_R2 (R := R) (C := C) (V := V) (base := base) _ (.int .i64 ((D : Int) + 1)))); clear h1 k1)
          | (go_must (refine (HT2.out _ E3.out.rd).mono ?_); rintro e w4 ⟨rfl, h4, k4⟩; have hEz := Lib.hid (E3.out.kp Hl.out (kp_C k4) h4); have hKz := Lib.hid (K3.out.then_ (kp_RC4 (R := R) (C := C) (V := V) (base := base) (kp_C k4))); have b2 := hEz.out.d1 Hdz.out; have b0 := h4.c0; have g2 := h4.fz 2; clear h4 k4)))
        | (go_at_call 18; go_must (refine (HB.out _ E2.out.rd).mono ?_); rintro e w3 ⟨rfl, h3, k3⟩; have E3 := Lib.hid (E2.out.kp Hl.out (kp_C k3) h3); have K3 := Lib.hid (K2.out.then_ (kp_RC4 (R := R) (C := C) (V := V) (base := base) (kp_C k3))); have c0 := h3.c0; clear h3 k3))
      go_end0
      have hz := (hEz.out.deep Hl.out D)
      refine ⟨rfl, _, _, hz, ?_⟩
      exact hKz.out.then_ (kp_R2 _ _)
    | false =>
      have hbd : bodyP s en part st2 = loopP s en part (s.size + 1) (part ([], []) st2).1 (part ([], []) st2).2 := by unfold bodyP; rw [if_neg (by rw [hn]; decide)]
      rw [hbd]
      have ht : takeP s st2 en = st2 := by unfold takeP; rw [if_neg (by rw [hn]; decide)]
      rw [hn, ht] at HT2
      have p0 := Hpg.out.goes ([], []) st2 hp2
      have l0 := Hpg.out.len ([], []) st2 hp2 (Nat.zero_le _) (Nat.le_refl _)
      have hd0 : (part ([], []) st2).2.deep = D + 1 := by rw [p0.deep, Hdp.out]
      have Hp0 := Lib.hid (⟨p0.hi, hd0, l0⟩ : _ ∧ _ ∧ _)
      obtain ⟨X, hX⟩ : ∃ X, loopP s en part (s.size + 1) (part ([], []) st2).1 (part ([], []) st2).2 = X := ⟨_, rfl⟩
      rw [hX]
      have HX := Lib.hid hX
      clear hbd hn hg2 ht hX p0 l0 hd0
      go_enter Tryd.func32, Tryd.ntmps32
      go_wp2_with (first
        | (go_at_call 37; (first
          | ((with_reducible refine (HT.out _ HE.out.rd).mono ?_); rintro e w1 ⟨rfl, h1, k1⟩; have E1 := Lib.hid (HE.out.kp Hl.out (kp_C k1) h1); have K1 := Lib.hid (kp_RC4 (R := R) (C := C) (V := V) (base := base) (kp_C k1)); have a2 := h1.c2; rw [Hdt.out] at a2; have a0 := h1.c0; have f2 := h1.fz 2; have E2 := Lib.hid (E1.out.deep1 Hl.out D); have K2 := Lib.hid (K1.out.then_ (kp_R2 (R := R) (C := C) (V := V) (base := base) _ (.int .i64 ((D : Int) + 1)))); clear h1 k1)
          | (go_must (refine (HT2.out _ E3.out.rd).mono ?_); rintro e w4 ⟨rfl, h4, k4⟩; have E4 := Lib.hid (E3.out.kp Hl.out (kp_C k4) h4); have K4 := Lib.hid (K3.out.then_ (kp_RC4 (R := R) (C := C) (V := V) (base := base) (kp_C k4))); have b0 := h4.c0; clear h4 k4)))
        | (go_at_call 18; go_must (refine (HB.out _ E2.out.rd).mono ?_); rintro e w3 ⟨rfl, h3, k3⟩; have E3 := Lib.hid (E2.out.kp Hl.out (kp_C k3) h3); have K3 := Lib.hid (K2.out.then_ (kp_RC4 (R := R) (C := C) (V := V) (base := base) (kp_C k3))); have c0 := h3.c0; clear h3 k3)
        | (go_at_fn f; go_must (refine (HP.out ([], []) st2 _ _ _ E4.out hp2 Hdp.out (Nat.zero_le _) (Nat.le_refl _)).mono ?_); rintro e w5 ⟨rfl, v5, u5, h5, k5⟩; have hrel0 : InLoop w R C V B base D kind s en part X (s.size + 1) w5 := ⟨_, _, _, _, h5, Hp0.out.1, Hp0.out.2.1, Hp0.out.2.2.1, Hp0.out.2.2.2, by omega, HX.out, K4.out.then_ k5⟩; clear h5 k5))
      clear HE HT HB HT2 HX Hp0 Hdt Hdp E1 E2 E3 E4 K1 K2 K3 K4
      go_loopg [] (s.size + 1) (fun gg wr => InLoop w R C V B base D kind s en part X gg wr)
      case atStart => exact hrel0
      case round =>
        obtain ⟨kv, ta, v5, u5, hEr, hpa, hda, hl2, hl1, hgg, hX, hKr⟩ := hrel
        obtain ⟨n, rfl⟩ : ∃ n, gk = n + 1 := ⟨gk - 1, by omega⟩
        unfold loopP at hX
        simp only at hX
        have HEr := Lib.hid hEr
        have HKr := Lib.hid hKr
        have d4 := hEr.rd.c4
        have m0 := hEr.rd.c0
        clear hEr hKr hrel0
        by_cases he : ta.e = 0
        · have e1 : ((ta.e : Int) == 0) = true := by rw [he]; rfl
          rw [if_pos he] at hX
          have g1 := goes_blanks hpa
          have g2 := goes_take g1.hi en
          have g3 := goes_must g1.hi ⟨#[44]⟩
          have o3 : (mustP s (blanksP s ta) ⟨#[44]⟩).2.e = 0 → (blanksP s ta).pos + 1 ≤ (mustP s (blanksP s ta) ⟨#[44]⟩).2.pos := fun h => must_on ⟨#[44]⟩ h
          have HB := Lib.hid (fun w h => rd_blanks R C s ta w h hpa hs2)
          have HT := Lib.hid (fun w h => rd_Take R C s (blanksP s ta) en w h g1.hi hs2 (by omega))
          have HM := Lib.hid (fun w h => rd_must R C s (blanksP s ta) ⟨#[44]⟩ w h g1.hi hs2 (by decide))
          generalize blanksP s ta = tb at g1 g2 g3 o3 HB HT HM hX
          have hdb : tb.deep = D + 1 := by rw [g1.deep, hda]
          have hpb := g1.lo
          cases hn2 : nextIs s tb.pos en with
          | true =>
            rw [if_pos hn2] at hX
            rw [hn2] at HT
            have hdz : (takeP s tb en).deep = D + 1 := by rw [g2.deep, hdb]
            subst hX
            have Hdz := Lib.hid hdz
            clear he hn2 hdz g1 g2 g3 o3 HM hdb hpb
            go_wp2_with (first
              | (go_at_call 18; go_must (refine (HB.out _ HEr.out.rd).mono ?_); rintro e w1 ⟨rfl, h1, k1⟩; have E1 := Lib.hid (HEr.out.kp Hl.out (kp_C k1) h1); have K1 := Lib.hid (HKr.out.then_ (kp_RC4 (R := R) (C := C) (V := V) (base := base) (kp_C k1))); have a0 := h1.c0; clear h1 k1)
              | (go_at_call 37; go_must (refine (HT.out _ E1.out.rd).mono ?_); rintro e w4 ⟨rfl, h4, k4⟩; have hEz := Lib.hid (E1.out.kp Hl.out (kp_C k4) h4); have hKz := Lib.hid (K1.out.then_ (kp_RC4 (R := R) (C := C) (V := V) (base := base) (kp_C k4))); have b2 := hEz.out.d1 Hdz.out; have f2 := h4.fz 2; clear h4 k4))
            go_end0
            have hz := (hEz.out.deep Hl.out D)
            refine ⟨rfl, ⟨_, _, hz⟩, ?_⟩
            exact hKz.out.then_ (kp_R2 _ _)
          | false =>
            rw [if_neg (by rw [hn2]; decide)] at hX
            have ht : takeP s tb en = tb := by unfold takeP; rw [if_neg (by rw [hn2]; decide)]
            rw [hn2, ht] at HT
            clear ht g2
            generalize mustP s tb ⟨#[44]⟩ = m at g3 o3 HM hX
            obtain ⟨bm, tc⟩ := m
            simp only at g3 o3 HM hX
            have hdc : tc.deep = D + 1 := by rw [g3.deep, hdb]
            by_cases he2 : tc.e = 0
            · have e2 : ((tc.e : Int) != 0) = false := by rw [he2]; rfl
              rw [if_pos he2] at hX
              have o4 := o3 he2
              have hpc := g3.hi
              have hlc : kv.2.length ≤ tc.pos := by omega
              have p0 := Hpg.out.goes kv tc hpc
              have l0 := Hpg.out.len kv tc hpc hlc hl1
              have hd0 : (part kv tc).2.deep = D + 1 := by rw [p0.deep, hdc]
              have hgn : s.size < n + (part kv tc).2.pos := by have := p0.lo; omega
              have Hp0 := Lib.hid (⟨p0.hi, hd0, l0, hgn, hX⟩ : _ ∧ _ ∧ _ ∧ _ ∧ _)
              have HPc := Lib.hid (fun v v' w h => HP.out kv tc v v' w h hpc hdc (by omega) hl1)
              have Hdc := Lib.hid hdc
              clear he he2 hX g1 g3 o3 o4 hn2 hdb hdc hpb p0 l0 hd0 hgn hlc hpc
              go_wp2_with (first
                | (go_at_call 18; go_must (refine (HB.out _ HEr.out.rd).mono ?_); rintro e w1 ⟨rfl, h1, k1⟩; have E1 := Lib.hid (HEr.out.kp Hl.out (kp_C k1) h1); have K1 := Lib.hid (HKr.out.then_ (kp_RC4 (R := R) (C := C) (V := V) (base := base) (kp_C k1))); have a0 := h1.c0; clear h1 k1)
                | (go_at_call 37; go_must (refine (HT.out _ E1.out.rd).mono ?_); rintro e w4 ⟨rfl, h4, k4⟩; have E2 := Lib.hid (E1.out.kp Hl.out (kp_C k4) h4); have K2 := Lib.hid (K1.out.then_ (kp_RC4 (R := R) (C := C) (V := V) (base := base) (kp_C k4))); clear h4 k4)
                | (go_at_call 56; go_must (refine (HM.out _ E2.out.rd).mono ?_); rintro e w5 ⟨rfl, h5, k5⟩; have E3 := Lib.hid (E2.out.kp Hl.out k5 h5); have K3 := Lib.hid (K2.out.then_ (kp_RC4 (V := V) (base := base) k5)); have b4 := h5.c4; clear h5 k5)
                | (go_at_fn f; go_must (refine (HPc.out _ _ _ E3.out).mono ?_); rintro e w6 ⟨rfl, v6, u6, h6, k6⟩; have hnext : InLoop w R C V B base D kind s en part X n w6 := ⟨_, _, _, _, h6, Hp0.out.1, Hp0.out.2.1, Hp0.out.2.2.1.1, Hp0.out.2.2.1.2, Hp0.out.2.2.2.1, Hp0.out.2.2.2.2, K3.out.then_ k6⟩; clear h6 k6))
              go_roundg n
              case measure => omega
              case rel => exact hnext
            · have e2 : ((tc.e : Int) != 0) = true := by rw [bne_iff_ne]; omega
              rw [if_neg he2] at hX
              subst hX
              have Hdc := Lib.hid hdc
              clear he he2 g1 g3 o3 hn2 hdb hdc hpb HP eg
              go_wp2_with (first
                | (go_at_call 18; go_must (refine (HB.out _ HEr.out.rd).mono ?_); rintro e w1 ⟨rfl, h1, k1⟩; have E1 := Lib.hid (HEr.out.kp Hl.out (kp_C k1) h1); have K1 := Lib.hid (HKr.out.then_ (kp_RC4 (R := R) (C := C) (V := V) (base := base) (kp_C k1))); have a0 := h1.c0; clear h1 k1)
                | (go_at_call 37; go_must (refine (HT.out _ E1.out.rd).mono ?_); rintro e w4 ⟨rfl, h4, k4⟩; have E2 := Lib.hid (E1.out.kp Hl.out (kp_C k4) h4); have K2 := Lib.hid (K1.out.then_ (kp_RC4 (R := R) (C := C) (V := V) (base := base) (kp_C k4))); clear h4 k4)
                | (go_at_call 56; go_must (refine (HM.out _ E2.out.rd).mono ?_); rintro e w5 ⟨rfl, h5, k5⟩; have hEz := Lib.hid (E2.out.kp Hl.out k5 h5); have hKz := Lib.hid (K2.out.then_ (kp_RC4 (V := V) (base := base) k5)); have b4 := h5.c4; have b2 := hEz.out.d1 Hdc.out; have f2 := h5.fz 2; clear h5 k5))
              go_end0
              have hz := (hEz.out.deep Hl.out D)
              refine ⟨rfl, ⟨_, _, hz⟩, ?_⟩
              exact hKz.out.then_ (kp_R2 _ _)
        · have e1 : ((ta.e : Int) == 0) = false := by rw [beq_eq_false_iff_ne]; omega
          rw [if_neg he] at hX
          subst hX
          have b2 := HEr.out.d1 hda
          have f2 := HEr.out.rd.fz 2
          have hEz := HEr
          have hKz := HKr
          clear he HP eg
          go_wp2_with fail
          go_end0
          have hz := (hEz.out.deep Hl.out D)
          refine ⟨rfl, ⟨_, _, hz⟩, ?_⟩
          exact hKz.out.then_ (kp_R2 _ _)

def boxO (R : Nat) : Obj := .cells #[.pointer (some ⟨R, 0, none⟩)] 47 (0, 0)
def zeroO : Obj := .cells #[.int .i64 0, .int .i64 0, .string ⟨#[]⟩, .slice none 0 0, .slice none 0 0] 27 (0, 0)
/-- Inside value: the reader, the box of its pointer, the result's block. -/
structure VI (w0 w : World) (R C : Nat) (s : ByteArray) (st : RSt) : Prop where
  rd : Rdr w R C s st
  box : w.heap[w0.heap.size]? = some (boxO R)
  res : w.heap[w0.heap.size + 1]? = some zeroO
  kp : Kp (RC R C) w0 w
  r : R < w0.heap.size
  c : C < w0.heap.size
section
variable {w0 w w' : World} {R C : Nat} {s : ByteArray} {st st' : RSt}
theorem VI.start (h : Rdr w0 R C s st) : VI w0 ((w0.alloc (boxO R)).alloc zeroO) R C s st :=
  ⟨(h.alloc _).alloc _, blk_below (blk_new w0 _) (below_alloc (Below.refl _ _) _), by have := blk_new (w0.alloc (boxO R)) zeroO; simpa using this, ((Kp.refl _ _).alloc _).alloc _, h.lt.1, h.lt.2⟩
theorem VI.move (h : VI w0 w R C s st) (k : Kp (RC R C) w w') (hr : Rdr w' R C s st') : VI w0 w' R C s st' :=
  ⟨hr, blk_kp h.box k (fun e => by have := h.r; have := h.c; rcases e with e | e <;> omega), blk_kp h.res k (fun e => by have := h.r; have := h.c; rcases e with e | e <;> omega), h.kp.then_ k, h.r, h.c⟩
theorem VI.cb (h : VI w0 w R C s st) : w.cell? ⟨w0.heap.size, 0, none⟩ = some (.pointer (some ⟨R, 0, none⟩)) := (blk_cell h.box 0).trans rfl
theorem VI.cells (h : VI w0 w R C s st) : w.cell? ⟨w0.heap.size + 1, 0, none⟩ = some (.int .i64 0) ∧ w.cell? ⟨w0.heap.size + 1, 1, none⟩ = some (.int .i64 0) ∧ w.cell? ⟨w0.heap.size + 1, 2, none⟩ = some (.string ⟨#[]⟩) ∧ w.cell? ⟨w0.heap.size + 1, 3, none⟩ = some (.slice none 0 0) ∧ w.cell? ⟨w0.heap.size + 1, 4, none⟩ = some (.slice none 0 0) :=
  ⟨(blk_cell h.res 0).trans rfl, (blk_cell h.res 1).trans rfl, (blk_cell h.res 2).trans rfl, (blk_cell h.res 3).trans rfl, (blk_cell h.res 4).trans rfl⟩
theorem VI.frozen (h : VI w0 w R C s st) (i : Nat) : w.frozen? ⟨w0.heap.size + 1, i, none⟩ = false := blk_frozen h.res i
/-- What value hands back. -/
def ValPost (w0 : World) (R C : Nat) (s : ByteArray) (r : S27 × RSt) (e : Ending) (w' : World) : Prop :=
  ∃ v3 v4, e = .returned (.agg #[.int .i64 r.1.f0, .int .i64 r.1.f1, .string r.1.f2, v3, v4]) ∧ Kd.string.R 9 w' w0.heap.size (fun _ => True) v3 r.1.f3 ∧ k27.R 27 w' w0.heap.size (fun k => some k ≠ v3.ownBlock) v4 r.1.f4 ∧ Rdr w' R C s r.2 ∧ Kp (RC R C) w0 w'
theorem VI.five (h : VI w0 w R C s st) (a b c d e : Value) : Rdr (set5 w (w0.heap.size + 1) a b c d e) R C s st ∧ Kp (RC R C) w0 (set5 w (w0.heap.size + 1) a b c d e) :=
  ⟨set5_rd h.rd (by have := h.r; omega) (by have := h.c; omega) _ _ _ _ _, set5_kp h.kp (.inr (by omega)) _ _ _ _ _⟩
theorem VI.post (h : VI w0 w R C s st) (x0 x1 : Int) (x2 : ByteArray) : ValPost w0 R C s (⟨x0, x1, x2, [], []⟩, st) (.returned (.agg #[.int .i64 x0, .int .i64 x1, .string x2, .slice none 0 0, .slice none 0 0])) (set5 w (w0.heap.size + 1) (.int .i64 x0) (.int .i64 x1) (.string x2) (.slice none 0 0) (.slice none 0 0)) :=
  ⟨_, _, rfl, Kd.R_nil _ _ _ _ _, Kd.R_nil _ _ _ _ _, (h.five _ _ _ _ _).1, (h.five _ _ _ _ _).2⟩
end
/-- The value's block, laid and filled. -/
def builtO (kind : Int) : Obj := .cells #[.int .i64 kind, .int .i64 0, .string ⟨#[]⟩, .slice none 0 0, .slice none 0 0] 27 (0, 0)
theorem VI.build {w w1 : World} {R C : Nat} {s : ByteArray} {st : RSt} (h : VI w w1 R C s st) (kind : Int) :
    VI w (w1.alloc (builtO kind)) R C s st ∧ Env (w1.alloc (builtO kind)) R C w1.heap.size w.heap.size (w1.heap.size + 1) kind s st ([], []) (.slice none 0 0) (.slice none 0 0) ∧ Lie R C w1.heap.size w.heap.size (w1.heap.size + 1) := by
  have hr := h.r
  have hc := h.c
  have hlt := blk_lt h.box
  have hb := blk_new w1 (builtO kind)
  have h3 : VI w (w1.alloc (builtO kind)) R C s st := h.move ((Kp.refl _ _).alloc _) (h.rd.alloc _)
  exact ⟨h3, ⟨h3.rd, ⟨hb, Kd.R_nil _ _ _ _ _, Kd.R_nil _ _ _ _ _⟩, h3.box, by simp⟩, ⟨h.rd.ne, by omega, by omega, by omega, by omega, by omega, by omega, by omega, by omega, by omega⟩⟩
theorem VI.lt2 {w w1 : World} {R C : Nat} {s : ByteArray} {st : RSt} (h : VI w w1 R C s st) : w.heap.size + 1 < w1.heap.size := blk_lt h.res
/-- A part has gone over a value's block. -/
theorem VI.inside {w w1 w2 : World} {R C : Nat} {s : ByteArray} {st st' : RSt} {kind kind' : Int} {kv : KV} {v3 v4 : Value} (h : VI w w1 R C s st) (hE : Env w2 R C w1.heap.size w.heap.size (w1.heap.size + 1) kind s st' kv v3 v4) (k : Kp (Own4 R C w1.heap.size (w1.heap.size + 1)) (w1.alloc (builtO kind')) w2) : VI w w2 R C s st' := by
  have hr := h.r
  have hc := h.c
  have hlt := h.lt2
  have h0 := (h.build kind').1
  refine ⟨hE.rd, hE.box, blk_kp h0.res k (fun e => ?_), h.kp.trans ((Kp.refl (Own4 R C w1.heap.size (w1.heap.size + 1)) _).alloc _ |>.then_ k) (fun b e => ?_), hr, hc⟩
  · rcases e with e | e | e | e <;> omega
  · rcases e with e | e | e | e
    · exact .inl (.inl e)
    · exact .inl (.inr e)
    · exact .inr (by omega)
    · exact .inr (by omega)
theorem VI.bcell {w w1 : World} {R C : Nat} {s : ByteArray} {st : RSt} (h : VI w w1 R C s st) (kind : Int) : (w1.alloc (.cells #[.int .i64 kind, .int .i64 0, .string ⟨#[]⟩, .slice none 0 0, .slice none 0 0] 27)).cell? ⟨w.heap.size, 0, none⟩ = some (.pointer (some ⟨R, 0, none⟩)) := (h.build kind).1.cb
theorem rd_wrong1 (R C : Nat) (s : ByteArray) (st : RSt) (a : Nat) (w : World) (h : Rdr w R C s st) :
    Calls Tryd.prog 20 #[.pointer (some ⟨R, 0, none⟩), .int .i64 a, .int .i64 1] w fun e1 w' => e1 = .returned (.tuple #[]) ∧ Rdr w' R C s (wrongP st a 1) ∧ Kp (fun b => b = R) w w' := rd_wrong R C s st a 1 w h
theorem VI.fin {w w2 : World} {R C V base : Nat} {s : ByteArray} {st' : RSt} {kind : Int} {kv : KV} {v3 v4 : Value} (h : VI w w2 R C s st') (hE : Env w2 R C V w.heap.size base kind s st' kv v3 v4) (hb : w.heap.size + 1 < base) :
    ValPost w R C s (⟨kind, 0, ⟨#[]⟩, kv.1, kv.2⟩, st') (.returned (.agg #[.int .i64 kind, .int .i64 0, .string ⟨#[]⟩, v3, v4])) (set5 w2 (w.heap.size + 1) (.int .i64 kind) (.int .i64 0) (.string ⟨#[]⟩) v3 v4) := by
  have k : Kp (fun b => b = w.heap.size + 1) w2 (set5 w2 (w.heap.size + 1) (.int .i64 kind) (.int .i64 0) (.string ⟨#[]⟩) v3 v4) := set5_kp (S := fun b => b = w.heap.size + 1) (Kp.refl _ _) (.inl rfl) _ _ _ _ _
  refine ⟨v3, v4, rfl, ?_, ?_, (h.five _ _ _ _ _).1, (h.five _ _ _ _ _).2⟩
  · exact Kd.R_lower (Kd.R_mono (Kd.R_step (Kd.R_bound hE.vb.keys) (fun b hb2 hlt => k.block b hlt (fun e => by have := hb2.2.1; omega))) (fun _ hk => hk.1)) (by omega)
  · exact Kd.R_lower (Kd.R_mono (Kd.R_step (Kd.R_bound hE.vb.vals) (fun b hb2 hlt => k.block b hlt (fun e => by have := hb2.2.1; omega))) (fun _ hk => hk.1)) (by omega)
theorem Env.vcells {w : World} {R C V B base : Nat} {kind : Int} {s : ByteArray} {st : RSt} {kv : KV} {v3 v4 : Value} (h : Env w R C V B base kind s st kv v3 v4) : w.cell? ⟨V, 0, none⟩ = some (.int .i64 kind) ∧ w.cell? ⟨V, 1, none⟩ = some (.int .i64 0) ∧ w.cell? ⟨V, 2, none⟩ = some (.string ⟨#[]⟩) ∧ w.cell? ⟨V, 3, none⟩ = some v3 ∧ w.cell? ⟨V, 4, none⟩ = some v4 :=
  ⟨(blk_cell h.vb.blk 0).trans rfl, (blk_cell h.vb.blk 1).trans rfl, (blk_cell h.vb.blk 2).trans rfl, (blk_cell h.vb.blk 3).trans rfl, (blk_cell h.vb.blk 4).trans rfl⟩
set_option maxHeartbeats 2000000 in
set_option maxRecDepth 100000 in
theorem value_list {s : ByteArray} (hs : s.size ≤ 1000000000) {d : Nat} (ih : ValC s d) {R C : Nat} {st st1 : RSt} {w : World} {b : Int} (V0 : Hid (VI w ((w.alloc (boxO R)).alloc zeroO) R C s st)) (Hb : Hid (∀ w, Rdr w R C s st → Calls Tryd.prog 18 #[.pointer (some ⟨R, 0, none⟩)] w fun e w' => e = .returned (.int .u8 b) ∧ Rdr w' R C s st1 ∧ Kp (fun b => b = C) w w'))
    (hp : st1.pos ≤ s.size) (hd8 : st1.deep ≤ 8) (hd9 : 9 ≤ st1.deep + (d + 1)) (e1 : (b == 34) = false) (e2 : (b == 91) = true) :
    Calls Tryd.prog 17 #[.pointer (some ⟨R, 0, none⟩)] w (ValPost w R C s (⟨4, 0, ⟨#[]⟩, (insideP s ⟨#[91]⟩ ⟨#[93]⟩ (partL (pV s d)) st1).1.1, (insideP s ⟨#[91]⟩ ⟨#[93]⟩ (partL (pV s d)) st1).1.2⟩, (insideP s ⟨#[91]⟩ ⟨#[93]⟩ (partL (pV s d)) st1).2)) := by
  have b0 := V0.out.cb
  have HI := Lib.hid (fun w1 (h : VI w w1 R C s st1) => inside_any (partL_goes (fun st h => goes_pV d st h)) (f := 33) (caps := #[.pointer (some ⟨w1.heap.size, 0, none⟩), .pointer (some ⟨w.heap.size, 0, none⟩)]) (fun args w => rfl) (h.build 4).2.2
    (fun hD kv st v3 v4 w hE hp hd hl hl2 => part_L ih hE (h.build 4).2.2 hp (by omega) (by omega) (by omega)) (be := ⟨#[91]⟩) (en := ⟨#[93]⟩) (by decide) (by decide) (h.build 4).2.1 hp hs rfl hd8)
  generalize insideP s ⟨#[91]⟩ ⟨#[93]⟩ (partL (pV s d)) st1 = r at HI ⊢
  obtain ⟨kv, st'⟩ := r
  simp only at HI ⊢
  clear ih hp hd8 hd9 hs
  have hmf : ∀ (fn : Fn) (first cap : Array Value) (w : World), (Instr.makeFunc fn first cap).run Tryd.prog w = .ok (.func fn first cap) w := fun _ _ _ _ => rfl
  go_enter Tryd.func17, Tryd.ntmps17
  go_wp2_with (first
      | (go_at_call 18; go_must (refine (Hb.out _ V0.out.rd).mono ?_); rintro e w1 ⟨rfl, h1, k1⟩; have V1 := Lib.hid (V0.out.move (kp_C k1) h1); have b1 := V1.out.cb; have b2 := V1.out.bcell 4; clear h1 k1)
      | (go_at_call 32; go_must (refine (HI.out _ V1.out).mono ?_); rintro e w2 ⟨rfl, v3, v4, h2, k2⟩; have V2 := Lib.hid (V1.out.inside h2 k2); obtain ⟨A3, c3, hv3⟩ := own_slice h2.vb.keys.2.choose_spec.1; obtain ⟨A4, c4, hv4⟩ := own_slice h2.vb.vals.2.choose_spec.1; subst hv3; subst hv4; have E2 := Lib.hid h2; have hlt := V1.out.lt2; obtain ⟨z0, z1, z2, z3, z4⟩ := h2.vcells; obtain ⟨x0, x1, x2, x3, x4⟩ := V2.out.cells; have y0 := V2.out.frozen 0; have y1 := V2.out.frozen 1; have y2 := V2.out.frozen 2; have y3 := V2.out.frozen 3; have y4 := V2.out.frozen 4; clear h2 k2)
      )
  refine bodyPost_ret (results_cell_row rfl _ _ _ 27 _ (0, 0) _ rfl (set5_blk V2.out.res _ _ _ _ _) Tryd.underlying27 rfl (by kernel_rfl)) rfl ?_
  exact V2.out.fin E2.out (by omega)
set_option maxHeartbeats 2000000 in
set_option maxRecDepth 100000 in
theorem value_map {s : ByteArray} (hs : s.size ≤ 1000000000) {d : Nat} (ih : ValC s d) {R C : Nat} {st st1 : RSt} {w : World} {b : Int} (V0 : Hid (VI w ((w.alloc (boxO R)).alloc zeroO) R C s st)) (Hb : Hid (∀ w, Rdr w R C s st → Calls Tryd.prog 18 #[.pointer (some ⟨R, 0, none⟩)] w fun e w' => e = .returned (.int .u8 b) ∧ Rdr w' R C s st1 ∧ Kp (fun b => b = C) w w'))
    (hp : st1.pos ≤ s.size) (hd8 : st1.deep ≤ 8) (hd9 : 9 ≤ st1.deep + (d + 1)) (e1 : (b == 34) = false) (e2 : (b == 91) = false) (e3 : (b == 123) = true) :
    Calls Tryd.prog 17 #[.pointer (some ⟨R, 0, none⟩)] w (ValPost w R C s (⟨5, 0, ⟨#[]⟩, (insideP s ⟨#[123]⟩ ⟨#[125]⟩ (partM s (pV s d)) st1).1.1, (insideP s ⟨#[123]⟩ ⟨#[125]⟩ (partM s (pV s d)) st1).1.2⟩, (insideP s ⟨#[123]⟩ ⟨#[125]⟩ (partM s (pV s d)) st1).2)) := by
  have b0 := V0.out.cb
  have HI := Lib.hid (fun w1 (h : VI w w1 R C s st1) => inside_any (partM_goes (fun st h => goes_pV d st h)) (f := 34) (caps := #[.pointer (some ⟨w.heap.size, 0, none⟩), .pointer (some ⟨w1.heap.size, 0, none⟩)]) (fun args w => rfl) (h.build 5).2.2
    (fun hD kv st v3 v4 w hE hp hd hl hl2 => part_M ih hE (h.build 5).2.2 hp (by omega) (by omega) (by omega) (by omega) (by omega)) (be := ⟨#[123]⟩) (en := ⟨#[125]⟩) (by decide) (by decide) (h.build 5).2.1 hp hs rfl hd8)
  generalize insideP s ⟨#[123]⟩ ⟨#[125]⟩ (partM s (pV s d)) st1 = r at HI ⊢
  obtain ⟨kv, st'⟩ := r
  simp only at HI ⊢
  clear ih hp hd8 hd9 hs
  have hmf : ∀ (fn : Fn) (first cap : Array Value) (w : World), (Instr.makeFunc fn first cap).run Tryd.prog w = .ok (.func fn first cap) w := fun _ _ _ _ => rfl
  go_enter Tryd.func17, Tryd.ntmps17
  go_wp2_with (first
      | (go_at_call 18; go_must (refine (Hb.out _ V0.out.rd).mono ?_); rintro e w1 ⟨rfl, h1, k1⟩; have V1 := Lib.hid (V0.out.move (kp_C k1) h1); have b1 := V1.out.cb; have b2 := V1.out.bcell 5; clear h1 k1)
      | (go_at_call 32; go_must (refine (HI.out _ V1.out).mono ?_); rintro e w2 ⟨rfl, v3, v4, h2, k2⟩; have V2 := Lib.hid (V1.out.inside h2 k2); obtain ⟨A3, c3, hv3⟩ := own_slice h2.vb.keys.2.choose_spec.1; obtain ⟨A4, c4, hv4⟩ := own_slice h2.vb.vals.2.choose_spec.1; subst hv3; subst hv4; have E2 := Lib.hid h2; have hlt := V1.out.lt2; obtain ⟨z0, z1, z2, z3, z4⟩ := h2.vcells; obtain ⟨x0, x1, x2, x3, x4⟩ := V2.out.cells; have y0 := V2.out.frozen 0; have y1 := V2.out.frozen 1; have y2 := V2.out.frozen 2; have y3 := V2.out.frozen 3; have y4 := V2.out.frozen 4; clear h2 k2)
      )
  refine bodyPost_ret (results_cell_row rfl _ _ _ 27 _ (0, 0) _ rfl (set5_blk V2.out.res _ _ _ _ _) Tryd.underlying27 rfl (by kernel_rfl)) rfl ?_
  exact V2.out.fin E2.out (by omega)
set_option maxHeartbeats 4000000 in
set_option maxRecDepth 100000 in
theorem value_any (s : ByteArray) (hs : s.size ≤ 1000000000) (d : Nat) (ih : ValC s d) : ValC s (d + 1) := by
  intro R C st w h hp hdp hd9
  have hs2 : s.size ≤ 140737488351232 := by omega
  have V0 := Lib.hid (VI.start h)
  have Hb := Lib.hid (fun w h => rd_blanks R C s st w h hp hs2)
  have g1 := goes_blanks hp
  show Calls _ _ _ _ (ValPost w R C s (pV s (d + 1) st))
  unfold pV
  simp only
  have hd1 : (blanksP s st).deep = st.deep := rfl
  generalize blanksP s st = st1 at Hb g1 hd1 ⊢
  obtain ⟨b, hb⟩ : ∃ b, pkB s st1.pos = b := ⟨_, rfl⟩
  rw [hb] at Hb ⊢
  have b0 := V0.out.cb
  clear h hp hb
  by_cases c1 : b = 34
  · rw [if_pos c1]
    have e1 : (b == 34) = true := beq_iff_eq.2 c1
    have Hq := Lib.hid (fun w h => rd_quoted R C s st1 w h g1.hi hs2)
    generalize quotedP s st1 = q at Hq ⊢
    obtain ⟨q1, q2⟩ := q
    clear c1 ih g1 hd1
    go_enter Tryd.func17, Tryd.ntmps17
    go_wp2_with (first
      | (go_at_call 18; go_must (refine (Hb.out _ V0.out.rd).mono ?_); rintro e w1 ⟨rfl, h1, k1⟩; have V1 := Lib.hid (V0.out.move (kp_C k1) h1); have b1 := V1.out.cb; clear h1 k1)
      | (go_at_call 31; go_must (refine (Hq.out _ V1.out.rd).mono ?_); rintro e w2 ⟨rfl, h2, k2⟩; have V2 := Lib.hid (V1.out.move k2 h2); obtain ⟨x0, x1, x2, x3, x4⟩ := V2.out.cells; have y0 := V2.out.frozen 0; have y1 := V2.out.frozen 1; have y2 := V2.out.frozen 2; have y3 := V2.out.frozen 3; have y4 := V2.out.frozen 4; clear h2 k2))
    refine bodyPost_ret (results_cell_row rfl _ _ _ 27 _ (0, 0) _ rfl (set5_blk V2.out.res _ _ _ _ _) Tryd.underlying27 rfl (by kernel_rfl)) rfl ?_
    exact V2.out.post 1 0 q1
  · rw [if_neg c1]
    have e1 : (b == 34) = false := beq_eq_false_iff_ne.2 c1
    by_cases c2 : b = 91
    · rw [if_pos c2]
      exact value_list hs ih V0 Hb g1.hi (by omega) (by omega) e1 (beq_iff_eq.2 c2)
    · rw [if_neg c2]
      have e2 : (b == 91) = false := beq_eq_false_iff_ne.2 c2
      by_cases c3 : b = 123
      · rw [if_pos c3]
        exact value_map hs ih V0 Hb g1.hi (by omega) (by omega) e1 e2 (beq_iff_eq.2 c3)
      · rw [if_neg c3]
        have e3 : (b == 123) = false := beq_eq_false_iff_ne.2 c3
        by_cases c4 : b = 45 ∨ (48 ≤ b ∧ b ≤ 57)
        · rw [if_pos c4]
          have e4 : (if b = 45 ∨ (48 ≤ b ∧ b ≤ 57) then True else True) = True := by simp
          have Hn := Lib.hid (fun w h => rd_number R C s st1 w h g1.hi hs2)
          generalize numberP s st1 = r at Hn ⊢
          obtain ⟨r1, r2⟩ := r
          have hcase : (b == 45) = true ∨ ((b == 45) = false ∧ decide (b ≥ 48) = true ∧ decide (b ≤ 57) = true) := by
            by_cases hc : b = 45
            · exact .inl (beq_iff_eq.2 hc)
            · exact .inr ⟨beq_eq_false_iff_ne.2 hc, decide_eq_true (by omega), decide_eq_true (by omega)⟩
          clear e4 c4 c1 c2 c3 ih g1 hd1
          cases r1 with
          | none =>
            rcases hcase with f1 | ⟨f1, f2, f3⟩
            all_goals
              go_enter Tryd.func17, Tryd.ntmps17
              go_wp2_with (first
                | (go_at_call 18; go_must (refine (Hb.out _ V0.out.rd).mono ?_); rintro e w1 ⟨rfl, h1, k1⟩; have V1 := Lib.hid (V0.out.move (kp_C k1) h1); have b1 := V1.out.cb; have r0 := h1.c0; clear h1 k1)
                | (go_at_call 36; go_must (refine (Hn.out _ V1.out.rd).mono ?_); rintro e w2 ⟨rfl, h2, k2⟩; have V2 := Lib.hid (V1.out.move k2 h2); obtain ⟨x0, x1, x2, x3, x4⟩ := V2.out.cells; have y0 := V2.out.frozen 0; have y1 := V2.out.frozen 1; have y2 := V2.out.frozen 2; have y3 := V2.out.frozen 3; have y4 := V2.out.frozen 4; clear h2 k2))
              refine bodyPost_ret (results_cell_row rfl _ _ _ 27 _ (0, 0) _ rfl (set5_blk V2.out.res _ _ _ _ _) Tryd.underlying27 rfl (by kernel_rfl)) rfl ?_
              exact V2.out.post 0 0 ⟨#[]⟩
          | some n =>
            rcases hcase with f1 | ⟨f1, f2, f3⟩
            all_goals
              go_enter Tryd.func17, Tryd.ntmps17
              go_wp2_with (first
                | (go_at_call 18; go_must (refine (Hb.out _ V0.out.rd).mono ?_); rintro e w1 ⟨rfl, h1, k1⟩; have V1 := Lib.hid (V0.out.move (kp_C k1) h1); have b1 := V1.out.cb; have r0 := h1.c0; clear h1 k1)
                | (go_at_call 36; go_must (refine (Hn.out _ V1.out.rd).mono ?_); rintro e w2 ⟨rfl, h2, k2⟩; have V2 := Lib.hid (V1.out.move k2 h2); obtain ⟨x0, x1, x2, x3, x4⟩ := V2.out.cells; have y0 := V2.out.frozen 0; have y1 := V2.out.frozen 1; have y2 := V2.out.frozen 2; have y3 := V2.out.frozen 3; have y4 := V2.out.frozen 4; clear h2 k2))
              refine bodyPost_ret (results_cell_row rfl _ _ _ 27 _ (0, 0) _ rfl (set5_blk V2.out.res _ _ _ _ _) Tryd.underlying27 rfl (by kernel_rfl)) rfl ?_
              exact V2.out.post 2 n ⟨#[]⟩
        · skip
          rw [if_neg c4]
          have f1 : (b == 45) = false := beq_eq_false_iff_ne.2 (fun h => c4 (.inl h))
          have hcase : decide (b ≥ 48) = false ∨ (decide (b ≥ 48) = true ∧ decide (b ≤ 57) = false) := by
            by_cases hc : 48 ≤ b
            · exact .inr ⟨decide_eq_true hc, decide_eq_false (fun h => c4 (.inr ⟨hc, h⟩))⟩
            · exact .inl (decide_eq_false hc)
          have Ht := Lib.hid (fun w h => rd_Take R C s st1 ⟨#[116, 114, 117, 101]⟩ w h g1.hi hs2 (by decide))
          clear c4 c1 c2 c3 ih hd1
          cases n1 : nextIs s st1.pos ⟨#[116, 114, 117, 101]⟩ with
          | true =>
            rw [if_pos rfl]
            rw [n1] at Ht
            generalize takeP s st1 ⟨#[116, 114, 117, 101]⟩ = stz at Ht ⊢
            clear n1 g1
            rcases hcase with f2 | ⟨f2, f3⟩
            all_goals
              go_enter Tryd.func17, Tryd.ntmps17
              go_wp2_with (first
                | (go_at_call 18; go_must (refine (Hb.out _ V0.out.rd).mono ?_); rintro e w1 ⟨rfl, h1, k1⟩; have V1 := Lib.hid (V0.out.move (kp_C k1) h1); have b1 := V1.out.cb; have r0 := h1.c0; clear h1 k1)
                | (go_at_call 37; (go_must ((with_reducible refine (Ht.out _ V1.out.rd).mono ?_)); rintro e w_V2 ⟨rfl, h4, k4⟩; have V2 := Lib.hid (V1.out.move (kp_C k4) h4); have b_V2 := V2.out.cb; have r_V2 := h4.c0; obtain ⟨x0, x1, x2, x3, x4⟩ := V2.out.cells; have y0 := V2.out.frozen 0; have y1 := V2.out.frozen 1; have y2 := V2.out.frozen 2; have y3 := V2.out.frozen 3; have y4 := V2.out.frozen 4; clear h4 k4)))
              refine bodyPost_ret (results_cell_row rfl _ _ _ 27 _ (0, 0) _ rfl (set5_blk V2.out.res _ _ _ _ _) Tryd.underlying27 rfl (by kernel_rfl)) rfl ?_
              exact V2.out.post 3 1 ⟨#[]⟩
          | false =>
            rw [if_neg (by decide)]
            have ht1 : takeP s st1 ⟨#[116, 114, 117, 101]⟩ = st1 := by unfold takeP; rw [if_neg (by rw [n1]; decide)]
            rw [n1, ht1] at Ht
            clear n1 ht1
            have Hf := Lib.hid (fun w h => rd_Take R C s st1 ⟨#[102, 97, 108, 115, 101]⟩ w h g1.hi hs2 (by decide))
            cases n2 : nextIs s st1.pos ⟨#[102, 97, 108, 115, 101]⟩ with
            | true =>
              rw [if_pos rfl]
              rw [n2] at Hf
              generalize takeP s st1 ⟨#[102, 97, 108, 115, 101]⟩ = stz at Hf ⊢
              clear n2 g1
              rcases hcase with f2 | ⟨f2, f3⟩
              all_goals
                go_enter Tryd.func17, Tryd.ntmps17
                go_wp2_with (first
                  | (go_at_call 18; go_must (refine (Hb.out _ V0.out.rd).mono ?_); rintro e w1 ⟨rfl, h1, k1⟩; have V1 := Lib.hid (V0.out.move (kp_C k1) h1); have b1 := V1.out.cb; have r0 := h1.c0; clear h1 k1)
                  | (go_at_call 37; (first | (((with_reducible refine (Ht.out _ V1.out.rd).mono ?_)); rintro e w_V2 ⟨rfl, h4, k4⟩; have V2 := Lib.hid (V1.out.move (kp_C k4) h4); have b_V2 := V2.out.cb; have r_V2 := h4.c0; clear h4 k4) | (go_must ((with_reducible refine (Hf.out _ V2.out.rd).mono ?_)); rintro e w_V3 ⟨rfl, h4, k4⟩; have V3 := Lib.hid (V2.out.move (kp_C k4) h4); have b_V3 := V3.out.cb; have r_V3 := h4.c0; obtain ⟨x0, x1, x2, x3, x4⟩ := V3.out.cells; have y0 := V3.out.frozen 0; have y1 := V3.out.frozen 1; have y2 := V3.out.frozen 2; have y3 := V3.out.frozen 3; have y4 := V3.out.frozen 4; clear h4 k4))))
                refine bodyPost_ret (results_cell_row rfl _ _ _ 27 _ (0, 0) _ rfl (set5_blk V3.out.res _ _ _ _ _) Tryd.underlying27 rfl (by kernel_rfl)) rfl ?_
                exact V3.out.post 3 0 ⟨#[]⟩
            | false =>
              rw [if_neg (by decide)]
              have ht2 : takeP s st1 ⟨#[102, 97, 108, 115, 101]⟩ = st1 := by unfold takeP; rw [if_neg (by rw [n2]; decide)]
              rw [n2, ht2] at Hf
              clear n2 ht2 g1
              rcases hcase with f2 | ⟨f2, f3⟩
              all_goals
                go_enter Tryd.func17, Tryd.ntmps17
                go_wp2_with (first
                  | (go_at_call 18; go_must (refine (Hb.out _ V0.out.rd).mono ?_); rintro e w1 ⟨rfl, h1, k1⟩; have V1 := Lib.hid (V0.out.move (kp_C k1) h1); have b1 := V1.out.cb; have r0 := h1.c0; clear h1 k1)
                  | (go_at_call 37; (first | (((with_reducible refine (Ht.out _ V1.out.rd).mono ?_)); rintro e w_V2 ⟨rfl, h4, k4⟩; have V2 := Lib.hid (V1.out.move (kp_C k4) h4); have b_V2 := V2.out.cb; have r_V2 := h4.c0; clear h4 k4) | (go_must ((with_reducible refine (Hf.out _ V2.out.rd).mono ?_)); rintro e w_V3 ⟨rfl, h4, k4⟩; have V3 := Lib.hid (V2.out.move (kp_C k4) h4); have b_V3 := V3.out.cb; have r_V3 := h4.c0; clear h4 k4))))
                have V3d : VI w w_V3.drew R C s st1 := V3.out.move (Kp.refl _ _).drew V3.out.rd.drew
                refine start_ (n := 9) (S := fun w' => Rdr w' R C s st1 ∧ w'.cell? ⟨w.heap.size, 0, none⟩ = some (.pointer (some ⟨R, 0, none⟩)) ∧ w'.cell? ⟨R, 0, none⟩ = some (.pointer (some ⟨C, 0, none⟩))) (ds := [8]) #[false, false, false, false, false, false, false, false, false] (by kernel_rfl) rfl rfl ⟨V3d.rd, V3d.cb, V3d.rd.c0⟩ (fun hHeld => ?_)
                refine take_ (i := 0) (N := some 57) (v := ?_) (a' := ?_) #[true, false, false, false, false, false, false, false, false] rfl rfl (by kernel_rfl) (fun _ _ _ h => h) (Or.inl ⟨by rfl, ?_⟩) hHeld ?_ ?_
                rotate_left
                · rintro w' ⟨s0, s1, s2⟩
                  go_simp
                  with_reducible rfl
                rotate_left
                · simp only [Act.put, List.setIfInBounds_toArray, List.set_cons_zero, List.set_cons_succ, i64_w, i32_w]
                  rfl
                refine take_ (i := 1) (N := some 58) (v := ?_) (a' := ?_) #[true, true, false, false, false, false, false, false, false] rfl rfl (by kernel_rfl) (fun _ _ _ h => h) (Or.inl ⟨by rfl, ?_⟩) hHeld ?_ ?_
                rotate_left
                · rintro w' ⟨s0, s1, s2⟩
                  go_simp
                  with_reducible rfl
                rotate_left
                · simp only [Act.put, List.setIfInBounds_toArray, List.set_cons_zero, List.set_cons_succ, i64_w, i32_w]
                  rfl
                refine pure_ (i := 2) (N := some 59) (v := ?_) (a' := ?_) #[true, true, true, false, false, false, false, false, false] rfl rfl (by kernel_rfl) (fun _ _ _ h => h) (Or.inl ⟨by rfl, ?_⟩) ?_ ?_
                rotate_left
                · intro w'
                  go_simp
                  with_reducible rfl
                rotate_left
                · simp only [Act.put, List.setIfInBounds_toArray, List.set_cons_zero, List.set_cons_succ, i64_w, i32_w]
                  rfl
                refine pure_ (i := 3) (N := some 60) (v := ?_) (a' := ?_) #[true, true, true, true, false, false, false, false, false] rfl rfl (by kernel_rfl) (fun _ _ _ h => h) (Or.inl ⟨by rfl, ?_⟩) ?_ ?_
                rotate_left
                · intro w'
                  go_simp
                  with_reducible rfl
                rotate_left
                · simp only [Act.put, List.setIfInBounds_toArray, List.set_cons_zero, List.set_cons_succ, i64_w, i32_w]
                  rfl
                refine take_ (i := 4) (N := some 61) (v := ?_) (a' := ?_) #[true, true, true, true, true, false, false, false, false] rfl rfl (by kernel_rfl) (fun _ _ _ h => h) (Or.inl ⟨by rfl, ?_⟩) hHeld ?_ ?_
                rotate_left
                · rintro w' ⟨s0, s1, s2⟩
                  go_simp
                  with_reducible rfl
                rotate_left
                · simp only [Act.put, List.setIfInBounds_toArray, List.set_cons_zero, List.set_cons_succ, i64_w, i32_w]
                  rfl
                refine pure_ (i := 5) (N := some 62) (v := ?_) (a' := ?_) #[true, true, true, true, true, true, false, false, false] rfl rfl (by kernel_rfl) (fun _ _ _ h => h) (Or.inl ⟨by rfl, ?_⟩) ?_ ?_
                rotate_left
                · intro w'
                  go_simp
                  with_reducible rfl
                rotate_left
                · simp only [Act.put, List.setIfInBounds_toArray, List.set_cons_zero, List.set_cons_succ, i64_w, i32_w]
                  rfl
                refine pure_ (i := 6) (N := some 63) (v := ?_) (a' := ?_) #[true, true, true, true, true, true, true, false, false] rfl rfl (by kernel_rfl) (fun _ _ _ h => h) (Or.inl ⟨by rfl, ?_⟩) ?_ ?_
                rotate_left
                · intro w'
                  go_simp
                  with_reducible rfl
                rotate_left
                · simp only [Act.put, List.setIfInBounds_toArray, List.set_cons_zero, List.set_cons_succ, i64_w, i32_w]
                  rfl
                refine one_ (i := 7) (N := some 64) #[true, true, true, true, true, true, true, true, false] rfl rfl (by kernel_rfl) (by decide) (fun K hK => ?_)
                refine goes_ Tryd.func19 (by kernel_rfl) rfl #[.pointer (some ⟨C, 0, none⟩)] (by rfl) rfl rfl (by simp only [List.map_toArray, List.map_cons, List.map_nil]; rfl) ?_
                with_reducible refine (front_At C st1.pos _ hHeld.1.cur.cells.2.1).mono ?_
                rintro e w4 ⟨rfl, rfl⟩
                refine ⟨_, rfl, ?_⟩
                refine hK.out _ _ ⟨hHeld.1, hHeld.2.1, hHeld.2.2⟩ (fun hHeld => ?_)
                clear hK K
                refine norm_ (a' := ?_) ?_ ?_
                rotate_left
                · show Act.put _ (some 64) _ = _
                  simp only [Act.put, List.setIfInBounds_toArray, List.set_cons_zero, List.set_cons_succ, i64_w, i32_w]
                  rfl
                refine last_ (i := 8) (N := some 65) #[true, true, true, true, true, true, true, true, true] rfl rfl (by kernel_rfl) (by decide) (fun K hK => ?_)
                refine goes_ Tryd.func20 (by kernel_rfl) rfl #[.pointer (some ⟨R, 0, none⟩), .int .i64 st1.pos, .int .i64 1] (by rfl) rfl rfl (by simp only [List.map_toArray, List.map_cons, List.map_nil]; rfl) ?_
                with_reducible refine (rd_wrong1 R C s st1 st1.pos _ V3d.rd).mono ?_
                rintro e w5 ⟨rfl, h5, k5⟩
                refine ⟨_, rfl, ?_⟩
                refine hK.out _ _ ?_
                clear hK K
                refine norm_ (a' := ?_) ?_ ?_
                rotate_left
                · show Act.put _ (some 65) _ = _
                  simp only [Act.put, List.setIfInBounds_toArray, List.set_cons_zero, List.set_cons_succ, i64_w, i32_w]
                  rfl
                refine done_ (by kernel_rfl) ?_
                have V5 := Lib.hid (V3d.move (kp_R k5) h5)
                obtain ⟨x0, x1, x2, x3, x4⟩ := V5.out.cells
                have y0 := V5.out.frozen 0
                have y1 := V5.out.frozen 1
                have y2 := V5.out.frozen 2
                have y3 := V5.out.frozen 3
                have y4 := V5.out.frozen 4
                clear h5 k5 V3d
                go_wp2
                refine bodyPost_ret (results_cell_row rfl _ _ _ 27 _ (0, 0) _ rfl (set5_blk V5.out.res _ _ _ _ _) Tryd.underlying27 rfl (by kernel_rfl)) rfl ?_
                exact V5.out.post 0 0 ⟨#[]⟩

end Go.Proofs.YtnijnemkjnnolaaDoor.P
