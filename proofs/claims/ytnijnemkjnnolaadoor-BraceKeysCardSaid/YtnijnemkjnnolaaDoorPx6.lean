-- Written by a program of this session (wip/mp): the kit's print, with contracts proved by hand let in as printed ones.
import Derived.Test.YtnijnemkjnnolaaDoorPx0
import Derived.Test.YtnijnemkjnnolaaDoorPx2
import Derived.Test.YtnijnemkjnnolaaDoorPx4
import Derived.Test.YtnijnemkjnnolaaDoorPx5
namespace Go.Proofs.YtnijnemkjnnolaaDoor.P
open Go.RowKit Go.Proofs.YtnijnemkjnnolaaDoorW.PrintWords Go.Proofs.YtnijnemkjnnolaaDoorW.PrintLast Go.Proofs.YtnijnemkjnnolaaDoorW.PrintMore
attribute [local go_sem] max2_int min2_int max_two min_two max_three min_three max_four min_four   -- for this text's walks alone
set_option linter.unusedVariables false
set_option linter.unusedSimpArgs false

theorem Env.c3 {w : World} {R C V B base : Nat} {kind : Int} {s : ByteArray} {st : RSt} {kv : KV} {v3 v4 : Value} (h : Env w R C V B base kind s st kv v3 v4) : w.cell? ⟨V, 3, none⟩ = some v3 := cellV h.vb.blk 3 _ rfl
theorem Env.drawn {w w' : World} {R C V B base : Nat} {kind : Int} {s : ByteArray} {st : RSt} {kv : KV} {v3 v4 : Value} (h : Env w R C V B base kind s st kv v3 v4) (l : Lie R C V B base) (hd : Drawn0 w w') : Env w' R C V B base kind s st kv v3 v4 := h.kp l (Kp.of_below hd.below _) (h.rd.drawn hd)
/-- Behind the append of a key. -/
theorem fin_key {w w1 w' : World} {R C V B base : Nat} {kind : Int} {s : ByteArray} {st : RSt} {kv : KV} {v3 v4 v5 : Value} {k : ByteArray} (hl : Lie R C V B base) (hE : Env w R C V B base kind s st kv v3 v4) (hb : Below w.heap.size w w1) (hg : w1.grownBy w' v3.ownBlock) (hat : v5.ownBlock = v3.ownBlock ∨ ∃ b, v5.ownBlock = some b ∧ w1.heap.size ≤ b)
    (hR : Kd.string.R 9 w' base (fun _ => True) v5 (kv.1 ++ [k])) :
    Env (w'.setCell ⟨V, 3, none⟩ v5) R C V B base kind s st (kv.1 ++ [k], kv.2) v5 v4 ∧ Kp (Own4 R C V base) w (w'.setCell ⟨V, 3, none⟩ v5) := by
  have hrow : ∀ b, some b = v3.ownBlock → base ≤ b := fun b e => Kd.R_base hE.vb.keys b e.symm
  have k1 : Kp (fun b => some b = v3.ownBlock) w w' := Kp.grown (Kp.of_below hb _) hg (fun k e => .inl e.symm)
  have k2 : Kp (fun b => some b = v3.ownBlock ∨ b = V) w (w'.setCell ⟨V, 3, none⟩ v5) := Kp.setCell (k1.mono (fun _ h => .inl h)) (.inl (.inr rfl)) _
  have hS : ∀ b, b < base → ¬ some b = v3.ownBlock := fun b hb e => by have := hrow b e; omega
  have hS2 : ∀ b, b < base → b ≠ V → ¬ (some b = v3.ownBlock ∨ b = V) := fun b hb hV h => h.elim (hS b hb) hV
  have hnew : ∀ b, b < w.heap.size → some b ≠ v3.ownBlock → some b ≠ v5.ownBlock := fun b hlt hne e => hat.elim (fun h => hne (e.trans h)) (fun h => by obtain ⟨q, h1, h2⟩ := h; have := Option.some.inj (e.trans h1); have := hb.size; omega)
  refine ⟨⟨hE.rd.kp k2 (hS2 R hl.r hl.rv) (hS2 C hl.c hl.cv), ⟨blk_put (blk_kp hE.vb.blk k1 (hS V hl.v)) 3 _ rfl, ?_, ?_⟩, blk_kp hE.box k2 (hS2 B hl.b (fun e => hl.vb e.symm)), Nat.le_trans hE.size k2.size⟩, k2.mono (fun b h => h.elim (fun e => .inr (.inr (.inr (hrow b e)))) (fun e => .inr (.inr (.inl e))))⟩
  · have k3 : Kp (fun b => b = V) w' (w'.setCell ⟨V, 3, none⟩ v5) := Kp.setCell (S := fun b => b = V) (p := ⟨V, 3, none⟩) (Kp.refl (fun b => b = V) _) (.inl rfl) _
    exact Kd.R_mono (Kd.R_step (Kd.R_bound hR) (fun b hb hlt => k3.block b hlt (fun e => by have := hb.2.1; have := hl.v; omega))) (fun _ hk => hk.1)
  · exact Kd.R_mono (Kd.R_step (Kd.R_bound hE.vb.vals) (fun b hb hlt => k2.block b hlt (fun h => h.elim hb.1 (fun e => by have := hb.2.1; have := hl.v; omega)))) (fun b hk => hnew b hk.2.2.1 hk.1)
theorem store_V3 {w : World} {V : Nat} {a b c d e : Value} (h : w.heap[V]? = some (.cells #[a, b, c, d, e] 27 (0, 0))) : w.cell? ⟨V, 3, none⟩ = some d ∧ w.frozen? ⟨V, 3, none⟩ = false := ⟨cellV h 3 _ rfl, blk_frozen h 3⟩
set_option maxHeartbeats 4000000 in
set_option maxRecDepth 100000 in
theorem pair_any {s : ByteArray} {d : Nat} (hV : ValC s d) {R C V B base : Nat} {kind : Int} {st : RSt} {kv : KV} {v3 v4 : Value} {w : World} (hE : Env w R C V B base kind s st kv v3 v4) (hl : Lie R C V B base) (hp : st.pos ≤ s.size) (hs : s.size ≤ 140737488351232) (hdp : st.deep ≤ 8) (hd9 : 9 ≤ st.deep + d) (hlen : kv.2.length ≤ 1000000000) (hlen1 : kv.1.length ≤ 1000000000) :
    Calls Tryd.prog 35 #[.pointer (some ⟨R, 0, none⟩), .pointer (some ⟨V, 0, none⟩)] w fun e w' => e = .returned (.tuple #[]) ∧ ∃ v3' v4', Env w' R C V B base kind s (partM s (pV s d) kv st).2 (partM s (pV s d) kv st).1 v3' v4' ∧ Kp (Own4 R C V base) w w' := by
  have g1 := goes_blanks hp
  have g2 := goes_quoted g1.hi
  have g3 := goes_pairQ kv.1 hp
  have g4 := goes_must g3.hi ⟨#[58]⟩
  have hb := fun w h => rd_blanks R C s st w h hp hs
  have hq := fun w h => rd_quoted R C s _ w h g1.hi hs
  have hm := fun w h => rd_must R C s _ ⟨#[58]⟩ w h g3.hi hs (by decide)
  have hv := fun w h => hV R C (mustP s (pairQ s kv.1 st) ⟨#[58]⟩).2 w h g4.hi (by rw [g4.deep, g3.deep]; exact hdp) (by rw [g4.deep, g3.deep]; exact hd9)
  have hP : pairQ s kv.1 st = if (quotedP s (blanksP s st)).2.e = 0 ∧ hasS kv.1 (quotedP s (blanksP s st)).1 = true then wrongP (quotedP s (blanksP s st)).2 (blanksP s st).pos 4 else (quotedP s (blanksP s st)).2 := rfl
  unfold partM
  simp only
  clear g1 g2 g3 g4 hp hdp hd9 hV hs
  generalize pairQ s kv.1 st = st3 at hP hm hv ⊢
  generalize quotedP s (blanksP s st) = q at hP hq ⊢
  generalize blanksP s st = st1 at hP hb hq ⊢
  obtain ⟨k, st2⟩ := q
  generalize mustP s st3 ⟨#[58]⟩ = m at hm hv ⊢
  obtain ⟨b, st4⟩ := m
  simp only at hP hq hm hv ⊢
  generalize pV s d st4 = r at hv ⊢
  obtain ⟨x, st5⟩ := r
  simp only at hv ⊢
  obtain ⟨A3, c3, hv3⟩ := own_slice hE.vb.keys.2.choose_spec.1
  obtain ⟨A, c, hv4⟩ := own_slice hE.vb.vals.2.choose_spec.1
  subst hv3
  subst hv4
  have HE := Lib.hid hE
  have Hl := Lib.hid hl
  have Hv := Lib.hid hv
  have Hb := Lib.hid hb
  have Hq := Lib.hid hq
  have Hm := Lib.hid hm
  have hVC : ¬ RC R C V := fun e => e.elim (fun e => hl.rv e.symm) (fun e => hl.cv e.symm)
  have hBC : ¬ RC R C B := fun e => e.elim (fun e => hl.rb e.symm) (fun e => hl.cb e.symm)
  have hi0 : (kv.2.length : Int) < (kv.2.length : Int) + 1 := by omega
  have Hle := Lib.hid (⟨hlen, hlen1⟩ : kv.2.length ≤ 1000000000 ∧ kv.1.length ≤ 1000000000)
  clear hE hl hv hb hq hm hlen hlen1
  by_cases he : st2.e = 0
  · have e1 : ((st2.e : Int) == 0) = true := by rw [he]; rfl
    cases hh : hasS kv.1 k with
    | true =>
      rw [if_pos ⟨he, hh⟩] at hP
      subst hP
      have Hh := Lib.hid hh
      clear he hh
      cases b with
      | false =>
        rw [if_pos rfl]
        go_enter Tryd.func35, Tryd.ntmps35
        go_wp2_with (first
          | (go_at_call 18; go_must (refine (Hb.out _ HE.out.rd).mono ?_); rintro e w1 ⟨rfl, h1, k1⟩; have E1 := Lib.hid (HE.out.kp Hl.out (kp_C k1) h1); have K1 := Lib.hid (kp_RC4 (R := R) (C := C) (V := V) (base := base) (kp_C k1)); have d0 := h1.c0; clear h1 k1)
          | (go_at_call 19; go_must (refine (front_At C _ _ E1.out.rd.cur.cells.2.1).mono ?_); rintro e w2 ⟨rfl, rfl⟩)
          | (go_at_call 31; go_must (refine (Hq.out _ E1.out.rd).mono ?_); rintro e w3 ⟨rfl, h3, k3⟩; have E3 := Lib.hid (E1.out.kp Hl.out k3 h3); have K3 := Lib.hid (K1.out.then_ (kp_RC4 k3)); have d4 := h3.c4; have x3 := E3.out.c3; clear h3 k3)
          | (go_at_call 57; go_must (refine (slices_Contains_any A3 c3 kv.1 k _ (Kd.R_reads' E3.out.vb.keys).2.2 (Kd.R_reads' E3.out.vb.keys).2.1).mono ?_); rw [Hh.out]; rintro e w4 ⟨rfl, h4⟩; have E4 := Lib.hid (E3.out.drawn Hl.out h4); have K4 := Lib.hid (K3.out.drawn h4); clear h4)
          | (go_at_call 20; go_must (refine (rd_wrong R C s _ _ 4 _ E4.out.rd).mono ?_); rintro e w5 ⟨rfl, h5, k5⟩; have E5 := Lib.hid (E4.out.kp Hl.out (kp_R k5) h5); have K5 := Lib.hid (K4.out.then_ (kp_RC4 (R := R) (C := C) (kp_R k5))); clear h5 k5)
          | (go_at_call 56; go_must (refine (Hm.out _ E5.out.rd).mono ?_); rintro e w6 ⟨rfl, h6, k6⟩; have E6 := Lib.hid (E5.out.kp Hl.out k6 h6); have K6 := Lib.hid (K5.out.then_ (kp_RC4 k6)); have y3 := E6.out.c3; clear h6 k6))
        ((try simp only [Exit.inBlock, Exit.then]); refine bodyPost_ret (results_none rfl _ _ _) rfl ?_)
        exact ⟨rfl, _, _, E6.out, K6.out⟩
      | true =>
        rw [if_neg (by decide)]
        go_enter Tryd.func35, Tryd.ntmps35
        go_wp2_with (first
          | (go_at_call 18; go_must (refine (Hb.out _ HE.out.rd).mono ?_); rintro e w1 ⟨rfl, h1, k1⟩; have E1 := Lib.hid (HE.out.kp Hl.out (kp_C k1) h1); have K1 := Lib.hid (kp_RC4 (R := R) (C := C) (V := V) (base := base) (kp_C k1)); have d0 := h1.c0; clear h1 k1)
          | (go_at_call 19; go_must (refine (front_At C _ _ E1.out.rd.cur.cells.2.1).mono ?_); rintro e w2 ⟨rfl, rfl⟩)
          | (go_at_call 31; go_must (refine (Hq.out _ E1.out.rd).mono ?_); rintro e w3 ⟨rfl, h3, k3⟩; have E3 := Lib.hid (E1.out.kp Hl.out k3 h3); have K3 := Lib.hid (K1.out.then_ (kp_RC4 k3)); have d4 := h3.c4; have x3 := E3.out.c3; clear h3 k3)
          | (go_at_call 57; go_must (refine (slices_Contains_any A3 c3 kv.1 k _ (Kd.R_reads' E3.out.vb.keys).2.2 (Kd.R_reads' E3.out.vb.keys).2.1).mono ?_); rw [Hh.out]; rintro e w4 ⟨rfl, h4⟩; have E4 := Lib.hid (E3.out.drawn Hl.out h4); have K4 := Lib.hid (K3.out.drawn h4); clear h4)
          | (go_at_call 20; go_must (refine (rd_wrong R C s _ _ 4 _ E4.out.rd).mono ?_); rintro e w5 ⟨rfl, h5, k5⟩; have E5 := Lib.hid (E4.out.kp Hl.out (kp_R k5) h5); have K5 := Lib.hid (K4.out.then_ (kp_RC4 (R := R) (C := C) (kp_R k5))); clear h5 k5)
          | (go_at_call 56; go_must (refine (Hm.out _ E5.out.rd).mono ?_); rintro e w6 ⟨rfl, h6, k6⟩; have E6 := Lib.hid (E5.out.kp Hl.out k6 h6); have K6 := Lib.hid (K5.out.then_ (kp_RC4 k6)); have y3 := E6.out.c3; clear h6 k6)
          | ((with_reducible refine gate_builtin (b := .append) (xs := #[.tmp 40, .tmp 42]) rfl ?_); at_builtin; refine Kd.R_append Kd.string (w0 := w6) base rfl (.tmp 40) (.tmp 42) 24 9 (.string ⟨#[]⟩) 16 rfl (by kernel_rfl) (by kernel_rfl) rfl (by decide) (by decide) (.slice A3 kv.1.length c3) kv.1 k [.string k] (fun _ => True) (fun _ => False) rfl rfl rfl (fun _ h => h.elim) (fun _ _ => trivial) E6.out.vb.keys (Below.refl _ _) E6.out.size (by have := Hle.out.2; omega) ?_; intro v5 w7 ho _ hg hat; obtain ⟨g5, c5, rfl, _⟩ := Kd.R_form ho (by simp); have E7 := Lib.hid (fin_key Hl.out E6.out (Below.refl _ _) hg hat ho); obtain ⟨y5, z5⟩ := store_V3 (show w7.heap[V]? = _ from (hg.block V (blk_lt E6.out.vb.blk) (fun e => by have := Kd.R_base E6.out.vb.keys V e.symm; have := Hl.out.v; omega)).trans E6.out.vb.blk); rw [List.length_append, List.length_singleton] at E7; clear ho hg hat))
        obtain ⟨E8o, K8⟩ := E7.out
        have K8t := Lib.hid (K6.out.then_ K8)
        clear E7 K8 y5 z5
        generalize hw8 : w7.setCell ⟨V, 3, none⟩ (.slice (some ⟨g5, 0, none⟩) (kv.1.length + 1) c5) = w8 at E8o K8t ⊢
        generalize (Value.slice (some ⟨g5, 0, none⟩) (kv.1.length + 1) c5) = v3w at E8o ⊢
        clear hw8
        have E8 := Lib.hid E8o
        clear E8o
        obtain ⟨ks, hks⟩ : ∃ ks, ks = kv.1 ++ [k] := ⟨_, rfl⟩
        rw [← hks] at E8
        have hlen := Hle.out.1
        refine start_ (n := 14) (S := fun w' => w'.cell? ⟨V, 4, none⟩ = some (.slice A kv.2.length c) ∧ w'.cell? ⟨B, 0, none⟩ = some (.pointer (some ⟨R, 0, none⟩))) (ds := [10, 13]) #[false, false, false, false, false, false, false, false, false, false, false, false, false, false] (by kernel_rfl) rfl rfl ⟨cellV E8.out.vb.blk 4 _ rfl, cellV E8.out.box 0 _ rfl⟩ (fun hHeld => ?_)
        refine pure_ (i := 0) (N := some 46) (v := ?_) (a' := ?_) #[true, false, false, false, false, false, false, false, false, false, false, false, false, false] rfl rfl (by kernel_rfl) (fun _ _ _ h => h) (Or.inl ⟨by rfl, ?_⟩) ?_ ?_
        rotate_left
        · intro w'
          go_simp
          with_reducible rfl
        rotate_left
        · simp only [Act.put, List.setIfInBounds_toArray, List.set_cons_zero, List.set_cons_succ, i64_w, i32_w]
          rfl
        refine pure_ (i := 1) (N := some 47) (v := ?_) (a' := ?_) #[true, true, false, false, false, false, false, false, false, false, false, false, false, false] rfl rfl (by kernel_rfl) (fun _ _ _ h => h) (Or.inl ⟨by rfl, ?_⟩) ?_ ?_
        rotate_left
        · intro w'
          go_simp
          with_reducible rfl
        rotate_left
        · simp only [Act.put, List.setIfInBounds_toArray, List.set_cons_zero, List.set_cons_succ, i64_w, i32_w]
          rfl
        refine pure_ (i := 2) (N := some 48) (v := ?_) (a' := ?_) #[true, true, true, false, false, false, false, false, false, false, false, false, false, false] rfl rfl (by kernel_rfl) (fun _ _ _ h => h) (Or.inl ⟨by rfl, ?_⟩) ?_ ?_
        rotate_left
        · intro w'
          go_simp
          with_reducible rfl
        rotate_left
        · simp only [Act.put, List.setIfInBounds_toArray, List.set_cons_zero, List.set_cons_succ, i64_w, i32_w]
          rfl
        refine pure_ (i := 4) (N := some 50) (v := ?_) (a' := ?_) #[true, true, true, false, true, false, false, false, false, false, false, false, false, false] rfl rfl (by kernel_rfl) (fun _ _ _ h => h) (Or.inl ⟨by rfl, ?_⟩) ?_ ?_
        rotate_left
        · intro w'
          go_simp
          with_reducible rfl
        rotate_left
        · simp only [Act.put, List.setIfInBounds_toArray, List.set_cons_zero, List.set_cons_succ, i64_w, i32_w]
          rfl
        refine take_ (i := 3) (N := some 49) (v := ?_) (a' := ?_) #[true, true, true, true, true, false, false, false, false, false, false, false, false, false] rfl rfl (by kernel_rfl) (fun _ _ _ h => h) (Or.inl ⟨by rfl, ?_⟩) hHeld ?_ ?_
        rotate_left
        · rintro w' ⟨s0, s1⟩
          go_simp
          with_reducible rfl
        rotate_left
        · simp only [Act.put, List.setIfInBounds_toArray, List.set_cons_zero, List.set_cons_succ, i64_w, i32_w]
          rfl
        refine pure_ (i := 6) (N := some 52) (v := ?_) (a' := ?_) #[true, true, true, true, true, false, true, false, false, false, false, false, false, false] rfl rfl (by kernel_rfl) (fun _ _ _ h => h) (Or.inl ⟨by rfl, ?_⟩) ?_ ?_
        rotate_left
        · intro w'
          go_simp
          with_reducible rfl
        rotate_left
        · simp only [Act.put, List.setIfInBounds_toArray, List.set_cons_zero, List.set_cons_succ, i64_w, i32_w]
          rfl
        refine join_ (σ := Value × Value × Nat) 6 #[true, true, true, true, true, true, true, true, false, false, false, false, false, false] (fun q => [(51, .agg #[.int .i64 x.f0, .int .i64 x.f1, .string x.f2, q.1, q.2.1]), (53, .slice (some ⟨q.2.2, 0, none⟩) 1 1)]) (fun q w' => (w'.cell? ⟨V, 4, none⟩ = some (.slice A kv.2.length c) ∧ w'.cell? ⟨B, 0, none⟩ = some (.pointer (some ⟨R, 0, none⟩))) ∧ Got w8.drew w' R C base s st5 x q.1 q.2.1 q.2.2) ?_ ?_
        rotate_left
        · intro hCont
          refine two_ (i := 5) (j := 7) (Ni := some 51) (Nj := some 53) #[true, true, true, true, true, true, true, false, false, false, false, false, false, false] #[true, true, true, true, true, false, true, true, false, false, false, false, false, false] rfl rfl rfl rfl (by kernel_rfl) (by decide) (by decide) (fun K hK => ?_) (fun K hK => ?_)
          · skip
            refine goes_ Tryd.func17 (by kernel_rfl) rfl #[.pointer (some ⟨R, 0, none⟩)] (by rfl) rfl rfl (by simp only [List.map_toArray, List.map_cons, List.map_nil]; rfl) ?_
            with_reducible refine (Hv.out _ E8.out.rd.drew).mono ?_
            rintro e w2 ⟨u3, u4, rfl, h3, h4, hr, hk⟩
            refine ⟨_, rfl, ?_⟩
            refine hK.out _ _ ⟨kp_cell hHeld.1 hk hVC, kp_cell hHeld.2 hk hBC⟩ (fun hHeld => ?_)
            clear hK K
            refine norm_ (a' := ?_) ?_ ?_
            rotate_left
            · show Act.put _ (some 51) _ = _
              simp only [Act.put, List.setIfInBounds_toArray, List.set_cons_zero, List.set_cons_succ, i64_w, i32_w]
              rfl
            refine one_ (i := 7) (N := some 53) #[true, true, true, true, true, true, true, true, false, false, false, false, false, false] rfl rfl (by kernel_rfl) (by decide) (fun K hK => ?_)
            refine value_ (w1 := ?_) (v := ?_) (by rfl) rfl ?_ ?_
            rotate_left 2
            · go_simp
              constructor
              · rfl
              · rfl
            refine hK.out _ _ ⟨kp_cell hHeld.1 (Kp.alloc (Kp.refl (fun _ => False) _) _) (fun h => h), kp_cell hHeld.2 (Kp.alloc (Kp.refl (fun _ => False) _) _) (fun h => h)⟩ (fun hHeld => ?_)
            clear hK K
            refine norm_ (a' := ?_) ?_ ?_
            rotate_left
            · show Act.put _ (some 53) _ = _
              simp only [Act.put, List.setIfInBounds_toArray, List.set_cons_zero, List.set_cons_succ, i64_w, i32_w]
              rfl
            exact norm_ (by simp only [putAll, Act.put, List.setIfInBounds_toArray, List.set_cons_zero, List.set_cons_succ]) (hCont (u3, u4, w2.heap.size) _ ⟨⟨hHeld.1, hHeld.2⟩, ⟨hr.alloc _, hk.alloc _, Kd.M_below (got_M E8.out.size h3 h4) (below_alloc (Below.refl _ _) _), blk_new _ _⟩⟩)
          · skip
            refine value_ (w1 := ?_) (v := ?_) (by rfl) rfl ?_ ?_
            rotate_left 2
            · go_simp
              constructor
              · rfl
              · rfl
            refine hK.out _ _ ⟨kp_cell hHeld.1 (Kp.alloc (Kp.refl (fun _ => False) _) _) (fun h => h), kp_cell hHeld.2 (Kp.alloc (Kp.refl (fun _ => False) _) _) (fun h => h)⟩ (fun hHeld => ?_)
            clear hK K
            refine norm_ (a' := ?_) ?_ ?_
            rotate_left
            · show Act.put _ (some 53) _ = _
              simp only [Act.put, List.setIfInBounds_toArray, List.set_cons_zero, List.set_cons_succ, i64_w, i32_w]
              rfl
            refine one_ (i := 5) (N := some 51) #[true, true, true, true, true, true, true, true, false, false, false, false, false, false] rfl rfl (by kernel_rfl) (by decide) (fun K hK => ?_)
            refine goes_ Tryd.func17 (by kernel_rfl) rfl #[.pointer (some ⟨R, 0, none⟩)] (by rfl) rfl rfl (by simp only [List.map_toArray, List.map_cons, List.map_nil]; rfl) ?_
            with_reducible refine (Hv.out _ (E8.out.rd.alloc _).drew).mono ?_
            rintro e w2 ⟨u3, u4, rfl, h3, h4, hr, hk⟩
            refine ⟨_, rfl, ?_⟩
            refine hK.out _ _ ⟨kp_cell hHeld.1 hk hVC, kp_cell hHeld.2 hk hBC⟩ (fun hHeld => ?_)
            clear hK K
            refine norm_ (a' := ?_) ?_ ?_
            rotate_left
            · show Act.put _ (some 51) _ = _
              simp only [Act.put, List.setIfInBounds_toArray, List.set_cons_zero, List.set_cons_succ, i64_w, i32_w]
              rfl
            exact norm_ (by simp only [putAll, Act.put, List.setIfInBounds_toArray, List.set_cons_zero, List.set_cons_succ]) (hCont (u3, u4, w8.heap.size) _ ⟨⟨hHeld.1, hHeld.2⟩, ⟨hr, ((Kp.refl (RC R C) _).alloc _).then_ hk, k27.M_mono (fun k hk => Nat.le_trans (by simp) hk) (got_M (Nat.le_trans E8.out.size (by simp)) h3 h4), blk_kp (w := (w8.alloc _).drew) (blk_new w8 _) hk (show ¬ RC R C w8.heap.size from fun h => h.elim (fun e => absurd E8.out.rd.lt.1 (by rw [← e]; exact Nat.lt_irrefl _)) (fun e => absurd E8.out.rd.lt.2 (by rw [← e]; exact Nat.lt_irrefl _)))⟩⟩)
        rintro ⟨u3, u4, Z⟩ w1 ⟨hHeld, hG⟩
        refine norm_ (a' := ?_) ?_ ?_
        rotate_left
        · simp only [putAll, Act.put, List.setIfInBounds_toArray, List.set_cons_zero, List.set_cons_succ]
          rfl
        refine one_ (i := 8) (N := some 54) #[true, true, true, true, true, true, true, true, true, false, false, false, false, false] rfl rfl (by kernel_rfl) (by decide) (fun K hK => ?_)
        have k1 : Kp (RC R C) w8 w1 := (Kp.refl (RC R C) w8).drew.then_ hG.kp
        have hvb := E8.out.vb.kp k1 hVC (fun b e => e.elim (fun e => by rw [e]; exact Hl.out.r) (fun e => by rw [e]; exact Hl.out.c))
        refine Kd.R_append_rows_step k27 (w0 := w1) base (by rfl) _ _ _ 27 (.agg zeroL.toArray) 80 rfl (by kernel_rfl) (by kernel_rfl) rfl (by decide) (by decide) (.slice A kv.2.length c) kv.2 [z27] (some ⟨Z, 0, none⟩) 1 1 (fun k => some k ≠ v3w.ownBlock) (fun _ => False) rfl rfl hvb.vals (temp_reads hG.z) (fun x cs h => by obtain ⟨rfl, rfl⟩ := h; exact zero_M _ _ _) (fun _ h => h.elim) (fun k hk e => by have := own_lt hvb.keys.2.choose_spec.1 k e.symm; omega) (Below.refl _ _) (Nat.le_trans E8.out.size k1.size) (by omega) ?_
        intro v1 w2 hR2 _ hg2 hat
        obtain ⟨g, cap, rfl, hbg, hgl, _⟩ := Kd.R_form hR2 (by simp)
        refine hK.out _ _ ⟨cell_grown hg2 hHeld.1 (fun e => by have := Kd.R_base hvb.vals V e.symm; have := Hl.out.v; omega), cell_grown hg2 hHeld.2 (fun e => by have := Kd.R_base hvb.vals B e.symm; have := Hl.out.b; omega)⟩ (fun hHeld => ?_)
        clear hK K
        refine norm_ (a' := ?_) ?_ ?_
        rotate_left
        · show Act.put _ (some 54) _ = _
          simp only [Act.put, List.setIfInBounds_toArray, List.set_cons_zero, List.set_cons_succ, i64_w, i32_w]
          rfl
        refine pure_ (i := 9) (N := some 55) (v := ?_) (a' := ?_) #[true, true, true, true, true, true, true, true, true, true, false, false, false, false] rfl rfl (by kernel_rfl) (fun _ _ _ h => h) (Or.inl ⟨by rfl, ?_⟩) ?_ ?_
        rotate_left
        · intro w'
          go_simp
          with_reducible rfl
        rotate_left
        · simp only [Act.put, List.setIfInBounds_toArray, List.set_cons_zero, List.set_cons_succ, i64_w, i32_w]
          rfl
        refine pure_ (i := 11) (N := some 56) (v := ?_) (a' := ?_) #[true, true, true, true, true, true, true, true, true, true, false, true, false, false] rfl rfl (by kernel_rfl) (fun _ _ _ h => h) (Or.inl ⟨by rfl, ?_⟩) ?_ ?_
        rotate_left
        · intro w'
          go_simp
          with_reducible rfl
        rotate_left
        · simp only [Act.put, List.setIfInBounds_toArray, List.set_cons_zero, List.set_cons_succ, i64_w, i32_w]
          rfl
        refine pure_ (i := 12) (N := some 57) (v := ?_) (a' := ?_) #[true, true, true, true, true, true, true, true, true, true, false, true, true, false] rfl rfl (by kernel_rfl) (fun _ _ _ h => h) (Or.inl ⟨by rfl, ?_⟩) ?_ ?_
        rotate_left
        · intro w'
          go_simp
          with_reducible rfl
        rotate_left
        · simp only [Act.put, List.setIfInBounds_toArray, List.set_cons_zero, List.set_cons_succ, i64_w, i32_w]
          rfl
        have hgV : V ≠ g := fun e => by have := Hl.out.v; omega
        have hokg : ∀ k, (w8.drew.heap.size ≤ k ∧ k < w1.heap.size) → some k ≠ v3w.ownBlock ∧ k ≠ g := fun k hk => ⟨fun e => by have h1 := own_lt E8.out.vb.keys.2.choose_spec.1 k e.symm; have h2 : w8.heap.size ≤ k := hk.1; omega, fun e => hat.elim (fun h => by have h1 := own_lt E8.out.vb.vals.2.choose_spec.1 g (h.symm.trans rfl); have h2 : w8.heap.size ≤ k := hk.1; omega) (fun h => by obtain ⟨b, hb, hle⟩ := h; have hb2 : g = b := Option.some.inj hb; have := hk.2; omega)⟩
        have hM4 : k27.M w2 base (fun k => w8.drew.heap.size ≤ k ∧ k < w1.heap.size) x [.int .i64 x.f0, .int .i64 x.f1, .string x.f2, u3, u4] := Kd.M_grown (k27.M_mono (fun k hk => ⟨hk.1, hk.2.2.1⟩) (k27.M_bound hG.m)) hg2 (fun k hk e => by have h1 := own_lt E8.out.vb.vals.2.choose_spec.1 k e.symm; have h2 : w8.heap.size ≤ k := hk.1; omega)
        have hVb2 : w2.heap[V]? = some (.cells #[.int .i64 kind, .int .i64 0, .string ⟨#[]⟩, v3w, .slice A kv.2.length c] 27 (0, 0)) := (hg2.block V (blk_lt hvb.blk) (fun e => by have := Kd.R_base hvb.vals V e.symm; have := Hl.out.v; omega)).trans hvb.blk
        obtain ⟨e1, e2, e3⟩ := put_elem rfl hR2 hM4 hokg
        have kV : Kp (fun b => b = V) w2 (w2.setCell ⟨V, 4, none⟩ (.slice (some ⟨g, 0, none⟩) (kv.2 ++ [z27]).length cap)) := Kp.setCell (S := fun b => b = V) (p := ⟨V, 4, none⟩) (Kp.refl _ _) (.inl rfl) _
        have hR5 := Kd.R_mono (Kd.R_step (Kd.R_bound hR2) (fun b hb hlt => kV.block b hlt (fun e => by have := hb.2.1; have := Hl.out.v; omega))) (fun _ hk => hk.1)
        have hM5 := k27.M_mono (fun _ hk => hk.1) (Kd.M_step (k27.M_bound hM4) (fun b hb hlt => kV.block b hlt (fun e => by have := hb.2.1; have := Hl.out.v; omega)))
        obtain ⟨q1, q2, q3⟩ := put_elem rfl hR5 hM5 hokg
        have kg2 : Kp (fun b => some b = (Value.slice A kv.2.length c).ownBlock ∨ b = g ∨ b = V) w1 w2 := Kp.grown (Kp.refl _ _) hg2 (fun k e => .inl (.inl e.symm))
        refine both_last (i := 10) (j := 13) (F := fun w' => Env w' R C V B base kind s st5 (ks, kv.2 ++ [x]) v3w (.slice (some ⟨g, 0, none⟩) (kv.2 ++ [z27]).length cap) ∧ Kp (Own4 R C V base) w8 w') #[true, true, true, true, true, true, true, true, true, true, true, true, true, false] #[true, true, true, true, true, true, true, true, true, true, false, true, true, true] #[true, true, true, true, true, true, true, true, true, true, true, true, true, true] rfl rfl rfl rfl (by kernel_rfl) (by decide) (by decide) (by rfl) (by rfl)
          (exec_store ⟨g, kv.2.length * 5, none⟩ _ rfl rfl rfl e3) (exec_store ⟨V, 4, none⟩ _ rfl rfl rfl (store_V (blk_far2 e2 hVb2 hgV))) (exec_store ⟨V, 4, none⟩ _ rfl rfl rfl (store_V hVb2)) (exec_store ⟨g, kv.2.length * 5, none⟩ _ rfl rfl rfl q3) ?_ ?_ ?_
        · refine fin_app Hl.out E8.out hG (Kp.setCell (Kp.grown kg2 e2 (fun k e => .inl (.inr (.inl (Option.some.inj e).symm)))) (.inl (.inr (.inr rfl))) _) (blk_put (blk_far2 e2 hVb2 hgV) 4 _ rfl) ?_
          have k6 : Kp (fun b => b = V) (w2.setCells g (kv.2.length * 5) [.int .i64 x.f0, .int .i64 x.f1, .string x.f2, u3, u4]) _ := Kp.setCell (S := fun b => b = V) (p := ⟨V, 4, none⟩) (Kp.refl (fun b => b = V) _) (.inl rfl) (.slice (some ⟨g, 0, none⟩) (kv.2 ++ [z27]).length cap)
          exact Kd.R_mono (Kd.R_step (Kd.R_bound e1) (fun b hb hlt => k6.block b hlt (fun e => by have := hb.2.1; have := Hl.out.v; omega))) (fun _ hk => hk.1)
        · exact fin_app Hl.out E8.out hG (Kp.grown (Kp.setCell kg2 (.inl (.inr (.inr rfl))) _) q2 (fun k e => .inl (.inr (.inl (Option.some.inj e).symm)))) (blk_far2 q2 (blk_put hVb2 4 _ rfl) hgV) q1
        · rintro w' ⟨f1, f2⟩
          clear hR2 hR5 e1 q1
          go_wp2
          go_end0
          rw [hks] at f1
          exact ⟨rfl, ⟨_, _, f1⟩, K8t.out.then_ f2⟩
    | false =>
      rw [if_neg (fun h => by have := h.2; rw [hh] at this; cases this)] at hP
      subst hP
      have Hh := Lib.hid hh
      clear he hh
      cases b with
      | false =>
        rw [if_pos rfl]
        go_enter Tryd.func35, Tryd.ntmps35
        go_wp2_with (first
          | (go_at_call 18; go_must (refine (Hb.out _ HE.out.rd).mono ?_); rintro e w1 ⟨rfl, h1, k1⟩; have E1 := Lib.hid (HE.out.kp Hl.out (kp_C k1) h1); have K1 := Lib.hid (kp_RC4 (R := R) (C := C) (V := V) (base := base) (kp_C k1)); have d0 := h1.c0; clear h1 k1)
          | (go_at_call 19; go_must (refine (front_At C _ _ E1.out.rd.cur.cells.2.1).mono ?_); rintro e w2 ⟨rfl, rfl⟩)
          | (go_at_call 31; go_must (refine (Hq.out _ E1.out.rd).mono ?_); rintro e w3 ⟨rfl, h3, k3⟩; have E3 := Lib.hid (E1.out.kp Hl.out k3 h3); have K3 := Lib.hid (K1.out.then_ (kp_RC4 k3)); have d4 := h3.c4; have x3 := E3.out.c3; clear h3 k3)
          | (go_at_call 57; go_must (refine (slices_Contains_any A3 c3 kv.1 k _ (Kd.R_reads' E3.out.vb.keys).2.2 (Kd.R_reads' E3.out.vb.keys).2.1).mono ?_); rw [Hh.out]; rintro e w4 ⟨rfl, h4⟩; have E5 := Lib.hid (E3.out.drawn Hl.out h4); have K5 := Lib.hid (K3.out.drawn h4); clear h4)
          | (go_at_call 56; go_must (refine (Hm.out _ E5.out.rd).mono ?_); rintro e w6 ⟨rfl, h6, k6⟩; have E6 := Lib.hid (E5.out.kp Hl.out k6 h6); have K6 := Lib.hid (K5.out.then_ (kp_RC4 k6)); have y3 := E6.out.c3; clear h6 k6))
        ((try simp only [Exit.inBlock, Exit.then]); refine bodyPost_ret (results_none rfl _ _ _) rfl ?_)
        exact ⟨rfl, _, _, E6.out, K6.out⟩
      | true =>
        rw [if_neg (by decide)]
        go_enter Tryd.func35, Tryd.ntmps35
        go_wp2_with (first
          | (go_at_call 18; go_must (refine (Hb.out _ HE.out.rd).mono ?_); rintro e w1 ⟨rfl, h1, k1⟩; have E1 := Lib.hid (HE.out.kp Hl.out (kp_C k1) h1); have K1 := Lib.hid (kp_RC4 (R := R) (C := C) (V := V) (base := base) (kp_C k1)); have d0 := h1.c0; clear h1 k1)
          | (go_at_call 19; go_must (refine (front_At C _ _ E1.out.rd.cur.cells.2.1).mono ?_); rintro e w2 ⟨rfl, rfl⟩)
          | (go_at_call 31; go_must (refine (Hq.out _ E1.out.rd).mono ?_); rintro e w3 ⟨rfl, h3, k3⟩; have E3 := Lib.hid (E1.out.kp Hl.out k3 h3); have K3 := Lib.hid (K1.out.then_ (kp_RC4 k3)); have d4 := h3.c4; have x3 := E3.out.c3; clear h3 k3)
          | (go_at_call 57; go_must (refine (slices_Contains_any A3 c3 kv.1 k _ (Kd.R_reads' E3.out.vb.keys).2.2 (Kd.R_reads' E3.out.vb.keys).2.1).mono ?_); rw [Hh.out]; rintro e w4 ⟨rfl, h4⟩; have E5 := Lib.hid (E3.out.drawn Hl.out h4); have K5 := Lib.hid (K3.out.drawn h4); clear h4)
          | (go_at_call 56; go_must (refine (Hm.out _ E5.out.rd).mono ?_); rintro e w6 ⟨rfl, h6, k6⟩; have E6 := Lib.hid (E5.out.kp Hl.out k6 h6); have K6 := Lib.hid (K5.out.then_ (kp_RC4 k6)); have y3 := E6.out.c3; clear h6 k6)
          | ((with_reducible refine gate_builtin (b := .append) (xs := #[.tmp 40, .tmp 42]) rfl ?_); at_builtin; refine Kd.R_append Kd.string (w0 := w6) base rfl (.tmp 40) (.tmp 42) 24 9 (.string ⟨#[]⟩) 16 rfl (by kernel_rfl) (by kernel_rfl) rfl (by decide) (by decide) (.slice A3 kv.1.length c3) kv.1 k [.string k] (fun _ => True) (fun _ => False) rfl rfl rfl (fun _ h => h.elim) (fun _ _ => trivial) E6.out.vb.keys (Below.refl _ _) E6.out.size (by have := Hle.out.2; omega) ?_; intro v5 w7 ho _ hg hat; obtain ⟨g5, c5, rfl, _⟩ := Kd.R_form ho (by simp); have E7 := Lib.hid (fin_key Hl.out E6.out (Below.refl _ _) hg hat ho); obtain ⟨y5, z5⟩ := store_V3 (show w7.heap[V]? = _ from (hg.block V (blk_lt E6.out.vb.blk) (fun e => by have := Kd.R_base E6.out.vb.keys V e.symm; have := Hl.out.v; omega)).trans E6.out.vb.blk); rw [List.length_append, List.length_singleton] at E7; clear ho hg hat))
        obtain ⟨E8o, K8⟩ := E7.out
        have K8t := Lib.hid (K6.out.then_ K8)
        clear E7 K8 y5 z5
        generalize hw8 : w7.setCell ⟨V, 3, none⟩ (.slice (some ⟨g5, 0, none⟩) (kv.1.length + 1) c5) = w8 at E8o K8t ⊢
        generalize (Value.slice (some ⟨g5, 0, none⟩) (kv.1.length + 1) c5) = v3w at E8o ⊢
        clear hw8
        have E8 := Lib.hid E8o
        clear E8o
        obtain ⟨ks, hks⟩ : ∃ ks, ks = kv.1 ++ [k] := ⟨_, rfl⟩
        rw [← hks] at E8
        have hlen := Hle.out.1
        refine start_ (n := 14) (S := fun w' => w'.cell? ⟨V, 4, none⟩ = some (.slice A kv.2.length c) ∧ w'.cell? ⟨B, 0, none⟩ = some (.pointer (some ⟨R, 0, none⟩))) (ds := [10, 13]) #[false, false, false, false, false, false, false, false, false, false, false, false, false, false] (by kernel_rfl) rfl rfl ⟨cellV E8.out.vb.blk 4 _ rfl, cellV E8.out.box 0 _ rfl⟩ (fun hHeld => ?_)
        refine pure_ (i := 0) (N := some 46) (v := ?_) (a' := ?_) #[true, false, false, false, false, false, false, false, false, false, false, false, false, false] rfl rfl (by kernel_rfl) (fun _ _ _ h => h) (Or.inl ⟨by rfl, ?_⟩) ?_ ?_
        rotate_left
        · intro w'
          go_simp
          with_reducible rfl
        rotate_left
        · simp only [Act.put, List.setIfInBounds_toArray, List.set_cons_zero, List.set_cons_succ, i64_w, i32_w]
          rfl
        refine pure_ (i := 1) (N := some 47) (v := ?_) (a' := ?_) #[true, true, false, false, false, false, false, false, false, false, false, false, false, false] rfl rfl (by kernel_rfl) (fun _ _ _ h => h) (Or.inl ⟨by rfl, ?_⟩) ?_ ?_
        rotate_left
        · intro w'
          go_simp
          with_reducible rfl
        rotate_left
        · simp only [Act.put, List.setIfInBounds_toArray, List.set_cons_zero, List.set_cons_succ, i64_w, i32_w]
          rfl
        refine pure_ (i := 2) (N := some 48) (v := ?_) (a' := ?_) #[true, true, true, false, false, false, false, false, false, false, false, false, false, false] rfl rfl (by kernel_rfl) (fun _ _ _ h => h) (Or.inl ⟨by rfl, ?_⟩) ?_ ?_
        rotate_left
        · intro w'
          go_simp
          with_reducible rfl
        rotate_left
        · simp only [Act.put, List.setIfInBounds_toArray, List.set_cons_zero, List.set_cons_succ, i64_w, i32_w]
          rfl
        refine pure_ (i := 4) (N := some 50) (v := ?_) (a' := ?_) #[true, true, true, false, true, false, false, false, false, false, false, false, false, false] rfl rfl (by kernel_rfl) (fun _ _ _ h => h) (Or.inl ⟨by rfl, ?_⟩) ?_ ?_
        rotate_left
        · intro w'
          go_simp
          with_reducible rfl
        rotate_left
        · simp only [Act.put, List.setIfInBounds_toArray, List.set_cons_zero, List.set_cons_succ, i64_w, i32_w]
          rfl
        refine take_ (i := 3) (N := some 49) (v := ?_) (a' := ?_) #[true, true, true, true, true, false, false, false, false, false, false, false, false, false] rfl rfl (by kernel_rfl) (fun _ _ _ h => h) (Or.inl ⟨by rfl, ?_⟩) hHeld ?_ ?_
        rotate_left
        · rintro w' ⟨s0, s1⟩
          go_simp
          with_reducible rfl
        rotate_left
        · simp only [Act.put, List.setIfInBounds_toArray, List.set_cons_zero, List.set_cons_succ, i64_w, i32_w]
          rfl
        refine pure_ (i := 6) (N := some 52) (v := ?_) (a' := ?_) #[true, true, true, true, true, false, true, false, false, false, false, false, false, false] rfl rfl (by kernel_rfl) (fun _ _ _ h => h) (Or.inl ⟨by rfl, ?_⟩) ?_ ?_
        rotate_left
        · intro w'
          go_simp
          with_reducible rfl
        rotate_left
        · simp only [Act.put, List.setIfInBounds_toArray, List.set_cons_zero, List.set_cons_succ, i64_w, i32_w]
          rfl
        refine join_ (σ := Value × Value × Nat) 6 #[true, true, true, true, true, true, true, true, false, false, false, false, false, false] (fun q => [(51, .agg #[.int .i64 x.f0, .int .i64 x.f1, .string x.f2, q.1, q.2.1]), (53, .slice (some ⟨q.2.2, 0, none⟩) 1 1)]) (fun q w' => (w'.cell? ⟨V, 4, none⟩ = some (.slice A kv.2.length c) ∧ w'.cell? ⟨B, 0, none⟩ = some (.pointer (some ⟨R, 0, none⟩))) ∧ Got w8.drew w' R C base s st5 x q.1 q.2.1 q.2.2) ?_ ?_
        rotate_left
        · intro hCont
          refine two_ (i := 5) (j := 7) (Ni := some 51) (Nj := some 53) #[true, true, true, true, true, true, true, false, false, false, false, false, false, false] #[true, true, true, true, true, false, true, true, false, false, false, false, false, false] rfl rfl rfl rfl (by kernel_rfl) (by decide) (by decide) (fun K hK => ?_) (fun K hK => ?_)
          · skip
            refine goes_ Tryd.func17 (by kernel_rfl) rfl #[.pointer (some ⟨R, 0, none⟩)] (by rfl) rfl rfl (by simp only [List.map_toArray, List.map_cons, List.map_nil]; rfl) ?_
            with_reducible refine (Hv.out _ E8.out.rd.drew).mono ?_
            rintro e w2 ⟨u3, u4, rfl, h3, h4, hr, hk⟩
            refine ⟨_, rfl, ?_⟩
            refine hK.out _ _ ⟨kp_cell hHeld.1 hk hVC, kp_cell hHeld.2 hk hBC⟩ (fun hHeld => ?_)
            clear hK K
            refine norm_ (a' := ?_) ?_ ?_
            rotate_left
            · show Act.put _ (some 51) _ = _
              simp only [Act.put, List.setIfInBounds_toArray, List.set_cons_zero, List.set_cons_succ, i64_w, i32_w]
              rfl
            refine one_ (i := 7) (N := some 53) #[true, true, true, true, true, true, true, true, false, false, false, false, false, false] rfl rfl (by kernel_rfl) (by decide) (fun K hK => ?_)
            refine value_ (w1 := ?_) (v := ?_) (by rfl) rfl ?_ ?_
            rotate_left 2
            · go_simp
              constructor
              · rfl
              · rfl
            refine hK.out _ _ ⟨kp_cell hHeld.1 (Kp.alloc (Kp.refl (fun _ => False) _) _) (fun h => h), kp_cell hHeld.2 (Kp.alloc (Kp.refl (fun _ => False) _) _) (fun h => h)⟩ (fun hHeld => ?_)
            clear hK K
            refine norm_ (a' := ?_) ?_ ?_
            rotate_left
            · show Act.put _ (some 53) _ = _
              simp only [Act.put, List.setIfInBounds_toArray, List.set_cons_zero, List.set_cons_succ, i64_w, i32_w]
              rfl
            exact norm_ (by simp only [putAll, Act.put, List.setIfInBounds_toArray, List.set_cons_zero, List.set_cons_succ]) (hCont (u3, u4, w2.heap.size) _ ⟨⟨hHeld.1, hHeld.2⟩, ⟨hr.alloc _, hk.alloc _, Kd.M_below (got_M E8.out.size h3 h4) (below_alloc (Below.refl _ _) _), blk_new _ _⟩⟩)
          · skip
            refine value_ (w1 := ?_) (v := ?_) (by rfl) rfl ?_ ?_
            rotate_left 2
            · go_simp
              constructor
              · rfl
              · rfl
            refine hK.out _ _ ⟨kp_cell hHeld.1 (Kp.alloc (Kp.refl (fun _ => False) _) _) (fun h => h), kp_cell hHeld.2 (Kp.alloc (Kp.refl (fun _ => False) _) _) (fun h => h)⟩ (fun hHeld => ?_)
            clear hK K
            refine norm_ (a' := ?_) ?_ ?_
            rotate_left
            · show Act.put _ (some 53) _ = _
              simp only [Act.put, List.setIfInBounds_toArray, List.set_cons_zero, List.set_cons_succ, i64_w, i32_w]
              rfl
            refine one_ (i := 5) (N := some 51) #[true, true, true, true, true, true, true, true, false, false, false, false, false, false] rfl rfl (by kernel_rfl) (by decide) (fun K hK => ?_)
            refine goes_ Tryd.func17 (by kernel_rfl) rfl #[.pointer (some ⟨R, 0, none⟩)] (by rfl) rfl rfl (by simp only [List.map_toArray, List.map_cons, List.map_nil]; rfl) ?_
            with_reducible refine (Hv.out _ (E8.out.rd.alloc _).drew).mono ?_
            rintro e w2 ⟨u3, u4, rfl, h3, h4, hr, hk⟩
            refine ⟨_, rfl, ?_⟩
            refine hK.out _ _ ⟨kp_cell hHeld.1 hk hVC, kp_cell hHeld.2 hk hBC⟩ (fun hHeld => ?_)
            clear hK K
            refine norm_ (a' := ?_) ?_ ?_
            rotate_left
            · show Act.put _ (some 51) _ = _
              simp only [Act.put, List.setIfInBounds_toArray, List.set_cons_zero, List.set_cons_succ, i64_w, i32_w]
              rfl
            exact norm_ (by simp only [putAll, Act.put, List.setIfInBounds_toArray, List.set_cons_zero, List.set_cons_succ]) (hCont (u3, u4, w8.heap.size) _ ⟨⟨hHeld.1, hHeld.2⟩, ⟨hr, ((Kp.refl (RC R C) _).alloc _).then_ hk, k27.M_mono (fun k hk => Nat.le_trans (by simp) hk) (got_M (Nat.le_trans E8.out.size (by simp)) h3 h4), blk_kp (w := (w8.alloc _).drew) (blk_new w8 _) hk (show ¬ RC R C w8.heap.size from fun h => h.elim (fun e => absurd E8.out.rd.lt.1 (by rw [← e]; exact Nat.lt_irrefl _)) (fun e => absurd E8.out.rd.lt.2 (by rw [← e]; exact Nat.lt_irrefl _)))⟩⟩)
        rintro ⟨u3, u4, Z⟩ w1 ⟨hHeld, hG⟩
        refine norm_ (a' := ?_) ?_ ?_
        rotate_left
        · simp only [putAll, Act.put, List.setIfInBounds_toArray, List.set_cons_zero, List.set_cons_succ]
          rfl
        refine one_ (i := 8) (N := some 54) #[true, true, true, true, true, true, true, true, true, false, false, false, false, false] rfl rfl (by kernel_rfl) (by decide) (fun K hK => ?_)
        have k1 : Kp (RC R C) w8 w1 := (Kp.refl (RC R C) w8).drew.then_ hG.kp
        have hvb := E8.out.vb.kp k1 hVC (fun b e => e.elim (fun e => by rw [e]; exact Hl.out.r) (fun e => by rw [e]; exact Hl.out.c))
        refine Kd.R_append_rows_step k27 (w0 := w1) base (by rfl) _ _ _ 27 (.agg zeroL.toArray) 80 rfl (by kernel_rfl) (by kernel_rfl) rfl (by decide) (by decide) (.slice A kv.2.length c) kv.2 [z27] (some ⟨Z, 0, none⟩) 1 1 (fun k => some k ≠ v3w.ownBlock) (fun _ => False) rfl rfl hvb.vals (temp_reads hG.z) (fun x cs h => by obtain ⟨rfl, rfl⟩ := h; exact zero_M _ _ _) (fun _ h => h.elim) (fun k hk e => by have := own_lt hvb.keys.2.choose_spec.1 k e.symm; omega) (Below.refl _ _) (Nat.le_trans E8.out.size k1.size) (by omega) ?_
        intro v1 w2 hR2 _ hg2 hat
        obtain ⟨g, cap, rfl, hbg, hgl, _⟩ := Kd.R_form hR2 (by simp)
        refine hK.out _ _ ⟨cell_grown hg2 hHeld.1 (fun e => by have := Kd.R_base hvb.vals V e.symm; have := Hl.out.v; omega), cell_grown hg2 hHeld.2 (fun e => by have := Kd.R_base hvb.vals B e.symm; have := Hl.out.b; omega)⟩ (fun hHeld => ?_)
        clear hK K
        refine norm_ (a' := ?_) ?_ ?_
        rotate_left
        · show Act.put _ (some 54) _ = _
          simp only [Act.put, List.setIfInBounds_toArray, List.set_cons_zero, List.set_cons_succ, i64_w, i32_w]
          rfl
        refine pure_ (i := 9) (N := some 55) (v := ?_) (a' := ?_) #[true, true, true, true, true, true, true, true, true, true, false, false, false, false] rfl rfl (by kernel_rfl) (fun _ _ _ h => h) (Or.inl ⟨by rfl, ?_⟩) ?_ ?_
        rotate_left
        · intro w'
          go_simp
          with_reducible rfl
        rotate_left
        · simp only [Act.put, List.setIfInBounds_toArray, List.set_cons_zero, List.set_cons_succ, i64_w, i32_w]
          rfl
        refine pure_ (i := 11) (N := some 56) (v := ?_) (a' := ?_) #[true, true, true, true, true, true, true, true, true, true, false, true, false, false] rfl rfl (by kernel_rfl) (fun _ _ _ h => h) (Or.inl ⟨by rfl, ?_⟩) ?_ ?_
        rotate_left
        · intro w'
          go_simp
          with_reducible rfl
        rotate_left
        · simp only [Act.put, List.setIfInBounds_toArray, List.set_cons_zero, List.set_cons_succ, i64_w, i32_w]
          rfl
        refine pure_ (i := 12) (N := some 57) (v := ?_) (a' := ?_) #[true, true, true, true, true, true, true, true, true, true, false, true, true, false] rfl rfl (by kernel_rfl) (fun _ _ _ h => h) (Or.inl ⟨by rfl, ?_⟩) ?_ ?_
        rotate_left
        · intro w'
          go_simp
          with_reducible rfl
        rotate_left
        · simp only [Act.put, List.setIfInBounds_toArray, List.set_cons_zero, List.set_cons_succ, i64_w, i32_w]
          rfl
        have hgV : V ≠ g := fun e => by have := Hl.out.v; omega
        have hokg : ∀ k, (w8.drew.heap.size ≤ k ∧ k < w1.heap.size) → some k ≠ v3w.ownBlock ∧ k ≠ g := fun k hk => ⟨fun e => by have h1 := own_lt E8.out.vb.keys.2.choose_spec.1 k e.symm; have h2 : w8.heap.size ≤ k := hk.1; omega, fun e => hat.elim (fun h => by have h1 := own_lt E8.out.vb.vals.2.choose_spec.1 g (h.symm.trans rfl); have h2 : w8.heap.size ≤ k := hk.1; omega) (fun h => by obtain ⟨b, hb, hle⟩ := h; have hb2 : g = b := Option.some.inj hb; have := hk.2; omega)⟩
        have hM4 : k27.M w2 base (fun k => w8.drew.heap.size ≤ k ∧ k < w1.heap.size) x [.int .i64 x.f0, .int .i64 x.f1, .string x.f2, u3, u4] := Kd.M_grown (k27.M_mono (fun k hk => ⟨hk.1, hk.2.2.1⟩) (k27.M_bound hG.m)) hg2 (fun k hk e => by have h1 := own_lt E8.out.vb.vals.2.choose_spec.1 k e.symm; have h2 : w8.heap.size ≤ k := hk.1; omega)
        have hVb2 : w2.heap[V]? = some (.cells #[.int .i64 kind, .int .i64 0, .string ⟨#[]⟩, v3w, .slice A kv.2.length c] 27 (0, 0)) := (hg2.block V (blk_lt hvb.blk) (fun e => by have := Kd.R_base hvb.vals V e.symm; have := Hl.out.v; omega)).trans hvb.blk
        obtain ⟨e1, e2, e3⟩ := put_elem rfl hR2 hM4 hokg
        have kV : Kp (fun b => b = V) w2 (w2.setCell ⟨V, 4, none⟩ (.slice (some ⟨g, 0, none⟩) (kv.2 ++ [z27]).length cap)) := Kp.setCell (S := fun b => b = V) (p := ⟨V, 4, none⟩) (Kp.refl _ _) (.inl rfl) _
        have hR5 := Kd.R_mono (Kd.R_step (Kd.R_bound hR2) (fun b hb hlt => kV.block b hlt (fun e => by have := hb.2.1; have := Hl.out.v; omega))) (fun _ hk => hk.1)
        have hM5 := k27.M_mono (fun _ hk => hk.1) (Kd.M_step (k27.M_bound hM4) (fun b hb hlt => kV.block b hlt (fun e => by have := hb.2.1; have := Hl.out.v; omega)))
        obtain ⟨q1, q2, q3⟩ := put_elem rfl hR5 hM5 hokg
        have kg2 : Kp (fun b => some b = (Value.slice A kv.2.length c).ownBlock ∨ b = g ∨ b = V) w1 w2 := Kp.grown (Kp.refl _ _) hg2 (fun k e => .inl (.inl e.symm))
        refine both_last (i := 10) (j := 13) (F := fun w' => Env w' R C V B base kind s st5 (ks, kv.2 ++ [x]) v3w (.slice (some ⟨g, 0, none⟩) (kv.2 ++ [z27]).length cap) ∧ Kp (Own4 R C V base) w8 w') #[true, true, true, true, true, true, true, true, true, true, true, true, true, false] #[true, true, true, true, true, true, true, true, true, true, false, true, true, true] #[true, true, true, true, true, true, true, true, true, true, true, true, true, true] rfl rfl rfl rfl (by kernel_rfl) (by decide) (by decide) (by rfl) (by rfl)
          (exec_store ⟨g, kv.2.length * 5, none⟩ _ rfl rfl rfl e3) (exec_store ⟨V, 4, none⟩ _ rfl rfl rfl (store_V (blk_far2 e2 hVb2 hgV))) (exec_store ⟨V, 4, none⟩ _ rfl rfl rfl (store_V hVb2)) (exec_store ⟨g, kv.2.length * 5, none⟩ _ rfl rfl rfl q3) ?_ ?_ ?_
        · refine fin_app Hl.out E8.out hG (Kp.setCell (Kp.grown kg2 e2 (fun k e => .inl (.inr (.inl (Option.some.inj e).symm)))) (.inl (.inr (.inr rfl))) _) (blk_put (blk_far2 e2 hVb2 hgV) 4 _ rfl) ?_
          have k6 : Kp (fun b => b = V) (w2.setCells g (kv.2.length * 5) [.int .i64 x.f0, .int .i64 x.f1, .string x.f2, u3, u4]) _ := Kp.setCell (S := fun b => b = V) (p := ⟨V, 4, none⟩) (Kp.refl (fun b => b = V) _) (.inl rfl) (.slice (some ⟨g, 0, none⟩) (kv.2 ++ [z27]).length cap)
          exact Kd.R_mono (Kd.R_step (Kd.R_bound e1) (fun b hb hlt => k6.block b hlt (fun e => by have := hb.2.1; have := Hl.out.v; omega))) (fun _ hk => hk.1)
        · exact fin_app Hl.out E8.out hG (Kp.grown (Kp.setCell kg2 (.inl (.inr (.inr rfl))) _) q2 (fun k e => .inl (.inr (.inl (Option.some.inj e).symm)))) (blk_far2 q2 (blk_put hVb2 4 _ rfl) hgV) q1
        · rintro w' ⟨f1, f2⟩
          clear hR2 hR5 e1 q1
          go_wp2
          go_end0
          rw [hks] at f1
          exact ⟨rfl, ⟨_, _, f1⟩, K8t.out.then_ f2⟩
  · have e1 : ((st2.e : Int) == 0) = false := by rw [beq_eq_false_iff_ne]; omega
    rw [if_neg (fun h => he h.1)] at hP
    subst hP
    clear he
    cases b with
    | false =>
      rw [if_pos rfl]
      go_enter Tryd.func35, Tryd.ntmps35
      go_wp2_with (first
        | (go_at_call 18; go_must (refine (Hb.out _ HE.out.rd).mono ?_); rintro e w1 ⟨rfl, h1, k1⟩; have E1 := Lib.hid (HE.out.kp Hl.out (kp_C k1) h1); have K1 := Lib.hid (kp_RC4 (R := R) (C := C) (V := V) (base := base) (kp_C k1)); have d0 := h1.c0; clear h1 k1)
        | (go_at_call 19; go_must (refine (front_At C _ _ E1.out.rd.cur.cells.2.1).mono ?_); rintro e w2 ⟨rfl, rfl⟩)
        | (go_at_call 31; go_must (refine (Hq.out _ E1.out.rd).mono ?_); rintro e w3 ⟨rfl, h3, k3⟩; have E5 := Lib.hid (E1.out.kp Hl.out k3 h3); have K5 := Lib.hid (K1.out.then_ (kp_RC4 k3)); have d4 := h3.c4; have x3 := E5.out.c3; clear h3 k3)
        | (go_at_call 56; go_must (refine (Hm.out _ E5.out.rd).mono ?_); rintro e w6 ⟨rfl, h6, k6⟩; have E6 := Lib.hid (E5.out.kp Hl.out k6 h6); have K6 := Lib.hid (K5.out.then_ (kp_RC4 k6)); have y3 := E6.out.c3; clear h6 k6))
      ((try simp only [Exit.inBlock, Exit.then]); refine bodyPost_ret (results_none rfl _ _ _) rfl ?_)
      exact ⟨rfl, _, _, E6.out, K6.out⟩
    | true =>
      rw [if_neg (by decide)]
      go_enter Tryd.func35, Tryd.ntmps35
      go_wp2_with (first
        | (go_at_call 18; go_must (refine (Hb.out _ HE.out.rd).mono ?_); rintro e w1 ⟨rfl, h1, k1⟩; have E1 := Lib.hid (HE.out.kp Hl.out (kp_C k1) h1); have K1 := Lib.hid (kp_RC4 (R := R) (C := C) (V := V) (base := base) (kp_C k1)); have d0 := h1.c0; clear h1 k1)
        | (go_at_call 19; go_must (refine (front_At C _ _ E1.out.rd.cur.cells.2.1).mono ?_); rintro e w2 ⟨rfl, rfl⟩)
        | (go_at_call 31; go_must (refine (Hq.out _ E1.out.rd).mono ?_); rintro e w3 ⟨rfl, h3, k3⟩; have E5 := Lib.hid (E1.out.kp Hl.out k3 h3); have K5 := Lib.hid (K1.out.then_ (kp_RC4 k3)); have d4 := h3.c4; have x3 := E5.out.c3; clear h3 k3)
        | (go_at_call 56; go_must (refine (Hm.out _ E5.out.rd).mono ?_); rintro e w6 ⟨rfl, h6, k6⟩; have E6 := Lib.hid (E5.out.kp Hl.out k6 h6); have K6 := Lib.hid (K5.out.then_ (kp_RC4 k6)); have y3 := E6.out.c3; clear h6 k6)
        | ((with_reducible refine gate_builtin (b := .append) (xs := #[.tmp 40, .tmp 42]) rfl ?_); at_builtin; refine Kd.R_append Kd.string (w0 := w6) base rfl (.tmp 40) (.tmp 42) 24 9 (.string ⟨#[]⟩) 16 rfl (by kernel_rfl) (by kernel_rfl) rfl (by decide) (by decide) (.slice A3 kv.1.length c3) kv.1 k [.string k] (fun _ => True) (fun _ => False) rfl rfl rfl (fun _ h => h.elim) (fun _ _ => trivial) E6.out.vb.keys (Below.refl _ _) E6.out.size (by have := Hle.out.2; omega) ?_; intro v5 w7 ho _ hg hat; obtain ⟨g5, c5, rfl, _⟩ := Kd.R_form ho (by simp); have E7 := Lib.hid (fin_key Hl.out E6.out (Below.refl _ _) hg hat ho); obtain ⟨y5, z5⟩ := store_V3 (show w7.heap[V]? = _ from (hg.block V (blk_lt E6.out.vb.blk) (fun e => by have := Kd.R_base E6.out.vb.keys V e.symm; have := Hl.out.v; omega)).trans E6.out.vb.blk); rw [List.length_append, List.length_singleton] at E7; clear ho hg hat))
      obtain ⟨E8o, K8⟩ := E7.out
      have K8t := Lib.hid (K6.out.then_ K8)
      clear E7 K8 y5 z5
      generalize hw8 : w7.setCell ⟨V, 3, none⟩ (.slice (some ⟨g5, 0, none⟩) (kv.1.length + 1) c5) = w8 at E8o K8t ⊢
      generalize (Value.slice (some ⟨g5, 0, none⟩) (kv.1.length + 1) c5) = v3w at E8o ⊢
      clear hw8
      have E8 := Lib.hid E8o
      clear E8o
      obtain ⟨ks, hks⟩ : ∃ ks, ks = kv.1 ++ [k] := ⟨_, rfl⟩
      rw [← hks] at E8
      have hlen := Hle.out.1
      refine start_ (n := 14) (S := fun w' => w'.cell? ⟨V, 4, none⟩ = some (.slice A kv.2.length c) ∧ w'.cell? ⟨B, 0, none⟩ = some (.pointer (some ⟨R, 0, none⟩))) (ds := [10, 13]) #[false, false, false, false, false, false, false, false, false, false, false, false, false, false] (by kernel_rfl) rfl rfl ⟨cellV E8.out.vb.blk 4 _ rfl, cellV E8.out.box 0 _ rfl⟩ (fun hHeld => ?_)
      refine pure_ (i := 0) (N := some 46) (v := ?_) (a' := ?_) #[true, false, false, false, false, false, false, false, false, false, false, false, false, false] rfl rfl (by kernel_rfl) (fun _ _ _ h => h) (Or.inl ⟨by rfl, ?_⟩) ?_ ?_
      rotate_left
      · intro w'
        go_simp
        with_reducible rfl
      rotate_left
      · simp only [Act.put, List.setIfInBounds_toArray, List.set_cons_zero, List.set_cons_succ, i64_w, i32_w]
        rfl
      refine pure_ (i := 1) (N := some 47) (v := ?_) (a' := ?_) #[true, true, false, false, false, false, false, false, false, false, false, false, false, false] rfl rfl (by kernel_rfl) (fun _ _ _ h => h) (Or.inl ⟨by rfl, ?_⟩) ?_ ?_
      rotate_left
      · intro w'
        go_simp
        with_reducible rfl
      rotate_left
      · simp only [Act.put, List.setIfInBounds_toArray, List.set_cons_zero, List.set_cons_succ, i64_w, i32_w]
        rfl
      refine pure_ (i := 2) (N := some 48) (v := ?_) (a' := ?_) #[true, true, true, false, false, false, false, false, false, false, false, false, false, false] rfl rfl (by kernel_rfl) (fun _ _ _ h => h) (Or.inl ⟨by rfl, ?_⟩) ?_ ?_
      rotate_left
      · intro w'
        go_simp
        with_reducible rfl
      rotate_left
      · simp only [Act.put, List.setIfInBounds_toArray, List.set_cons_zero, List.set_cons_succ, i64_w, i32_w]
        rfl
      refine pure_ (i := 4) (N := some 50) (v := ?_) (a' := ?_) #[true, true, true, false, true, false, false, false, false, false, false, false, false, false] rfl rfl (by kernel_rfl) (fun _ _ _ h => h) (Or.inl ⟨by rfl, ?_⟩) ?_ ?_
      rotate_left
      · intro w'
        go_simp
        with_reducible rfl
      rotate_left
      · simp only [Act.put, List.setIfInBounds_toArray, List.set_cons_zero, List.set_cons_succ, i64_w, i32_w]
        rfl
      refine take_ (i := 3) (N := some 49) (v := ?_) (a' := ?_) #[true, true, true, true, true, false, false, false, false, false, false, false, false, false] rfl rfl (by kernel_rfl) (fun _ _ _ h => h) (Or.inl ⟨by rfl, ?_⟩) hHeld ?_ ?_
      rotate_left
      · rintro w' ⟨s0, s1⟩
        go_simp
        with_reducible rfl
      rotate_left
      · simp only [Act.put, List.setIfInBounds_toArray, List.set_cons_zero, List.set_cons_succ, i64_w, i32_w]
        rfl
      refine pure_ (i := 6) (N := some 52) (v := ?_) (a' := ?_) #[true, true, true, true, true, false, true, false, false, false, false, false, false, false] rfl rfl (by kernel_rfl) (fun _ _ _ h => h) (Or.inl ⟨by rfl, ?_⟩) ?_ ?_
      rotate_left
      · intro w'
        go_simp
        with_reducible rfl
      rotate_left
      · simp only [Act.put, List.setIfInBounds_toArray, List.set_cons_zero, List.set_cons_succ, i64_w, i32_w]
        rfl
      refine join_ (σ := Value × Value × Nat) 6 #[true, true, true, true, true, true, true, true, false, false, false, false, false, false] (fun q => [(51, .agg #[.int .i64 x.f0, .int .i64 x.f1, .string x.f2, q.1, q.2.1]), (53, .slice (some ⟨q.2.2, 0, none⟩) 1 1)]) (fun q w' => (w'.cell? ⟨V, 4, none⟩ = some (.slice A kv.2.length c) ∧ w'.cell? ⟨B, 0, none⟩ = some (.pointer (some ⟨R, 0, none⟩))) ∧ Got w8.drew w' R C base s st5 x q.1 q.2.1 q.2.2) ?_ ?_
      rotate_left
      · intro hCont
        refine two_ (i := 5) (j := 7) (Ni := some 51) (Nj := some 53) #[true, true, true, true, true, true, true, false, false, false, false, false, false, false] #[true, true, true, true, true, false, true, true, false, false, false, false, false, false] rfl rfl rfl rfl (by kernel_rfl) (by decide) (by decide) (fun K hK => ?_) (fun K hK => ?_)
        · skip
          refine goes_ Tryd.func17 (by kernel_rfl) rfl #[.pointer (some ⟨R, 0, none⟩)] (by rfl) rfl rfl (by simp only [List.map_toArray, List.map_cons, List.map_nil]; rfl) ?_
          with_reducible refine (Hv.out _ E8.out.rd.drew).mono ?_
          rintro e w2 ⟨u3, u4, rfl, h3, h4, hr, hk⟩
          refine ⟨_, rfl, ?_⟩
          refine hK.out _ _ ⟨kp_cell hHeld.1 hk hVC, kp_cell hHeld.2 hk hBC⟩ (fun hHeld => ?_)
          clear hK K
          refine norm_ (a' := ?_) ?_ ?_
          rotate_left
          · show Act.put _ (some 51) _ = _
            simp only [Act.put, List.setIfInBounds_toArray, List.set_cons_zero, List.set_cons_succ, i64_w, i32_w]
            rfl
          refine one_ (i := 7) (N := some 53) #[true, true, true, true, true, true, true, true, false, false, false, false, false, false] rfl rfl (by kernel_rfl) (by decide) (fun K hK => ?_)
          refine value_ (w1 := ?_) (v := ?_) (by rfl) rfl ?_ ?_
          rotate_left 2
          · go_simp
            constructor
            · rfl
            · rfl
          refine hK.out _ _ ⟨kp_cell hHeld.1 (Kp.alloc (Kp.refl (fun _ => False) _) _) (fun h => h), kp_cell hHeld.2 (Kp.alloc (Kp.refl (fun _ => False) _) _) (fun h => h)⟩ (fun hHeld => ?_)
          clear hK K
          refine norm_ (a' := ?_) ?_ ?_
          rotate_left
          · show Act.put _ (some 53) _ = _
            simp only [Act.put, List.setIfInBounds_toArray, List.set_cons_zero, List.set_cons_succ, i64_w, i32_w]
            rfl
          exact norm_ (by simp only [putAll, Act.put, List.setIfInBounds_toArray, List.set_cons_zero, List.set_cons_succ]) (hCont (u3, u4, w2.heap.size) _ ⟨⟨hHeld.1, hHeld.2⟩, ⟨hr.alloc _, hk.alloc _, Kd.M_below (got_M E8.out.size h3 h4) (below_alloc (Below.refl _ _) _), blk_new _ _⟩⟩)
        · skip
          refine value_ (w1 := ?_) (v := ?_) (by rfl) rfl ?_ ?_
          rotate_left 2
          · go_simp
            constructor
            · rfl
            · rfl
          refine hK.out _ _ ⟨kp_cell hHeld.1 (Kp.alloc (Kp.refl (fun _ => False) _) _) (fun h => h), kp_cell hHeld.2 (Kp.alloc (Kp.refl (fun _ => False) _) _) (fun h => h)⟩ (fun hHeld => ?_)
          clear hK K
          refine norm_ (a' := ?_) ?_ ?_
          rotate_left
          · show Act.put _ (some 53) _ = _
            simp only [Act.put, List.setIfInBounds_toArray, List.set_cons_zero, List.set_cons_succ, i64_w, i32_w]
            rfl
          refine one_ (i := 5) (N := some 51) #[true, true, true, true, true, true, true, true, false, false, false, false, false, false] rfl rfl (by kernel_rfl) (by decide) (fun K hK => ?_)
          refine goes_ Tryd.func17 (by kernel_rfl) rfl #[.pointer (some ⟨R, 0, none⟩)] (by rfl) rfl rfl (by simp only [List.map_toArray, List.map_cons, List.map_nil]; rfl) ?_
          with_reducible refine (Hv.out _ (E8.out.rd.alloc _).drew).mono ?_
          rintro e w2 ⟨u3, u4, rfl, h3, h4, hr, hk⟩
          refine ⟨_, rfl, ?_⟩
          refine hK.out _ _ ⟨kp_cell hHeld.1 hk hVC, kp_cell hHeld.2 hk hBC⟩ (fun hHeld => ?_)
          clear hK K
          refine norm_ (a' := ?_) ?_ ?_
          rotate_left
          · show Act.put _ (some 51) _ = _
            simp only [Act.put, List.setIfInBounds_toArray, List.set_cons_zero, List.set_cons_succ, i64_w, i32_w]
            rfl
          exact norm_ (by simp only [putAll, Act.put, List.setIfInBounds_toArray, List.set_cons_zero, List.set_cons_succ]) (hCont (u3, u4, w8.heap.size) _ ⟨⟨hHeld.1, hHeld.2⟩, ⟨hr, ((Kp.refl (RC R C) _).alloc _).then_ hk, k27.M_mono (fun k hk => Nat.le_trans (by simp) hk) (got_M (Nat.le_trans E8.out.size (by simp)) h3 h4), blk_kp (w := (w8.alloc _).drew) (blk_new w8 _) hk (show ¬ RC R C w8.heap.size from fun h => h.elim (fun e => absurd E8.out.rd.lt.1 (by rw [← e]; exact Nat.lt_irrefl _)) (fun e => absurd E8.out.rd.lt.2 (by rw [← e]; exact Nat.lt_irrefl _)))⟩⟩)
      rintro ⟨u3, u4, Z⟩ w1 ⟨hHeld, hG⟩
      refine norm_ (a' := ?_) ?_ ?_
      rotate_left
      · simp only [putAll, Act.put, List.setIfInBounds_toArray, List.set_cons_zero, List.set_cons_succ]
        rfl
      refine one_ (i := 8) (N := some 54) #[true, true, true, true, true, true, true, true, true, false, false, false, false, false] rfl rfl (by kernel_rfl) (by decide) (fun K hK => ?_)
      have k1 : Kp (RC R C) w8 w1 := (Kp.refl (RC R C) w8).drew.then_ hG.kp
      have hvb := E8.out.vb.kp k1 hVC (fun b e => e.elim (fun e => by rw [e]; exact Hl.out.r) (fun e => by rw [e]; exact Hl.out.c))
      refine Kd.R_append_rows_step k27 (w0 := w1) base (by rfl) _ _ _ 27 (.agg zeroL.toArray) 80 rfl (by kernel_rfl) (by kernel_rfl) rfl (by decide) (by decide) (.slice A kv.2.length c) kv.2 [z27] (some ⟨Z, 0, none⟩) 1 1 (fun k => some k ≠ v3w.ownBlock) (fun _ => False) rfl rfl hvb.vals (temp_reads hG.z) (fun x cs h => by obtain ⟨rfl, rfl⟩ := h; exact zero_M _ _ _) (fun _ h => h.elim) (fun k hk e => by have := own_lt hvb.keys.2.choose_spec.1 k e.symm; omega) (Below.refl _ _) (Nat.le_trans E8.out.size k1.size) (by omega) ?_
      intro v1 w2 hR2 _ hg2 hat
      obtain ⟨g, cap, rfl, hbg, hgl, _⟩ := Kd.R_form hR2 (by simp)
      refine hK.out _ _ ⟨cell_grown hg2 hHeld.1 (fun e => by have := Kd.R_base hvb.vals V e.symm; have := Hl.out.v; omega), cell_grown hg2 hHeld.2 (fun e => by have := Kd.R_base hvb.vals B e.symm; have := Hl.out.b; omega)⟩ (fun hHeld => ?_)
      clear hK K
      refine norm_ (a' := ?_) ?_ ?_
      rotate_left
      · show Act.put _ (some 54) _ = _
        simp only [Act.put, List.setIfInBounds_toArray, List.set_cons_zero, List.set_cons_succ, i64_w, i32_w]
        rfl
      refine pure_ (i := 9) (N := some 55) (v := ?_) (a' := ?_) #[true, true, true, true, true, true, true, true, true, true, false, false, false, false] rfl rfl (by kernel_rfl) (fun _ _ _ h => h) (Or.inl ⟨by rfl, ?_⟩) ?_ ?_
      rotate_left
      · intro w'
        go_simp
        with_reducible rfl
      rotate_left
      · simp only [Act.put, List.setIfInBounds_toArray, List.set_cons_zero, List.set_cons_succ, i64_w, i32_w]
        rfl
      refine pure_ (i := 11) (N := some 56) (v := ?_) (a' := ?_) #[true, true, true, true, true, true, true, true, true, true, false, true, false, false] rfl rfl (by kernel_rfl) (fun _ _ _ h => h) (Or.inl ⟨by rfl, ?_⟩) ?_ ?_
      rotate_left
      · intro w'
        go_simp
        with_reducible rfl
      rotate_left
      · simp only [Act.put, List.setIfInBounds_toArray, List.set_cons_zero, List.set_cons_succ, i64_w, i32_w]
        rfl
      refine pure_ (i := 12) (N := some 57) (v := ?_) (a' := ?_) #[true, true, true, true, true, true, true, true, true, true, false, true, true, false] rfl rfl (by kernel_rfl) (fun _ _ _ h => h) (Or.inl ⟨by rfl, ?_⟩) ?_ ?_
      rotate_left
      · intro w'
        go_simp
        with_reducible rfl
      rotate_left
      · simp only [Act.put, List.setIfInBounds_toArray, List.set_cons_zero, List.set_cons_succ, i64_w, i32_w]
        rfl
      have hgV : V ≠ g := fun e => by have := Hl.out.v; omega
      have hokg : ∀ k, (w8.drew.heap.size ≤ k ∧ k < w1.heap.size) → some k ≠ v3w.ownBlock ∧ k ≠ g := fun k hk => ⟨fun e => by have h1 := own_lt E8.out.vb.keys.2.choose_spec.1 k e.symm; have h2 : w8.heap.size ≤ k := hk.1; omega, fun e => hat.elim (fun h => by have h1 := own_lt E8.out.vb.vals.2.choose_spec.1 g (h.symm.trans rfl); have h2 : w8.heap.size ≤ k := hk.1; omega) (fun h => by obtain ⟨b, hb, hle⟩ := h; have hb2 : g = b := Option.some.inj hb; have := hk.2; omega)⟩
      have hM4 : k27.M w2 base (fun k => w8.drew.heap.size ≤ k ∧ k < w1.heap.size) x [.int .i64 x.f0, .int .i64 x.f1, .string x.f2, u3, u4] := Kd.M_grown (k27.M_mono (fun k hk => ⟨hk.1, hk.2.2.1⟩) (k27.M_bound hG.m)) hg2 (fun k hk e => by have h1 := own_lt E8.out.vb.vals.2.choose_spec.1 k e.symm; have h2 : w8.heap.size ≤ k := hk.1; omega)
      have hVb2 : w2.heap[V]? = some (.cells #[.int .i64 kind, .int .i64 0, .string ⟨#[]⟩, v3w, .slice A kv.2.length c] 27 (0, 0)) := (hg2.block V (blk_lt hvb.blk) (fun e => by have := Kd.R_base hvb.vals V e.symm; have := Hl.out.v; omega)).trans hvb.blk
      obtain ⟨e1, e2, e3⟩ := put_elem rfl hR2 hM4 hokg
      have kV : Kp (fun b => b = V) w2 (w2.setCell ⟨V, 4, none⟩ (.slice (some ⟨g, 0, none⟩) (kv.2 ++ [z27]).length cap)) := Kp.setCell (S := fun b => b = V) (p := ⟨V, 4, none⟩) (Kp.refl _ _) (.inl rfl) _
      have hR5 := Kd.R_mono (Kd.R_step (Kd.R_bound hR2) (fun b hb hlt => kV.block b hlt (fun e => by have := hb.2.1; have := Hl.out.v; omega))) (fun _ hk => hk.1)
      have hM5 := k27.M_mono (fun _ hk => hk.1) (Kd.M_step (k27.M_bound hM4) (fun b hb hlt => kV.block b hlt (fun e => by have := hb.2.1; have := Hl.out.v; omega)))
      obtain ⟨q1, q2, q3⟩ := put_elem rfl hR5 hM5 hokg
      have kg2 : Kp (fun b => some b = (Value.slice A kv.2.length c).ownBlock ∨ b = g ∨ b = V) w1 w2 := Kp.grown (Kp.refl _ _) hg2 (fun k e => .inl (.inl e.symm))
      refine both_last (i := 10) (j := 13) (F := fun w' => Env w' R C V B base kind s st5 (ks, kv.2 ++ [x]) v3w (.slice (some ⟨g, 0, none⟩) (kv.2 ++ [z27]).length cap) ∧ Kp (Own4 R C V base) w8 w') #[true, true, true, true, true, true, true, true, true, true, true, true, true, false] #[true, true, true, true, true, true, true, true, true, true, false, true, true, true] #[true, true, true, true, true, true, true, true, true, true, true, true, true, true] rfl rfl rfl rfl (by kernel_rfl) (by decide) (by decide) (by rfl) (by rfl)
        (exec_store ⟨g, kv.2.length * 5, none⟩ _ rfl rfl rfl e3) (exec_store ⟨V, 4, none⟩ _ rfl rfl rfl (store_V (blk_far2 e2 hVb2 hgV))) (exec_store ⟨V, 4, none⟩ _ rfl rfl rfl (store_V hVb2)) (exec_store ⟨g, kv.2.length * 5, none⟩ _ rfl rfl rfl q3) ?_ ?_ ?_
      · refine fin_app Hl.out E8.out hG (Kp.setCell (Kp.grown kg2 e2 (fun k e => .inl (.inr (.inl (Option.some.inj e).symm)))) (.inl (.inr (.inr rfl))) _) (blk_put (blk_far2 e2 hVb2 hgV) 4 _ rfl) ?_
        have k6 : Kp (fun b => b = V) (w2.setCells g (kv.2.length * 5) [.int .i64 x.f0, .int .i64 x.f1, .string x.f2, u3, u4]) _ := Kp.setCell (S := fun b => b = V) (p := ⟨V, 4, none⟩) (Kp.refl (fun b => b = V) _) (.inl rfl) (.slice (some ⟨g, 0, none⟩) (kv.2 ++ [z27]).length cap)
        exact Kd.R_mono (Kd.R_step (Kd.R_bound e1) (fun b hb hlt => k6.block b hlt (fun e => by have := hb.2.1; have := Hl.out.v; omega))) (fun _ hk => hk.1)
      · exact fin_app Hl.out E8.out hG (Kp.grown (Kp.setCell kg2 (.inl (.inr (.inr rfl))) _) q2 (fun k e => .inl (.inr (.inl (Option.some.inj e).symm)))) (blk_far2 q2 (blk_put hVb2 4 _ rfl) hgV) q1
      · rintro w' ⟨f1, f2⟩
        clear hR2 hR5 e1 q1
        go_wp2
        go_end0
        rw [hks] at f1
        exact ⟨rfl, ⟨_, _, f1⟩, K8t.out.then_ f2⟩
set_option maxRecDepth 100000 in
/-- A map's part: the closure that calls pair. -/
theorem part_M {s : ByteArray} {d : Nat} (hV : ValC s d) {R C V B base : Nat} {kind : Int} {st : RSt} {kv : KV} {v3 v4 : Value} {w : World} (hE : Env w R C V B base kind s st kv v3 v4) (hl : Lie R C V B base) (hp : st.pos ≤ s.size) (hs : s.size ≤ 140737488351232) (hdp : st.deep ≤ 8) (hd9 : 9 ≤ st.deep + d) (hlen : kv.2.length ≤ 1000000000) (hlen1 : kv.1.length ≤ 1000000000) :
    Calls Tryd.prog 34 #[.pointer (some ⟨B, 0, none⟩), .pointer (some ⟨V, 0, none⟩)] w fun e w' => e = .returned (.tuple #[]) ∧ ∃ v3' v4', Env w' R C V B base kind s (partM s (pV s d) kv st).2 (partM s (pV s d) kv st).1 v3' v4' ∧ Kp (Own4 R C V base) w w' := by
  have H := Lib.hid (pair_any hV hE hl hp hs hdp hd9 hlen hlen1)
  have c0 := cellV hE.box 0 _ rfl
  clear hE hl hp hs hdp hd9 hlen hlen1 hV
  generalize partM s (pV s d) kv st = r at H ⊢
  go_enter Tryd.func34, Tryd.ntmps34
  go_wp2_with (go_at_call 35; go_must (refine H.out.mono ?_); rintro e w1 ⟨rfl, h1⟩)
  go_end0
  exact ⟨rfl, h1⟩

end Go.Proofs.YtnijnemkjnnolaaDoor.P
