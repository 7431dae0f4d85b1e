/- The law NormalForms returns true for every input, the package variables that it reads holding what the row lists. Part 6 of the texts that its proof stands on; put together by a program. -/
import Derived.Test.YthcpdhniakpbaaaDoorNormalFormsE
section
namespace Go.Proofs.YthcpdhniakpbaaaDoor.X
open Go.RowKit Go.Proofs.YthcpdhniakpbaaaDoorW.PrintWords Go.Proofs.YthcpdhniakpbaaaDoorW.PrintLast Go.Proofs.YthcpdhniakpbaaaDoorW.PrintMore
attribute [local go_sem] max2_int min2_int max_two min_two max_three min_three max_four min_four
set_option linter.unusedVariables false
set_option linter.unusedSimpArgs false
def bookplateref05_Decompose.f (k : Nat) (a0 : ByteArray) : Option (ByteArray) := (bookplateref05_decomposed.f k a0).bind fun t290 => ((bookplateref04_Encode.f k t290).bind fun bt293 => (some bt293.1))
set_option maxHeartbeats 8000000 in
set_option maxRecDepth 100000 in
theorem bookplateref05_Decompose.calls (k : Nat) (a0 : ByteArray) (r : ByteArray) (w : World) (h : bookplateref05_Decompose.f k a0 = some r) :
    Calls Tryd.prog 39 #[.string a0] w fun e w' => e = .returned (.string r) ∧ Below w.heap.size w w' := by
  have HB := Aside0.mk (Below.refl w.heap.size w)
  have H : ((bookplateref05_decomposed.f k a0).bind fun t290 => ((bookplateref04_Encode.f k t290).bind fun bt293 => (some bt293.1))) = some r := h
  clear h
  replace H := Option.bind_eq_some_iff.mp H
  obtain ⟨t290, A20, H⟩ := H
  replace H : ((bookplateref04_Encode.f k t290).bind fun bt293 => (some bt293.1)) = some r := H
  have A2 := Aside0.mk A20
  clear A20
  replace H := Option.bind_eq_some_iff.mp H
  obtain ⟨⟨t293, t294⟩, A30, H⟩ := H
  replace H : (some t293) = some r := H
  have A3 := Aside0.mk A30
  clear A30
  obtain rfl := Option.some.inj H
  go_enter Tryd.func39, Tryd.ntmps39
  go_wp2_with (first | ((with_reducible refine gate_callee (f := 66) rfl ?_); refine goesL_ (some 7) rfl rfl Tryd.func66 (by kernel_rfl) rfl #[.string a0] rfl (by (try simp only [List.map_toArray, List.map_cons, List.map_nil]); first | done | rfl | (simp only [List.length_drop, List.length_take]; rfl)) ?_; (with_reducible refine (bookplateref05_decomposed.calls k a0 t290 _ A2.out).mono ?_); rintro e w4 ⟨v291, rfl, ho0, hb⟩; refine ⟨_, rfl, ?_⟩; have n0_ := Aside0.mk (Kd.R_lower ho0 (below_size (by repeat (first | (with_reducible first | exact HB.out | apply below_alloc | apply pw_below_drewN | apply below_drew1) | exact HB.out)))); have n1_ := Aside0.mk (below_step (by repeat (first | (with_reducible first | exact HB.out | apply below_alloc | apply pw_below_drewN | apply below_drew1) | exact HB.out)) hb); clear HB; have HO292 := n0_; have HB := n1_; clear n0_ n1_; (try clear hb); (try clear hb2); (try clear hk); (try clear hi); (try clear ho0); obtain ⟨Ao5, co5, eo5⟩ := Kd.R_slice HO292.out; subst eo5) | ((with_reducible refine gate_callee (f := 50) rfl ?_); refine goesL_ (some 8) rfl rfl Tryd.func50 (by kernel_rfl) rfl #[.slice Ao5 t290.length co5] rfl (by (try simp only [List.map_toArray, List.map_cons, List.map_nil]); first | done | rfl | (simp only [List.length_drop, List.length_take]; rfl)) ?_; (with_reducible refine (bookplateref04_Encode.calls k _ _ t290 t293 t294 _ ?side1 ?side2 A3.out).mono ?_); (case side1 => repeat (first | exact (Kd.R_reads' HO292.out).2.2 | (with_reducible refine Kd.C_alloc ?_ _) | (with_reducible refine Kd.C_drewN ?_ _) | (with_reducible refine Kd.C_drew ?_))); (case side2 => exact (Kd.R_reads' HO292.out).2.1); rintro e w6 ⟨rfl, hb⟩; refine ⟨_, rfl, ?_⟩; have n0_ := Aside0.mk (Kd.R_below (by (with_reducible repeat (first | apply Kd.R_alloc | apply Kd.R_drewN | apply Kd.R_drew)); exact HO292.out) hb); have n1_ := Aside0.mk (below_step (by repeat (first | (with_reducible first | exact HB.out | apply below_alloc | apply pw_below_drewN | apply below_drew1) | exact HB.out)) hb); clear HO292; clear HB; have HO292 := n0_; have HB := n1_; clear n0_ n1_; (try clear hb); (try clear hb2); (try clear hk); (try clear hi)))
  go_ret
  exact ⟨by first | rfl | (simp [errW_none, errW_some] <;> rfl) | (simp [*, errW_none, errW_some] <;> rfl), by repeat (first | (with_reducible first | exact HB.out | apply below_alloc | apply pw_below_drewN | apply below_drew1) | exact HB.out)⟩
mutual
def bookplateref05_composed.l0 : Nat → Int → Int → List (S96) → Int → Option (Int)
  | 0, _, _, _, _ => none
  | k + 1, x0, x1, x5, x6 => if x6 < (x5.length : Int) then (if 0 ≤ x6 then (if ((rd_T96 x5 x6).f0) = x1 then ((bookplateref04_Decode.f k ((rd_T96 x5 x6).f1)).bind fun bt300 => ((bookplateref04_Decode.f k ((rd_T96 x5 x6).f2)).bind fun bt305 => (bookplateref05_composed.l1 k x0 x1 x5 x6 bt300.1 bt305.1 0))) else (bookplateref05_composed.l0 k x0 x1 x5 (wrap64 (x6 + 1)))) else (none)) else (some 0)
def bookplateref05_composed.l1 : Nat → Int → Int → List (S96) → Int → List Int → List Int → Int → Option (Int)
  | 0, _, _, _, _, _, _, _ => none
  | k + 1, x0, x1, x5, x6, x7, x9, x11 => if x11 < (x7.length : Int) then (if 0 ≤ x11 then (if x11 < (x9.length : Int) then (if (rd x9 x11) = x0 then (some (rd x7 x11)) else (bookplateref05_composed.l1 k x0 x1 x5 x6 x7 x9 (wrap64 (x11 + 1)))) else (none)) else (none)) else (bookplateref05_composed.l0 k x0 x1 x5 (wrap64 (x6 + 1)))
end
def bookplateref05_composed.f (k : Nat) (a0 : Int) (a1 : Int) : Option (Int) := (bookplateref05_rows.f).bind fun t295 => (bookplateref05_composed.l0 k a0 a1 t295 0)
set_option maxHeartbeats 8000000 in
set_option maxRecDepth 100000 in
theorem bookplateref05_composed.calls (k : Nat) (a0 : Int) (a1 : Int) (r : Int) (w : World) (h : bookplateref05_composed.f k a0 a1 = some r) :
    Calls Tryd.prog 71 #[.int .i64 a0, .int .i64 a1] w fun e w' => e = .returned (.int .i64 r) ∧ Below w.heap.size w w' := by
  have HB := Aside0.mk (Below.refl w.heap.size w)
  have H : ((bookplateref05_rows.f).bind fun t295 => (bookplateref05_composed.l0 k a0 a1 t295 0)) = some r := h
  clear h
  replace H := Option.bind_eq_some_iff.mp H
  obtain ⟨t295, A30, H⟩ := H
  replace H : (bookplateref05_composed.l0 k a0 a1 t295 0) = some r := H
  have A3 := Aside0.mk A30
  clear A30
  have H' := Aside0.mk H
  clear H
  go_enter Tryd.func71, Tryd.ntmps71
  go_wp2_with (first | ((with_reducible refine gate_callee (f := 93) rfl ?_); refine goesL_ (some 12) rfl rfl Tryd.func93 (by kernel_rfl) rfl #[] rfl (by (try simp only [List.map_toArray, List.map_cons, List.map_nil]); first | done | rfl | (simp only [List.length_drop, List.length_take]; rfl)) ?_; (with_reducible refine (bookplateref05_rows.calls  t295 _ A3.out).mono ?_); rintro e w4 ⟨v296, rfl, ho0, hb⟩; refine ⟨_, rfl, ?_⟩; have n0_ := Aside0.mk (Kd.R_lower ho0 (below_size (by repeat (first | (with_reducible first | exact HB.out | apply below_alloc | apply pw_below_drewN | apply below_drew1) | exact HB.out)))); have n1_ := Aside0.mk (below_step (by repeat (first | (with_reducible first | exact HB.out | apply below_alloc | apply pw_below_drewN | apply below_drew1) | exact HB.out)) hb); clear HB; have HO297 := n0_; have HB := n1_; clear n0_ n1_; (try clear hb); (try clear hb2); (try clear hk); (try clear hi); (try clear ho0)))
  go_loopg [6] k (fun kq v6 w' => ∃ (x6_1 : Int), v6 = .int .i64 x6_1 ∧ Aside0 (bookplateref05_composed.l0 kq a0 a1 t295 x6_1 = some r) ∧ Aside0 (kq ≤ k) ∧ Aside0 (Kd.R k96 96 w' w.heap.size (fun _ => True) v296 t295) ∧ Aside0 (Below w.heap.size w w'))
  case atStart => exact ⟨(0), (by first | rfl | (simp; done) | (simp [*]; done)), H', ⟨Nat.le_refl _⟩, ⟨by (with_reducible repeat (first | apply Kd.R_alloc | apply Kd.R_drewN | apply Kd.R_drew)); exact HO297.out⟩, ⟨by repeat (first | (with_reducible first | exact HB.out | apply below_alloc | apply pw_below_drewN | apply below_drew1) | exact HB.out)⟩⟩
  case round =>
    clear H'
    try clear p2
    obtain ⟨x6_1, rfl, HA, HK1, HO_5, HB⟩ := hrel
    cases gk with
    | zero => exact absurd HA.out (by simp [bookplateref05_composed.l0])
    | succ k1 =>
      have H := HA.out
      clear HA
      simp only [bookplateref05_composed.l0] at H
      by_cases c5 : x6_1 < (t295.length : Int)
      · rw [if_pos c5] at H
        have c5b0 : decide (x6_1 < (t295.length : Int)) = true := decide_eq_true c5
        clear c5
        by_cases c6 : 0 ≤ x6_1
        · rw [if_pos c6] at H
          have c6b0 : decide (0 ≤ x6_1) = true := decide_eq_true c6
          clear c6
          by_cases c7 : ((rd_T96 t295 x6_1).f0) = a1
          · rw [if_pos c7] at H
            have c7b0 : (((rd_T96 t295 x6_1).f0) == a1) = true := beq_iff_eq.mpr c7
            have c7b1 : (((rd_T96 t295 x6_1).f0) != a1) = false := bne_eq_false_iff_eq.mpr c7
            clear c7
            replace H := Option.bind_eq_some_iff.mp H
            obtain ⟨⟨t300, t301⟩, A80, H⟩ := H
            replace H : ((bookplateref04_Decode.f k1 ((rd_T96 t295 x6_1).f2)).bind fun bt305 => (bookplateref05_composed.l1 k1 a0 a1 t295 x6_1 t300 bt305.1 0)) = some r := H
            have A8 := Aside0.mk A80
            clear A80
            replace H := Option.bind_eq_some_iff.mp H
            obtain ⟨⟨t305, t306⟩, A90, H⟩ := H
            replace H : (bookplateref05_composed.l1 k1 a0 a1 t295 x6_1 t300 t305 0) = some r := H
            have A9 := Aside0.mk A90
            clear A90
            have H' := Aside0.mk H
            clear H
            obtain ⟨Ao10, co10, eo10⟩ := Kd.R_slice HO_5.out
            subst eo10
            have p298 : 0 ≤ (x6_1 : Int) := of_decide_eq_true (by first | (with_reducible assumption) | assumption)
            have q298 : x6_1 < (t295.length : Int) := of_decide_eq_true (by first | (with_reducible assumption) | assumption)
            obtain ⟨ad298, e298, hx298_0, hx298_1, hx298_2⟩ := at_T96 (Kd.R_reads' HO_5.out).2.2 x6_1 p298 q298
            cases e298
            replace p298 := eq_true p298
            replace q298 := eq_true q298
            have p299 : 0 ≤ (x6_1 : Int) := of_decide_eq_true (by first | (with_reducible assumption) | assumption)
            have q299 : x6_1 < (t295.length : Int) := of_decide_eq_true (by first | (with_reducible assumption) | assumption)
            obtain ⟨ad299, e299, hx299_0, hx299_1, hx299_2⟩ := at_T96 (Kd.R_reads' HO_5.out).2.2 x6_1 p299 q299
            obtain rfl : ad298 = ad299 := (by injection e299)
            replace p299 := eq_true p299
            replace q299 := eq_true q299
            go_wp2_with (first | ((with_reducible refine gate_callee (f := 31) rfl ?_); refine goesL_ (some 32) rfl rfl Tryd.func31 (by kernel_rfl) rfl #[.string ((rd_T96 t295 x6_1).f1)] rfl (by (try simp only [List.map_toArray, List.map_cons, List.map_nil]); first | done | rfl | (simp only [List.length_drop, List.length_take]; rfl)) ?_; (with_reducible refine (bookplateref04_Decode.calls k1 ((rd_T96 t295 x6_1).f1) t300 t301 _ A8.out).mono ?_); rintro e w11 ⟨v302, rfl, ho0, hb⟩; refine ⟨_, rfl, ?_⟩; have n0_ := Aside0.mk (Kd.R_below (by (with_reducible repeat (first | apply Kd.R_alloc | apply Kd.R_drewN | apply Kd.R_drew)); exact HO_5.out) hb); have n1_ := Aside0.mk (Kd.R_lower ho0 (below_size (by repeat (first | (with_reducible first | exact HB.out | apply below_alloc | apply pw_below_drewN | apply below_drew1) | exact HB.out)))); have n2_ := Aside0.mk (below_step (by repeat (first | (with_reducible first | exact HB.out | apply below_alloc | apply pw_below_drewN | apply below_drew1) | exact HB.out)) hb); clear HO_5; clear HB; have HO_5 := n0_; have HO303 := n1_; have HB := n2_; clear n0_ n1_ n2_; (try clear hb); (try clear hb2); (try clear hk); (try clear hi); (try clear ho0); have p304 : 0 ≤ (x6_1 : Int) := of_decide_eq_true (by first | (with_reducible assumption) | assumption); have q304 : x6_1 < (t295.length : Int) := of_decide_eq_true (by first | (with_reducible assumption) | assumption); obtain ⟨ad304, e304, hx304_0, hx304_1, hx304_2⟩ := at_T96 (Kd.R_reads' HO_5.out).2.2 x6_1 p304 q304; obtain rfl : ad298 = ad304 := (by injection e304); replace p304 := eq_true p304; replace q304 := eq_true q304) | ((with_reducible refine gate_callee (f := 31) rfl ?_); refine goesL_ (some 41) rfl rfl Tryd.func31 (by kernel_rfl) rfl #[.string ((rd_T96 t295 x6_1).f2)] rfl (by (try simp only [List.map_toArray, List.map_cons, List.map_nil]); first | done | rfl | (simp only [List.length_drop, List.length_take]; rfl)) ?_; (with_reducible refine (bookplateref04_Decode.calls k1 ((rd_T96 t295 x6_1).f2) t305 t306 _ A9.out).mono ?_); rintro e w12 ⟨v307, rfl, ho0, hb⟩; refine ⟨_, rfl, ?_⟩; have n0_ := Aside0.mk (Kd.R_below (by (with_reducible repeat (first | apply Kd.R_alloc | apply Kd.R_drewN | apply Kd.R_drew)); exact HO_5.out) hb); have n1_ := Aside0.mk (Kd.R_elder' (by (with_reducible repeat (first | apply Kd.R_alloc | apply Kd.R_drewN | apply Kd.R_drew)); exact HO303.out) (Kd.R_base ho0) hb); have n2_ := Aside0.mk (Kd.R_lower (Kd.R_new' ho0 (Kd.R_lt (by (with_reducible repeat (first | apply Kd.R_alloc | apply Kd.R_drewN | apply Kd.R_drew)); exact HO303.out))) (below_size (by repeat (first | (with_reducible first | exact HB.out | apply below_alloc | apply pw_below_drewN | apply below_drew1) | exact HB.out)))); have n3_ := Aside0.mk (below_step (by repeat (first | (with_reducible first | exact HB.out | apply below_alloc | apply pw_below_drewN | apply below_drew1) | exact HB.out)) hb); clear HO_5; clear HO303; clear HB; have HO_5 := n0_; have HO303 := n1_; have HO308 := n2_; have HB := n3_; clear n0_ n1_ n2_ n3_; (try clear hb); (try clear hb2); (try clear hk); (try clear hi); (try clear ho0)))
            go_loopg [11] k1 (fun kq v11 w' => ∃ (x11_2 : Int), v11 = .int .i64 x11_2 ∧ Aside0 (bookplateref05_composed.l1 kq a0 a1 t295 x6_1 t300 t305 x11_2 = some r) ∧ Aside0 (kq ≤ k1) ∧ Aside0 (Kd.R k96 96 w' w.heap.size (fun _ => True) (.slice (some ad298) t295.length co10) t295) ∧ Aside0 (Kd.R (Kd.int .i64) 3 w' w.heap.size (fun k_ => some k_ ≠ (v307 : Value).ownBlock) v302 t300) ∧ Aside0 (Kd.R (Kd.int .i64) 3 w' w.heap.size (fun k_ => some k_ ≠ (v302 : Value).ownBlock) v307 t305) ∧ Aside0 (Below w.heap.size w w'))
            case atStart => exact ⟨(0), (by first | rfl | (simp; done) | (simp [*]; done)), H', ⟨Nat.le_refl _⟩, ⟨by (with_reducible repeat (first | apply Kd.R_alloc | apply Kd.R_drewN | apply Kd.R_drew)); exact HO_5.out⟩, ⟨by (with_reducible repeat (first | apply Kd.R_alloc | apply Kd.R_drewN | apply Kd.R_drew)); exact Kd.R_mono HO303.out (fun _ hk => hk.2)⟩, ⟨by (with_reducible repeat (first | apply Kd.R_alloc | apply Kd.R_drewN | apply Kd.R_drew)); exact Kd.R_mono HO308.out (fun _ hk => hk.2)⟩, ⟨by repeat (first | (with_reducible first | exact HB.out | apply below_alloc | apply pw_below_drewN | apply below_drew1) | exact HB.out)⟩⟩
            case round =>
              clear H'
              try clear p2
              try clear q2
              try clear hx2
              try clear c3
              try clear p3
              try clear q3
              try clear hx3
              try clear c5
              try clear c5b0
              try clear c6
              try clear c6b0
              try clear c7
              try clear c7b0
              try clear c7b1
              try clear c9
              try clear hx298_0
              try clear hx298_1
              try clear hx298_2
              try clear hx299_0
              try clear hx299_1
              try clear hx299_2
              try clear hx304_0
              try clear hx304_1
              try clear hx304_2
              try clear p2
              try clear p298
              try clear p299
              try clear p304
              try clear q298
              try clear q299
              try clear q304
              obtain ⟨x11_2, rfl, HA, HK2, HO_5, HO_7, HO_9, HB⟩ := hrel
              cases gk with
              | zero => exact absurd HA.out (by simp [bookplateref05_composed.l1])
              | succ k2 =>
                have H := HA.out
                clear HA
                simp only [bookplateref05_composed.l1] at H
                by_cases c13 : x11_2 < (t300.length : Int)
                · rw [if_pos c13] at H
                  have c13b0 : decide (x11_2 < (t300.length : Int)) = true := decide_eq_true c13
                  clear c13
                  by_cases c14 : 0 ≤ x11_2
                  · rw [if_pos c14] at H
                    have c14b0 : decide (0 ≤ x11_2) = true := decide_eq_true c14
                    clear c14
                    by_cases c15 : x11_2 < (t305.length : Int)
                    · rw [if_pos c15] at H
                      have c15b0 : decide (x11_2 < (t305.length : Int)) = true := decide_eq_true c15
                      clear c15
                      by_cases c16 : (rd t305 x11_2) = a0
                      · rw [if_pos c16] at H
                        have c16b0 : ((rd t305 x11_2) == a0) = true := beq_iff_eq.mpr c16
                        have c16b1 : ((rd t305 x11_2) != a0) = false := bne_eq_false_iff_eq.mpr c16
                        clear c16
                        obtain rfl := Option.some.inj H
                        obtain ⟨Ao17, co17, eo17⟩ := Kd.R_slice HO_7.out
                        subst eo17
                        obtain ⟨Ao18, co18, eo18⟩ := Kd.R_slice HO_9.out
                        subst eo18
                        have p309 : 0 ≤ (x11_2 : Int) := of_decide_eq_true (by first | (with_reducible assumption) | assumption)
                        have q309 : x11_2 < (t305.length : Int) := of_decide_eq_true (by first | (with_reducible assumption) | assumption)
                        obtain ⟨ad309, e309, hx309_0⟩ := Kd.at_int (Kd.R_reads' HO_9.out).2.2 x11_2 p309 q309
                        cases e309
                        replace p309 := eq_true p309
                        replace q309 := eq_true q309
                        have p310 : 0 ≤ (x11_2 : Int) := of_decide_eq_true (by first | (with_reducible assumption) | assumption)
                        have q310 : x11_2 < (t300.length : Int) := of_decide_eq_true (by first | (with_reducible assumption) | assumption)
                        obtain ⟨ad310, e310, hx310_0⟩ := Kd.at_int (Kd.R_reads' HO_7.out).2.2 x11_2 p310 q310
                        cases e310
                        replace p310 := eq_true p310
                        replace q310 := eq_true q310
                        go_wp2
                        go_ret
                        exact ⟨by first | rfl | (simp [errW_none, errW_some] <;> rfl) | (simp [*, errW_none, errW_some] <;> rfl), by repeat (first | (with_reducible first | exact HB.out | apply below_alloc | apply pw_below_drewN | apply below_drew1) | exact HB.out)⟩
                      · rw [if_neg c16] at H
                        have c16b0 : ((rd t305 x11_2) == a0) = false := beq_eq_false_iff_ne.mpr c16
                        have c16b1 : ((rd t305 x11_2) != a0) = true := bne_iff_ne.mpr c16
                        have H' := Aside0.mk H
                        clear H
                        obtain ⟨Ao19, co19, eo19⟩ := Kd.R_slice HO_7.out
                        subst eo19
                        obtain ⟨Ao20, co20, eo20⟩ := Kd.R_slice HO_9.out
                        subst eo20
                        have p309 : 0 ≤ (x11_2 : Int) := of_decide_eq_true (by first | (with_reducible assumption) | assumption)
                        have q309 : x11_2 < (t305.length : Int) := of_decide_eq_true (by first | (with_reducible assumption) | assumption)
                        obtain ⟨ad309, e309, hx309_0⟩ := Kd.at_int (Kd.R_reads' HO_9.out).2.2 x11_2 p309 q309
                        cases e309
                        replace p309 := eq_true p309
                        replace q309 := eq_true q309
                        go_wp2
                        go_roundg k2
                        case measure => have := HK1.out; have := HK2.out; omega
                        case rel => exact ⟨(wrap64 (x11_2 + 1)), (by first | rfl | (simp; done) | (simp [*]; done)), H', ⟨by have := HK1.out; have := HK2.out; omega⟩, ⟨by (with_reducible repeat (first | apply Kd.R_alloc | apply Kd.R_drewN | apply Kd.R_drew)); exact HO_5.out⟩, ⟨by (with_reducible repeat (first | apply Kd.R_alloc | apply Kd.R_drewN | apply Kd.R_drew)); exact HO_7.out⟩, ⟨by (with_reducible repeat (first | apply Kd.R_alloc | apply Kd.R_drewN | apply Kd.R_drew)); exact HO_9.out⟩, ⟨by repeat (first | (with_reducible first | exact HB.out | apply below_alloc | apply pw_below_drewN | apply below_drew1) | exact HB.out)⟩⟩
                    · rw [if_neg c15] at H
                      exact absurd H (by simp)
                  · rw [if_neg c14] at H
                    exact absurd H (by simp)
                · rw [if_neg c13] at H
                  have c13b0 : decide (x11_2 < (t300.length : Int)) = false := decide_eq_false c13
                  clear c13
                  have H' := Aside0.mk H
                  clear H
                  obtain ⟨Ao21, co21, eo21⟩ := Kd.R_slice HO_7.out
                  subst eo21
                  go_wp2
                  go_roundg k2
                  case measure => have := HK1.out; have := HK2.out; omega
                  case rel => exact ⟨(wrap64 (x6_1 + 1)), (by first | rfl | (simp; done) | (simp [*]; done)), H', ⟨by have := HK1.out; have := HK2.out; omega⟩, ⟨by (with_reducible repeat (first | apply Kd.R_alloc | apply Kd.R_drewN | apply Kd.R_drew)); exact HO_5.out⟩, ⟨by repeat (first | (with_reducible first | exact HB.out | apply below_alloc | apply pw_below_drewN | apply below_drew1) | exact HB.out)⟩⟩
          · rw [if_neg c7] at H
            have c7b0 : (((rd_T96 t295 x6_1).f0) == a1) = false := beq_eq_false_iff_ne.mpr c7
            have c7b1 : (((rd_T96 t295 x6_1).f0) != a1) = true := bne_iff_ne.mpr c7
            have H' := Aside0.mk H
            clear H
            obtain ⟨Ao22, co22, eo22⟩ := Kd.R_slice HO_5.out
            subst eo22
            have p298 : 0 ≤ (x6_1 : Int) := of_decide_eq_true (by first | (with_reducible assumption) | assumption)
            have q298 : x6_1 < (t295.length : Int) := of_decide_eq_true (by first | (with_reducible assumption) | assumption)
            obtain ⟨ad298, e298, hx298_0, hx298_1, hx298_2⟩ := at_T96 (Kd.R_reads' HO_5.out).2.2 x6_1 p298 q298
            cases e298
            replace p298 := eq_true p298
            replace q298 := eq_true q298
            go_wp2
            go_roundg k1
            case measure => have := HK1.out; omega
            case rel => exact ⟨(wrap64 (x6_1 + 1)), (by first | rfl | (simp; done) | (simp [*]; done)), H', ⟨by have := HK1.out; omega⟩, ⟨by (with_reducible repeat (first | apply Kd.R_alloc | apply Kd.R_drewN | apply Kd.R_drew)); exact HO_5.out⟩, ⟨by repeat (first | (with_reducible first | exact HB.out | apply below_alloc | apply pw_below_drewN | apply below_drew1) | exact HB.out)⟩⟩
        · rw [if_neg c6] at H
          exact absurd H (by simp)
      · rw [if_neg c5] at H
        have c5b0 : decide (x6_1 < (t295.length : Int)) = false := decide_eq_false c5
        clear c5
        obtain rfl := Option.some.inj H
        obtain ⟨Ao23, co23, eo23⟩ := Kd.R_slice HO_5.out
        subst eo23
        go_wp2
        go_ret
        exact ⟨by first | rfl | (simp [errW_none, errW_some] <;> rfl) | (simp [*, errW_none, errW_some] <;> rfl), by repeat (first | (with_reducible first | exact HB.out | apply below_alloc | apply pw_below_drewN | apply below_drew1) | exact HB.out)⟩
end Go.Proofs.YthcpdhniakpbaaaDoor.X
end

section
namespace Go.Proofs.YthcpdhniakpbaaaDoor.X
open Go.RowKit Go.Proofs.YthcpdhniakpbaaaDoorW.PrintWords Go.Proofs.YthcpdhniakpbaaaDoorW.PrintLast Go.Proofs.YthcpdhniakpbaaaDoorW.PrintMore
attribute [local go_sem] max2_int min2_int max_two min_two max_three min_three max_four min_four
set_option linter.unusedVariables false
set_option linter.unusedSimpArgs false
mutual
def bookplateref05_Compose.l0 : Nat → List Int → List Int → Int → Option (ByteArray)
  | 0, _, _, _ => none
  | k + 1, x3, x4, x5 => if x5 < (x3.length : Int) then (if 0 ≤ x5 then ((bookplateref05_class.f k (rd x3 x5)).bind fun t317 => (if t317 > 0 then (if x4.length < 17592186044416 then (bookplateref05_Compose.l0 k x3 (x4 ++ [rd x3 x5]) (wrap64 (x5 + 1))) else (none)) else (bookplateref05_Compose.l1 k x3 x4 (wrap64 (x5 + 1)) (rd x3 x5) ([] : List Int)))) else (none)) else ((bookplateref04_Encode.f k x4).bind fun bt314 => (some bt314.1))
def bookplateref05_Compose.l1 : Nat → List Int → List Int → Int → Int → List Int → Option (ByteArray)
  | 0, _, _, _, _, _ => none
  | k + 1, x3, x4, x5, x6, x7 => if x5 < (x3.length : Int) then (if 0 ≤ x5 then ((bookplateref05_class.f k (rd x3 x5)).bind fun t324 => (bookplateref05_Compose.j2 k x3 x4 x5 x6 x7 (decide (t324 > 0)))) else (none)) else (bookplateref05_Compose.j2 k x3 x4 x5 x6 x7 false)
def bookplateref05_Compose.j2 : Nat → List Int → List Int → Int → Int → List Int → Bool → Option (ByteArray)
  | 0, _, _, _, _, _, _ => none
  | k + 1, x3, x4, x5, x6, x7, x51 => if x51 = true then (bookplateref05_Compose.l2 k x3 x4 x5 x6 x7 false 0) else (if x4.length < 17592186044416 then ((some (x4 ++ [x6] : List Int)).bind fun y325 => (if y325.length + x7.length < 17592186044416 then (bookplateref05_Compose.l0 k x3 (y325 ++ x7) x5) else (none))) else (none))
def bookplateref05_Compose.l2 : Nat → List Int → List Int → Int → Int → List Int → Bool → Int → Option (ByteArray)
  | 0, _, _, _, _, _, _, _ => none
  | k + 1, x3, x4, x5, x6, x7, x8, x9 => if x9 < (x7.length : Int) then (if x8 = true then (bookplateref05_Compose.l2 k x3 x4 x5 x6 x7 true (wrap64 (x9 + 1))) else (if 0 ≤ x9 then ((bookplateref05_class.f k (rd x7 x9)).bind fun t332 => (if 0 ≤ x5 then (if x5 < (x3.length : Int) then ((bookplateref05_class.f k (rd x3 x5)).bind fun t334 => (bookplateref05_Compose.l2 k x3 x4 x5 x6 x7 (t332 == t334) (wrap64 (x9 + 1)))) else (none)) else (none))) else (none))) else (if 0 ≤ x5 then (if x5 < (x3.length : Int) then ((bookplateref05_composed.f k x6 (rd x3 x5)).bind fun t336 => (if t336 = 0 then (if x7.length < 17592186044416 then (bookplateref05_Compose.l1 k x3 x4 (wrap64 (x5 + 1)) x6 (x7 ++ [rd x3 x5])) else (none)) else (if x8 = true then (if x7.length < 17592186044416 then (bookplateref05_Compose.l1 k x3 x4 (wrap64 (x5 + 1)) x6 (x7 ++ [rd x3 x5])) else (none)) else (bookplateref05_Compose.l1 k x3 x4 (wrap64 (x5 + 1)) t336 x7)))) else (none)) else (none))
end
def bookplateref05_Compose.f (k : Nat) (a0 : ByteArray) : Option (ByteArray) := (bookplateref05_decomposed.f k a0).bind fun t311 => (bookplateref05_Compose.l0 k t311 ([] : List Int) 0)
set_option maxHeartbeats 8000000 in
set_option maxRecDepth 100000 in
theorem bookplateref05_Compose.calls (k : Nat) (a0 : ByteArray) (r : ByteArray) (w : World) (h : bookplateref05_Compose.f k a0 = some r) :
    Calls Tryd.prog 41 #[.string a0] w fun e w' => e = .returned (.string r) ∧ Below w.heap.size w w' := by
  have HB := Aside0.mk (Below.refl w.heap.size w)
  have H : ((bookplateref05_decomposed.f k a0).bind fun t311 => (bookplateref05_Compose.l0 k t311 ([] : List Int) 0)) = some r := h
  clear h
  replace H := Option.bind_eq_some_iff.mp H
  obtain ⟨t311, A20, H⟩ := H
  replace H : (bookplateref05_Compose.l0 k t311 ([] : List Int) 0) = some r := H
  have A2 := Aside0.mk A20
  clear A20
  have H' := Aside0.mk H
  clear H
  go_enter Tryd.func41, Tryd.ntmps41
  go_wp2_with (first | (go_at_call 66; (with_reducible refine (bookplateref05_decomposed.calls k a0 t311 _ A2.out).mono ?_); rintro e w3 ⟨v312, rfl, ho0, hb⟩; have n0_ := Aside0.mk (Kd.R_lower ho0 (below_size (by repeat (first | (with_reducible first | exact HB.out | apply below_alloc | apply pw_below_drewN | apply below_drew1) | exact HB.out)))); have n1_ := Aside0.mk (below_step (by repeat (first | (with_reducible first | exact HB.out | apply below_alloc | apply pw_below_drewN | apply below_drew1) | exact HB.out)) hb); clear HB; have HO313 := n0_; have HB := n1_; clear n0_ n1_; (try clear hb); (try clear hb2); (try clear hk); (try clear hi); (try clear ho0)))
  repeat (go_quiet (first | (go_at_call 66; (with_reducible refine (bookplateref05_decomposed.calls k a0 t311 _ A2.out).mono ?_); rintro e w3 ⟨v312, rfl, ho0, hb⟩; have n0_ := Aside0.mk (Kd.R_lower ho0 (below_size (by repeat (first | (with_reducible first | exact HB.out | apply below_alloc | apply pw_below_drewN | apply below_drew1) | exact HB.out)))); have n1_ := Aside0.mk (below_step (by repeat (first | (with_reducible first | exact HB.out | apply below_alloc | apply pw_below_drewN | apply below_drew1) | exact HB.out)) hb); clear HB; have HO313 := n0_; have HB := n1_; clear n0_ n1_; (try clear hb); (try clear hb2); (try clear hk); (try clear hi); (try clear ho0))); try go_wp2_with (first | (go_at_call 66; (with_reducible refine (bookplateref05_decomposed.calls k a0 t311 _ A2.out).mono ?_); rintro e w3 ⟨v312, rfl, ho0, hb⟩; have n0_ := Aside0.mk (Kd.R_lower ho0 (below_size (by repeat (first | (with_reducible first | exact HB.out | apply below_alloc | apply pw_below_drewN | apply below_drew1) | exact HB.out)))); have n1_ := Aside0.mk (below_step (by repeat (first | (with_reducible first | exact HB.out | apply below_alloc | apply pw_below_drewN | apply below_drew1) | exact HB.out)) hb); clear HB; have HO313 := n0_; have HB := n1_; clear n0_ n1_; (try clear hb); (try clear hb2); (try clear hk); (try clear hi); (try clear ho0))))
  go_loopg [4, 5] k (fun kq v4 v5 w' => ∃ (x4_1 : List Int) (x5_1 : Int), v5 = .int .i64 x5_1 ∧ Aside0 (bookplateref05_Compose.l0 kq t311 x4_1 x5_1 = some r) ∧ Aside0 (kq ≤ k) ∧ Aside0 (Kd.R (Kd.int .i64) 3 w' w.heap.size (fun k_ => some k_ ≠ (v4 : Value).ownBlock) v312 t311) ∧ Aside0 (Kd.R (Kd.int .i64) 3 w' w.heap.size (fun k_ => some k_ ≠ (v312 : Value).ownBlock) v4 x4_1) ∧ Aside0 (Below w.heap.size w w'))
  case atStart => exact ⟨(([] : List Int)), (0), (by first | rfl | (simp; done) | (simp [*]; done)), H', ⟨Nat.le_refl _⟩, ⟨by (with_reducible repeat (first | apply Kd.R_alloc | apply Kd.R_drewN | apply Kd.R_drew)); exact Kd.R_mono HO313.out (fun _ hk => (by simp [Value.ownBlock]))⟩, ⟨by first | exact Kd.R_nil _ _ _ _ _ | exact Kd.N_nil _ _ _ _ _ | exact Kd.V_nil _ _ _ _ _ | exact Kd.Q_nil _ _ _ _ _ | exact Kd.S_nil _ _ _ _ _⟩, ⟨by repeat (first | (with_reducible first | exact HB.out | apply below_alloc | apply pw_below_drewN | apply below_drew1) | exact HB.out)⟩⟩
  case round =>
    clear H'
    try clear p2
    obtain ⟨x4_1, x5_1, rfl, HA, HK1, HO_3, HO_4, HB⟩ := hrel
    cases gk with
    | zero => exact absurd HA.out (by simp [bookplateref05_Compose.l0])
    | succ k1 =>
      have H := HA.out
      clear HA
      simp only [bookplateref05_Compose.l0] at H
      by_cases c4 : x5_1 < (t311.length : Int)
      · rw [if_pos c4] at H
        have c4b0 : decide (x5_1 < (t311.length : Int)) = true := decide_eq_true c4
        clear c4
        by_cases c5 : 0 ≤ x5_1
        · rw [if_pos c5] at H
          have c5b0 : decide (0 ≤ x5_1) = true := decide_eq_true c5
          clear c5
          replace H := Option.bind_eq_some_iff.mp H
          obtain ⟨t317, A60, H⟩ := H
          replace H : (if t317 > 0 then (if x4_1.length < 17592186044416 then (bookplateref05_Compose.l0 k1 t311 (x4_1 ++ [rd t311 x5_1]) (wrap64 (x5_1 + 1))) else (none)) else (bookplateref05_Compose.l1 k1 t311 x4_1 (wrap64 (x5_1 + 1)) (rd t311 x5_1) ([] : List Int))) = some r := H
          have A6 := Aside0.mk A60
          clear A60
          by_cases c7 : t317 > 0
          · rw [if_pos c7] at H
            have c7b0 : decide (0 < t317) = true := decide_eq_true c7
            clear c7
            by_cases c8 : x4_1.length < 17592186044416
            · rw [if_pos c8] at H
              have LMc8 := Aside0.mk c8
              clear c8
              obtain ⟨y319, hy319⟩ : ∃ y_ : List Int, y_ = (x4_1 ++ [rd t311 x5_1]) := ⟨_, rfl⟩
              replace H : (bookplateref05_Compose.l0 k1 t311 y319 (wrap64 (x5_1 + 1))) = some r := by first | (rw [hy319]; with_reducible exact H) | (have H2_ := (Option.bind_some _ _).symm.trans H; rw [hy319]; with_reducible exact H2_) | (have H2_ := (Option.bind_some _ _).symm.trans H; with_reducible exact H2_) | with_reducible exact H | (rw [hy319]; exact H) | exact H
              have Ny319 := Aside0.mk hy319
              clear hy319
              have H' := Aside0.mk H
              clear H
              obtain ⟨Ao9, co9, eo9⟩ := Kd.R_slice HO_3.out
              subst eo9
              have p316 : 0 ≤ (x5_1 : Int) := of_decide_eq_true (by first | (with_reducible assumption) | assumption)
              have q316 : x5_1 < (t311.length : Int) := of_decide_eq_true (by first | (with_reducible assumption) | assumption)
              obtain ⟨ad316, e316, hx316_0⟩ := Kd.at_int (Kd.R_reads' HO_3.out).2.2 x5_1 p316 q316
              cases e316
              replace p316 := eq_true p316
              replace q316 := eq_true q316
              go_wp2_with (first | (go_at_call 70; (with_reducible refine (bookplateref05_class.calls k1 (rd t311 x5_1) t317 _ A6.out).mono ?_); rintro e w' ⟨rfl, ⟨nd, rfl⟩⟩; (try first | exact ⟨rfl, _, World.drewN_drewN _ _ _⟩ | exact ⟨rfl, _, Eq.trans (World.drewN_drewN _ _ _) (congrArg (World.drewN _) (Nat.add_assoc _ _ _))⟩); have p318 : 0 ≤ (x5_1 : Int) := of_decide_eq_true (by first | (with_reducible assumption) | assumption); have q318 : x5_1 < (t311.length : Int) := of_decide_eq_true (by first | (with_reducible assumption) | assumption); obtain ⟨ad318, e318, hx318_0⟩ := Kd.at_int (Kd.R_reads' HO_3.out).2.2 x5_1 p318 q318; obtain rfl : ad316 = ad318 := (by injection e318); replace p318 := eq_true p318; replace q318 := eq_true q318) | ((with_reducible refine gate_builtin (b := .append) (xs := #[.tmp 25, .tmp 30]) rfl ?_); at_builtin; refine Kd.R_append (Kd.int .i64) (w0 := w) w.heap.size rfl (.tmp 25) (.tmp 30) 35 3 (.int .i64 0) 8 rfl Tryd.underlying35 info3 rfl (by decide) (by omega) u4 x4_1 (rd t311 x5_1) [.int .i64 (rd t311 x5_1)] (fun k_ => some k_ ≠ (.slice (some ad316) t311.length co9 : Value).ownBlock) (fun _ => False) rfl rfl ?aP (fun _ hk => hk.elim) ?aF ?aO ?aB ?aS ?aL ?_; (case aP => exact rfl); (case aB => exact (by repeat (first | (with_reducible first | exact HB.out | apply below_alloc | apply pw_below_drewN | apply below_drew1) | exact HB.out))); (case aF => exact (fun k_ hk => Kd.fresh' (Kd.R_lt (by (with_reducible repeat (first | apply Kd.R_alloc | apply Kd.R_drewN | apply Kd.R_drew)); exact HO_3.out)) k_ hk)); (case aO => exact (by (with_reducible repeat (first | apply Kd.R_alloc | apply Kd.R_drewN | apply Kd.R_drew)); exact HO_4.out)); (case aS => exact (below_size (by repeat (first | (with_reducible first | exact HB.out | apply below_alloc | apply pw_below_drewN | apply below_drew1) | exact HB.out)))); (case aL => have := LMc8.out; omega); intro v320 w10 ho hb hg hat; rw [← Ny319.out] at ho; have n0_ := Aside0.mk (Kd.R_after (ok := (fun _ => True)) (by (with_reducible repeat (first | apply Kd.R_alloc | apply Kd.R_drewN | apply Kd.R_drew)); exact Kd.R_mono HO_3.out (fun _ hk => ⟨trivial, hk⟩)) hg hat); have n1_ := Aside0.mk (hb); have n2_ := Aside0.mk (ho); clear HO_3; clear HB; clear HO_4; have HO_3 := n0_; have HB := n1_; have HO321 := n2_; clear n0_ n1_ n2_; clear ho hb hg hat))
              repeat (go_quiet (first | (go_at_call 70; (with_reducible refine (bookplateref05_class.calls k1 (rd t311 x5_1) t317 _ A6.out).mono ?_); rintro e w' ⟨rfl, ⟨nd, rfl⟩⟩; (try first | exact ⟨rfl, _, World.drewN_drewN _ _ _⟩ | exact ⟨rfl, _, Eq.trans (World.drewN_drewN _ _ _) (congrArg (World.drewN _) (Nat.add_assoc _ _ _))⟩); have p318 : 0 ≤ (x5_1 : Int) := of_decide_eq_true (by first | (with_reducible assumption) | assumption); have q318 : x5_1 < (t311.length : Int) := of_decide_eq_true (by first | (with_reducible assumption) | assumption); obtain ⟨ad318, e318, hx318_0⟩ := Kd.at_int (Kd.R_reads' HO_3.out).2.2 x5_1 p318 q318; obtain rfl : ad316 = ad318 := (by injection e318); replace p318 := eq_true p318; replace q318 := eq_true q318) | ((with_reducible refine gate_builtin (b := .append) (xs := #[.tmp 25, .tmp 30]) rfl ?_); at_builtin; refine Kd.R_append (Kd.int .i64) (w0 := w) w.heap.size rfl (.tmp 25) (.tmp 30) 35 3 (.int .i64 0) 8 rfl Tryd.underlying35 info3 rfl (by decide) (by omega) u4 x4_1 (rd t311 x5_1) [.int .i64 (rd t311 x5_1)] (fun k_ => some k_ ≠ (.slice (some ad316) t311.length co9 : Value).ownBlock) (fun _ => False) rfl rfl ?aP (fun _ hk => hk.elim) ?aF ?aO ?aB ?aS ?aL ?_; (case aP => exact rfl); (case aB => exact (by repeat (first | (with_reducible first | exact HB.out | apply below_alloc | apply pw_below_drewN | apply below_drew1) | exact HB.out))); (case aF => exact (fun k_ hk => Kd.fresh' (Kd.R_lt (by (with_reducible repeat (first | apply Kd.R_alloc | apply Kd.R_drewN | apply Kd.R_drew)); exact HO_3.out)) k_ hk)); (case aO => exact (by (with_reducible repeat (first | apply Kd.R_alloc | apply Kd.R_drewN | apply Kd.R_drew)); exact HO_4.out)); (case aS => exact (below_size (by repeat (first | (with_reducible first | exact HB.out | apply below_alloc | apply pw_below_drewN | apply below_drew1) | exact HB.out)))); (case aL => have := LMc8.out; omega); intro v320 w10 ho hb hg hat; rw [← Ny319.out] at ho; have n0_ := Aside0.mk (Kd.R_after (ok := (fun _ => True)) (by (with_reducible repeat (first | apply Kd.R_alloc | apply Kd.R_drewN | apply Kd.R_drew)); exact Kd.R_mono HO_3.out (fun _ hk => ⟨trivial, hk⟩)) hg hat); have n1_ := Aside0.mk (hb); have n2_ := Aside0.mk (ho); clear HO_3; clear HB; clear HO_4; have HO_3 := n0_; have HB := n1_; have HO321 := n2_; clear n0_ n1_ n2_; clear ho hb hg hat)); try go_wp2_with (first | (go_at_call 70; (with_reducible refine (bookplateref05_class.calls k1 (rd t311 x5_1) t317 _ A6.out).mono ?_); rintro e w' ⟨rfl, ⟨nd, rfl⟩⟩; (try first | exact ⟨rfl, _, World.drewN_drewN _ _ _⟩ | exact ⟨rfl, _, Eq.trans (World.drewN_drewN _ _ _) (congrArg (World.drewN _) (Nat.add_assoc _ _ _))⟩); have p318 : 0 ≤ (x5_1 : Int) := of_decide_eq_true (by first | (with_reducible assumption) | assumption); have q318 : x5_1 < (t311.length : Int) := of_decide_eq_true (by first | (with_reducible assumption) | assumption); obtain ⟨ad318, e318, hx318_0⟩ := Kd.at_int (Kd.R_reads' HO_3.out).2.2 x5_1 p318 q318; obtain rfl : ad316 = ad318 := (by injection e318); replace p318 := eq_true p318; replace q318 := eq_true q318) | ((with_reducible refine gate_builtin (b := .append) (xs := #[.tmp 25, .tmp 30]) rfl ?_); at_builtin; refine Kd.R_append (Kd.int .i64) (w0 := w) w.heap.size rfl (.tmp 25) (.tmp 30) 35 3 (.int .i64 0) 8 rfl Tryd.underlying35 info3 rfl (by decide) (by omega) u4 x4_1 (rd t311 x5_1) [.int .i64 (rd t311 x5_1)] (fun k_ => some k_ ≠ (.slice (some ad316) t311.length co9 : Value).ownBlock) (fun _ => False) rfl rfl ?aP (fun _ hk => hk.elim) ?aF ?aO ?aB ?aS ?aL ?_; (case aP => exact rfl); (case aB => exact (by repeat (first | (with_reducible first | exact HB.out | apply below_alloc | apply pw_below_drewN | apply below_drew1) | exact HB.out))); (case aF => exact (fun k_ hk => Kd.fresh' (Kd.R_lt (by (with_reducible repeat (first | apply Kd.R_alloc | apply Kd.R_drewN | apply Kd.R_drew)); exact HO_3.out)) k_ hk)); (case aO => exact (by (with_reducible repeat (first | apply Kd.R_alloc | apply Kd.R_drewN | apply Kd.R_drew)); exact HO_4.out)); (case aS => exact (below_size (by repeat (first | (with_reducible first | exact HB.out | apply below_alloc | apply pw_below_drewN | apply below_drew1) | exact HB.out)))); (case aL => have := LMc8.out; omega); intro v320 w10 ho hb hg hat; rw [← Ny319.out] at ho; have n0_ := Aside0.mk (Kd.R_after (ok := (fun _ => True)) (by (with_reducible repeat (first | apply Kd.R_alloc | apply Kd.R_drewN | apply Kd.R_drew)); exact Kd.R_mono HO_3.out (fun _ hk => ⟨trivial, hk⟩)) hg hat); have n1_ := Aside0.mk (hb); have n2_ := Aside0.mk (ho); clear HO_3; clear HB; clear HO_4; have HO_3 := n0_; have HB := n1_; have HO321 := n2_; clear n0_ n1_ n2_; clear ho hb hg hat)))
              go_roundg k1
              case measure => have := HK1.out; omega
              case rel => exact ⟨(y319), (wrap64 (x5_1 + 1)), (by first | rfl | (simp; done) | (simp [*]; done)), H', ⟨by have := HK1.out; omega⟩, ⟨by (with_reducible repeat (first | apply Kd.R_alloc | apply Kd.R_drewN | apply Kd.R_drew)); exact Kd.R_mono HO_3.out (fun _ hk => hk.2)⟩, ⟨by (with_reducible repeat (first | apply Kd.R_alloc | apply Kd.R_drewN | apply Kd.R_drew)); exact HO321.out⟩, ⟨by repeat (first | (with_reducible first | exact HB.out | apply below_alloc | apply pw_below_drewN | apply below_drew1) | exact HB.out)⟩⟩
            · rw [if_neg c8] at H
              exact absurd H (by simp)
          · rw [if_neg c7] at H
            have c7b0 : decide (0 < t317) = false := decide_eq_false c7
            clear c7
            have H' := Aside0.mk H
            clear H
            obtain ⟨Ao11, co11, eo11⟩ := Kd.R_slice HO_3.out
            subst eo11
            have p316 : 0 ≤ (x5_1 : Int) := of_decide_eq_true (by first | (with_reducible assumption) | assumption)
            have q316 : x5_1 < (t311.length : Int) := of_decide_eq_true (by first | (with_reducible assumption) | assumption)
            obtain ⟨ad316, e316, hx316_0⟩ := Kd.at_int (Kd.R_reads' HO_3.out).2.2 x5_1 p316 q316
            cases e316
            replace p316 := eq_true p316
            replace q316 := eq_true q316
            go_wp2_with (first | (go_at_call 70; (with_reducible refine (bookplateref05_class.calls k1 (rd t311 x5_1) t317 _ A6.out).mono ?_); rintro e w' ⟨rfl, ⟨nd, rfl⟩⟩; (try first | exact ⟨rfl, _, World.drewN_drewN _ _ _⟩ | exact ⟨rfl, _, Eq.trans (World.drewN_drewN _ _ _) (congrArg (World.drewN _) (Nat.add_assoc _ _ _))⟩); have p322 : 0 ≤ (x5_1 : Int) := of_decide_eq_true (by first | (with_reducible assumption) | assumption); have q322 : x5_1 < (t311.length : Int) := of_decide_eq_true (by first | (with_reducible assumption) | assumption); obtain ⟨ad322, e322, hx322_0⟩ := Kd.at_int (Kd.R_reads' HO_3.out).2.2 x5_1 p322 q322; obtain rfl : ad316 = ad322 := (by injection e322); replace p322 := eq_true p322; replace q322 := eq_true q322))
            repeat (go_quiet (first | (go_at_call 70; (with_reducible refine (bookplateref05_class.calls k1 (rd t311 x5_1) t317 _ A6.out).mono ?_); rintro e w' ⟨rfl, ⟨nd, rfl⟩⟩; (try first | exact ⟨rfl, _, World.drewN_drewN _ _ _⟩ | exact ⟨rfl, _, Eq.trans (World.drewN_drewN _ _ _) (congrArg (World.drewN _) (Nat.add_assoc _ _ _))⟩); have p322 : 0 ≤ (x5_1 : Int) := of_decide_eq_true (by first | (with_reducible assumption) | assumption); have q322 : x5_1 < (t311.length : Int) := of_decide_eq_true (by first | (with_reducible assumption) | assumption); obtain ⟨ad322, e322, hx322_0⟩ := Kd.at_int (Kd.R_reads' HO_3.out).2.2 x5_1 p322 q322; obtain rfl : ad316 = ad322 := (by injection e322); replace p322 := eq_true p322; replace q322 := eq_true q322)); try go_wp2_with (first | (go_at_call 70; (with_reducible refine (bookplateref05_class.calls k1 (rd t311 x5_1) t317 _ A6.out).mono ?_); rintro e w' ⟨rfl, ⟨nd, rfl⟩⟩; (try first | exact ⟨rfl, _, World.drewN_drewN _ _ _⟩ | exact ⟨rfl, _, Eq.trans (World.drewN_drewN _ _ _) (congrArg (World.drewN _) (Nat.add_assoc _ _ _))⟩); have p322 : 0 ≤ (x5_1 : Int) := of_decide_eq_true (by first | (with_reducible assumption) | assumption); have q322 : x5_1 < (t311.length : Int) := of_decide_eq_true (by first | (with_reducible assumption) | assumption); obtain ⟨ad322, e322, hx322_0⟩ := Kd.at_int (Kd.R_reads' HO_3.out).2.2 x5_1 p322 q322; obtain rfl : ad316 = ad322 := (by injection e322); replace p322 := eq_true p322; replace q322 := eq_true q322)))
            go_loopg [5, 6, 7] k1 (fun kq v5 v6 v7 w' => ∃ (x5_2 : Int) (x6_2 : Int) (x7_2 : List Int), v5 = .int .i64 x5_2 ∧ v6 = .int .i64 x6_2 ∧ Aside0 (bookplateref05_Compose.l1 kq t311 x4_1 x5_2 x6_2 x7_2 = some r) ∧ Aside0 (kq ≤ k1) ∧ Aside0 (Kd.R (Kd.int .i64) 3 w' w.heap.size (fun k_ => some k_ ≠ (u4 : Value).ownBlock ∧ some k_ ≠ (v7 : Value).ownBlock) (.slice (some ad316) t311.length co11) t311) ∧ Aside0 (Kd.R (Kd.int .i64) 3 w' w.heap.size (fun k_ => some k_ ≠ ((.slice (some ad316) t311.length co11) : Value).ownBlock ∧ some k_ ≠ (v7 : Value).ownBlock) u4 x4_1) ∧ Aside0 (Kd.R (Kd.int .i64) 3 w' w.heap.size (fun k_ => some k_ ≠ ((.slice (some ad316) t311.length co11) : Value).ownBlock ∧ some k_ ≠ (u4 : Value).ownBlock) v7 x7_2) ∧ Aside0 (Below w.heap.size w w'))
            case atStart => exact ⟨(wrap64 (x5_1 + 1)), (rd t311 x5_1), (([] : List Int)), (by first | rfl | (simp; done) | (simp [*]; done)), (by first | rfl | (simp; done) | (simp [*]; done)), H', ⟨Nat.le_refl _⟩, ⟨by (with_reducible repeat (first | apply Kd.R_alloc | apply Kd.R_drewN | apply Kd.R_drew)); exact Kd.R_mono HO_3.out (fun _ hk => ⟨hk, (by simp [Value.ownBlock])⟩)⟩, ⟨by (with_reducible repeat (first | apply Kd.R_alloc | apply Kd.R_drewN | apply Kd.R_drew)); exact Kd.R_mono HO_4.out (fun _ hk => ⟨hk, (by simp [Value.ownBlock])⟩)⟩, ⟨by first | exact Kd.R_nil _ _ _ _ _ | exact Kd.N_nil _ _ _ _ _ | exact Kd.V_nil _ _ _ _ _ | exact Kd.Q_nil _ _ _ _ _ | exact Kd.S_nil _ _ _ _ _⟩, ⟨by repeat (first | (with_reducible first | exact HB.out | apply below_alloc | apply pw_below_drewN | apply below_drew1) | exact HB.out)⟩⟩
            case round =>
              clear H'
              try clear p2
              try clear p3
              try clear q3
              try clear hx3
              try clear c4
              try clear c4b0
              try clear c5
              try clear c5b0
              try clear p6
              try clear c7
              try clear c7b0
              try clear c8
              try clear hx316_0
              try clear hx318_0
              try clear hx322_0
              try clear p2
              try clear p316
              try clear p318
              try clear p322
              try clear q316
              try clear q318
              try clear q322
              obtain ⟨x5_2, x6_2, x7_2, rfl, rfl, HA, HK2, HO_3, HO_4, HO_7, HB⟩ := hrel
              cases gk with
              | zero => exact absurd HA.out (by simp [bookplateref05_Compose.l1])
              | succ k2 =>
                have H := HA.out
                clear HA
                simp only [bookplateref05_Compose.l1] at H
                have HC12 := Aside0.mk H
                clear H
                go_upto_region 11 with (fail)
                repeat (go_quiet (fail); go_upto_region 11 with (fail))
                go_cut [51] (fun v51 wc => ∃ (kq : Nat) (x51_11 : Bool), v51 = .bool x51_11 ∧ Aside0 (bookplateref05_Compose.j2 kq t311 x4_1 x5_2 x6_2 x7_2 x51_11 = some r) ∧ Aside0 (kq ≤ k2) ∧ Aside0 (Kd.R (Kd.int .i64) 3 wc w.heap.size (fun k_ => some k_ ≠ (u4 : Value).ownBlock ∧ some k_ ≠ (u7 : Value).ownBlock) (.slice (some ad316) t311.length co11) t311) ∧ Aside0 (Kd.R (Kd.int .i64) 3 wc w.heap.size (fun k_ => some k_ ≠ ((.slice (some ad316) t311.length co11) : Value).ownBlock ∧ some k_ ≠ (u7 : Value).ownBlock) u4 x4_1) ∧ Aside0 (Kd.R (Kd.int .i64) 3 wc w.heap.size (fun k_ => some k_ ≠ ((.slice (some ad316) t311.length co11) : Value).ownBlock ∧ some k_ ≠ (u4 : Value).ownBlock) u7 x7_2) ∧ Aside0 (Below w.heap.size w wc))
                case first =>
                  have H := HC12.out
                  clear HC12
                  by_cases c13 : x5_2 < (t311.length : Int)
                  · rw [if_pos c13] at H
                    have c13b0 : decide (x5_2 < (t311.length : Int)) = true := decide_eq_true c13
                    clear c13
                    (first | rw [c13b0] | (simp only [i64_w, i32_w]; rw [c13b0]) | skip)
                    by_cases c14 : 0 ≤ x5_2
                    · rw [if_pos c14] at H
                      have c14b0 : decide (0 ≤ x5_2) = true := decide_eq_true c14
                      clear c14
                      replace H := Option.bind_eq_some_iff.mp H
                      obtain ⟨t324, A150, H⟩ := H
                      replace H : (bookplateref05_Compose.j2 k2 t311 x4_1 x5_2 x6_2 x7_2 (decide (t324 > 0))) = some r := H
                      have A15 := Aside0.mk A150
                      clear A150
                      have H' := Aside0.mk H
                      clear H
                      have p323 : 0 ≤ (x5_2 : Int) := of_decide_eq_true (by first | (with_reducible assumption) | assumption)
                      have q323 : x5_2 < (t311.length : Int) := of_decide_eq_true (by first | (with_reducible assumption) | assumption)
                      obtain ⟨ad323, e323, hx323_0⟩ := Kd.at_int (Kd.R_reads' HO_3.out).2.2 x5_2 p323 q323
                      obtain rfl : ad316 = ad323 := (by injection e323)
                      replace p323 := eq_true p323
                      replace q323 := eq_true q323
                      go_wp2_with (first | (go_at_call 70; (with_reducible refine (bookplateref05_class.calls k2 (rd t311 x5_2) t324 _ A15.out).mono ?_); rintro e w' ⟨rfl, ⟨nd, rfl⟩⟩; (try first | exact ⟨rfl, _, World.drewN_drewN _ _ _⟩ | exact ⟨rfl, _, Eq.trans (World.drewN_drewN _ _ _) (congrArg (World.drewN _) (Nat.add_assoc _ _ _))⟩)))
                      repeat (go_quiet (first | (go_at_call 70; (with_reducible refine (bookplateref05_class.calls k2 (rd t311 x5_2) t324 _ A15.out).mono ?_); rintro e w' ⟨rfl, ⟨nd, rfl⟩⟩; (try first | exact ⟨rfl, _, World.drewN_drewN _ _ _⟩ | exact ⟨rfl, _, Eq.trans (World.drewN_drewN _ _ _) (congrArg (World.drewN _) (Nat.add_assoc _ _ _))⟩))); try go_wp2_with (first | (go_at_call 70; (with_reducible refine (bookplateref05_class.calls k2 (rd t311 x5_2) t324 _ A15.out).mono ?_); rintro e w' ⟨rfl, ⟨nd, rfl⟩⟩; (try first | exact ⟨rfl, _, World.drewN_drewN _ _ _⟩ | exact ⟨rfl, _, Eq.trans (World.drewN_drewN _ _ _) (congrArg (World.drewN _) (Nat.add_assoc _ _ _))⟩))))
                      go_meet
                      case rel => exact ⟨_, (decide (t324 > 0)), (by first | rfl | (simp; done) | (simp [*]; done)), H', ⟨by have := HK1.out; have := HK2.out; first | omega | exact Nat.le_refl _⟩, ⟨by (with_reducible repeat (first | apply Kd.R_alloc | apply Kd.R_drewN | apply Kd.R_drew)); exact HO_3.out⟩, ⟨by (with_reducible repeat (first | apply Kd.R_alloc | apply Kd.R_drewN | apply Kd.R_drew)); exact HO_4.out⟩, ⟨by (with_reducible repeat (first | apply Kd.R_alloc | apply Kd.R_drewN | apply Kd.R_drew)); exact HO_7.out⟩, ⟨by repeat (first | (with_reducible first | exact HB.out | apply below_alloc | apply pw_below_drewN | apply below_drew1) | exact HB.out)⟩⟩
                    · rw [if_neg c14] at H
                      exact absurd H (by simp)
                  · rw [if_neg c13] at H
                    have c13b0 : decide (x5_2 < (t311.length : Int)) = false := decide_eq_false c13
                    clear c13
                    (first | rw [c13b0] | (simp only [i64_w, i32_w]; rw [c13b0]) | skip)
                    have H' := Aside0.mk H
                    clear H
                    go_wp2
                    repeat (go_quiet (fail); try go_wp2)
                    go_meet
                    case rel => exact ⟨_, (false), (by first | rfl | (simp; done) | (simp [*]; done)), H', ⟨by have := HK1.out; have := HK2.out; first | omega | exact Nat.le_refl _⟩, ⟨by (with_reducible repeat (first | apply Kd.R_alloc | apply Kd.R_drewN | apply Kd.R_drew)); exact HO_3.out⟩, ⟨by (with_reducible repeat (first | apply Kd.R_alloc | apply Kd.R_drewN | apply Kd.R_drew)); exact HO_4.out⟩, ⟨by (with_reducible repeat (first | apply Kd.R_alloc | apply Kd.R_drewN | apply Kd.R_drew)); exact HO_7.out⟩, ⟨by repeat (first | (with_reducible first | exact HB.out | apply below_alloc | apply pw_below_drewN | apply below_drew1) | exact HB.out)⟩⟩
                case rest =>
                  clear HC12
                  try clear c1
                  try clear p2
                  try clear p3
                  try clear q3
                  try clear hx3
                  try clear c4
                  try clear c4b0
                  try clear c5
                  try clear c5b0
                  try clear p6
                  try clear c7
                  try clear c7b0
                  try clear c8
                  try clear c13
                  try clear c13b0
                  try clear c14
                  try clear c14b0
                  try clear hx316_0
                  try clear hx318_0
                  try clear hx322_0
                  try clear hx323_0
                  try clear p2
                  try clear p3
                  try clear p316
                  try clear p318
                  try clear p322
                  try clear p323
                  try clear p6
                  try clear q3
                  try clear q316
                  try clear q318
                  try clear q322
                  try clear q323
                  obtain ⟨kq, x51_11, rfl, HA, HJ11, HO_3, HO_4, HO_7, HB⟩ := hcut
                  cases kq with
                  | zero => exact absurd HA.out (by simp [bookplateref05_Compose.j2])
                  | succ kj11 =>
                    have H := HA.out
                    clear HA
                    simp only [bookplateref05_Compose.j2] at H
                    by_cases c16 : x51_11 = true
                    · subst c16
                      have H1 : (bookplateref05_Compose.l2 kj11 t311 x4_1 x5_2 x6_2 x7_2 false 0) = some r := by rw [if_pos rfl] at H; exact H
                      clear H
                      have H := H1
                      clear H1
                      have H' := Aside0.mk H
                      clear H
                      go_wp2
                      repeat (go_quiet (fail); try go_wp2)
                      go_loopg [8, 9] kj11 (fun kq v8 v9 w' => ∃ (x8_4 : Bool) (x9_4 : Int), v8 = .bool x8_4 ∧ v9 = .int .i64 x9_4 ∧ Aside0 (bookplateref05_Compose.l2 kq t311 x4_1 x5_2 x6_2 x7_2 x8_4 x9_4 = some r) ∧ Aside0 (kq ≤ kj11) ∧ Aside0 (Kd.R (Kd.int .i64) 3 w' w.heap.size (fun k_ => some k_ ≠ (u4 : Value).ownBlock ∧ some k_ ≠ (u7 : Value).ownBlock) (.slice (some ad316) t311.length co11) t311) ∧ Aside0 (Kd.R (Kd.int .i64) 3 w' w.heap.size (fun k_ => some k_ ≠ ((.slice (some ad316) t311.length co11) : Value).ownBlock ∧ some k_ ≠ (u7 : Value).ownBlock) u4 x4_1) ∧ Aside0 (Kd.R (Kd.int .i64) 3 w' w.heap.size (fun k_ => some k_ ≠ ((.slice (some ad316) t311.length co11) : Value).ownBlock ∧ some k_ ≠ (u4 : Value).ownBlock) u7 x7_2) ∧ Aside0 (Below w.heap.size w w'))
                      case atStart => exact ⟨(false), (0), (by first | rfl | (simp; done) | (simp [*]; done)), (by first | rfl | (simp; done) | (simp [*]; done)), H', ⟨Nat.le_refl _⟩, ⟨by (with_reducible repeat (first | apply Kd.R_alloc | apply Kd.R_drewN | apply Kd.R_drew)); exact HO_3.out⟩, ⟨by (with_reducible repeat (first | apply Kd.R_alloc | apply Kd.R_drewN | apply Kd.R_drew)); exact HO_4.out⟩, ⟨by (with_reducible repeat (first | apply Kd.R_alloc | apply Kd.R_drewN | apply Kd.R_drew)); exact HO_7.out⟩, ⟨by repeat (first | (with_reducible first | exact HB.out | apply below_alloc | apply pw_below_drewN | apply below_drew1) | exact HB.out)⟩⟩
                      case round =>
                        clear H'
                        try clear c1
                        try clear p2
                        try clear p3
                        try clear q3
                        try clear hx3
                        try clear c4
                        try clear c4b0
                        try clear c5
                        try clear c5b0
                        try clear p6
                        try clear c7
                        try clear c7b0
                        try clear c8
                        try clear c13
                        try clear c13b0
                        try clear c14
                        try clear c14b0
                        try clear c16
                        try clear hx316_0
                        try clear hx318_0
                        try clear hx322_0
                        try clear hx323_0
                        try clear p2
                        try clear p3
                        try clear p316
                        try clear p318
                        try clear p322
                        try clear p323
                        try clear p6
                        try clear q3
                        try clear q316
                        try clear q318
                        try clear q322
                        try clear q323
                        obtain ⟨x8_4, x9_4, rfl, rfl, HA, HK4, HO_3, HO_4, HO_7, HB⟩ := hrel
                        cases gk with
                        | zero => exact absurd HA.out (by simp [bookplateref05_Compose.l2])
                        | succ k4 =>
                          have H := HA.out
                          clear HA
                          simp only [bookplateref05_Compose.l2] at H
                          by_cases c17 : x9_4 < (x7_2.length : Int)
                          · rw [if_pos c17] at H
                            have c17b0 : decide (x9_4 < (x7_2.length : Int)) = true := decide_eq_true c17
                            clear c17
                            by_cases c18 : x8_4 = true
                            · subst c18
                              have H1 : (bookplateref05_Compose.l2 k4 t311 x4_1 x5_2 x6_2 x7_2 true (wrap64 (x9_4 + 1))) = some r := by rw [if_pos rfl] at H; exact H
                              clear H
                              have H := H1
                              clear H1
                              have H' := Aside0.mk H
                              clear H
                              obtain ⟨Ao19, co19, eo19⟩ := Kd.R_slice HO_7.out
                              subst eo19
                              go_wp2
                              repeat (go_quiet (fail); try go_wp2)
                              go_roundg k4
                              case measure => have := HK1.out; have := HK2.out; have := HJ11.out; have := HK4.out; omega
                              case rel => exact ⟨(true), (wrap64 (x9_4 + 1)), (by first | rfl | (simp; done) | (simp [*]; done)), (by first | rfl | (simp; done) | (simp [*]; done)), H', ⟨by have := HK1.out; have := HK2.out; have := HJ11.out; have := HK4.out; omega⟩, ⟨by (with_reducible repeat (first | apply Kd.R_alloc | apply Kd.R_drewN | apply Kd.R_drew)); exact HO_3.out⟩, ⟨by (with_reducible repeat (first | apply Kd.R_alloc | apply Kd.R_drewN | apply Kd.R_drew)); exact HO_4.out⟩, ⟨by (with_reducible repeat (first | apply Kd.R_alloc | apply Kd.R_drewN | apply Kd.R_drew)); exact HO_7.out⟩, ⟨by repeat (first | (with_reducible first | exact HB.out | apply below_alloc | apply pw_below_drewN | apply below_drew1) | exact HB.out)⟩⟩
                            · replace c18 := Bool.eq_false_iff.mpr c18
                              subst c18
                              have H1 : (if 0 ≤ x9_4 then ((bookplateref05_class.f k4 (rd x7_2 x9_4)).bind fun t332 => (if 0 ≤ x5_2 then (if x5_2 < (t311.length : Int) then ((bookplateref05_class.f k4 (rd t311 x5_2)).bind fun t334 => (bookplateref05_Compose.l2 k4 t311 x4_1 x5_2 x6_2 x7_2 (t332 == t334) (wrap64 (x9_4 + 1)))) else (none)) else (none))) else (none)) = some r := by rw [if_neg (show ¬ (false = true) by decide)] at H; exact H
                              clear H
                              have H := H1
                              clear H1
                              by_cases c20 : 0 ≤ x9_4
                              · rw [if_pos c20] at H
                                have c20b0 : decide (0 ≤ x9_4) = true := decide_eq_true c20
                                clear c20
                                replace H := Option.bind_eq_some_iff.mp H
                                obtain ⟨t332, A210, H⟩ := H
                                replace H : (if 0 ≤ x5_2 then (if x5_2 < (t311.length : Int) then ((bookplateref05_class.f k4 (rd t311 x5_2)).bind fun t334 => (bookplateref05_Compose.l2 k4 t311 x4_1 x5_2 x6_2 x7_2 (t332 == t334) (wrap64 (x9_4 + 1)))) else (none)) else (none)) = some r := H
                                have A21 := Aside0.mk A210
                                clear A210
                                by_cases c22 : 0 ≤ x5_2
                                · rw [if_pos c22] at H
                                  have c22b0 : decide (0 ≤ x5_2) = true := decide_eq_true c22
                                  clear c22
                                  by_cases c23 : x5_2 < (t311.length : Int)
                                  · rw [if_pos c23] at H
                                    have c23b0 : decide (x5_2 < (t311.length : Int)) = true := decide_eq_true c23
                                    clear c23
                                    replace H := Option.bind_eq_some_iff.mp H
                                    obtain ⟨t334, A240, H⟩ := H
                                    replace H : (bookplateref05_Compose.l2 k4 t311 x4_1 x5_2 x6_2 x7_2 (t332 == t334) (wrap64 (x9_4 + 1))) = some r := H
                                    have A24 := Aside0.mk A240
                                    clear A240
                                    have H' := Aside0.mk H
                                    clear H
                                    obtain ⟨Ao25, co25, eo25⟩ := Kd.R_slice HO_7.out
                                    subst eo25
                                    have p331 : 0 ≤ (x9_4 : Int) := of_decide_eq_true (by first | (with_reducible assumption) | assumption)
                                    have q331 : x9_4 < (x7_2.length : Int) := of_decide_eq_true (by first | (with_reducible assumption) | assumption)
                                    obtain ⟨ad331, e331, hx331_0⟩ := Kd.at_int (Kd.R_reads' HO_7.out).2.2 x9_4 p331 q331
                                    cases e331
                                    replace p331 := eq_true p331
                                    replace q331 := eq_true q331
                                    go_wp2_with (first | (go_at_call 70; (with_reducible refine (bookplateref05_class.calls k4 (rd x7_2 x9_4) t332 _ A21.out).mono ?_); rintro e w' ⟨rfl, ⟨nd, rfl⟩⟩; (try first | exact ⟨rfl, _, World.drewN_drewN _ _ _⟩ | exact ⟨rfl, _, Eq.trans (World.drewN_drewN _ _ _) (congrArg (World.drewN _) (Nat.add_assoc _ _ _))⟩); have p333 : 0 ≤ (x5_2 : Int) := of_decide_eq_true (by first | (with_reducible assumption) | assumption); have q333 : x5_2 < (t311.length : Int) := of_decide_eq_true (by first | (with_reducible assumption) | assumption); obtain ⟨ad333, e333, hx333_0⟩ := Kd.at_int (Kd.R_reads' HO_3.out).2.2 x5_2 p333 q333; obtain rfl : ad316 = ad333 := (by injection e333); replace p333 := eq_true p333; replace q333 := eq_true q333) | (go_at_call 70; (with_reducible refine (bookplateref05_class.calls k4 (rd t311 x5_2) t334 _ A24.out).mono ?_); rintro e w' ⟨rfl, ⟨nd, rfl⟩⟩; (try first | exact ⟨rfl, _, World.drewN_drewN _ _ _⟩ | exact ⟨rfl, _, Eq.trans (World.drewN_drewN _ _ _) (congrArg (World.drewN _) (Nat.add_assoc _ _ _))⟩)))
                                    repeat (go_quiet (first | (go_at_call 70; (with_reducible refine (bookplateref05_class.calls k4 (rd x7_2 x9_4) t332 _ A21.out).mono ?_); rintro e w' ⟨rfl, ⟨nd, rfl⟩⟩; (try first | exact ⟨rfl, _, World.drewN_drewN _ _ _⟩ | exact ⟨rfl, _, Eq.trans (World.drewN_drewN _ _ _) (congrArg (World.drewN _) (Nat.add_assoc _ _ _))⟩); have p333 : 0 ≤ (x5_2 : Int) := of_decide_eq_true (by first | (with_reducible assumption) | assumption); have q333 : x5_2 < (t311.length : Int) := of_decide_eq_true (by first | (with_reducible assumption) | assumption); obtain ⟨ad333, e333, hx333_0⟩ := Kd.at_int (Kd.R_reads' HO_3.out).2.2 x5_2 p333 q333; obtain rfl : ad316 = ad333 := (by injection e333); replace p333 := eq_true p333; replace q333 := eq_true q333) | (go_at_call 70; (with_reducible refine (bookplateref05_class.calls k4 (rd t311 x5_2) t334 _ A24.out).mono ?_); rintro e w' ⟨rfl, ⟨nd, rfl⟩⟩; (try first | exact ⟨rfl, _, World.drewN_drewN _ _ _⟩ | exact ⟨rfl, _, Eq.trans (World.drewN_drewN _ _ _) (congrArg (World.drewN _) (Nat.add_assoc _ _ _))⟩))); try go_wp2_with (first | (go_at_call 70; (with_reducible refine (bookplateref05_class.calls k4 (rd x7_2 x9_4) t332 _ A21.out).mono ?_); rintro e w' ⟨rfl, ⟨nd, rfl⟩⟩; (try first | exact ⟨rfl, _, World.drewN_drewN _ _ _⟩ | exact ⟨rfl, _, Eq.trans (World.drewN_drewN _ _ _) (congrArg (World.drewN _) (Nat.add_assoc _ _ _))⟩); have p333 : 0 ≤ (x5_2 : Int) := of_decide_eq_true (by first | (with_reducible assumption) | assumption); have q333 : x5_2 < (t311.length : Int) := of_decide_eq_true (by first | (with_reducible assumption) | assumption); obtain ⟨ad333, e333, hx333_0⟩ := Kd.at_int (Kd.R_reads' HO_3.out).2.2 x5_2 p333 q333; obtain rfl : ad316 = ad333 := (by injection e333); replace p333 := eq_true p333; replace q333 := eq_true q333) | (go_at_call 70; (with_reducible refine (bookplateref05_class.calls k4 (rd t311 x5_2) t334 _ A24.out).mono ?_); rintro e w' ⟨rfl, ⟨nd, rfl⟩⟩; (try first | exact ⟨rfl, _, World.drewN_drewN _ _ _⟩ | exact ⟨rfl, _, Eq.trans (World.drewN_drewN _ _ _) (congrArg (World.drewN _) (Nat.add_assoc _ _ _))⟩))))
                                    go_roundg k4
                                    case measure => have := HK1.out; have := HK2.out; have := HJ11.out; have := HK4.out; omega
                                    case rel => exact ⟨((t332 == t334)), (wrap64 (x9_4 + 1)), (by first | rfl | (simp; done) | (simp [*]; done)), (by first | rfl | (simp; done) | (simp [*]; done)), H', ⟨by have := HK1.out; have := HK2.out; have := HJ11.out; have := HK4.out; omega⟩, ⟨by (with_reducible repeat (first | apply Kd.R_alloc | apply Kd.R_drewN | apply Kd.R_drew)); exact HO_3.out⟩, ⟨by (with_reducible repeat (first | apply Kd.R_alloc | apply Kd.R_drewN | apply Kd.R_drew)); exact HO_4.out⟩, ⟨by (with_reducible repeat (first | apply Kd.R_alloc | apply Kd.R_drewN | apply Kd.R_drew)); exact HO_7.out⟩, ⟨by repeat (first | (with_reducible first | exact HB.out | apply below_alloc | apply pw_below_drewN | apply below_drew1) | exact HB.out)⟩⟩
                                  · rw [if_neg c23] at H
                                    exact absurd H (by simp)
                                · rw [if_neg c22] at H
                                  exact absurd H (by simp)
                              · rw [if_neg c20] at H
                                exact absurd H (by simp)
                          · rw [if_neg c17] at H
                            have c17b0 : decide (x9_4 < (x7_2.length : Int)) = false := decide_eq_false c17
                            clear c17
                            by_cases c26 : 0 ≤ x5_2
                            · rw [if_pos c26] at H
                              have c26b0 : decide (0 ≤ x5_2) = true := decide_eq_true c26
                              clear c26
                              by_cases c27 : x5_2 < (t311.length : Int)
                              · rw [if_pos c27] at H
                                have c27b0 : decide (x5_2 < (t311.length : Int)) = true := decide_eq_true c27
                                clear c27
                                replace H := Option.bind_eq_some_iff.mp H
                                obtain ⟨t336, A280, H⟩ := H
                                replace H : (if t336 = 0 then (if x7_2.length < 17592186044416 then (bookplateref05_Compose.l1 k4 t311 x4_1 (wrap64 (x5_2 + 1)) x6_2 (x7_2 ++ [rd t311 x5_2])) else (none)) else (if x8_4 = true then (if x7_2.length < 17592186044416 then (bookplateref05_Compose.l1 k4 t311 x4_1 (wrap64 (x5_2 + 1)) x6_2 (x7_2 ++ [rd t311 x5_2])) else (none)) else (bookplateref05_Compose.l1 k4 t311 x4_1 (wrap64 (x5_2 + 1)) t336 x7_2))) = some r := H
                                have A28 := Aside0.mk A280
                                clear A280
                                by_cases c29 : t336 = 0
                                · rw [if_pos c29] at H
                                  have c29b0 : (t336 == 0) = true := beq_iff_eq.mpr c29
                                  have c29b1 : (t336 != 0) = false := bne_eq_false_iff_eq.mpr c29
                                  clear c29
                                  by_cases c30 : x7_2.length < 17592186044416
                                  · rw [if_pos c30] at H
                                    have LMc30 := Aside0.mk c30
                                    clear c30
                                    obtain ⟨y338, hy338⟩ : ∃ y_ : List Int, y_ = (x7_2 ++ [rd t311 x5_2]) := ⟨_, rfl⟩
                                    replace H : (bookplateref05_Compose.l1 k4 t311 x4_1 (wrap64 (x5_2 + 1)) x6_2 y338) = some r := by first | (rw [hy338]; with_reducible exact H) | (have H2_ := (Option.bind_some _ _).symm.trans H; rw [hy338]; with_reducible exact H2_) | (have H2_ := (Option.bind_some _ _).symm.trans H; with_reducible exact H2_) | with_reducible exact H | (rw [hy338]; exact H) | exact H
                                    have Ny338 := Aside0.mk hy338
                                    clear hy338
                                    have H' := Aside0.mk H
                                    clear H
                                    obtain ⟨Ao31, co31, eo31⟩ := Kd.R_slice HO_7.out
                                    subst eo31
                                    have p335 : 0 ≤ (x5_2 : Int) := of_decide_eq_true (by first | (with_reducible assumption) | assumption)
                                    have q335 : x5_2 < (t311.length : Int) := of_decide_eq_true (by first | (with_reducible assumption) | assumption)
                                    obtain ⟨ad335, e335, hx335_0⟩ := Kd.at_int (Kd.R_reads' HO_3.out).2.2 x5_2 p335 q335
                                    obtain rfl : ad316 = ad335 := (by injection e335)
                                    replace p335 := eq_true p335
                                    replace q335 := eq_true q335
                                    go_wp2_with (first | (go_at_call 71; (with_reducible refine (bookplateref05_composed.calls k4 x6_2 (rd t311 x5_2) t336 _ A28.out).mono ?_); rintro e w32 ⟨rfl, hb⟩; have n0_ := Aside0.mk (Kd.R_below (by (with_reducible repeat (first | apply Kd.R_alloc | apply Kd.R_drewN | apply Kd.R_drew)); exact HO_3.out) hb); have n1_ := Aside0.mk (Kd.R_below (by (with_reducible repeat (first | apply Kd.R_alloc | apply Kd.R_drewN | apply Kd.R_drew)); exact HO_4.out) hb); have n2_ := Aside0.mk (Kd.R_below (by (with_reducible repeat (first | apply Kd.R_alloc | apply Kd.R_drewN | apply Kd.R_drew)); exact HO_7.out) hb); have n3_ := Aside0.mk (below_step (by repeat (first | (with_reducible first | exact HB.out | apply below_alloc | apply pw_below_drewN | apply below_drew1) | exact HB.out)) hb); clear HO_3; clear HO_4; clear HO_7; clear HB; have HO_3 := n0_; have HO_4 := n1_; have HO_7 := n2_; have HB := n3_; clear n0_ n1_ n2_ n3_; (try clear hb); (try clear hb2); (try clear hk); (try clear hi); have p337 : 0 ≤ (x5_2 : Int) := of_decide_eq_true (by first | (with_reducible assumption) | assumption); have q337 : x5_2 < (t311.length : Int) := of_decide_eq_true (by first | (with_reducible assumption) | assumption); obtain ⟨ad337, e337, hx337_0⟩ := Kd.at_int (Kd.R_reads' HO_3.out).2.2 x5_2 p337 q337; obtain rfl : ad316 = ad337 := (by injection e337); replace p337 := eq_true p337; replace q337 := eq_true q337) | ((with_reducible refine gate_builtin (b := .append) (xs := #[.tmp 87, .tmp 92]) rfl ?_); at_builtin; refine Kd.R_append (Kd.int .i64) (w0 := w) w.heap.size rfl (.tmp 87) (.tmp 92) 35 3 (.int .i64 0) 8 rfl Tryd.underlying35 info3 rfl (by decide) (by omega) (.slice Ao31 x7_2.length co31) x7_2 (rd t311 x5_2) [.int .i64 (rd t311 x5_2)] (fun k_ => some k_ ≠ (.slice (some ad316) t311.length co11 : Value).ownBlock ∧ some k_ ≠ (u4 : Value).ownBlock) (fun _ => False) rfl rfl ?aP (fun _ hk => hk.elim) ?aF ?aO ?aB ?aS ?aL ?_; (case aP => exact rfl); (case aB => exact (by repeat (first | (with_reducible first | exact HB.out | apply below_alloc | apply pw_below_drewN | apply below_drew1) | exact HB.out))); (case aF => exact (fun k_ hk => ⟨Kd.fresh' (Kd.R_lt (by (with_reducible repeat (first | apply Kd.R_alloc | apply Kd.R_drewN | apply Kd.R_drew)); exact HO_3.out)) k_ hk, Kd.fresh' (Kd.R_lt (by (with_reducible repeat (first | apply Kd.R_alloc | apply Kd.R_drewN | apply Kd.R_drew)); exact HO_4.out)) k_ hk⟩)); (case aO => exact (by (with_reducible repeat (first | apply Kd.R_alloc | apply Kd.R_drewN | apply Kd.R_drew)); exact HO_7.out)); (case aS => exact (below_size (by repeat (first | (with_reducible first | exact HB.out | apply below_alloc | apply pw_below_drewN | apply below_drew1) | exact HB.out)))); (case aL => have := LMc30.out; omega); intro v339 w33 ho hb hg hat; rw [← Ny338.out] at ho; have n0_ := Aside0.mk (Kd.R_after (ok := (fun k_ => some k_ ≠ (u4 : Value).ownBlock)) (by (with_reducible repeat (first | apply Kd.R_alloc | apply Kd.R_drewN | apply Kd.R_drew)); exact HO_3.out) hg hat); have n1_ := Aside0.mk (Kd.R_after (ok := (fun k_ => some k_ ≠ (.slice (some ad316) t311.length co11 : Value).ownBlock)) (by (with_reducible repeat (first | apply Kd.R_alloc | apply Kd.R_drewN | apply Kd.R_drew)); exact HO_4.out) hg hat); have n2_ := Aside0.mk (hb); have n3_ := Aside0.mk (ho); clear HO_3; clear HO_4; clear HB; clear HO_7; have HO_3 := n0_; have HO_4 := n1_; have HB := n2_; have HO340 := n3_; clear n0_ n1_ n2_ n3_; clear ho hb hg hat))
                                    repeat (go_quiet (first | (go_at_call 71; (with_reducible refine (bookplateref05_composed.calls k4 x6_2 (rd t311 x5_2) t336 _ A28.out).mono ?_); rintro e w32 ⟨rfl, hb⟩; have n0_ := Aside0.mk (Kd.R_below (by (with_reducible repeat (first | apply Kd.R_alloc | apply Kd.R_drewN | apply Kd.R_drew)); exact HO_3.out) hb); have n1_ := Aside0.mk (Kd.R_below (by (with_reducible repeat (first | apply Kd.R_alloc | apply Kd.R_drewN | apply Kd.R_drew)); exact HO_4.out) hb); have n2_ := Aside0.mk (Kd.R_below (by (with_reducible repeat (first | apply Kd.R_alloc | apply Kd.R_drewN | apply Kd.R_drew)); exact HO_7.out) hb); have n3_ := Aside0.mk (below_step (by repeat (first | (with_reducible first | exact HB.out | apply below_alloc | apply pw_below_drewN | apply below_drew1) | exact HB.out)) hb); clear HO_3; clear HO_4; clear HO_7; clear HB; have HO_3 := n0_; have HO_4 := n1_; have HO_7 := n2_; have HB := n3_; clear n0_ n1_ n2_ n3_; (try clear hb); (try clear hb2); (try clear hk); (try clear hi); have p337 : 0 ≤ (x5_2 : Int) := of_decide_eq_true (by first | (with_reducible assumption) | assumption); have q337 : x5_2 < (t311.length : Int) := of_decide_eq_true (by first | (with_reducible assumption) | assumption); obtain ⟨ad337, e337, hx337_0⟩ := Kd.at_int (Kd.R_reads' HO_3.out).2.2 x5_2 p337 q337; obtain rfl : ad316 = ad337 := (by injection e337); replace p337 := eq_true p337; replace q337 := eq_true q337) | ((with_reducible refine gate_builtin (b := .append) (xs := #[.tmp 87, .tmp 92]) rfl ?_); at_builtin; refine Kd.R_append (Kd.int .i64) (w0 := w) w.heap.size rfl (.tmp 87) (.tmp 92) 35 3 (.int .i64 0) 8 rfl Tryd.underlying35 info3 rfl (by decide) (by omega) (.slice Ao31 x7_2.length co31) x7_2 (rd t311 x5_2) [.int .i64 (rd t311 x5_2)] (fun k_ => some k_ ≠ (.slice (some ad316) t311.length co11 : Value).ownBlock ∧ some k_ ≠ (u4 : Value).ownBlock) (fun _ => False) rfl rfl ?aP (fun _ hk => hk.elim) ?aF ?aO ?aB ?aS ?aL ?_; (case aP => exact rfl); (case aB => exact (by repeat (first | (with_reducible first | exact HB.out | apply below_alloc | apply pw_below_drewN | apply below_drew1) | exact HB.out))); (case aF => exact (fun k_ hk => ⟨Kd.fresh' (Kd.R_lt (by (with_reducible repeat (first | apply Kd.R_alloc | apply Kd.R_drewN | apply Kd.R_drew)); exact HO_3.out)) k_ hk, Kd.fresh' (Kd.R_lt (by (with_reducible repeat (first | apply Kd.R_alloc | apply Kd.R_drewN | apply Kd.R_drew)); exact HO_4.out)) k_ hk⟩)); (case aO => exact (by (with_reducible repeat (first | apply Kd.R_alloc | apply Kd.R_drewN | apply Kd.R_drew)); exact HO_7.out)); (case aS => exact (below_size (by repeat (first | (with_reducible first | exact HB.out | apply below_alloc | apply pw_below_drewN | apply below_drew1) | exact HB.out)))); (case aL => have := LMc30.out; omega); intro v339 w33 ho hb hg hat; rw [← Ny338.out] at ho; have n0_ := Aside0.mk (Kd.R_after (ok := (fun k_ => some k_ ≠ (u4 : Value).ownBlock)) (by (with_reducible repeat (first | apply Kd.R_alloc | apply Kd.R_drewN | apply Kd.R_drew)); exact HO_3.out) hg hat); have n1_ := Aside0.mk (Kd.R_after (ok := (fun k_ => some k_ ≠ (.slice (some ad316) t311.length co11 : Value).ownBlock)) (by (with_reducible repeat (first | apply Kd.R_alloc | apply Kd.R_drewN | apply Kd.R_drew)); exact HO_4.out) hg hat); have n2_ := Aside0.mk (hb); have n3_ := Aside0.mk (ho); clear HO_3; clear HO_4; clear HB; clear HO_7; have HO_3 := n0_; have HO_4 := n1_; have HB := n2_; have HO340 := n3_; clear n0_ n1_ n2_ n3_; clear ho hb hg hat)); try go_wp2_with (first | (go_at_call 71; (with_reducible refine (bookplateref05_composed.calls k4 x6_2 (rd t311 x5_2) t336 _ A28.out).mono ?_); rintro e w32 ⟨rfl, hb⟩; have n0_ := Aside0.mk (Kd.R_below (by (with_reducible repeat (first | apply Kd.R_alloc | apply Kd.R_drewN | apply Kd.R_drew)); exact HO_3.out) hb); have n1_ := Aside0.mk (Kd.R_below (by (with_reducible repeat (first | apply Kd.R_alloc | apply Kd.R_drewN | apply Kd.R_drew)); exact HO_4.out) hb); have n2_ := Aside0.mk (Kd.R_below (by (with_reducible repeat (first | apply Kd.R_alloc | apply Kd.R_drewN | apply Kd.R_drew)); exact HO_7.out) hb); have n3_ := Aside0.mk (below_step (by repeat (first | (with_reducible first | exact HB.out | apply below_alloc | apply pw_below_drewN | apply below_drew1) | exact HB.out)) hb); clear HO_3; clear HO_4; clear HO_7; clear HB; have HO_3 := n0_; have HO_4 := n1_; have HO_7 := n2_; have HB := n3_; clear n0_ n1_ n2_ n3_; (try clear hb); (try clear hb2); (try clear hk); (try clear hi); have p337 : 0 ≤ (x5_2 : Int) := of_decide_eq_true (by first | (with_reducible assumption) | assumption); have q337 : x5_2 < (t311.length : Int) := of_decide_eq_true (by first | (with_reducible assumption) | assumption); obtain ⟨ad337, e337, hx337_0⟩ := Kd.at_int (Kd.R_reads' HO_3.out).2.2 x5_2 p337 q337; obtain rfl : ad316 = ad337 := (by injection e337); replace p337 := eq_true p337; replace q337 := eq_true q337) | ((with_reducible refine gate_builtin (b := .append) (xs := #[.tmp 87, .tmp 92]) rfl ?_); at_builtin; refine Kd.R_append (Kd.int .i64) (w0 := w) w.heap.size rfl (.tmp 87) (.tmp 92) 35 3 (.int .i64 0) 8 rfl Tryd.underlying35 info3 rfl (by decide) (by omega) (.slice Ao31 x7_2.length co31) x7_2 (rd t311 x5_2) [.int .i64 (rd t311 x5_2)] (fun k_ => some k_ ≠ (.slice (some ad316) t311.length co11 : Value).ownBlock ∧ some k_ ≠ (u4 : Value).ownBlock) (fun _ => False) rfl rfl ?aP (fun _ hk => hk.elim) ?aF ?aO ?aB ?aS ?aL ?_; (case aP => exact rfl); (case aB => exact (by repeat (first | (with_reducible first | exact HB.out | apply below_alloc | apply pw_below_drewN | apply below_drew1) | exact HB.out))); (case aF => exact (fun k_ hk => ⟨Kd.fresh' (Kd.R_lt (by (with_reducible repeat (first | apply Kd.R_alloc | apply Kd.R_drewN | apply Kd.R_drew)); exact HO_3.out)) k_ hk, Kd.fresh' (Kd.R_lt (by (with_reducible repeat (first | apply Kd.R_alloc | apply Kd.R_drewN | apply Kd.R_drew)); exact HO_4.out)) k_ hk⟩)); (case aO => exact (by (with_reducible repeat (first | apply Kd.R_alloc | apply Kd.R_drewN | apply Kd.R_drew)); exact HO_7.out)); (case aS => exact (below_size (by repeat (first | (with_reducible first | exact HB.out | apply below_alloc | apply pw_below_drewN | apply below_drew1) | exact HB.out)))); (case aL => have := LMc30.out; omega); intro v339 w33 ho hb hg hat; rw [← Ny338.out] at ho; have n0_ := Aside0.mk (Kd.R_after (ok := (fun k_ => some k_ ≠ (u4 : Value).ownBlock)) (by (with_reducible repeat (first | apply Kd.R_alloc | apply Kd.R_drewN | apply Kd.R_drew)); exact HO_3.out) hg hat); have n1_ := Aside0.mk (Kd.R_after (ok := (fun k_ => some k_ ≠ (.slice (some ad316) t311.length co11 : Value).ownBlock)) (by (with_reducible repeat (first | apply Kd.R_alloc | apply Kd.R_drewN | apply Kd.R_drew)); exact HO_4.out) hg hat); have n2_ := Aside0.mk (hb); have n3_ := Aside0.mk (ho); clear HO_3; clear HO_4; clear HB; clear HO_7; have HO_3 := n0_; have HO_4 := n1_; have HB := n2_; have HO340 := n3_; clear n0_ n1_ n2_ n3_; clear ho hb hg hat)))
                                    go_roundg k4
                                    case measure => have := HK1.out; have := HK2.out; have := HJ11.out; have := HK4.out; omega
                                    case rel => exact ⟨(wrap64 (x5_2 + 1)), (x6_2), (y338), (by first | rfl | (simp; done) | (simp [*]; done)), (by first | rfl | (simp; done) | (simp [*]; done)), H', ⟨by have := HK1.out; have := HK2.out; have := HJ11.out; have := HK4.out; omega⟩, ⟨by (with_reducible repeat (first | apply Kd.R_alloc | apply Kd.R_drewN | apply Kd.R_drew)); exact HO_3.out⟩, ⟨by (with_reducible repeat (first | apply Kd.R_alloc | apply Kd.R_drewN | apply Kd.R_drew)); exact HO_4.out⟩, ⟨by (with_reducible repeat (first | apply Kd.R_alloc | apply Kd.R_drewN | apply Kd.R_drew)); exact HO340.out⟩, ⟨by repeat (first | (with_reducible first | exact HB.out | apply below_alloc | apply pw_below_drewN | apply below_drew1) | exact HB.out)⟩⟩
                                  · rw [if_neg c30] at H
                                    exact absurd H (by simp)
                                · rw [if_neg c29] at H
                                  have c29b0 : (t336 == 0) = false := beq_eq_false_iff_ne.mpr c29
                                  have c29b1 : (t336 != 0) = true := bne_iff_ne.mpr c29
                                  by_cases c34 : x8_4 = true
                                  · subst c34
                                    have H1 : (if x7_2.length < 17592186044416 then (bookplateref05_Compose.l1 k4 t311 x4_1 (wrap64 (x5_2 + 1)) x6_2 (x7_2 ++ [rd t311 x5_2])) else (none)) = some r := by rw [if_pos rfl] at H; exact H
                                    clear H
                                    have H := H1
                                    clear H1
                                    by_cases c35 : x7_2.length < 17592186044416
                                    · rw [if_pos c35] at H
                                      have LMc35 := Aside0.mk c35
                                      clear c35
                                      obtain ⟨y342, hy342⟩ : ∃ y_ : List Int, y_ = (x7_2 ++ [rd t311 x5_2]) := ⟨_, rfl⟩
                                      replace H : (bookplateref05_Compose.l1 k4 t311 x4_1 (wrap64 (x5_2 + 1)) x6_2 y342) = some r := by first | (rw [hy342]; with_reducible exact H) | (have H2_ := (Option.bind_some _ _).symm.trans H; rw [hy342]; with_reducible exact H2_) | (have H2_ := (Option.bind_some _ _).symm.trans H; with_reducible exact H2_) | with_reducible exact H | (rw [hy342]; exact H) | exact H
                                      have Ny342 := Aside0.mk hy342
                                      clear hy342
                                      have H' := Aside0.mk H
                                      clear H
                                      obtain ⟨Ao36, co36, eo36⟩ := Kd.R_slice HO_7.out
                                      subst eo36
                                      have p335 : 0 ≤ (x5_2 : Int) := of_decide_eq_true (by first | (with_reducible assumption) | assumption)
                                      have q335 : x5_2 < (t311.length : Int) := of_decide_eq_true (by first | (with_reducible assumption) | assumption)
                                      obtain ⟨ad335, e335, hx335_0⟩ := Kd.at_int (Kd.R_reads' HO_3.out).2.2 x5_2 p335 q335
                                      obtain rfl : ad316 = ad335 := (by injection e335)
                                      replace p335 := eq_true p335
                                      replace q335 := eq_true q335
                                      go_wp2_with (first | (go_at_call 71; (with_reducible refine (bookplateref05_composed.calls k4 x6_2 (rd t311 x5_2) t336 _ A28.out).mono ?_); rintro e w37 ⟨rfl, hb⟩; have n0_ := Aside0.mk (Kd.R_below (by (with_reducible repeat (first | apply Kd.R_alloc | apply Kd.R_drewN | apply Kd.R_drew)); exact HO_3.out) hb); have n1_ := Aside0.mk (Kd.R_below (by (with_reducible repeat (first | apply Kd.R_alloc | apply Kd.R_drewN | apply Kd.R_drew)); exact HO_4.out) hb); have n2_ := Aside0.mk (Kd.R_below (by (with_reducible repeat (first | apply Kd.R_alloc | apply Kd.R_drewN | apply Kd.R_drew)); exact HO_7.out) hb); have n3_ := Aside0.mk (below_step (by repeat (first | (with_reducible first | exact HB.out | apply below_alloc | apply pw_below_drewN | apply below_drew1) | exact HB.out)) hb); clear HO_3; clear HO_4; clear HO_7; clear HB; have HO_3 := n0_; have HO_4 := n1_; have HO_7 := n2_; have HB := n3_; clear n0_ n1_ n2_ n3_; (try clear hb); (try clear hb2); (try clear hk); (try clear hi); have p341 : 0 ≤ (x5_2 : Int) := of_decide_eq_true (by first | (with_reducible assumption) | assumption); have q341 : x5_2 < (t311.length : Int) := of_decide_eq_true (by first | (with_reducible assumption) | assumption); obtain ⟨ad341, e341, hx341_0⟩ := Kd.at_int (Kd.R_reads' HO_3.out).2.2 x5_2 p341 q341; obtain rfl : ad316 = ad341 := (by injection e341); replace p341 := eq_true p341; replace q341 := eq_true q341) | ((with_reducible refine gate_builtin (b := .append) (xs := #[.tmp 87, .tmp 92]) rfl ?_); at_builtin; refine Kd.R_append (Kd.int .i64) (w0 := w) w.heap.size rfl (.tmp 87) (.tmp 92) 35 3 (.int .i64 0) 8 rfl Tryd.underlying35 info3 rfl (by decide) (by omega) (.slice Ao36 x7_2.length co36) x7_2 (rd t311 x5_2) [.int .i64 (rd t311 x5_2)] (fun k_ => some k_ ≠ (.slice (some ad316) t311.length co11 : Value).ownBlock ∧ some k_ ≠ (u4 : Value).ownBlock) (fun _ => False) rfl rfl ?aP (fun _ hk => hk.elim) ?aF ?aO ?aB ?aS ?aL ?_; (case aP => exact rfl); (case aB => exact (by repeat (first | (with_reducible first | exact HB.out | apply below_alloc | apply pw_below_drewN | apply below_drew1) | exact HB.out))); (case aF => exact (fun k_ hk => ⟨Kd.fresh' (Kd.R_lt (by (with_reducible repeat (first | apply Kd.R_alloc | apply Kd.R_drewN | apply Kd.R_drew)); exact HO_3.out)) k_ hk, Kd.fresh' (Kd.R_lt (by (with_reducible repeat (first | apply Kd.R_alloc | apply Kd.R_drewN | apply Kd.R_drew)); exact HO_4.out)) k_ hk⟩)); (case aO => exact (by (with_reducible repeat (first | apply Kd.R_alloc | apply Kd.R_drewN | apply Kd.R_drew)); exact HO_7.out)); (case aS => exact (below_size (by repeat (first | (with_reducible first | exact HB.out | apply below_alloc | apply pw_below_drewN | apply below_drew1) | exact HB.out)))); (case aL => have := LMc35.out; omega); intro v343 w38 ho hb hg hat; rw [← Ny342.out] at ho; have n0_ := Aside0.mk (Kd.R_after (ok := (fun k_ => some k_ ≠ (u4 : Value).ownBlock)) (by (with_reducible repeat (first | apply Kd.R_alloc | apply Kd.R_drewN | apply Kd.R_drew)); exact HO_3.out) hg hat); have n1_ := Aside0.mk (Kd.R_after (ok := (fun k_ => some k_ ≠ (.slice (some ad316) t311.length co11 : Value).ownBlock)) (by (with_reducible repeat (first | apply Kd.R_alloc | apply Kd.R_drewN | apply Kd.R_drew)); exact HO_4.out) hg hat); have n2_ := Aside0.mk (hb); have n3_ := Aside0.mk (ho); clear HO_3; clear HO_4; clear HB; clear HO_7; have HO_3 := n0_; have HO_4 := n1_; have HB := n2_; have HO344 := n3_; clear n0_ n1_ n2_ n3_; clear ho hb hg hat))
                                      repeat (go_quiet (first | (go_at_call 71; (with_reducible refine (bookplateref05_composed.calls k4 x6_2 (rd t311 x5_2) t336 _ A28.out).mono ?_); rintro e w37 ⟨rfl, hb⟩; have n0_ := Aside0.mk (Kd.R_below (by (with_reducible repeat (first | apply Kd.R_alloc | apply Kd.R_drewN | apply Kd.R_drew)); exact HO_3.out) hb); have n1_ := Aside0.mk (Kd.R_below (by (with_reducible repeat (first | apply Kd.R_alloc | apply Kd.R_drewN | apply Kd.R_drew)); exact HO_4.out) hb); have n2_ := Aside0.mk (Kd.R_below (by (with_reducible repeat (first | apply Kd.R_alloc | apply Kd.R_drewN | apply Kd.R_drew)); exact HO_7.out) hb); have n3_ := Aside0.mk (below_step (by repeat (first | (with_reducible first | exact HB.out | apply below_alloc | apply pw_below_drewN | apply below_drew1) | exact HB.out)) hb); clear HO_3; clear HO_4; clear HO_7; clear HB; have HO_3 := n0_; have HO_4 := n1_; have HO_7 := n2_; have HB := n3_; clear n0_ n1_ n2_ n3_; (try clear hb); (try clear hb2); (try clear hk); (try clear hi); have p341 : 0 ≤ (x5_2 : Int) := of_decide_eq_true (by first | (with_reducible assumption) | assumption); have q341 : x5_2 < (t311.length : Int) := of_decide_eq_true (by first | (with_reducible assumption) | assumption); obtain ⟨ad341, e341, hx341_0⟩ := Kd.at_int (Kd.R_reads' HO_3.out).2.2 x5_2 p341 q341; obtain rfl : ad316 = ad341 := (by injection e341); replace p341 := eq_true p341; replace q341 := eq_true q341) | ((with_reducible refine gate_builtin (b := .append) (xs := #[.tmp 87, .tmp 92]) rfl ?_); at_builtin; refine Kd.R_append (Kd.int .i64) (w0 := w) w.heap.size rfl (.tmp 87) (.tmp 92) 35 3 (.int .i64 0) 8 rfl Tryd.underlying35 info3 rfl (by decide) (by omega) (.slice Ao36 x7_2.length co36) x7_2 (rd t311 x5_2) [.int .i64 (rd t311 x5_2)] (fun k_ => some k_ ≠ (.slice (some ad316) t311.length co11 : Value).ownBlock ∧ some k_ ≠ (u4 : Value).ownBlock) (fun _ => False) rfl rfl ?aP (fun _ hk => hk.elim) ?aF ?aO ?aB ?aS ?aL ?_; (case aP => exact rfl); (case aB => exact (by repeat (first | (with_reducible first | exact HB.out | apply below_alloc | apply pw_below_drewN | apply below_drew1) | exact HB.out))); (case aF => exact (fun k_ hk => ⟨Kd.fresh' (Kd.R_lt (by (with_reducible repeat (first | apply Kd.R_alloc | apply Kd.R_drewN | apply Kd.R_drew)); exact HO_3.out)) k_ hk, Kd.fresh' (Kd.R_lt (by (with_reducible repeat (first | apply Kd.R_alloc | apply Kd.R_drewN | apply Kd.R_drew)); exact HO_4.out)) k_ hk⟩)); (case aO => exact (by (with_reducible repeat (first | apply Kd.R_alloc | apply Kd.R_drewN | apply Kd.R_drew)); exact HO_7.out)); (case aS => exact (below_size (by repeat (first | (with_reducible first | exact HB.out | apply below_alloc | apply pw_below_drewN | apply below_drew1) | exact HB.out)))); (case aL => have := LMc35.out; omega); intro v343 w38 ho hb hg hat; rw [← Ny342.out] at ho; have n0_ := Aside0.mk (Kd.R_after (ok := (fun k_ => some k_ ≠ (u4 : Value).ownBlock)) (by (with_reducible repeat (first | apply Kd.R_alloc | apply Kd.R_drewN | apply Kd.R_drew)); exact HO_3.out) hg hat); have n1_ := Aside0.mk (Kd.R_after (ok := (fun k_ => some k_ ≠ (.slice (some ad316) t311.length co11 : Value).ownBlock)) (by (with_reducible repeat (first | apply Kd.R_alloc | apply Kd.R_drewN | apply Kd.R_drew)); exact HO_4.out) hg hat); have n2_ := Aside0.mk (hb); have n3_ := Aside0.mk (ho); clear HO_3; clear HO_4; clear HB; clear HO_7; have HO_3 := n0_; have HO_4 := n1_; have HB := n2_; have HO344 := n3_; clear n0_ n1_ n2_ n3_; clear ho hb hg hat)); try go_wp2_with (first | (go_at_call 71; (with_reducible refine (bookplateref05_composed.calls k4 x6_2 (rd t311 x5_2) t336 _ A28.out).mono ?_); rintro e w37 ⟨rfl, hb⟩; have n0_ := Aside0.mk (Kd.R_below (by (with_reducible repeat (first | apply Kd.R_alloc | apply Kd.R_drewN | apply Kd.R_drew)); exact HO_3.out) hb); have n1_ := Aside0.mk (Kd.R_below (by (with_reducible repeat (first | apply Kd.R_alloc | apply Kd.R_drewN | apply Kd.R_drew)); exact HO_4.out) hb); have n2_ := Aside0.mk (Kd.R_below (by (with_reducible repeat (first | apply Kd.R_alloc | apply Kd.R_drewN | apply Kd.R_drew)); exact HO_7.out) hb); have n3_ := Aside0.mk (below_step (by repeat (first | (with_reducible first | exact HB.out | apply below_alloc | apply pw_below_drewN | apply below_drew1) | exact HB.out)) hb); clear HO_3; clear HO_4; clear HO_7; clear HB; have HO_3 := n0_; have HO_4 := n1_; have HO_7 := n2_; have HB := n3_; clear n0_ n1_ n2_ n3_; (try clear hb); (try clear hb2); (try clear hk); (try clear hi); have p341 : 0 ≤ (x5_2 : Int) := of_decide_eq_true (by first | (with_reducible assumption) | assumption); have q341 : x5_2 < (t311.length : Int) := of_decide_eq_true (by first | (with_reducible assumption) | assumption); obtain ⟨ad341, e341, hx341_0⟩ := Kd.at_int (Kd.R_reads' HO_3.out).2.2 x5_2 p341 q341; obtain rfl : ad316 = ad341 := (by injection e341); replace p341 := eq_true p341; replace q341 := eq_true q341) | ((with_reducible refine gate_builtin (b := .append) (xs := #[.tmp 87, .tmp 92]) rfl ?_); at_builtin; refine Kd.R_append (Kd.int .i64) (w0 := w) w.heap.size rfl (.tmp 87) (.tmp 92) 35 3 (.int .i64 0) 8 rfl Tryd.underlying35 info3 rfl (by decide) (by omega) (.slice Ao36 x7_2.length co36) x7_2 (rd t311 x5_2) [.int .i64 (rd t311 x5_2)] (fun k_ => some k_ ≠ (.slice (some ad316) t311.length co11 : Value).ownBlock ∧ some k_ ≠ (u4 : Value).ownBlock) (fun _ => False) rfl rfl ?aP (fun _ hk => hk.elim) ?aF ?aO ?aB ?aS ?aL ?_; (case aP => exact rfl); (case aB => exact (by repeat (first | (with_reducible first | exact HB.out | apply below_alloc | apply pw_below_drewN | apply below_drew1) | exact HB.out))); (case aF => exact (fun k_ hk => ⟨Kd.fresh' (Kd.R_lt (by (with_reducible repeat (first | apply Kd.R_alloc | apply Kd.R_drewN | apply Kd.R_drew)); exact HO_3.out)) k_ hk, Kd.fresh' (Kd.R_lt (by (with_reducible repeat (first | apply Kd.R_alloc | apply Kd.R_drewN | apply Kd.R_drew)); exact HO_4.out)) k_ hk⟩)); (case aO => exact (by (with_reducible repeat (first | apply Kd.R_alloc | apply Kd.R_drewN | apply Kd.R_drew)); exact HO_7.out)); (case aS => exact (below_size (by repeat (first | (with_reducible first | exact HB.out | apply below_alloc | apply pw_below_drewN | apply below_drew1) | exact HB.out)))); (case aL => have := LMc35.out; omega); intro v343 w38 ho hb hg hat; rw [← Ny342.out] at ho; have n0_ := Aside0.mk (Kd.R_after (ok := (fun k_ => some k_ ≠ (u4 : Value).ownBlock)) (by (with_reducible repeat (first | apply Kd.R_alloc | apply Kd.R_drewN | apply Kd.R_drew)); exact HO_3.out) hg hat); have n1_ := Aside0.mk (Kd.R_after (ok := (fun k_ => some k_ ≠ (.slice (some ad316) t311.length co11 : Value).ownBlock)) (by (with_reducible repeat (first | apply Kd.R_alloc | apply Kd.R_drewN | apply Kd.R_drew)); exact HO_4.out) hg hat); have n2_ := Aside0.mk (hb); have n3_ := Aside0.mk (ho); clear HO_3; clear HO_4; clear HB; clear HO_7; have HO_3 := n0_; have HO_4 := n1_; have HB := n2_; have HO344 := n3_; clear n0_ n1_ n2_ n3_; clear ho hb hg hat)))
                                      go_roundg k4
                                      case measure => have := HK1.out; have := HK2.out; have := HJ11.out; have := HK4.out; omega
                                      case rel => exact ⟨(wrap64 (x5_2 + 1)), (x6_2), (y342), (by first | rfl | (simp; done) | (simp [*]; done)), (by first | rfl | (simp; done) | (simp [*]; done)), H', ⟨by have := HK1.out; have := HK2.out; have := HJ11.out; have := HK4.out; omega⟩, ⟨by (with_reducible repeat (first | apply Kd.R_alloc | apply Kd.R_drewN | apply Kd.R_drew)); exact HO_3.out⟩, ⟨by (with_reducible repeat (first | apply Kd.R_alloc | apply Kd.R_drewN | apply Kd.R_drew)); exact HO_4.out⟩, ⟨by (with_reducible repeat (first | apply Kd.R_alloc | apply Kd.R_drewN | apply Kd.R_drew)); exact HO344.out⟩, ⟨by repeat (first | (with_reducible first | exact HB.out | apply below_alloc | apply pw_below_drewN | apply below_drew1) | exact HB.out)⟩⟩
                                    · rw [if_neg c35] at H
                                      exact absurd H (by simp)
                                  · replace c34 := Bool.eq_false_iff.mpr c34
                                    subst c34
                                    have H1 : (bookplateref05_Compose.l1 k4 t311 x4_1 (wrap64 (x5_2 + 1)) t336 x7_2) = some r := by rw [if_neg (show ¬ (false = true) by decide)] at H; exact H
                                    clear H
                                    have H := H1
                                    clear H1
                                    have H' := Aside0.mk H
                                    clear H
                                    obtain ⟨Ao39, co39, eo39⟩ := Kd.R_slice HO_7.out
                                    subst eo39
                                    have p335 : 0 ≤ (x5_2 : Int) := of_decide_eq_true (by first | (with_reducible assumption) | assumption)
                                    have q335 : x5_2 < (t311.length : Int) := of_decide_eq_true (by first | (with_reducible assumption) | assumption)
                                    obtain ⟨ad335, e335, hx335_0⟩ := Kd.at_int (Kd.R_reads' HO_3.out).2.2 x5_2 p335 q335
                                    obtain rfl : ad316 = ad335 := (by injection e335)
                                    replace p335 := eq_true p335
                                    replace q335 := eq_true q335
                                    go_wp2_with (first | (go_at_call 71; (with_reducible refine (bookplateref05_composed.calls k4 x6_2 (rd t311 x5_2) t336 _ A28.out).mono ?_); rintro e w40 ⟨rfl, hb⟩; have n0_ := Aside0.mk (Kd.R_below (by (with_reducible repeat (first | apply Kd.R_alloc | apply Kd.R_drewN | apply Kd.R_drew)); exact HO_3.out) hb); have n1_ := Aside0.mk (Kd.R_below (by (with_reducible repeat (first | apply Kd.R_alloc | apply Kd.R_drewN | apply Kd.R_drew)); exact HO_4.out) hb); have n2_ := Aside0.mk (Kd.R_below (by (with_reducible repeat (first | apply Kd.R_alloc | apply Kd.R_drewN | apply Kd.R_drew)); exact HO_7.out) hb); have n3_ := Aside0.mk (below_step (by repeat (first | (with_reducible first | exact HB.out | apply below_alloc | apply pw_below_drewN | apply below_drew1) | exact HB.out)) hb); clear HO_3; clear HO_4; clear HO_7; clear HB; have HO_3 := n0_; have HO_4 := n1_; have HO_7 := n2_; have HB := n3_; clear n0_ n1_ n2_ n3_; (try clear hb); (try clear hb2); (try clear hk); (try clear hi)))
                                    repeat (go_quiet (first | (go_at_call 71; (with_reducible refine (bookplateref05_composed.calls k4 x6_2 (rd t311 x5_2) t336 _ A28.out).mono ?_); rintro e w40 ⟨rfl, hb⟩; have n0_ := Aside0.mk (Kd.R_below (by (with_reducible repeat (first | apply Kd.R_alloc | apply Kd.R_drewN | apply Kd.R_drew)); exact HO_3.out) hb); have n1_ := Aside0.mk (Kd.R_below (by (with_reducible repeat (first | apply Kd.R_alloc | apply Kd.R_drewN | apply Kd.R_drew)); exact HO_4.out) hb); have n2_ := Aside0.mk (Kd.R_below (by (with_reducible repeat (first | apply Kd.R_alloc | apply Kd.R_drewN | apply Kd.R_drew)); exact HO_7.out) hb); have n3_ := Aside0.mk (below_step (by repeat (first | (with_reducible first | exact HB.out | apply below_alloc | apply pw_below_drewN | apply below_drew1) | exact HB.out)) hb); clear HO_3; clear HO_4; clear HO_7; clear HB; have HO_3 := n0_; have HO_4 := n1_; have HO_7 := n2_; have HB := n3_; clear n0_ n1_ n2_ n3_; (try clear hb); (try clear hb2); (try clear hk); (try clear hi))); try go_wp2_with (first | (go_at_call 71; (with_reducible refine (bookplateref05_composed.calls k4 x6_2 (rd t311 x5_2) t336 _ A28.out).mono ?_); rintro e w40 ⟨rfl, hb⟩; have n0_ := Aside0.mk (Kd.R_below (by (with_reducible repeat (first | apply Kd.R_alloc | apply Kd.R_drewN | apply Kd.R_drew)); exact HO_3.out) hb); have n1_ := Aside0.mk (Kd.R_below (by (with_reducible repeat (first | apply Kd.R_alloc | apply Kd.R_drewN | apply Kd.R_drew)); exact HO_4.out) hb); have n2_ := Aside0.mk (Kd.R_below (by (with_reducible repeat (first | apply Kd.R_alloc | apply Kd.R_drewN | apply Kd.R_drew)); exact HO_7.out) hb); have n3_ := Aside0.mk (below_step (by repeat (first | (with_reducible first | exact HB.out | apply below_alloc | apply pw_below_drewN | apply below_drew1) | exact HB.out)) hb); clear HO_3; clear HO_4; clear HO_7; clear HB; have HO_3 := n0_; have HO_4 := n1_; have HO_7 := n2_; have HB := n3_; clear n0_ n1_ n2_ n3_; (try clear hb); (try clear hb2); (try clear hk); (try clear hi))))
                                    go_roundg k4
                                    case measure => have := HK1.out; have := HK2.out; have := HJ11.out; have := HK4.out; omega
                                    case rel => exact ⟨(wrap64 (x5_2 + 1)), (t336), (x7_2), (by first | rfl | (simp; done) | (simp [*]; done)), (by first | rfl | (simp; done) | (simp [*]; done)), H', ⟨by have := HK1.out; have := HK2.out; have := HJ11.out; have := HK4.out; omega⟩, ⟨by (with_reducible repeat (first | apply Kd.R_alloc | apply Kd.R_drewN | apply Kd.R_drew)); exact HO_3.out⟩, ⟨by (with_reducible repeat (first | apply Kd.R_alloc | apply Kd.R_drewN | apply Kd.R_drew)); exact HO_4.out⟩, ⟨by (with_reducible repeat (first | apply Kd.R_alloc | apply Kd.R_drewN | apply Kd.R_drew)); exact HO_7.out⟩, ⟨by repeat (first | (with_reducible first | exact HB.out | apply below_alloc | apply pw_below_drewN | apply below_drew1) | exact HB.out)⟩⟩
                              · rw [if_neg c27] at H
                                exact absurd H (by simp)
                            · rw [if_neg c26] at H
                              exact absurd H (by simp)
                    · replace c16 := Bool.eq_false_iff.mpr c16
                      subst c16
                      have H1 : (if x4_1.length < 17592186044416 then ((some (x4_1 ++ [x6_2] : List Int)).bind fun y325 => (if y325.length + x7_2.length < 17592186044416 then (bookplateref05_Compose.l0 kj11 t311 (y325 ++ x7_2) x5_2) else (none))) else (none)) = some r := by rw [if_neg (show ¬ (false = true) by decide)] at H; exact H
                      clear H
                      have H := H1
                      clear H1
                      by_cases c41 : x4_1.length < 17592186044416
                      · rw [if_pos c41] at H
                        have LMc41 := Aside0.mk c41
                        clear c41
                        obtain ⟨y325, hy325⟩ : ∃ y_ : List Int, y_ = (x4_1 ++ [x6_2]) := ⟨_, rfl⟩
                        replace H : (if y325.length + x7_2.length < 17592186044416 then (bookplateref05_Compose.l0 kj11 t311 (y325 ++ x7_2) x5_2) else (none)) = some r := by first | (rw [hy325]; with_reducible exact H) | (have H2_ := (Option.bind_some _ _).symm.trans H; rw [hy325]; with_reducible exact H2_) | (have H2_ := (Option.bind_some _ _).symm.trans H; with_reducible exact H2_) | with_reducible exact H | (rw [hy325]; exact H) | exact H
                        have Ny325 := Aside0.mk hy325
                        clear hy325
                        by_cases c42 : y325.length + x7_2.length < 17592186044416
                        · rw [if_pos c42] at H
                          have LMc42 := Aside0.mk c42
                          clear c42
                          obtain ⟨y328, hy328⟩ : ∃ y_ : List Int, y_ = (y325 ++ x7_2) := ⟨_, rfl⟩
                          replace H : (bookplateref05_Compose.l0 kj11 t311 y328 x5_2) = some r := by first | (rw [hy328]; with_reducible exact H) | (have H2_ := (Option.bind_some _ _).symm.trans H; rw [hy328]; with_reducible exact H2_) | (have H2_ := (Option.bind_some _ _).symm.trans H; with_reducible exact H2_) | with_reducible exact H | (rw [hy328]; exact H) | exact H
                          have Ny328 := Aside0.mk hy328
                          clear hy328
                          have H' := Aside0.mk H
                          clear H
                          go_wp2_with (first | ((with_reducible refine gate_builtin (b := .append) (xs := #[.tmp 94, .tmp 96]) rfl ?_); at_builtin; refine Kd.R_append (Kd.int .i64) (w0 := w) w.heap.size rfl (.tmp 94) (.tmp 96) 35 3 (.int .i64 0) 8 rfl Tryd.underlying35 info3 rfl (by decide) (by omega) u4 x4_1 x6_2 [.int .i64 x6_2] (fun k_ => some k_ ≠ (.slice (some ad316) t311.length co11 : Value).ownBlock ∧ some k_ ≠ (u7 : Value).ownBlock) (fun _ => False) rfl rfl ?aP (fun _ hk => hk.elim) ?aF ?aO ?aB ?aS ?aL ?_; (case aP => exact rfl); (case aB => exact (by repeat (first | (with_reducible first | exact HB.out | apply below_alloc | apply pw_below_drewN | apply below_drew1) | exact HB.out))); (case aF => exact (fun k_ hk => ⟨Kd.fresh' (Kd.R_lt (by (with_reducible repeat (first | apply Kd.R_alloc | apply Kd.R_drewN | apply Kd.R_drew)); exact HO_3.out)) k_ hk, Kd.fresh' (Kd.R_lt (by (with_reducible repeat (first | apply Kd.R_alloc | apply Kd.R_drewN | apply Kd.R_drew)); exact HO_7.out)) k_ hk⟩)); (case aO => exact (by (with_reducible repeat (first | apply Kd.R_alloc | apply Kd.R_drewN | apply Kd.R_drew)); exact HO_4.out)); (case aS => exact (below_size (by repeat (first | (with_reducible first | exact HB.out | apply below_alloc | apply pw_below_drewN | apply below_drew1) | exact HB.out)))); (case aL => have := LMc41.out; omega); intro v326 w43 ho hb hg hat; rw [← Ny325.out] at ho; have n0_ := Aside0.mk (Kd.R_after (ok := (fun k_ => some k_ ≠ (u7 : Value).ownBlock)) (by (with_reducible repeat (first | apply Kd.R_alloc | apply Kd.R_drewN | apply Kd.R_drew)); exact Kd.R_mono HO_3.out (fun _ hk => ⟨hk.2, hk.1⟩)) hg hat); have n1_ := Aside0.mk (Kd.R_after (ok := (fun k_ => some k_ ≠ (.slice (some ad316) t311.length co11 : Value).ownBlock)) (by (with_reducible repeat (first | apply Kd.R_alloc | apply Kd.R_drewN | apply Kd.R_drew)); exact HO_7.out) hg hat); have n2_ := Aside0.mk (hb); have n3_ := Aside0.mk (ho); clear HO_3; clear HO_7; clear HB; clear HO_4; have HO_3 := n0_; have HO_7 := n1_; have HB := n2_; have HO327 := n3_; clear n0_ n1_ n2_ n3_; clear ho hb hg hat; obtain ⟨Ao45, co45, eo45⟩ := Kd.R_slice HO_7.out; subst eo45) | ((with_reducible refine gate_builtin (b := .append) (xs := #[.tmp 97, .tmp 98]) rfl ?_); at_builtin; refine Kd.R_append_rows (Kd.int .i64) (w0 := w) w.heap.size rfl (.tmp 97) (.tmp 98) 35 3 (.int .i64 0) 8 rfl Tryd.underlying35 info3 rfl (by decide) (by omega) v326 y325 x7_2 _ _ _ (fun k_ => some k_ ≠ (.slice (some ad316) t311.length co11 : Value).ownBlock ∧ some k_ ≠ (.slice Ao45 x7_2.length co45 : Value).ownBlock) (fun _ => False) rfl rfl ?aO ?aR (fun _ _ h => h) (fun _ h => h.elim) ?aF ?aB ?aS ?aL ?_; (case aR => repeat (first | exact (Kd.R_reads' HO_7.out).2.2 | (with_reducible refine Kd.C_alloc ?_ _) | (with_reducible refine Kd.C_drewN ?_ _) | (with_reducible refine Kd.C_drew ?_))); (case aB => exact (by repeat (first | (with_reducible first | exact HB.out | apply below_alloc | apply pw_below_drewN | apply below_drew1) | exact HB.out))); (case aF => exact (fun k_ hk => ⟨Kd.fresh' (Kd.R_lt (by (with_reducible repeat (first | apply Kd.R_alloc | apply Kd.R_drewN | apply Kd.R_drew)); exact HO_3.out)) k_ hk, Kd.fresh' (Kd.R_lt (by (with_reducible repeat (first | apply Kd.R_alloc | apply Kd.R_drewN | apply Kd.R_drew)); exact HO_7.out)) k_ hk⟩)); (case aO => exact (by (with_reducible repeat (first | apply Kd.R_alloc | apply Kd.R_drewN | apply Kd.R_drew)); exact HO327.out)); (case aS => exact (below_size (by repeat (first | (with_reducible first | exact HB.out | apply below_alloc | apply pw_below_drewN | apply below_drew1) | exact HB.out)))); (case aL => have := LMc42.out; omega); intro v329 w44 ho hb hg hat; rw [← Ny328.out] at ho; have n0_ := Aside0.mk (Kd.R_after (ok := (fun k_ => some k_ ≠ (.slice Ao45 x7_2.length co45 : Value).ownBlock)) (by (with_reducible repeat (first | apply Kd.R_alloc | apply Kd.R_drewN | apply Kd.R_drew)); exact HO_3.out) hg hat); have n1_ := Aside0.mk (Kd.R_after (ok := (fun k_ => some k_ ≠ (.slice (some ad316) t311.length co11 : Value).ownBlock)) (by (with_reducible repeat (first | apply Kd.R_alloc | apply Kd.R_drewN | apply Kd.R_drew)); exact HO_7.out) hg hat); have n2_ := Aside0.mk (hb); have n3_ := Aside0.mk (ho); clear HO_3; clear HO_7; clear HB; clear HO327; have HO_3 := n0_; have HO_7 := n1_; have HB := n2_; have HO330 := n3_; clear n0_ n1_ n2_ n3_; clear ho hb hg hat))
                          repeat (go_quiet (first | ((with_reducible refine gate_builtin (b := .append) (xs := #[.tmp 94, .tmp 96]) rfl ?_); at_builtin; refine Kd.R_append (Kd.int .i64) (w0 := w) w.heap.size rfl (.tmp 94) (.tmp 96) 35 3 (.int .i64 0) 8 rfl Tryd.underlying35 info3 rfl (by decide) (by omega) u4 x4_1 x6_2 [.int .i64 x6_2] (fun k_ => some k_ ≠ (.slice (some ad316) t311.length co11 : Value).ownBlock ∧ some k_ ≠ (u7 : Value).ownBlock) (fun _ => False) rfl rfl ?aP (fun _ hk => hk.elim) ?aF ?aO ?aB ?aS ?aL ?_; (case aP => exact rfl); (case aB => exact (by repeat (first | (with_reducible first | exact HB.out | apply below_alloc | apply pw_below_drewN | apply below_drew1) | exact HB.out))); (case aF => exact (fun k_ hk => ⟨Kd.fresh' (Kd.R_lt (by (with_reducible repeat (first | apply Kd.R_alloc | apply Kd.R_drewN | apply Kd.R_drew)); exact HO_3.out)) k_ hk, Kd.fresh' (Kd.R_lt (by (with_reducible repeat (first | apply Kd.R_alloc | apply Kd.R_drewN | apply Kd.R_drew)); exact HO_7.out)) k_ hk⟩)); (case aO => exact (by (with_reducible repeat (first | apply Kd.R_alloc | apply Kd.R_drewN | apply Kd.R_drew)); exact HO_4.out)); (case aS => exact (below_size (by repeat (first | (with_reducible first | exact HB.out | apply below_alloc | apply pw_below_drewN | apply below_drew1) | exact HB.out)))); (case aL => have := LMc41.out; omega); intro v326 w43 ho hb hg hat; rw [← Ny325.out] at ho; have n0_ := Aside0.mk (Kd.R_after (ok := (fun k_ => some k_ ≠ (u7 : Value).ownBlock)) (by (with_reducible repeat (first | apply Kd.R_alloc | apply Kd.R_drewN | apply Kd.R_drew)); exact Kd.R_mono HO_3.out (fun _ hk => ⟨hk.2, hk.1⟩)) hg hat); have n1_ := Aside0.mk (Kd.R_after (ok := (fun k_ => some k_ ≠ (.slice (some ad316) t311.length co11 : Value).ownBlock)) (by (with_reducible repeat (first | apply Kd.R_alloc | apply Kd.R_drewN | apply Kd.R_drew)); exact HO_7.out) hg hat); have n2_ := Aside0.mk (hb); have n3_ := Aside0.mk (ho); clear HO_3; clear HO_7; clear HB; clear HO_4; have HO_3 := n0_; have HO_7 := n1_; have HB := n2_; have HO327 := n3_; clear n0_ n1_ n2_ n3_; clear ho hb hg hat; obtain ⟨Ao45, co45, eo45⟩ := Kd.R_slice HO_7.out; subst eo45) | ((with_reducible refine gate_builtin (b := .append) (xs := #[.tmp 97, .tmp 98]) rfl ?_); at_builtin; refine Kd.R_append_rows (Kd.int .i64) (w0 := w) w.heap.size rfl (.tmp 97) (.tmp 98) 35 3 (.int .i64 0) 8 rfl Tryd.underlying35 info3 rfl (by decide) (by omega) v326 y325 x7_2 _ _ _ (fun k_ => some k_ ≠ (.slice (some ad316) t311.length co11 : Value).ownBlock ∧ some k_ ≠ (.slice Ao45 x7_2.length co45 : Value).ownBlock) (fun _ => False) rfl rfl ?aO ?aR (fun _ _ h => h) (fun _ h => h.elim) ?aF ?aB ?aS ?aL ?_; (case aR => repeat (first | exact (Kd.R_reads' HO_7.out).2.2 | (with_reducible refine Kd.C_alloc ?_ _) | (with_reducible refine Kd.C_drewN ?_ _) | (with_reducible refine Kd.C_drew ?_))); (case aB => exact (by repeat (first | (with_reducible first | exact HB.out | apply below_alloc | apply pw_below_drewN | apply below_drew1) | exact HB.out))); (case aF => exact (fun k_ hk => ⟨Kd.fresh' (Kd.R_lt (by (with_reducible repeat (first | apply Kd.R_alloc | apply Kd.R_drewN | apply Kd.R_drew)); exact HO_3.out)) k_ hk, Kd.fresh' (Kd.R_lt (by (with_reducible repeat (first | apply Kd.R_alloc | apply Kd.R_drewN | apply Kd.R_drew)); exact HO_7.out)) k_ hk⟩)); (case aO => exact (by (with_reducible repeat (first | apply Kd.R_alloc | apply Kd.R_drewN | apply Kd.R_drew)); exact HO327.out)); (case aS => exact (below_size (by repeat (first | (with_reducible first | exact HB.out | apply below_alloc | apply pw_below_drewN | apply below_drew1) | exact HB.out)))); (case aL => have := LMc42.out; omega); intro v329 w44 ho hb hg hat; rw [← Ny328.out] at ho; have n0_ := Aside0.mk (Kd.R_after (ok := (fun k_ => some k_ ≠ (.slice Ao45 x7_2.length co45 : Value).ownBlock)) (by (with_reducible repeat (first | apply Kd.R_alloc | apply Kd.R_drewN | apply Kd.R_drew)); exact HO_3.out) hg hat); have n1_ := Aside0.mk (Kd.R_after (ok := (fun k_ => some k_ ≠ (.slice (some ad316) t311.length co11 : Value).ownBlock)) (by (with_reducible repeat (first | apply Kd.R_alloc | apply Kd.R_drewN | apply Kd.R_drew)); exact HO_7.out) hg hat); have n2_ := Aside0.mk (hb); have n3_ := Aside0.mk (ho); clear HO_3; clear HO_7; clear HB; clear HO327; have HO_3 := n0_; have HO_7 := n1_; have HB := n2_; have HO330 := n3_; clear n0_ n1_ n2_ n3_; clear ho hb hg hat)); try go_wp2_with (first | ((with_reducible refine gate_builtin (b := .append) (xs := #[.tmp 94, .tmp 96]) rfl ?_); at_builtin; refine Kd.R_append (Kd.int .i64) (w0 := w) w.heap.size rfl (.tmp 94) (.tmp 96) 35 3 (.int .i64 0) 8 rfl Tryd.underlying35 info3 rfl (by decide) (by omega) u4 x4_1 x6_2 [.int .i64 x6_2] (fun k_ => some k_ ≠ (.slice (some ad316) t311.length co11 : Value).ownBlock ∧ some k_ ≠ (u7 : Value).ownBlock) (fun _ => False) rfl rfl ?aP (fun _ hk => hk.elim) ?aF ?aO ?aB ?aS ?aL ?_; (case aP => exact rfl); (case aB => exact (by repeat (first | (with_reducible first | exact HB.out | apply below_alloc | apply pw_below_drewN | apply below_drew1) | exact HB.out))); (case aF => exact (fun k_ hk => ⟨Kd.fresh' (Kd.R_lt (by (with_reducible repeat (first | apply Kd.R_alloc | apply Kd.R_drewN | apply Kd.R_drew)); exact HO_3.out)) k_ hk, Kd.fresh' (Kd.R_lt (by (with_reducible repeat (first | apply Kd.R_alloc | apply Kd.R_drewN | apply Kd.R_drew)); exact HO_7.out)) k_ hk⟩)); (case aO => exact (by (with_reducible repeat (first | apply Kd.R_alloc | apply Kd.R_drewN | apply Kd.R_drew)); exact HO_4.out)); (case aS => exact (below_size (by repeat (first | (with_reducible first | exact HB.out | apply below_alloc | apply pw_below_drewN | apply below_drew1) | exact HB.out)))); (case aL => have := LMc41.out; omega); intro v326 w43 ho hb hg hat; rw [← Ny325.out] at ho; have n0_ := Aside0.mk (Kd.R_after (ok := (fun k_ => some k_ ≠ (u7 : Value).ownBlock)) (by (with_reducible repeat (first | apply Kd.R_alloc | apply Kd.R_drewN | apply Kd.R_drew)); exact Kd.R_mono HO_3.out (fun _ hk => ⟨hk.2, hk.1⟩)) hg hat); have n1_ := Aside0.mk (Kd.R_after (ok := (fun k_ => some k_ ≠ (.slice (some ad316) t311.length co11 : Value).ownBlock)) (by (with_reducible repeat (first | apply Kd.R_alloc | apply Kd.R_drewN | apply Kd.R_drew)); exact HO_7.out) hg hat); have n2_ := Aside0.mk (hb); have n3_ := Aside0.mk (ho); clear HO_3; clear HO_7; clear HB; clear HO_4; have HO_3 := n0_; have HO_7 := n1_; have HB := n2_; have HO327 := n3_; clear n0_ n1_ n2_ n3_; clear ho hb hg hat; obtain ⟨Ao45, co45, eo45⟩ := Kd.R_slice HO_7.out; subst eo45) | ((with_reducible refine gate_builtin (b := .append) (xs := #[.tmp 97, .tmp 98]) rfl ?_); at_builtin; refine Kd.R_append_rows (Kd.int .i64) (w0 := w) w.heap.size rfl (.tmp 97) (.tmp 98) 35 3 (.int .i64 0) 8 rfl Tryd.underlying35 info3 rfl (by decide) (by omega) v326 y325 x7_2 _ _ _ (fun k_ => some k_ ≠ (.slice (some ad316) t311.length co11 : Value).ownBlock ∧ some k_ ≠ (.slice Ao45 x7_2.length co45 : Value).ownBlock) (fun _ => False) rfl rfl ?aO ?aR (fun _ _ h => h) (fun _ h => h.elim) ?aF ?aB ?aS ?aL ?_; (case aR => repeat (first | exact (Kd.R_reads' HO_7.out).2.2 | (with_reducible refine Kd.C_alloc ?_ _) | (with_reducible refine Kd.C_drewN ?_ _) | (with_reducible refine Kd.C_drew ?_))); (case aB => exact (by repeat (first | (with_reducible first | exact HB.out | apply below_alloc | apply pw_below_drewN | apply below_drew1) | exact HB.out))); (case aF => exact (fun k_ hk => ⟨Kd.fresh' (Kd.R_lt (by (with_reducible repeat (first | apply Kd.R_alloc | apply Kd.R_drewN | apply Kd.R_drew)); exact HO_3.out)) k_ hk, Kd.fresh' (Kd.R_lt (by (with_reducible repeat (first | apply Kd.R_alloc | apply Kd.R_drewN | apply Kd.R_drew)); exact HO_7.out)) k_ hk⟩)); (case aO => exact (by (with_reducible repeat (first | apply Kd.R_alloc | apply Kd.R_drewN | apply Kd.R_drew)); exact HO327.out)); (case aS => exact (below_size (by repeat (first | (with_reducible first | exact HB.out | apply below_alloc | apply pw_below_drewN | apply below_drew1) | exact HB.out)))); (case aL => have := LMc42.out; omega); intro v329 w44 ho hb hg hat; rw [← Ny328.out] at ho; have n0_ := Aside0.mk (Kd.R_after (ok := (fun k_ => some k_ ≠ (.slice Ao45 x7_2.length co45 : Value).ownBlock)) (by (with_reducible repeat (first | apply Kd.R_alloc | apply Kd.R_drewN | apply Kd.R_drew)); exact HO_3.out) hg hat); have n1_ := Aside0.mk (Kd.R_after (ok := (fun k_ => some k_ ≠ (.slice (some ad316) t311.length co11 : Value).ownBlock)) (by (with_reducible repeat (first | apply Kd.R_alloc | apply Kd.R_drewN | apply Kd.R_drew)); exact HO_7.out) hg hat); have n2_ := Aside0.mk (hb); have n3_ := Aside0.mk (ho); clear HO_3; clear HO_7; clear HB; clear HO327; have HO_3 := n0_; have HO_7 := n1_; have HB := n2_; have HO330 := n3_; clear n0_ n1_ n2_ n3_; clear ho hb hg hat)))
                          go_roundg kj11
                          case measure => have := HK1.out; have := HK2.out; have := HJ11.out; omega
                          case rel => exact ⟨(y328), (x5_2), (by first | rfl | (simp; done) | (simp [*]; done)), H', ⟨by have := HK1.out; have := HK2.out; have := HJ11.out; omega⟩, ⟨by (with_reducible repeat (first | apply Kd.R_alloc | apply Kd.R_drewN | apply Kd.R_drew)); exact Kd.R_mono HO_3.out (fun _ hk => hk.2)⟩, ⟨by (with_reducible repeat (first | apply Kd.R_alloc | apply Kd.R_drewN | apply Kd.R_drew)); exact Kd.R_mono HO330.out (fun _ hk => hk.1)⟩, ⟨by repeat (first | (with_reducible first | exact HB.out | apply below_alloc | apply pw_below_drewN | apply below_drew1) | exact HB.out)⟩⟩
                        · rw [if_neg c42] at H
                          exact absurd H (by simp)
                      · rw [if_neg c41] at H
                        exact absurd H (by simp)
        · rw [if_neg c5] at H
          exact absurd H (by simp)
      · rw [if_neg c4] at H
        have c4b0 : decide (x5_1 < (t311.length : Int)) = false := decide_eq_false c4
        clear c4
        replace H := Option.bind_eq_some_iff.mp H
        obtain ⟨⟨t314, t315⟩, A460, H⟩ := H
        replace H : (some t314) = some r := H
        have A46 := Aside0.mk A460
        clear A460
        obtain rfl := Option.some.inj H
        obtain ⟨Ao47, co47, eo47⟩ := Kd.R_slice HO_3.out
        subst eo47
        obtain ⟨Ao48, co48, eo48⟩ := Kd.R_slice HO_4.out
        subst eo48
        go_wp2_with (first | (go_at_call 50; (with_reducible refine (bookplateref04_Encode.calls k1 _ _ x4_1 t314 t315 _ ?side1 ?side2 A46.out).mono ?_); (case side1 => repeat (first | exact (Kd.R_reads' HO_4.out).2.2 | (with_reducible refine Kd.C_alloc ?_ _) | (with_reducible refine Kd.C_drewN ?_ _) | (with_reducible refine Kd.C_drew ?_))); (case side2 => exact (Kd.R_reads' HO_4.out).2.1); rintro e w49 ⟨rfl, hb⟩; have n0_ := Aside0.mk (Kd.R_below (by (with_reducible repeat (first | apply Kd.R_alloc | apply Kd.R_drewN | apply Kd.R_drew)); exact HO_3.out) hb); have n1_ := Aside0.mk (Kd.R_below (by (with_reducible repeat (first | apply Kd.R_alloc | apply Kd.R_drewN | apply Kd.R_drew)); exact HO_4.out) hb); have n2_ := Aside0.mk (below_step (by repeat (first | (with_reducible first | exact HB.out | apply below_alloc | apply pw_below_drewN | apply below_drew1) | exact HB.out)) hb); clear HO_3; clear HO_4; clear HB; have HO_3 := n0_; have HO_4 := n1_; have HB := n2_; clear n0_ n1_ n2_; (try clear hb); (try clear hb2); (try clear hk); (try clear hi)))
        repeat (go_quiet (first | (go_at_call 50; (with_reducible refine (bookplateref04_Encode.calls k1 _ _ x4_1 t314 t315 _ ?side1 ?side2 A46.out).mono ?_); (case side1 => repeat (first | exact (Kd.R_reads' HO_4.out).2.2 | (with_reducible refine Kd.C_alloc ?_ _) | (with_reducible refine Kd.C_drewN ?_ _) | (with_reducible refine Kd.C_drew ?_))); (case side2 => exact (Kd.R_reads' HO_4.out).2.1); rintro e w49 ⟨rfl, hb⟩; have n0_ := Aside0.mk (Kd.R_below (by (with_reducible repeat (first | apply Kd.R_alloc | apply Kd.R_drewN | apply Kd.R_drew)); exact HO_3.out) hb); have n1_ := Aside0.mk (Kd.R_below (by (with_reducible repeat (first | apply Kd.R_alloc | apply Kd.R_drewN | apply Kd.R_drew)); exact HO_4.out) hb); have n2_ := Aside0.mk (below_step (by repeat (first | (with_reducible first | exact HB.out | apply below_alloc | apply pw_below_drewN | apply below_drew1) | exact HB.out)) hb); clear HO_3; clear HO_4; clear HB; have HO_3 := n0_; have HO_4 := n1_; have HB := n2_; clear n0_ n1_ n2_; (try clear hb); (try clear hb2); (try clear hk); (try clear hi))); try go_wp2_with (first | (go_at_call 50; (with_reducible refine (bookplateref04_Encode.calls k1 _ _ x4_1 t314 t315 _ ?side1 ?side2 A46.out).mono ?_); (case side1 => repeat (first | exact (Kd.R_reads' HO_4.out).2.2 | (with_reducible refine Kd.C_alloc ?_ _) | (with_reducible refine Kd.C_drewN ?_ _) | (with_reducible refine Kd.C_drew ?_))); (case side2 => exact (Kd.R_reads' HO_4.out).2.1); rintro e w49 ⟨rfl, hb⟩; have n0_ := Aside0.mk (Kd.R_below (by (with_reducible repeat (first | apply Kd.R_alloc | apply Kd.R_drewN | apply Kd.R_drew)); exact HO_3.out) hb); have n1_ := Aside0.mk (Kd.R_below (by (with_reducible repeat (first | apply Kd.R_alloc | apply Kd.R_drewN | apply Kd.R_drew)); exact HO_4.out) hb); have n2_ := Aside0.mk (below_step (by repeat (first | (with_reducible first | exact HB.out | apply below_alloc | apply pw_below_drewN | apply below_drew1) | exact HB.out)) hb); clear HO_3; clear HO_4; clear HB; have HO_3 := n0_; have HO_4 := n1_; have HB := n2_; clear n0_ n1_ n2_; (try clear hb); (try clear hb2); (try clear hk); (try clear hi))))
        go_ret
        exact ⟨by first | rfl | (simp [errW_none, errW_some] <;> rfl) | (simp [*, errW_none, errW_some] <;> rfl), by repeat (first | (with_reducible first | exact HB.out | apply below_alloc | apply pw_below_drewN | apply below_drew1) | exact HB.out)⟩
def bookplateref05_encoded.f (k : Nat) (a0 : ByteArray) : Option (Bool) := (bookplateref04_Decode.f k a0).bind fun bt345 => (some bt345.2)
set_option maxHeartbeats 8000000 in
set_option maxRecDepth 100000 in
theorem bookplateref05_encoded.calls (k : Nat) (a0 : ByteArray) (r : Bool) (w : World) (h : bookplateref05_encoded.f k a0 = some r) :
    Calls Tryd.prog 72 #[.string a0] w fun e w' => e = .returned (.bool r) ∧ Below w.heap.size w w' := by
  have HB := Aside0.mk (Below.refl w.heap.size w)
  have H : ((bookplateref04_Decode.f k a0).bind fun bt345 => (some bt345.2)) = some r := h
  clear h
  replace H := Option.bind_eq_some_iff.mp H
  obtain ⟨⟨t345, t346⟩, A20, H⟩ := H
  replace H : (some t346) = some r := H
  have A2 := Aside0.mk A20
  clear A20
  obtain rfl := Option.some.inj H
  go_enter Tryd.func72, Tryd.ntmps72
  go_wp2_with (first | ((with_reducible refine gate_callee (f := 31) rfl ?_); refine goesL_ (some 7) rfl rfl Tryd.func31 (by kernel_rfl) rfl #[.string a0] rfl (by (try simp only [List.map_toArray, List.map_cons, List.map_nil]); first | done | rfl | (simp only [List.length_drop, List.length_take]; rfl)) ?_; (with_reducible refine (bookplateref04_Decode.calls k a0 t345 t346 _ A2.out).mono ?_); rintro e w3 ⟨v347, rfl, ho0, hb⟩; refine ⟨_, rfl, ?_⟩; have n0_ := Aside0.mk (Kd.R_lower ho0 (below_size (by repeat (first | (with_reducible first | exact HB.out | apply below_alloc | apply pw_below_drewN | apply below_drew1) | exact HB.out)))); have n1_ := Aside0.mk (below_step (by repeat (first | (with_reducible first | exact HB.out | apply below_alloc | apply pw_below_drewN | apply below_drew1) | exact HB.out)) hb); clear HB; have HO348 := n0_; have HB := n1_; clear n0_ n1_; (try clear hb); (try clear hb2); (try clear hk); (try clear hi); (try clear ho0)))
  go_ret
  exact ⟨by first | rfl | (simp [errW_none, errW_some] <;> rfl) | (simp [*, errW_none, errW_some] <;> rfl), by repeat (first | (with_reducible first | exact HB.out | apply below_alloc | apply pw_below_drewN | apply below_drew1) | exact HB.out)⟩
def bookplateref05_Is.f (k : Nat) (a0 : ByteArray) : Option (Bool) := (bookplateref05_encoded.f k a0).bind fun t349 => (if t349 = true then ((bookplateref05_Compose.f k a0).bind fun t350 => (some (t350.toList == a0.toList))) else (some false))
set_option maxHeartbeats 8000000 in
set_option maxRecDepth 100000 in
theorem bookplateref05_Is.calls (k : Nat) (a0 : ByteArray) (r : Bool) (w : World) (h : bookplateref05_Is.f k a0 = some r) :
    Calls Tryd.prog 43 #[.string a0] w fun e w' => e = .returned (.bool r) ∧ Below w.heap.size w w' := by
  have HB := Aside0.mk (Below.refl w.heap.size w)
  have H : ((bookplateref05_encoded.f k a0).bind fun t349 => (if t349 = true then ((bookplateref05_Compose.f k a0).bind fun t350 => (some (t350.toList == a0.toList))) else (some false))) = some r := h
  clear h
  replace H := Option.bind_eq_some_iff.mp H
  obtain ⟨t349, A20, H⟩ := H
  replace H : (if t349 = true then ((bookplateref05_Compose.f k a0).bind fun t350 => (some (t350.toList == a0.toList))) else (some false)) = some r := H
  have A2 := Aside0.mk A20
  clear A20
  by_cases c3 : t349 = true
  · subst c3
    have H1 : ((bookplateref05_Compose.f k a0).bind fun t350 => (some (t350.toList == a0.toList))) = some r := by rw [if_pos rfl] at H; exact H
    clear H
    have H := H1
    clear H1
    replace H := Option.bind_eq_some_iff.mp H
    obtain ⟨t350, A40, H⟩ := H
    replace H : (some (t350.toList == a0.toList)) = some r := H
    have A4 := Aside0.mk A40
    clear A40
    obtain rfl := Option.some.inj H
    go_enter Tryd.func43, Tryd.ntmps43
    go_wp2_with (first | ((with_reducible refine gate_callee (f := 72) rfl ?_); refine goesL_ (some 4) rfl rfl Tryd.func72 (by kernel_rfl) rfl #[.string a0] rfl (by (try simp only [List.map_toArray, List.map_cons, List.map_nil]); first | done | rfl | (simp only [List.length_drop, List.length_take]; rfl)) ?_; (with_reducible refine (bookplateref05_encoded.calls k a0 true _ A2.out).mono ?_); rintro e w5 ⟨rfl, hb⟩; refine ⟨_, rfl, ?_⟩; have n0_ := Aside0.mk (below_step (by repeat (first | (with_reducible first | exact HB.out | apply below_alloc | apply pw_below_drewN | apply below_drew1) | exact HB.out)) hb); clear HB; have HB := n0_; clear n0_; (try clear hb); (try clear hb2); (try clear hk); (try clear hi)) | (go_at_call 41; (with_reducible refine (bookplateref05_Compose.calls k a0 t350 _ A4.out).mono ?_); rintro e w6 ⟨rfl, hb⟩; have n0_ := Aside0.mk (below_step (by repeat (first | (with_reducible first | exact HB.out | apply below_alloc | apply pw_below_drewN | apply below_drew1) | exact HB.out)) hb); clear HB; have HB := n0_; clear n0_; (try clear hb); (try clear hb2); (try clear hk); (try clear hi)))
    go_ret
    exact ⟨by first | rfl | (simp [errW_none, errW_some] <;> rfl) | (simp [*, errW_none, errW_some] <;> rfl), by repeat (first | (with_reducible first | exact HB.out | apply below_alloc | apply pw_below_drewN | apply below_drew1) | exact HB.out)⟩
  · replace c3 := Bool.eq_false_iff.mpr c3
    subst c3
    have H1 : (some false) = some r := by rw [if_neg (show ¬ (false = true) by decide)] at H; exact H
    clear H
    have H := H1
    clear H1
    obtain rfl := Option.some.inj H
    go_enter Tryd.func43, Tryd.ntmps43
    go_wp2_with (first | ((with_reducible refine gate_callee (f := 72) rfl ?_); refine goesL_ (some 4) rfl rfl Tryd.func72 (by kernel_rfl) rfl #[.string a0] rfl (by (try simp only [List.map_toArray, List.map_cons, List.map_nil]); first | done | rfl | (simp only [List.length_drop, List.length_take]; rfl)) ?_; (with_reducible refine (bookplateref05_encoded.calls k a0 false _ A2.out).mono ?_); rintro e w7 ⟨rfl, hb⟩; refine ⟨_, rfl, ?_⟩; have n0_ := Aside0.mk (below_step (by repeat (first | (with_reducible first | exact HB.out | apply below_alloc | apply pw_below_drewN | apply below_drew1) | exact HB.out)) hb); clear HB; have HB := n0_; clear n0_; (try clear hb); (try clear hb2); (try clear hk); (try clear hi)))
    go_ret
    exact ⟨by first | rfl | (simp [errW_none, errW_some] <;> rfl) | (simp [*, errW_none, errW_some] <;> rfl), by repeat (first | (with_reducible first | exact HB.out | apply below_alloc | apply pw_below_drewN | apply below_drew1) | exact HB.out)⟩
def bookplateref05_Strip.l0 : Nat → List Int → List Int → Int → Option (ByteArray)
  | 0, _, _, _ => none
  | k + 1, x3, x4, x5 => if x5 < (x3.length : Int) then (if 0 ≤ x5 then ((bookplateref05_class.f k (rd x3 x5)).bind fun t355 => (if t355 = 0 then (if x4.length < 17592186044416 then (bookplateref05_Strip.l0 k x3 (x4 ++ [rd x3 x5]) (wrap64 (x5 + 1))) else (none)) else (bookplateref05_Strip.l0 k x3 x4 (wrap64 (x5 + 1))))) else (none)) else ((bookplateref04_Encode.f k x4).bind fun bt360 => (some bt360.1))
def bookplateref05_Strip.f (k : Nat) (a0 : ByteArray) : Option (ByteArray) := (bookplateref05_decomposed.f k a0).bind fun t351 => (bookplateref05_Strip.l0 k t351 ([] : List Int) 0)
set_option maxHeartbeats 8000000 in
set_option maxRecDepth 100000 in
theorem bookplateref05_Strip.calls (k : Nat) (a0 : ByteArray) (r : ByteArray) (w : World) (h : bookplateref05_Strip.f k a0 = some r) :
    Calls Tryd.prog 45 #[.string a0] w fun e w' => e = .returned (.string r) ∧ Below w.heap.size w w' := by
  have HB := Aside0.mk (Below.refl w.heap.size w)
  have H : ((bookplateref05_decomposed.f k a0).bind fun t351 => (bookplateref05_Strip.l0 k t351 ([] : List Int) 0)) = some r := h
  clear h
  replace H := Option.bind_eq_some_iff.mp H
  obtain ⟨t351, A20, H⟩ := H
  replace H : (bookplateref05_Strip.l0 k t351 ([] : List Int) 0) = some r := H
  have A2 := Aside0.mk A20
  clear A20
  have H' := Aside0.mk H
  clear H
  go_enter Tryd.func45, Tryd.ntmps45
  go_wp2_with (first | ((with_reducible refine gate_callee (f := 66) rfl ?_); refine goesL_ (some 9) rfl rfl Tryd.func66 (by kernel_rfl) rfl #[.string a0] rfl (by (try simp only [List.map_toArray, List.map_cons, List.map_nil]); first | done | rfl | (simp only [List.length_drop, List.length_take]; rfl)) ?_; (with_reducible refine (bookplateref05_decomposed.calls k a0 t351 _ A2.out).mono ?_); rintro e w3 ⟨v352, rfl, ho0, hb⟩; refine ⟨_, rfl, ?_⟩; have n0_ := Aside0.mk (Kd.R_lower ho0 (below_size (by repeat (first | (with_reducible first | exact HB.out | apply below_alloc | apply pw_below_drewN | apply below_drew1) | exact HB.out)))); have n1_ := Aside0.mk (below_step (by repeat (first | (with_reducible first | exact HB.out | apply below_alloc | apply pw_below_drewN | apply below_drew1) | exact HB.out)) hb); clear HB; have HO353 := n0_; have HB := n1_; clear n0_ n1_; (try clear hb); (try clear hb2); (try clear hk); (try clear hi); (try clear ho0)))
  go_loopg [4, 5] k (fun kq v4 v5 w' => ∃ (x4_1 : List Int) (x5_1 : Int), v5 = .int .i64 x5_1 ∧ Aside0 (bookplateref05_Strip.l0 kq t351 x4_1 x5_1 = some r) ∧ Aside0 (kq ≤ k) ∧ Aside0 (Kd.R (Kd.int .i64) 3 w' w.heap.size (fun k_ => some k_ ≠ (v4 : Value).ownBlock) v352 t351) ∧ Aside0 (Kd.R (Kd.int .i64) 3 w' w.heap.size (fun k_ => some k_ ≠ (v352 : Value).ownBlock) v4 x4_1) ∧ Aside0 (Below w.heap.size w w'))
  case atStart => exact ⟨(([] : List Int)), (0), (by first | rfl | (simp; done) | (simp [*]; done)), H', ⟨Nat.le_refl _⟩, ⟨by (with_reducible repeat (first | apply Kd.R_alloc | apply Kd.R_drewN | apply Kd.R_drew)); exact Kd.R_mono HO353.out (fun _ hk => (by simp [Value.ownBlock]))⟩, ⟨by first | exact Kd.R_nil _ _ _ _ _ | exact Kd.N_nil _ _ _ _ _ | exact Kd.V_nil _ _ _ _ _ | exact Kd.Q_nil _ _ _ _ _ | exact Kd.S_nil _ _ _ _ _⟩, ⟨by repeat (first | (with_reducible first | exact HB.out | apply below_alloc | apply pw_below_drewN | apply below_drew1) | exact HB.out)⟩⟩
  case round =>
    clear H'
    try clear p2
    obtain ⟨x4_1, x5_1, rfl, HA, HK1, HO_3, HO_4, HB⟩ := hrel
    cases gk with
    | zero => exact absurd HA.out (by simp [bookplateref05_Strip.l0])
    | succ k1 =>
      have H := HA.out
      clear HA
      simp only [bookplateref05_Strip.l0] at H
      by_cases c4 : x5_1 < (t351.length : Int)
      · rw [if_pos c4] at H
        have c4b0 : decide (x5_1 < (t351.length : Int)) = true := decide_eq_true c4
        clear c4
        by_cases c5 : 0 ≤ x5_1
        · rw [if_pos c5] at H
          have c5b0 : decide (0 ≤ x5_1) = true := decide_eq_true c5
          clear c5
          replace H := Option.bind_eq_some_iff.mp H
          obtain ⟨t355, A60, H⟩ := H
          replace H : (if t355 = 0 then (if x4_1.length < 17592186044416 then (bookplateref05_Strip.l0 k1 t351 (x4_1 ++ [rd t351 x5_1]) (wrap64 (x5_1 + 1))) else (none)) else (bookplateref05_Strip.l0 k1 t351 x4_1 (wrap64 (x5_1 + 1)))) = some r := H
          have A6 := Aside0.mk A60
          clear A60
          by_cases c7 : t355 = 0
          · rw [if_pos c7] at H
            have c7b0 : (t355 == 0) = true := beq_iff_eq.mpr c7
            have c7b1 : (t355 != 0) = false := bne_eq_false_iff_eq.mpr c7
            clear c7
            by_cases c8 : x4_1.length < 17592186044416
            · rw [if_pos c8] at H
              have LMc8 := Aside0.mk c8
              clear c8
              obtain ⟨y357, hy357⟩ : ∃ y_ : List Int, y_ = (x4_1 ++ [rd t351 x5_1]) := ⟨_, rfl⟩
              replace H : (bookplateref05_Strip.l0 k1 t351 y357 (wrap64 (x5_1 + 1))) = some r := by first | (rw [hy357]; with_reducible exact H) | (have H2_ := (Option.bind_some _ _).symm.trans H; rw [hy357]; with_reducible exact H2_) | (have H2_ := (Option.bind_some _ _).symm.trans H; with_reducible exact H2_) | with_reducible exact H | (rw [hy357]; exact H) | exact H
              have Ny357 := Aside0.mk hy357
              clear hy357
              have H' := Aside0.mk H
              clear H
              obtain ⟨Ao9, co9, eo9⟩ := Kd.R_slice HO_3.out
              subst eo9
              have p354 : 0 ≤ (x5_1 : Int) := of_decide_eq_true (by first | (with_reducible assumption) | assumption)
              have q354 : x5_1 < (t351.length : Int) := of_decide_eq_true (by first | (with_reducible assumption) | assumption)
              obtain ⟨ad354, e354, hx354_0⟩ := Kd.at_int (Kd.R_reads' HO_3.out).2.2 x5_1 p354 q354
              cases e354
              replace p354 := eq_true p354
              replace q354 := eq_true q354
              go_wp2_with (first | ((with_reducible refine gate_callee (f := 70) rfl ?_); refine goesL_ (some 20) rfl rfl Tryd.func70 (by kernel_rfl) rfl #[.int .i64 (rd t351 x5_1)] rfl (by (try simp only [List.map_toArray, List.map_cons, List.map_nil]); first | done | rfl | (simp only [List.length_drop, List.length_take]; rfl)) ?_; (with_reducible refine (bookplateref05_class.calls k1 (rd t351 x5_1) t355 _ A6.out).mono ?_); rintro e w' ⟨rfl, ⟨nd, rfl⟩⟩; refine ⟨_, rfl, ?_⟩; have p356 : 0 ≤ (x5_1 : Int) := of_decide_eq_true (by first | (with_reducible assumption) | assumption); have q356 : x5_1 < (t351.length : Int) := of_decide_eq_true (by first | (with_reducible assumption) | assumption); obtain ⟨ad356, e356, hx356_0⟩ := Kd.at_int (Kd.R_reads' HO_3.out).2.2 x5_1 p356 q356; obtain rfl : ad354 = ad356 := (by injection e356); replace p356 := eq_true p356; replace q356 := eq_true q356) | ((with_reducible refine gate_builtin (b := .append) (xs := #[.tmp 22, .tmp 27]) rfl ?_); at_builtin; refine Kd.R_append (Kd.int .i64) (w0 := w) w.heap.size rfl (.tmp 22) (.tmp 27) 35 3 (.int .i64 0) 8 rfl Tryd.underlying35 info3 rfl (by decide) (by omega) u4 x4_1 (rd t351 x5_1) [.int .i64 (rd t351 x5_1)] (fun k_ => some k_ ≠ (.slice (some ad354) t351.length co9 : Value).ownBlock) (fun _ => False) rfl rfl ?aP (fun _ hk => hk.elim) ?aF ?aO ?aB ?aS ?aL ?_; (case aP => exact rfl); (case aB => exact (by repeat (first | (with_reducible first | exact HB.out | apply below_alloc | apply pw_below_drewN | apply below_drew1) | exact HB.out))); (case aF => exact (fun k_ hk => Kd.fresh' (Kd.R_lt (by (with_reducible repeat (first | apply Kd.R_alloc | apply Kd.R_drewN | apply Kd.R_drew)); exact HO_3.out)) k_ hk)); (case aO => exact (by (with_reducible repeat (first | apply Kd.R_alloc | apply Kd.R_drewN | apply Kd.R_drew)); exact HO_4.out)); (case aS => exact (below_size (by repeat (first | (with_reducible first | exact HB.out | apply below_alloc | apply pw_below_drewN | apply below_drew1) | exact HB.out)))); (case aL => have := LMc8.out; omega); intro v358 w10 ho hb hg hat; rw [← Ny357.out] at ho; have n0_ := Aside0.mk (Kd.R_after (ok := (fun _ => True)) (by (with_reducible repeat (first | apply Kd.R_alloc | apply Kd.R_drewN | apply Kd.R_drew)); exact Kd.R_mono HO_3.out (fun _ hk => ⟨trivial, hk⟩)) hg hat); have n1_ := Aside0.mk (hb); have n2_ := Aside0.mk (ho); clear HO_3; clear HB; clear HO_4; have HO_3 := n0_; have HB := n1_; have HO359 := n2_; clear n0_ n1_ n2_; clear ho hb hg hat))
              go_roundg k1
              case measure => have := HK1.out; omega
              case rel => exact ⟨(y357), (wrap64 (x5_1 + 1)), (by first | rfl | (simp; done) | (simp [*]; done)), H', ⟨by have := HK1.out; omega⟩, ⟨by (with_reducible repeat (first | apply Kd.R_alloc | apply Kd.R_drewN | apply Kd.R_drew)); exact Kd.R_mono HO_3.out (fun _ hk => hk.2)⟩, ⟨by (with_reducible repeat (first | apply Kd.R_alloc | apply Kd.R_drewN | apply Kd.R_drew)); exact HO359.out⟩, ⟨by repeat (first | (with_reducible first | exact HB.out | apply below_alloc | apply pw_below_drewN | apply below_drew1) | exact HB.out)⟩⟩
            · rw [if_neg c8] at H
              exact absurd H (by simp)
          · rw [if_neg c7] at H
            have c7b0 : (t355 == 0) = false := beq_eq_false_iff_ne.mpr c7
            have c7b1 : (t355 != 0) = true := bne_iff_ne.mpr c7
            have H' := Aside0.mk H
            clear H
            obtain ⟨Ao11, co11, eo11⟩ := Kd.R_slice HO_3.out
            subst eo11
            have p354 : 0 ≤ (x5_1 : Int) := of_decide_eq_true (by first | (with_reducible assumption) | assumption)
            have q354 : x5_1 < (t351.length : Int) := of_decide_eq_true (by first | (with_reducible assumption) | assumption)
            obtain ⟨ad354, e354, hx354_0⟩ := Kd.at_int (Kd.R_reads' HO_3.out).2.2 x5_1 p354 q354
            cases e354
            replace p354 := eq_true p354
            replace q354 := eq_true q354
            go_wp2_with (first | ((with_reducible refine gate_callee (f := 70) rfl ?_); refine goesL_ (some 20) rfl rfl Tryd.func70 (by kernel_rfl) rfl #[.int .i64 (rd t351 x5_1)] rfl (by (try simp only [List.map_toArray, List.map_cons, List.map_nil]); first | done | rfl | (simp only [List.length_drop, List.length_take]; rfl)) ?_; (with_reducible refine (bookplateref05_class.calls k1 (rd t351 x5_1) t355 _ A6.out).mono ?_); rintro e w' ⟨rfl, ⟨nd, rfl⟩⟩; refine ⟨_, rfl, ?_⟩))
            go_roundg k1
            case measure => have := HK1.out; omega
            case rel => exact ⟨(x4_1), (wrap64 (x5_1 + 1)), (by first | rfl | (simp; done) | (simp [*]; done)), H', ⟨by have := HK1.out; omega⟩, ⟨by (with_reducible repeat (first | apply Kd.R_alloc | apply Kd.R_drewN | apply Kd.R_drew)); exact HO_3.out⟩, ⟨by (with_reducible repeat (first | apply Kd.R_alloc | apply Kd.R_drewN | apply Kd.R_drew)); exact HO_4.out⟩, ⟨by repeat (first | (with_reducible first | exact HB.out | apply below_alloc | apply pw_below_drewN | apply below_drew1) | exact HB.out)⟩⟩
        · rw [if_neg c5] at H
          exact absurd H (by simp)
      · rw [if_neg c4] at H
        have c4b0 : decide (x5_1 < (t351.length : Int)) = false := decide_eq_false c4
        clear c4
        replace H := Option.bind_eq_some_iff.mp H
        obtain ⟨⟨t360, t361⟩, A120, H⟩ := H
        replace H : (some t360) = some r := H
        have A12 := Aside0.mk A120
        clear A120
        obtain rfl := Option.some.inj H
        obtain ⟨Ao13, co13, eo13⟩ := Kd.R_slice HO_3.out
        subst eo13
        obtain ⟨Ao14, co14, eo14⟩ := Kd.R_slice HO_4.out
        subst eo14
        go_wp2_with (first | ((with_reducible refine gate_callee (f := 50) rfl ?_); refine goesL_ (some 31) rfl rfl Tryd.func50 (by kernel_rfl) rfl #[.slice Ao14 x4_1.length co14] rfl (by (try simp only [List.map_toArray, List.map_cons, List.map_nil]); first | done | rfl | (simp only [List.length_drop, List.length_take]; rfl)) ?_; (with_reducible refine (bookplateref04_Encode.calls k1 _ _ x4_1 t360 t361 _ ?side1 ?side2 A12.out).mono ?_); (case side1 => repeat (first | exact (Kd.R_reads' HO_4.out).2.2 | (with_reducible refine Kd.C_alloc ?_ _) | (with_reducible refine Kd.C_drewN ?_ _) | (with_reducible refine Kd.C_drew ?_))); (case side2 => exact (Kd.R_reads' HO_4.out).2.1); rintro e w15 ⟨rfl, hb⟩; refine ⟨_, rfl, ?_⟩; have n0_ := Aside0.mk (Kd.R_below (by (with_reducible repeat (first | apply Kd.R_alloc | apply Kd.R_drewN | apply Kd.R_drew)); exact HO_3.out) hb); have n1_ := Aside0.mk (Kd.R_below (by (with_reducible repeat (first | apply Kd.R_alloc | apply Kd.R_drewN | apply Kd.R_drew)); exact HO_4.out) hb); have n2_ := Aside0.mk (below_step (by repeat (first | (with_reducible first | exact HB.out | apply below_alloc | apply pw_below_drewN | apply below_drew1) | exact HB.out)) hb); clear HO_3; clear HO_4; clear HB; have HO_3 := n0_; have HO_4 := n1_; have HB := n2_; clear n0_ n1_ n2_; (try clear hb); (try clear hb2); (try clear hk); (try clear hi)))
        go_ret
        exact ⟨by first | rfl | (simp [errW_none, errW_some] <;> rfl) | (simp [*, errW_none, errW_some] <;> rfl), by repeat (first | (with_reducible first | exact HB.out | apply below_alloc | apply pw_below_drewN | apply below_drew1) | exact HB.out)⟩
end Go.Proofs.YthcpdhniakpbaaaDoor.X
end

section
namespace Go.Proofs.YthcpdhniakpbaaaDoor.X
open Go.RowKit Go.Proofs.YthcpdhniakpbaaaDoorW.PrintWords Go.Proofs.YthcpdhniakpbaaaDoorW.PrintLast Go.Proofs.YthcpdhniakpbaaaDoorW.PrintMore
attribute [local go_sem] max2_int min2_int max_two min_two max_three min_three max_four min_four
set_option linter.unusedVariables false
set_option linter.unusedSimpArgs false
def bookplateref05_Marks.l0 : Nat → List Int → Int → Int → Option (Int)
  | 0, _, _, _ => none
  | k + 1, x3, x4, x5 => if x5 < (x3.length : Int) then (if 0 ≤ x5 then ((bookplateref05_class.f k (rd x3 x5)).bind fun t366 => (if t366 > 0 then (bookplateref05_Marks.l0 k x3 (wrap64 (x4 + 1)) (wrap64 (x5 + 1))) else (bookplateref05_Marks.l0 k x3 x4 (wrap64 (x5 + 1))))) else (none)) else (some x4)
def bookplateref05_Marks.f (k : Nat) (a0 : ByteArray) : Option (Int) := (bookplateref05_decomposed.f k a0).bind fun t362 => (bookplateref05_Marks.l0 k t362 0 0)
set_option maxHeartbeats 8000000 in
set_option maxRecDepth 100000 in
theorem bookplateref05_Marks.calls (k : Nat) (a0 : ByteArray) (r : Int) (w : World) (h : bookplateref05_Marks.f k a0 = some r) :
    Calls Tryd.prog 47 #[.string a0] w fun e w' => e = .returned (.int .i64 r) ∧ Below w.heap.size w w' := by
  have HB := Aside0.mk (Below.refl w.heap.size w)
  have H : ((bookplateref05_decomposed.f k a0).bind fun t362 => (bookplateref05_Marks.l0 k t362 0 0)) = some r := h
  clear h
  replace H := Option.bind_eq_some_iff.mp H
  obtain ⟨t362, A20, H⟩ := H
  replace H : (bookplateref05_Marks.l0 k t362 0 0) = some r := H
  have A2 := Aside0.mk A20
  clear A20
  have H' := Aside0.mk H
  clear H
  go_enter Tryd.func47, Tryd.ntmps47
  go_wp2_with (first | ((with_reducible refine gate_callee (f := 66) rfl ?_); refine goesL_ (some 7) rfl rfl Tryd.func66 (by kernel_rfl) rfl #[.string a0] rfl (by (try simp only [List.map_toArray, List.map_cons, List.map_nil]); first | done | rfl | (simp only [List.length_drop, List.length_take]; rfl)) ?_; (with_reducible refine (bookplateref05_decomposed.calls k a0 t362 _ A2.out).mono ?_); rintro e w3 ⟨v363, rfl, ho0, hb⟩; refine ⟨_, rfl, ?_⟩; have n0_ := Aside0.mk (Kd.R_lower ho0 (below_size (by repeat (first | (with_reducible first | exact HB.out | apply below_alloc | apply pw_below_drewN | apply below_drew1) | exact HB.out)))); have n1_ := Aside0.mk (below_step (by repeat (first | (with_reducible first | exact HB.out | apply below_alloc | apply pw_below_drewN | apply below_drew1) | exact HB.out)) hb); clear HB; have HO364 := n0_; have HB := n1_; clear n0_ n1_; (try clear hb); (try clear hb2); (try clear hk); (try clear hi); (try clear ho0)))
  go_loopg [4, 5] k (fun kq v4 v5 w' => ∃ (x4_1 : Int) (x5_1 : Int), v4 = .int .i64 x4_1 ∧ v5 = .int .i64 x5_1 ∧ Aside0 (bookplateref05_Marks.l0 kq t362 x4_1 x5_1 = some r) ∧ Aside0 (kq ≤ k) ∧ Aside0 (Kd.R (Kd.int .i64) 3 w' w.heap.size (fun _ => True) v363 t362) ∧ Aside0 (Below w.heap.size w w'))
  case atStart => exact ⟨(0), (0), (by first | rfl | (simp; done) | (simp [*]; done)), (by first | rfl | (simp; done) | (simp [*]; done)), H', ⟨Nat.le_refl _⟩, ⟨by (with_reducible repeat (first | apply Kd.R_alloc | apply Kd.R_drewN | apply Kd.R_drew)); exact HO364.out⟩, ⟨by repeat (first | (with_reducible first | exact HB.out | apply below_alloc | apply pw_below_drewN | apply below_drew1) | exact HB.out)⟩⟩
  case round =>
    clear H'
    try clear p2
    obtain ⟨x4_1, x5_1, rfl, rfl, HA, HK1, HO_3, HB⟩ := hrel
    cases gk with
    | zero => exact absurd HA.out (by simp [bookplateref05_Marks.l0])
    | succ k1 =>
      have H := HA.out
      clear HA
      simp only [bookplateref05_Marks.l0] at H
      by_cases c4 : x5_1 < (t362.length : Int)
      · rw [if_pos c4] at H
        have c4b0 : decide (x5_1 < (t362.length : Int)) = true := decide_eq_true c4
        clear c4
        by_cases c5 : 0 ≤ x5_1
        · rw [if_pos c5] at H
          have c5b0 : decide (0 ≤ x5_1) = true := decide_eq_true c5
          clear c5
          replace H := Option.bind_eq_some_iff.mp H
          obtain ⟨t366, A60, H⟩ := H
          replace H : (if t366 > 0 then (bookplateref05_Marks.l0 k1 t362 (wrap64 (x4_1 + 1)) (wrap64 (x5_1 + 1))) else (bookplateref05_Marks.l0 k1 t362 x4_1 (wrap64 (x5_1 + 1)))) = some r := H
          have A6 := Aside0.mk A60
          clear A60
          by_cases c7 : t366 > 0
          · rw [if_pos c7] at H
            have c7b0 : decide (0 < t366) = true := decide_eq_true c7
            clear c7
            have H' := Aside0.mk H
            clear H
            obtain ⟨Ao8, co8, eo8⟩ := Kd.R_slice HO_3.out
            subst eo8
            have p365 : 0 ≤ (x5_1 : Int) := of_decide_eq_true (by first | (with_reducible assumption) | assumption)
            have q365 : x5_1 < (t362.length : Int) := of_decide_eq_true (by first | (with_reducible assumption) | assumption)
            obtain ⟨ad365, e365, hx365_0⟩ := Kd.at_int (Kd.R_reads' HO_3.out).2.2 x5_1 p365 q365
            cases e365
            replace p365 := eq_true p365
            replace q365 := eq_true q365
            go_wp2_with (first | ((with_reducible refine gate_callee (f := 70) rfl ?_); refine goesL_ (some 18) rfl rfl Tryd.func70 (by kernel_rfl) rfl #[.int .i64 (rd t362 x5_1)] rfl (by (try simp only [List.map_toArray, List.map_cons, List.map_nil]); first | done | rfl | (simp only [List.length_drop, List.length_take]; rfl)) ?_; (with_reducible refine (bookplateref05_class.calls k1 (rd t362 x5_1) t366 _ A6.out).mono ?_); rintro e w' ⟨rfl, ⟨nd, rfl⟩⟩; refine ⟨_, rfl, ?_⟩))
            go_roundg k1
            case measure => have := HK1.out; omega
            case rel => exact ⟨(wrap64 (x4_1 + 1)), (wrap64 (x5_1 + 1)), (by first | rfl | (simp; done) | (simp [*]; done)), (by first | rfl | (simp; done) | (simp [*]; done)), H', ⟨by have := HK1.out; omega⟩, ⟨by (with_reducible repeat (first | apply Kd.R_alloc | apply Kd.R_drewN | apply Kd.R_drew)); exact HO_3.out⟩, ⟨by repeat (first | (with_reducible first | exact HB.out | apply below_alloc | apply pw_below_drewN | apply below_drew1) | exact HB.out)⟩⟩
          · rw [if_neg c7] at H
            have c7b0 : decide (0 < t366) = false := decide_eq_false c7
            clear c7
            have H' := Aside0.mk H
            clear H
            obtain ⟨Ao9, co9, eo9⟩ := Kd.R_slice HO_3.out
            subst eo9
            have p365 : 0 ≤ (x5_1 : Int) := of_decide_eq_true (by first | (with_reducible assumption) | assumption)
            have q365 : x5_1 < (t362.length : Int) := of_decide_eq_true (by first | (with_reducible assumption) | assumption)
            obtain ⟨ad365, e365, hx365_0⟩ := Kd.at_int (Kd.R_reads' HO_3.out).2.2 x5_1 p365 q365
            cases e365
            replace p365 := eq_true p365
            replace q365 := eq_true q365
            go_wp2_with (first | ((with_reducible refine gate_callee (f := 70) rfl ?_); refine goesL_ (some 18) rfl rfl Tryd.func70 (by kernel_rfl) rfl #[.int .i64 (rd t362 x5_1)] rfl (by (try simp only [List.map_toArray, List.map_cons, List.map_nil]); first | done | rfl | (simp only [List.length_drop, List.length_take]; rfl)) ?_; (with_reducible refine (bookplateref05_class.calls k1 (rd t362 x5_1) t366 _ A6.out).mono ?_); rintro e w' ⟨rfl, ⟨nd, rfl⟩⟩; refine ⟨_, rfl, ?_⟩))
            go_roundg k1
            case measure => have := HK1.out; omega
            case rel => exact ⟨(x4_1), (wrap64 (x5_1 + 1)), (by first | rfl | (simp; done) | (simp [*]; done)), (by first | rfl | (simp; done) | (simp [*]; done)), H', ⟨by have := HK1.out; omega⟩, ⟨by (with_reducible repeat (first | apply Kd.R_alloc | apply Kd.R_drewN | apply Kd.R_drew)); exact HO_3.out⟩, ⟨by repeat (first | (with_reducible first | exact HB.out | apply below_alloc | apply pw_below_drewN | apply below_drew1) | exact HB.out)⟩⟩
        · rw [if_neg c5] at H
          exact absurd H (by simp)
      · rw [if_neg c4] at H
        have c4b0 : decide (x5_1 < (t362.length : Int)) = false := decide_eq_false c4
        clear c4
        obtain rfl := Option.some.inj H
        obtain ⟨Ao10, co10, eo10⟩ := Kd.R_slice HO_3.out
        subst eo10
        go_wp2
        go_ret
        exact ⟨by first | rfl | (simp [errW_none, errW_some] <;> rfl) | (simp [*, errW_none, errW_some] <;> rfl), by repeat (first | (with_reducible first | exact HB.out | apply below_alloc | apply pw_below_drewN | apply below_drew1) | exact HB.out)⟩
end Go.Proofs.YthcpdhniakpbaaaDoor.X
end

section
namespace Go.Proofs.YthcpdhniakpbaaaDoor.X
open Go.RowKit Go.Sort Go.Lib Go.Proofs.YthcpdhniakpbaaaDoorW.PrintWords Go.Proofs.YthcpdhniakpbaaaDoorW.PrintLast Go.Proofs.YthcpdhniakpbaaaDoorW.PrintMore
set_option linter.unusedVariables false
set_option linter.unusedSimpArgs false
def Ev {α : Type} (g : Nat → Option α) (r : α) : Prop := ∃ K, ∀ k, K ≤ k → g k = some r
theorem Ev.const {α : Type} (r : α) : Ev (fun _ => some r) r := ⟨0, fun _ _ => rfl⟩
theorem Ev.of {α : Type} {g : Nat → Option α} {r : α} (h : ∀ k, g k = some r) : Ev g r := ⟨0, fun k _ => h k⟩
theorem Ev.step {α : Type} {g g' : Nat → Option α} {r : α} (h : ∀ k, g (k + 1) = g' k) (e : Ev g' r) : Ev g r := by
  obtain ⟨K, hK⟩ := e
  refine ⟨K + 1, fun k hk => ?_⟩
  obtain ⟨q, rfl⟩ : ∃ q, k = q + 1 := ⟨k - 1, by omega⟩
  rw [h, hK q (by omega)]
theorem Ev.congr {α : Type} {g g' : Nat → Option α} {r : α} (h : ∀ k, g k = g' k) (e : Ev g' r) : Ev g r := by
  obtain ⟨K, hK⟩ := e
  exact ⟨K, fun k hk => by rw [h, hK k hk]⟩
theorem Ev.bind {α β : Type} {g : Nat → Option α} {h : Nat → α → Option β} {a : α} {r : β} (e : Ev g a) (e' : Ev (fun k => h k a) r) : Ev (fun k => (g k).bind (h k)) r := by
  obtain ⟨K, hK⟩ := e
  obtain ⟨L, hL⟩ := e'
  exact ⟨max K L, fun k hk => by show (g k).bind (h k) = _; rw [hK k (by omega)]; exact hL k (by omega)⟩
theorem Ev.get {α : Type} {g : Nat → Option α} {r : α} (e : Ev g r) : ∃ k, g k = some r := by
  obtain ⟨K, hK⟩ := e
  exact ⟨K, hK K (Nat.le_refl _)⟩
theorem ev_decode (s : ByteArray) (hs : s.size ≤ 1000000) : Ev (fun k => bookplateref04_Decode.f k s) (decR [] s.data.toList) := ⟨s.size + 301, fun k hk => refDecode_eq s (by omega) k hk⟩
theorem ev_encode (l : List Int) (hl : l.length ≤ 1000000) (hh : ∀ c ∈ l, hasS c = true) : Ev (fun k => bookplateref04_Encode.f k l) (⟨(encL l).toArray⟩, true) := ⟨l.length + 301, fun k hk => refEncode_eq l hl hh k hk⟩
def mcl (c : Int) : Int := if isMk c = true then clsN c else 0
theorem mcl_pos {c : Int} : mcl c > 0 ↔ isMk c = true := by
  unfold mcl
  have := clsN_range c
  split
  · rename_i h; simp [h]; omega
  · rename_i h; simp [h]
theorem ev_class (c : Int) (hc : hasS c = true) : Ev (fun k => bookplateref05_class.f k c) (mcl c) := by
  have hr := hasS_range hc
  refine ⟨301, fun k hk => ?_⟩
  obtain ⟨q, rfl⟩ : ∃ q, k = q + 1 := ⟨k - 1, by omega⟩
  show bookplateref05_class.f (q + 1) c = _
  unfold bookplateref05_class.f
  rw [refClass_eq c (q + 1) (by omega) (by omega)]
  simp only [Option.bind_some]
  by_cases h2 : (classS c).2 = 2
  · have hm : isMk c = true := by unfold isMk; simp [h2]
    rw [if_pos h2]
    unfold mcl
    rw [if_pos hm]
    unfold clsN
    by_cases h3 : c = 807
    · subst h3; rfl
    · by_cases h4 : c = 808
      · subst h4; rfl
      · by_cases h5 : c = 803
        · subst h5; rfl
        · rw [if_neg h3, if_neg (by rintro (h | h); exact h3 h; exact h4 h), if_neg h5, bookplateref05_class.j0, show (c == 808) = false from by rw [beq_eq_false_iff_ne]; exact h4]
          rw [if_neg (by decide), if_neg h5]
  · have hm : ¬ isMk c = true := by unfold isMk; simp [h2]
    rw [if_neg h2]
    unfold mcl
    rw [if_neg hm]
def to96 (r : NRow) : S96 := ⟨r.mark, r.lb, r.bb⟩
def rows96 : List S96 := nrows.map to96
theorem rows96_eq : bookplateref05_rows.f = some rows96 := by kernel_rfl
theorem rows96_len : (rows96.length : Int) = 13 := rfl
theorem rows96_rd {i : Nat} (h : i < 13) : rd_T96 rows96 (i : Int) = to96 (nr i) := by
  have h1 : i < nrows.length := h
  unfold rd_T96 rows96 nr
  simp [h1]
theorem dec_letters {r : NRow} (h : r ∈ nrows) : decR [] r.lb.data.toList = (r.l, true) ∧ decR [] r.bb.data.toList = (r.b, true) := by
  obtain ⟨h1, h2, _⟩ := row_str h
  have h3 := row_has h
  have e1 : r.lb.data.toList = encL r.l := by unfold strB at h1; simp only [Bool.and_eq_true, beq_iff_eq] at h1; exact h1.1.1.1.1
  have e2 : r.bb.data.toList = encL r.b := by unfold strB at h2; simp only [Bool.and_eq_true, beq_iff_eq] at h2; exact h2.1.1.1.1
  rw [e1, e2]
  unfold decR
  rw [decS_enc hasS r.l (fun c hc => ⟨hasS_ok (h3.2.1 c hc), h3.2.1 c hc⟩), decS_enc hasS r.b (fun c hc => ⟨hasS_ok (h3.1 c hc), h3.1 c hc⟩)]
  exact ⟨by simp, by simp⟩
theorem row_sizes {r : NRow} (h : r ∈ nrows) : r.lb.size ≤ 1000000 ∧ r.bb.size ≤ 1000000 := by
  obtain ⟨h1, h2, _⟩ := row_str h
  unfold strB at h1 h2
  simp only [Bool.and_eq_true, decide_eq_true_eq] at h1 h2
  have := h1.1.1.2
  have := h2.1.1.2
  omega
theorem ev_letters {r : NRow} (h : r ∈ nrows) : Ev (fun k => bookplateref04_Decode.f k r.lb) (r.l, true) ∧ Ev (fun k => bookplateref04_Decode.f k r.bb) (r.b, true) := by
  have h1 := ev_decode r.lb (row_sizes h).1
  have h2 := ev_decode r.bb (row_sizes h).2
  rw [(dec_letters h).1] at h1
  rw [(dec_letters h).2] at h2
  exact ⟨h1, h2⟩
theorem plc_at {xs : List Int} {c : Int} {j : Nat} (hj : j < xs.length) (he : xs[j] = c) (hn : c ∉ xs.take j) : plc xs c = j := by
  have hm : c ∈ xs := by rw [← he]; exact List.getElem_mem hj
  unfold plc
  rw [if_pos hm]
  have hsp : xs = xs.take j ++ xs.drop j := (List.take_append_drop j xs).symm
  have hd : xs.drop j = c :: xs.drop (j + 1) := by rw [List.drop_eq_getElem_cons hj, he]
  have : xs.takeWhile (fun y => y != c) = xs.take j := by
    conv => lhs; rw [hsp, List.takeWhile_append_of_pos (fun x hx => by simpa using fun e => hn (by rw [← e]; exact hx)), hd]
    simp
  rw [this]
  simp
  omega
theorem rd_get {xs : List Int} {j : Nat} (hj : j < xs.length) : rd xs (j : Int) = xs[j] := by unfold rd; simp [hj]
theorem w64n (n : Nat) (h : n < 1000000000000) : wrap64 ((n : Int) + 1) = ((n + 1 : Nat) : Int) := by unfold wrap64; omega
def pairR (c : Int) : List NRow → Int × Int
  | [] => (0, 0)
  | r :: rs => if c ∈ r.l then (at0 r.b (plc r.l c), r.mark) else pairR c rs
theorem pair_l1 {c : Int} {i : Nat} (hi : i < 13) {X : Int × Int} (hX : Ev (fun k => bookplateref05_pair.l0 k c rows96 ((i + 1 : Nat) : Int)) X) : ∀ (n j : Nat), (nr i).l.length ≤ j + n → j ≤ (nr i).l.length → c ∉ (nr i).l.take j →
    Ev (fun k => bookplateref05_pair.l1 k c rows96 (i : Int) (nr i).l (nr i).b (j : Int)) (if c ∈ (nr i).l then (at0 (nr i).b (plc (nr i).l c), (nr i).mark) else X) := by
  have hm := nr_mem hi
  have hb := row_bounds hm
  have hl := (row_str hm).2.2
  have hrd := rows96_rd hi
  generalize nr i = r at hm hb hl hrd
  intro n
  induction n with
  | zero =>
    intro j h1 h2 h3
    have hj : j = r.l.length := by omega
    subst hj
    rw [List.take_length] at h3
    rw [if_neg h3]
    refine Ev.step (fun k => ?_) hX
    rw [bookplateref05_pair.l1, if_neg (by omega), w64n i (by omega)]
  | succ n ih =>
    intro j h1 h2 h3
    by_cases hj : j < r.l.length
    · by_cases he : r.l[j] = c
      · have hmem : c ∈ r.l := by rw [← he]; exact List.getElem_mem hj
        rw [if_pos hmem, plc_at hj he h3]
        refine Ev.step (g' := fun _ => some (at0 r.b (j : Int), r.mark)) (fun k => ?_) (Ev.const _)
        rw [bookplateref05_pair.l1, if_pos (by omega), if_pos (by omega), rd_get hj, if_pos he, if_pos (by omega), if_pos (by omega), if_pos (by rw [rows96_len]; omega), hrd]
        rfl
      · have h3' : c ∉ r.l.take (j + 1) := by
          rw [List.take_succ_eq_append_getElem hj]
          intro hm
          rcases List.mem_append.1 hm with hm | hm
          · exact h3 hm
          · exact he (List.mem_singleton.1 hm).symm
        refine Ev.step (fun k => ?_) (ih (j + 1) (by omega) (by omega) h3')
        rw [bookplateref05_pair.l1, if_pos (by omega), if_pos (by omega), rd_get hj, if_neg he, w64n j (by omega)]
    · have hj : j = r.l.length := by omega
      subst hj
      rw [List.take_length] at h3
      rw [if_neg h3]
      refine Ev.step (fun k => ?_) hX
      rw [bookplateref05_pair.l1, if_neg (by omega), w64n i (by omega)]
theorem pair_l0 (c : Int) : ∀ (n i : Nat), 13 ≤ i + n → i ≤ 13 → Ev (fun k => bookplateref05_pair.l0 k c rows96 (i : Int)) (pairR c (nrows.drop i)) := by
  intro n
  induction n with
  | zero =>
    intro i h1 h2
    obtain rfl : i = 13 := by omega
    refine Ev.step (g' := fun _ => some (0, 0)) (fun k => ?_) (Ev.const _)
    rw [bookplateref05_pair.l0, if_neg (by rw [rows96_len]; omega)]
  | succ n ih =>
    intro i h1 h2
    by_cases hi : i < 13
    · have hX := ih (i + 1) (by omega) (by omega)
      rw [nr_drop hi, pairR]
      have hev := ev_letters (nr_mem hi)
      refine Ev.step (g' := fun k => (bookplateref04_Decode.f k (nr i).lb).bind fun a => (bookplateref04_Decode.f k (nr i).bb).bind fun b => bookplateref05_pair.l1 k c rows96 (i : Int) a.1 b.1 0) (fun k => ?_) ?_
      · rw [bookplateref05_pair.l0, if_pos (by rw [rows96_len]; omega), if_pos (by omega), rows96_rd hi]
        rfl
      · refine Ev.bind hev.1 ?_
        refine Ev.bind hev.2 ?_
        exact pair_l1 hi hX (nr i).l.length 0 (by omega) (by omega) (by simp)
    · obtain rfl : i = 13 := by omega
      refine Ev.step (g' := fun _ => some (0, 0)) (fun k => ?_) (Ev.const _)
      rw [bookplateref05_pair.l0, if_neg (by rw [rows96_len]; omega)]
theorem ev_pair (c : Int) : Ev (fun k => bookplateref05_pair.f k c) (pairR c nrows) := by
  refine Ev.congr (fun k => ?_) (pair_l0 c 13 0 (by omega) (by omega))
  unfold bookplateref05_pair.f
  rw [rows96_eq]
  rfl
theorem pairR_split (c : Int) : ∀ rs : List NRow, (∀ r ∈ rs, r ∈ nrows) → splitR c rs = if (pairR c rs).1 = 0 then [c] else [(pairR c rs).1, (pairR c rs).2]
  | [], _ => rfl
  | r :: rs, h => by
    rw [splitR, pairR]
    split
    · rename_i hm
      have hrn := h r (by simp)
      have := (row_has hrn).1 _ (at0_mem (plc_ge.2 hm) (by have := plc_lt hm; have := (row_str hrn).2.2; omega))
      have hr := hasS_range this
      rw [if_neg (by simp only; omega)]
    · exact pairR_split c rs (fun r' h' => h r' (by simp [h']))
theorem low_split {c : Int} (h0 : 128 ≤ c) (h1 : c < 192) : splitR c nrows = [c] := by
  have : ∀ rs : List NRow, (∀ r ∈ rs, r ∈ nrows) → splitR c rs = [c] := by
    intro rs
    induction rs with
    | nil => intro _; rfl
    | cons r rs ih =>
      intro h
      rw [splitR, if_neg (fun hm => ?_)]
      · exact ih (fun r' h' => h r' (by simp [h']))
      · have hl : nrows.all (fun r => r.l.all fun x => decide (192 ≤ x)) = true := by decide +kernel
        have := List.all_eq_true.1 (List.all_eq_true.1 hl r (h r (by simp))) c hm
        have := of_decide_eq_true this
        omega
  exact this nrows (fun _ h => h)
theorem ev_whole (c : Int) (hc : hasS c = true) : Ev (fun k => bookplateref05_whole.f k c) (splitS c) := by
  have hr := hasS_range hc
  unfold splitS
  by_cases h1 : c = 160
  · rw [if_pos h1]; exact Ev.of fun k => by unfold bookplateref05_whole.f; rw [if_pos h1]
  rw [if_neg h1]
  by_cases h2 : c = 185
  · rw [if_pos h2]; exact Ev.of fun k => by unfold bookplateref05_whole.f; rw [if_neg h1, if_pos h2]
  rw [if_neg h2]
  by_cases h3 : c = 178 ∨ c = 179
  · rw [if_pos h3]
    refine Ev.step (g' := fun _ => some [c - 176 + 48]) (fun k => ?_) (Ev.const _)
    unfold bookplateref05_whole.f
    rw [if_neg h1, if_neg h2]
    rcases h3 with h3 | h3
    · subst h3; rw [if_pos rfl, bookplateref05_whole.j0, if_pos rfl]; unfold wrap64; rfl
    · subst h3; rw [if_neg (by decide), bookplateref05_whole.j0, if_pos (by decide)]; unfold wrap64; rfl
  rw [if_neg h3]
  have hj : ∀ k, bookplateref05_whole.f k c = bookplateref05_whole.j0 k c false := fun k => by
    unfold bookplateref05_whole.f
    rw [if_neg h1, if_neg h2, if_neg (fun e => h3 (.inl e)), show (c == 179) = false from by rw [beq_eq_false_iff_ne]; exact fun e => h3 (.inr e)]
  refine Ev.congr hj ?_
  by_cases h4 : c = 383
  · rw [if_pos h4]; exact Ev.step (g' := fun _ => some [115]) (fun k => by rw [bookplateref05_whole.j0, if_neg (by decide), if_pos h4]) (Ev.const _)
  rw [if_neg h4]
  by_cases h5 : c = 64257
  · rw [if_pos h5]; exact Ev.step (g' := fun _ => some [102, 105]) (fun k => by rw [bookplateref05_whole.j0, if_neg (by decide), if_neg h4, if_pos h5]) (Ev.const _)
  rw [if_neg h5]
  by_cases h6 : c = 64258
  · rw [if_pos h6]; exact Ev.step (g' := fun _ => some [102, 108]) (fun k => by rw [bookplateref05_whole.j0, if_neg (by decide), if_neg h4, if_neg h5, if_pos h6]) (Ev.const _)
  rw [if_neg h6]
  by_cases h7 : 65281 ≤ c
  · rw [if_pos h7]
    refine Ev.step (g' := fun k => bookplateref05_whole.j1 k c true) (fun k => by rw [bookplateref05_whole.j0, if_neg (by decide), if_neg h4, if_neg h5, if_neg h6, if_pos h7, decide_eq_true (by omega : c ≤ 65374)]) ?_
    exact Ev.step (g' := fun _ => some [c - 65248]) (fun k => by rw [bookplateref05_whole.j1, if_pos rfl]; unfold wrap64; congr 2; omega) (Ev.const _)
  rw [if_neg h7]
  refine Ev.step (g' := fun k => bookplateref05_whole.j1 k c false) (fun k => by rw [bookplateref05_whole.j0, if_neg (by decide), if_neg h4, if_neg h5, if_neg h6, if_neg h7]) ?_
  by_cases h8 : c < 192
  · have e : (if c < 128 then [c] else splitR c nrows) = [c] := by
      split
      · rfl
      · exact low_split (by omega) h8
    rw [e]
    exact Ev.step (g' := fun _ => some [c]) (fun k => by rw [bookplateref05_whole.j1, if_neg (by decide), if_pos h8]) (Ev.const _)
  · rw [if_neg (by omega), pairR_split c nrows (fun _ h => h)]
    refine Ev.step (fun k => by rw [bookplateref05_whole.j1, if_neg (by decide), if_neg h8]) (Ev.bind (ev_pair c) ?_)
    split
    · exact Ev.const _
    · exact Ev.const _
end Go.Proofs.YthcpdhniakpbaaaDoor.X
end

section
namespace Go.Proofs.YthcpdhniakpbaaaDoor.X
open Go.RowKit Go.Sort Go.Lib Go.Proofs.YthcpdhniakpbaaaDoorW.PrintWords Go.Proofs.YthcpdhniakpbaaaDoorW.PrintLast Go.Proofs.YthcpdhniakpbaaaDoorW.PrintMore
set_option linter.unusedVariables false
set_option linter.unusedSimpArgs false
structure Tail (A S : List Int) : Prop where
  last : ∀ A' c, A = A' ++ [c] → isMk c = false
  marks : ∀ x ∈ S, isMk x = true
  srt : Srt S
  has : ∀ x ∈ A ++ S, hasS x = true
def stepR (st : List Int × List Int) (x : Int) : List Int × List Int := if isMk x = true then (st.1, sortS (st.2 ++ [x])) else (st.1 ++ st.2 ++ [x], [])
def outR (st : List Int × List Int) : List Int := st.1 ++ st.2
theorem Tail.mark {A S : List Int} {x : Int} (h : Tail A S) (hm : isMk x = true) : Tail A (sortS (S ++ [x])) where
  last := h.last
  marks y hy := by
    rcases List.mem_append.1 (sortS_mem.1 hy) with hy | hy
    · exact h.marks y hy
    · obtain rfl := List.mem_singleton.1 hy; exact hm
  srt := sortS_srt _
  has y hy := by
    rcases List.mem_append.1 hy with hy | hy
    · exact h.has y (List.mem_append_left _ hy)
    · rcases List.mem_append.1 (sortS_mem.1 hy) with hy | hy
      · exact h.has y (List.mem_append_right _ hy)
      · obtain rfl := List.mem_singleton.1 hy; exact isMk_has hm
theorem Tail.other {A S : List Int} {x : Int} (h : Tail A S) (hm : isMk x = false) (hx : hasS x = true) : Tail (A ++ S ++ [x]) [] where
  last A' c e := by
    have := List.append_inj_right' e rfl
    injection this with this _
    rw [← this]; exact hm
  marks y hy := by simp at hy
  srt := by simp [Srt]
  has y hy := by
    rw [List.append_nil] at hy
    rcases List.mem_append.1 hy with hy | hy
    · exact h.has y hy
    · obtain rfl := List.mem_singleton.1 hy; exact hx
theorem Tail.nil : Tail [] [] := ⟨fun A' c e => by simp at e, by simp, by simp [Srt], by simp⟩
theorem runS_sortS {M l : List Int} (hM : ∀ x ∈ M, isMk x = true) : runS (sortS M ++ l) = runS (M ++ l) := by
  have hm : ∀ x ∈ sortS M, isMk x = true := fun x hx => hM x (sortS_mem.1 hx)
  rw [runS_eq, runS_eq (M ++ l), List.takeWhile_append_of_pos hm, List.dropWhile_append_of_pos hm, List.takeWhile_append_of_pos hM, List.dropWhile_append_of_pos hM]
  congr 1
  have := sortS_in [] M (l.takeWhile isMk)
  simpa using this
theorem fold_run : ∀ (l A S : List Int), (∀ x ∈ S, isMk x = true) → Srt S → outR (l.foldl stepR (A, S)) = A ++ runS (S ++ l)
  | [], A, S, hm, hs => by
    have h2 := runS_marks hm NoHead.nil
    rw [runS_nil, List.append_nil, List.append_nil] at h2
    rw [List.append_nil, h2, sortS_id hs]; rfl
  | x :: l, A, S, hm, hs => by
    rw [List.foldl_cons]
    unfold stepR
    cases hx : isMk x with
    | true =>
      have hm2 : ∀ y ∈ S ++ [x], isMk y = true := fun y hy => by
        rcases List.mem_append.1 hy with hy | hy
        · exact hm y hy
        · obtain rfl := List.mem_singleton.1 hy; exact hx
      rw [if_pos rfl]
      have := fold_run l A (sortS (S ++ [x])) (fun y hy => hm2 y (sortS_mem.1 hy)) (sortS_srt _)
      unfold stepR at this
      rw [this, runS_sortS hm2]
      simp
    | false =>
      rw [if_neg (by decide)]
      have := fold_run l (A ++ S ++ [x]) [] (by simp) (by simp [Srt])
      unfold stepR at this
      rw [this, runS_marks hm (NoHead.cons hx), sortS_id hs, runS_cons hx]
      simp
theorem rd_split (p : List Int) (x : Int) (q : List Int) (i : Int) (hi : i = (p.length : Int)) : rd (p ++ x :: q) i = x := by
  subst hi
  unfold rd
  simp
theorem w64i {n : Int} (h0 : 0 ≤ n) (h1 : n < 1000000000000) : wrap64 (n - 1) = n - 1 := by unfold wrap64; omega
theorem l2_step (cs x7 : List Int) (x6 x8 : Int) (P E : List Int) (x y : Int) (hl : P.length < 1000000) (k : Nat) :
    bookplateref05_decomposed.l2 (k + 1) cs (P ++ y :: (x :: E)) x6 x7 x8 ((P.length : Int) + 1) =
      (bookplateref05_class.f k x).bind fun t281 => if t281 > 0 then (bookplateref05_class.f k y).bind fun t283 => (bookplateref05_class.f k x).bind fun t285 => if t283 > t285 then bookplateref05_decomposed.l2 k cs (P ++ x :: (y :: E)) x6 x7 x8 (P.length : Int) else bookplateref05_decomposed.l1 k cs (P ++ y :: (x :: E)) x6 x7 (wrap64 (x8 + 1)) else bookplateref05_decomposed.l1 k cs (P ++ y :: (x :: E)) x6 x7 (wrap64 (x8 + 1)) := by
  have hw : wrap64 ((P.length : Int) + 1 - 1) = (P.length : Int) := by unfold wrap64; omega
  have r1 : rd (P ++ y :: (x :: E)) ((P.length : Int) + 1) = x := by
    rw [show P ++ y :: (x :: E) = (P ++ [y]) ++ x :: E by simp]
    exact rd_split _ _ _ _ (by simp)
  have r2 : rd (P ++ y :: (x :: E)) (P.length : Int) = y := rd_split _ _ _ _ rfl
  have hset : ((P ++ y :: (x :: E)).set (P.length : Int).toNat x).set ((P.length : Int) + 1).toNat y = P ++ x :: (y :: E) := by
    rw [Int.toNat_natCast, show ((P.length : Int) + 1).toNat = P.length + 1 by omega, List.set_append_right _ _ (Nat.le_refl _), Nat.sub_self, List.set_cons_zero, List.set_append_right _ _ (by omega), show P.length + 1 - P.length = 1 by omega]
    rfl
  have hlen : (((P ++ y :: (x :: E)).length : Nat) : Int) = (P.length : Int) + 2 + (E.length : Int) := by simp; omega
  rw [bookplateref05_decomposed.l2, if_pos (by omega), if_pos (by omega), if_pos (by rw [hlen]; omega), hw, r1, r2, if_pos (by omega), if_pos (by rw [hlen]; omega), hset]
theorem dec_l2 {cs x7 R : List Int} {x6 : Int} {x8 : Int} : ∀ (n : Nat) (u A E : List Int) (x : Int), u.length = n → (∀ A' c, A = A' ++ [c] → isMk c = false) → (∀ y ∈ u, isMk y = true) → Srt u → isMk x = true → (∀ y ∈ A, hasS y = true) → A.length + u.length < 1000000 →
    Ev (fun k => bookplateref05_decomposed.l1 k cs (A ++ sortS (u ++ [x]) ++ E) x6 x7 (wrap64 (x8 + 1))) R →
    Ev (fun k => bookplateref05_decomposed.l2 k cs (A ++ u ++ x :: E) x6 x7 x8 ((A.length : Int) + (u.length : Int))) R := by
  intro n
  induction n with
  | zero =>
    intro u A E x hu hA hm hs hx hh hl hE
    obtain rfl := List.length_eq_zero_iff.1 hu
    have e1 : sortS ([] ++ [x]) = [x] := sortS_id (by simp [Srt])
    have e2 : A ++ sortS ([] ++ [x]) ++ E = A ++ [] ++ x :: E := by rw [e1]; simp
    rw [e2] at hE
    by_cases hA0 : A = []
    · subst hA0
      refine Ev.step (fun k => ?_) hE
      rw [bookplateref05_decomposed.l2, if_neg (by simp)]
    · obtain ⟨A', c, rfl⟩ : ∃ A' c, A = A' ++ [c] := ⟨_, _, (List.dropLast_concat_getLast hA0).symm⟩
      have hc := hA A' c rfl
      have hcx := ev_class x (isMk_has hx)
      have hcc := ev_class c (hh c (by simp))
      have m1 : mcl x > 0 := mcl_pos.2 hx
      have m2 : mcl c = 0 := by unfold mcl; rw [if_neg (by rw [hc]; decide)]
      have e3 : A' ++ [c] ++ [] ++ x :: E = A' ++ c :: (x :: E) := by simp
      have e4 : (((A' ++ [c]).length : Nat) : Int) + ((([] : List Int).length : Nat) : Int) = (A'.length : Int) + 1 := by simp
      rw [e3] at hE ⊢
      rw [e4]
      refine Ev.step (l2_step cs x7 x6 x8 A' E x c (by simp at hl; omega)) (Ev.bind hcx ?_)
      refine Ev.congr (fun k => if_pos m1) (Ev.bind hcc ?_)
      refine Ev.bind hcx ?_
      exact Ev.congr (fun k => if_neg (by omega)) hE
  | succ n ih =>
    intro u A E x hu hA hm hs hx hh hl hE
    have hne : u ≠ [] := fun e' => by rw [e'] at hu; simp at hu
    obtain ⟨u', y, rfl⟩ : ∃ u' y, u = u' ++ [y] := ⟨_, _, (List.dropLast_concat_getLast hne).symm⟩
    have hn : u'.length = n := by simpa using hu
    have hy := hm y (by simp)
    have hcx := ev_class x (isMk_has hx)
    have hcy := ev_class y (isMk_has hy)
    have m1 : mcl x = clsN x := by unfold mcl; rw [if_pos hx]
    have m2 : mcl y = clsN y := by unfold mcl; rw [if_pos hy]
    have rx := clsN_range x
    obtain ⟨s1, s2, s3⟩ := srt_append.1 hs
    have e3 : A ++ (u' ++ [y]) ++ x :: E = (A ++ u') ++ y :: (x :: E) := by simp
    have e4 : (A.length : Int) + (((u' ++ [y]).length : Nat) : Int) = (((A ++ u').length : Nat) : Int) + 1 := by simp; omega
    rw [e3, e4]
    refine Ev.step (l2_step cs x7 x6 x8 (A ++ u') E x y (by simp at hl ⊢; omega)) (Ev.bind hcx ?_)
    refine Ev.congr (fun k => if_pos (by omega)) (Ev.bind hcy ?_)
    refine Ev.bind hcx ?_
    by_cases hlt : clsN x < clsN y
    · refine Ev.congr (fun k => if_pos (by omega)) ?_
      have e5 : (((A ++ u').length : Nat) : Int) = (A.length : Int) + (u'.length : Int) := by simp
      rw [e5]
      refine ih u' A (y :: E) x hn hA (fun z hz => hm z (by simp [hz])) s1 hx hh (by simp at hl; omega) ?_
      have hsm : sortS (u' ++ [y] ++ [x]) = sortS (u' ++ [x]) ++ [y] := by
        have hsame : Same (u' ++ [y] ++ [x]) (u' ++ [x] ++ [y]) := by
          have := (Same.refl u').append (same_swap (u := [y]) (v := [x]) (by simp; exact hlt))
          simpa [List.append_assoc] using this
        rw [hsame.eq, sortS_append (b := [y])]
        · rw [sortS_id (l := [y]) (by simp [Srt])]
        · intro z hz w hw
          obtain rfl := List.mem_singleton.1 hw
          rcases List.mem_append.1 hz with hz | hz
          · exact s3 z hz _ (by simp)
          · obtain rfl := List.mem_singleton.1 hz; omega
      have e2 : A ++ sortS (u' ++ [y] ++ [x]) ++ E = A ++ sortS (u' ++ [x]) ++ y :: E := by rw [hsm]; simp
      rw [e2] at hE
      exact hE
    · refine Ev.congr (fun k => if_neg (by omega)) ?_
      have hsr : Srt (u' ++ [y] ++ [x]) := by
        refine srt_append.2 ⟨hs, by simp [Srt], fun z hz w hw => ?_⟩
        obtain rfl := List.mem_singleton.1 hw
        rcases List.mem_append.1 hz with hz | hz
        · exact Int.le_trans (s3 z hz y (by simp)) (by omega)
        · obtain rfl := List.mem_singleton.1 hz; omega
      have e2 : A ++ sortS (u' ++ [y] ++ [x]) ++ E = A ++ u' ++ y :: (x :: E) := by rw [sortS_id hsr]; simp
      rw [e2] at hE
      exact hE
theorem dec_l1 {cs R x7 : List Int} {x6 : Int} : ∀ (n j : Nat) (A S : List Int), x7.length ≤ j + n → j ≤ x7.length → x7.length < 1000000 → Tail A S → (∀ x ∈ x7, hasS x = true) → (A ++ S).length + n < 900000 →
    (∀ A' S', Tail A' S' → (A' ++ S').length ≤ (A ++ S).length + n → (x7.drop j).foldl stepR (A, S) = (A', S') → Ev (fun k => bookplateref05_decomposed.l0 k cs (A' ++ S') (wrap64 (x6 + 1))) R) →
    Ev (fun k => bookplateref05_decomposed.l1 k cs (A ++ S) x6 x7 (j : Int)) R := by
  intro n
  induction n with
  | zero =>
    intro j A S h1 h2 hx7 hT hh hl hE
    have hj : j = x7.length := by omega
    subst hj
    refine Ev.step (fun k => ?_) (hE A S hT (by omega) (by rw [List.drop_length]; rfl))
    rw [bookplateref05_decomposed.l1, if_neg (by omega)]
  | succ n ih =>
    intro j A S h1 h2 hx7 hT hh hl hE
    by_cases hj : j < x7.length
    · have hx := hh _ (List.getElem_mem hj)
      have hrd := rd_get (xs := x7) hj
      have hdr : x7.drop j = x7[j] :: x7.drop (j + 1) := List.drop_eq_getElem_cons hj
      generalize x7[j] = x at hx hrd hdr
      have hlen : (((A ++ S ++ [x]).length : Nat) : Int) - 1 = (((A ++ S).length : Nat) : Int) := by simp; omega
      have hw : wrap64 ((((A ++ S ++ [x]).length : Nat) : Int) - 1) = (((A ++ S).length : Nat) : Int) := by rw [w64i (by simp; omega) (by simp at hl ⊢; omega), hlen]
      refine Ev.step (g' := fun k => bookplateref05_decomposed.l2 k cs (A ++ S ++ [x]) x6 x7 (j : Int) (((A ++ S).length : Nat) : Int)) (fun k => ?_) ?_
      · rw [bookplateref05_decomposed.l1, if_pos (by omega), if_pos (by omega), if_pos (by omega), hrd]
        simp only [Option.bind_some]
        rw [hw]
      · cases hm : isMk x with
        | true =>
          have hst : stepR (A, S) x = (A, sortS (S ++ [x])) := by unfold stepR; rw [if_pos hm]
          have hrec := ih (j + 1) A (sortS (S ++ [x])) (by omega) (by omega) hx7 (hT.mark hm) hh (by simp [sortS_length] at hl ⊢; omega) (fun A' S' t1 t2 t3 => hE A' S' t1 (by simp [sortS_length] at t2 ⊢; omega) (by rw [hdr, List.foldl_cons, hst]; exact t3))
          have e1 : (((A ++ S).length : Nat) : Int) = (A.length : Int) + (S.length : Int) := by simp
          have := dec_l2 (cs := cs) (x7 := x7) (R := R) (x6 := x6) (x8 := (j : Int)) S.length S A [] x rfl hT.last hT.marks hT.srt hm (fun y hy => hT.has y (by simp [hy])) (by simp at hl; omega) (by rw [List.append_nil, w64n j (by omega)]; exact hrec)
          rw [e1]
          exact this
        | false =>
          have hst : stepR (A, S) x = (A ++ S ++ [x], []) := by unfold stepR; rw [if_neg (by rw [hm]; decide)]
          have hrec := ih (j + 1) (A ++ S ++ [x]) [] (by omega) (by omega) hx7 (hT.other hm hx) hh (by simp at hl ⊢; omega) (fun A' S' t1 t2 t3 => hE A' S' t1 (by simp at t2 ⊢; omega) (by rw [hdr, List.foldl_cons, hst]; exact t3))
          rw [List.append_nil] at hrec
          have m0 : mcl x = 0 := by unfold mcl; rw [if_neg (by rw [hm]; decide)]
          by_cases h0 : A ++ S = []
          · rw [h0] at hrec ⊢
            refine Ev.step (fun k => ?_) hrec
            rw [bookplateref05_decomposed.l2, if_neg (by simp), w64n j (by omega)]
          · obtain ⟨P, y, hP⟩ : ∃ P y, A ++ S = P ++ [y] := ⟨_, _, (List.dropLast_concat_getLast h0).symm⟩
            rw [hP] at hrec ⊢
            have e1 : (((P ++ [y]).length : Nat) : Int) = (P.length : Int) + 1 := by simp
            have e2 : P ++ [y] ++ [x] = P ++ y :: (x :: []) := by simp
            rw [e1]
            rw [e2] at hrec ⊢
            refine Ev.step (l2_step cs x7 x6 (j : Int) P [] x y (by rw [hP] at hl; simp at hl; omega)) (Ev.bind (ev_class x hx) ?_)
            refine Ev.congr (fun k => if_neg (by omega)) ?_
            rw [w64n j (by omega)]
            exact hrec
    · have hj : j = x7.length := by omega
      subst hj
      refine Ev.step (fun k => ?_) (hE A S hT (by omega) (by rw [List.drop_length]; rfl))
      rw [bookplateref05_decomposed.l1, if_neg (by omega)]
theorem dec_l0 {cs : List Int} (hh : ∀ c ∈ cs, hasS c = true) (hcs : cs.length ≤ 100000) : ∀ (n i : Nat) (A S : List Int), cs.length ≤ i + n → i ≤ cs.length → Tail A S → (A ++ S).length + 2 * n ≤ 200000 →
    Ev (fun k => bookplateref05_decomposed.l0 k cs (A ++ S) (i : Int)) (outR (((cs.drop i).flatMap splitS).foldl stepR (A, S))) := by
  intro n
  induction n with
  | zero =>
    intro i A S h1 h2 hT hl
    have hi : i = cs.length := by omega
    subst hi
    rw [List.drop_length]
    refine Ev.step (g' := fun _ => some (A ++ S)) (fun k => ?_) (Ev.const _)
    rw [bookplateref05_decomposed.l0, if_neg (by omega)]
  | succ n ih =>
    intro i A S h1 h2 hT hl
    by_cases hi : i < cs.length
    · have hx := hh _ (List.getElem_mem hi)
      have hrd := rd_get (xs := cs) hi
      have hdr : cs.drop i = cs[i] :: cs.drop (i + 1) := List.drop_eq_getElem_cons hi
      generalize cs[i] = c at hx hrd hdr
      have hsl := split_len c
      refine Ev.step (g' := fun k => (bookplateref05_whole.f k c).bind fun t273 => bookplateref05_decomposed.l1 k cs (A ++ S) (i : Int) t273 0) (fun k => ?_) (Ev.bind (ev_whole c hx) ?_)
      · rw [bookplateref05_decomposed.l0, if_pos (by omega), if_pos (by omega), hrd]
      · have := dec_l1 (cs := cs) (R := outR (((cs.drop i).flatMap splitS).foldl stepR (A, S))) (x7 := splitS c) (x6 := (i : Int)) (splitS c).length 0 A S (by omega) (by omega) (by omega) hT (split_has hx) (by omega) (fun A' S' t1 t2 t3 => by
          rw [w64n i (by omega)]
          have := ih (i + 1) A' S' (by omega) (by omega) t1 (by omega)
          rw [hdr, List.flatMap_cons, List.foldl_append]
          rw [List.drop_zero] at t3
          rw [t3]
          exact this)
        exact this
    · have hi : i = cs.length := by omega
      subst hi
      rw [List.drop_length]
      refine Ev.step (g' := fun _ => some (A ++ S)) (fun k => ?_) (Ev.const _)
      rw [bookplateref05_decomposed.l0, if_neg (by omega)]
theorem dec_small (s : ByteArray) (hs : s.size ≤ 50000) : (decR [] s.data.toList).1.length ≤ 50000 ∧ ∀ c ∈ (decR [] s.data.toList).1, hasS c = true := by
  unfold decR
  cases hd : decS hasS s.data.toList with
  | none => simp
  | some cs =>
    have h1 := (decS_back hd).1
    have h2 := encL_ge cs
    rw [← h1] at h2
    have h3 : s.data.toList.length = s.size := Array.length_toList
    exact ⟨by simp; omega, by simpa using fun c hc => ((decS_back hd).2 c hc).2⟩
theorem ev_decomposed (s : ByteArray) (hs : s.size ≤ 50000) : Ev (fun k => bookplateref05_decomposed.f k s) (decD (decR [] s.data.toList).1) := by
  obtain ⟨h1, h2⟩ := dec_small s hs
  refine Ev.congr (g' := fun k => (bookplateref04_Decode.f k s).bind fun bt268 => bookplateref05_decomposed.l0 k bt268.1 ([] : List Int) 0) (fun k => rfl) (Ev.bind (ev_decode s (by omega)) ?_)
  have := dec_l0 h2 (by omega) (decR [] s.data.toList).1.length 0 [] [] (by omega) (by omega) Tail.nil (by simp; omega)
  rw [List.drop_zero, fold_run _ [] [] (by simp) (by simp [Srt]), List.nil_append, List.nil_append] at this
  exact this
end Go.Proofs.YthcpdhniakpbaaaDoor.X
end

section
namespace Go.Proofs.YthcpdhniakpbaaaDoor.X
open Go.RowKit Go.Sort Go.Lib Go.Proofs.YthcpdhniakpbaaaDoorW.PrintWords Go.Proofs.YthcpdhniakpbaaaDoorW.PrintLast Go.Proofs.YthcpdhniakpbaaaDoorW.PrintMore
set_option linter.unusedVariables false
set_option linter.unusedSimpArgs false
theorem mcl_mark {c : Int} (h : isMk c = true) : mcl c = clsN c := by unfold mcl; rw [if_pos h]
theorem mcl_zero {c : Int} (h : isMk c = false) : mcl c = 0 := by unfold mcl; rw [if_neg (by rw [h]; decide)]
theorem composed_l1 {c m : Int} {i : Nat} (hi : i < 13) {X : Int} (hX : Ev (fun k => bookplateref05_composed.l0 k c m rows96 ((i + 1 : Nat) : Int)) X) : ∀ (n j : Nat), (nr i).l.length ≤ j + n → j ≤ (nr i).l.length → c ∉ (nr i).b.take j →
    Ev (fun k => bookplateref05_composed.l1 k c m rows96 (i : Int) (nr i).l (nr i).b (j : Int)) (if c ∈ (nr i).b then at0 (nr i).l (plc (nr i).b c) else X) := by
  have hm := nr_mem hi
  have hb := row_bounds hm
  have hl := (row_str hm).2.2
  generalize nr i = r at hm hb hl
  intro n
  induction n with
  | zero =>
    intro j h1 h2 h3
    have hj : j = r.l.length := by omega
    subst hj
    rw [hl, List.take_length] at h3
    rw [if_neg h3]
    refine Ev.step (fun k => ?_) hX
    rw [bookplateref05_composed.l1, if_neg (by omega), w64n i (by omega)]
  | succ n ih =>
    intro j h1 h2 h3
    by_cases hj : j < r.l.length
    · have hjb : j < r.b.length := by omega
      by_cases he : r.b[j] = c
      · have hmem : c ∈ r.b := by rw [← he]; exact List.getElem_mem hjb
        rw [if_pos hmem, plc_at hjb he h3]
        refine Ev.step (g' := fun _ => some (at0 r.l (j : Int))) (fun k => ?_) (Ev.const _)
        rw [bookplateref05_composed.l1, if_pos (by omega), if_pos (by omega), if_pos (by omega), rd_get hjb, if_pos he]
        rfl
      · have h3' : c ∉ r.b.take (j + 1) := by
          rw [List.take_succ_eq_append_getElem hjb]
          intro hm
          rcases List.mem_append.1 hm with hm | hm
          · exact h3 hm
          · exact he (List.mem_singleton.1 hm).symm
        refine Ev.step (fun k => ?_) (ih (j + 1) (by omega) (by omega) h3')
        rw [bookplateref05_composed.l1, if_pos (by omega), if_pos (by omega), if_pos (by omega), rd_get hjb, if_neg he, w64n j (by omega)]
    · have hj : j = r.l.length := by omega
      subst hj
      rw [hl, List.take_length] at h3
      rw [if_neg h3]
      refine Ev.step (fun k => ?_) hX
      rw [bookplateref05_composed.l1, if_neg (by omega), w64n i (by omega)]
theorem composed_l0 (c m : Int) : ∀ (n i : Nat), 13 ≤ i + n → i ≤ 13 → Ev (fun k => bookplateref05_composed.l0 k c m rows96 (i : Int)) ((joinR c m (nrows.drop i)).getD 0) := by
  intro n
  induction n with
  | zero =>
    intro i h1 h2
    obtain rfl : i = 13 := by omega
    refine Ev.step (g' := fun _ => some 0) (fun k => ?_) (Ev.const _)
    rw [bookplateref05_composed.l0, if_neg (by rw [rows96_len]; omega)]
  | succ n ih =>
    intro i h1 h2
    by_cases hi : i < 13
    · have hX := ih (i + 1) (by omega) (by omega)
      rw [nr_drop hi, joinR]
      have hev := ev_letters (nr_mem hi)
      by_cases hm : (nr i).mark = m
      · have e : (if (nr i).mark = m ∧ c ∈ (nr i).b then some (at0 (nr i).l (plc (nr i).b c)) else joinR c m (nrows.drop (i + 1))).getD 0 = if c ∈ (nr i).b then at0 (nr i).l (plc (nr i).b c) else (joinR c m (nrows.drop (i + 1))).getD 0 := by
          by_cases hc : c ∈ (nr i).b
          · rw [if_pos ⟨hm, hc⟩, if_pos hc]; rfl
          · rw [if_neg (fun h => hc h.2), if_neg hc]
        rw [e]
        refine Ev.step (g' := fun k => (bookplateref04_Decode.f k (nr i).lb).bind fun a => (bookplateref04_Decode.f k (nr i).bb).bind fun b => bookplateref05_composed.l1 k c m rows96 (i : Int) a.1 b.1 0) (fun k => ?_) ?_
        · rw [bookplateref05_composed.l0, if_pos (by rw [rows96_len]; omega), if_pos (by omega), rows96_rd hi, if_pos (show (to96 (nr i)).f0 = m from hm)]
          rfl
        · refine Ev.bind hev.1 ?_
          refine Ev.bind hev.2 ?_
          exact composed_l1 hi hX (nr i).l.length 0 (by omega) (by omega) (by simp)
      · rw [if_neg (fun h => hm h.1)]
        refine Ev.step (fun k => ?_) hX
        rw [bookplateref05_composed.l0, if_pos (by rw [rows96_len]; omega), if_pos (by omega), rows96_rd hi, if_neg (show ¬ (to96 (nr i)).f0 = m from hm), w64n i (by omega)]
    · obtain rfl : i = 13 := by omega
      refine Ev.step (g' := fun _ => some 0) (fun k => ?_) (Ev.const _)
      rw [bookplateref05_composed.l0, if_neg (by rw [rows96_len]; omega)]
theorem ev_composed (c m : Int) : Ev (fun k => bookplateref05_composed.f k c m) ((joinS c m).getD 0) := by
  refine Ev.congr (fun k => ?_) (composed_l0 c m 13 0 (by omega) (by omega))
  unfold bookplateref05_composed.f
  rw [rows96_eq]
  rfl
theorem comp_l2 {d out left : List Int} {c m : Int} {j : Nat} {R : ByteArray} (hj : j < d.length) (hdj : d[j] = m) (hmk : isMk m = true) (hleft : ∀ x ∈ left, isMk x = true) (hjs : j < 1000000) (hls : left.length < 1000000) (b0 : Bool)
    (hE : ∀ b, b = (b0 || taken left m) → Ev (fun k => (bookplateref05_composed.f k c m).bind fun t => if t = 0 then bookplateref05_Compose.l1 k d out ((j + 1 : Nat) : Int) c (left ++ [m]) else if b = true then bookplateref05_Compose.l1 k d out ((j + 1 : Nat) : Int) c (left ++ [m]) else bookplateref05_Compose.l1 k d out ((j + 1 : Nat) : Int) t left) R) :
    ∀ (n q : Nat) (b : Bool), left.length ≤ q + n → q ≤ left.length → (b || taken (left.drop q) m) = (b0 || taken left m) → Ev (fun k => bookplateref05_Compose.l2 k d out (j : Int) c left b (q : Int)) R := by
  intro n
  have last : ∀ (q : Nat) (b : Bool), ¬ q < left.length → (b || taken (left.drop q) m) = (b0 || taken left m) → Ev (fun k => bookplateref05_Compose.l2 k d out (j : Int) c left b (q : Int)) R := by
    intro q b h1 h2
    rw [List.drop_of_length_le (by omega), show taken [] m = false from rfl, Bool.or_false] at h2
    refine Ev.step (fun k => ?_) (hE b h2)
    rw [bookplateref05_Compose.l2, if_neg (by omega), if_pos (by omega), if_pos (by omega), rd_get hj, hdj, w64n j (by omega)]
    simp only [if_pos (show left.length < 17592186044416 by omega)]
  induction n with
  | zero => intro q b h1 h2 h3; exact last q b (by omega) h3
  | succ n ih =>
    intro q b h1 h2 h3
    by_cases hq : q < left.length
    · have hdr : left.drop q = left[q] :: left.drop (q + 1) := List.drop_eq_getElem_cons hq
      have hx := hleft _ (List.getElem_mem hq)
      have hrd := rd_get (xs := left) hq
      rw [hdr] at h3
      generalize left[q] = x at hx hrd h3
      have h3' : (b || (clsN x == clsN m || taken (left.drop (q + 1)) m)) = (b0 || taken left m) := h3
      cases b with
      | true =>
        refine Ev.step (fun k => ?_) (ih (q + 1) true (by omega) (by omega) (by rw [← h3']; rfl))
        rw [bookplateref05_Compose.l2, if_pos (by omega), if_pos rfl, w64n q (by omega)]
      | false =>
        refine Ev.step (g' := fun k => (bookplateref05_class.f k x).bind fun t332 => (bookplateref05_class.f k m).bind fun t334 => bookplateref05_Compose.l2 k d out (j : Int) c left (t332 == t334) ((q + 1 : Nat) : Int)) (fun k => ?_) (Ev.bind (ev_class x (isMk_has hx)) (Ev.bind (ev_class m (isMk_has hmk)) ?_))
        · rw [bookplateref05_Compose.l2, if_pos (by omega), if_neg (by decide), if_pos (by omega), hrd, w64n q (by omega)]
          simp only [if_pos (show (0 : Int) ≤ (j : Int) by omega), if_pos (show (j : Int) < (d.length : Int) by omega), rd_get hj, hdj]
        · rw [mcl_mark hx, mcl_mark hmk]
          exact ih (q + 1) (clsN x == clsN m) (by omega) (by omega) (by rw [← h3']; simp)
    · exact last q b hq h3
theorem comp_l1 {d out : List Int} {R : ByteArray} (hh : ∀ x ∈ d, hasS x = true) (hd : d.length < 900000) (ho : out.length + d.length < 900000) : ∀ (n j : Nat) (c : Int) (left : List Int), d.length ≤ j + n → j ≤ d.length → (∀ x ∈ left, isMk x = true) → left.length ≤ j →
    Ev (fun k => bookplateref05_Compose.l0 k d (out ++ ((compM ((d.drop j).takeWhile isMk) c left).1 :: (compM ((d.drop j).takeWhile isMk) c left).2)) (((j + ((d.drop j).takeWhile isMk).length : Nat)) : Int)) R →
    Ev (fun k => bookplateref05_Compose.l1 k d out (j : Int) c left) R := by
  intro n
  have last : ∀ (j : Nat) (c : Int) (left : List Int), j ≤ d.length → left.length ≤ j → NoHead (d.drop j) → Ev (fun k => bookplateref05_Compose.l0 k d (out ++ ((compM ((d.drop j).takeWhile isMk) c left).1 :: (compM ((d.drop j).takeWhile isMk) c left).2)) (((j + ((d.drop j).takeWhile isMk).length : Nat)) : Int)) R →
      Ev (fun k => bookplateref05_Compose.j2 k d out (j : Int) c left false) R := by
    intro j c left h1 h2 h3 hE
    rw [h3.take] at hE
    simp only [compM, List.length_nil, Nat.add_zero] at hE
    refine Ev.step (fun k => ?_) hE
    rw [bookplateref05_Compose.j2, if_neg (by decide), if_pos (by omega)]
    simp only [Option.bind_some]
    rw [if_pos (by simp; omega)]
    simp
  induction n with
  | zero =>
    intro j c left h1 h2 h3 h4 hE
    refine Ev.step (fun k => ?_) (last j c left h2 h4 (by rw [List.drop_of_length_le (by omega)]; exact NoHead.nil) hE)
    rw [bookplateref05_Compose.l1, if_neg (by omega)]
  | succ n ih =>
    intro j c left h1 h2 h3 h4 hE
    by_cases hj : j < d.length
    · have hdr : d.drop j = d[j] :: d.drop (j + 1) := List.drop_eq_getElem_cons hj
      have hx := hh _ (List.getElem_mem hj)
      obtain ⟨m, hm⟩ : ∃ m, d[j] = m := ⟨_, rfl⟩
      rw [hm] at hx hdr
      refine Ev.step (g' := fun k => (bookplateref05_class.f k m).bind fun t => bookplateref05_Compose.j2 k d out (j : Int) c left (decide (t > 0))) (fun k => ?_) (Ev.bind (ev_class m hx) ?_)
      · rw [bookplateref05_Compose.l1, if_pos (by omega), if_pos (by omega), rd_get hj, hm]
      · cases hmk : isMk m with
        | false =>
          rw [decide_eq_false (show ¬ mcl m > 0 by rw [mcl_zero hmk]; decide)]
          exact last j c left h2 h4 (by rw [hdr]; exact NoHead.cons hmk) hE
        | true =>
          rw [decide_eq_true (mcl_pos.2 hmk)]
          rw [hdr, List.takeWhile_cons, if_pos hmk] at hE
          have hlen : j + (m :: (d.drop (j + 1)).takeWhile isMk).length = (j + 1) + ((d.drop (j + 1)).takeWhile isMk).length := by simp; omega
          rw [hlen, compM] at hE
          have hsnoc : ∀ x ∈ left ++ [m], isMk x = true := fun x hx => by
            rcases List.mem_append.1 hx with hx | hx
            · exact h3 x hx
            · obtain rfl := List.mem_singleton.1 hx; exact hmk
          refine Ev.step (g' := fun k => bookplateref05_Compose.l2 k d out (j : Int) c left false 0) (fun k => by rw [bookplateref05_Compose.j2, if_pos rfl]) ?_
          have key := comp_l2 (d := d) (out := out) (left := left) (c := c) (m := m) (j := j) (R := R) hj hm hmk h3 (by omega) (by omega) false (fun b hb => by
            refine Ev.bind (ev_composed c m) ?_
            cases hJ : joinS c m with
            | none =>
              rw [hJ] at hE
              exact Ev.congr (fun k => if_pos rfl) (ih (j + 1) c (left ++ [m]) (by omega) (by omega) hsnoc (by simp; omega) hE)
            | some x =>
              rw [hJ] at hE
              have hxr := hasS_range (join_has hJ)
              have hx0 : (some x).getD (0 : Int) ≠ 0 := by show x ≠ 0; omega
              refine Ev.congr (fun k => if_neg hx0) ?_
              cases htk : taken left m with
              | true =>
                rw [htk] at hb
                have hE' : Ev (fun k => bookplateref05_Compose.l0 k d (out ++ ((compM ((d.drop (j + 1)).takeWhile isMk) c (left ++ [m])).1 :: (compM ((d.drop (j + 1)).takeWhile isMk) c (left ++ [m])).2)) (((j + 1 + ((d.drop (j + 1)).takeWhile isMk).length : Nat)) : Int)) R := by
                  simp only [htk, if_true] at hE
                  exact hE
                exact Ev.congr (fun k => if_pos (by rw [hb]; rfl)) (ih (j + 1) c (left ++ [m]) (by omega) (by omega) hsnoc (by simp; omega) hE')
              | false =>
                rw [htk] at hb
                have hE' : Ev (fun k => bookplateref05_Compose.l0 k d (out ++ ((compM ((d.drop (j + 1)).takeWhile isMk) x left).1 :: (compM ((d.drop (j + 1)).takeWhile isMk) x left).2)) (((j + 1 + ((d.drop (j + 1)).takeWhile isMk).length : Nat)) : Int)) R := by
                  simp only [htk, Bool.false_eq_true, if_false] at hE
                  exact hE
                exact Ev.congr (fun k => if_neg (by rw [hb]; decide)) (ih (j + 1) x left (by omega) (by omega) h3 (by omega) hE'))
          exact key left.length 0 false (by omega) (by omega) rfl
    · refine Ev.step (fun k => ?_) (last j c left h2 h4 (by rw [List.drop_of_length_le (by omega)]; exact NoHead.nil) hE)
      rw [bookplateref05_Compose.l1, if_neg (by omega)]
theorem dropWhile_drop (l : List Int) : l.dropWhile isMk = l.drop (l.takeWhile isMk).length := by
  have e := List.takeWhile_append_dropWhile (p := isMk) (l := l)
  generalize l.takeWhile isMk = a at e ⊢
  generalize l.dropWhile isMk = b at e ⊢
  subst e
  simp
theorem comp_l0 {d : List Int} (hh : ∀ x ∈ d, hasS x = true) (hd : d.length < 400000) : ∀ (f i : Nat) (out : List Int), d.length ≤ i + f → i ≤ d.length → out.length ≤ i → (∀ x ∈ out, hasS x = true) →
    Ev (fun k => bookplateref05_Compose.l0 k d out (i : Int)) ⟨(encL (out ++ compF f (d.drop i))).toArray⟩ := by
  intro f
  have last : ∀ (i : Nat) (out : List Int), ¬ i < d.length → out.length ≤ i → i ≤ d.length → (∀ x ∈ out, hasS x = true) → Ev (fun k => bookplateref05_Compose.l0 k d out (i : Int)) ⟨(encL out).toArray⟩ := by
    intro i out h1 h2 h3 h4
    refine Ev.step (g' := fun k => (bookplateref04_Encode.f k out).bind fun bt => some bt.1) (fun k => ?_) (Ev.bind (ev_encode out (by omega) h4) (Ev.const _))
    rw [bookplateref05_Compose.l0, if_neg (by omega)]
  induction f with
  | zero =>
    intro i out h1 h2 h3 h4
    have := last i out (by omega) h3 h2 h4
    simpa [compF] using this
  | succ f ih =>
    intro i out h1 h2 h3 h4
    by_cases hi : i < d.length
    · have hdr : d.drop i = d[i] :: d.drop (i + 1) := List.drop_eq_getElem_cons hi
      have hx := hh _ (List.getElem_mem hi)
      obtain ⟨c, hc⟩ : ∃ c, d[i] = c := ⟨_, rfl⟩
      rw [hc] at hx hdr
      rw [hdr, compF]
      refine Ev.step (g' := fun k => (bookplateref05_class.f k c).bind fun t => if t > 0 then bookplateref05_Compose.l0 k d (out ++ [c]) ((i + 1 : Nat) : Int) else bookplateref05_Compose.l1 k d out ((i + 1 : Nat) : Int) c []) (fun k => ?_) (Ev.bind (ev_class c hx) ?_)
      · rw [bookplateref05_Compose.l0, if_pos (by omega), if_pos (by omega), rd_get hi, hc, w64n i (by omega)]
        simp only [if_pos (show out.length < 17592186044416 by omega)]
      · cases hmk : isMk c with
        | true =>
          refine Ev.congr (fun k => if_pos (mcl_pos.2 hmk)) ?_
          rw [if_pos rfl]
          have := ih (i + 1) (out ++ [c]) (by omega) (by omega) (by simp; omega) (fun x hx' => by
            rcases List.mem_append.1 hx' with hx' | hx'
            · exact h4 x hx'
            · obtain rfl := List.mem_singleton.1 hx'; exact hx)
          simpa [List.append_assoc] using this
        | false =>
          refine Ev.congr (fun k => if_neg (by rw [mcl_zero hmk]; decide)) ?_
          rw [if_neg (by decide)]
          have hr : ∀ x ∈ d.drop (i + 1), hasS x = true := fun x hx' => hh x (List.mem_of_mem_drop hx')
          have hcm := compM_has ((d.drop (i + 1)).takeWhile isMk) c [] (fun y hy => hr y ((List.takeWhile_sublist _).subset hy)) hx (by simp)
          have hcl := compM_len ((d.drop (i + 1)).takeWhile isMk) c []
          have htd := takeDrop_len (d.drop (i + 1))
          have hdl : (d.drop (i + 1)).length = d.length - (i + 1) := List.length_drop ..
          have hrec := ih (i + 1 + ((d.drop (i + 1)).takeWhile isMk).length) (out ++ ((compM ((d.drop (i + 1)).takeWhile isMk) c []).1 :: (compM ((d.drop (i + 1)).takeWhile isMk) c []).2)) (by omega) (by omega) (by simp at hcl ⊢; omega) (fun x hx' => by
            rcases List.mem_append.1 hx' with hx' | hx'
            · exact h4 x hx'
            · rcases List.mem_cons.1 hx' with rfl | hx'
              · exact hcm.1
              · exact hcm.2 x hx')
          have hdd : d.drop (i + 1 + ((d.drop (i + 1)).takeWhile isMk).length) = (d.drop (i + 1)).dropWhile isMk := by rw [dropWhile_drop, List.drop_drop]
          rw [hdd, List.append_assoc] at hrec
          exact comp_l1 hh (by omega) (by omega) (d.length) (i + 1) c [] (by omega) (by omega) (by simp) (by simp) hrec
    · have := last i out hi h3 h2 h4
      rw [List.drop_of_length_le (by omega), compF_nil, List.append_nil]
      exact this
def chs (s : ByteArray) : List Int := (decR [] s.data.toList).1
def okS (s : ByteArray) : Bool := (decR [] s.data.toList).2
theorem decD_has {cs : List Int} (h : ∀ c ∈ cs, hasS c = true) : ∀ x ∈ decD cs, hasS x = true := fun x hx => flat_has h x ((runS_mem _ _ (Nat.le_refl _) x).1 hx)
theorem decD_len (cs : List Int) : (decD cs).length ≤ 2 * cs.length := by
  unfold decD
  rw [runS_length _ _ (Nat.le_refl _)]
  exact flat_len cs
theorem chs_has (s : ByteArray) : ∀ c ∈ chs s, hasS c = true := by
  unfold chs decR
  cases hd : decS hasS s.data.toList with
  | none => simp
  | some cs => simpa using fun c hc => ((decS_back hd).2 c hc).2
theorem chs_len (s : ByteArray) : (chs s).length ≤ s.size := by
  unfold chs decR
  cases hd : decS hasS s.data.toList with
  | none => simp
  | some cs =>
    have h1 := (decS_back hd).1
    have h2 := encL_ge cs
    rw [← h1] at h2
    have h3 : s.data.toList.length = s.size := Array.length_toList
    simp
    omega
def bytesOfL (l : List Int) : ByteArray := ⟨(encL l).toArray⟩
theorem ev_refDecompose (s : ByteArray) (hs : s.size ≤ 50000) : Ev (fun k => bookplateref05_Decompose.f k s) (bytesOfL (decD (chs s))) := by
  refine Ev.bind (ev_decomposed s hs) (Ev.bind (ev_encode _ ?_ (decD_has (chs_has s))) (Ev.const _))
  have := decD_len (chs s); have := chs_len s; unfold chs at *; omega
theorem ev_refCompose (s : ByteArray) (hs : s.size ≤ 50000) : Ev (fun k => bookplateref05_Compose.f k s) (bytesOfL (compS (decD (chs s)))) := by
  have h1 := decD_len (chs s)
  have h2 := chs_len s
  refine Ev.bind (ev_decomposed s hs) ?_
  have := comp_l0 (d := decD (chs s)) (decD_has (chs_has s)) (by omega) (decD (chs s)).length 0 [] (by omega) (by omega) (by simp) (by simp)
  exact this
theorem ev_refEncoded (s : ByteArray) (hs : s.size ≤ 50000) : Ev (fun k => bookplateref05_encoded.f k s) (okS s) := Ev.bind (ev_decode s (by omega)) (Ev.const _)
theorem ev_refIs (s : ByteArray) (hs : s.size ≤ 50000) : Ev (fun k => bookplateref05_Is.f k s) (okS s && ((bytesOfL (compS (decD (chs s)))).toList == s.toList)) := by
  refine Ev.bind (ev_refEncoded s hs) ?_
  cases okS s with
  | true => exact Ev.congr (fun k => if_pos rfl) (Ev.bind (ev_refCompose s hs) (Ev.const _))
  | false => exact Ev.congr (fun k => if_neg (by decide)) (Ev.const _)
theorem strip_l0 {d : List Int} (hh : ∀ x ∈ d, hasS x = true) (hd : d.length < 400000) : ∀ (n i : Nat) (out : List Int), d.length ≤ i + n → i ≤ d.length → out.length ≤ i → (∀ x ∈ out, hasS x = true) →
    Ev (fun k => bookplateref05_Strip.l0 k d out (i : Int)) (bytesOfL (out ++ stripS (d.drop i))) := by
  intro n
  have last : ∀ (i : Nat) (out : List Int), ¬ i < d.length → out.length ≤ i → i ≤ d.length → (∀ x ∈ out, hasS x = true) → Ev (fun k => bookplateref05_Strip.l0 k d out (i : Int)) (bytesOfL (out ++ stripS (d.drop i))) := by
    intro i out h1 h2 h3 h4
    rw [List.drop_of_length_le (by omega), show stripS [] = [] from rfl, List.append_nil]
    refine Ev.step (g' := fun k => (bookplateref04_Encode.f k out).bind fun bt => some bt.1) (fun k => ?_) (Ev.bind (ev_encode out (by omega) h4) (Ev.const _))
    rw [bookplateref05_Strip.l0, if_neg (by omega)]
  induction n with
  | zero => intro i out h1 h2 h3 h4; exact last i out (by omega) h3 h2 h4
  | succ n ih =>
    intro i out h1 h2 h3 h4
    by_cases hi : i < d.length
    · have hdr : d.drop i = d[i] :: d.drop (i + 1) := List.drop_eq_getElem_cons hi
      have hx := hh _ (List.getElem_mem hi)
      obtain ⟨c, hc⟩ : ∃ c, d[i] = c := ⟨_, rfl⟩
      rw [hc] at hx hdr
      rw [hdr]
      refine Ev.step (g' := fun k => (bookplateref05_class.f k c).bind fun t => if t = 0 then bookplateref05_Strip.l0 k d (out ++ [c]) ((i + 1 : Nat) : Int) else bookplateref05_Strip.l0 k d out ((i + 1 : Nat) : Int)) (fun k => ?_) (Ev.bind (ev_class c hx) ?_)
      · rw [bookplateref05_Strip.l0, if_pos (by omega), if_pos (by omega), rd_get hi, hc, w64n i (by omega)]
        simp only [if_pos (show out.length < 17592186044416 by omega)]
      · cases hmk : isMk c with
        | true =>
          have e : stripS (c :: d.drop (i + 1)) = stripS (d.drop (i + 1)) := by unfold stripS; rw [List.filter_cons, hmk]; rfl
          rw [e]
          have hr := clsN_range c
          exact Ev.congr (fun k => if_neg (by rw [mcl_mark hmk]; omega)) (ih (i + 1) out (by omega) (by omega) (by omega) h4)
        | false =>
          have e : stripS (c :: d.drop (i + 1)) = c :: stripS (d.drop (i + 1)) := by unfold stripS; rw [List.filter_cons, hmk]; rfl
          rw [e]
          refine Ev.congr (fun k => if_pos (mcl_zero hmk)) ?_
          have := ih (i + 1) (out ++ [c]) (by omega) (by omega) (by simp; omega) (fun x hx' => by
            rcases List.mem_append.1 hx' with hx' | hx'
            · exact h4 x hx'
            · obtain rfl := List.mem_singleton.1 hx'; exact hx)
          simpa [List.append_assoc] using this
    · exact last i out hi h3 h2 h4
theorem ev_refStrip (s : ByteArray) (hs : s.size ≤ 50000) : Ev (fun k => bookplateref05_Strip.f k s) (bytesOfL (stripS (decD (chs s)))) := by
  have h1 := decD_len (chs s)
  have h2 := chs_len s
  refine Ev.bind (ev_decomposed s hs) ?_
  have := strip_l0 (d := decD (chs s)) (decD_has (chs_has s)) (by omega) (decD (chs s)).length 0 [] (by omega) (by omega) (by simp) (by simp)
  exact this
def cntM (l : List Int) : Nat := (l.filter isMk).length
theorem cntM_cons (c : Int) (l : List Int) : cntM (c :: l) = (if isMk c = true then 1 else 0) + cntM l := by
  unfold cntM
  rw [List.filter_cons]
  split <;> simp <;> omega
theorem marks_l0 {d : List Int} (hh : ∀ x ∈ d, hasS x = true) (hd : d.length < 400000) : ∀ (n i q : Nat), d.length ≤ i + n → i ≤ d.length → q ≤ i →
    Ev (fun k => bookplateref05_Marks.l0 k d (q : Int) (i : Int)) ((q + cntM (d.drop i) : Nat) : Int) := by
  intro n
  have last : ∀ (i q : Nat), ¬ i < d.length → Ev (fun k => bookplateref05_Marks.l0 k d (q : Int) (i : Int)) ((q + cntM (d.drop i) : Nat) : Int) := by
    intro i q h1
    rw [List.drop_of_length_le (by omega)]
    refine Ev.step (g' := fun _ => some (q : Int)) (fun k => ?_) (Ev.const _)
    rw [bookplateref05_Marks.l0, if_neg (by omega)]
  induction n with
  | zero => intro i q h1 h2 h3; exact last i q (by omega)
  | succ n ih =>
    intro i q h1 h2 h3
    by_cases hi : i < d.length
    · have hdr : d.drop i = d[i] :: d.drop (i + 1) := List.drop_eq_getElem_cons hi
      have hx := hh _ (List.getElem_mem hi)
      obtain ⟨c, hc⟩ : ∃ c, d[i] = c := ⟨_, rfl⟩
      rw [hc] at hx hdr
      rw [hdr, cntM_cons]
      refine Ev.step (g' := fun k => (bookplateref05_class.f k c).bind fun t => if t > 0 then bookplateref05_Marks.l0 k d ((q + 1 : Nat) : Int) ((i + 1 : Nat) : Int) else bookplateref05_Marks.l0 k d (q : Int) ((i + 1 : Nat) : Int)) (fun k => ?_) (Ev.bind (ev_class c hx) ?_)
      · rw [bookplateref05_Marks.l0, if_pos (by omega), if_pos (by omega), rd_get hi, hc, w64n i (by omega), w64n q (by omega)]
      · cases hmk : isMk c with
        | true =>
          have := ih (i + 1) (q + 1) (by omega) (by omega) (by omega)
          rw [if_pos rfl, show q + (1 + cntM (d.drop (i + 1))) = q + 1 + cntM (d.drop (i + 1)) by omega]
          exact Ev.congr (fun k => if_pos (mcl_pos.2 hmk)) this
        | false =>
          have := ih (i + 1) q (by omega) (by omega) (by omega)
          rw [if_neg (by decide), Nat.zero_add]
          exact Ev.congr (fun k => if_neg (by rw [mcl_zero hmk]; decide)) this
    · exact last i q hi
theorem ev_refMarks (s : ByteArray) (hs : s.size ≤ 50000) : Ev (fun k => bookplateref05_Marks.f k s) ((cntM (decD (chs s)) : Nat) : Int) := by
  have h1 := decD_len (chs s)
  have h2 := chs_len s
  refine Ev.bind (ev_decomposed s hs) ?_
  have := marks_l0 (d := decD (chs s)) (decD_has (chs_has s)) (by omega) (decD (chs s)).length 0 0 (by omega) (by omega) (by omega)
  rw [Nat.zero_add] at this
  exact this
end Go.Proofs.YthcpdhniakpbaaaDoor.X
end

section
namespace Go.Proofs.YthcpdhniakpbaaaDoor.X
open Go.RowKit Go.Proofs.YthcpdhniakpbaaaDoorW.PrintWords Go.Proofs.YthcpdhniakpbaaaDoorW.PrintLast Go.Proofs.YthcpdhniakpbaaaDoorW.PrintMore
attribute [local go_sem] max2_int min2_int max_two min_two max_three min_three max_four min_four
set_option linter.unusedVariables false
set_option linter.unusedSimpArgs false
def normal_Decompose.f (a0 : ByteArray) : Option (ByteArray) := (normal_decomposed.f a0).bind fun bt585 => ((normal_text.f bt585.1).bind fun t589 => (some t589))
set_option maxHeartbeats 8000000 in
set_option maxRecDepth 100000 in
theorem normal_Decompose.calls (a0 : ByteArray) (r : ByteArray) (w : World) (hG : GT1 w) (h : normal_Decompose.f a0 = some r) :
    Calls Tryd.prog 38 #[.string a0] w fun e w' => e = .returned (.string r) ∧ Below w.heap.size w w' := by
  have HG := Aside0.mk hG
  clear hG
  have HB := Aside0.mk (Below.refl w.heap.size w)
  have H : ((normal_decomposed.f a0).bind fun bt585 => ((normal_text.f bt585.1).bind fun t589 => (some t589))) = some r := h
  clear h
  replace H := Option.bind_eq_some_iff.mp H
  obtain ⟨⟨t585, t586⟩, A20, H⟩ := H
  replace H : ((normal_text.f t585).bind fun t589 => (some t589)) = some r := H
  have A2 := Aside0.mk A20
  clear A20
  replace H := Option.bind_eq_some_iff.mp H
  obtain ⟨t589, A30, H⟩ := H
  replace H : (some t589) = some r := H
  have A3 := Aside0.mk A30
  clear A30
  obtain rfl := Option.some.inj H
  go_enter Tryd.func38, Tryd.ntmps38
  go_wp2_with (first | ((with_reducible refine gate_callee (f := 64) rfl ?_); refine goesL_ (some 7) rfl rfl Tryd.func64 (by kernel_rfl) rfl #[.string a0] rfl (by (try simp only [List.map_toArray, List.map_cons, List.map_nil]); first | done | rfl | (simp only [List.length_drop, List.length_take]; rfl)) ?_; (with_reducible refine (normal_decomposed.calls a0 t585 t586 _ ?side1 A2.out).mono ?_); (case side1 => exact GT1.below (HG.out) (by repeat (first | (with_reducible first | exact HB.out | apply below_alloc | apply pw_below_drewN | apply below_drew1) | exact HB.out))); rintro e w4 ⟨v587, rfl, ho0, hb⟩; refine ⟨_, rfl, ?_⟩; have n0_ := Aside0.mk (Kd.R_lower ho0 (below_size (by repeat (first | (with_reducible first | exact HB.out | apply below_alloc | apply pw_below_drewN | apply below_drew1) | exact HB.out)))); have n1_ := Aside0.mk (below_step (by repeat (first | (with_reducible first | exact HB.out | apply below_alloc | apply pw_below_drewN | apply below_drew1) | exact HB.out)) hb); clear HB; have HO588 := n0_; have HB := n1_; clear n0_ n1_; (try clear hb); (try clear hb2); (try clear hk); (try clear hi); (try clear ho0); obtain ⟨Ao5, co5, eo5⟩ := Kd.R_slice HO588.out; subst eo5) | ((with_reducible refine gate_callee (f := 65) rfl ?_); refine goesL_ (some 11) rfl rfl Tryd.func65 (by kernel_rfl) rfl #[.slice Ao5 t585.length co5] rfl (by (try simp only [List.map_toArray, List.map_cons, List.map_nil]); first | done | rfl | (simp only [List.length_drop, List.length_take]; rfl)) ?_; (with_reducible refine (normal_text.calls _ _ t585 t589 _ ?side1 ?side2 A3.out).mono ?_); (case side1 => repeat (first | exact (Kd.R_reads' HO588.out).2.2 | (with_reducible refine Kd.C_alloc ?_ _) | (with_reducible refine Kd.C_drewN ?_ _) | (with_reducible refine Kd.C_drew ?_))); (case side2 => exact (Kd.R_reads' HO588.out).2.1); rintro e w6 ⟨rfl, hb⟩; refine ⟨_, rfl, ?_⟩; have n0_ := Aside0.mk (Kd.R_below (by (with_reducible repeat (first | apply Kd.R_alloc | apply Kd.R_drewN | apply Kd.R_drew)); exact HO588.out) hb); have n1_ := Aside0.mk (below_step (by repeat (first | (with_reducible first | exact HB.out | apply below_alloc | apply pw_below_drewN | apply below_drew1) | exact HB.out)) hb); clear HO588; clear HB; have HO588 := n0_; have HB := n1_; clear n0_ n1_; (try clear hb); (try clear hb2); (try clear hk); (try clear hi)))
  go_ret
  exact ⟨by first | rfl | (simp [errW_none, errW_some] <;> rfl) | (simp [*, errW_none, errW_some] <;> rfl), by repeat (first | (with_reducible first | exact HB.out | apply below_alloc | apply pw_below_drewN | apply below_drew1) | exact HB.out)⟩
def normal_Marks.l0 : Nat → Int → List Int → Int → Int → Option (Int)
  | 0, _, _, _, _ => none
  | k + 1, x3, x13, x14, x15 => if x15 < x14 then (if 0 ≤ x15 then (if x15 < (x13.length : Int) then ((normal_mark.f k (rd x13 x15)).bind fun t595 => (if t595 = true then (normal_Marks.l0 k (wrap64 (x3 + 1)) x13 x14 (wrap64 (x15 + 1))) else (normal_Marks.l0 k x3 x13 x14 (wrap64 (x15 + 1))))) else (none)) else (none)) else (some x3)
def normal_Marks.f (k : Nat) (a0 : ByteArray) : Option (Int) := (normal_decomposed.f a0).bind fun bt590 => (normal_Marks.l0 k 0 bt590.1 (bt590.1.length : Int) 0)
set_option maxHeartbeats 8000000 in
set_option maxRecDepth 100000 in
theorem normal_Marks.calls (k : Nat) (a0 : ByteArray) (r : Int) (w : World) (hG : GT1 w) (h : normal_Marks.f k a0 = some r) :
    Calls Tryd.prog 46 #[.string a0] w fun e w' => e = .returned (.int .i64 r) ∧ Below w.heap.size w w' := by
  have HG := Aside0.mk hG
  clear hG
  have HB := Aside0.mk (Below.refl w.heap.size w)
  have H : ((normal_decomposed.f a0).bind fun bt590 => (normal_Marks.l0 k 0 bt590.1 (bt590.1.length : Int) 0)) = some r := h
  clear h
  replace H := Option.bind_eq_some_iff.mp H
  obtain ⟨⟨t590, t591⟩, A20, H⟩ := H
  replace H : (normal_Marks.l0 k 0 t590 (t590.length : Int) 0) = some r := H
  have A2 := Aside0.mk A20
  clear A20
  have H' := Aside0.mk H
  clear H
  go_enter Tryd.func46, Tryd.ntmps46
  go_wp2_with (first | ((with_reducible refine gate_callee (f := 64) rfl ?_); refine goesL_ (some 10) rfl rfl Tryd.func64 (by kernel_rfl) rfl #[.string a0] rfl (by (try simp only [List.map_toArray, List.map_cons, List.map_nil]); first | done | rfl | (simp only [List.length_drop, List.length_take]; rfl)) ?_; (with_reducible refine (normal_decomposed.calls a0 t590 t591 _ ?side1 A2.out).mono ?_); (case side1 => exact GT1.below (HG.out) (by repeat (first | (with_reducible first | exact HB.out | apply below_alloc | apply pw_below_drewN | apply below_drew1) | exact HB.out))); rintro e w3 ⟨v592, rfl, ho0, hb⟩; refine ⟨_, rfl, ?_⟩; have n0_ := Aside0.mk (Kd.R_lower ho0 (below_size (by repeat (first | (with_reducible first | exact HB.out | apply below_alloc | apply pw_below_drewN | apply below_drew1) | exact HB.out)))); have n1_ := Aside0.mk (below_step (by repeat (first | (with_reducible first | exact HB.out | apply below_alloc | apply pw_below_drewN | apply below_drew1) | exact HB.out)) hb); clear HB; have HO593 := n0_; have HB := n1_; clear n0_ n1_; (try clear hb); (try clear hb2); (try clear hk); (try clear hi); (try clear ho0); obtain ⟨Ao4, co4, eo4⟩ := Kd.R_slice HO593.out; subst eo4))
  go_loopg [3, 15] k (fun kq v3 v15 w' => ∃ (x3_1 : Int) (x15_1 : Int), v3 = .int .i64 x3_1 ∧ v15 = .int .i64 x15_1 ∧ Aside0 (normal_Marks.l0 kq x3_1 t590 (t590.length : Int) x15_1 = some r) ∧ Aside0 (kq ≤ k) ∧ Aside0 (Kd.R (Kd.int .i64) 3 w' w.heap.size (fun _ => True) (.slice Ao4 t590.length co4) t590) ∧ Aside0 (Below w.heap.size w w'))
  case atStart => exact ⟨(0), (0), (by first | rfl | (simp; done) | (simp [*]; done)), (by first | rfl | (simp; done) | (simp [*]; done)), H', ⟨Nat.le_refl _⟩, ⟨by (with_reducible repeat (first | apply Kd.R_alloc | apply Kd.R_drewN | apply Kd.R_drew)); exact HO593.out⟩, ⟨by repeat (first | (with_reducible first | exact HB.out | apply below_alloc | apply pw_below_drewN | apply below_drew1) | exact HB.out)⟩⟩
  case round =>
    clear H'
    try clear p2
    try clear c4
    obtain ⟨x3_1, x15_1, rfl, rfl, HA, HK1, HO_13, HB⟩ := hrel
    cases gk with
    | zero => exact absurd HA.out (by simp [normal_Marks.l0])
    | succ k1 =>
      have H := HA.out
      clear HA
      simp only [normal_Marks.l0] at H
      by_cases c5 : x15_1 < (t590.length : Int)
      · rw [if_pos c5] at H
        have c5b0 : decide (x15_1 < (t590.length : Int)) = true := decide_eq_true c5
        clear c5
        by_cases c6 : 0 ≤ x15_1
        · rw [if_pos c6] at H
          have c6b0 : decide (0 ≤ x15_1) = true := decide_eq_true c6
          clear c6
          by_cases c7 : x15_1 < (t590.length : Int)
          · rw [if_pos c7] at H
            have c7b0 : decide (x15_1 < (t590.length : Int)) = true := decide_eq_true c7
            clear c7
            replace H := Option.bind_eq_some_iff.mp H
            obtain ⟨t595, A80, H⟩ := H
            replace H : (if t595 = true then (normal_Marks.l0 k1 (wrap64 (x3_1 + 1)) t590 (t590.length : Int) (wrap64 (x15_1 + 1))) else (normal_Marks.l0 k1 x3_1 t590 (t590.length : Int) (wrap64 (x15_1 + 1)))) = some r := H
            have A8 := Aside0.mk A80
            clear A80
            by_cases c9 : t595 = true
            · subst c9
              have H1 : (normal_Marks.l0 k1 (wrap64 (x3_1 + 1)) t590 (t590.length : Int) (wrap64 (x15_1 + 1))) = some r := by rw [if_pos rfl] at H; exact H
              clear H
              have H := H1
              clear H1
              have H' := Aside0.mk H
              clear H
              have p594 : 0 ≤ (x15_1 : Int) := of_decide_eq_true (by first | (with_reducible assumption) | assumption)
              have q594 : x15_1 < (t590.length : Int) := of_decide_eq_true (by first | (with_reducible assumption) | assumption)
              obtain ⟨ad594, e594, hx594_0⟩ := Kd.at_int (Kd.R_reads' HO_13.out).2.2 x15_1 p594 q594
              cases e594
              replace p594 := eq_true p594
              replace q594 := eq_true q594
              go_wp2_with (first | ((with_reducible refine gate_callee (f := 67) rfl ?_); refine goesL_ (some 20) rfl rfl Tryd.func67 (by kernel_rfl) rfl #[.int .i64 (rd t590 x15_1)] rfl (by (try simp only [List.map_toArray, List.map_cons, List.map_nil]); first | done | rfl | (simp only [List.length_drop, List.length_take]; rfl)) ?_; (with_reducible refine (normal_mark.calls k1 (rd t590 x15_1) true _ A8.out).mono ?_); rintro e w' ⟨rfl, ⟨nd, rfl⟩⟩; refine ⟨_, rfl, ?_⟩))
              go_roundg k1
              case measure => have := HK1.out; omega
              case rel => exact ⟨(wrap64 (x3_1 + 1)), (wrap64 (x15_1 + 1)), (by first | rfl | (simp; done) | (simp [*]; done)), (by first | rfl | (simp; done) | (simp [*]; done)), H', ⟨by have := HK1.out; omega⟩, ⟨by (with_reducible repeat (first | apply Kd.R_alloc | apply Kd.R_drewN | apply Kd.R_drew)); exact HO_13.out⟩, ⟨by repeat (first | (with_reducible first | exact HB.out | apply below_alloc | apply pw_below_drewN | apply below_drew1) | exact HB.out)⟩⟩
            · replace c9 := Bool.eq_false_iff.mpr c9
              subst c9
              have H1 : (normal_Marks.l0 k1 x3_1 t590 (t590.length : Int) (wrap64 (x15_1 + 1))) = some r := by rw [if_neg (show ¬ (false = true) by decide)] at H; exact H
              clear H
              have H := H1
              clear H1
              have H' := Aside0.mk H
              clear H
              have p594 : 0 ≤ (x15_1 : Int) := of_decide_eq_true (by first | (with_reducible assumption) | assumption)
              have q594 : x15_1 < (t590.length : Int) := of_decide_eq_true (by first | (with_reducible assumption) | assumption)
              obtain ⟨ad594, e594, hx594_0⟩ := Kd.at_int (Kd.R_reads' HO_13.out).2.2 x15_1 p594 q594
              cases e594
              replace p594 := eq_true p594
              replace q594 := eq_true q594
              go_wp2_with (first | ((with_reducible refine gate_callee (f := 67) rfl ?_); refine goesL_ (some 20) rfl rfl Tryd.func67 (by kernel_rfl) rfl #[.int .i64 (rd t590 x15_1)] rfl (by (try simp only [List.map_toArray, List.map_cons, List.map_nil]); first | done | rfl | (simp only [List.length_drop, List.length_take]; rfl)) ?_; (with_reducible refine (normal_mark.calls k1 (rd t590 x15_1) false _ A8.out).mono ?_); rintro e w' ⟨rfl, ⟨nd, rfl⟩⟩; refine ⟨_, rfl, ?_⟩))
              go_roundg k1
              case measure => have := HK1.out; omega
              case rel => exact ⟨(x3_1), (wrap64 (x15_1 + 1)), (by first | rfl | (simp; done) | (simp [*]; done)), (by first | rfl | (simp; done) | (simp [*]; done)), H', ⟨by have := HK1.out; omega⟩, ⟨by (with_reducible repeat (first | apply Kd.R_alloc | apply Kd.R_drewN | apply Kd.R_drew)); exact HO_13.out⟩, ⟨by repeat (first | (with_reducible first | exact HB.out | apply below_alloc | apply pw_below_drewN | apply below_drew1) | exact HB.out)⟩⟩
          · rw [if_neg c7] at H
            exact absurd H (by simp)
        · rw [if_neg c6] at H
          exact absurd H (by simp)
      · rw [if_neg c5] at H
        have c5b0 : decide (x15_1 < (t590.length : Int)) = false := decide_eq_false c5
        clear c5
        obtain rfl := Option.some.inj H
        go_wp2
        go_ret
        exact ⟨by first | rfl | (simp [errW_none, errW_some] <;> rfl) | (simp [*, errW_none, errW_some] <;> rfl), by repeat (first | (with_reducible first | exact HB.out | apply below_alloc | apply pw_below_drewN | apply below_drew1) | exact HB.out)⟩
def normal_Equal.f (k : Nat) (a0 : ByteArray) (a1 : ByteArray) : Option (Bool) := (normal_decomposed.f a0).bind fun bt596 => ((normal_decomposed.f a1).bind fun bt600 => (if bt596.2 = true then (if bt600.2 = true then ((slices_Equal_int_int.f k bt596.1 bt600.1).bind fun t604 => (some t604)) else (some false)) else (some false)))
set_option maxHeartbeats 8000000 in
set_option maxRecDepth 100000 in
theorem normal_Equal.calls (k : Nat) (a0 : ByteArray) (a1 : ByteArray) (r : Bool) (w : World) (hG : GT1 w) (h : normal_Equal.f k a0 a1 = some r) :
    Calls Tryd.prog 48 #[.string a0, .string a1] w fun e w' => e = .returned (.bool r) ∧ Below w.heap.size w w' := by
  have HG := Aside0.mk hG
  clear hG
  have HB := Aside0.mk (Below.refl w.heap.size w)
  have H : ((normal_decomposed.f a0).bind fun bt596 => ((normal_decomposed.f a1).bind fun bt600 => (if bt596.2 = true then (if bt600.2 = true then ((slices_Equal_int_int.f k bt596.1 bt600.1).bind fun t604 => (some t604)) else (some false)) else (some false)))) = some r := h
  clear h
  replace H := Option.bind_eq_some_iff.mp H
  obtain ⟨⟨t596, t597⟩, A30, H⟩ := H
  replace H : ((normal_decomposed.f a1).bind fun bt600 => (if t597 = true then (if bt600.2 = true then ((slices_Equal_int_int.f k t596 bt600.1).bind fun t604 => (some t604)) else (some false)) else (some false))) = some r := H
  have A3 := Aside0.mk A30
  clear A30
  replace H := Option.bind_eq_some_iff.mp H
  obtain ⟨⟨t600, t601⟩, A40, H⟩ := H
  replace H : (if t597 = true then (if t601 = true then ((slices_Equal_int_int.f k t596 t600).bind fun t604 => (some t604)) else (some false)) else (some false)) = some r := H
  have A4 := Aside0.mk A40
  clear A40
  by_cases c5 : t597 = true
  · subst c5
    have H1 : (if t601 = true then ((slices_Equal_int_int.f k t596 t600).bind fun t604 => (some t604)) else (some false)) = some r := by rw [if_pos rfl] at H; exact H
    clear H
    have H := H1
    clear H1
    by_cases c6 : t601 = true
    · subst c6
      have H1 : ((slices_Equal_int_int.f k t596 t600).bind fun t604 => (some t604)) = some r := by rw [if_pos rfl] at H; exact H
      clear H
      have H := H1
      clear H1
      replace H := Option.bind_eq_some_iff.mp H
      obtain ⟨t604, A70, H⟩ := H
      replace H : (some t604) = some r := H
      have A7 := Aside0.mk A70
      clear A70
      obtain rfl := Option.some.inj H
      go_enter Tryd.func48, Tryd.ntmps48
      go_wp2_with (first | ((with_reducible refine gate_callee (f := 64) rfl ?_); refine goesL_ (some 11) rfl rfl Tryd.func64 (by kernel_rfl) rfl #[.string a0] rfl (by (try simp only [List.map_toArray, List.map_cons, List.map_nil]); first | done | rfl | (simp only [List.length_drop, List.length_take]; rfl)) ?_; (with_reducible refine (normal_decomposed.calls a0 t596 true _ ?side1 A3.out).mono ?_); (case side1 => exact GT1.below (HG.out) (by repeat (first | (with_reducible first | exact HB.out | apply below_alloc | apply pw_below_drewN | apply below_drew1) | exact HB.out))); rintro e w8 ⟨v598, rfl, ho0, hb⟩; refine ⟨_, rfl, ?_⟩; have n0_ := Aside0.mk (Kd.R_lower ho0 (below_size (by repeat (first | (with_reducible first | exact HB.out | apply below_alloc | apply pw_below_drewN | apply below_drew1) | exact HB.out)))); have n1_ := Aside0.mk (below_step (by repeat (first | (with_reducible first | exact HB.out | apply below_alloc | apply pw_below_drewN | apply below_drew1) | exact HB.out)) hb); clear HB; have HO599 := n0_; have HB := n1_; clear n0_ n1_; (try clear hb); (try clear hb2); (try clear hk); (try clear hi); (try clear ho0)) | ((with_reducible refine gate_callee (f := 64) rfl ?_); refine goesL_ (some 16) rfl rfl Tryd.func64 (by kernel_rfl) rfl #[.string a1] rfl (by (try simp only [List.map_toArray, List.map_cons, List.map_nil]); first | done | rfl | (simp only [List.length_drop, List.length_take]; rfl)) ?_; (with_reducible refine (normal_decomposed.calls a1 t600 true _ ?side1 A4.out).mono ?_); (case side1 => exact GT1.below (HG.out) (by repeat (first | (with_reducible first | exact HB.out | apply below_alloc | apply pw_below_drewN | apply below_drew1) | exact HB.out))); rintro e w9 ⟨v602, rfl, ho0, hb⟩; refine ⟨_, rfl, ?_⟩; have n0_ := Aside0.mk (Kd.R_elder' (by (with_reducible repeat (first | apply Kd.R_alloc | apply Kd.R_drewN | apply Kd.R_drew)); exact HO599.out) (Kd.R_base ho0) hb); have n1_ := Aside0.mk (Kd.R_lower (Kd.R_new' ho0 (Kd.R_lt (by (with_reducible repeat (first | apply Kd.R_alloc | apply Kd.R_drewN | apply Kd.R_drew)); exact HO599.out))) (below_size (by repeat (first | (with_reducible first | exact HB.out | apply below_alloc | apply pw_below_drewN | apply below_drew1) | exact HB.out)))); have n2_ := Aside0.mk (below_step (by repeat (first | (with_reducible first | exact HB.out | apply below_alloc | apply pw_below_drewN | apply below_drew1) | exact HB.out)) hb); clear HO599; clear HB; have HO599 := n0_; have HO603 := n1_; have HB := n2_; clear n0_ n1_ n2_; (try clear hb); (try clear hb2); (try clear hk); (try clear hi); (try clear ho0); obtain ⟨Ao10, co10, eo10⟩ := Kd.R_slice HO599.out; subst eo10; obtain ⟨Ao11, co11, eo11⟩ := Kd.R_slice HO603.out; subst eo11) | (go_at_call 74; (with_reducible refine (slices_Equal_int_int.calls k _ _ t596 _ _ t600 t604 _ ?side1 ?side2 ?side3 ?side4 A7.out).mono ?_); (case side1 => repeat (first | exact (Kd.R_reads' HO599.out).2.2 | (with_reducible refine Kd.C_alloc ?_ _) | (with_reducible refine Kd.C_drewN ?_ _) | (with_reducible refine Kd.C_drew ?_))); (case side2 => exact (Kd.R_reads' HO599.out).2.1); (case side3 => repeat (first | exact (Kd.R_reads' HO603.out).2.2 | (with_reducible refine Kd.C_alloc ?_ _) | (with_reducible refine Kd.C_drewN ?_ _) | (with_reducible refine Kd.C_drew ?_))); (case side4 => exact (Kd.R_reads' HO603.out).2.1); rintro e w' ⟨rfl, ⟨nd, rfl⟩⟩))
      go_ret
      exact ⟨by first | rfl | (simp [errW_none, errW_some] <;> rfl) | (simp [*, errW_none, errW_some] <;> rfl), by repeat (first | (with_reducible first | exact HB.out | apply below_alloc | apply pw_below_drewN | apply below_drew1) | exact HB.out)⟩
    · replace c6 := Bool.eq_false_iff.mpr c6
      subst c6
      have H1 : (some false) = some r := by rw [if_neg (show ¬ (false = true) by decide)] at H; exact H
      clear H
      have H := H1
      clear H1
      obtain rfl := Option.some.inj H
      go_enter Tryd.func48, Tryd.ntmps48
      go_wp2_with (first | ((with_reducible refine gate_callee (f := 64) rfl ?_); refine goesL_ (some 11) rfl rfl Tryd.func64 (by kernel_rfl) rfl #[.string a0] rfl (by (try simp only [List.map_toArray, List.map_cons, List.map_nil]); first | done | rfl | (simp only [List.length_drop, List.length_take]; rfl)) ?_; (with_reducible refine (normal_decomposed.calls a0 t596 true _ ?side1 A3.out).mono ?_); (case side1 => exact GT1.below (HG.out) (by repeat (first | (with_reducible first | exact HB.out | apply below_alloc | apply pw_below_drewN | apply below_drew1) | exact HB.out))); rintro e w12 ⟨v598, rfl, ho0, hb⟩; refine ⟨_, rfl, ?_⟩; have n0_ := Aside0.mk (Kd.R_lower ho0 (below_size (by repeat (first | (with_reducible first | exact HB.out | apply below_alloc | apply pw_below_drewN | apply below_drew1) | exact HB.out)))); have n1_ := Aside0.mk (below_step (by repeat (first | (with_reducible first | exact HB.out | apply below_alloc | apply pw_below_drewN | apply below_drew1) | exact HB.out)) hb); clear HB; have HO599 := n0_; have HB := n1_; clear n0_ n1_; (try clear hb); (try clear hb2); (try clear hk); (try clear hi); (try clear ho0)) | ((with_reducible refine gate_callee (f := 64) rfl ?_); refine goesL_ (some 16) rfl rfl Tryd.func64 (by kernel_rfl) rfl #[.string a1] rfl (by (try simp only [List.map_toArray, List.map_cons, List.map_nil]); first | done | rfl | (simp only [List.length_drop, List.length_take]; rfl)) ?_; (with_reducible refine (normal_decomposed.calls a1 t600 false _ ?side1 A4.out).mono ?_); (case side1 => exact GT1.below (HG.out) (by repeat (first | (with_reducible first | exact HB.out | apply below_alloc | apply pw_below_drewN | apply below_drew1) | exact HB.out))); rintro e w13 ⟨v602, rfl, ho0, hb⟩; refine ⟨_, rfl, ?_⟩; have n0_ := Aside0.mk (Kd.R_elder' (by (with_reducible repeat (first | apply Kd.R_alloc | apply Kd.R_drewN | apply Kd.R_drew)); exact HO599.out) (Kd.R_base ho0) hb); have n1_ := Aside0.mk (Kd.R_lower (Kd.R_new' ho0 (Kd.R_lt (by (with_reducible repeat (first | apply Kd.R_alloc | apply Kd.R_drewN | apply Kd.R_drew)); exact HO599.out))) (below_size (by repeat (first | (with_reducible first | exact HB.out | apply below_alloc | apply pw_below_drewN | apply below_drew1) | exact HB.out)))); have n2_ := Aside0.mk (below_step (by repeat (first | (with_reducible first | exact HB.out | apply below_alloc | apply pw_below_drewN | apply below_drew1) | exact HB.out)) hb); clear HO599; clear HB; have HO599 := n0_; have HO603 := n1_; have HB := n2_; clear n0_ n1_ n2_; (try clear hb); (try clear hb2); (try clear hk); (try clear hi); (try clear ho0)))
      go_ret
      exact ⟨by first | rfl | (simp [errW_none, errW_some] <;> rfl) | (simp [*, errW_none, errW_some] <;> rfl), by repeat (first | (with_reducible first | exact HB.out | apply below_alloc | apply pw_below_drewN | apply below_drew1) | exact HB.out)⟩
  · replace c5 := Bool.eq_false_iff.mpr c5
    subst c5
    have H1 : (some false) = some r := by rw [if_neg (show ¬ (false = true) by decide)] at H; exact H
    clear H
    have H := H1
    clear H1
    obtain rfl := Option.some.inj H
    go_enter Tryd.func48, Tryd.ntmps48
    go_wp2_with (first | ((with_reducible refine gate_callee (f := 64) rfl ?_); refine goesL_ (some 11) rfl rfl Tryd.func64 (by kernel_rfl) rfl #[.string a0] rfl (by (try simp only [List.map_toArray, List.map_cons, List.map_nil]); first | done | rfl | (simp only [List.length_drop, List.length_take]; rfl)) ?_; (with_reducible refine (normal_decomposed.calls a0 t596 false _ ?side1 A3.out).mono ?_); (case side1 => exact GT1.below (HG.out) (by repeat (first | (with_reducible first | exact HB.out | apply below_alloc | apply pw_below_drewN | apply below_drew1) | exact HB.out))); rintro e w14 ⟨v598, rfl, ho0, hb⟩; refine ⟨_, rfl, ?_⟩; have n0_ := Aside0.mk (Kd.R_lower ho0 (below_size (by repeat (first | (with_reducible first | exact HB.out | apply below_alloc | apply pw_below_drewN | apply below_drew1) | exact HB.out)))); have n1_ := Aside0.mk (below_step (by repeat (first | (with_reducible first | exact HB.out | apply below_alloc | apply pw_below_drewN | apply below_drew1) | exact HB.out)) hb); clear HB; have HO599 := n0_; have HB := n1_; clear n0_ n1_; (try clear hb); (try clear hb2); (try clear hk); (try clear hi); (try clear ho0)) | ((with_reducible refine gate_callee (f := 64) rfl ?_); refine goesL_ (some 16) rfl rfl Tryd.func64 (by kernel_rfl) rfl #[.string a1] rfl (by (try simp only [List.map_toArray, List.map_cons, List.map_nil]); first | done | rfl | (simp only [List.length_drop, List.length_take]; rfl)) ?_; (with_reducible refine (normal_decomposed.calls a1 t600 t601 _ ?side1 A4.out).mono ?_); (case side1 => exact GT1.below (HG.out) (by repeat (first | (with_reducible first | exact HB.out | apply below_alloc | apply pw_below_drewN | apply below_drew1) | exact HB.out))); rintro e w15 ⟨v602, rfl, ho0, hb⟩; refine ⟨_, rfl, ?_⟩; have n0_ := Aside0.mk (Kd.R_elder' (by (with_reducible repeat (first | apply Kd.R_alloc | apply Kd.R_drewN | apply Kd.R_drew)); exact HO599.out) (Kd.R_base ho0) hb); have n1_ := Aside0.mk (Kd.R_lower (Kd.R_new' ho0 (Kd.R_lt (by (with_reducible repeat (first | apply Kd.R_alloc | apply Kd.R_drewN | apply Kd.R_drew)); exact HO599.out))) (below_size (by repeat (first | (with_reducible first | exact HB.out | apply below_alloc | apply pw_below_drewN | apply below_drew1) | exact HB.out)))); have n2_ := Aside0.mk (below_step (by repeat (first | (with_reducible first | exact HB.out | apply below_alloc | apply pw_below_drewN | apply below_drew1) | exact HB.out)) hb); clear HO599; clear HB; have HO599 := n0_; have HO603 := n1_; have HB := n2_; clear n0_ n1_ n2_; (try clear hb); (try clear hb2); (try clear hk); (try clear hi); (try clear ho0)))
    go_ret
    exact ⟨by first | rfl | (simp [errW_none, errW_some] <;> rfl) | (simp [*, errW_none, errW_some] <;> rfl), by repeat (first | (with_reducible first | exact HB.out | apply below_alloc | apply pw_below_drewN | apply below_drew1) | exact HB.out)⟩
end Go.Proofs.YthcpdhniakpbaaaDoor.X
end
