/- The law TranslitLongest returns true for every input, the package variables that it reads holding what the row lists. Part 6 of the texts that its proof stands on; put together by a program. -/
import Derived.Test.YthcpdhniakpbaaaDoorTranslitLongestE
section
namespace Go.Proofs.YthcpdhniakpbaaaDoor.X
open Go.RowKit Go.Proofs.YthcpdhniakpbaaaDoorW.PrintWords Go.Proofs.YthcpdhniakpbaaaDoorW.PrintLast Go.Proofs.YthcpdhniakpbaaaDoorW.PrintMore
attribute [local go_sem] max2_int min2_int max_two min_two max_three min_three max_four min_four
set_option linter.unusedVariables false
set_option linter.unusedSimpArgs false
mutual
def bookplatelaw07_TranslitLongest.j0 : Nat → List (S34) → ByteArray → Bool → Option (Bool)
  | 0, _, _, _ => none
  | k + 1, x0, x1, x34 => if x34 = true then (some true) else ((bookplateref04_Cut.f k x1 1).bind fun t502 => (bookplatelaw07_TranslitLongest.l0 k x0 x1 t502 t502 0 x0 (x0.length : Int) 0))
def bookplatelaw07_TranslitLongest.l0 : Nat → List (S34) → ByteArray → ByteArray → ByteArray → Int → List (S34) → Int → Int → Option (Bool)
  | 0, _, _, _, _, _, _, _, _ => none
  | k + 1, x0, x1, x5, x6, x7, x38, x39, x40 => if x40 < x39 then (if 0 ≤ x40 then (if x40 < (x38.length : Int) then (if (((rd_T34 x38 x40).f0).size : Int) > x7 then (if (x1.size : Int) ≥ (((rd_T34 x38 x40).f0).size : Int) then (if 0 ≤ (((rd_T34 x38 x40).f0).size : Int) then (if (((rd_T34 x38 x40).f0).size : Int) ≤ (x1.size : Int) then (if (x1.extract 0 ((((rd_T34 x38 x40).f0).size : Int) : Int).toNat).toList = ((rd_T34 x38 x40).f0).toList then (bookplatelaw07_TranslitLongest.l0 k x0 x1 ((rd_T34 x38 x40).f0) ((rd_T34 x38 x40).f1) (((rd_T34 x38 x40).f0).size : Int) x38 x39 (wrap64 (x40 + 1))) else (bookplatelaw07_TranslitLongest.l0 k x0 x1 x5 x6 x7 x38 x39 (wrap64 (x40 + 1)))) else (none)) else (none)) else (bookplatelaw07_TranslitLongest.l0 k x0 x1 x5 x6 x7 x38 x39 (wrap64 (x40 + 1)))) else (bookplatelaw07_TranslitLongest.l0 k x0 x1 x5 x6 x7 x38 x39 (wrap64 (x40 + 1)))) else (none)) else (none)) else ((bookplatelaw07_own.f k x0).bind fun t505 => ((translit_To.f k t505 x1).bind fun t508 => (if 0 ≤ (x5.size : Int) then (if (x5.size : Int) ≤ (x1.size : Int) then ((translit_To.f k t505 (x1.extract ((x5.size : Int) : Int).toNat x1.size)).bind fun t509 => (if x6.size + t509.size ≤ 9223372036854775807 then (some (t508.toList == (x6 ++ t509).toList)) else (none))) else (none)) else (none))))
end
def bookplatelaw07_TranslitLongest.f (k : Nat) (l0 : List (S34)) (a1 : ByteArray) : Option (Bool) := (bookplatelaw07_awake.f k).bind fun t498 => (if t498 = true then ((bookplatelaw07_few.f k l0).bind fun t499 => (if t499 = true then (if (a1.size : Int) > 40 then (bookplatelaw07_TranslitLongest.j0 k l0 a1 true) else (if a1.toList = ([] : List UInt8) then (bookplatelaw07_TranslitLongest.j0 k l0 a1 true) else ((bookplateref07_Valid.f k l0).bind fun t500 => (if t500 = true then ((bookplateref04_Cut.f k a1 1).bind fun t501 => (bookplatelaw07_TranslitLongest.j0 k l0 a1 (t501.toList == ([] : List UInt8)))) else (bookplatelaw07_TranslitLongest.j0 k l0 a1 true))))) else (bookplatelaw07_TranslitLongest.j0 k l0 a1 true))) else (some false))
def bookplatelaw07_TranslitLongest.T10 : Bool × List (List Nat × List Nat) := (true, [([], []), ([0], [0]), ([1], [1]), ([], []), ([2, 3], [2, 3]), ([4], [4]), ([5], [5]), ([6, 5], [5, 6]), ([5], [5]), ([8, 5], [5, 8]), ([9, 5], [5, 9]), ([7, 10, 5], [5, 7, 10]), ([5, 11], [5, 11]), ([12, 5], [12]), ([13], [13]), ([13], [13]), ([15, 13], [13, 15]), ([16, 13], [13, 16]), ([14, 17, 13], [13, 14, 17]), ([13], [13]), ([19, 13], [13, 19]), ([18, 20, 13], [13, 18, 20]), ([13, 21], [13, 21])])
def bookplatelaw07_TranslitLongest.B10 : List Nat := [0, 1, 3, 0, 15, 31, 63, 127, 63, 319, 831, 2047, 4095, 8191, 16383, 16383, 49151, 114687, 262143, 16383, 540671, 2097151, 4194303]
theorem bookplatelaw07_TranslitLongest.tab10 : rtab .any (opsOf Tryd.f5 10) = bookplatelaw07_TranslitLongest.T10 := by kernel_rfl
theorem bookplatelaw07_TranslitLongest.bits10 : waitsOk bookplatelaw07_TranslitLongest.T10.2 bookplatelaw07_TranslitLongest.B10 = true := by kernel_rfl
def bookplatelaw07_TranslitLongest.T11 : Bool × List (List Nat × List Nat) := (true, [([], []), ([0], [0]), ([], []), ([2], [2]), ([], []), ([4], [4]), ([5], [5]), ([1, 0, 1], [1]), ([3, 7, 0, 1, 2, 3, 7], [3]), ([6, 8, 0, 1, 2, 3, 4, 5, 6, 7, 8], [6])])
def bookplatelaw07_TranslitLongest.B11 : List Nat := [0, 1, 0, 4, 0, 16, 48, 3, 143, 511]
theorem bookplatelaw07_TranslitLongest.tab11 : rtab .any (opsOf Tryd.f5 11) = bookplatelaw07_TranslitLongest.T11 := by kernel_rfl
theorem bookplatelaw07_TranslitLongest.bits11 : waitsOk bookplatelaw07_TranslitLongest.T11.2 bookplatelaw07_TranslitLongest.B11 = true := by kernel_rfl
def bookplatelaw07_TranslitLongest.T14 : Bool × List (List Nat × List Nat) := (true, [([], []), ([], []), ([0, 1], [0, 1]), ([], []), ([], []), ([], []), ([], []), ([6], [6]), ([5, 7], [5, 7]), ([4, 8, 2], [4, 8]), ([3, 9], [3, 9]), ([2, 10], [2, 10]), ([11, 9, 0, 1, 2, 3, 4, 5, 6, 7, 8, 9, 10, 11], [11])])
def bookplatelaw07_TranslitLongest.B14 : List Nat := [0, 0, 3, 0, 0, 0, 0, 64, 224, 503, 1023, 2047, 4095]
theorem bookplatelaw07_TranslitLongest.tab14 : rtab .any (opsOf Tryd.f5 14) = bookplatelaw07_TranslitLongest.T14 := by kernel_rfl
theorem bookplatelaw07_TranslitLongest.bits14 : waitsOk bookplatelaw07_TranslitLongest.T14.2 bookplatelaw07_TranslitLongest.B14 = true := by kernel_rfl
set_option maxHeartbeats 8000000 in
set_option maxRecDepth 100000 in
theorem bookplatelaw07_TranslitLongest.calls (k : Nat) (A0 : Option Addr) (c0 : Nat) (l0 : List (S34)) (a1 : ByteArray) (r : Bool) (w : World) (hr0 : Kd.C k34 w A0 l0.length l0) (hc0 : l0.length ≤ c0) (hG : GT2 w) (h : bookplatelaw07_TranslitLongest.f k l0 a1 = some r) :
    Calls Tryd.prog 5 #[.slice A0 l0.length c0, .string a1] w fun e w' => e = .returned (.bool r) ∧ Below w.heap.size w w' := by
  have HG := Aside0.mk hG
  clear hG
  have hu34 := Tryd.underlying34
  have HR0 := Aside0.mk hr0
  have HC0 := Aside0.mk hc0
  clear hr0 hc0
  have HB := Aside0.mk (Below.refl w.heap.size w)
  have H : ((bookplatelaw07_awake.f k).bind fun t498 => (if t498 = true then ((bookplatelaw07_few.f k l0).bind fun t499 => (if t499 = true then (if (a1.size : Int) > 40 then (bookplatelaw07_TranslitLongest.j0 k l0 a1 true) else (if a1.toList = ([] : List UInt8) then (bookplatelaw07_TranslitLongest.j0 k l0 a1 true) else ((bookplateref07_Valid.f k l0).bind fun t500 => (if t500 = true then ((bookplateref04_Cut.f k a1 1).bind fun t501 => (bookplatelaw07_TranslitLongest.j0 k l0 a1 (t501.toList == ([] : List UInt8)))) else (bookplatelaw07_TranslitLongest.j0 k l0 a1 true))))) else (bookplatelaw07_TranslitLongest.j0 k l0 a1 true))) else (some false))) = some r := h
  clear h
  replace H := Option.bind_eq_some_iff.mp H
  obtain ⟨t498, A30, H⟩ := H
  replace H : (if t498 = true then ((bookplatelaw07_few.f k l0).bind fun t499 => (if t499 = true then (if (a1.size : Int) > 40 then (bookplatelaw07_TranslitLongest.j0 k l0 a1 true) else (if a1.toList = ([] : List UInt8) then (bookplatelaw07_TranslitLongest.j0 k l0 a1 true) else ((bookplateref07_Valid.f k l0).bind fun t500 => (if t500 = true then ((bookplateref04_Cut.f k a1 1).bind fun t501 => (bookplatelaw07_TranslitLongest.j0 k l0 a1 (t501.toList == ([] : List UInt8)))) else (bookplatelaw07_TranslitLongest.j0 k l0 a1 true))))) else (bookplatelaw07_TranslitLongest.j0 k l0 a1 true))) else (some false)) = some r := H
  have A3 := Aside0.mk A30
  clear A30
  by_cases c4 : t498 = true
  · subst c4
    have H1 : ((bookplatelaw07_few.f k l0).bind fun t499 => (if t499 = true then (if (a1.size : Int) > 40 then (bookplatelaw07_TranslitLongest.j0 k l0 a1 true) else (if a1.toList = ([] : List UInt8) then (bookplatelaw07_TranslitLongest.j0 k l0 a1 true) else ((bookplateref07_Valid.f k l0).bind fun t500 => (if t500 = true then ((bookplateref04_Cut.f k a1 1).bind fun t501 => (bookplatelaw07_TranslitLongest.j0 k l0 a1 (t501.toList == ([] : List UInt8)))) else (bookplatelaw07_TranslitLongest.j0 k l0 a1 true))))) else (bookplatelaw07_TranslitLongest.j0 k l0 a1 true))) = some r := by rw [if_pos rfl] at H; exact H
    clear H
    have H := H1
    clear H1
    have HC5 := Aside0.mk H
    clear H
    go_enter Tryd.func5, Tryd.ntmps5
    go_upto_region 3 with (first | ((with_reducible refine gate_callee (f := 17) rfl ?_); refine goesL_ (some 11) rfl rfl Tryd.func17 (by kernel_rfl) rfl #[] rfl (by (try simp only [List.map_toArray, List.map_cons, List.map_nil]); first | done | rfl | (simp only [List.length_drop, List.length_take]; rfl)) ?_; (with_reducible refine (bookplatelaw07_awake.calls k  true _ ?side1 A3.out).mono ?_); (case side1 => exact GT2.below (HG.out) (by repeat (first | (with_reducible first | exact HB.out | apply below_alloc | apply pw_below_drewN | apply below_drew1) | exact HB.out))); rintro e w6 ⟨rfl, hb⟩; refine ⟨_, rfl, ?_⟩; have n0_ := Aside0.mk (below_step (by repeat (first | (with_reducible first | exact HB.out | apply below_alloc | apply pw_below_drewN | apply below_drew1) | exact HB.out)) hb); clear HB; have HB := n0_; clear n0_; (try clear hb); (try clear hb2); (try clear hk); (try clear hi)))
    (try simp only [Act.put, List.setIfInBounds_toArray, List.set_cons_zero, List.set_cons_succ])
    go_cut [34] (fun v34 wc => ∃ (kq : Nat) (x34_4 : Bool), v34 = .bool x34_4 ∧ Aside0 (bookplatelaw07_TranslitLongest.j0 kq l0 a1 x34_4 = some r) ∧ Aside0 (kq ≤ k) ∧ Aside0 (Below w.heap.size w wc))
    case first =>
      have H := HC5.out
      clear HC5
      replace H := Option.bind_eq_some_iff.mp H
      obtain ⟨t499, A70, H⟩ := H
      replace H : (if t499 = true then (if (a1.size : Int) > 40 then (bookplatelaw07_TranslitLongest.j0 k l0 a1 true) else (if a1.toList = ([] : List UInt8) then (bookplatelaw07_TranslitLongest.j0 k l0 a1 true) else ((bookplateref07_Valid.f k l0).bind fun t500 => (if t500 = true then ((bookplateref04_Cut.f k a1 1).bind fun t501 => (bookplatelaw07_TranslitLongest.j0 k l0 a1 (t501.toList == ([] : List UInt8)))) else (bookplatelaw07_TranslitLongest.j0 k l0 a1 true))))) else (bookplatelaw07_TranslitLongest.j0 k l0 a1 true)) = some r := H
      have A7 := Aside0.mk A70
      clear A70
      by_cases c8 : t499 = true
      · subst c8
        have H1 : (if (a1.size : Int) > 40 then (bookplatelaw07_TranslitLongest.j0 k l0 a1 true) else (if a1.toList = ([] : List UInt8) then (bookplatelaw07_TranslitLongest.j0 k l0 a1 true) else ((bookplateref07_Valid.f k l0).bind fun t500 => (if t500 = true then ((bookplateref04_Cut.f k a1 1).bind fun t501 => (bookplatelaw07_TranslitLongest.j0 k l0 a1 (t501.toList == ([] : List UInt8)))) else (bookplatelaw07_TranslitLongest.j0 k l0 a1 true))))) = some r := by rw [if_pos rfl] at H; exact H
        clear H
        have H := H1
        clear H1
        by_cases c9 : (a1.size : Int) > 40
        · rw [if_pos c9] at H
          have c9b0 : decide (40 < (a1.size : Int)) = true := decide_eq_true c9
          have c9b1 : decide (40 < a1.size) = true := decide_eq_true (by omega)
          clear c9
          (first | rw [c9b0] | (simp only [i64_w, i32_w]; rw [c9b0]) | skip)
          have H' := Aside0.mk H
          clear H
          go_wp2_with (first | ((with_reducible refine gate_callee (f := 18) rfl ?_); refine goesL_ (some 14) rfl rfl Tryd.func18 (by kernel_rfl) rfl #[.slice A0 l0.length c0] rfl (by (try simp only [List.map_toArray, List.map_cons, List.map_nil]); first | done | rfl | (simp only [List.length_drop, List.length_take]; rfl)) ?_; (with_reducible refine (bookplatelaw07_few.calls k _ _ l0 true _ ?side1 ?side2 A7.out).mono ?_); (case side1 => repeat (first | exact (Kd.C_below HR0.out HB.out) | (with_reducible refine Kd.C_alloc ?_ _) | (with_reducible refine Kd.C_drewN ?_ _) | (with_reducible refine Kd.C_drew ?_))); (case side2 => exact HC0.out); rintro e w' ⟨rfl, ⟨nd, rfl⟩⟩; refine ⟨_, rfl, ?_⟩))
          go_meet
          case rel => exact ⟨_, (true), (by first | rfl | (simp; done) | (simp [*]; done)), H', ⟨by first | omega | exact Nat.le_refl _⟩, ⟨by repeat (first | (with_reducible first | exact HB.out | apply below_alloc | apply pw_below_drewN | apply below_drew1) | exact HB.out)⟩⟩
        · rw [if_neg c9] at H
          have c9b0 : decide (40 < (a1.size : Int)) = false := decide_eq_false c9
          have c9b1 : decide (40 < a1.size) = false := decide_eq_false (by omega)
          clear c9
          (first | rw [c9b0] | (simp only [i64_w, i32_w]; rw [c9b0]) | skip)
          by_cases c10 : a1.toList = ([] : List UInt8)
          · rw [if_pos c10] at H
            have c10b0 : (a1.toList == ([] : List UInt8)) = true := beq_iff_eq.mpr c10
            have c10b1 : (a1.toList != ([] : List UInt8)) = false := bne_eq_false_iff_eq.mpr c10
            clear c10
            have H' := Aside0.mk H
            clear H
            go_wp2_with (first | ((with_reducible refine gate_callee (f := 18) rfl ?_); refine goesL_ (some 14) rfl rfl Tryd.func18 (by kernel_rfl) rfl #[.slice A0 l0.length c0] rfl (by (try simp only [List.map_toArray, List.map_cons, List.map_nil]); first | done | rfl | (simp only [List.length_drop, List.length_take]; rfl)) ?_; (with_reducible refine (bookplatelaw07_few.calls k _ _ l0 true _ ?side1 ?side2 A7.out).mono ?_); (case side1 => repeat (first | exact (Kd.C_below HR0.out HB.out) | (with_reducible refine Kd.C_alloc ?_ _) | (with_reducible refine Kd.C_drewN ?_ _) | (with_reducible refine Kd.C_drew ?_))); (case side2 => exact HC0.out); rintro e w' ⟨rfl, ⟨nd, rfl⟩⟩; refine ⟨_, rfl, ?_⟩))
            go_meet
            case rel => exact ⟨_, (true), (by first | rfl | (simp; done) | (simp [*]; done)), H', ⟨by first | omega | exact Nat.le_refl _⟩, ⟨by repeat (first | (with_reducible first | exact HB.out | apply below_alloc | apply pw_below_drewN | apply below_drew1) | exact HB.out)⟩⟩
          · rw [if_neg c10] at H
            have c10b0 : (a1.toList == ([] : List UInt8)) = false := beq_eq_false_iff_ne.mpr c10
            have c10b1 : (a1.toList != ([] : List UInt8)) = true := bne_iff_ne.mpr c10
            replace H := Option.bind_eq_some_iff.mp H
            obtain ⟨t500, A110, H⟩ := H
            replace H : (if t500 = true then ((bookplateref04_Cut.f k a1 1).bind fun t501 => (bookplatelaw07_TranslitLongest.j0 k l0 a1 (t501.toList == ([] : List UInt8)))) else (bookplatelaw07_TranslitLongest.j0 k l0 a1 true)) = some r := H
            have A11 := Aside0.mk A110
            clear A110
            by_cases c12 : t500 = true
            · subst c12
              have H1 : ((bookplateref04_Cut.f k a1 1).bind fun t501 => (bookplatelaw07_TranslitLongest.j0 k l0 a1 (t501.toList == ([] : List UInt8)))) = some r := by rw [if_pos rfl] at H; exact H
              clear H
              have H := H1
              clear H1
              replace H := Option.bind_eq_some_iff.mp H
              obtain ⟨t501, A130, H⟩ := H
              replace H : (bookplatelaw07_TranslitLongest.j0 k l0 a1 (t501.toList == ([] : List UInt8))) = some r := H
              have A13 := Aside0.mk A130
              clear A130
              have H' := Aside0.mk H
              clear H
              go_wp2_with (first | ((with_reducible refine gate_callee (f := 18) rfl ?_); refine goesL_ (some 14) rfl rfl Tryd.func18 (by kernel_rfl) rfl #[.slice A0 l0.length c0] rfl (by (try simp only [List.map_toArray, List.map_cons, List.map_nil]); first | done | rfl | (simp only [List.length_drop, List.length_take]; rfl)) ?_; (with_reducible refine (bookplatelaw07_few.calls k _ _ l0 true _ ?side1 ?side2 A7.out).mono ?_); (case side1 => repeat (first | exact (Kd.C_below HR0.out HB.out) | (with_reducible refine Kd.C_alloc ?_ _) | (with_reducible refine Kd.C_drewN ?_ _) | (with_reducible refine Kd.C_drew ?_))); (case side2 => exact HC0.out); rintro e w' ⟨rfl, ⟨nd, rfl⟩⟩; refine ⟨_, rfl, ?_⟩) | (go_at_call 21; (with_reducible refine (bookplateref07_Valid.calls k _ _ l0 true _ ?side1 ?side2 A11.out).mono ?_); (case side1 => repeat (first | exact (Kd.C_below HR0.out (by repeat (first | (with_reducible first | exact HB.out | apply below_alloc | apply pw_below_drewN | apply below_drew1) | exact HB.out))) | (with_reducible refine Kd.C_alloc ?_ _) | (with_reducible refine Kd.C_drewN ?_ _) | (with_reducible refine Kd.C_drew ?_))); (case side2 => exact HC0.out); rintro e w14 ⟨rfl, hb⟩; have n0_ := Aside0.mk (below_step (by repeat (first | (with_reducible first | exact HB.out | apply below_alloc | apply pw_below_drewN | apply below_drew1) | exact HB.out)) hb); clear HB; have HB := n0_; clear n0_; (try clear hb); (try clear hb2); (try clear hk); (try clear hi)) | (go_at_call 30; (with_reducible refine (bookplateref04_Cut.calls k a1 1 t501 _ A13.out).mono ?_); rintro e w15 ⟨rfl, hb⟩; have n0_ := Aside0.mk (below_step (by repeat (first | (with_reducible first | exact HB.out | apply below_alloc | apply pw_below_drewN | apply below_drew1) | exact HB.out)) hb); clear HB; have HB := n0_; clear n0_; (try clear hb); (try clear hb2); (try clear hk); (try clear hi)))
              go_meet
              case rel => exact ⟨_, ((t501.toList == ([] : List UInt8))), (by first | rfl | (simp; done) | (simp [*]; done)), H', ⟨by first | omega | exact Nat.le_refl _⟩, ⟨by repeat (first | (with_reducible first | exact HB.out | apply below_alloc | apply pw_below_drewN | apply below_drew1) | exact HB.out)⟩⟩
            · replace c12 := Bool.eq_false_iff.mpr c12
              subst c12
              have H1 : (bookplatelaw07_TranslitLongest.j0 k l0 a1 true) = some r := by rw [if_neg (show ¬ (false = true) by decide)] at H; exact H
              clear H
              have H := H1
              clear H1
              have H' := Aside0.mk H
              clear H
              go_wp2_with (first | ((with_reducible refine gate_callee (f := 18) rfl ?_); refine goesL_ (some 14) rfl rfl Tryd.func18 (by kernel_rfl) rfl #[.slice A0 l0.length c0] rfl (by (try simp only [List.map_toArray, List.map_cons, List.map_nil]); first | done | rfl | (simp only [List.length_drop, List.length_take]; rfl)) ?_; (with_reducible refine (bookplatelaw07_few.calls k _ _ l0 true _ ?side1 ?side2 A7.out).mono ?_); (case side1 => repeat (first | exact (Kd.C_below HR0.out HB.out) | (with_reducible refine Kd.C_alloc ?_ _) | (with_reducible refine Kd.C_drewN ?_ _) | (with_reducible refine Kd.C_drew ?_))); (case side2 => exact HC0.out); rintro e w' ⟨rfl, ⟨nd, rfl⟩⟩; refine ⟨_, rfl, ?_⟩) | (go_at_call 21; (with_reducible refine (bookplateref07_Valid.calls k _ _ l0 false _ ?side1 ?side2 A11.out).mono ?_); (case side1 => repeat (first | exact (Kd.C_below HR0.out (by repeat (first | (with_reducible first | exact HB.out | apply below_alloc | apply pw_below_drewN | apply below_drew1) | exact HB.out))) | (with_reducible refine Kd.C_alloc ?_ _) | (with_reducible refine Kd.C_drewN ?_ _) | (with_reducible refine Kd.C_drew ?_))); (case side2 => exact HC0.out); rintro e w16 ⟨rfl, hb⟩; have n0_ := Aside0.mk (below_step (by repeat (first | (with_reducible first | exact HB.out | apply below_alloc | apply pw_below_drewN | apply below_drew1) | exact HB.out)) hb); clear HB; have HB := n0_; clear n0_; (try clear hb); (try clear hb2); (try clear hk); (try clear hi)))
              go_meet
              case rel => exact ⟨_, (true), (by first | rfl | (simp; done) | (simp [*]; done)), H', ⟨by first | omega | exact Nat.le_refl _⟩, ⟨by repeat (first | (with_reducible first | exact HB.out | apply below_alloc | apply pw_below_drewN | apply below_drew1) | exact HB.out)⟩⟩
      · replace c8 := Bool.eq_false_iff.mpr c8
        subst c8
        have H1 : (bookplatelaw07_TranslitLongest.j0 k l0 a1 true) = some r := by rw [if_neg (show ¬ (false = true) by decide)] at H; exact H
        clear H
        have H := H1
        clear H1
        have H' := Aside0.mk H
        clear H
        go_wp2_with (first | ((with_reducible refine gate_callee (f := 18) rfl ?_); refine goesL_ (some 14) rfl rfl Tryd.func18 (by kernel_rfl) rfl #[.slice A0 l0.length c0] rfl (by (try simp only [List.map_toArray, List.map_cons, List.map_nil]); first | done | rfl | (simp only [List.length_drop, List.length_take]; rfl)) ?_; (with_reducible refine (bookplatelaw07_few.calls k _ _ l0 false _ ?side1 ?side2 A7.out).mono ?_); (case side1 => repeat (first | exact (Kd.C_below HR0.out HB.out) | (with_reducible refine Kd.C_alloc ?_ _) | (with_reducible refine Kd.C_drewN ?_ _) | (with_reducible refine Kd.C_drew ?_))); (case side2 => exact HC0.out); rintro e w' ⟨rfl, ⟨nd, rfl⟩⟩; refine ⟨_, rfl, ?_⟩))
        go_meet
        case rel => exact ⟨_, (true), (by first | rfl | (simp; done) | (simp [*]; done)), H', ⟨by first | omega | exact Nat.le_refl _⟩, ⟨by repeat (first | (with_reducible first | exact HB.out | apply below_alloc | apply pw_below_drewN | apply below_drew1) | exact HB.out)⟩⟩
    case rest =>
      clear HC5
      try clear c1
      try clear p2
      try clear c4
      try clear c5
      try clear c8
      try clear c9
      try clear c9b0
      try clear c9b1
      try clear c10
      try clear c10b0
      try clear c10b1
      try clear c12
      obtain ⟨kq, x34_4, rfl, HA, HJ4, HB⟩ := hcut
      cases kq with
      | zero => exact absurd HA.out (by simp [bookplatelaw07_TranslitLongest.j0])
      | succ kj4 =>
        have H := HA.out
        clear HA
        simp only [bookplatelaw07_TranslitLongest.j0] at H
        by_cases c17 : x34_4 = true
        · subst c17
          have H1 : (some true) = some r := by rw [if_pos rfl] at H; exact H
          clear H
          have H := H1
          clear H1
          obtain rfl := Option.some.inj H
          go_wp2
          go_ret
          exact ⟨by first | rfl | (simp [errW_none, errW_some] <;> rfl) | (simp [*, errW_none, errW_some] <;> rfl), by repeat (first | (with_reducible first | exact HB.out | apply below_alloc | apply pw_below_drewN | apply below_drew1) | exact HB.out)⟩
        · replace c17 := Bool.eq_false_iff.mpr c17
          subst c17
          have H1 : ((bookplateref04_Cut.f kj4 a1 1).bind fun t502 => (bookplatelaw07_TranslitLongest.l0 kj4 l0 a1 t502 t502 0 l0 (l0.length : Int) 0)) = some r := by rw [if_neg (show ¬ (false = true) by decide)] at H; exact H
          clear H
          have H := H1
          clear H1
          replace H := Option.bind_eq_some_iff.mp H
          obtain ⟨t502, A180, H⟩ := H
          replace H : (bookplatelaw07_TranslitLongest.l0 kj4 l0 a1 t502 t502 0 l0 (l0.length : Int) 0) = some r := H
          have A18 := Aside0.mk A180
          clear A180
          have H' := Aside0.mk H
          clear H
          go_wp2_with (first | ((with_reducible refine gate_callee (f := 30) rfl ?_); refine goesL_ (some 36) rfl rfl Tryd.func30 (by kernel_rfl) rfl #[.string a1, .int .i64 1] rfl (by (try simp only [List.map_toArray, List.map_cons, List.map_nil]); first | done | rfl | (simp only [List.length_drop, List.length_take]; rfl)) ?_; (with_reducible refine (bookplateref04_Cut.calls kj4 a1 1 t502 _ A18.out).mono ?_); rintro e w19 ⟨rfl, hb⟩; refine ⟨_, rfl, ?_⟩; have n0_ := Aside0.mk (below_step (by repeat (first | (with_reducible first | exact HB.out | apply below_alloc | apply pw_below_drewN | apply below_drew1) | exact HB.out)) hb); clear HB; have HB := n0_; clear n0_; (try clear hb); (try clear hb2); (try clear hk); (try clear hi)))
          go_loopg [5, 6, 7, 40] kj4 (fun kq v5 v6 v7 v40 w' => ∃ (x5_2 : ByteArray) (x6_2 : ByteArray) (x7_2 : Int) (x40_2 : Int), v5 = .string x5_2 ∧ v6 = .string x6_2 ∧ v7 = .int .i64 x7_2 ∧ v40 = .int .i64 x40_2 ∧ Aside0 (bookplatelaw07_TranslitLongest.l0 kq l0 a1 x5_2 x6_2 x7_2 l0 (l0.length : Int) x40_2 = some r) ∧ Aside0 (kq ≤ kj4) ∧ Aside0 (Below w.heap.size w w'))
          case atStart => exact ⟨(t502), (t502), (0), (0), (by first | rfl | (simp; done) | (simp [*]; done)), (by first | rfl | (simp; done) | (simp [*]; done)), (by first | rfl | (simp; done) | (simp [*]; done)), (by first | rfl | (simp; done) | (simp [*]; done)), H', ⟨Nat.le_refl _⟩, ⟨by repeat (first | (with_reducible first | exact HB.out | apply below_alloc | apply pw_below_drewN | apply below_drew1) | exact HB.out)⟩⟩
          case round =>
            clear H'
            try clear c1
            try clear p2
            try clear c3
            try clear c4
            try clear c5
            try clear c8
            try clear c9
            try clear c9b0
            try clear c9b1
            try clear c10
            try clear c10b0
            try clear c10b1
            try clear c12
            try clear c17
            try clear c18
            try clear p2
            obtain ⟨x5_2, x6_2, x7_2, x40_2, rfl, rfl, rfl, rfl, HA, HK2, HB⟩ := hrel
            cases gk with
            | zero => exact absurd HA.out (by simp [bookplatelaw07_TranslitLongest.l0])
            | succ k2 =>
              have H := HA.out
              clear HA
              simp only [bookplatelaw07_TranslitLongest.l0] at H
              by_cases c20 : x40_2 < (l0.length : Int)
              · rw [if_pos c20] at H
                have c20b0 : decide (x40_2 < (l0.length : Int)) = true := decide_eq_true c20
                clear c20
                by_cases c21 : 0 ≤ x40_2
                · rw [if_pos c21] at H
                  have c21b0 : decide (0 ≤ x40_2) = true := decide_eq_true c21
                  clear c21
                  by_cases c22 : x40_2 < (l0.length : Int)
                  · rw [if_pos c22] at H
                    have c22b0 : decide (x40_2 < (l0.length : Int)) = true := decide_eq_true c22
                    clear c22
                    by_cases c23 : (((rd_T34 l0 x40_2).f0).size : Int) > x7_2
                    · rw [if_pos c23] at H
                      have c23b0 : decide (x7_2 < (((rd_T34 l0 x40_2).f0).size : Int)) = true := decide_eq_true c23
                      clear c23
                      by_cases c24 : (a1.size : Int) ≥ (((rd_T34 l0 x40_2).f0).size : Int)
                      · rw [if_pos c24] at H
                        have c24b0 : decide ((((rd_T34 l0 x40_2).f0).size : Int) ≤ (a1.size : Int)) = true := decide_eq_true c24
                        have c24b1 : decide (((rd_T34 l0 x40_2).f0).size ≤ a1.size) = true := decide_eq_true (Int.ofNat_le.mp c24)
                        clear c24
                        by_cases c25 : 0 ≤ (((rd_T34 l0 x40_2).f0).size : Int)
                        · rw [if_pos c25] at H
                          have c25b0 := eq_true c25
                          have c25b1 : decide (0 ≤ (((rd_T34 l0 x40_2).f0).size : Int)) = true := decide_eq_true c25
                          clear c25
                          by_cases c26 : (((rd_T34 l0 x40_2).f0).size : Int) ≤ (a1.size : Int)
                          · rw [if_pos c26] at H
                            have c26b0 := eq_true c26
                            have c26b1 : decide ((((rd_T34 l0 x40_2).f0).size : Int) ≤ (a1.size : Int)) = true := decide_eq_true c26
                            clear c26
                            by_cases c27 : (a1.extract 0 ((((rd_T34 l0 x40_2).f0).size : Int) : Int).toNat).toList = ((rd_T34 l0 x40_2).f0).toList
                            · rw [if_pos c27] at H
                              have c27b0 : ((a1.extract 0 ((((rd_T34 l0 x40_2).f0).size : Int) : Int).toNat).toList == ((rd_T34 l0 x40_2).f0).toList) = true := beq_iff_eq.mpr c27
                              have c27b0n := c27b0
                              simp only [Int.toNat_natCast] at c27b0n
                              have c27b1 : ((a1.extract 0 ((((rd_T34 l0 x40_2).f0).size : Int) : Int).toNat).toList != ((rd_T34 l0 x40_2).f0).toList) = false := bne_eq_false_iff_eq.mpr c27
                              have c27b1n := c27b1
                              simp only [Int.toNat_natCast] at c27b1n
                              clear c27
                              have H' := Aside0.mk H
                              clear H
                              have p503 : 0 ≤ (x40_2 : Int) := of_decide_eq_true (by first | (with_reducible assumption) | assumption)
                              have q503 : x40_2 < (l0.length : Int) := of_decide_eq_true (by first | (with_reducible assumption) | assumption)
                              obtain ⟨ad503, e503, hx503_0, hx503_1⟩ := at_T34 HR0.out x40_2 p503 q503
                              cases e503
                              replace hx503_0 := (HB.out.cell (World.block_lt_of_cell? w _ hx503_0)).trans hx503_0
                              replace hx503_1 := (HB.out.cell (World.block_lt_of_cell? w _ hx503_1)).trans hx503_1
                              replace p503 := eq_true p503
                              replace q503 := eq_true q503
                              try go_wp2_with (first | ((with_reducible refine gate_dst (N := 9) rfl ?_); (try (refine gate_guard (by rfl) ?_; dsimp only)); refine box_event ?hg (N := 9) ?hd (cs := #[.string (⟨#[]⟩ : ByteArray), .string (⟨#[]⟩ : ByteArray)]) (t := 34) ?hr ?_; (case hd => rfl); (case hg => rfl); (case hr => first | (go_simp; done) | (go_simp; rfl)); intro gb504 hg w28 hbox hb; have n0_ := Aside0.mk (below_step (by repeat (first | (with_reducible first | exact HB.out | apply below_alloc | apply pw_below_drewN | apply below_drew1) | exact HB.out)) hb); have n1_ := Aside0.mk (hbox); have n2_ := Aside0.mk ((by rw [hg]; exact (below_size (by repeat (first | (with_reducible first | exact HB.out | apply below_alloc | apply pw_below_drewN | apply below_drew1) | exact HB.out))) : w.heap.size ≤ gb504)); have n3_ := Aside0.mk ((by rw [hg]; exact (below_size (by repeat (first | (with_reducible first | exact HB.out | apply below_alloc | apply pw_below_drewN | apply below_drew1) | exact HB.out))) : w.heap.size ≤ gb504)); clear HB; have HB := n0_; have BK504 := n1_; have GW504 := n2_; have GE504 := n3_; clear n0_ n1_ n2_ n3_; clear hb hbox hg; have hcz29_0 : w28.cell? ⟨gb504, 0, none⟩ = some (.string (⟨#[]⟩ : ByteArray)) := (blk_cell BK504.out 0).trans rfl; have hcz29_1 : w28.cell? ⟨gb504, 1, none⟩ = some (.string (⟨#[]⟩ : ByteArray)) := (blk_cell BK504.out 1).trans rfl; have hfz29_0 := blk_frozen BK504.out 0; have hfz29_1 := blk_frozen BK504.out 1))
                              have n0_ : Aside0 (((w28.setCell ⟨gb504, 0, none⟩ (.string ((rd_T34 l0 x40_2).f0))).setCell ⟨gb504, 1, none⟩ (.string ((rd_T34 l0 x40_2).f1))).heap[gb504]? = some (.cells #[.string ((rd_T34 l0 x40_2).f0), .string ((rd_T34 l0 x40_2).f1)] 34 (0, 0))) := ⟨by (with_reducible repeat (first | refine blk_drewN ?_ _ | refine blk_drew ?_ | refine blk_alloc ?_ _)); refine blk_put (cs := #[.string ((rd_T34 l0 x40_2).f0), .string (⟨#[]⟩ : ByteArray)]) ?_ 1 _ rfl; (with_reducible repeat (first | refine blk_drewN ?_ _ | refine blk_drew ?_ | refine blk_alloc ?_ _)); refine blk_put (cs := #[.string (⟨#[]⟩ : ByteArray), .string (⟨#[]⟩ : ByteArray)]) ?_ 0 _ rfl; (with_reducible repeat (first | refine blk_drewN ?_ _ | refine blk_drew ?_ | refine blk_alloc ?_ _)); exact BK504.out⟩
                              have n1_ : Aside0 (Below w.heap.size w ((w28.setCell ⟨gb504, 0, none⟩ (.string ((rd_T34 l0 x40_2).f0))).setCell ⟨gb504, 1, none⟩ (.string ((rd_T34 l0 x40_2).f1)))) := ⟨by repeat (first | (with_reducible first | exact HB.out | apply below_alloc | apply pw_below_drewN | apply below_drew1 | refine below_set ?_ GE504.out) | exact HB.out)⟩
                              (try clear BK504)
                              (try clear HB)
                              generalize ((w28.setCell ⟨gb504, 0, none⟩ (.string ((rd_T34 l0 x40_2).f0))).setCell ⟨gb504, 1, none⟩ (.string ((rd_T34 l0 x40_2).f1))) = w30 at n0_ n1_ ⊢
                              have BK504 := n0_
                              have HB := n1_
                              clear n0_ n1_
                              have n0_ := Aside0.mk (blk_drew BK504.out)
                              have n1_ := Aside0.mk (below_drew1 HB.out)
                              clear BK504
                              clear HB
                              have BK504 := n0_
                              have HB := n1_
                              clear n0_ n1_
                              refine start_ (n := 23) (S := fun w' => w'.cell? ⟨gb504, 0, none⟩ = some (.string ((rd_T34 l0 x40_2).f0)) ∧ w'.cell? ⟨gb504, 1, none⟩ = some (.string ((rd_T34 l0 x40_2).f1))) (ds := []) #[false, false, false, false, false, false, false, false, false, false, false, false, false, false, false, false, false, false, false, false, false, false, false] (by kernel_rfl) rfl rfl ⟨(blk_cell BK504.out 0).trans rfl, (blk_cell BK504.out 1).trans rfl⟩ (fun hHeld => ?_); refine with_tabW bookplatelaw07_TranslitLongest.tab10 bookplatelaw07_TranslitLongest.bits10 (fun HT_ HW_ => ?_)
                              generalize w30.drew = w31 at BK504 HB hHeld ⊢
                              refine pure_ (i := 0) (N := some 44) (v := ?_) (a' := ?_) #[true, false, false, false, false, false, false, false, false, false, false, false, false, false, false, false, false, false, false, false, false, false, false] rfl rfl (any_of HT_.out (by kernel_rfl)) (fun _ _ _ h => h) (Or.inl ⟨by rfl, ?_⟩) ?_ ?_
                              rotate_left
                              · intro w'
                                go_simp
                                with_reducible rfl
                              rotate_left
                              · simp only [Act.put, List.setIfInBounds_toArray, List.set_cons_zero, List.set_cons_succ, i64_w, i32_w]
                                rfl
                              refine pure_ (i := 3) (N := some 47) (v := ?_) (a' := ?_) #[true, false, false, true, false, false, false, false, false, false, false, false, false, false, false, false, false, false, false, false, false, false, false] rfl rfl (any_of HT_.out (by kernel_rfl)) (fun _ _ _ h => h) (Or.inl ⟨by rfl, ?_⟩) ?_ ?_
                              rotate_left
                              · intro w'
                                go_simp
                                with_reducible rfl
                              rotate_left
                              · simp only [Act.put, List.setIfInBounds_toArray, List.set_cons_zero, List.set_cons_succ, i64_w, i32_w]
                                rfl
                              refine take_ (i := 1) (N := some 45) (v := ?_) (a' := ?_) #[true, true, false, true, false, false, false, false, false, false, false, false, false, false, false, false, false, false, false, false, false, false, false] rfl rfl (take_ofW HT_.out HW_.out (by kernel_rfl)) (fun _ _ _ h => h) (Or.inl ⟨by rfl, ?_⟩) hHeld ?_ ?_
                              rotate_left
                              · rintro w' ⟨s0, s1⟩
                                go_simp
                                with_reducible rfl
                              rotate_left
                              · simp only [Act.put, List.setIfInBounds_toArray, List.set_cons_zero, List.set_cons_succ, i64_w, i32_w]
                                rfl
                              refine pure_ (i := 2) (N := some 46) (v := ?_) (a' := ?_) #[true, true, true, true, false, false, false, false, false, false, false, false, false, false, false, false, false, false, false, false, false, false, false] rfl rfl (any_of HT_.out (by kernel_rfl)) (fun _ _ _ h => h) (Or.inl ⟨by rfl, ?_⟩) ?_ ?_
                              rotate_left
                              · intro w'
                                go_simp
                                with_reducible rfl
                              rotate_left
                              · simp only [Act.put, List.setIfInBounds_toArray, List.set_cons_zero, List.set_cons_succ, i64_w, i32_w]
                                rfl
                              refine pure_ (i := 4) (N := some 48) (v := ?_) (a' := ?_) #[true, true, true, true, true, false, false, false, false, false, false, false, false, false, false, false, false, false, false, false, false, false, false] rfl rfl (any_of HT_.out (by kernel_rfl)) (fun _ _ _ h => h) (Or.inl ⟨by rfl, ?_⟩) ?_ ?_
                              rotate_left
                              · intro w'
                                go_simp
                                with_reducible rfl
                              rotate_left
                              · simp only [Act.put, List.setIfInBounds_toArray, List.set_cons_zero, List.set_cons_succ, i64_w, i32_w]
                                rfl
                              refine pure_ (i := 5) (N := some 49) (v := ?_) (a' := ?_) #[true, true, true, true, true, true, false, false, false, false, false, false, false, false, false, false, false, false, false, false, false, false, false] rfl rfl (any_of HT_.out (by kernel_rfl)) (fun _ _ _ h => h) (Or.inl ⟨by rfl, ?_⟩) ?_ ?_
                              rotate_left
                              · intro w'
                                go_simp
                                with_reducible rfl
                              rotate_left
                              · simp only [Act.put, List.setIfInBounds_toArray, List.set_cons_zero, List.set_cons_succ, i64_w, i32_w]
                                rfl
                              refine pure_ (i := 6) (N := some 50) (v := ?_) (a' := ?_) #[true, true, true, true, true, true, true, false, false, false, false, false, false, false, false, false, false, false, false, false, false, false, false] rfl rfl (any_of HT_.out (by kernel_rfl)) (fun _ _ _ h => h) (Or.inl ⟨by rfl, ?_⟩) ?_ ?_
                              rotate_left
                              · intro w'
                                go_simp
                                with_reducible rfl
                              rotate_left
                              · simp only [Act.put, List.setIfInBounds_toArray, List.set_cons_zero, List.set_cons_succ, i64_w, i32_w]
                                rfl
                              refine pure_ (i := 7) (N := some 51) (v := ?_) (a' := ?_) #[true, true, true, true, true, true, true, true, false, false, false, false, false, false, false, false, false, false, false, false, false, false, false] rfl rfl (any_of HT_.out (by kernel_rfl)) (fun _ _ _ h => h) (Or.inl ⟨by rfl, ?_⟩) ?_ ?_
                              rotate_left
                              · intro w'
                                go_simp
                                with_reducible rfl
                              rotate_left
                              · simp only [Act.put, List.setIfInBounds_toArray, List.set_cons_zero, List.set_cons_succ, i64_w, i32_w]
                                rfl
                              refine pure_ (i := 8) (N := some 52) (v := ?_) (a' := ?_) #[true, true, true, true, true, true, true, true, true, false, false, false, false, false, false, false, false, false, false, false, false, false, false] rfl rfl (any_of HT_.out (by kernel_rfl)) (fun _ _ _ h => h) (Or.inl ⟨by rfl, ?_⟩) ?_ ?_
                              rotate_left
                              · intro w'
                                go_simp
                                with_reducible rfl
                              rotate_left
                              · simp only [Act.put, List.setIfInBounds_toArray, List.set_cons_zero, List.set_cons_succ, i64_w, i32_w]
                                rfl
                              refine take_ (i := 9) (N := some 53) (v := ?_) (a' := ?_) #[true, true, true, true, true, true, true, true, true, true, false, false, false, false, false, false, false, false, false, false, false, false, false] rfl rfl (take_ofW HT_.out HW_.out (by kernel_rfl)) (fun _ _ _ h => h) (Or.inl ⟨by rfl, ?_⟩) hHeld ?_ ?_
                              rotate_left
                              · rintro w' ⟨s0, s1⟩
                                go_simp
                                with_reducible rfl
                              rotate_left
                              · simp only [Act.put, List.setIfInBounds_toArray, List.set_cons_zero, List.set_cons_succ, i64_w, i32_w]
                                rfl
                              refine pure_ (i := 10) (N := some 54) (v := ?_) (a' := ?_) #[true, true, true, true, true, true, true, true, true, true, true, false, false, false, false, false, false, false, false, false, false, false, false] rfl rfl (any_of HT_.out (by kernel_rfl)) (fun _ _ _ h => h) (Or.inl ⟨by rfl, ?_⟩) ?_ ?_
                              rotate_left
                              · intro w'
                                go_simp
                                with_reducible rfl
                              rotate_left
                              · simp only [Act.put, List.setIfInBounds_toArray, List.set_cons_zero, List.set_cons_succ, i64_w, i32_w]
                                rfl
                              refine pure_ (i := 11) (N := some 55) (v := ?_) (a' := ?_) #[true, true, true, true, true, true, true, true, true, true, true, true, false, false, false, false, false, false, false, false, false, false, false] rfl rfl (any_of HT_.out (by kernel_rfl)) (fun _ _ _ h => h) (Or.inl ⟨by rfl, ?_⟩) ?_ ?_
                              rotate_left
                              · intro w'
                                go_simp
                                with_reducible rfl
                              rotate_left
                              · simp only [Act.put, List.setIfInBounds_toArray, List.set_cons_zero, List.set_cons_succ, i64_w, i32_w]
                                rfl
                              refine pure_ (i := 12) (N := some 56) (v := ?_) (a' := ?_) #[true, true, true, true, true, true, true, true, true, true, true, true, true, false, false, false, false, false, false, false, false, false, false] rfl rfl (any_of HT_.out (by kernel_rfl)) (fun _ _ _ h => h) (Or.inl ⟨by rfl, ?_⟩) ?_ ?_
                              rotate_left
                              · intro w'
                                go_simp
                                with_reducible rfl
                              rotate_left
                              · simp only [Act.put, List.setIfInBounds_toArray, List.set_cons_zero, List.set_cons_succ, i64_w, i32_w]
                                rfl
                              refine pure_ (i := 13) (N := some 57) (v := ?_) (a' := ?_) #[true, true, true, true, true, true, true, true, true, true, true, true, true, true, false, false, false, false, false, false, false, false, false] rfl rfl (any_of HT_.out (by kernel_rfl)) (fun _ _ _ h => h) (Or.inl ⟨by rfl, ?_⟩) ?_ ?_
                              rotate_left
                              · intro w'
                                go_simp
                                with_reducible rfl
                              rotate_left
                              · simp only [Act.put, List.setIfInBounds_toArray, List.set_cons_zero, List.set_cons_succ, i64_w, i32_w]
                                rfl
                              refine pure_ (i := 14) (N := some 58) (v := ?_) (a' := ?_) #[true, true, true, true, true, true, true, true, true, true, true, true, true, true, true, false, false, false, false, false, false, false, false] rfl rfl (any_of HT_.out (by kernel_rfl)) (fun _ _ _ h => h) (Or.inl ⟨by rfl, ?_⟩) ?_ ?_
                              rotate_left
                              · intro w'
                                go_simp
                                with_reducible rfl
                              rotate_left
                              · simp only [Act.put, List.setIfInBounds_toArray, List.set_cons_zero, List.set_cons_succ, i64_w, i32_w]
                                rfl
                              refine pure_ (i := 15) (N := some 59) (v := ?_) (a' := ?_) #[true, true, true, true, true, true, true, true, true, true, true, true, true, true, true, true, false, false, false, false, false, false, false] rfl rfl (any_of HT_.out (by kernel_rfl)) (fun _ _ _ h => h) (Or.inl ⟨by rfl, ?_⟩) ?_ ?_
                              rotate_left
                              · intro w'
                                go_simp
                                with_reducible rfl
                              rotate_left
                              · simp only [Act.put, List.setIfInBounds_toArray, List.set_cons_zero, List.set_cons_succ, i64_w, i32_w]
                                rfl
                              refine pure_ (i := 19) (N := some 63) (v := ?_) (a' := ?_) #[true, true, true, true, true, true, true, true, true, true, true, true, true, true, true, true, false, false, false, true, false, false, false] rfl rfl (any_of HT_.out (by kernel_rfl)) (fun _ _ _ h => h) (Or.inl ⟨by rfl, ?_⟩) ?_ ?_
                              rotate_left
                              · intro w'
                                go_simp
                                with_reducible rfl
                              rotate_left
                              · simp only [Act.put, List.setIfInBounds_toArray, List.set_cons_zero, List.set_cons_succ, i64_w, i32_w]
                                rfl
                              refine take_ (i := 16) (N := some 60) (v := ?_) (a' := ?_) #[true, true, true, true, true, true, true, true, true, true, true, true, true, true, true, true, true, false, false, true, false, false, false] rfl rfl (take_ofW HT_.out HW_.out (by kernel_rfl)) (fun _ _ _ h => h) (Or.inl ⟨by rfl, ?_⟩) hHeld ?_ ?_
                              rotate_left
                              · rintro w' ⟨s0, s1⟩
                                go_simp
                                with_reducible rfl
                              rotate_left
                              · simp only [Act.put, List.setIfInBounds_toArray, List.set_cons_zero, List.set_cons_succ, i64_w, i32_w]
                                rfl
                              refine pure_ (i := 17) (N := some 61) (v := ?_) (a' := ?_) #[true, true, true, true, true, true, true, true, true, true, true, true, true, true, true, true, true, true, false, true, false, false, false] rfl rfl (any_of HT_.out (by kernel_rfl)) (fun _ _ _ h => h) (Or.inl ⟨by rfl, ?_⟩) ?_ ?_
                              rotate_left
                              · intro w'
                                go_simp
                                with_reducible rfl
                              rotate_left
                              · simp only [Act.put, List.setIfInBounds_toArray, List.set_cons_zero, List.set_cons_succ, i64_w, i32_w]
                                rfl
                              refine pure_ (i := 18) (N := some 62) (v := ?_) (a' := ?_) #[true, true, true, true, true, true, true, true, true, true, true, true, true, true, true, true, true, true, true, true, false, false, false] rfl rfl (any_of HT_.out (by kernel_rfl)) (fun _ _ _ h => h) (Or.inl ⟨by rfl, ?_⟩) ?_ ?_
                              rotate_left
                              · intro w'
                                go_simp
                                with_reducible rfl
                              rotate_left
                              · simp only [Act.put, List.setIfInBounds_toArray, List.set_cons_zero, List.set_cons_succ, i64_w, i32_w]
                                rfl
                              refine take_ (i := 20) (N := some 64) (v := ?_) (a' := ?_) #[true, true, true, true, true, true, true, true, true, true, true, true, true, true, true, true, true, true, true, true, true, false, false] rfl rfl (take_ofW HT_.out HW_.out (by kernel_rfl)) (fun _ _ _ h => h) (Or.inl ⟨by rfl, ?_⟩) hHeld ?_ ?_
                              rotate_left
                              · rintro w' ⟨s0, s1⟩
                                go_simp
                                with_reducible rfl
                              rotate_left
                              · simp only [Act.put, List.setIfInBounds_toArray, List.set_cons_zero, List.set_cons_succ, i64_w, i32_w]
                                rfl
                              refine pure_ (i := 21) (N := some 65) (v := ?_) (a' := ?_) #[true, true, true, true, true, true, true, true, true, true, true, true, true, true, true, true, true, true, true, true, true, true, false] rfl rfl (any_of HT_.out (by kernel_rfl)) (fun _ _ _ h => h) (Or.inl ⟨by rfl, ?_⟩) ?_ ?_
                              rotate_left
                              · intro w'
                                go_simp
                                with_reducible rfl
                              rotate_left
                              · simp only [Act.put, List.setIfInBounds_toArray, List.set_cons_zero, List.set_cons_succ, i64_w, i32_w]
                                rfl
                              refine pure_ (i := 22) (N := some 66) (v := ?_) (a' := ?_) #[true, true, true, true, true, true, true, true, true, true, true, true, true, true, true, true, true, true, true, true, true, true, true] rfl rfl (any_of HT_.out (by kernel_rfl)) (fun _ _ _ h => h) (Or.inl ⟨by rfl, ?_⟩) ?_ ?_
                              rotate_left
                              · intro w'
                                go_simp
                                with_reducible rfl
                              rotate_left
                              · simp only [Act.put, List.setIfInBounds_toArray, List.set_cons_zero, List.set_cons_succ, i64_w, i32_w]
                                rfl
                              refine done_ (done_of HT_.out (by kernel_rfl)) ?_
                              try go_wp2
                              have n0_ := Aside0.mk (blk_drew BK504.out)
                              have n1_ := Aside0.mk (below_drew1 HB.out)
                              clear BK504
                              clear HB
                              have BK504 := n0_
                              have HB := n1_
                              clear n0_ n1_
                              refine start_ (n := 10) (S := fun w' => w'.cell? ⟨gb504, 0, none⟩ = some (.string ((rd_T34 l0 x40_2).f0)) ∧ w'.cell? ⟨gb504, 1, none⟩ = some (.string ((rd_T34 l0 x40_2).f1))) (ds := []) #[false, false, false, false, false, false, false, false, false, false] (by kernel_rfl) rfl rfl ⟨(blk_cell BK504.out 0).trans rfl, (blk_cell BK504.out 1).trans rfl⟩ (fun hHeld => ?_); refine with_tabW bookplatelaw07_TranslitLongest.tab11 bookplatelaw07_TranslitLongest.bits11 (fun HT_ HW_ => ?_)
                              generalize w31.drew = w32 at BK504 HB hHeld ⊢
                              refine pure_ (i := 0) (N := some 67) (v := ?_) (a' := ?_) #[true, false, false, false, false, false, false, false, false, false] rfl rfl (any_of HT_.out (by kernel_rfl)) (fun _ _ _ h => h) (Or.inl ⟨by rfl, ?_⟩) ?_ ?_
                              rotate_left
                              · intro w'
                                go_simp
                                with_reducible rfl
                              rotate_left
                              · simp only [Act.put, List.setIfInBounds_toArray, List.set_cons_zero, List.set_cons_succ, i64_w, i32_w]
                                rfl
                              refine pure_ (i := 2) (N := some 69) (v := ?_) (a' := ?_) #[true, false, true, false, false, false, false, false, false, false] rfl rfl (any_of HT_.out (by kernel_rfl)) (fun _ _ _ h => h) (Or.inl ⟨by rfl, ?_⟩) ?_ ?_
                              rotate_left
                              · intro w'
                                go_simp
                                with_reducible rfl
                              rotate_left
                              · simp only [Act.put, List.setIfInBounds_toArray, List.set_cons_zero, List.set_cons_succ, i64_w, i32_w]
                                rfl
                              refine pure_ (i := 4) (N := some 71) (v := ?_) (a' := ?_) #[true, false, true, false, true, false, false, false, false, false] rfl rfl (any_of HT_.out (by kernel_rfl)) (fun _ _ _ h => h) (Or.inl ⟨by rfl, ?_⟩) ?_ ?_
                              rotate_left
                              · intro w'
                                go_simp
                                with_reducible rfl
                              rotate_left
                              · simp only [Act.put, List.setIfInBounds_toArray, List.set_cons_zero, List.set_cons_succ, i64_w, i32_w]
                                rfl
                              refine take_ (i := 1) (N := some 68) (v := ?_) (a' := ?_) #[true, true, true, false, true, false, false, false, false, false] rfl rfl (take_ofW HT_.out HW_.out (by kernel_rfl)) (fun _ _ _ h => h) (Or.inl ⟨by rfl, ?_⟩) hHeld ?_ ?_
                              rotate_left
                              · rintro w' ⟨s0, s1⟩
                                go_simp
                                with_reducible rfl
                              rotate_left
                              · simp only [Act.put, List.setIfInBounds_toArray, List.set_cons_zero, List.set_cons_succ, i64_w, i32_w]
                                rfl
                              refine pure_ (i := 7) (N := some 5) (v := ?_) (a' := ?_) #[true, true, true, false, true, false, false, true, false, false] rfl rfl (any_of HT_.out (by kernel_rfl)) (fun _ _ _ h => h) (Or.inl ⟨by rfl, ?_⟩) ?_ ?_
                              rotate_left
                              · intro w'
                                go_simp
                                with_reducible rfl
                              rotate_left
                              · simp only [Act.put, List.setIfInBounds_toArray, List.set_cons_zero, List.set_cons_succ, i64_w, i32_w]
                                rfl
                              refine take_ (i := 3) (N := some 70) (v := ?_) (a' := ?_) #[true, true, true, true, true, false, false, true, false, false] rfl rfl (take_ofW HT_.out HW_.out (by kernel_rfl)) (fun _ _ _ h => h) (Or.inl ⟨by rfl, ?_⟩) hHeld ?_ ?_
                              rotate_left
                              · rintro w' ⟨s0, s1⟩
                                go_simp
                                with_reducible rfl
                              rotate_left
                              · simp only [Act.put, List.setIfInBounds_toArray, List.set_cons_zero, List.set_cons_succ, i64_w, i32_w]
                                rfl
                              refine pure_ (i := 8) (N := some 6) (v := ?_) (a' := ?_) #[true, true, true, true, true, false, false, true, true, false] rfl rfl (any_of HT_.out (by kernel_rfl)) (fun _ _ _ h => h) (Or.inl ⟨by rfl, ?_⟩) ?_ ?_
                              rotate_left
                              · intro w'
                                go_simp
                                with_reducible rfl
                              rotate_left
                              · simp only [Act.put, List.setIfInBounds_toArray, List.set_cons_zero, List.set_cons_succ, i64_w, i32_w]
                                rfl
                              refine take_ (i := 5) (N := some 72) (v := ?_) (a' := ?_) #[true, true, true, true, true, true, false, true, true, false] rfl rfl (take_ofW HT_.out HW_.out (by kernel_rfl)) (fun _ _ _ h => h) (Or.inl ⟨by rfl, ?_⟩) hHeld ?_ ?_
                              rotate_left
                              · rintro w' ⟨s0, s1⟩
                                go_simp
                                with_reducible rfl
                              rotate_left
                              · simp only [Act.put, List.setIfInBounds_toArray, List.set_cons_zero, List.set_cons_succ, i64_w, i32_w]
                                rfl
                              refine pure_ (i := 6) (N := some 73) (v := ?_) (a' := ?_) #[true, true, true, true, true, true, true, true, true, false] rfl rfl (any_of HT_.out (by kernel_rfl)) (fun _ _ _ h => h) (Or.inl ⟨by rfl, ?_⟩) ?_ ?_
                              rotate_left
                              · intro w'
                                go_simp
                                with_reducible rfl
                              rotate_left
                              · simp only [Act.put, List.setIfInBounds_toArray, List.set_cons_zero, List.set_cons_succ, i64_w, i32_w]
                                rfl
                              refine pure_ (i := 9) (N := some 7) (v := ?_) (a' := ?_) #[true, true, true, true, true, true, true, true, true, true] rfl rfl (any_of HT_.out (by kernel_rfl)) (fun _ _ _ h => h) (Or.inl ⟨by rfl, ?_⟩) ?_ ?_
                              rotate_left
                              · intro w'
                                go_simp
                                with_reducible rfl
                              rotate_left
                              · simp only [Act.put, List.setIfInBounds_toArray, List.set_cons_zero, List.set_cons_succ, i64_w, i32_w]
                                rfl
                              refine done_ (done_of HT_.out (by kernel_rfl)) ?_
                              try go_wp2
                              go_roundg k2
                              case measure => have := HJ4.out; have := HK2.out; omega
                              case rel => exact ⟨((rd_T34 l0 x40_2).f0), ((rd_T34 l0 x40_2).f1), ((((rd_T34 l0 x40_2).f0).size : Int)), (wrap64 (x40_2 + 1)), (by first | rfl | (simp; done) | (simp [*]; done)), (by first | rfl | (simp; done) | (simp [*]; done)), (by first | rfl | (simp; done) | (simp [*]; done)), (by first | rfl | (simp; done) | (simp [*]; done)), H', ⟨by have := HJ4.out; have := HK2.out; omega⟩, ⟨by repeat (first | (with_reducible first | exact HB.out | apply below_alloc | apply pw_below_drewN | apply below_drew1 | refine below_set ?_ GE504.out) | exact HB.out)⟩⟩
                            · rw [if_neg c27] at H
                              have c27b0 : ((a1.extract 0 ((((rd_T34 l0 x40_2).f0).size : Int) : Int).toNat).toList == ((rd_T34 l0 x40_2).f0).toList) = false := beq_eq_false_iff_ne.mpr c27
                              have c27b0n := c27b0
                              simp only [Int.toNat_natCast] at c27b0n
                              have c27b1 : ((a1.extract 0 ((((rd_T34 l0 x40_2).f0).size : Int) : Int).toNat).toList != ((rd_T34 l0 x40_2).f0).toList) = true := bne_iff_ne.mpr c27
                              have c27b1n := c27b1
                              simp only [Int.toNat_natCast] at c27b1n
                              have H' := Aside0.mk H
                              clear H
                              have p503 : 0 ≤ (x40_2 : Int) := of_decide_eq_true (by first | (with_reducible assumption) | assumption)
                              have q503 : x40_2 < (l0.length : Int) := of_decide_eq_true (by first | (with_reducible assumption) | assumption)
                              obtain ⟨ad503, e503, hx503_0, hx503_1⟩ := at_T34 HR0.out x40_2 p503 q503
                              cases e503
                              replace hx503_0 := (HB.out.cell (World.block_lt_of_cell? w _ hx503_0)).trans hx503_0
                              replace hx503_1 := (HB.out.cell (World.block_lt_of_cell? w _ hx503_1)).trans hx503_1
                              replace p503 := eq_true p503
                              replace q503 := eq_true q503
                              try go_wp2_with (first | ((with_reducible refine gate_dst (N := 9) rfl ?_); (try (refine gate_guard (by rfl) ?_; dsimp only)); refine box_event ?hg (N := 9) ?hd (cs := #[.string (⟨#[]⟩ : ByteArray), .string (⟨#[]⟩ : ByteArray)]) (t := 34) ?hr ?_; (case hd => rfl); (case hg => rfl); (case hr => first | (go_simp; done) | (go_simp; rfl)); intro gb504 hg w33 hbox hb; have n0_ := Aside0.mk (below_step (by repeat (first | (with_reducible first | exact HB.out | apply below_alloc | apply pw_below_drewN | apply below_drew1) | exact HB.out)) hb); have n1_ := Aside0.mk (hbox); have n2_ := Aside0.mk ((by rw [hg]; exact (below_size (by repeat (first | (with_reducible first | exact HB.out | apply below_alloc | apply pw_below_drewN | apply below_drew1) | exact HB.out))) : w.heap.size ≤ gb504)); have n3_ := Aside0.mk ((by rw [hg]; exact (below_size (by repeat (first | (with_reducible first | exact HB.out | apply below_alloc | apply pw_below_drewN | apply below_drew1) | exact HB.out))) : w.heap.size ≤ gb504)); clear HB; have HB := n0_; have BK504 := n1_; have GW504 := n2_; have GE504 := n3_; clear n0_ n1_ n2_ n3_; clear hb hbox hg; have hcz34_0 : w33.cell? ⟨gb504, 0, none⟩ = some (.string (⟨#[]⟩ : ByteArray)) := (blk_cell BK504.out 0).trans rfl; have hcz34_1 : w33.cell? ⟨gb504, 1, none⟩ = some (.string (⟨#[]⟩ : ByteArray)) := (blk_cell BK504.out 1).trans rfl; have hfz34_0 := blk_frozen BK504.out 0; have hfz34_1 := blk_frozen BK504.out 1))
                              have n0_ : Aside0 (((w33.setCell ⟨gb504, 0, none⟩ (.string ((rd_T34 l0 x40_2).f0))).setCell ⟨gb504, 1, none⟩ (.string ((rd_T34 l0 x40_2).f1))).heap[gb504]? = some (.cells #[.string ((rd_T34 l0 x40_2).f0), .string ((rd_T34 l0 x40_2).f1)] 34 (0, 0))) := ⟨by (with_reducible repeat (first | refine blk_drewN ?_ _ | refine blk_drew ?_ | refine blk_alloc ?_ _)); refine blk_put (cs := #[.string ((rd_T34 l0 x40_2).f0), .string (⟨#[]⟩ : ByteArray)]) ?_ 1 _ rfl; (with_reducible repeat (first | refine blk_drewN ?_ _ | refine blk_drew ?_ | refine blk_alloc ?_ _)); refine blk_put (cs := #[.string (⟨#[]⟩ : ByteArray), .string (⟨#[]⟩ : ByteArray)]) ?_ 0 _ rfl; (with_reducible repeat (first | refine blk_drewN ?_ _ | refine blk_drew ?_ | refine blk_alloc ?_ _)); exact BK504.out⟩
                              have n1_ : Aside0 (Below w.heap.size w ((w33.setCell ⟨gb504, 0, none⟩ (.string ((rd_T34 l0 x40_2).f0))).setCell ⟨gb504, 1, none⟩ (.string ((rd_T34 l0 x40_2).f1)))) := ⟨by repeat (first | (with_reducible first | exact HB.out | apply below_alloc | apply pw_below_drewN | apply below_drew1 | refine below_set ?_ GE504.out) | exact HB.out)⟩
                              (try clear BK504)
                              (try clear HB)
                              generalize ((w33.setCell ⟨gb504, 0, none⟩ (.string ((rd_T34 l0 x40_2).f0))).setCell ⟨gb504, 1, none⟩ (.string ((rd_T34 l0 x40_2).f1))) = w35 at n0_ n1_ ⊢
                              have BK504 := n0_
                              have HB := n1_
                              clear n0_ n1_
                              have n0_ := Aside0.mk (blk_drew BK504.out)
                              have n1_ := Aside0.mk (below_drew1 HB.out)
                              clear BK504
                              clear HB
                              have BK504 := n0_
                              have HB := n1_
                              clear n0_ n1_
                              refine start_ (n := 23) (S := fun w' => w'.cell? ⟨gb504, 0, none⟩ = some (.string ((rd_T34 l0 x40_2).f0)) ∧ w'.cell? ⟨gb504, 1, none⟩ = some (.string ((rd_T34 l0 x40_2).f1))) (ds := []) #[false, false, false, false, false, false, false, false, false, false, false, false, false, false, false, false, false, false, false, false, false, false, false] (by kernel_rfl) rfl rfl ⟨(blk_cell BK504.out 0).trans rfl, (blk_cell BK504.out 1).trans rfl⟩ (fun hHeld => ?_); refine with_tabW bookplatelaw07_TranslitLongest.tab10 bookplatelaw07_TranslitLongest.bits10 (fun HT_ HW_ => ?_)
                              generalize w35.drew = w36 at BK504 HB hHeld ⊢
                              refine pure_ (i := 0) (N := some 44) (v := ?_) (a' := ?_) #[true, false, false, false, false, false, false, false, false, false, false, false, false, false, false, false, false, false, false, false, false, false, false] rfl rfl (any_of HT_.out (by kernel_rfl)) (fun _ _ _ h => h) (Or.inl ⟨by rfl, ?_⟩) ?_ ?_
                              rotate_left
                              · intro w'
                                go_simp
                                with_reducible rfl
                              rotate_left
                              · simp only [Act.put, List.setIfInBounds_toArray, List.set_cons_zero, List.set_cons_succ, i64_w, i32_w]
                                rfl
                              refine pure_ (i := 3) (N := some 47) (v := ?_) (a' := ?_) #[true, false, false, true, false, false, false, false, false, false, false, false, false, false, false, false, false, false, false, false, false, false, false] rfl rfl (any_of HT_.out (by kernel_rfl)) (fun _ _ _ h => h) (Or.inl ⟨by rfl, ?_⟩) ?_ ?_
                              rotate_left
                              · intro w'
                                go_simp
                                with_reducible rfl
                              rotate_left
                              · simp only [Act.put, List.setIfInBounds_toArray, List.set_cons_zero, List.set_cons_succ, i64_w, i32_w]
                                rfl
                              refine take_ (i := 1) (N := some 45) (v := ?_) (a' := ?_) #[true, true, false, true, false, false, false, false, false, false, false, false, false, false, false, false, false, false, false, false, false, false, false] rfl rfl (take_ofW HT_.out HW_.out (by kernel_rfl)) (fun _ _ _ h => h) (Or.inl ⟨by rfl, ?_⟩) hHeld ?_ ?_
                              rotate_left
                              · rintro w' ⟨s0, s1⟩
                                go_simp
                                with_reducible rfl
                              rotate_left
                              · simp only [Act.put, List.setIfInBounds_toArray, List.set_cons_zero, List.set_cons_succ, i64_w, i32_w]
                                rfl
                              refine pure_ (i := 2) (N := some 46) (v := ?_) (a' := ?_) #[true, true, true, true, false, false, false, false, false, false, false, false, false, false, false, false, false, false, false, false, false, false, false] rfl rfl (any_of HT_.out (by kernel_rfl)) (fun _ _ _ h => h) (Or.inl ⟨by rfl, ?_⟩) ?_ ?_
                              rotate_left
                              · intro w'
                                go_simp
                                with_reducible rfl
                              rotate_left
                              · simp only [Act.put, List.setIfInBounds_toArray, List.set_cons_zero, List.set_cons_succ, i64_w, i32_w]
                                rfl
                              refine pure_ (i := 4) (N := some 48) (v := ?_) (a' := ?_) #[true, true, true, true, true, false, false, false, false, false, false, false, false, false, false, false, false, false, false, false, false, false, false] rfl rfl (any_of HT_.out (by kernel_rfl)) (fun _ _ _ h => h) (Or.inl ⟨by rfl, ?_⟩) ?_ ?_
                              rotate_left
                              · intro w'
                                go_simp
                                with_reducible rfl
                              rotate_left
                              · simp only [Act.put, List.setIfInBounds_toArray, List.set_cons_zero, List.set_cons_succ, i64_w, i32_w]
                                rfl
                              refine pure_ (i := 5) (N := some 49) (v := ?_) (a' := ?_) #[true, true, true, true, true, true, false, false, false, false, false, false, false, false, false, false, false, false, false, false, false, false, false] rfl rfl (any_of HT_.out (by kernel_rfl)) (fun _ _ _ h => h) (Or.inl ⟨by rfl, ?_⟩) ?_ ?_
                              rotate_left
                              · intro w'
                                go_simp
                                with_reducible rfl
                              rotate_left
                              · simp only [Act.put, List.setIfInBounds_toArray, List.set_cons_zero, List.set_cons_succ, i64_w, i32_w]
                                rfl
                              refine pure_ (i := 6) (N := some 50) (v := ?_) (a' := ?_) #[true, true, true, true, true, true, true, false, false, false, false, false, false, false, false, false, false, false, false, false, false, false, false] rfl rfl (any_of HT_.out (by kernel_rfl)) (fun _ _ _ h => h) (Or.inl ⟨by rfl, ?_⟩) ?_ ?_
                              rotate_left
                              · intro w'
                                go_simp
                                with_reducible rfl
                              rotate_left
                              · simp only [Act.put, List.setIfInBounds_toArray, List.set_cons_zero, List.set_cons_succ, i64_w, i32_w]
                                rfl
                              refine pure_ (i := 7) (N := some 51) (v := ?_) (a' := ?_) #[true, true, true, true, true, true, true, true, false, false, false, false, false, false, false, false, false, false, false, false, false, false, false] rfl rfl (any_of HT_.out (by kernel_rfl)) (fun _ _ _ h => h) (Or.inl ⟨by rfl, ?_⟩) ?_ ?_
                              rotate_left
                              · intro w'
                                go_simp
                                with_reducible rfl
                              rotate_left
                              · simp only [Act.put, List.setIfInBounds_toArray, List.set_cons_zero, List.set_cons_succ, i64_w, i32_w]
                                rfl
                              refine pure_ (i := 8) (N := some 52) (v := ?_) (a' := ?_) #[true, true, true, true, true, true, true, true, true, false, false, false, false, false, false, false, false, false, false, false, false, false, false] rfl rfl (any_of HT_.out (by kernel_rfl)) (fun _ _ _ h => h) (Or.inl ⟨by rfl, ?_⟩) ?_ ?_
                              rotate_left
                              · intro w'
                                go_simp
                                with_reducible rfl
                              rotate_left
                              · simp only [Act.put, List.setIfInBounds_toArray, List.set_cons_zero, List.set_cons_succ, i64_w, i32_w]
                                rfl
                              refine take_ (i := 9) (N := some 53) (v := ?_) (a' := ?_) #[true, true, true, true, true, true, true, true, true, true, false, false, false, false, false, false, false, false, false, false, false, false, false] rfl rfl (take_ofW HT_.out HW_.out (by kernel_rfl)) (fun _ _ _ h => h) (Or.inl ⟨by rfl, ?_⟩) hHeld ?_ ?_
                              rotate_left
                              · rintro w' ⟨s0, s1⟩
                                go_simp
                                with_reducible rfl
                              rotate_left
                              · simp only [Act.put, List.setIfInBounds_toArray, List.set_cons_zero, List.set_cons_succ, i64_w, i32_w]
                                rfl
                              refine pure_ (i := 10) (N := some 54) (v := ?_) (a' := ?_) #[true, true, true, true, true, true, true, true, true, true, true, false, false, false, false, false, false, false, false, false, false, false, false] rfl rfl (any_of HT_.out (by kernel_rfl)) (fun _ _ _ h => h) (Or.inl ⟨by rfl, ?_⟩) ?_ ?_
                              rotate_left
                              · intro w'
                                go_simp
                                with_reducible rfl
                              rotate_left
                              · simp only [Act.put, List.setIfInBounds_toArray, List.set_cons_zero, List.set_cons_succ, i64_w, i32_w]
                                rfl
                              refine pure_ (i := 11) (N := some 55) (v := ?_) (a' := ?_) #[true, true, true, true, true, true, true, true, true, true, true, true, false, false, false, false, false, false, false, false, false, false, false] rfl rfl (any_of HT_.out (by kernel_rfl)) (fun _ _ _ h => h) (Or.inl ⟨by rfl, ?_⟩) ?_ ?_
                              rotate_left
                              · intro w'
                                go_simp
                                with_reducible rfl
                              rotate_left
                              · simp only [Act.put, List.setIfInBounds_toArray, List.set_cons_zero, List.set_cons_succ, i64_w, i32_w]
                                rfl
                              refine pure_ (i := 12) (N := some 56) (v := ?_) (a' := ?_) #[true, true, true, true, true, true, true, true, true, true, true, true, true, false, false, false, false, false, false, false, false, false, false] rfl rfl (any_of HT_.out (by kernel_rfl)) (fun _ _ _ h => h) (Or.inl ⟨by rfl, ?_⟩) ?_ ?_
                              rotate_left
                              · intro w'
                                go_simp
                                with_reducible rfl
                              rotate_left
                              · simp only [Act.put, List.setIfInBounds_toArray, List.set_cons_zero, List.set_cons_succ, i64_w, i32_w]
                                rfl
                              refine pure_ (i := 13) (N := some 57) (v := ?_) (a' := ?_) #[true, true, true, true, true, true, true, true, true, true, true, true, true, true, false, false, false, false, false, false, false, false, false] rfl rfl (any_of HT_.out (by kernel_rfl)) (fun _ _ _ h => h) (Or.inl ⟨by rfl, ?_⟩) ?_ ?_
                              rotate_left
                              · intro w'
                                go_simp
                                with_reducible rfl
                              rotate_left
                              · simp only [Act.put, List.setIfInBounds_toArray, List.set_cons_zero, List.set_cons_succ, i64_w, i32_w]
                                rfl
                              refine pure_ (i := 14) (N := some 58) (v := ?_) (a' := ?_) #[true, true, true, true, true, true, true, true, true, true, true, true, true, true, true, false, false, false, false, false, false, false, false] rfl rfl (any_of HT_.out (by kernel_rfl)) (fun _ _ _ h => h) (Or.inl ⟨by rfl, ?_⟩) ?_ ?_
                              rotate_left
                              · intro w'
                                go_simp
                                with_reducible rfl
                              rotate_left
                              · simp only [Act.put, List.setIfInBounds_toArray, List.set_cons_zero, List.set_cons_succ, i64_w, i32_w]
                                rfl
                              refine pure_ (i := 15) (N := some 59) (v := ?_) (a' := ?_) #[true, true, true, true, true, true, true, true, true, true, true, true, true, true, true, true, false, false, false, false, false, false, false] rfl rfl (any_of HT_.out (by kernel_rfl)) (fun _ _ _ h => h) (Or.inl ⟨by rfl, ?_⟩) ?_ ?_
                              rotate_left
                              · intro w'
                                go_simp
                                with_reducible rfl
                              rotate_left
                              · simp only [Act.put, List.setIfInBounds_toArray, List.set_cons_zero, List.set_cons_succ, i64_w, i32_w]
                                rfl
                              refine pure_ (i := 19) (N := some 63) (v := ?_) (a' := ?_) #[true, true, true, true, true, true, true, true, true, true, true, true, true, true, true, true, false, false, false, true, false, false, false] rfl rfl (any_of HT_.out (by kernel_rfl)) (fun _ _ _ h => h) (Or.inl ⟨by rfl, ?_⟩) ?_ ?_
                              rotate_left
                              · intro w'
                                go_simp
                                with_reducible rfl
                              rotate_left
                              · simp only [Act.put, List.setIfInBounds_toArray, List.set_cons_zero, List.set_cons_succ, i64_w, i32_w]
                                rfl
                              refine take_ (i := 16) (N := some 60) (v := ?_) (a' := ?_) #[true, true, true, true, true, true, true, true, true, true, true, true, true, true, true, true, true, false, false, true, false, false, false] rfl rfl (take_ofW HT_.out HW_.out (by kernel_rfl)) (fun _ _ _ h => h) (Or.inl ⟨by rfl, ?_⟩) hHeld ?_ ?_
                              rotate_left
                              · rintro w' ⟨s0, s1⟩
                                go_simp
                                with_reducible rfl
                              rotate_left
                              · simp only [Act.put, List.setIfInBounds_toArray, List.set_cons_zero, List.set_cons_succ, i64_w, i32_w]
                                rfl
                              refine pure_ (i := 17) (N := some 61) (v := ?_) (a' := ?_) #[true, true, true, true, true, true, true, true, true, true, true, true, true, true, true, true, true, true, false, true, false, false, false] rfl rfl (any_of HT_.out (by kernel_rfl)) (fun _ _ _ h => h) (Or.inl ⟨by rfl, ?_⟩) ?_ ?_
                              rotate_left
                              · intro w'
                                go_simp
                                with_reducible rfl
                              rotate_left
                              · simp only [Act.put, List.setIfInBounds_toArray, List.set_cons_zero, List.set_cons_succ, i64_w, i32_w]
                                rfl
                              refine pure_ (i := 18) (N := some 62) (v := ?_) (a' := ?_) #[true, true, true, true, true, true, true, true, true, true, true, true, true, true, true, true, true, true, true, true, false, false, false] rfl rfl (any_of HT_.out (by kernel_rfl)) (fun _ _ _ h => h) (Or.inl ⟨by rfl, ?_⟩) ?_ ?_
                              rotate_left
                              · intro w'
                                go_simp
                                with_reducible rfl
                              rotate_left
                              · simp only [Act.put, List.setIfInBounds_toArray, List.set_cons_zero, List.set_cons_succ, i64_w, i32_w]
                                rfl
                              refine take_ (i := 20) (N := some 64) (v := ?_) (a' := ?_) #[true, true, true, true, true, true, true, true, true, true, true, true, true, true, true, true, true, true, true, true, true, false, false] rfl rfl (take_ofW HT_.out HW_.out (by kernel_rfl)) (fun _ _ _ h => h) (Or.inl ⟨by rfl, ?_⟩) hHeld ?_ ?_
                              rotate_left
                              · rintro w' ⟨s0, s1⟩
                                go_simp
                                with_reducible rfl
                              rotate_left
                              · simp only [Act.put, List.setIfInBounds_toArray, List.set_cons_zero, List.set_cons_succ, i64_w, i32_w]
                                rfl
                              refine pure_ (i := 21) (N := some 65) (v := ?_) (a' := ?_) #[true, true, true, true, true, true, true, true, true, true, true, true, true, true, true, true, true, true, true, true, true, true, false] rfl rfl (any_of HT_.out (by kernel_rfl)) (fun _ _ _ h => h) (Or.inl ⟨by rfl, ?_⟩) ?_ ?_
                              rotate_left
                              · intro w'
                                go_simp
                                with_reducible rfl
                              rotate_left
                              · simp only [Act.put, List.setIfInBounds_toArray, List.set_cons_zero, List.set_cons_succ, i64_w, i32_w]
                                rfl
                              refine pure_ (i := 22) (N := some 66) (v := ?_) (a' := ?_) #[true, true, true, true, true, true, true, true, true, true, true, true, true, true, true, true, true, true, true, true, true, true, true] rfl rfl (any_of HT_.out (by kernel_rfl)) (fun _ _ _ h => h) (Or.inl ⟨by rfl, ?_⟩) ?_ ?_
                              rotate_left
                              · intro w'
                                go_simp
                                with_reducible rfl
                              rotate_left
                              · simp only [Act.put, List.setIfInBounds_toArray, List.set_cons_zero, List.set_cons_succ, i64_w, i32_w]
                                rfl
                              refine done_ (done_of HT_.out (by kernel_rfl)) ?_
                              try go_wp2
                              go_roundg k2
                              case measure => have := HJ4.out; have := HK2.out; omega
                              case rel => exact ⟨(x5_2), (x6_2), (x7_2), (wrap64 (x40_2 + 1)), (by first | rfl | (simp; done) | (simp [*]; done)), (by first | rfl | (simp; done) | (simp [*]; done)), (by first | rfl | (simp; done) | (simp [*]; done)), (by first | rfl | (simp; done) | (simp [*]; done)), H', ⟨by have := HJ4.out; have := HK2.out; omega⟩, ⟨by repeat (first | (with_reducible first | exact HB.out | apply below_alloc | apply pw_below_drewN | apply below_drew1 | refine below_set ?_ GE504.out) | exact HB.out)⟩⟩
                          · rw [if_neg c26] at H
                            exact absurd H (by simp)
                        · rw [if_neg c25] at H
                          exact absurd H (by simp)
                      · rw [if_neg c24] at H
                        have c24b0 : decide ((((rd_T34 l0 x40_2).f0).size : Int) ≤ (a1.size : Int)) = false := decide_eq_false c24
                        have c24b1 : decide (((rd_T34 l0 x40_2).f0).size ≤ a1.size) = false := decide_eq_false (fun h => c24 (Int.ofNat_le.mpr h))
                        clear c24
                        have H' := Aside0.mk H
                        clear H
                        have p503 : 0 ≤ (x40_2 : Int) := of_decide_eq_true (by first | (with_reducible assumption) | assumption)
                        have q503 : x40_2 < (l0.length : Int) := of_decide_eq_true (by first | (with_reducible assumption) | assumption)
                        obtain ⟨ad503, e503, hx503_0, hx503_1⟩ := at_T34 HR0.out x40_2 p503 q503
                        cases e503
                        replace hx503_0 := (HB.out.cell (World.block_lt_of_cell? w _ hx503_0)).trans hx503_0
                        replace hx503_1 := (HB.out.cell (World.block_lt_of_cell? w _ hx503_1)).trans hx503_1
                        replace p503 := eq_true p503
                        replace q503 := eq_true q503
                        try go_wp2_with (first | ((with_reducible refine gate_dst (N := 9) rfl ?_); (try (refine gate_guard (by rfl) ?_; dsimp only)); refine box_event ?hg (N := 9) ?hd (cs := #[.string (⟨#[]⟩ : ByteArray), .string (⟨#[]⟩ : ByteArray)]) (t := 34) ?hr ?_; (case hd => rfl); (case hg => rfl); (case hr => first | (go_simp; done) | (go_simp; rfl)); intro gb504 hg w37 hbox hb; have n0_ := Aside0.mk (below_step (by repeat (first | (with_reducible first | exact HB.out | apply below_alloc | apply pw_below_drewN | apply below_drew1) | exact HB.out)) hb); have n1_ := Aside0.mk (hbox); have n2_ := Aside0.mk ((by rw [hg]; exact (below_size (by repeat (first | (with_reducible first | exact HB.out | apply below_alloc | apply pw_below_drewN | apply below_drew1) | exact HB.out))) : w.heap.size ≤ gb504)); have n3_ := Aside0.mk ((by rw [hg]; exact (below_size (by repeat (first | (with_reducible first | exact HB.out | apply below_alloc | apply pw_below_drewN | apply below_drew1) | exact HB.out))) : w.heap.size ≤ gb504)); clear HB; have HB := n0_; have BK504 := n1_; have GW504 := n2_; have GE504 := n3_; clear n0_ n1_ n2_ n3_; clear hb hbox hg; have hcz38_0 : w37.cell? ⟨gb504, 0, none⟩ = some (.string (⟨#[]⟩ : ByteArray)) := (blk_cell BK504.out 0).trans rfl; have hcz38_1 : w37.cell? ⟨gb504, 1, none⟩ = some (.string (⟨#[]⟩ : ByteArray)) := (blk_cell BK504.out 1).trans rfl; have hfz38_0 := blk_frozen BK504.out 0; have hfz38_1 := blk_frozen BK504.out 1))
                        have n0_ : Aside0 (((w37.setCell ⟨gb504, 0, none⟩ (.string ((rd_T34 l0 x40_2).f0))).setCell ⟨gb504, 1, none⟩ (.string ((rd_T34 l0 x40_2).f1))).heap[gb504]? = some (.cells #[.string ((rd_T34 l0 x40_2).f0), .string ((rd_T34 l0 x40_2).f1)] 34 (0, 0))) := ⟨by (with_reducible repeat (first | refine blk_drewN ?_ _ | refine blk_drew ?_ | refine blk_alloc ?_ _)); refine blk_put (cs := #[.string ((rd_T34 l0 x40_2).f0), .string (⟨#[]⟩ : ByteArray)]) ?_ 1 _ rfl; (with_reducible repeat (first | refine blk_drewN ?_ _ | refine blk_drew ?_ | refine blk_alloc ?_ _)); refine blk_put (cs := #[.string (⟨#[]⟩ : ByteArray), .string (⟨#[]⟩ : ByteArray)]) ?_ 0 _ rfl; (with_reducible repeat (first | refine blk_drewN ?_ _ | refine blk_drew ?_ | refine blk_alloc ?_ _)); exact BK504.out⟩
                        have n1_ : Aside0 (Below w.heap.size w ((w37.setCell ⟨gb504, 0, none⟩ (.string ((rd_T34 l0 x40_2).f0))).setCell ⟨gb504, 1, none⟩ (.string ((rd_T34 l0 x40_2).f1)))) := ⟨by repeat (first | (with_reducible first | exact HB.out | apply below_alloc | apply pw_below_drewN | apply below_drew1 | refine below_set ?_ GE504.out) | exact HB.out)⟩
                        (try clear BK504)
                        (try clear HB)
                        generalize ((w37.setCell ⟨gb504, 0, none⟩ (.string ((rd_T34 l0 x40_2).f0))).setCell ⟨gb504, 1, none⟩ (.string ((rd_T34 l0 x40_2).f1))) = w39 at n0_ n1_ ⊢
                        have BK504 := n0_
                        have HB := n1_
                        clear n0_ n1_
                        have n0_ := Aside0.mk (blk_drew BK504.out)
                        have n1_ := Aside0.mk (below_drew1 HB.out)
                        clear BK504
                        clear HB
                        have BK504 := n0_
                        have HB := n1_
                        clear n0_ n1_
                        refine start_ (n := 23) (S := fun w' => w'.cell? ⟨gb504, 0, none⟩ = some (.string ((rd_T34 l0 x40_2).f0)) ∧ w'.cell? ⟨gb504, 1, none⟩ = some (.string ((rd_T34 l0 x40_2).f1))) (ds := []) #[false, false, false, false, false, false, false, false, false, false, false, false, false, false, false, false, false, false, false, false, false, false, false] (by kernel_rfl) rfl rfl ⟨(blk_cell BK504.out 0).trans rfl, (blk_cell BK504.out 1).trans rfl⟩ (fun hHeld => ?_); refine with_tabW bookplatelaw07_TranslitLongest.tab10 bookplatelaw07_TranslitLongest.bits10 (fun HT_ HW_ => ?_)
                        generalize w39.drew = w40 at BK504 HB hHeld ⊢
                        refine pure_ (i := 0) (N := some 44) (v := ?_) (a' := ?_) #[true, false, false, false, false, false, false, false, false, false, false, false, false, false, false, false, false, false, false, false, false, false, false] rfl rfl (any_of HT_.out (by kernel_rfl)) (fun _ _ _ h => h) (Or.inl ⟨by rfl, ?_⟩) ?_ ?_
                        rotate_left
                        · intro w'
                          go_simp
                          with_reducible rfl
                        rotate_left
                        · simp only [Act.put, List.setIfInBounds_toArray, List.set_cons_zero, List.set_cons_succ, i64_w, i32_w]
                          rfl
                        refine pure_ (i := 3) (N := some 47) (v := ?_) (a' := ?_) #[true, false, false, true, false, false, false, false, false, false, false, false, false, false, false, false, false, false, false, false, false, false, false] rfl rfl (any_of HT_.out (by kernel_rfl)) (fun _ _ _ h => h) (Or.inl ⟨by rfl, ?_⟩) ?_ ?_
                        rotate_left
                        · intro w'
                          go_simp
                          with_reducible rfl
                        rotate_left
                        · simp only [Act.put, List.setIfInBounds_toArray, List.set_cons_zero, List.set_cons_succ, i64_w, i32_w]
                          rfl
                        refine take_ (i := 1) (N := some 45) (v := ?_) (a' := ?_) #[true, true, false, true, false, false, false, false, false, false, false, false, false, false, false, false, false, false, false, false, false, false, false] rfl rfl (take_ofW HT_.out HW_.out (by kernel_rfl)) (fun _ _ _ h => h) (Or.inl ⟨by rfl, ?_⟩) hHeld ?_ ?_
                        rotate_left
                        · rintro w' ⟨s0, s1⟩
                          go_simp
                          with_reducible rfl
                        rotate_left
                        · simp only [Act.put, List.setIfInBounds_toArray, List.set_cons_zero, List.set_cons_succ, i64_w, i32_w]
                          rfl
                        refine pure_ (i := 2) (N := some 46) (v := ?_) (a' := ?_) #[true, true, true, true, false, false, false, false, false, false, false, false, false, false, false, false, false, false, false, false, false, false, false] rfl rfl (any_of HT_.out (by kernel_rfl)) (fun _ _ _ h => h) (Or.inl ⟨by rfl, ?_⟩) ?_ ?_
                        rotate_left
                        · intro w'
                          go_simp
                          with_reducible rfl
                        rotate_left
                        · simp only [Act.put, List.setIfInBounds_toArray, List.set_cons_zero, List.set_cons_succ, i64_w, i32_w]
                          rfl
                        refine pure_ (i := 4) (N := some 48) (v := ?_) (a' := ?_) #[true, true, true, true, true, false, false, false, false, false, false, false, false, false, false, false, false, false, false, false, false, false, false] rfl rfl (any_of HT_.out (by kernel_rfl)) (fun _ _ _ h => h) (Or.inl ⟨by rfl, ?_⟩) ?_ ?_
                        rotate_left
                        · intro w'
                          go_simp
                          with_reducible rfl
                        rotate_left
                        · simp only [Act.put, List.setIfInBounds_toArray, List.set_cons_zero, List.set_cons_succ, i64_w, i32_w]
                          rfl
                        refine pure_ (i := 5) (N := some 49) (v := ?_) (a' := ?_) #[true, true, true, true, true, true, false, false, false, false, false, false, false, false, false, false, false, false, false, false, false, false, false] rfl rfl (any_of HT_.out (by kernel_rfl)) (fun _ _ _ h => h) (Or.inl ⟨by rfl, ?_⟩) ?_ ?_
                        rotate_left
                        · intro w'
                          go_simp
                          with_reducible rfl
                        rotate_left
                        · simp only [Act.put, List.setIfInBounds_toArray, List.set_cons_zero, List.set_cons_succ, i64_w, i32_w]
                          rfl
                        refine pure_ (i := 6) (N := some 50) (v := ?_) (a' := ?_) #[true, true, true, true, true, true, true, false, false, false, false, false, false, false, false, false, false, false, false, false, false, false, false] rfl rfl (any_of HT_.out (by kernel_rfl)) (fun _ _ _ h => h) (Or.inl ⟨by rfl, ?_⟩) ?_ ?_
                        rotate_left
                        · intro w'
                          go_simp
                          with_reducible rfl
                        rotate_left
                        · simp only [Act.put, List.setIfInBounds_toArray, List.set_cons_zero, List.set_cons_succ, i64_w, i32_w]
                          rfl
                        refine pure_ (i := 7) (N := some 51) (v := ?_) (a' := ?_) #[true, true, true, true, true, true, true, true, false, false, false, false, false, false, false, false, false, false, false, false, false, false, false] rfl rfl (any_of HT_.out (by kernel_rfl)) (fun _ _ _ h => h) (Or.inl ⟨by rfl, ?_⟩) ?_ ?_
                        rotate_left
                        · intro w'
                          go_simp
                          with_reducible rfl
                        rotate_left
                        · simp only [Act.put, List.setIfInBounds_toArray, List.set_cons_zero, List.set_cons_succ, i64_w, i32_w]
                          rfl
                        refine pure_ (i := 8) (N := some 52) (v := ?_) (a' := ?_) #[true, true, true, true, true, true, true, true, true, false, false, false, false, false, false, false, false, false, false, false, false, false, false] rfl rfl (any_of HT_.out (by kernel_rfl)) (fun _ _ _ h => h) (Or.inl ⟨by rfl, ?_⟩) ?_ ?_
                        rotate_left
                        · intro w'
                          go_simp
                          with_reducible rfl
                        rotate_left
                        · simp only [Act.put, List.setIfInBounds_toArray, List.set_cons_zero, List.set_cons_succ, i64_w, i32_w]
                          rfl
                        refine take_ (i := 9) (N := some 53) (v := ?_) (a' := ?_) #[true, true, true, true, true, true, true, true, true, true, false, false, false, false, false, false, false, false, false, false, false, false, false] rfl rfl (take_ofW HT_.out HW_.out (by kernel_rfl)) (fun _ _ _ h => h) (Or.inl ⟨by rfl, ?_⟩) hHeld ?_ ?_
                        rotate_left
                        · rintro w' ⟨s0, s1⟩
                          go_simp
                          with_reducible rfl
                        rotate_left
                        · simp only [Act.put, List.setIfInBounds_toArray, List.set_cons_zero, List.set_cons_succ, i64_w, i32_w]
                          rfl
                        refine pure_ (i := 10) (N := some 54) (v := ?_) (a' := ?_) #[true, true, true, true, true, true, true, true, true, true, true, false, false, false, false, false, false, false, false, false, false, false, false] rfl rfl (any_of HT_.out (by kernel_rfl)) (fun _ _ _ h => h) (Or.inl ⟨by rfl, ?_⟩) ?_ ?_
                        rotate_left
                        · intro w'
                          go_simp
                          with_reducible rfl
                        rotate_left
                        · simp only [Act.put, List.setIfInBounds_toArray, List.set_cons_zero, List.set_cons_succ, i64_w, i32_w]
                          rfl
                        refine pure_ (i := 11) (N := some 55) (v := ?_) (a' := ?_) #[true, true, true, true, true, true, true, true, true, true, true, true, false, false, false, false, false, false, false, false, false, false, false] rfl rfl (any_of HT_.out (by kernel_rfl)) (fun _ _ _ h => h) (Or.inl ⟨by rfl, ?_⟩) ?_ ?_
                        rotate_left
                        · intro w'
                          go_simp
                          with_reducible rfl
                        rotate_left
                        · simp only [Act.put, List.setIfInBounds_toArray, List.set_cons_zero, List.set_cons_succ, i64_w, i32_w]
                          rfl
                        refine pure_ (i := 12) (N := some 56) (v := ?_) (a' := ?_) #[true, true, true, true, true, true, true, true, true, true, true, true, true, false, false, false, false, false, false, false, false, false, false] rfl rfl (any_of HT_.out (by kernel_rfl)) (fun _ _ _ h => h) (Or.inl ⟨by rfl, ?_⟩) ?_ ?_
                        rotate_left
                        · intro w'
                          go_simp
                          with_reducible rfl
                        rotate_left
                        · simp only [Act.put, List.setIfInBounds_toArray, List.set_cons_zero, List.set_cons_succ, i64_w, i32_w]
                          rfl
                        refine pure_ (i := 13) (N := some 57) (v := ?_) (a' := ?_) #[true, true, true, true, true, true, true, true, true, true, true, true, true, true, false, false, false, false, false, false, false, false, false] rfl rfl (any_of HT_.out (by kernel_rfl)) (fun _ _ _ h => h) (Or.inl ⟨by rfl, ?_⟩) ?_ ?_
                        rotate_left
                        · intro w'
                          go_simp
                          with_reducible rfl
                        rotate_left
                        · simp only [Act.put, List.setIfInBounds_toArray, List.set_cons_zero, List.set_cons_succ, i64_w, i32_w]
                          rfl
                        refine pure_ (i := 14) (N := some 58) (v := undef) (a' := ?_) #[true, true, true, true, true, true, true, true, true, true, true, true, true, true, true, false, false, false, false, false, false, false, false] rfl rfl (any_of HT_.out (by kernel_rfl)) (fun _ _ _ h => h) (Or.inr ⟨by rfl, rfl⟩) ?_ ?_
                        rotate_left
                        · simp only [Act.put, List.setIfInBounds_toArray, List.set_cons_zero, List.set_cons_succ, i64_w, i32_w]
                          rfl
                        refine pure_ (i := 15) (N := some 59) (v := undef) (a' := ?_) #[true, true, true, true, true, true, true, true, true, true, true, true, true, true, true, true, false, false, false, false, false, false, false] rfl rfl (any_of HT_.out (by kernel_rfl)) (fun _ _ _ h => h) (Or.inr ⟨by rfl, rfl⟩) ?_ ?_
                        rotate_left
                        · simp only [Act.put, List.setIfInBounds_toArray, List.set_cons_zero, List.set_cons_succ, i64_w, i32_w]
                          rfl
                        refine pure_ (i := 16) (N := some 60) (v := undef) (a' := ?_) #[true, true, true, true, true, true, true, true, true, true, true, true, true, true, true, true, true, false, false, false, false, false, false] rfl rfl (any_of HT_.out (by kernel_rfl)) (fun _ _ _ h => h) (Or.inr ⟨by rfl, rfl⟩) ?_ ?_
                        rotate_left
                        · simp only [Act.put, List.setIfInBounds_toArray, List.set_cons_zero, List.set_cons_succ, i64_w, i32_w]
                          rfl
                        refine pure_ (i := 17) (N := some 61) (v := undef) (a' := ?_) #[true, true, true, true, true, true, true, true, true, true, true, true, true, true, true, true, true, true, false, false, false, false, false] rfl rfl (any_of HT_.out (by kernel_rfl)) (fun _ _ _ h => h) (Or.inr ⟨by rfl, rfl⟩) ?_ ?_
                        rotate_left
                        · simp only [Act.put, List.setIfInBounds_toArray, List.set_cons_zero, List.set_cons_succ, i64_w, i32_w]
                          rfl
                        refine pure_ (i := 18) (N := some 62) (v := undef) (a' := ?_) #[true, true, true, true, true, true, true, true, true, true, true, true, true, true, true, true, true, true, true, false, false, false, false] rfl rfl (any_of HT_.out (by kernel_rfl)) (fun _ _ _ h => h) (Or.inr ⟨by rfl, rfl⟩) ?_ ?_
                        rotate_left
                        · simp only [Act.put, List.setIfInBounds_toArray, List.set_cons_zero, List.set_cons_succ, i64_w, i32_w]
                          rfl
                        refine pure_ (i := 19) (N := some 63) (v := undef) (a' := ?_) #[true, true, true, true, true, true, true, true, true, true, true, true, true, true, true, true, true, true, true, true, false, false, false] rfl rfl (any_of HT_.out (by kernel_rfl)) (fun _ _ _ h => h) (Or.inr ⟨by rfl, rfl⟩) ?_ ?_
                        rotate_left
                        · simp only [Act.put, List.setIfInBounds_toArray, List.set_cons_zero, List.set_cons_succ, i64_w, i32_w]
                          rfl
                        refine pure_ (i := 20) (N := some 64) (v := undef) (a' := ?_) #[true, true, true, true, true, true, true, true, true, true, true, true, true, true, true, true, true, true, true, true, true, false, false] rfl rfl (any_of HT_.out (by kernel_rfl)) (fun _ _ _ h => h) (Or.inr ⟨by rfl, rfl⟩) ?_ ?_
                        rotate_left
                        · simp only [Act.put, List.setIfInBounds_toArray, List.set_cons_zero, List.set_cons_succ, i64_w, i32_w]
                          rfl
                        refine pure_ (i := 21) (N := some 65) (v := undef) (a' := ?_) #[true, true, true, true, true, true, true, true, true, true, true, true, true, true, true, true, true, true, true, true, true, true, false] rfl rfl (any_of HT_.out (by kernel_rfl)) (fun _ _ _ h => h) (Or.inr ⟨by rfl, rfl⟩) ?_ ?_
                        rotate_left
                        · simp only [Act.put, List.setIfInBounds_toArray, List.set_cons_zero, List.set_cons_succ, i64_w, i32_w]
                          rfl
                        refine pure_ (i := 22) (N := some 66) (v := ?_) (a' := ?_) #[true, true, true, true, true, true, true, true, true, true, true, true, true, true, true, true, true, true, true, true, true, true, true] rfl rfl (any_of HT_.out (by kernel_rfl)) (fun _ _ _ h => h) (Or.inl ⟨by rfl, ?_⟩) ?_ ?_
                        rotate_left
                        · intro w'
                          go_simp
                          with_reducible rfl
                        rotate_left
                        · simp only [Act.put, List.setIfInBounds_toArray, List.set_cons_zero, List.set_cons_succ, i64_w, i32_w]
                          rfl
                        refine done_ (done_of HT_.out (by kernel_rfl)) ?_
                        try go_wp2
                        go_roundg k2
                        case measure => have := HJ4.out; have := HK2.out; omega
                        case rel => exact ⟨(x5_2), (x6_2), (x7_2), (wrap64 (x40_2 + 1)), (by first | rfl | (simp; done) | (simp [*]; done)), (by first | rfl | (simp; done) | (simp [*]; done)), (by first | rfl | (simp; done) | (simp [*]; done)), (by first | rfl | (simp; done) | (simp [*]; done)), H', ⟨by have := HJ4.out; have := HK2.out; omega⟩, ⟨by repeat (first | (with_reducible first | exact HB.out | apply below_alloc | apply pw_below_drewN | apply below_drew1 | refine below_set ?_ GE504.out) | exact HB.out)⟩⟩
                    · rw [if_neg c23] at H
                      have c23b0 : decide (x7_2 < (((rd_T34 l0 x40_2).f0).size : Int)) = false := decide_eq_false c23
                      clear c23
                      have H' := Aside0.mk H
                      clear H
                      have p503 : 0 ≤ (x40_2 : Int) := of_decide_eq_true (by first | (with_reducible assumption) | assumption)
                      have q503 : x40_2 < (l0.length : Int) := of_decide_eq_true (by first | (with_reducible assumption) | assumption)
                      obtain ⟨ad503, e503, hx503_0, hx503_1⟩ := at_T34 HR0.out x40_2 p503 q503
                      cases e503
                      replace hx503_0 := (HB.out.cell (World.block_lt_of_cell? w _ hx503_0)).trans hx503_0
                      replace hx503_1 := (HB.out.cell (World.block_lt_of_cell? w _ hx503_1)).trans hx503_1
                      replace p503 := eq_true p503
                      replace q503 := eq_true q503
                      try go_wp2_with (first | ((with_reducible refine gate_dst (N := 9) rfl ?_); (try (refine gate_guard (by rfl) ?_; dsimp only)); refine box_event ?hg (N := 9) ?hd (cs := #[.string (⟨#[]⟩ : ByteArray), .string (⟨#[]⟩ : ByteArray)]) (t := 34) ?hr ?_; (case hd => rfl); (case hg => rfl); (case hr => first | (go_simp; done) | (go_simp; rfl)); intro gb504 hg w41 hbox hb; have n0_ := Aside0.mk (below_step (by repeat (first | (with_reducible first | exact HB.out | apply below_alloc | apply pw_below_drewN | apply below_drew1) | exact HB.out)) hb); have n1_ := Aside0.mk (hbox); have n2_ := Aside0.mk ((by rw [hg]; exact (below_size (by repeat (first | (with_reducible first | exact HB.out | apply below_alloc | apply pw_below_drewN | apply below_drew1) | exact HB.out))) : w.heap.size ≤ gb504)); have n3_ := Aside0.mk ((by rw [hg]; exact (below_size (by repeat (first | (with_reducible first | exact HB.out | apply below_alloc | apply pw_below_drewN | apply below_drew1) | exact HB.out))) : w.heap.size ≤ gb504)); clear HB; have HB := n0_; have BK504 := n1_; have GW504 := n2_; have GE504 := n3_; clear n0_ n1_ n2_ n3_; clear hb hbox hg; have hcz42_0 : w41.cell? ⟨gb504, 0, none⟩ = some (.string (⟨#[]⟩ : ByteArray)) := (blk_cell BK504.out 0).trans rfl; have hcz42_1 : w41.cell? ⟨gb504, 1, none⟩ = some (.string (⟨#[]⟩ : ByteArray)) := (blk_cell BK504.out 1).trans rfl; have hfz42_0 := blk_frozen BK504.out 0; have hfz42_1 := blk_frozen BK504.out 1))
                      have n0_ : Aside0 (((w41.setCell ⟨gb504, 0, none⟩ (.string ((rd_T34 l0 x40_2).f0))).setCell ⟨gb504, 1, none⟩ (.string ((rd_T34 l0 x40_2).f1))).heap[gb504]? = some (.cells #[.string ((rd_T34 l0 x40_2).f0), .string ((rd_T34 l0 x40_2).f1)] 34 (0, 0))) := ⟨by (with_reducible repeat (first | refine blk_drewN ?_ _ | refine blk_drew ?_ | refine blk_alloc ?_ _)); refine blk_put (cs := #[.string ((rd_T34 l0 x40_2).f0), .string (⟨#[]⟩ : ByteArray)]) ?_ 1 _ rfl; (with_reducible repeat (first | refine blk_drewN ?_ _ | refine blk_drew ?_ | refine blk_alloc ?_ _)); refine blk_put (cs := #[.string (⟨#[]⟩ : ByteArray), .string (⟨#[]⟩ : ByteArray)]) ?_ 0 _ rfl; (with_reducible repeat (first | refine blk_drewN ?_ _ | refine blk_drew ?_ | refine blk_alloc ?_ _)); exact BK504.out⟩
                      have n1_ : Aside0 (Below w.heap.size w ((w41.setCell ⟨gb504, 0, none⟩ (.string ((rd_T34 l0 x40_2).f0))).setCell ⟨gb504, 1, none⟩ (.string ((rd_T34 l0 x40_2).f1)))) := ⟨by repeat (first | (with_reducible first | exact HB.out | apply below_alloc | apply pw_below_drewN | apply below_drew1 | refine below_set ?_ GE504.out) | exact HB.out)⟩
                      (try clear BK504)
                      (try clear HB)
                      generalize ((w41.setCell ⟨gb504, 0, none⟩ (.string ((rd_T34 l0 x40_2).f0))).setCell ⟨gb504, 1, none⟩ (.string ((rd_T34 l0 x40_2).f1))) = w43 at n0_ n1_ ⊢
                      have BK504 := n0_
                      have HB := n1_
                      clear n0_ n1_
                      have n0_ := Aside0.mk (blk_drew BK504.out)
                      have n1_ := Aside0.mk (below_drew1 HB.out)
                      clear BK504
                      clear HB
                      have BK504 := n0_
                      have HB := n1_
                      clear n0_ n1_
                      refine start_ (n := 23) (S := fun w' => w'.cell? ⟨gb504, 0, none⟩ = some (.string ((rd_T34 l0 x40_2).f0)) ∧ w'.cell? ⟨gb504, 1, none⟩ = some (.string ((rd_T34 l0 x40_2).f1))) (ds := []) #[false, false, false, false, false, false, false, false, false, false, false, false, false, false, false, false, false, false, false, false, false, false, false] (by kernel_rfl) rfl rfl ⟨(blk_cell BK504.out 0).trans rfl, (blk_cell BK504.out 1).trans rfl⟩ (fun hHeld => ?_); refine with_tabW bookplatelaw07_TranslitLongest.tab10 bookplatelaw07_TranslitLongest.bits10 (fun HT_ HW_ => ?_)
                      generalize w43.drew = w44 at BK504 HB hHeld ⊢
                      refine pure_ (i := 0) (N := some 44) (v := ?_) (a' := ?_) #[true, false, false, false, false, false, false, false, false, false, false, false, false, false, false, false, false, false, false, false, false, false, false] rfl rfl (any_of HT_.out (by kernel_rfl)) (fun _ _ _ h => h) (Or.inl ⟨by rfl, ?_⟩) ?_ ?_
                      rotate_left
                      · intro w'
                        go_simp
                        with_reducible rfl
                      rotate_left
                      · simp only [Act.put, List.setIfInBounds_toArray, List.set_cons_zero, List.set_cons_succ, i64_w, i32_w]
                        rfl
                      refine pure_ (i := 3) (N := some 47) (v := ?_) (a' := ?_) #[true, false, false, true, false, false, false, false, false, false, false, false, false, false, false, false, false, false, false, false, false, false, false] rfl rfl (any_of HT_.out (by kernel_rfl)) (fun _ _ _ h => h) (Or.inl ⟨by rfl, ?_⟩) ?_ ?_
                      rotate_left
                      · intro w'
                        go_simp
                        with_reducible rfl
                      rotate_left
                      · simp only [Act.put, List.setIfInBounds_toArray, List.set_cons_zero, List.set_cons_succ, i64_w, i32_w]
                        rfl
                      refine take_ (i := 1) (N := some 45) (v := ?_) (a' := ?_) #[true, true, false, true, false, false, false, false, false, false, false, false, false, false, false, false, false, false, false, false, false, false, false] rfl rfl (take_ofW HT_.out HW_.out (by kernel_rfl)) (fun _ _ _ h => h) (Or.inl ⟨by rfl, ?_⟩) hHeld ?_ ?_
                      rotate_left
                      · rintro w' ⟨s0, s1⟩
                        go_simp
                        with_reducible rfl
                      rotate_left
                      · simp only [Act.put, List.setIfInBounds_toArray, List.set_cons_zero, List.set_cons_succ, i64_w, i32_w]
                        rfl
                      refine pure_ (i := 2) (N := some 46) (v := ?_) (a' := ?_) #[true, true, true, true, false, false, false, false, false, false, false, false, false, false, false, false, false, false, false, false, false, false, false] rfl rfl (any_of HT_.out (by kernel_rfl)) (fun _ _ _ h => h) (Or.inl ⟨by rfl, ?_⟩) ?_ ?_
                      rotate_left
                      · intro w'
                        go_simp
                        with_reducible rfl
                      rotate_left
                      · simp only [Act.put, List.setIfInBounds_toArray, List.set_cons_zero, List.set_cons_succ, i64_w, i32_w]
                        rfl
                      refine pure_ (i := 4) (N := some 48) (v := ?_) (a' := ?_) #[true, true, true, true, true, false, false, false, false, false, false, false, false, false, false, false, false, false, false, false, false, false, false] rfl rfl (any_of HT_.out (by kernel_rfl)) (fun _ _ _ h => h) (Or.inl ⟨by rfl, ?_⟩) ?_ ?_
                      rotate_left
                      · intro w'
                        go_simp
                        with_reducible rfl
                      rotate_left
                      · simp only [Act.put, List.setIfInBounds_toArray, List.set_cons_zero, List.set_cons_succ, i64_w, i32_w]
                        rfl
                      refine pure_ (i := 5) (N := some 49) (v := ?_) (a' := ?_) #[true, true, true, true, true, true, false, false, false, false, false, false, false, false, false, false, false, false, false, false, false, false, false] rfl rfl (any_of HT_.out (by kernel_rfl)) (fun _ _ _ h => h) (Or.inl ⟨by rfl, ?_⟩) ?_ ?_
                      rotate_left
                      · intro w'
                        go_simp
                        with_reducible rfl
                      rotate_left
                      · simp only [Act.put, List.setIfInBounds_toArray, List.set_cons_zero, List.set_cons_succ, i64_w, i32_w]
                        rfl
                      refine pure_ (i := 6) (N := some 50) (v := undef) (a' := ?_) #[true, true, true, true, true, true, true, false, false, false, false, false, false, false, false, false, false, false, false, false, false, false, false] rfl rfl (any_of HT_.out (by kernel_rfl)) (fun _ _ _ h => h) (Or.inr ⟨by rfl, rfl⟩) ?_ ?_
                      rotate_left
                      · simp only [Act.put, List.setIfInBounds_toArray, List.set_cons_zero, List.set_cons_succ, i64_w, i32_w]
                        rfl
                      refine pure_ (i := 7) (N := some 51) (v := undef) (a' := ?_) #[true, true, true, true, true, true, true, true, false, false, false, false, false, false, false, false, false, false, false, false, false, false, false] rfl rfl (any_of HT_.out (by kernel_rfl)) (fun _ _ _ h => h) (Or.inr ⟨by rfl, rfl⟩) ?_ ?_
                      rotate_left
                      · simp only [Act.put, List.setIfInBounds_toArray, List.set_cons_zero, List.set_cons_succ, i64_w, i32_w]
                        rfl
                      refine pure_ (i := 8) (N := some 52) (v := undef) (a' := ?_) #[true, true, true, true, true, true, true, true, true, false, false, false, false, false, false, false, false, false, false, false, false, false, false] rfl rfl (any_of HT_.out (by kernel_rfl)) (fun _ _ _ h => h) (Or.inr ⟨by rfl, rfl⟩) ?_ ?_
                      rotate_left
                      · simp only [Act.put, List.setIfInBounds_toArray, List.set_cons_zero, List.set_cons_succ, i64_w, i32_w]
                        rfl
                      refine pure_ (i := 9) (N := some 53) (v := undef) (a' := ?_) #[true, true, true, true, true, true, true, true, true, true, false, false, false, false, false, false, false, false, false, false, false, false, false] rfl rfl (any_of HT_.out (by kernel_rfl)) (fun _ _ _ h => h) (Or.inr ⟨by rfl, rfl⟩) ?_ ?_
                      rotate_left
                      · simp only [Act.put, List.setIfInBounds_toArray, List.set_cons_zero, List.set_cons_succ, i64_w, i32_w]
                        rfl
                      refine pure_ (i := 10) (N := some 54) (v := undef) (a' := ?_) #[true, true, true, true, true, true, true, true, true, true, true, false, false, false, false, false, false, false, false, false, false, false, false] rfl rfl (any_of HT_.out (by kernel_rfl)) (fun _ _ _ h => h) (Or.inr ⟨by rfl, rfl⟩) ?_ ?_
                      rotate_left
                      · simp only [Act.put, List.setIfInBounds_toArray, List.set_cons_zero, List.set_cons_succ, i64_w, i32_w]
                        rfl
                      refine pure_ (i := 11) (N := some 55) (v := undef) (a' := ?_) #[true, true, true, true, true, true, true, true, true, true, true, true, false, false, false, false, false, false, false, false, false, false, false] rfl rfl (any_of HT_.out (by kernel_rfl)) (fun _ _ _ h => h) (Or.inr ⟨by rfl, rfl⟩) ?_ ?_
                      rotate_left
                      · simp only [Act.put, List.setIfInBounds_toArray, List.set_cons_zero, List.set_cons_succ, i64_w, i32_w]
                        rfl
                      refine pure_ (i := 12) (N := some 56) (v := ?_) (a' := ?_) #[true, true, true, true, true, true, true, true, true, true, true, true, true, false, false, false, false, false, false, false, false, false, false] rfl rfl (any_of HT_.out (by kernel_rfl)) (fun _ _ _ h => h) (Or.inl ⟨by rfl, ?_⟩) ?_ ?_
                      rotate_left
                      · intro w'
                        go_simp
                        with_reducible rfl
                      rotate_left
                      · simp only [Act.put, List.setIfInBounds_toArray, List.set_cons_zero, List.set_cons_succ, i64_w, i32_w]
                        rfl
                      refine pure_ (i := 13) (N := some 57) (v := ?_) (a' := ?_) #[true, true, true, true, true, true, true, true, true, true, true, true, true, true, false, false, false, false, false, false, false, false, false] rfl rfl (any_of HT_.out (by kernel_rfl)) (fun _ _ _ h => h) (Or.inl ⟨by rfl, ?_⟩) ?_ ?_
                      rotate_left
                      · intro w'
                        go_simp
                        with_reducible rfl
                      rotate_left
                      · simp only [Act.put, List.setIfInBounds_toArray, List.set_cons_zero, List.set_cons_succ, i64_w, i32_w]
                        rfl
                      refine pure_ (i := 14) (N := some 58) (v := undef) (a' := ?_) #[true, true, true, true, true, true, true, true, true, true, true, true, true, true, true, false, false, false, false, false, false, false, false] rfl rfl (any_of HT_.out (by kernel_rfl)) (fun _ _ _ h => h) (Or.inr ⟨by rfl, rfl⟩) ?_ ?_
                      rotate_left
                      · simp only [Act.put, List.setIfInBounds_toArray, List.set_cons_zero, List.set_cons_succ, i64_w, i32_w]
                        rfl
                      refine pure_ (i := 15) (N := some 59) (v := undef) (a' := ?_) #[true, true, true, true, true, true, true, true, true, true, true, true, true, true, true, true, false, false, false, false, false, false, false] rfl rfl (any_of HT_.out (by kernel_rfl)) (fun _ _ _ h => h) (Or.inr ⟨by rfl, rfl⟩) ?_ ?_
                      rotate_left
                      · simp only [Act.put, List.setIfInBounds_toArray, List.set_cons_zero, List.set_cons_succ, i64_w, i32_w]
                        rfl
                      refine pure_ (i := 16) (N := some 60) (v := undef) (a' := ?_) #[true, true, true, true, true, true, true, true, true, true, true, true, true, true, true, true, true, false, false, false, false, false, false] rfl rfl (any_of HT_.out (by kernel_rfl)) (fun _ _ _ h => h) (Or.inr ⟨by rfl, rfl⟩) ?_ ?_
                      rotate_left
                      · simp only [Act.put, List.setIfInBounds_toArray, List.set_cons_zero, List.set_cons_succ, i64_w, i32_w]
                        rfl
                      refine pure_ (i := 17) (N := some 61) (v := undef) (a' := ?_) #[true, true, true, true, true, true, true, true, true, true, true, true, true, true, true, true, true, true, false, false, false, false, false] rfl rfl (any_of HT_.out (by kernel_rfl)) (fun _ _ _ h => h) (Or.inr ⟨by rfl, rfl⟩) ?_ ?_
                      rotate_left
                      · simp only [Act.put, List.setIfInBounds_toArray, List.set_cons_zero, List.set_cons_succ, i64_w, i32_w]
                        rfl
                      refine pure_ (i := 18) (N := some 62) (v := undef) (a' := ?_) #[true, true, true, true, true, true, true, true, true, true, true, true, true, true, true, true, true, true, true, false, false, false, false] rfl rfl (any_of HT_.out (by kernel_rfl)) (fun _ _ _ h => h) (Or.inr ⟨by rfl, rfl⟩) ?_ ?_
                      rotate_left
                      · simp only [Act.put, List.setIfInBounds_toArray, List.set_cons_zero, List.set_cons_succ, i64_w, i32_w]
                        rfl
                      refine pure_ (i := 19) (N := some 63) (v := undef) (a' := ?_) #[true, true, true, true, true, true, true, true, true, true, true, true, true, true, true, true, true, true, true, true, false, false, false] rfl rfl (any_of HT_.out (by kernel_rfl)) (fun _ _ _ h => h) (Or.inr ⟨by rfl, rfl⟩) ?_ ?_
                      rotate_left
                      · simp only [Act.put, List.setIfInBounds_toArray, List.set_cons_zero, List.set_cons_succ, i64_w, i32_w]
                        rfl
                      refine pure_ (i := 20) (N := some 64) (v := undef) (a' := ?_) #[true, true, true, true, true, true, true, true, true, true, true, true, true, true, true, true, true, true, true, true, true, false, false] rfl rfl (any_of HT_.out (by kernel_rfl)) (fun _ _ _ h => h) (Or.inr ⟨by rfl, rfl⟩) ?_ ?_
                      rotate_left
                      · simp only [Act.put, List.setIfInBounds_toArray, List.set_cons_zero, List.set_cons_succ, i64_w, i32_w]
                        rfl
                      refine pure_ (i := 21) (N := some 65) (v := undef) (a' := ?_) #[true, true, true, true, true, true, true, true, true, true, true, true, true, true, true, true, true, true, true, true, true, true, false] rfl rfl (any_of HT_.out (by kernel_rfl)) (fun _ _ _ h => h) (Or.inr ⟨by rfl, rfl⟩) ?_ ?_
                      rotate_left
                      · simp only [Act.put, List.setIfInBounds_toArray, List.set_cons_zero, List.set_cons_succ, i64_w, i32_w]
                        rfl
                      refine pure_ (i := 22) (N := some 66) (v := ?_) (a' := ?_) #[true, true, true, true, true, true, true, true, true, true, true, true, true, true, true, true, true, true, true, true, true, true, true] rfl rfl (any_of HT_.out (by kernel_rfl)) (fun _ _ _ h => h) (Or.inl ⟨by rfl, ?_⟩) ?_ ?_
                      rotate_left
                      · intro w'
                        go_simp
                        with_reducible rfl
                      rotate_left
                      · simp only [Act.put, List.setIfInBounds_toArray, List.set_cons_zero, List.set_cons_succ, i64_w, i32_w]
                        rfl
                      refine done_ (done_of HT_.out (by kernel_rfl)) ?_
                      try go_wp2
                      go_roundg k2
                      case measure => have := HJ4.out; have := HK2.out; omega
                      case rel => exact ⟨(x5_2), (x6_2), (x7_2), (wrap64 (x40_2 + 1)), (by first | rfl | (simp; done) | (simp [*]; done)), (by first | rfl | (simp; done) | (simp [*]; done)), (by first | rfl | (simp; done) | (simp [*]; done)), (by first | rfl | (simp; done) | (simp [*]; done)), H', ⟨by have := HJ4.out; have := HK2.out; omega⟩, ⟨by repeat (first | (with_reducible first | exact HB.out | apply below_alloc | apply pw_below_drewN | apply below_drew1 | refine below_set ?_ GE504.out) | exact HB.out)⟩⟩
                  · rw [if_neg c22] at H
                    exact absurd H (by simp)
                · rw [if_neg c21] at H
                  exact absurd H (by simp)
              · rw [if_neg c20] at H
                have c20b0 : decide (x40_2 < (l0.length : Int)) = false := decide_eq_false c20
                clear c20
                replace H := Option.bind_eq_some_iff.mp H
                obtain ⟨t505, A450, H⟩ := H
                replace H : ((translit_To.f k2 t505 a1).bind fun t508 => (if 0 ≤ (x5_2.size : Int) then (if (x5_2.size : Int) ≤ (a1.size : Int) then ((translit_To.f k2 t505 (a1.extract ((x5_2.size : Int) : Int).toNat a1.size)).bind fun t509 => (if x6_2.size + t509.size ≤ 9223372036854775807 then (some (t508.toList == (x6_2 ++ t509).toList)) else (none))) else (none)) else (none))) = some r := H
                have A45 := Aside0.mk A450
                clear A450
                replace H := Option.bind_eq_some_iff.mp H
                obtain ⟨t508, A460, H⟩ := H
                replace H : (if 0 ≤ (x5_2.size : Int) then (if (x5_2.size : Int) ≤ (a1.size : Int) then ((translit_To.f k2 t505 (a1.extract ((x5_2.size : Int) : Int).toNat a1.size)).bind fun t509 => (if x6_2.size + t509.size ≤ 9223372036854775807 then (some (t508.toList == (x6_2 ++ t509).toList)) else (none))) else (none)) else (none)) = some r := H
                have A46 := Aside0.mk A460
                clear A460
                by_cases c47 : 0 ≤ (x5_2.size : Int)
                · rw [if_pos c47] at H
                  have c47b0 := eq_true c47
                  have c47b1 : decide (0 ≤ (x5_2.size : Int)) = true := decide_eq_true c47
                  clear c47
                  by_cases c48 : (x5_2.size : Int) ≤ (a1.size : Int)
                  · rw [if_pos c48] at H
                    have c48b0 := eq_true c48
                    have c48b1 : decide ((x5_2.size : Int) ≤ (a1.size : Int)) = true := decide_eq_true c48
                    clear c48
                    replace H := Option.bind_eq_some_iff.mp H
                    obtain ⟨t509, A490, H⟩ := H
                    replace H : (if x6_2.size + t509.size ≤ 9223372036854775807 then (some (t508.toList == (x6_2 ++ t509).toList)) else (none)) = some r := H
                    have A49 := Aside0.mk A490
                    clear A490
                    by_cases c50 : x6_2.size + t509.size ≤ 9223372036854775807
                    · rw [if_pos c50] at H
                      have c50b0 := eq_true c50
                      have c50b1 : decide (x6_2.size + t509.size ≤ 9223372036854775807) = true := decide_eq_true c50
                      try have c50b2 : (9223372036854775807 < x6_2.size + t509.size) = False := eq_false (Nat.not_lt.2 c50)
                      obtain rfl := Option.some.inj H
                      try go_wp2_with (first | ((with_reducible refine gate_callee (f := 19) rfl ?_); refine goesL_ (some 76) rfl rfl Tryd.func19 (by kernel_rfl) rfl #[.slice A0 l0.length c0] rfl (by (try simp only [List.map_toArray, List.map_cons, List.map_nil]); first | done | rfl | (simp only [List.length_drop, List.length_take]; rfl)) ?_; (with_reducible refine (bookplatelaw07_own.calls k2 _ _ l0 t505 _ ?side1 ?side2 A45.out).mono ?_); (case side1 => repeat (first | exact (Kd.C_below HR0.out HB.out) | (with_reducible refine Kd.C_alloc ?_ _) | (with_reducible refine Kd.C_drewN ?_ _) | (with_reducible refine Kd.C_drew ?_))); (case side2 => exact HC0.out); rintro e w51 ⟨v506, rfl, ho0, hb⟩; refine ⟨_, rfl, ?_⟩; have n0_ := Aside0.mk (Kd.R_lower ho0 (below_size (by repeat (first | (with_reducible first | exact HB.out | apply below_alloc | apply pw_below_drewN | apply below_drew1) | exact HB.out)))); have n1_ := Aside0.mk (below_step (by repeat (first | (with_reducible first | exact HB.out | apply below_alloc | apply pw_below_drewN | apply below_drew1) | exact HB.out)) hb); clear HB; have HO507 := n0_; have HB := n1_; clear n0_ n1_; (try clear hb); (try clear hb2); (try clear hk); (try clear hi); (try clear ho0)))
                      have n0_ := Aside0.mk (Kd.R_drew HO507.out)
                      have n1_ := Aside0.mk (below_drew1 HB.out)
                      clear HO507
                      clear HB
                      have HO507 := n0_
                      have HB := n1_
                      clear n0_ n1_
                      obtain ⟨Ao53, co53, eo53⟩ := Kd.R_slice HO507.out
                      (first | subst eo53 | (injection eo53 with f1_ f2_ f3_; have f4_ := f1_.symm; have f5_ := f3_.symm; clear f1_ f2_ f3_; subst f4_; subst f5_))
                      refine start_ (n := 13) (S := fun w' => True) (ds := []) #[false, false, false, false, false, false, false, false, false, false, false, false, false] (by kernel_rfl) rfl rfl trivial (fun hHeld => ?_); refine with_tabW bookplatelaw07_TranslitLongest.tab14 bookplatelaw07_TranslitLongest.bits14 (fun HT_ HW_ => ?_)
                      generalize w51.drew = w52 at HO507 HB hHeld ⊢
                      refine pure_ (i := 0) (N := some 77) (v := ?_) (a' := ?_) #[true, false, false, false, false, false, false, false, false, false, false, false, false] rfl rfl (any_of HT_.out (by kernel_rfl)) (fun _ _ _ h => h) (Or.inl ⟨by rfl, ?_⟩) ?_ ?_
                      rotate_left
                      · intro w'
                        go_simp
                        with_reducible rfl
                      rotate_left
                      · simp only [Act.put, List.setIfInBounds_toArray, List.set_cons_zero, List.set_cons_succ, i64_w, i32_w]
                        rfl
                      refine pure_ (i := 1) (N := some 78) (v := ?_) (a' := ?_) #[true, true, false, false, false, false, false, false, false, false, false, false, false] rfl rfl (any_of HT_.out (by kernel_rfl)) (fun _ _ _ h => h) (Or.inl ⟨by rfl, ?_⟩) ?_ ?_
                      rotate_left
                      · intro w'
                        go_simp
                        with_reducible rfl
                      rotate_left
                      · simp only [Act.put, List.setIfInBounds_toArray, List.set_cons_zero, List.set_cons_succ, i64_w, i32_w]
                        rfl
                      refine pure_ (i := 3) (N := some 80) (v := ?_) (a' := ?_) #[true, true, false, true, false, false, false, false, false, false, false, false, false] rfl rfl (any_of HT_.out (by kernel_rfl)) (fun _ _ _ h => h) (Or.inl ⟨by rfl, ?_⟩) ?_ ?_
                      rotate_left
                      · intro w'
                        go_simp
                        with_reducible rfl
                      rotate_left
                      · simp only [Act.put, List.setIfInBounds_toArray, List.set_cons_zero, List.set_cons_succ, i64_w, i32_w]
                        rfl
                      refine pure_ (i := 4) (N := some 81) (v := ?_) (a' := ?_) #[true, true, false, true, true, false, false, false, false, false, false, false, false] rfl rfl (any_of HT_.out (by kernel_rfl)) (fun _ _ _ h => h) (Or.inl ⟨by rfl, ?_⟩) ?_ ?_
                      rotate_left
                      · intro w'
                        go_simp
                        with_reducible rfl
                      rotate_left
                      · simp only [Act.put, List.setIfInBounds_toArray, List.set_cons_zero, List.set_cons_succ, i64_w, i32_w]
                        rfl
                      refine pure_ (i := 5) (N := some 82) (v := ?_) (a' := ?_) #[true, true, false, true, true, true, false, false, false, false, false, false, false] rfl rfl (any_of HT_.out (by kernel_rfl)) (fun _ _ _ h => h) (Or.inl ⟨by rfl, ?_⟩) ?_ ?_
                      rotate_left
                      · intro w'
                        go_simp
                        with_reducible rfl
                      rotate_left
                      · simp only [Act.put, List.setIfInBounds_toArray, List.set_cons_zero, List.set_cons_succ, i64_w, i32_w]
                        rfl
                      refine pure_ (i := 6) (N := some 83) (v := ?_) (a' := ?_) #[true, true, false, true, true, true, true, false, false, false, false, false, false] rfl rfl (any_of HT_.out (by kernel_rfl)) (fun _ _ _ h => h) (Or.inl ⟨by rfl, ?_⟩) ?_ ?_
                      rotate_left
                      · intro w'
                        go_simp
                        with_reducible rfl
                      rotate_left
                      · simp only [Act.put, List.setIfInBounds_toArray, List.set_cons_zero, List.set_cons_succ, i64_w, i32_w]
                        rfl
                      refine pure_ (i := 7) (N := some 84) (v := ?_) (a' := ?_) #[true, true, false, true, true, true, true, true, false, false, false, false, false] rfl rfl (any_of HT_.out (by kernel_rfl)) (fun _ _ _ h => h) (Or.inl ⟨by rfl, ?_⟩) ?_ ?_
                      rotate_left
                      · intro w'
                        go_simp
                        with_reducible rfl
                      rotate_left
                      · simp only [Act.put, List.setIfInBounds_toArray, List.set_cons_zero, List.set_cons_succ, i64_w, i32_w]
                        rfl
                      refine pure_ (i := 8) (N := some 85) (v := ?_) (a' := ?_) #[true, true, false, true, true, true, true, true, true, false, false, false, false] rfl rfl (any_of HT_.out (by kernel_rfl)) (fun _ _ _ h => h) (Or.inl ⟨by rfl, ?_⟩) ?_ ?_
                      rotate_left
                      · intro w'
                        go_simp
                        with_reducible rfl
                      rotate_left
                      · simp only [Act.put, List.setIfInBounds_toArray, List.set_cons_zero, List.set_cons_succ, i64_w, i32_w]
                        rfl
                      refine one_ (i := 2) (N := some 79) #[true, true, true, true, true, true, true, true, true, false, false, false, false] rfl rfl (one_of HT_.out (by kernel_rfl)) (by decide) (fun K hK => ?_)
                      refine goes_ Tryd.func24 (by kernel_rfl) rfl #[.slice Ao53 t505.length co53, .string a1] (by rfl) rfl rfl (by (try simp only [List.map_toArray, List.map_cons, List.map_nil]); first | done | rfl | (simp only [List.length_drop, List.length_take]; rfl)) ?_
                      with_reducible refine (translit_To.calls k2 _ _ t505 a1 t508 _ ?side1 ?side2 ?side3 A46.out).mono ?_
                      (case side1 => repeat (first | exact (Kd.R_reads' HO507.out).2.2 | (with_reducible refine Kd.C_alloc ?_ _) | (with_reducible refine Kd.C_drewN ?_ _) | (with_reducible refine Kd.C_drew ?_)))
                      (case side2 => exact (Kd.R_reads' HO507.out).2.1)
                      (case side3 => exact GT1.below (HG.out.one) (by repeat (first | (with_reducible first | exact HB.out | apply below_alloc | apply pw_below_drewN | apply below_drew1) | exact HB.out)))
                      rintro e w54 ⟨rfl, hb⟩
                      refine ⟨_, rfl, ?_⟩
                      have n0_ := Aside0.mk (Kd.R_below (by (with_reducible repeat (first | apply Kd.R_alloc | apply Kd.R_drewN | apply Kd.R_drew)); exact HO507.out) hb)
                      have n1_ := Aside0.mk (below_step (by repeat (first | (with_reducible first | exact HB.out | apply below_alloc | apply pw_below_drewN | apply below_drew1) | exact HB.out)) hb)
                      clear HO507
                      clear HB
                      have HO507 := n0_
                      have HB := n1_
                      clear n0_ n1_
                      (try clear hb)
                      (try clear hb2)
                      (try clear hk)
                      (try clear hi)
                      refine hK.out _ _ trivial (fun hHeld => ?_)
                      clear hK K
                      refine norm_ (a' := ?_) ?_ ?_
                      rotate_left
                      · show Act.put _ (some 79) _ = _
                        simp only [Act.put, List.setIfInBounds_toArray, List.set_cons_zero, List.set_cons_succ, i64_w, i32_w]
                        rfl
                      refine one_ (i := 9) (N := some 86) #[true, true, true, true, true, true, true, true, true, true, false, false, false] rfl rfl (one_of HT_.out (by kernel_rfl)) (by decide) (fun K hK => ?_)
                      refine goes_ Tryd.func24 (by kernel_rfl) rfl #[.slice Ao53 t505.length co53, .string (a1.extract ((x5_2.size : Int) : Int).toNat a1.size)] (by rfl) rfl rfl (by (try simp only [List.map_toArray, List.map_cons, List.map_nil]); first | done | rfl | (simp only [List.length_drop, List.length_take]; rfl)) ?_
                      with_reducible refine (translit_To.calls k2 _ _ t505 (a1.extract ((x5_2.size : Int) : Int).toNat a1.size) t509 _ ?side1 ?side2 ?side3 A49.out).mono ?_
                      (case side1 => repeat (first | exact (Kd.R_reads' HO507.out).2.2 | (with_reducible refine Kd.C_alloc ?_ _) | (with_reducible refine Kd.C_drewN ?_ _) | (with_reducible refine Kd.C_drew ?_)))
                      (case side2 => exact (Kd.R_reads' HO507.out).2.1)
                      (case side3 => exact GT1.below (HG.out.one) (by repeat (first | (with_reducible first | exact HB.out | apply below_alloc | apply pw_below_drewN | apply below_drew1) | exact HB.out)))
                      rintro e w55 ⟨rfl, hb⟩
                      refine ⟨_, rfl, ?_⟩
                      have n0_ := Aside0.mk (Kd.R_below (by (with_reducible repeat (first | apply Kd.R_alloc | apply Kd.R_drewN | apply Kd.R_drew)); exact HO507.out) hb)
                      have n1_ := Aside0.mk (below_step (by repeat (first | (with_reducible first | exact HB.out | apply below_alloc | apply pw_below_drewN | apply below_drew1) | exact HB.out)) hb)
                      clear HO507
                      clear HB
                      have HO507 := n0_
                      have HB := n1_
                      clear n0_ n1_
                      (try clear hb)
                      (try clear hb2)
                      (try clear hk)
                      (try clear hi)
                      refine hK.out _ _ trivial (fun hHeld => ?_)
                      clear hK K
                      refine norm_ (a' := ?_) ?_ ?_
                      rotate_left
                      · show Act.put _ (some 86) _ = _
                        simp only [Act.put, List.setIfInBounds_toArray, List.set_cons_zero, List.set_cons_succ, i64_w, i32_w]
                        rfl
                      refine pure_ (i := 10) (N := some 87) (v := ?_) (a' := ?_) #[true, true, true, true, true, true, true, true, true, true, true, false, false] rfl rfl (any_of HT_.out (by kernel_rfl)) (fun _ _ _ h => h) (Or.inl ⟨by rfl, ?_⟩) ?_ ?_
                      rotate_left
                      · intro w'
                        go_simp
                        with_reducible rfl
                      rotate_left
                      · simp only [Act.put, List.setIfInBounds_toArray, List.set_cons_zero, List.set_cons_succ, i64_w, i32_w]
                        rfl
                      refine pure_ (i := 11) (N := some 88) (v := ?_) (a' := ?_) #[true, true, true, true, true, true, true, true, true, true, true, true, false] rfl rfl (any_of HT_.out (by kernel_rfl)) (fun _ _ _ h => h) (Or.inl ⟨by rfl, ?_⟩) ?_ ?_
                      rotate_left
                      · intro w'
                        go_simp
                        with_reducible rfl
                      rotate_left
                      · simp only [Act.put, List.setIfInBounds_toArray, List.set_cons_zero, List.set_cons_succ, i64_w, i32_w]
                        rfl
                      refine pure_ (i := 12) (N := some 4) (v := ?_) (a' := ?_) #[true, true, true, true, true, true, true, true, true, true, true, true, true] rfl rfl (any_of HT_.out (by kernel_rfl)) (fun _ _ _ h => h) (Or.inl ⟨by rfl, ?_⟩) ?_ ?_
                      rotate_left
                      · intro w'
                        go_simp
                        with_reducible rfl
                      rotate_left
                      · simp only [Act.put, List.setIfInBounds_toArray, List.set_cons_zero, List.set_cons_succ, i64_w, i32_w]
                        rfl
                      refine done_ (done_of HT_.out (by kernel_rfl)) ?_
                      try go_wp2
                      go_ret
                      exact ⟨by first | rfl | (simp [errW_none, errW_some] <;> rfl) | (simp [*, errW_none, errW_some] <;> rfl), by repeat (first | (with_reducible first | exact HB.out | apply below_alloc | apply pw_below_drewN | apply below_drew1) | exact HB.out)⟩
                    · rw [if_neg c50] at H
                      exact absurd H (by simp)
                  · rw [if_neg c48] at H
                    exact absurd H (by simp)
                · rw [if_neg c47] at H
                  exact absurd H (by simp)
  · replace c4 := Bool.eq_false_iff.mpr c4
    subst c4
    have H1 : (some false) = some r := by rw [if_neg (show ¬ (false = true) by decide)] at H; exact H
    clear H
    have H := H1
    clear H1
    obtain rfl := Option.some.inj H
    go_enter Tryd.func5, Tryd.ntmps5
    go_wp2_with (first | ((with_reducible refine gate_callee (f := 17) rfl ?_); refine goesL_ (some 11) rfl rfl Tryd.func17 (by kernel_rfl) rfl #[] rfl (by (try simp only [List.map_toArray, List.map_cons, List.map_nil]); first | done | rfl | (simp only [List.length_drop, List.length_take]; rfl)) ?_; (with_reducible refine (bookplatelaw07_awake.calls k  false _ ?side1 A3.out).mono ?_); (case side1 => exact GT2.below (HG.out) (by repeat (first | (with_reducible first | exact HB.out | apply below_alloc | apply pw_below_drewN | apply below_drew1) | exact HB.out))); rintro e w56 ⟨rfl, hb⟩; refine ⟨_, rfl, ?_⟩; have n0_ := Aside0.mk (below_step (by repeat (first | (with_reducible first | exact HB.out | apply below_alloc | apply pw_below_drewN | apply below_drew1) | exact HB.out)) hb); clear HB; have HB := n0_; clear n0_; (try clear hb); (try clear hb2); (try clear hk); (try clear hi)))
    go_ret
    exact ⟨by first | rfl | (simp [errW_none, errW_some] <;> rfl) | (simp [*, errW_none, errW_some] <;> rfl), by repeat (first | (with_reducible first | exact HB.out | apply below_alloc | apply pw_below_drewN | apply below_drew1) | exact HB.out)⟩
end Go.Proofs.YthcpdhniakpbaaaDoor.X
end

section
namespace Go.Proofs.YthcpdhniakpbaaaDoor.X
set_option linter.unusedVariables false
set_option linter.unusedSimpArgs false
open Go.RowKit Go.Proofs.YthcpdhniakpbaaaDoorW.PrintWords
theorem toS_enc {y : List S41} (hv : validS y = true) {s : ByteArray} {cs : List Int} (h : s.data.toList = encL cs) (hh : ∀ c ∈ cs, hasS c = true) (m : Nat) (hm : cs.length ≤ m) : toS y s = ⟨(tr y m cs).1.toArray⟩ := by
  unfold toS trS
  rw [if_pos hv, decS_of h hh]
  simp only [Option.map_some]
  rw [tr_more (valid_F hv) (Nat.le_refl _) hm hh]
theorem longest_zero {y : List S41} (hv : validS y = true) {s : ByteArray} {c : Int} {cs : List Int} (h : s.data.toList = encL (c :: cs)) (hh : ∀ x ∈ c :: cs, hasS x = true) (hb : (bestL s.data.toList rule0 y).f0.size = 0) :
    toS y s = (⟨(encC c).toArray⟩ : ByteArray) ++ toS y (s.extract (encC c).length s.size) := by
  have hr : (s.extract (encC c).length s.size).data.toList = encL cs := by rw [ext_drop, h, encL_cons, List.drop_left']; rfl
  rw [toS_enc hv h hh (cs.length + 1) (by simp), toS_enc hv hr (fun x hx => hh x (by simp [hx])) cs.length (Nat.le_refl _), app_arr]
  rw [h] at hb
  rw [tr, if_pos hb]
theorem longest_more {y : List S41} (hv : validS y = true) {s : ByteArray} {c : Int} {cs : List Int} (h : s.data.toList = encL (c :: cs)) (hh : ∀ x ∈ c :: cs, hasS x = true) (hb : (bestL s.data.toList rule0 y).f0.size ≠ 0) :
    (bestL s.data.toList rule0 y).f0.size ≤ s.size ∧ bestL s.data.toList rule0 y ∈ y ∧ toS y s = (bestL s.data.toList rule0 y).f1 ++ toS y (s.extract (bestL s.data.toList rule0 y).f0.size s.size) := by
  rw [h] at hb ⊢
  obtain ⟨hmem, fs, r, h1, h2, h3, h4⟩ := best_split (valid_F hv) hh hb
  have hsz : (bestL (encL (c :: cs)) rule0 y).f0.size = (encL fs).length := by rw [← dlen, h3]
  have hss : s.size = (encL fs).length + (encL r).length := by rw [← dlen, h, h2, encL_append, List.length_append]
  have hdr : (c :: cs).drop fs.length = r := by rw [h2, List.drop_left']; rfl
  have hr : (s.extract (bestL (encL (c :: cs)) rule0 y).f0.size s.size).data.toList = encL r := by rw [hsz, ext_drop, h, h2, encL_append, List.drop_left']; rfl
  have hl := congrArg List.length h2
  rw [List.length_append, List.length_cons] at hl
  have hfl : fs.length ≠ 0 := fun e => h1 (List.length_eq_zero_iff.1 e)
  refine ⟨by omega, hmem, ?_⟩
  rw [toS_enc hv h hh (cs.length + 1) (by simp), toS_enc hv hr (fun x hx => hh x (by rw [h2]; simp [hx])) cs.length (by omega), tr, if_neg hb, h4, hdr]
  exact ext_bytes (by simp)
def LS (c1 : ByteArray) (b : S41) (x5 x6 : ByteArray) (x7 : Int) : Prop := (b = rule0 ∧ x5 = c1 ∧ x6 = c1 ∧ x7 = 0) ∨ (b.f0.size ≠ 0 ∧ x5 = b.f0 ∧ x6 = b.f1 ∧ x7 = (b.f0.size : Int))
theorem LS_size {c1 : ByteArray} {b : S41} {x5 x6 : ByteArray} {x7 : Int} (h : LS c1 b x5 x6 x7) : x7 = (b.f0.size : Int) := by
  rcases h with ⟨rfl, _, _, rfl⟩ | ⟨_, _, _, h⟩
  · rfl
  · exact h
theorem longest_go (x : List S34) (s c1 : ByteArray) (hx : x.length ≤ 1000) (F : Nat)
    (fin : ∀ b x5 x6 x7 k, LS c1 b x5 x6 x7 → b = bestL s.data.toList rule0 (tab x) → F ≤ k → bookplatelaw07_TranslitLongest.l0 k x s x5 x6 x7 x (x.length : Int) (x.length : Int) = some true) :
    ∀ (n i : Nat) (b : S41) (x5 x6 : ByteArray) (x7 : Int) (k : Nat), x.length ≤ i + n → i ≤ x.length → LS c1 b x5 x6 x7 → bestL s.data.toList b ((tab x).drop i) = bestL s.data.toList rule0 (tab x) → n + F ≤ k →
      bookplatelaw07_TranslitLongest.l0 k x s x5 x6 x7 x (x.length : Int) (i : Int) = some true := by
  intro n
  induction n with
  | zero =>
    intro i b x5 x6 x7 k h1 h2 hls hbe hk
    obtain rfl : i = x.length := by omega
    rw [← tab_length, List.drop_length, bestL] at hbe
    exact fin b x5 x6 x7 k hls hbe (by omega)
  | succ n ih =>
    intro i b x5 x6 x7 k h1 h2 hls hbe hk
    by_cases e : i = x.length
    · subst e
      rw [← tab_length, List.drop_length, bestL] at hbe
      exact fin b x5 x6 x7 k hls hbe (by omega)
    · obtain ⟨k, rfl⟩ : ∃ k', k = k' + 1 := ⟨k - 1, by omega⟩
      have hlt : i < (tab x).length := by rw [tab_length]; omega
      have h7 := LS_size hls
      rw [List.drop_eq_getElem_cons hlt, bestL, ← ru_get hlt, ← hasP_eq] at hbe
      rw [bookplatelaw07_TranslitLongest.l0, if_pos (by omega), if_pos (by omega), if_pos (by omega), rd0, rd1, rd_ru, w64 (n := (i : Int) + 1) (by omega) (by omega), h7]
      have step := fun b x5 x6 x7 (h : LS c1 b x5 x6 x7) hb => ih (i + 1) b x5 x6 x7 k (by omega) (by omega) h hb (by omega)
      have hcast : ((i : Int) + 1) = ((i + 1 : Nat) : Int) := by omega
      rw [hcast]
      rw [h7] at hls
      by_cases c0 : b.f0.size < (ru (tab x) i).f0.size
      · rw [if_pos (by omega)]
        by_cases c1' : (ru (tab x) i).f0.size ≤ s.size
        · rw [if_pos (by omega), if_pos (by omega), if_pos (by omega), Int.toNat_natCast]
          by_cases c2 : (s.extract 0 (ru (tab x) i).f0.size).toList = (ru (tab x) i).f0.toList
          · have hp : hasP s (ru (tab x) i).f0 = true := by unfold hasP; rw [decide_eq_true c1', c2]; simp
            rw [if_pos c2]
            rw [if_pos ⟨c0, hp⟩] at hbe
            exact step _ _ _ _ (.inr ⟨by omega, rfl, rfl, rfl⟩) hbe
          · have hp : ¬ hasP s (ru (tab x) i).f0 = true := by unfold hasP; rw [decide_eq_true c1']; simpa using c2
            rw [if_neg c2]
            rw [if_neg (fun h => hp h.2)] at hbe
            exact step _ _ _ _ hls hbe
        · have hp : ¬ hasP s (ru (tab x) i).f0 = true := by unfold hasP; rw [decide_eq_false c1']; simp
          rw [if_neg (by omega)]
          rw [if_neg (fun h => hp h.2)] at hbe
          exact step _ _ _ _ hls hbe
      · rw [if_neg (by omega)]
        rw [if_neg (fun h => c0 h.1)] at hbe
        exact step _ _ _ _ hls hbe
theorem few_len' {x : List S34} (h : FewS (tab x)) : x.length ≤ 90 := by have := h.2; rw [tab_length] at this; exact this
theorem transLongest_true (x : List S34) (s : ByteArray) (hx : x.length ≤ 9223372036854775807) : ∃ k, bookplatelaw07_TranslitLongest.f k x s = some true := by
  obtain ⟨k, hk⟩ : ∃ k, x.length + 400000 ≤ k := ⟨_, Nat.le_refl _⟩
  refine ⟨k, ?_⟩
  obtain ⟨k, rfl⟩ : ∃ k', k = k' + 1 := ⟨k - 1, by omega⟩
  unfold bookplatelaw07_TranslitLongest.f
  rw [awake_eq _ (by omega), few_eq x hx _ (by omega)]
  simp only [Option.bind_some, if_true, bookplatelaw07_TranslitLongest.j0]
  by_cases hf : FewS (tab x)
  · rw [decide_eq_true hf, if_pos rfl]
    by_cases hs : (s.size : Int) > 40
    · rw [if_pos hs]
    · have h9 := few_len' hf
      have hs' : s.size ≤ 40 := by omega
      rw [if_neg hs]
      by_cases hnil : s.toList = ([] : List UInt8)
      · rw [if_pos hnil]
      · rw [if_neg hnil, refValid_eq x hf _ (by omega)]
        simp only [Option.bind_some]
        by_cases hv : validS (tab x) = true
        · rw [if_pos hv, refCut_eq s (by omega) _ (by omega), refCut_eq s (by omega) _ (by omega)]
          simp only [Option.bind_some]
          by_cases hc : ((⟨(headS s.data.toList).toArray⟩ : ByteArray).toList == ([] : List UInt8)) = true
          · rw [if_pos hc]
          · rw [if_neg hc]
            have hne : headS s.data.toList ≠ [] := fun h => hc (by rw [Lib.toList_data, h]; rfl)
            cases hd : decS hasS s.data.toList with
            | none => unfold headS at hne; rw [hd] at hne; exact absurd rfl hne
            | some l =>
              cases l with
              | nil => unfold headS at hne; rw [hd] at hne; exact absurd rfl hne
              | cons c cs =>
                have hhd : headS s.data.toList = encC c := by unfold headS; rw [hd]
                obtain ⟨h1, h2⟩ := decS_iff.1 hd
                have hh : ∀ z ∈ c :: cs, hasS z = true := fun z hz => (h2 z hz).2
                rw [hhd]
                have hssz : s.size = (encC c).length + (encL cs).length := by rw [← dlen, h1, encL_cons, List.length_append]
                refine longest_go x s ⟨(encC c).toArray⟩ (by omega) 300000 ?_ x.length 0 rule0 _ _ 0 k (by omega) (by omega) (.inl ⟨rfl, rfl, rfl, rfl⟩) (by rw [List.drop_zero]) (by omega)
                intro b x5 x6 x7 k hls hbe hk
                obtain ⟨k, rfl⟩ : ∃ k', k = k' + 1 := ⟨k - 1, by omega⟩
                rw [bookplatelaw07_TranslitLongest.l0, if_neg (by omega), own_eq x (by omega) k (by omega)]
                simp only [Option.bind_some]
                rw [to_eq hf s (by omega) k (by omega)]
                simp only [Option.bind_some]
                rcases hls with ⟨hb, rfl, rfl, _⟩ | ⟨hb, rfl, rfl, _⟩
                · have hz : (bestL s.data.toList rule0 (tab x)).f0.size = 0 := by rw [← hbe, hb]; rfl
                  have hlaw := longest_zero hv h1 hh hz
                  have hts := toS_size hf (s.extract (encC c).length s.size)
                  have hes : (s.extract (encC c).length s.size).size ≤ s.size := by simp
                  rw [size_arr (encC c), if_pos (by omega), if_pos (by omega), Int.toNat_natCast, to_eq hf _ (by omega) k (by omega)]
                  simp only [Option.bind_some]
                  rw [if_pos (by omega), ← hlaw]
                  simp
                · have hz : (bestL s.data.toList rule0 (tab x)).f0.size ≠ 0 := by rw [← hbe]; exact hb
                  obtain ⟨hle, hmem, hlaw⟩ := longest_more hv h1 hh hz
                  rw [← hbe] at hle hmem hlaw
                  have hts := toS_size hf (s.extract b.f0.size s.size)
                  have hes : (s.extract b.f0.size s.size).size ≤ s.size := by simp
                  have hb1 := (hf.1 _ hmem).2
                  rw [if_pos (by omega), if_pos (by omega), Int.toNat_natCast, to_eq hf _ (by omega) k (by omega)]
                  simp only [Option.bind_some]
                  rw [if_pos (by omega), ← hlaw]
                  simp
        · rw [if_neg hv]
  · rw [decide_eq_false hf, if_neg (by decide)]
end Go.Proofs.YthcpdhniakpbaaaDoor.X
end
