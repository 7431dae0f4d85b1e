/- The law NormalOrder returns true for every input, the package variables that it reads holding what the row lists. Part 6 of the texts that its proof stands on; put together by a program. -/
import Derived.Test.YthcpdhniakpbaaaDoorNormalOrderE
section
namespace Go.Proofs.YthcpdhniakpbaaaDoor.X
open Go.RowKit Go.Proofs.YthcpdhniakpbaaaDoorW.PrintWords Go.Proofs.YthcpdhniakpbaaaDoorW.PrintLast Go.Proofs.YthcpdhniakpbaaaDoorW.PrintMore
attribute [local go_sem] max2_int min2_int max_two min_two max_three min_three max_four min_four
set_option linter.unusedVariables false
set_option linter.unusedSimpArgs false
mutual
def bookplatelaw05_NormalOrder.j0 : Nat → List Int → Int → ByteArray → Bool → Option (Bool)
  | 0, _, _, _, _ => none
  | k + 1, x0, x1, x5, x29 => if x29 = true then (some true) else ((normal_Decompose.f x5).bind fun t649 => ((bookplateref04_Decode.f k t649).bind fun bt650 => (bookplatelaw05_NormalOrder.l0 k x0 x1 x5 bt650.1 bt650.2 1)))
def bookplatelaw05_NormalOrder.l0 : Nat → List Int → Int → ByteArray → List Int → Bool → Int → Option (Bool)
  | 0, _, _, _, _, _, _ => none
  | k + 1, x0, x1, x5, x7, x8, x9 => if x9 < (x7.length : Int) then (if 0 ≤ x9 then ((bookplatelaw05_marks.f k (rd x7 x9)).bind fun t655 => (if t655 > 0 then (if 0 ≤ (wrap64 (x9 - 1)) then (if (wrap64 (x9 - 1)) < (x7.length : Int) then ((bookplatelaw05_marks.f k (rd x7 (wrap64 (x9 - 1)))).bind fun t657 => ((bookplatelaw05_marks.f k (rd x7 x9)).bind fun t659 => (if t657 > t659 then (some false) else (bookplatelaw05_NormalOrder.l0 k x0 x1 x5 x7 x8 (wrap64 (x9 + 1)))))) else (none)) else (none)) else (bookplatelaw05_NormalOrder.l0 k x0 x1 x5 x7 x8 (wrap64 (x9 + 1))))) else (none)) else (if (x0.length : Int) < 2 then (some x8) else (if (wrap64 ((x0.length : Int) - 1)) = 0 then (none) else (if 0 ≤ (Int.tmod (wrap64 (x1)) (wrap64 ((x0.length : Int) - 1))) then (if (Int.tmod (wrap64 (x1)) (wrap64 ((x0.length : Int) - 1))) < (x0.length : Int) then ((bookplatelaw05_marks.f k (rd x0 (Int.tmod (wrap64 (x1)) (wrap64 ((x0.length : Int) - 1))))).bind fun t661 => (if 0 ≤ (wrap64 ((Int.tmod (wrap64 (x1)) (wrap64 ((x0.length : Int) - 1))) + 1)) then (if (wrap64 ((Int.tmod (wrap64 (x1)) (wrap64 ((x0.length : Int) - 1))) + 1)) < (x0.length : Int) then ((bookplatelaw05_marks.f k (rd x0 (wrap64 ((Int.tmod (wrap64 (x1)) (wrap64 ((x0.length : Int) - 1))) + 1)))).bind fun t663 => (if t661 = 0 then (bookplatelaw05_NormalOrder.j2 k x0 x5 x8 (Int.tmod (wrap64 (x1)) (wrap64 ((x0.length : Int) - 1))) true) else (if t663 = 0 then (bookplatelaw05_NormalOrder.j2 k x0 x5 x8 (Int.tmod (wrap64 (x1)) (wrap64 ((x0.length : Int) - 1))) true) else (bookplatelaw05_NormalOrder.j2 k x0 x5 x8 (Int.tmod (wrap64 (x1)) (wrap64 ((x0.length : Int) - 1))) (t661 == t663))))) else (none)) else (none))) else (none)) else (none))))
def bookplatelaw05_NormalOrder.j2 : Nat → List Int → ByteArray → Bool → Int → Bool → Option (Bool)
  | 0, _, _, _, _, _ => none
  | k + 1, x0, x5, x8, x10, x93 => if x93 = true then (some x8) else ((some (([] : List Int) : List Int)).bind fun y664 => (if y664.length + x0.length < 17592186044416 then ((some (y664 ++ x0 : List Int)).bind fun y667 => (if 0 ≤ (wrap64 (x10 + 1)) then (if (wrap64 (x10 + 1)) < (y667.length : Int) then (if 0 ≤ x10 then (if x10 < (y667.length : Int) then ((bookplateref04_Encode.f k ((y667.set (x10 : Int).toNat (rd y667 (wrap64 (x10 + 1)))).set ((wrap64 (x10 + 1)) : Int).toNat (rd y667 x10))).bind fun bt674 => (if x8 = true then ((normal_Equal.f k x5 bt674.1).bind fun t676 => (some t676)) else (some false))) else (none)) else (none)) else (none)) else (none))) else (none)))
end
def bookplatelaw05_NormalOrder.f (k : Nat) (l0 : List Int) (a1 : Int) : Option (Bool) := (bookplatelaw05_awake.f k).bind fun t646 => (if t646 = true then ((bookplateref04_Encode.f k l0).bind fun bt647 => (if bt647.2 = true then (bookplatelaw05_NormalOrder.j0 k l0 a1 bt647.1 (decide ((l0.length : Int) > 30))) else (bookplatelaw05_NormalOrder.j0 k l0 a1 bt647.1 true))) else (some false))
def bookplatelaw05_NormalOrder.T10 : Bool × List (List Nat × List Nat) := (true, [([], []), ([], []), ([0, 1], [0, 1]), ([2], [2]), ([3], [3]), ([4], [4]), ([5, 4], [5]), ([6], [6]), ([6], [6]), ([8, 6], [6, 8]), ([7, 9, 6], [6, 7, 9]), ([10, 6], [6, 10]), ([11, 6, 6], [6, 11]), ([6], [6]), ([6], [6]), ([13, 14, 6], [6, 13, 14]), ([15, 6], [6, 15]), ([16, 12, 6], [6, 16]), ([12, 17, 6], [6, 12, 17]), ([6, 18], [6, 18])])
def bookplatelaw05_NormalOrder.B10 : List Nat := [0, 0, 3, 7, 15, 31, 63, 127, 127, 383, 1023, 2047, 4095, 127, 127, 24703, 57471, 131071, 262143, 524287]
theorem bookplatelaw05_NormalOrder.tab10 : rtab .any (opsOf Tryd.f13 10) = bookplatelaw05_NormalOrder.T10 := by kernel_rfl
theorem bookplatelaw05_NormalOrder.bits10 : waitsOk bookplatelaw05_NormalOrder.T10.2 bookplatelaw05_NormalOrder.B10 = true := by kernel_rfl
def bookplatelaw05_NormalOrder.T15 : Bool × List (List Nat × List Nat) := (true, [([], []), ([], []), ([0, 1], [0, 1]), ([2], [2]), ([3], [3]), ([], []), ([], []), ([6], [6]), ([5, 7], [5, 7]), ([8], [8]), ([9, 4], [9]), ([4, 10, 0, 1, 2, 3, 4], [4]), ([10, 11, 0, 1, 2, 3, 4, 5, 6, 7, 8, 9, 10, 11], [10])])
def bookplatelaw05_NormalOrder.B15 : List Nat := [0, 0, 3, 7, 15, 0, 0, 64, 224, 480, 1023, 2047, 4095]
theorem bookplatelaw05_NormalOrder.tab15 : rtab .any (opsOf Tryd.f13 15) = bookplatelaw05_NormalOrder.T15 := by kernel_rfl
theorem bookplatelaw05_NormalOrder.bits15 : waitsOk bookplatelaw05_NormalOrder.T15.2 bookplatelaw05_NormalOrder.B15 = true := by kernel_rfl
def bookplatelaw05_NormalOrder.T19 : Bool × List (List Nat × List Nat) := (true, [([], []), ([], []), ([], []), ([], []), ([3], [3]), ([], []), ([], []), ([6], [6]), ([5, 7], [5, 7]), ([8], [8]), ([], []), ([], []), ([10, 11], [10, 11]), ([12], [12]), ([0, 1, 0, 1, 5, 6, 7, 8, 9, 13], [0, 1]), ([14, 9, 0, 1, 5, 6, 7, 8, 9, 13], [9, 14]), ([2, 4, 0, 1, 2, 3, 4, 5, 6, 7, 8, 9, 10, 11, 12, 13, 14, 15], [2, 4]), ([16, 13, 15, 0, 1, 2, 3, 4, 5, 6, 7, 8, 9, 10, 11, 12, 13, 14, 15], [13, 16])])
def bookplatelaw05_NormalOrder.B19 : List Nat := [0, 0, 0, 0, 8, 0, 0, 64, 224, 480, 0, 0, 3072, 7168, 16355, 32739, 65535, 131071]
theorem bookplatelaw05_NormalOrder.tab19 : rtab .any (opsOf Tryd.f13 19) = bookplatelaw05_NormalOrder.T19 := by kernel_rfl
theorem bookplatelaw05_NormalOrder.bits19 : waitsOk bookplatelaw05_NormalOrder.T19.2 bookplatelaw05_NormalOrder.B19 = true := by kernel_rfl
set_option maxHeartbeats 8000000 in
set_option maxRecDepth 100000 in
theorem bookplatelaw05_NormalOrder.calls (k : Nat) (A0 : Option Addr) (c0 : Nat) (l0 : List Int) (a1 : Int) (r : Bool) (w : World) (hr0 : Kd.C (Kd.int .i64) w A0 l0.length l0) (hc0 : l0.length ≤ c0) (hG : GT1 w) (h : bookplatelaw05_NormalOrder.f k l0 a1 = some r) :
    Calls Tryd.prog 13 #[.slice A0 l0.length c0, .int .u8 a1] w fun e w' => e = .returned (.bool r) ∧ Below w.heap.size w w' := by
  have HG := Aside0.mk hG
  clear hG
  have HR0 := Aside0.mk hr0
  have HC0 := Aside0.mk hc0
  clear hr0 hc0
  have HB := Aside0.mk (Below.refl w.heap.size w)
  have H : ((bookplatelaw05_awake.f k).bind fun t646 => (if t646 = true then ((bookplateref04_Encode.f k l0).bind fun bt647 => (if bt647.2 = true then (bookplatelaw05_NormalOrder.j0 k l0 a1 bt647.1 (decide ((l0.length : Int) > 30))) else (bookplatelaw05_NormalOrder.j0 k l0 a1 bt647.1 true))) else (some false))) = some r := h
  clear h
  replace H := Option.bind_eq_some_iff.mp H
  obtain ⟨t646, A30, H⟩ := H
  replace H : (if t646 = true then ((bookplateref04_Encode.f k l0).bind fun bt647 => (if bt647.2 = true then (bookplatelaw05_NormalOrder.j0 k l0 a1 bt647.1 (decide ((l0.length : Int) > 30))) else (bookplatelaw05_NormalOrder.j0 k l0 a1 bt647.1 true))) else (some false)) = some r := H
  have A3 := Aside0.mk A30
  clear A30
  by_cases c4 : t646 = true
  · subst c4
    have H1 : ((bookplateref04_Encode.f k l0).bind fun bt647 => (if bt647.2 = true then (bookplatelaw05_NormalOrder.j0 k l0 a1 bt647.1 (decide ((l0.length : Int) > 30))) else (bookplatelaw05_NormalOrder.j0 k l0 a1 bt647.1 true))) = some r := by rw [if_pos rfl] at H; exact H
    clear H
    have H := H1
    clear H1
    replace H := Option.bind_eq_some_iff.mp H
    obtain ⟨⟨t647, t648⟩, A50, H⟩ := H
    replace H : (if t648 = true then (bookplatelaw05_NormalOrder.j0 k l0 a1 t647 (decide ((l0.length : Int) > 30))) else (bookplatelaw05_NormalOrder.j0 k l0 a1 t647 true)) = some r := H
    have A5 := Aside0.mk A50
    clear A50
    have HC6 := Aside0.mk H
    clear H
    go_enter Tryd.func13, Tryd.ntmps13
    go_upto_region 4 with (first | ((with_reducible refine gate_callee (f := 37) rfl ?_); refine goesL_ (some 16) rfl rfl Tryd.func37 (by kernel_rfl) rfl #[] rfl (by (try simp only [List.map_toArray, List.map_cons, List.map_nil]); first | done | rfl | (simp only [List.length_drop, List.length_take]; rfl)) ?_; (with_reducible refine (bookplatelaw05_awake.calls k  true _ ?side1 A3.out).mono ?_); (case side1 => exact GT1.below (HG.out) (by repeat (first | (with_reducible first | exact HB.out | apply below_alloc | apply pw_below_drewN | apply below_drew1) | exact HB.out))); rintro e w7 ⟨rfl, hb⟩; refine ⟨_, rfl, ?_⟩; have n0_ := Aside0.mk (below_step (by repeat (first | (with_reducible first | exact HB.out | apply below_alloc | apply pw_below_drewN | apply below_drew1) | exact HB.out)) hb); clear HB; have HB := n0_; clear n0_; (try clear hb); (try clear hb2); (try clear hk); (try clear hi)) | ((with_reducible refine gate_callee (f := 50) rfl ?_); refine goesL_ (some 20) rfl rfl Tryd.func50 (by kernel_rfl) rfl #[.slice A0 l0.length c0] rfl (by (try simp only [List.map_toArray, List.map_cons, List.map_nil]); first | done | rfl | (simp only [List.length_drop, List.length_take]; rfl)) ?_; (with_reducible refine (bookplateref04_Encode.calls k _ _ l0 t647 t648 _ ?side1 ?side2 A5.out).mono ?_); (case side1 => repeat (first | exact (Kd.C_below HR0.out HB.out) | (with_reducible refine Kd.C_alloc ?_ _) | (with_reducible refine Kd.C_drewN ?_ _) | (with_reducible refine Kd.C_drew ?_))); (case side2 => exact HC0.out); rintro e w8 ⟨rfl, hb⟩; refine ⟨_, rfl, ?_⟩; have n0_ := Aside0.mk (below_step (by repeat (first | (with_reducible first | exact HB.out | apply below_alloc | apply pw_below_drewN | apply below_drew1) | exact HB.out)) hb); clear HB; have HB := n0_; clear n0_; (try clear hb); (try clear hb2); (try clear hk); (try clear hi)))
    (try simp only [Act.put, List.setIfInBounds_toArray, List.set_cons_zero, List.set_cons_succ])
    go_cut [29] (fun v29 wc => ∃ (kq : Nat) (x29_5 : Bool), v29 = .bool x29_5 ∧ Aside0 (bookplatelaw05_NormalOrder.j0 kq l0 a1 t647 x29_5 = some r) ∧ Aside0 (kq ≤ k) ∧ Aside0 (Below w.heap.size w wc))
    case first =>
      have H := HC6.out
      clear HC6
      by_cases c9 : t648 = true
      · subst c9
        have H1 : (bookplatelaw05_NormalOrder.j0 k l0 a1 t647 (decide ((l0.length : Int) > 30))) = some r := by rw [if_pos rfl] at H; exact H
        clear H
        have H := H1
        clear H1
        have H' := Aside0.mk H
        clear H
        go_wp2
        go_meet
        case rel => exact ⟨_, (decide ((l0.length : Int) > 30)), (by first | rfl | (simp; done) | (simp [*]; done)), H', ⟨by first | omega | exact Nat.le_refl _⟩, ⟨by repeat (first | (with_reducible first | exact HB.out | apply below_alloc | apply pw_below_drewN | apply below_drew1) | exact HB.out)⟩⟩
      · replace c9 := Bool.eq_false_iff.mpr c9
        subst c9
        have H1 : (bookplatelaw05_NormalOrder.j0 k l0 a1 t647 true) = some r := by rw [if_neg (show ¬ (false = true) by decide)] at H; exact H
        clear H
        have H := H1
        clear H1
        have H' := Aside0.mk H
        clear H
        go_wp2
        go_meet
        case rel => exact ⟨_, (true), (by first | rfl | (simp; done) | (simp [*]; done)), H', ⟨by first | omega | exact Nat.le_refl _⟩, ⟨by repeat (first | (with_reducible first | exact HB.out | apply below_alloc | apply pw_below_drewN | apply below_drew1) | exact HB.out)⟩⟩
    case rest =>
      clear HC6
      try clear c1
      try clear p2
      try clear c3
      try clear c4
      try clear c5
      try clear c9
      obtain ⟨kq, x29_5, rfl, HA, HJ5, HB⟩ := hcut
      cases kq with
      | zero => exact absurd HA.out (by simp [bookplatelaw05_NormalOrder.j0])
      | succ kj5 =>
        have H := HA.out
        clear HA
        simp only [bookplatelaw05_NormalOrder.j0] at H
        by_cases c10 : x29_5 = true
        · subst c10
          have H1 : (some true) = some r := by rw [if_pos rfl] at H; exact H
          clear H
          have H := H1
          clear H1
          obtain rfl := Option.some.inj H
          go_wp2
          go_ret
          exact ⟨by first | rfl | (simp [errW_none, errW_some] <;> rfl) | (simp [*, errW_none, errW_some] <;> rfl), by repeat (first | (with_reducible first | exact HB.out | apply below_alloc | apply pw_below_drewN | apply below_drew1) | exact HB.out)⟩
        · replace c10 := Bool.eq_false_iff.mpr c10
          subst c10
          have H1 : ((normal_Decompose.f t647).bind fun t649 => ((bookplateref04_Decode.f kj5 t649).bind fun bt650 => (bookplatelaw05_NormalOrder.l0 kj5 l0 a1 t647 bt650.1 bt650.2 1))) = some r := by rw [if_neg (show ¬ (false = true) by decide)] at H; exact H
          clear H
          have H := H1
          clear H1
          replace H := Option.bind_eq_some_iff.mp H
          obtain ⟨t649, A110, H⟩ := H
          replace H : ((bookplateref04_Decode.f kj5 t649).bind fun bt650 => (bookplatelaw05_NormalOrder.l0 kj5 l0 a1 t647 bt650.1 bt650.2 1)) = some r := H
          have A11 := Aside0.mk A110
          clear A110
          replace H := Option.bind_eq_some_iff.mp H
          obtain ⟨⟨t650, t651⟩, A120, H⟩ := H
          replace H : (bookplatelaw05_NormalOrder.l0 kj5 l0 a1 t647 t650 t651 1) = some r := H
          have A12 := Aside0.mk A120
          clear A120
          have H' := Aside0.mk H
          clear H
          go_wp2_with (first | ((with_reducible refine gate_callee (f := 38) rfl ?_); refine goesL_ (some 32) rfl rfl Tryd.func38 (by kernel_rfl) rfl #[.string t647] rfl (by (try simp only [List.map_toArray, List.map_cons, List.map_nil]); first | done | rfl | (simp only [List.length_drop, List.length_take]; rfl)) ?_; (with_reducible refine (normal_Decompose.calls t647 t649 _ ?side1 A11.out).mono ?_); (case side1 => exact GT1.below (HG.out) (by repeat (first | (with_reducible first | exact HB.out | apply below_alloc | apply pw_below_drewN | apply below_drew1) | exact HB.out))); rintro e w13 ⟨rfl, hb⟩; refine ⟨_, rfl, ?_⟩; have n0_ := Aside0.mk (below_step (by repeat (first | (with_reducible first | exact HB.out | apply below_alloc | apply pw_below_drewN | apply below_drew1) | exact HB.out)) hb); clear HB; have HB := n0_; clear n0_; (try clear hb); (try clear hb2); (try clear hk); (try clear hi)) | ((with_reducible refine gate_callee (f := 31) rfl ?_); refine goesL_ (some 33) rfl rfl Tryd.func31 (by kernel_rfl) rfl #[.string t649] rfl (by (try simp only [List.map_toArray, List.map_cons, List.map_nil]); first | done | rfl | (simp only [List.length_drop, List.length_take]; rfl)) ?_; (with_reducible refine (bookplateref04_Decode.calls kj5 t649 t650 t651 _ A12.out).mono ?_); rintro e w14 ⟨v652, rfl, ho0, hb⟩; refine ⟨_, rfl, ?_⟩; have n0_ := Aside0.mk (Kd.R_lower ho0 (below_size (by repeat (first | (with_reducible first | exact HB.out | apply below_alloc | apply pw_below_drewN | apply below_drew1) | exact HB.out)))); have n1_ := Aside0.mk (below_step (by repeat (first | (with_reducible first | exact HB.out | apply below_alloc | apply pw_below_drewN | apply below_drew1) | exact HB.out)) hb); clear HB; have HO653 := n0_; have HB := n1_; clear n0_ n1_; (try clear hb); (try clear hb2); (try clear hk); (try clear hi); (try clear ho0)))
          go_loopg [9] kj5 (fun kq v9 w' => ∃ (x9_2 : Int), v9 = .int .i64 x9_2 ∧ Aside0 (bookplatelaw05_NormalOrder.l0 kq l0 a1 t647 t650 t651 x9_2 = some r) ∧ Aside0 (kq ≤ kj5) ∧ Aside0 (Kd.R (Kd.int .i64) 3 w' w.heap.size (fun _ => True) v652 t650) ∧ Aside0 (Below w.heap.size w w'))
          case atStart => exact ⟨(1), (by first | rfl | (simp; done) | (simp [*]; done)), H', ⟨Nat.le_refl _⟩, ⟨by (with_reducible repeat (first | apply Kd.R_alloc | apply Kd.R_drewN | apply Kd.R_drew)); exact HO653.out⟩, ⟨by repeat (first | (with_reducible first | exact HB.out | apply below_alloc | apply pw_below_drewN | apply below_drew1) | exact HB.out)⟩⟩
          case round =>
            clear H'
            try clear c1
            try clear p2
            try clear c3
            try clear c4
            try clear c5
            try clear c9
            try clear c10
            try clear c13
            try clear p2
            obtain ⟨x9_2, rfl, HA, HK2, HO_7, HB⟩ := hrel
            cases gk with
            | zero => exact absurd HA.out (by simp [bookplatelaw05_NormalOrder.l0])
            | succ k2 =>
              have H := HA.out
              clear HA
              simp only [bookplatelaw05_NormalOrder.l0] at H
              by_cases c15 : x9_2 < (t650.length : Int)
              · rw [if_pos c15] at H
                have c15b0 : decide (x9_2 < (t650.length : Int)) = true := decide_eq_true c15
                clear c15
                by_cases c16 : 0 ≤ x9_2
                · rw [if_pos c16] at H
                  have c16b0 : decide (0 ≤ x9_2) = true := decide_eq_true c16
                  clear c16
                  replace H := Option.bind_eq_some_iff.mp H
                  obtain ⟨t655, A170, H⟩ := H
                  replace H : (if t655 > 0 then (if 0 ≤ (wrap64 (x9_2 - 1)) then (if (wrap64 (x9_2 - 1)) < (t650.length : Int) then ((bookplatelaw05_marks.f k2 (rd t650 (wrap64 (x9_2 - 1)))).bind fun t657 => ((bookplatelaw05_marks.f k2 (rd t650 x9_2)).bind fun t659 => (if t657 > t659 then (some false) else (bookplatelaw05_NormalOrder.l0 k2 l0 a1 t647 t650 t651 (wrap64 (x9_2 + 1)))))) else (none)) else (none)) else (bookplatelaw05_NormalOrder.l0 k2 l0 a1 t647 t650 t651 (wrap64 (x9_2 + 1)))) = some r := H
                  have A17 := Aside0.mk A170
                  clear A170
                  by_cases c18 : t655 > 0
                  · rw [if_pos c18] at H
                    have c18b0 : decide (0 < t655) = true := decide_eq_true c18
                    clear c18
                    obtain ⟨ji19, hji19⟩ : ∃ j_ : Int, (wrap64 (x9_2 - 1)) = j_ := ⟨_, rfl⟩
                    replace H : (if 0 ≤ (ji19) then (if (ji19) < (t650.length : Int) then ((bookplatelaw05_marks.f k2 (rd t650 (ji19))).bind fun t657 => ((bookplatelaw05_marks.f k2 (rd t650 x9_2)).bind fun t659 => (if t657 > t659 then (some false) else (bookplatelaw05_NormalOrder.l0 k2 l0 a1 t647 t650 t651 (wrap64 (x9_2 + 1)))))) else (none)) else (none)) = some r := by first | (rw [hji19] at H; exact H) | (simp only [hji19] at H ⊢; exact H)
                    (try rw [hji19] at A17)
                    have hji19w : (IntKind.i64.wrap (x9_2 - 1)) = ji19 := (i64_w _).trans hji19
                    by_cases c20 : 0 ≤ (ji19)
                    · rw [if_pos c20] at H
                      have c20b0 : decide (0 ≤ (ji19)) = true := decide_eq_true c20
                      clear c20
                      by_cases c21 : (ji19) < (t650.length : Int)
                      · rw [if_pos c21] at H
                        have c21b0 : decide ((ji19) < (t650.length : Int)) = true := decide_eq_true c21
                        clear c21
                        replace H := Option.bind_eq_some_iff.mp H
                        obtain ⟨t657, A220, H⟩ := H
                        replace H : ((bookplatelaw05_marks.f k2 (rd t650 x9_2)).bind fun t659 => (if t657 > t659 then (some false) else (bookplatelaw05_NormalOrder.l0 k2 l0 a1 t647 t650 t651 (wrap64 (x9_2 + 1))))) = some r := H
                        have A22 := Aside0.mk A220
                        clear A220
                        replace H := Option.bind_eq_some_iff.mp H
                        obtain ⟨t659, A230, H⟩ := H
                        replace H : (if t657 > t659 then (some false) else (bookplatelaw05_NormalOrder.l0 k2 l0 a1 t647 t650 t651 (wrap64 (x9_2 + 1)))) = some r := H
                        have A23 := Aside0.mk A230
                        clear A230
                        by_cases c24 : t657 > t659
                        · rw [if_pos c24] at H
                          have c24b0 : decide (t659 < t657) = true := decide_eq_true c24
                          clear c24
                          obtain rfl := Option.some.inj H
                          obtain ⟨Ao25, co25, eo25⟩ := Kd.R_slice HO_7.out
                          subst eo25
                          try go_wp2
                          have n0_ := Aside0.mk (Kd.R_drew HO_7.out)
                          have n1_ := Aside0.mk (below_drew1 HB.out)
                          clear HO_7
                          clear HB
                          have HO_7 := n0_
                          have HB := n1_
                          clear n0_ n1_
                          have p654 : 0 ≤ (x9_2 : Int) := of_decide_eq_true (by first | (with_reducible assumption) | assumption)
                          have q654 : x9_2 < (t650.length : Int) := of_decide_eq_true (by first | (with_reducible assumption) | assumption)
                          obtain ⟨ad654, e654, hx654_0⟩ := Kd.at_int (Kd.R_reads' HO_7.out).2.2 x9_2 p654 q654
                          cases e654
                          replace p654 := eq_true p654
                          replace q654 := eq_true q654
                          have p656 : 0 ≤ ((ji19) : Int) := of_decide_eq_true (by first | (with_reducible assumption) | assumption)
                          have q656 : (ji19) < (t650.length : Int) := of_decide_eq_true (by first | (with_reducible assumption) | assumption)
                          obtain ⟨ad656, e656, hx656_0⟩ := Kd.at_int (Kd.R_reads' HO_7.out).2.2 (ji19) p656 q656
                          obtain rfl : ad654 = ad656 := (by injection e656)
                          replace p656 := eq_true p656
                          replace q656 := eq_true q656
                          have p658 : 0 ≤ (x9_2 : Int) := of_decide_eq_true (by first | (with_reducible assumption) | assumption)
                          have q658 : x9_2 < (t650.length : Int) := of_decide_eq_true (by first | (with_reducible assumption) | assumption)
                          obtain ⟨ad658, e658, hx658_0⟩ := Kd.at_int (Kd.R_reads' HO_7.out).2.2 x9_2 p658 q658
                          obtain rfl : ad654 = ad658 := (by injection e658)
                          replace p658 := eq_true p658
                          replace q658 := eq_true q658
                          refine start_ (n := 20) (S := fun w' => w'.cell? (ad654.add (x9_2).toNat) = some (.int .i64 (rd t650 x9_2)) ∧ w'.cell? (ad654.add ((ji19)).toNat) = some (.int .i64 (rd t650 (ji19))) ∧ w'.cell? (ad654.add (x9_2).toNat) = some (.int .i64 (rd t650 x9_2))) (ds := []) #[false, false, false, false, false, false, false, false, false, false, false, false, false, false, false, false, false, false, false, false] (by kernel_rfl) rfl rfl ⟨hx654_0, hx656_0, hx658_0⟩ (fun hHeld => ?_); refine with_tabW bookplatelaw05_NormalOrder.tab10 bookplatelaw05_NormalOrder.bits10 (fun HT_ HW_ => ?_)
                          generalize wr.drew = w26 at HO_7 HB hx654_0 hx656_0 hx658_0 hHeld ⊢
                          refine pure_ (i := 0) (N := some 42) (v := ?_) (a' := ?_) #[true, false, false, false, false, false, false, false, false, false, false, false, false, false, false, false, false, false, false, false] rfl rfl (any_of HT_.out (by kernel_rfl)) (fun _ _ _ h => h) (Or.inl ⟨by rfl, ?_⟩) ?_ ?_
                          rotate_left
                          · intro w'
                            go_simp
                            with_reducible rfl
                          rotate_left
                          · simp only [Act.put, List.setIfInBounds_toArray, List.set_cons_zero, List.set_cons_succ, i64_w, i32_w]
                            rfl
                          refine pure_ (i := 1) (N := some 43) (v := ?_) (a' := ?_) #[true, true, false, false, false, false, false, false, false, false, false, false, false, false, false, false, false, false, false, false] rfl rfl (any_of HT_.out (by kernel_rfl)) (fun _ _ _ h => h) (Or.inl ⟨by rfl, ?_⟩) ?_ ?_
                          rotate_left
                          · intro w'
                            go_simp
                            with_reducible rfl
                          rotate_left
                          · simp only [Act.put, List.setIfInBounds_toArray, List.set_cons_zero, List.set_cons_succ, i64_w, i32_w]
                            rfl
                          refine pure_ (i := 2) (N := some 44) (v := ?_) (a' := ?_) #[true, true, true, false, false, false, false, false, false, false, false, false, false, false, false, false, false, false, false, false] rfl rfl (any_of HT_.out (by kernel_rfl)) (fun _ _ _ h => h) (Or.inl ⟨by rfl, ?_⟩) ?_ ?_
                          rotate_left
                          · intro w'
                            go_simp
                            with_reducible rfl
                          rotate_left
                          · simp only [Act.put, List.setIfInBounds_toArray, List.set_cons_zero, List.set_cons_succ, i64_w, i32_w]
                            rfl
                          refine take_ (i := 3) (N := some 45) (v := ?_) (a' := ?_) #[true, true, true, true, false, false, false, false, false, false, false, false, false, false, false, false, false, false, false, false] rfl rfl (take_ofW HT_.out HW_.out (by kernel_rfl)) (fun _ _ _ h => h) (Or.inl ⟨by rfl, ?_⟩) hHeld ?_ ?_
                          rotate_left
                          · rintro w' ⟨s0, s1, s2⟩
                            go_simp
                            with_reducible rfl
                          rotate_left
                          · simp only [Act.put, List.setIfInBounds_toArray, List.set_cons_zero, List.set_cons_succ, i64_w, i32_w]
                            rfl
                          refine one_ (i := 4) (N := some 46) #[true, true, true, true, true, false, false, false, false, false, false, false, false, false, false, false, false, false, false, false] rfl rfl (one_of HT_.out (by kernel_rfl)) (by decide) (fun K hK => ?_)
                          refine goes_ Tryd.func51 (by kernel_rfl) rfl #[.int .i64 (rd t650 x9_2)] (by rfl) rfl rfl (by (try simp only [List.map_toArray, List.map_cons, List.map_nil]); first | done | rfl | (simp only [List.length_drop, List.length_take]; rfl)) ?_
                          with_reducible refine (bookplatelaw05_marks.calls k2 (rd t650 x9_2) t655 _ A17.out).mono ?_
                          rintro e w' ⟨rfl, ⟨nd, rfl⟩⟩
                          refine ⟨_, rfl, ?_⟩
                          refine hK.out _ _ ⟨hHeld.1, hHeld.2.1, hHeld.2.2⟩ (fun hHeld => ?_)
                          clear hK K
                          refine norm_ (a' := ?_) ?_ ?_
                          rotate_left
                          · show Act.put _ (some 46) _ = _
                            simp only [Act.put, List.setIfInBounds_toArray, List.set_cons_zero, List.set_cons_succ, i64_w, i32_w]
                            rfl
                          refine pure_ (i := 5) (N := some 47) (v := ?_) (a' := ?_) #[true, true, true, true, true, true, false, false, false, false, false, false, false, false, false, false, false, false, false, false] rfl rfl (any_of HT_.out (by kernel_rfl)) (fun _ _ _ h => h) (Or.inl ⟨by rfl, ?_⟩) ?_ ?_
                          rotate_left
                          · intro w'
                            go_simp
                            with_reducible rfl
                          rotate_left
                          · simp only [Act.put, List.setIfInBounds_toArray, List.set_cons_zero, List.set_cons_succ, i64_w, i32_w]
                            rfl
                          refine pure_ (i := 6) (N := some 48) (v := ?_) (a' := ?_) #[true, true, true, true, true, true, true, false, false, false, false, false, false, false, false, false, false, false, false, false] rfl rfl (any_of HT_.out (by kernel_rfl)) (fun _ _ _ h => h) (Or.inl ⟨by rfl, ?_⟩) ?_ ?_
                          rotate_left
                          · intro w'
                            go_simp
                            with_reducible rfl
                          rotate_left
                          · simp only [Act.put, List.setIfInBounds_toArray, List.set_cons_zero, List.set_cons_succ, i64_w, i32_w]
                            rfl
                          refine pure_ (i := 7) (N := some 49) (v := ?_) (a' := ?_) #[true, true, true, true, true, true, true, true, false, false, false, false, false, false, false, false, false, false, false, false] rfl rfl (any_of HT_.out (by kernel_rfl)) (fun _ _ _ h => h) (Or.inl ⟨by rfl, ?_⟩) ?_ ?_
                          rotate_left
                          · intro w'
                            go_simp
                            with_reducible rfl
                          rotate_left
                          · simp only [Act.put, List.setIfInBounds_toArray, List.set_cons_zero, List.set_cons_succ, i64_w, i32_w]
                            rfl
                          refine pure_ (i := 8) (N := some 50) (v := ?_) (a' := ?_) #[true, true, true, true, true, true, true, true, true, false, false, false, false, false, false, false, false, false, false, false] rfl rfl (any_of HT_.out (by kernel_rfl)) (fun _ _ _ h => h) (Or.inl ⟨by rfl, ?_⟩) ?_ ?_
                          rotate_left
                          · intro w'
                            go_simp
                            with_reducible rfl
                          rotate_left
                          · simp only [Act.put, List.setIfInBounds_toArray, List.set_cons_zero, List.set_cons_succ, i64_w, i32_w]
                            rfl
                          refine pure_ (i := 9) (N := some 51) (v := ?_) (a' := ?_) #[true, true, true, true, true, true, true, true, true, true, false, false, false, false, false, false, false, false, false, false] rfl rfl (any_of HT_.out (by kernel_rfl)) (fun _ _ _ h => h) (Or.inl ⟨by rfl, ?_⟩) ?_ ?_
                          rotate_left
                          · intro w'
                            go_simp
                            with_reducible rfl
                          rotate_left
                          · simp only [Act.put, List.setIfInBounds_toArray, List.set_cons_zero, List.set_cons_succ, i64_w, i32_w]
                            rfl
                          refine pure_ (i := 10) (N := some 52) (v := ?_) (a' := ?_) #[true, true, true, true, true, true, true, true, true, true, true, false, false, false, false, false, false, false, false, false] rfl rfl (any_of HT_.out (by kernel_rfl)) (fun _ _ _ h => h) (Or.inl ⟨by rfl, ?_⟩) ?_ ?_
                          rotate_left
                          · intro w'
                            go_simp
                            with_reducible rfl
                          rotate_left
                          · simp only [Act.put, List.setIfInBounds_toArray, List.set_cons_zero, List.set_cons_succ, i64_w, i32_w]
                            rfl
                          refine pure_ (i := 13) (N := some 55) (v := ?_) (a' := ?_) #[true, true, true, true, true, true, true, true, true, true, true, false, false, true, false, false, false, false, false, false] rfl rfl (any_of HT_.out (by kernel_rfl)) (fun _ _ _ h => h) (Or.inl ⟨by rfl, ?_⟩) ?_ ?_
                          rotate_left
                          · intro w'
                            go_simp
                            with_reducible rfl
                          rotate_left
                          · simp only [Act.put, List.setIfInBounds_toArray, List.set_cons_zero, List.set_cons_succ, i64_w, i32_w]
                            rfl
                          refine pure_ (i := 14) (N := some 56) (v := ?_) (a' := ?_) #[true, true, true, true, true, true, true, true, true, true, true, false, false, true, true, false, false, false, false, false] rfl rfl (any_of HT_.out (by kernel_rfl)) (fun _ _ _ h => h) (Or.inl ⟨by rfl, ?_⟩) ?_ ?_
                          rotate_left
                          · intro w'
                            go_simp
                            with_reducible rfl
                          rotate_left
                          · simp only [Act.put, List.setIfInBounds_toArray, List.set_cons_zero, List.set_cons_succ, i64_w, i32_w]
                            rfl
                          refine pure_ (i := 15) (N := some 57) (v := ?_) (a' := ?_) #[true, true, true, true, true, true, true, true, true, true, true, false, false, true, true, true, false, false, false, false] rfl rfl (any_of HT_.out (by kernel_rfl)) (fun _ _ _ h => h) (Or.inl ⟨by rfl, ?_⟩) ?_ ?_
                          rotate_left
                          · intro w'
                            go_simp
                            with_reducible rfl
                          rotate_left
                          · simp only [Act.put, List.setIfInBounds_toArray, List.set_cons_zero, List.set_cons_succ, i64_w, i32_w]
                            rfl
                          refine take_ (i := 11) (N := some 53) (v := ?_) (a' := ?_) #[true, true, true, true, true, true, true, true, true, true, true, true, false, true, true, true, false, false, false, false] rfl rfl (take_ofW HT_.out HW_.out (by kernel_rfl)) (fun _ _ _ h => h) (Or.inl ⟨by rfl, ?_⟩) hHeld ?_ ?_
                          rotate_left
                          · rintro w' ⟨s0, s1, s2⟩
                            go_simp
                            with_reducible rfl
                          rotate_left
                          · simp only [Act.put, List.setIfInBounds_toArray, List.set_cons_zero, List.set_cons_succ, i64_w, i32_w]
                            rfl
                          refine take_ (i := 16) (N := some 58) (v := ?_) (a' := ?_) #[true, true, true, true, true, true, true, true, true, true, true, true, false, true, true, true, true, false, false, false] rfl rfl (take_ofW HT_.out HW_.out (by kernel_rfl)) (fun _ _ _ h => h) (Or.inl ⟨by rfl, ?_⟩) hHeld ?_ ?_
                          rotate_left
                          · rintro w' ⟨s0, s1, s2⟩
                            go_simp
                            with_reducible rfl
                          rotate_left
                          · simp only [Act.put, List.setIfInBounds_toArray, List.set_cons_zero, List.set_cons_succ, i64_w, i32_w]
                            rfl
                          refine one_ (i := 12) (N := some 54) #[true, true, true, true, true, true, true, true, true, true, true, true, true, true, true, true, true, false, false, false] rfl rfl (one_of HT_.out (by kernel_rfl)) (by decide) (fun K hK => ?_)
                          refine goes_ Tryd.func51 (by kernel_rfl) rfl #[.int .i64 (rd t650 (ji19))] (by rfl) rfl rfl (by (try simp only [List.map_toArray, List.map_cons, List.map_nil]); first | done | (simp only [hji19]; rfl) | rfl | (simp only [List.length_drop, List.length_take]; rfl)) ?_
                          with_reducible refine (bookplatelaw05_marks.calls k2 (rd t650 (ji19)) t657 _ A22.out).mono ?_
                          rintro e w' ⟨rfl, ⟨nd, rfl⟩⟩
                          refine ⟨_, rfl, ?_⟩
                          refine hK.out _ _ ⟨hHeld.1, hHeld.2.1, hHeld.2.2⟩ (fun hHeld => ?_)
                          clear hK K
                          refine norm_ (a' := ?_) ?_ ?_
                          rotate_left
                          · show Act.put _ (some 54) _ = _
                            simp only [Act.put, List.setIfInBounds_toArray, List.set_cons_zero, List.set_cons_succ, i64_w, i32_w]
                            rfl
                          refine one_ (i := 17) (N := some 59) #[true, true, true, true, true, true, true, true, true, true, true, true, true, true, true, true, true, true, false, false] rfl rfl (one_of HT_.out (by kernel_rfl)) (by decide) (fun K hK => ?_)
                          refine goes_ Tryd.func51 (by kernel_rfl) rfl #[.int .i64 (rd t650 x9_2)] (by rfl) rfl rfl (by (try simp only [List.map_toArray, List.map_cons, List.map_nil]); first | done | rfl | (simp only [List.length_drop, List.length_take]; rfl)) ?_
                          with_reducible refine (bookplatelaw05_marks.calls k2 (rd t650 x9_2) t659 _ A23.out).mono ?_
                          rintro e w' ⟨rfl, ⟨nd, rfl⟩⟩
                          refine ⟨_, rfl, ?_⟩
                          refine hK.out _ _ ⟨hHeld.1, hHeld.2.1, hHeld.2.2⟩ (fun hHeld => ?_)
                          clear hK K
                          refine norm_ (a' := ?_) ?_ ?_
                          rotate_left
                          · show Act.put _ (some 59) _ = _
                            simp only [Act.put, List.setIfInBounds_toArray, List.set_cons_zero, List.set_cons_succ, i64_w, i32_w]
                            rfl
                          refine pure_ (i := 18) (N := some 60) (v := ?_) (a' := ?_) #[true, true, true, true, true, true, true, true, true, true, true, true, true, true, true, true, true, true, true, false] rfl rfl (any_of HT_.out (by kernel_rfl)) (fun _ _ _ h => h) (Or.inl ⟨by rfl, ?_⟩) ?_ ?_
                          rotate_left
                          · intro w'
                            go_simp
                            with_reducible rfl
                          rotate_left
                          · simp only [Act.put, List.setIfInBounds_toArray, List.set_cons_zero, List.set_cons_succ, i64_w, i32_w]
                            rfl
                          refine pure_ (i := 19) (N := some 61) (v := ?_) (a' := ?_) #[true, true, true, true, true, true, true, true, true, true, true, true, true, true, true, true, true, true, true, true] rfl rfl (any_of HT_.out (by kernel_rfl)) (fun _ _ _ h => h) (Or.inl ⟨by rfl, ?_⟩) ?_ ?_
                          rotate_left
                          · intro w'
                            go_simp
                            with_reducible rfl
                          rotate_left
                          · simp only [Act.put, List.setIfInBounds_toArray, List.set_cons_zero, List.set_cons_succ, i64_w, i32_w]
                            rfl
                          refine done_ (done_of HT_.out (by kernel_rfl)) ?_
                          try go_wp2
                          go_ret
                          exact ⟨by first | rfl | (simp [errW_none, errW_some] <;> rfl) | (simp only [← hji19]; first | rfl | (simp [errW_none, errW_some] <;> rfl)) | (simp [*, errW_none, errW_some] <;> rfl), by repeat (first | (with_reducible first | exact HB.out | apply below_alloc | apply pw_below_drewN | apply below_drew1) | exact HB.out)⟩
                        · rw [if_neg c24] at H
                          have c24b0 : decide (t659 < t657) = false := decide_eq_false c24
                          clear c24
                          have H' := Aside0.mk H
                          clear H
                          obtain ⟨Ao27, co27, eo27⟩ := Kd.R_slice HO_7.out
                          subst eo27
                          try go_wp2
                          have n0_ := Aside0.mk (Kd.R_drew HO_7.out)
                          have n1_ := Aside0.mk (below_drew1 HB.out)
                          clear HO_7
                          clear HB
                          have HO_7 := n0_
                          have HB := n1_
                          clear n0_ n1_
                          have p654 : 0 ≤ (x9_2 : Int) := of_decide_eq_true (by first | (with_reducible assumption) | assumption)
                          have q654 : x9_2 < (t650.length : Int) := of_decide_eq_true (by first | (with_reducible assumption) | assumption)
                          obtain ⟨ad654, e654, hx654_0⟩ := Kd.at_int (Kd.R_reads' HO_7.out).2.2 x9_2 p654 q654
                          cases e654
                          replace p654 := eq_true p654
                          replace q654 := eq_true q654
                          have p656 : 0 ≤ ((ji19) : Int) := of_decide_eq_true (by first | (with_reducible assumption) | assumption)
                          have q656 : (ji19) < (t650.length : Int) := of_decide_eq_true (by first | (with_reducible assumption) | assumption)
                          obtain ⟨ad656, e656, hx656_0⟩ := Kd.at_int (Kd.R_reads' HO_7.out).2.2 (ji19) p656 q656
                          obtain rfl : ad654 = ad656 := (by injection e656)
                          replace p656 := eq_true p656
                          replace q656 := eq_true q656
                          have p658 : 0 ≤ (x9_2 : Int) := of_decide_eq_true (by first | (with_reducible assumption) | assumption)
                          have q658 : x9_2 < (t650.length : Int) := of_decide_eq_true (by first | (with_reducible assumption) | assumption)
                          obtain ⟨ad658, e658, hx658_0⟩ := Kd.at_int (Kd.R_reads' HO_7.out).2.2 x9_2 p658 q658
                          obtain rfl : ad654 = ad658 := (by injection e658)
                          replace p658 := eq_true p658
                          replace q658 := eq_true q658
                          refine start_ (n := 20) (S := fun w' => w'.cell? (ad654.add (x9_2).toNat) = some (.int .i64 (rd t650 x9_2)) ∧ w'.cell? (ad654.add ((ji19)).toNat) = some (.int .i64 (rd t650 (ji19))) ∧ w'.cell? (ad654.add (x9_2).toNat) = some (.int .i64 (rd t650 x9_2))) (ds := []) #[false, false, false, false, false, false, false, false, false, false, false, false, false, false, false, false, false, false, false, false] (by kernel_rfl) rfl rfl ⟨hx654_0, hx656_0, hx658_0⟩ (fun hHeld => ?_); refine with_tabW bookplatelaw05_NormalOrder.tab10 bookplatelaw05_NormalOrder.bits10 (fun HT_ HW_ => ?_)
                          generalize wr.drew = w28 at HO_7 HB hx654_0 hx656_0 hx658_0 hHeld ⊢
                          refine pure_ (i := 0) (N := some 42) (v := ?_) (a' := ?_) #[true, false, false, false, false, false, false, false, false, false, false, false, false, false, false, false, false, false, false, false] rfl rfl (any_of HT_.out (by kernel_rfl)) (fun _ _ _ h => h) (Or.inl ⟨by rfl, ?_⟩) ?_ ?_
                          rotate_left
                          · intro w'
                            go_simp
                            with_reducible rfl
                          rotate_left
                          · simp only [Act.put, List.setIfInBounds_toArray, List.set_cons_zero, List.set_cons_succ, i64_w, i32_w]
                            rfl
                          refine pure_ (i := 1) (N := some 43) (v := ?_) (a' := ?_) #[true, true, false, false, false, false, false, false, false, false, false, false, false, false, false, false, false, false, false, false] rfl rfl (any_of HT_.out (by kernel_rfl)) (fun _ _ _ h => h) (Or.inl ⟨by rfl, ?_⟩) ?_ ?_
                          rotate_left
                          · intro w'
                            go_simp
                            with_reducible rfl
                          rotate_left
                          · simp only [Act.put, List.setIfInBounds_toArray, List.set_cons_zero, List.set_cons_succ, i64_w, i32_w]
                            rfl
                          refine pure_ (i := 2) (N := some 44) (v := ?_) (a' := ?_) #[true, true, true, false, false, false, false, false, false, false, false, false, false, false, false, false, false, false, false, false] rfl rfl (any_of HT_.out (by kernel_rfl)) (fun _ _ _ h => h) (Or.inl ⟨by rfl, ?_⟩) ?_ ?_
                          rotate_left
                          · intro w'
                            go_simp
                            with_reducible rfl
                          rotate_left
                          · simp only [Act.put, List.setIfInBounds_toArray, List.set_cons_zero, List.set_cons_succ, i64_w, i32_w]
                            rfl
                          refine take_ (i := 3) (N := some 45) (v := ?_) (a' := ?_) #[true, true, true, true, false, false, false, false, false, false, false, false, false, false, false, false, false, false, false, false] rfl rfl (take_ofW HT_.out HW_.out (by kernel_rfl)) (fun _ _ _ h => h) (Or.inl ⟨by rfl, ?_⟩) hHeld ?_ ?_
                          rotate_left
                          · rintro w' ⟨s0, s1, s2⟩
                            go_simp
                            with_reducible rfl
                          rotate_left
                          · simp only [Act.put, List.setIfInBounds_toArray, List.set_cons_zero, List.set_cons_succ, i64_w, i32_w]
                            rfl
                          refine one_ (i := 4) (N := some 46) #[true, true, true, true, true, false, false, false, false, false, false, false, false, false, false, false, false, false, false, false] rfl rfl (one_of HT_.out (by kernel_rfl)) (by decide) (fun K hK => ?_)
                          refine goes_ Tryd.func51 (by kernel_rfl) rfl #[.int .i64 (rd t650 x9_2)] (by rfl) rfl rfl (by (try simp only [List.map_toArray, List.map_cons, List.map_nil]); first | done | rfl | (simp only [List.length_drop, List.length_take]; rfl)) ?_
                          with_reducible refine (bookplatelaw05_marks.calls k2 (rd t650 x9_2) t655 _ A17.out).mono ?_
                          rintro e w' ⟨rfl, ⟨nd, rfl⟩⟩
                          refine ⟨_, rfl, ?_⟩
                          refine hK.out _ _ ⟨hHeld.1, hHeld.2.1, hHeld.2.2⟩ (fun hHeld => ?_)
                          clear hK K
                          refine norm_ (a' := ?_) ?_ ?_
                          rotate_left
                          · show Act.put _ (some 46) _ = _
                            simp only [Act.put, List.setIfInBounds_toArray, List.set_cons_zero, List.set_cons_succ, i64_w, i32_w]
                            rfl
                          refine pure_ (i := 5) (N := some 47) (v := ?_) (a' := ?_) #[true, true, true, true, true, true, false, false, false, false, false, false, false, false, false, false, false, false, false, false] rfl rfl (any_of HT_.out (by kernel_rfl)) (fun _ _ _ h => h) (Or.inl ⟨by rfl, ?_⟩) ?_ ?_
                          rotate_left
                          · intro w'
                            go_simp
                            with_reducible rfl
                          rotate_left
                          · simp only [Act.put, List.setIfInBounds_toArray, List.set_cons_zero, List.set_cons_succ, i64_w, i32_w]
                            rfl
                          refine pure_ (i := 6) (N := some 48) (v := ?_) (a' := ?_) #[true, true, true, true, true, true, true, false, false, false, false, false, false, false, false, false, false, false, false, false] rfl rfl (any_of HT_.out (by kernel_rfl)) (fun _ _ _ h => h) (Or.inl ⟨by rfl, ?_⟩) ?_ ?_
                          rotate_left
                          · intro w'
                            go_simp
                            with_reducible rfl
                          rotate_left
                          · simp only [Act.put, List.setIfInBounds_toArray, List.set_cons_zero, List.set_cons_succ, i64_w, i32_w]
                            rfl
                          refine pure_ (i := 7) (N := some 49) (v := ?_) (a' := ?_) #[true, true, true, true, true, true, true, true, false, false, false, false, false, false, false, false, false, false, false, false] rfl rfl (any_of HT_.out (by kernel_rfl)) (fun _ _ _ h => h) (Or.inl ⟨by rfl, ?_⟩) ?_ ?_
                          rotate_left
                          · intro w'
                            go_simp
                            with_reducible rfl
                          rotate_left
                          · simp only [Act.put, List.setIfInBounds_toArray, List.set_cons_zero, List.set_cons_succ, i64_w, i32_w]
                            rfl
                          refine pure_ (i := 8) (N := some 50) (v := ?_) (a' := ?_) #[true, true, true, true, true, true, true, true, true, false, false, false, false, false, false, false, false, false, false, false] rfl rfl (any_of HT_.out (by kernel_rfl)) (fun _ _ _ h => h) (Or.inl ⟨by rfl, ?_⟩) ?_ ?_
                          rotate_left
                          · intro w'
                            go_simp
                            with_reducible rfl
                          rotate_left
                          · simp only [Act.put, List.setIfInBounds_toArray, List.set_cons_zero, List.set_cons_succ, i64_w, i32_w]
                            rfl
                          refine pure_ (i := 9) (N := some 51) (v := ?_) (a' := ?_) #[true, true, true, true, true, true, true, true, true, true, false, false, false, false, false, false, false, false, false, false] rfl rfl (any_of HT_.out (by kernel_rfl)) (fun _ _ _ h => h) (Or.inl ⟨by rfl, ?_⟩) ?_ ?_
                          rotate_left
                          · intro w'
                            go_simp
                            with_reducible rfl
                          rotate_left
                          · simp only [Act.put, List.setIfInBounds_toArray, List.set_cons_zero, List.set_cons_succ, i64_w, i32_w]
                            rfl
                          refine pure_ (i := 10) (N := some 52) (v := ?_) (a' := ?_) #[true, true, true, true, true, true, true, true, true, true, true, false, false, false, false, false, false, false, false, false] rfl rfl (any_of HT_.out (by kernel_rfl)) (fun _ _ _ h => h) (Or.inl ⟨by rfl, ?_⟩) ?_ ?_
                          rotate_left
                          · intro w'
                            go_simp
                            with_reducible rfl
                          rotate_left
                          · simp only [Act.put, List.setIfInBounds_toArray, List.set_cons_zero, List.set_cons_succ, i64_w, i32_w]
                            rfl
                          refine pure_ (i := 13) (N := some 55) (v := ?_) (a' := ?_) #[true, true, true, true, true, true, true, true, true, true, true, false, false, true, false, false, false, false, false, false] rfl rfl (any_of HT_.out (by kernel_rfl)) (fun _ _ _ h => h) (Or.inl ⟨by rfl, ?_⟩) ?_ ?_
                          rotate_left
                          · intro w'
                            go_simp
                            with_reducible rfl
                          rotate_left
                          · simp only [Act.put, List.setIfInBounds_toArray, List.set_cons_zero, List.set_cons_succ, i64_w, i32_w]
                            rfl
                          refine pure_ (i := 14) (N := some 56) (v := ?_) (a' := ?_) #[true, true, true, true, true, true, true, true, true, true, true, false, false, true, true, false, false, false, false, false] rfl rfl (any_of HT_.out (by kernel_rfl)) (fun _ _ _ h => h) (Or.inl ⟨by rfl, ?_⟩) ?_ ?_
                          rotate_left
                          · intro w'
                            go_simp
                            with_reducible rfl
                          rotate_left
                          · simp only [Act.put, List.setIfInBounds_toArray, List.set_cons_zero, List.set_cons_succ, i64_w, i32_w]
                            rfl
                          refine pure_ (i := 15) (N := some 57) (v := ?_) (a' := ?_) #[true, true, true, true, true, true, true, true, true, true, true, false, false, true, true, true, false, false, false, false] rfl rfl (any_of HT_.out (by kernel_rfl)) (fun _ _ _ h => h) (Or.inl ⟨by rfl, ?_⟩) ?_ ?_
                          rotate_left
                          · intro w'
                            go_simp
                            with_reducible rfl
                          rotate_left
                          · simp only [Act.put, List.setIfInBounds_toArray, List.set_cons_zero, List.set_cons_succ, i64_w, i32_w]
                            rfl
                          refine take_ (i := 11) (N := some 53) (v := ?_) (a' := ?_) #[true, true, true, true, true, true, true, true, true, true, true, true, false, true, true, true, false, false, false, false] rfl rfl (take_ofW HT_.out HW_.out (by kernel_rfl)) (fun _ _ _ h => h) (Or.inl ⟨by rfl, ?_⟩) hHeld ?_ ?_
                          rotate_left
                          · rintro w' ⟨s0, s1, s2⟩
                            go_simp
                            with_reducible rfl
                          rotate_left
                          · simp only [Act.put, List.setIfInBounds_toArray, List.set_cons_zero, List.set_cons_succ, i64_w, i32_w]
                            rfl
                          refine take_ (i := 16) (N := some 58) (v := ?_) (a' := ?_) #[true, true, true, true, true, true, true, true, true, true, true, true, false, true, true, true, true, false, false, false] rfl rfl (take_ofW HT_.out HW_.out (by kernel_rfl)) (fun _ _ _ h => h) (Or.inl ⟨by rfl, ?_⟩) hHeld ?_ ?_
                          rotate_left
                          · rintro w' ⟨s0, s1, s2⟩
                            go_simp
                            with_reducible rfl
                          rotate_left
                          · simp only [Act.put, List.setIfInBounds_toArray, List.set_cons_zero, List.set_cons_succ, i64_w, i32_w]
                            rfl
                          refine one_ (i := 12) (N := some 54) #[true, true, true, true, true, true, true, true, true, true, true, true, true, true, true, true, true, false, false, false] rfl rfl (one_of HT_.out (by kernel_rfl)) (by decide) (fun K hK => ?_)
                          refine goes_ Tryd.func51 (by kernel_rfl) rfl #[.int .i64 (rd t650 (ji19))] (by rfl) rfl rfl (by (try simp only [List.map_toArray, List.map_cons, List.map_nil]); first | done | (simp only [hji19]; rfl) | rfl | (simp only [List.length_drop, List.length_take]; rfl)) ?_
                          with_reducible refine (bookplatelaw05_marks.calls k2 (rd t650 (ji19)) t657 _ A22.out).mono ?_
                          rintro e w' ⟨rfl, ⟨nd, rfl⟩⟩
                          refine ⟨_, rfl, ?_⟩
                          refine hK.out _ _ ⟨hHeld.1, hHeld.2.1, hHeld.2.2⟩ (fun hHeld => ?_)
                          clear hK K
                          refine norm_ (a' := ?_) ?_ ?_
                          rotate_left
                          · show Act.put _ (some 54) _ = _
                            simp only [Act.put, List.setIfInBounds_toArray, List.set_cons_zero, List.set_cons_succ, i64_w, i32_w]
                            rfl
                          refine one_ (i := 17) (N := some 59) #[true, true, true, true, true, true, true, true, true, true, true, true, true, true, true, true, true, true, false, false] rfl rfl (one_of HT_.out (by kernel_rfl)) (by decide) (fun K hK => ?_)
                          refine goes_ Tryd.func51 (by kernel_rfl) rfl #[.int .i64 (rd t650 x9_2)] (by rfl) rfl rfl (by (try simp only [List.map_toArray, List.map_cons, List.map_nil]); first | done | rfl | (simp only [List.length_drop, List.length_take]; rfl)) ?_
                          with_reducible refine (bookplatelaw05_marks.calls k2 (rd t650 x9_2) t659 _ A23.out).mono ?_
                          rintro e w' ⟨rfl, ⟨nd, rfl⟩⟩
                          refine ⟨_, rfl, ?_⟩
                          refine hK.out _ _ ⟨hHeld.1, hHeld.2.1, hHeld.2.2⟩ (fun hHeld => ?_)
                          clear hK K
                          refine norm_ (a' := ?_) ?_ ?_
                          rotate_left
                          · show Act.put _ (some 59) _ = _
                            simp only [Act.put, List.setIfInBounds_toArray, List.set_cons_zero, List.set_cons_succ, i64_w, i32_w]
                            rfl
                          refine pure_ (i := 18) (N := some 60) (v := ?_) (a' := ?_) #[true, true, true, true, true, true, true, true, true, true, true, true, true, true, true, true, true, true, true, false] rfl rfl (any_of HT_.out (by kernel_rfl)) (fun _ _ _ h => h) (Or.inl ⟨by rfl, ?_⟩) ?_ ?_
                          rotate_left
                          · intro w'
                            go_simp
                            with_reducible rfl
                          rotate_left
                          · simp only [Act.put, List.setIfInBounds_toArray, List.set_cons_zero, List.set_cons_succ, i64_w, i32_w]
                            rfl
                          refine pure_ (i := 19) (N := some 61) (v := ?_) (a' := ?_) #[true, true, true, true, true, true, true, true, true, true, true, true, true, true, true, true, true, true, true, true] rfl rfl (any_of HT_.out (by kernel_rfl)) (fun _ _ _ h => h) (Or.inl ⟨by rfl, ?_⟩) ?_ ?_
                          rotate_left
                          · intro w'
                            go_simp
                            with_reducible rfl
                          rotate_left
                          · simp only [Act.put, List.setIfInBounds_toArray, List.set_cons_zero, List.set_cons_succ, i64_w, i32_w]
                            rfl
                          refine done_ (done_of HT_.out (by kernel_rfl)) ?_
                          try go_wp2
                          go_roundg k2
                          case measure => have := HJ5.out; have := HK2.out; omega
                          case rel => exact ⟨(wrap64 (x9_2 + 1)), (by first | rfl | (simp; done) | (simp [*]; done)), H', ⟨by have := HJ5.out; have := HK2.out; omega⟩, ⟨by (with_reducible repeat (first | apply Kd.R_alloc | apply Kd.R_drewN | apply Kd.R_drew)); exact HO_7.out⟩, ⟨by repeat (first | (with_reducible first | exact HB.out | apply below_alloc | apply pw_below_drewN | apply below_drew1) | exact HB.out)⟩⟩
                      · rw [if_neg c21] at H
                        exact absurd H (by simp)
                    · rw [if_neg c20] at H
                      exact absurd H (by simp)
                  · rw [if_neg c18] at H
                    have c18b0 : decide (0 < t655) = false := decide_eq_false c18
                    clear c18
                    have H' := Aside0.mk H
                    clear H
                    obtain ⟨Ao29, co29, eo29⟩ := Kd.R_slice HO_7.out
                    subst eo29
                    try go_wp2
                    have n0_ := Aside0.mk (Kd.R_drew HO_7.out)
                    have n1_ := Aside0.mk (below_drew1 HB.out)
                    clear HO_7
                    clear HB
                    have HO_7 := n0_
                    have HB := n1_
                    clear n0_ n1_
                    have p654 : 0 ≤ (x9_2 : Int) := of_decide_eq_true (by first | (with_reducible assumption) | assumption)
                    have q654 : x9_2 < (t650.length : Int) := of_decide_eq_true (by first | (with_reducible assumption) | assumption)
                    obtain ⟨ad654, e654, hx654_0⟩ := Kd.at_int (Kd.R_reads' HO_7.out).2.2 x9_2 p654 q654
                    cases e654
                    replace p654 := eq_true p654
                    replace q654 := eq_true q654
                    refine start_ (n := 20) (S := fun w' => w'.cell? (ad654.add (x9_2).toNat) = some (.int .i64 (rd t650 x9_2))) (ds := []) #[false, false, false, false, false, false, false, false, false, false, false, false, false, false, false, false, false, false, false, false] (by kernel_rfl) rfl rfl (hx654_0) (fun hHeld => ?_); refine with_tabW bookplatelaw05_NormalOrder.tab10 bookplatelaw05_NormalOrder.bits10 (fun HT_ HW_ => ?_)
                    generalize wr.drew = w30 at HO_7 HB hx654_0 hHeld ⊢
                    refine pure_ (i := 0) (N := some 42) (v := ?_) (a' := ?_) #[true, false, false, false, false, false, false, false, false, false, false, false, false, false, false, false, false, false, false, false] rfl rfl (any_of HT_.out (by kernel_rfl)) (fun _ _ _ h => h) (Or.inl ⟨by rfl, ?_⟩) ?_ ?_
                    rotate_left
                    · intro w'
                      go_simp
                      with_reducible rfl
                    rotate_left
                    · simp only [Act.put, List.setIfInBounds_toArray, List.set_cons_zero, List.set_cons_succ, i64_w, i32_w]
                      rfl
                    refine pure_ (i := 1) (N := some 43) (v := ?_) (a' := ?_) #[true, true, false, false, false, false, false, false, false, false, false, false, false, false, false, false, false, false, false, false] rfl rfl (any_of HT_.out (by kernel_rfl)) (fun _ _ _ h => h) (Or.inl ⟨by rfl, ?_⟩) ?_ ?_
                    rotate_left
                    · intro w'
                      go_simp
                      with_reducible rfl
                    rotate_left
                    · simp only [Act.put, List.setIfInBounds_toArray, List.set_cons_zero, List.set_cons_succ, i64_w, i32_w]
                      rfl
                    refine pure_ (i := 2) (N := some 44) (v := ?_) (a' := ?_) #[true, true, true, false, false, false, false, false, false, false, false, false, false, false, false, false, false, false, false, false] rfl rfl (any_of HT_.out (by kernel_rfl)) (fun _ _ _ h => h) (Or.inl ⟨by rfl, ?_⟩) ?_ ?_
                    rotate_left
                    · intro w'
                      go_simp
                      with_reducible rfl
                    rotate_left
                    · simp only [Act.put, List.setIfInBounds_toArray, List.set_cons_zero, List.set_cons_succ, i64_w, i32_w]
                      rfl
                    refine take_ (i := 3) (N := some 45) (v := ?_) (a' := ?_) #[true, true, true, true, false, false, false, false, false, false, false, false, false, false, false, false, false, false, false, false] rfl rfl (take_ofW HT_.out HW_.out (by kernel_rfl)) (fun _ _ _ h => h) (Or.inl ⟨by rfl, ?_⟩) hHeld ?_ ?_
                    rotate_left
                    · intro w' s0
                      go_simp
                      with_reducible rfl
                    rotate_left
                    · simp only [Act.put, List.setIfInBounds_toArray, List.set_cons_zero, List.set_cons_succ, i64_w, i32_w]
                      rfl
                    refine one_ (i := 4) (N := some 46) #[true, true, true, true, true, false, false, false, false, false, false, false, false, false, false, false, false, false, false, false] rfl rfl (one_of HT_.out (by kernel_rfl)) (by decide) (fun K hK => ?_)
                    refine goes_ Tryd.func51 (by kernel_rfl) rfl #[.int .i64 (rd t650 x9_2)] (by rfl) rfl rfl (by (try simp only [List.map_toArray, List.map_cons, List.map_nil]); first | done | rfl | (simp only [List.length_drop, List.length_take]; rfl)) ?_
                    with_reducible refine (bookplatelaw05_marks.calls k2 (rd t650 x9_2) t655 _ A17.out).mono ?_
                    rintro e w' ⟨rfl, ⟨nd, rfl⟩⟩
                    refine ⟨_, rfl, ?_⟩
                    refine hK.out _ _ (hHeld) (fun hHeld => ?_)
                    clear hK K
                    refine norm_ (a' := ?_) ?_ ?_
                    rotate_left
                    · show Act.put _ (some 46) _ = _
                      simp only [Act.put, List.setIfInBounds_toArray, List.set_cons_zero, List.set_cons_succ, i64_w, i32_w]
                      rfl
                    refine pure_ (i := 5) (N := some 47) (v := ?_) (a' := ?_) #[true, true, true, true, true, true, false, false, false, false, false, false, false, false, false, false, false, false, false, false] rfl rfl (any_of HT_.out (by kernel_rfl)) (fun _ _ _ h => h) (Or.inl ⟨by rfl, ?_⟩) ?_ ?_
                    rotate_left
                    · intro w'
                      go_simp
                      with_reducible rfl
                    rotate_left
                    · simp only [Act.put, List.setIfInBounds_toArray, List.set_cons_zero, List.set_cons_succ, i64_w, i32_w]
                      rfl
                    refine pure_ (i := 6) (N := some 48) (v := ?_) (a' := ?_) #[true, true, true, true, true, true, true, false, false, false, false, false, false, false, false, false, false, false, false, false] rfl rfl (any_of HT_.out (by kernel_rfl)) (fun _ _ _ h => h) (Or.inl ⟨by rfl, ?_⟩) ?_ ?_
                    rotate_left
                    · intro w'
                      go_simp
                      with_reducible rfl
                    rotate_left
                    · simp only [Act.put, List.setIfInBounds_toArray, List.set_cons_zero, List.set_cons_succ, i64_w, i32_w]
                      rfl
                    refine pure_ (i := 7) (N := some 49) (v := undef) (a' := ?_) #[true, true, true, true, true, true, true, true, false, false, false, false, false, false, false, false, false, false, false, false] rfl rfl (any_of HT_.out (by kernel_rfl)) (fun _ _ _ h => h) (Or.inr ⟨by rfl, rfl⟩) ?_ ?_
                    rotate_left
                    · simp only [Act.put, List.setIfInBounds_toArray, List.set_cons_zero, List.set_cons_succ, i64_w, i32_w]
                      rfl
                    refine pure_ (i := 8) (N := some 50) (v := undef) (a' := ?_) #[true, true, true, true, true, true, true, true, true, false, false, false, false, false, false, false, false, false, false, false] rfl rfl (any_of HT_.out (by kernel_rfl)) (fun _ _ _ h => h) (Or.inr ⟨by rfl, rfl⟩) ?_ ?_
                    rotate_left
                    · simp only [Act.put, List.setIfInBounds_toArray, List.set_cons_zero, List.set_cons_succ, i64_w, i32_w]
                      rfl
                    refine pure_ (i := 9) (N := some 51) (v := undef) (a' := ?_) #[true, true, true, true, true, true, true, true, true, true, false, false, false, false, false, false, false, false, false, false] rfl rfl (any_of HT_.out (by kernel_rfl)) (fun _ _ _ h => h) (Or.inr ⟨by rfl, rfl⟩) ?_ ?_
                    rotate_left
                    · simp only [Act.put, List.setIfInBounds_toArray, List.set_cons_zero, List.set_cons_succ, i64_w, i32_w]
                      rfl
                    refine pure_ (i := 10) (N := some 52) (v := undef) (a' := ?_) #[true, true, true, true, true, true, true, true, true, true, true, false, false, false, false, false, false, false, false, false] rfl rfl (any_of HT_.out (by kernel_rfl)) (fun _ _ _ h => h) (Or.inr ⟨by rfl, rfl⟩) ?_ ?_
                    rotate_left
                    · simp only [Act.put, List.setIfInBounds_toArray, List.set_cons_zero, List.set_cons_succ, i64_w, i32_w]
                      rfl
                    refine pure_ (i := 11) (N := some 53) (v := undef) (a' := ?_) #[true, true, true, true, true, true, true, true, true, true, true, true, false, false, false, false, false, false, false, false] rfl rfl (any_of HT_.out (by kernel_rfl)) (fun _ _ _ h => h) (Or.inr ⟨by rfl, rfl⟩) ?_ ?_
                    rotate_left
                    · simp only [Act.put, List.setIfInBounds_toArray, List.set_cons_zero, List.set_cons_succ, i64_w, i32_w]
                      rfl
                    refine pure_ (i := 12) (N := some 54) (v := undef) (a' := ?_) #[true, true, true, true, true, true, true, true, true, true, true, true, true, false, false, false, false, false, false, false] rfl rfl (any_of HT_.out (by kernel_rfl)) (fun _ _ _ h => h) (Or.inr ⟨by rfl, rfl⟩) ?_ ?_
                    rotate_left
                    · simp only [Act.put, List.setIfInBounds_toArray, List.set_cons_zero, List.set_cons_succ, i64_w, i32_w]
                      rfl
                    refine pure_ (i := 13) (N := some 55) (v := undef) (a' := ?_) #[true, true, true, true, true, true, true, true, true, true, true, true, true, true, false, false, false, false, false, false] rfl rfl (any_of HT_.out (by kernel_rfl)) (fun _ _ _ h => h) (Or.inr ⟨by rfl, rfl⟩) ?_ ?_
                    rotate_left
                    · simp only [Act.put, List.setIfInBounds_toArray, List.set_cons_zero, List.set_cons_succ, i64_w, i32_w]
                      rfl
                    refine pure_ (i := 14) (N := some 56) (v := undef) (a' := ?_) #[true, true, true, true, true, true, true, true, true, true, true, true, true, true, true, false, false, false, false, false] rfl rfl (any_of HT_.out (by kernel_rfl)) (fun _ _ _ h => h) (Or.inr ⟨by rfl, rfl⟩) ?_ ?_
                    rotate_left
                    · simp only [Act.put, List.setIfInBounds_toArray, List.set_cons_zero, List.set_cons_succ, i64_w, i32_w]
                      rfl
                    refine pure_ (i := 15) (N := some 57) (v := undef) (a' := ?_) #[true, true, true, true, true, true, true, true, true, true, true, true, true, true, true, true, false, false, false, false] rfl rfl (any_of HT_.out (by kernel_rfl)) (fun _ _ _ h => h) (Or.inr ⟨by rfl, rfl⟩) ?_ ?_
                    rotate_left
                    · simp only [Act.put, List.setIfInBounds_toArray, List.set_cons_zero, List.set_cons_succ, i64_w, i32_w]
                      rfl
                    refine pure_ (i := 16) (N := some 58) (v := undef) (a' := ?_) #[true, true, true, true, true, true, true, true, true, true, true, true, true, true, true, true, true, false, false, false] rfl rfl (any_of HT_.out (by kernel_rfl)) (fun _ _ _ h => h) (Or.inr ⟨by rfl, rfl⟩) ?_ ?_
                    rotate_left
                    · simp only [Act.put, List.setIfInBounds_toArray, List.set_cons_zero, List.set_cons_succ, i64_w, i32_w]
                      rfl
                    refine pure_ (i := 17) (N := some 59) (v := undef) (a' := ?_) #[true, true, true, true, true, true, true, true, true, true, true, true, true, true, true, true, true, true, false, false] rfl rfl (any_of HT_.out (by kernel_rfl)) (fun _ _ _ h => h) (Or.inr ⟨by rfl, rfl⟩) ?_ ?_
                    rotate_left
                    · simp only [Act.put, List.setIfInBounds_toArray, List.set_cons_zero, List.set_cons_succ, i64_w, i32_w]
                      rfl
                    refine pure_ (i := 18) (N := some 60) (v := undef) (a' := ?_) #[true, true, true, true, true, true, true, true, true, true, true, true, true, true, true, true, true, true, true, false] rfl rfl (any_of HT_.out (by kernel_rfl)) (fun _ _ _ h => h) (Or.inr ⟨by rfl, rfl⟩) ?_ ?_
                    rotate_left
                    · simp only [Act.put, List.setIfInBounds_toArray, List.set_cons_zero, List.set_cons_succ, i64_w, i32_w]
                      rfl
                    refine pure_ (i := 19) (N := some 61) (v := ?_) (a' := ?_) #[true, true, true, true, true, true, true, true, true, true, true, true, true, true, true, true, true, true, true, true] rfl rfl (any_of HT_.out (by kernel_rfl)) (fun _ _ _ h => h) (Or.inl ⟨by rfl, ?_⟩) ?_ ?_
                    rotate_left
                    · intro w'
                      go_simp
                      with_reducible rfl
                    rotate_left
                    · simp only [Act.put, List.setIfInBounds_toArray, List.set_cons_zero, List.set_cons_succ, i64_w, i32_w]
                      rfl
                    refine done_ (done_of HT_.out (by kernel_rfl)) ?_
                    try go_wp2
                    go_roundg k2
                    case measure => have := HJ5.out; have := HK2.out; omega
                    case rel => exact ⟨(wrap64 (x9_2 + 1)), (by first | rfl | (simp; done) | (simp [*]; done)), H', ⟨by have := HJ5.out; have := HK2.out; omega⟩, ⟨by (with_reducible repeat (first | apply Kd.R_alloc | apply Kd.R_drewN | apply Kd.R_drew)); exact HO_7.out⟩, ⟨by repeat (first | (with_reducible first | exact HB.out | apply below_alloc | apply pw_below_drewN | apply below_drew1) | exact HB.out)⟩⟩
                · rw [if_neg c16] at H
                  exact absurd H (by simp)
              · rw [if_neg c15] at H
                have c15b0 : decide (x9_2 < (t650.length : Int)) = false := decide_eq_false c15
                clear c15
                by_cases c31 : (l0.length : Int) < 2
                · rw [if_pos c31] at H
                  have c31b0 : decide ((l0.length : Int) < 2) = true := decide_eq_true c31
                  have c31b1 : decide (l0.length < 2) = true := decide_eq_true (by omega)
                  clear c31
                  obtain rfl := Option.some.inj H
                  obtain ⟨Ao32, co32, eo32⟩ := Kd.R_slice HO_7.out
                  subst eo32
                  go_wp2
                  go_ret
                  exact ⟨by first | rfl | (simp [errW_none, errW_some] <;> rfl) | (simp [*, errW_none, errW_some] <;> rfl), by repeat (first | (with_reducible first | exact HB.out | apply below_alloc | apply pw_below_drewN | apply below_drew1) | exact HB.out)⟩
                · rw [if_neg c31] at H
                  have c31b0 : decide ((l0.length : Int) < 2) = false := decide_eq_false c31
                  have c31b1 : decide (l0.length < 2) = false := decide_eq_false (by omega)
                  clear c31
                  by_cases c33 : (wrap64 ((l0.length : Int) - 1)) = 0
                  · rw [if_pos c33] at H
                    exact absurd H (by simp)
                  · rw [if_neg c33] at H
                    have c33b0 : ((wrap64 ((l0.length : Int) - 1)) == 0) = false := beq_eq_false_iff_ne.mpr c33
                    have c33b1 : ((wrap64 ((l0.length : Int) - 1)) != 0) = true := bne_iff_ne.mpr c33
                    obtain ⟨ji34, hji34⟩ : ∃ j_ : Int, (Int.tmod (wrap64 (a1)) (wrap64 ((l0.length : Int) - 1))) = j_ := ⟨_, rfl⟩
                    replace H : (if 0 ≤ (ji34) then (if (ji34) < (l0.length : Int) then ((bookplatelaw05_marks.f k2 (rd l0 (ji34))).bind fun t661 => (if 0 ≤ (wrap64 ((ji34) + 1)) then (if (wrap64 ((ji34) + 1)) < (l0.length : Int) then ((bookplatelaw05_marks.f k2 (rd l0 (wrap64 ((ji34) + 1)))).bind fun t663 => (if t661 = 0 then (bookplatelaw05_NormalOrder.j2 k2 l0 t647 t651 ji34 true) else (if t663 = 0 then (bookplatelaw05_NormalOrder.j2 k2 l0 t647 t651 ji34 true) else (bookplatelaw05_NormalOrder.j2 k2 l0 t647 t651 ji34 (t661 == t663))))) else (none)) else (none))) else (none)) else (none)) = some r := by first | (rw [hji34] at H; exact H) | (simp only [hji34] at H ⊢; exact H)
                    by_cases c35 : 0 ≤ (ji34)
                    · rw [if_pos c35] at H
                      have c35b0 : decide (0 ≤ (ji34)) = true := decide_eq_true c35
                      clear c35
                      by_cases c36 : (ji34) < (l0.length : Int)
                      · rw [if_pos c36] at H
                        have c36b0 : decide ((ji34) < (l0.length : Int)) = true := decide_eq_true c36
                        clear c36
                        replace H := Option.bind_eq_some_iff.mp H
                        obtain ⟨t661, A370, H⟩ := H
                        replace H : (if 0 ≤ (wrap64 ((ji34) + 1)) then (if (wrap64 ((ji34) + 1)) < (l0.length : Int) then ((bookplatelaw05_marks.f k2 (rd l0 (wrap64 ((ji34) + 1)))).bind fun t663 => (if t661 = 0 then (bookplatelaw05_NormalOrder.j2 k2 l0 t647 t651 ji34 true) else (if t663 = 0 then (bookplatelaw05_NormalOrder.j2 k2 l0 t647 t651 ji34 true) else (bookplatelaw05_NormalOrder.j2 k2 l0 t647 t651 ji34 (t661 == t663))))) else (none)) else (none)) = some r := H
                        have A37 := Aside0.mk A370
                        clear A370
                        obtain ⟨ji38, hji38⟩ : ∃ j_ : Int, (wrap64 ((ji34) + 1)) = j_ := ⟨_, rfl⟩
                        replace H : (if 0 ≤ (ji38) then (if (ji38) < (l0.length : Int) then ((bookplatelaw05_marks.f k2 (rd l0 (ji38))).bind fun t663 => (if t661 = 0 then (bookplatelaw05_NormalOrder.j2 k2 l0 t647 t651 ji34 true) else (if t663 = 0 then (bookplatelaw05_NormalOrder.j2 k2 l0 t647 t651 ji34 true) else (bookplatelaw05_NormalOrder.j2 k2 l0 t647 t651 ji34 (t661 == t663))))) else (none)) else (none)) = some r := by first | (rw [hji38] at H; exact H) | (simp only [hji38] at H ⊢; exact H)
                        (try rw [hji38] at A37)
                        have hji38w : (IntKind.i64.wrap ((ji34) + 1)) = ji38 := (i64_w _).trans hji38
                        by_cases c39 : 0 ≤ (ji38)
                        · rw [if_pos c39] at H
                          have c39b0 : decide (0 ≤ (ji38)) = true := decide_eq_true c39
                          clear c39
                          by_cases c40 : (ji38) < (l0.length : Int)
                          · rw [if_pos c40] at H
                            have c40b0 : decide ((ji38) < (l0.length : Int)) = true := decide_eq_true c40
                            clear c40
                            replace H := Option.bind_eq_some_iff.mp H
                            obtain ⟨t663, A410, H⟩ := H
                            replace H : (if t661 = 0 then (bookplatelaw05_NormalOrder.j2 k2 l0 t647 t651 ji34 true) else (if t663 = 0 then (bookplatelaw05_NormalOrder.j2 k2 l0 t647 t651 ji34 true) else (bookplatelaw05_NormalOrder.j2 k2 l0 t647 t651 ji34 (t661 == t663)))) = some r := H
                            have A41 := Aside0.mk A410
                            clear A410
                            have HC42 := Aside0.mk H
                            clear H
                            obtain ⟨Ao43, co43, eo43⟩ := Kd.R_slice HO_7.out
                            subst eo43
                            try go_wp2
                            have n0_ := Aside0.mk (Kd.R_drew HO_7.out)
                            have n1_ := Aside0.mk (below_drew1 HB.out)
                            clear HO_7
                            clear HB
                            have HO_7 := n0_
                            have HB := n1_
                            clear n0_ n1_
                            have p660 : 0 ≤ ((ji34) : Int) := of_decide_eq_true (by first | (with_reducible assumption) | assumption)
                            have q660 : (ji34) < (l0.length : Int) := of_decide_eq_true (by first | (with_reducible assumption) | assumption)
                            obtain ⟨ad660, e660, hx660_0⟩ := Kd.at_int HR0.out (ji34) p660 q660
                            have hw660_0 := hx660_0
                            cases e660
                            replace hx660_0 := (HB.out.cell (World.block_lt_of_cell? w _ hx660_0)).trans hx660_0
                            replace p660 := eq_true p660
                            replace q660 := eq_true q660
                            have p662 : 0 ≤ ((ji38) : Int) := of_decide_eq_true (by first | (with_reducible assumption) | assumption)
                            have q662 : (ji38) < (l0.length : Int) := of_decide_eq_true (by first | (with_reducible assumption) | assumption)
                            obtain ⟨ad662, e662, hx662_0⟩ := Kd.at_int HR0.out (ji38) p662 q662
                            have hw662_0 := hx662_0
                            obtain rfl : ad660 = ad662 := (by injection e662)
                            replace hx662_0 := (HB.out.cell (World.block_lt_of_cell? w _ hx662_0)).trans hx662_0
                            replace p662 := eq_true p662
                            replace q662 := eq_true q662
                            refine start_ (n := 13) (S := fun w' => w'.cell? (ad660.add ((ji34)).toNat) = some (.int .i64 (rd l0 (ji34))) ∧ w'.cell? (ad660.add ((ji38)).toNat) = some (.int .i64 (rd l0 (ji38)))) (ds := []) #[false, false, false, false, false, false, false, false, false, false, false, false, false] (by kernel_rfl) rfl rfl ⟨((HB.out.cell (World.block_lt_of_cell? w _ hw660_0)).trans hw660_0), ((HB.out.cell (World.block_lt_of_cell? w _ hw662_0)).trans hw662_0)⟩ (fun hHeld => ?_); refine with_tabW bookplatelaw05_NormalOrder.tab15 bookplatelaw05_NormalOrder.bits15 (fun HT_ HW_ => ?_)
                            generalize wr.drew = w44 at HO_7 HB hx660_0 hx662_0 hHeld ⊢
                            refine pure_ (i := 0) (N := some 72) (v := ?_) (a' := ?_) #[true, false, false, false, false, false, false, false, false, false, false, false, false] rfl rfl (any_of HT_.out (by kernel_rfl)) (fun _ _ _ h => h) (Or.inl ⟨by rfl, ?_⟩) ?_ ?_
                            rotate_left
                            · intro w'
                              go_simp
                              with_reducible rfl
                            rotate_left
                            · simp only [Act.put, List.setIfInBounds_toArray, List.set_cons_zero, List.set_cons_succ, i64_w, i32_w]
                              rfl
                            refine pure_ (i := 1) (N := some 73) (v := ?_) (a' := ?_) #[true, true, false, false, false, false, false, false, false, false, false, false, false] rfl rfl (any_of HT_.out (by kernel_rfl)) (fun _ _ _ h => h) (Or.inl ⟨by rfl, ?_⟩) ?_ ?_
                            rotate_left
                            · intro w'
                              go_simp
                              with_reducible rfl
                            rotate_left
                            · simp only [Act.put, List.setIfInBounds_toArray, List.set_cons_zero, List.set_cons_succ, i64_w, i32_w]
                              rfl
                            refine pure_ (i := 2) (N := some 74) (v := ?_) (a' := ?_) #[true, true, true, false, false, false, false, false, false, false, false, false, false] rfl rfl (any_of HT_.out (by kernel_rfl)) (fun _ _ _ h => h) (Or.inl ⟨by rfl, ?_⟩) ?_ ?_
                            rotate_left
                            · intro w'
                              go_simp
                              with_reducible rfl
                            rotate_left
                            · simp only [Act.put, List.setIfInBounds_toArray, List.set_cons_zero, List.set_cons_succ, i64_w, i32_w]
                              rfl
                            refine pure_ (i := 5) (N := some 77) (v := ?_) (a' := ?_) #[true, true, true, false, false, true, false, false, false, false, false, false, false] rfl rfl (any_of HT_.out (by kernel_rfl)) (fun _ _ _ h => h) (Or.inl ⟨by rfl, ?_⟩) ?_ ?_
                            rotate_left
                            · intro w'
                              go_simp
                              with_reducible rfl
                            rotate_left
                            · simp only [Act.put, List.setIfInBounds_toArray, List.set_cons_zero, List.set_cons_succ, i64_w, i32_w]
                              rfl
                            refine pure_ (i := 6) (N := some 78) (v := ?_) (a' := ?_) #[true, true, true, false, false, true, true, false, false, false, false, false, false] rfl rfl (any_of HT_.out (by kernel_rfl)) (fun _ _ _ h => h) (Or.inl ⟨by rfl, ?_⟩) ?_ ?_
                            rotate_left
                            · intro w'
                              go_simp
                              with_reducible rfl
                            rotate_left
                            · simp only [Act.put, List.setIfInBounds_toArray, List.set_cons_zero, List.set_cons_succ, i64_w, i32_w]
                              rfl
                            refine pure_ (i := 7) (N := some 79) (v := ?_) (a' := ?_) #[true, true, true, false, false, true, true, true, false, false, false, false, false] rfl rfl (any_of HT_.out (by kernel_rfl)) (fun _ _ _ h => h) (Or.inl ⟨by rfl, ?_⟩) ?_ ?_
                            rotate_left
                            · intro w'
                              go_simp
                              with_reducible rfl
                            rotate_left
                            · simp only [Act.put, List.setIfInBounds_toArray, List.set_cons_zero, List.set_cons_succ, i64_w, i32_w]
                              rfl
                            refine pure_ (i := 8) (N := some 80) (v := ?_) (a' := ?_) #[true, true, true, false, false, true, true, true, true, false, false, false, false] rfl rfl (any_of HT_.out (by kernel_rfl)) (fun _ _ _ h => h) (Or.inl ⟨by rfl, ?_⟩) ?_ ?_
                            rotate_left
                            · intro w'
                              go_simp
                              with_reducible rfl
                            rotate_left
                            · simp only [Act.put, List.setIfInBounds_toArray, List.set_cons_zero, List.set_cons_succ, i64_w, i32_w]
                              rfl
                            refine take_ (i := 3) (N := some 75) (v := ?_) (a' := ?_) #[true, true, true, true, false, true, true, true, true, false, false, false, false] rfl rfl (take_ofW HT_.out HW_.out (by kernel_rfl)) (fun _ _ _ h => h) (Or.inl ⟨by rfl, ?_⟩) hHeld ?_ ?_
                            rotate_left
                            · rintro w' ⟨s0, s1⟩
                              go_simp
                              with_reducible rfl
                            rotate_left
                            · simp only [Act.put, List.setIfInBounds_toArray, List.set_cons_zero, List.set_cons_succ, i64_w, i32_w]
                              rfl
                            refine take_ (i := 9) (N := some 81) (v := ?_) (a' := ?_) #[true, true, true, true, false, true, true, true, true, true, false, false, false] rfl rfl (take_ofW HT_.out HW_.out (by kernel_rfl)) (fun _ _ _ h => h) (Or.inl ⟨by rfl, ?_⟩) hHeld ?_ ?_
                            rotate_left
                            · rintro w' ⟨s0, s1⟩
                              go_simp
                              with_reducible rfl
                            rotate_left
                            · simp only [Act.put, List.setIfInBounds_toArray, List.set_cons_zero, List.set_cons_succ, i64_w, i32_w]
                              rfl
                            refine one_ (i := 4) (N := some 76) #[true, true, true, true, true, true, true, true, true, true, false, false, false] rfl rfl (one_of HT_.out (by kernel_rfl)) (by decide) (fun K hK => ?_)
                            refine goes_ Tryd.func51 (by kernel_rfl) rfl #[.int .i64 (rd l0 (ji34))] (by rfl) rfl rfl (by (try simp only [List.map_toArray, List.map_cons, List.map_nil]); first | done | (simp only [hji34]; rfl) | rfl | (simp only [List.length_drop, List.length_take]; rfl)) ?_
                            with_reducible refine (bookplatelaw05_marks.calls k2 (rd l0 (ji34)) t661 _ A37.out).mono ?_
                            rintro e w' ⟨rfl, ⟨nd, rfl⟩⟩
                            refine ⟨_, rfl, ?_⟩
                            refine hK.out _ _ ⟨((HB.out.cell (World.block_lt_of_cell? w _ hw660_0)).trans hw660_0), ((HB.out.cell (World.block_lt_of_cell? w _ hw662_0)).trans hw662_0)⟩ (fun hHeld => ?_)
                            clear hK K
                            refine norm_ (a' := ?_) ?_ ?_
                            rotate_left
                            · show Act.put _ (some 76) _ = _
                              simp only [Act.put, List.setIfInBounds_toArray, List.set_cons_zero, List.set_cons_succ, i64_w, i32_w]
                              rfl
                            refine one_ (i := 10) (N := some 82) #[true, true, true, true, true, true, true, true, true, true, true, false, false] rfl rfl (one_of HT_.out (by kernel_rfl)) (by decide) (fun K hK => ?_)
                            refine goes_ Tryd.func51 (by kernel_rfl) rfl #[.int .i64 (rd l0 (ji38))] (by rfl) rfl rfl (by (try simp only [List.map_toArray, List.map_cons, List.map_nil]); first | done | (simp only [hji38]; rfl) | rfl | (simp only [List.length_drop, List.length_take]; rfl)) ?_
                            with_reducible refine (bookplatelaw05_marks.calls k2 (rd l0 (ji38)) t663 _ A41.out).mono ?_
                            rintro e w' ⟨rfl, ⟨nd, rfl⟩⟩
                            refine ⟨_, rfl, ?_⟩
                            refine hK.out _ _ ⟨((HB.out.cell (World.block_lt_of_cell? w _ hw660_0)).trans hw660_0), ((HB.out.cell (World.block_lt_of_cell? w _ hw662_0)).trans hw662_0)⟩ (fun hHeld => ?_)
                            clear hK K
                            refine norm_ (a' := ?_) ?_ ?_
                            rotate_left
                            · show Act.put _ (some 82) _ = _
                              simp only [Act.put, List.setIfInBounds_toArray, List.set_cons_zero, List.set_cons_succ, i64_w, i32_w]
                              rfl
                            refine pure_ (i := 11) (N := some 11) (v := ?_) (a' := ?_) #[true, true, true, true, true, true, true, true, true, true, true, true, false] rfl rfl (any_of HT_.out (by kernel_rfl)) (fun _ _ _ h => h) (Or.inl ⟨by rfl, ?_⟩) ?_ ?_
                            rotate_left
                            · intro w'
                              go_simp
                              with_reducible rfl
                            rotate_left
                            · simp only [Act.put, List.setIfInBounds_toArray, List.set_cons_zero, List.set_cons_succ, i64_w, i32_w]
                              rfl
                            refine pure_ (i := 12) (N := some 12) (v := ?_) (a' := ?_) #[true, true, true, true, true, true, true, true, true, true, true, true, true] rfl rfl (any_of HT_.out (by kernel_rfl)) (fun _ _ _ h => h) (Or.inl ⟨by rfl, ?_⟩) ?_ ?_
                            rotate_left
                            · intro w'
                              go_simp
                              with_reducible rfl
                            rotate_left
                            · simp only [Act.put, List.setIfInBounds_toArray, List.set_cons_zero, List.set_cons_succ, i64_w, i32_w]
                              rfl
                            refine done_ (done_of HT_.out (by kernel_rfl)) ?_
                            go_upto_region 16 with (fail)
                            go_cut [93] (fun v93 wc => ∃ (kq : Nat) (x93_41 : Bool), v93 = .bool x93_41 ∧ Aside0 (bookplatelaw05_NormalOrder.j2 kq l0 t647 t651 ji34 x93_41 = some r) ∧ Aside0 (kq ≤ k2) ∧ Aside0 (Below w.heap.size w wc))
                            case first =>
                              have H := HC42.out
                              clear HC42
                              by_cases c45 : t661 = 0
                              · rw [if_pos c45] at H
                                have c45b0 : (t661 == 0) = true := beq_iff_eq.mpr c45
                                have c45b1 : (t661 != 0) = false := bne_eq_false_iff_eq.mpr c45
                                clear c45
                                (first | rw [c45b0] | (simp only [i64_w, i32_w]; rw [c45b0]) | skip)
                                have H' := Aside0.mk H
                                clear H
                                go_wp2
                                go_meet
                                case rel => exact ⟨_, (true), (by first | rfl | (simp; done) | (simp [*]; done)), H', ⟨by have := HJ5.out; have := HK2.out; first | omega | exact Nat.le_refl _⟩, ⟨by repeat (first | (with_reducible first | exact HB.out | apply below_alloc | apply pw_below_drewN | apply below_drew1) | exact HB.out)⟩⟩
                              · rw [if_neg c45] at H
                                have c45b0 : (t661 == 0) = false := beq_eq_false_iff_ne.mpr c45
                                have c45b1 : (t661 != 0) = true := bne_iff_ne.mpr c45
                                (first | rw [c45b0] | (simp only [i64_w, i32_w]; rw [c45b0]) | skip)
                                by_cases c46 : t663 = 0
                                · rw [if_pos c46] at H
                                  have c46b0 : (t663 == 0) = true := beq_iff_eq.mpr c46
                                  have c46b1 : (t663 != 0) = false := bne_eq_false_iff_eq.mpr c46
                                  clear c46
                                  have H' := Aside0.mk H
                                  clear H
                                  go_wp2
                                  go_meet
                                  case rel => exact ⟨_, (true), (by first | rfl | (simp; done) | (simp [*]; done)), H', ⟨by have := HJ5.out; have := HK2.out; first | omega | exact Nat.le_refl _⟩, ⟨by repeat (first | (with_reducible first | exact HB.out | apply below_alloc | apply pw_below_drewN | apply below_drew1) | exact HB.out)⟩⟩
                                · rw [if_neg c46] at H
                                  have c46b0 : (t663 == 0) = false := beq_eq_false_iff_ne.mpr c46
                                  have c46b1 : (t663 != 0) = true := bne_iff_ne.mpr c46
                                  have H' := Aside0.mk H
                                  clear H
                                  go_wp2
                                  go_meet
                                  case rel => exact ⟨_, ((t661 == t663)), (by first | rfl | (simp; done) | (simp [*]; done)), H', ⟨by have := HJ5.out; have := HK2.out; first | omega | exact Nat.le_refl _⟩, ⟨by repeat (first | (with_reducible first | exact HB.out | apply below_alloc | apply pw_below_drewN | apply below_drew1) | exact HB.out)⟩⟩
                            case rest =>
                              clear HC42
                              try clear c1
                              try clear c2
                              try clear p2
                              try clear c3
                              try clear c4
                              try clear c5
                              try clear p6
                              try clear q6
                              try clear hx6
                              try clear c15
                              try clear c15b0
                              try clear c16
                              try clear c18
                              try clear c18b0
                              try clear c20
                              try clear c21
                              try clear c24
                              try clear c24b0
                              try clear c31
                              try clear c31b0
                              try clear c31b1
                              try clear c33
                              try clear c33b0
                              try clear c33b1
                              try clear c35
                              try clear c35b0
                              try clear c36
                              try clear c36b0
                              try clear c39
                              try clear c39b0
                              try clear c40
                              try clear c40b0
                              try clear c45
                              try clear c45b0
                              try clear c45b1
                              try clear c46
                              try clear c46b0
                              try clear c46b1
                              try clear hx654_0
                              try clear hx656_0
                              try clear hx658_0
                              try clear hx660_0
                              try clear hx662_0
                              try clear p654
                              try clear p656
                              try clear p658
                              try clear p660
                              try clear p662
                              try clear q654
                              try clear q656
                              try clear q658
                              try clear q660
                              try clear q662
                              obtain ⟨kq, x93_41, rfl, HA, HJ41, HB⟩ := hcut
                              cases kq with
                              | zero => exact absurd HA.out (by simp [bookplatelaw05_NormalOrder.j2])
                              | succ kj41 =>
                                have H := HA.out
                                clear HA
                                simp only [bookplatelaw05_NormalOrder.j2] at H
                                by_cases c47 : x93_41 = true
                                · subst c47
                                  have H1 : (some t651) = some r := by rw [if_pos rfl] at H; exact H
                                  clear H
                                  have H := H1
                                  clear H1
                                  obtain rfl := Option.some.inj H
                                  go_wp2
                                  go_ret
                                  exact ⟨by first | rfl | (simp [errW_none, errW_some] <;> rfl) | (simp only [← hji34, ← hji38]; first | rfl | (simp [errW_none, errW_some] <;> rfl)) | (simp [*, errW_none, errW_some] <;> rfl), by repeat (first | (with_reducible first | exact HB.out | apply below_alloc | apply pw_below_drewN | apply below_drew1) | exact HB.out)⟩
                                · replace c47 := Bool.eq_false_iff.mpr c47
                                  subst c47
                                  have H1 : ((some (([] : List Int) : List Int)).bind fun y664 => (if y664.length + l0.length < 17592186044416 then ((some (y664 ++ l0 : List Int)).bind fun y667 => (if 0 ≤ (wrap64 (ji34 + 1)) then (if (wrap64 (ji34 + 1)) < (y667.length : Int) then (if 0 ≤ ji34 then (if ji34 < (y667.length : Int) then ((bookplateref04_Encode.f kj41 ((y667.set (ji34 : Int).toNat (rd y667 (wrap64 (ji34 + 1)))).set ((wrap64 (ji34 + 1)) : Int).toNat (rd y667 ji34))).bind fun bt674 => (if t651 = true then ((normal_Equal.f kj41 t647 bt674.1).bind fun t676 => (some t676)) else (some false))) else (none)) else (none)) else (none)) else (none))) else (none))) = some r := by rw [if_neg (show ¬ (false = true) by decide)] at H; exact H
                                  clear H
                                  have H := H1
                                  clear H1
                                  obtain ⟨y664, hy664⟩ : ∃ y_ : List Int, y_ = (([] : List Int)) := ⟨_, rfl⟩
                                  replace H : (if y664.length + l0.length < 17592186044416 then ((some (y664 ++ l0 : List Int)).bind fun y667 => (if 0 ≤ (wrap64 (ji34 + 1)) then (if (wrap64 (ji34 + 1)) < (y667.length : Int) then (if 0 ≤ ji34 then (if ji34 < (y667.length : Int) then ((bookplateref04_Encode.f kj41 ((y667.set (ji34 : Int).toNat (rd y667 (wrap64 (ji34 + 1)))).set ((wrap64 (ji34 + 1)) : Int).toNat (rd y667 ji34))).bind fun bt674 => (if t651 = true then ((normal_Equal.f kj41 t647 bt674.1).bind fun t676 => (some t676)) else (some false))) else (none)) else (none)) else (none)) else (none))) else (none)) = some r := by first | (rw [hy664]; with_reducible exact H) | (have H2_ := (Option.bind_some _ _).symm.trans H; rw [hy664]; with_reducible exact H2_) | (have H2_ := (Option.bind_some _ _).symm.trans H; with_reducible exact H2_) | with_reducible exact H | (rw [hy664]; exact H) | exact H
                                  have Ny664 := Aside0.mk hy664
                                  clear hy664
                                  by_cases c48 : y664.length + l0.length < 17592186044416
                                  · rw [if_pos c48] at H
                                    have LMc48 := Aside0.mk c48
                                    clear c48
                                    obtain ⟨y667, hy667⟩ : ∃ y_ : List Int, y_ = (y664 ++ l0) := ⟨_, rfl⟩
                                    replace H : (if 0 ≤ (wrap64 (ji34 + 1)) then (if (wrap64 (ji34 + 1)) < (y667.length : Int) then (if 0 ≤ ji34 then (if ji34 < (y667.length : Int) then ((bookplateref04_Encode.f kj41 ((y667.set (ji34 : Int).toNat (rd y667 (wrap64 (ji34 + 1)))).set ((wrap64 (ji34 + 1)) : Int).toNat (rd y667 ji34))).bind fun bt674 => (if t651 = true then ((normal_Equal.f kj41 t647 bt674.1).bind fun t676 => (some t676)) else (some false))) else (none)) else (none)) else (none)) else (none)) = some r := by first | (rw [hy667]; with_reducible exact H) | (have H2_ := (Option.bind_some _ _).symm.trans H; rw [hy667]; with_reducible exact H2_) | (have H2_ := (Option.bind_some _ _).symm.trans H; with_reducible exact H2_) | with_reducible exact H | (rw [hy667]; exact H) | exact H
                                    have Ny667 := Aside0.mk hy667
                                    clear hy667
                                    obtain ⟨ji49, hji49⟩ : ∃ j_ : Int, (wrap64 (ji34 + 1)) = j_ := ⟨_, rfl⟩
                                    replace H : (if 0 ≤ (ji49) then (if (ji49) < (y667.length : Int) then (if 0 ≤ ji34 then (if ji34 < (y667.length : Int) then ((bookplateref04_Encode.f kj41 ((y667.set (ji34 : Int).toNat (rd y667 (ji49))).set ((ji49) : Int).toNat (rd y667 ji34))).bind fun bt674 => (if t651 = true then ((normal_Equal.f kj41 t647 bt674.1).bind fun t676 => (some t676)) else (some false))) else (none)) else (none)) else (none)) else (none)) = some r := by first | (rw [hji49] at H; exact H) | (simp only [hji49] at H ⊢; exact H)
                                    have hji49w : (IntKind.i64.wrap (ji34 + 1)) = ji49 := (i64_w _).trans hji49
                                    have hj4938 : ji49 = ji38 := hji49.symm.trans hji38
                                    subst hj4938
                                    by_cases c50 : 0 ≤ (ji49)
                                    · rw [if_pos c50] at H
                                      have c50b0 : decide (0 ≤ (ji49)) = true := decide_eq_true c50
                                      clear c50
                                      by_cases c51 : (ji49) < (y667.length : Int)
                                      · rw [if_pos c51] at H
                                        have c51b0 : decide ((ji49) < (y667.length : Int)) = true := decide_eq_true c51
                                        clear c51
                                        by_cases c52 : 0 ≤ ji34
                                        · rw [if_pos c52] at H
                                          have c52b0 : decide (0 ≤ ji34) = true := decide_eq_true c52
                                          clear c52
                                          by_cases c53 : ji34 < (y667.length : Int)
                                          · rw [if_pos c53] at H
                                            have c53b0 : decide (ji34 < (y667.length : Int)) = true := decide_eq_true c53
                                            clear c53
                                            obtain ⟨y672, hy672⟩ : ∃ y_ : List Int, y_ = (y667.set (ji34 : Int).toNat (rd y667 (ji49))) := ⟨_, rfl⟩
                                            replace H : ((bookplateref04_Encode.f kj41 (y672.set ((ji49) : Int).toNat (rd y667 ji34))).bind fun bt674 => (if t651 = true then ((normal_Equal.f kj41 t647 bt674.1).bind fun t676 => (some t676)) else (some false))) = some r := by first | (rw [hy672]; with_reducible exact H) | (have H2_ := (Option.bind_some _ _).symm.trans H; rw [hy672]; with_reducible exact H2_) | (have H2_ := (Option.bind_some _ _).symm.trans H; with_reducible exact H2_) | with_reducible exact H | (rw [hy672]; exact H) | exact H
                                            have Ny672 := Aside0.mk hy672
                                            clear hy672
                                            obtain ⟨y673, hy673⟩ : ∃ y_ : List Int, y_ = (y672.set ((ji49) : Int).toNat (rd y667 ji34)) := ⟨_, rfl⟩
                                            replace H : ((bookplateref04_Encode.f kj41 y673).bind fun bt674 => (if t651 = true then ((normal_Equal.f kj41 t647 bt674.1).bind fun t676 => (some t676)) else (some false))) = some r := by first | (rw [hy673]; with_reducible exact H) | (have H2_ := (Option.bind_some _ _).symm.trans H; rw [hy673]; with_reducible exact H2_) | (have H2_ := (Option.bind_some _ _).symm.trans H; with_reducible exact H2_) | with_reducible exact H | (rw [hy673]; exact H) | exact H
                                            have Ny673 := Aside0.mk hy673
                                            clear hy673
                                            replace H := Option.bind_eq_some_iff.mp H
                                            obtain ⟨⟨t674, t675⟩, A560, H⟩ := H
                                            replace H : (if t651 = true then ((normal_Equal.f kj41 t647 t674).bind fun t676 => (some t676)) else (some false)) = some r := H
                                            have A56 := Aside0.mk A560
                                            clear A560
                                            by_cases c57 : t651 = true
                                            · subst c57
                                              have H1 : ((normal_Equal.f kj41 t647 t674).bind fun t676 => (some t676)) = some r := by rw [if_pos rfl] at H; exact H
                                              clear H
                                              have H := H1
                                              clear H1
                                              replace H := Option.bind_eq_some_iff.mp H
                                              obtain ⟨t676, A580, H⟩ := H
                                              replace H : (some t676) = some r := H
                                              have A58 := Aside0.mk A580
                                              clear A580
                                              obtain rfl := Option.some.inj H
                                              try go_wp2_with (first | ((with_reducible refine gate_dst (N := 95) rfl ?_); (try (refine gate_guard (by rfl) ?_; dsimp only)); refine Kd.R_lit (Kd.int .i64) _ 3 ?hg (N := 95) ?hd (xs := ([] : List Int)) (inner := []) (ok := fun _ => True) (okp := fun _ => True) ?hr ?hp (fun _ hk => hk) trivial (Below.refl _ _) (Nat.le_refl _) (by simp) ?_; (case hd => rfl); (case hg => rfl); (case hr => first | (go_simp; done) | (go_simp; rfl)); (case hp => exact (Reps.none _ _)); intro v665 w59 ho60 hb hg_ hnew_; clear hg_ hnew_; (first | rw [← Ny664.out] at ho60 | (simp only [Int.reduceToNat] at ho60; rw [← Ny664.out] at ho60)); have n0_ := Aside0.mk (Kd.R_lower ho60 (below_size (by repeat (first | (with_reducible first | exact HB.out | apply below_alloc | apply pw_below_drewN | apply below_drew1) | exact HB.out)))); have n1_ := Aside0.mk (below_step (by repeat (first | (with_reducible first | exact HB.out | apply below_alloc | apply pw_below_drewN | apply below_drew1) | exact HB.out)) hb); clear HB; have HO666 := n0_; have HB := n1_; clear n0_ n1_; clear hb ho60) | ((with_reducible refine gate_builtin (b := .append) (xs := #[.tmp 95, .tmp 96]) rfl ?_); (try (refine gate_guard (by rfl) ?_; dsimp only)); at_builtin; refine Kd.R_append_rows (Kd.int .i64) (w0 := w) w.heap.size rfl (.tmp 95) (.tmp 96) 35 3 (.int .i64 0) 8 rfl Tryd.underlying35 info3 rfl (by decide) (by omega) v665 y664 l0 _ _ _ (fun _ => True) (fun _ => False) rfl rfl ?aO ?aR (fun _ _ h => h) (fun _ h => h.elim) ?aF ?aB ?aS ?aL ?_; (case aR => repeat (first | exact (Kd.C_below HR0.out HB.out) | (with_reducible refine Kd.C_alloc ?_ _) | (with_reducible refine Kd.C_drewN ?_ _) | (with_reducible refine Kd.C_drew ?_))); (case aB => exact (by repeat (first | (with_reducible first | exact HB.out | apply below_alloc | apply pw_below_drewN | apply below_drew1) | exact HB.out))); (case aF => exact (fun _ _ => trivial)); (case aO => exact (by (with_reducible repeat (first | apply Kd.R_alloc | apply Kd.R_drewN | apply Kd.R_drew)); exact HO666.out)); (case aS => exact (below_size (by repeat (first | (with_reducible first | exact HB.out | apply below_alloc | apply pw_below_drewN | apply below_drew1) | exact HB.out)))); (case aL => have := LMc48.out; omega); intro v668 w61 ho hb hg hat; rw [← Ny667.out] at ho; have n0_ := Aside0.mk (hb); have n1_ := Aside0.mk (ho); clear HB; clear HO666; have HB := n0_; have HO669 := n1_; clear n0_ n1_; clear ho hb hg hat))
                                              have n0_ := Aside0.mk (Kd.R_drew HO669.out)
                                              have n1_ := Aside0.mk (below_drew1 HB.out)
                                              clear HO669
                                              clear HB
                                              have HO669 := n0_
                                              have HB := n1_
                                              clear n0_ n1_
                                              obtain ⟨Ao63, co63, eo63⟩ := Kd.R_slice HO669.out
                                              (first | subst eo63 | (injection eo63 with f1_ f2_ f3_; have f4_ := f1_.symm; have f5_ := f3_.symm; clear f1_ f2_ f3_; subst f4_; subst f5_))
                                              have p670 : 0 ≤ ((ji49) : Int) := of_decide_eq_true (by first | (with_reducible assumption) | assumption)
                                              have q670 : (ji49) < (y667.length : Int) := of_decide_eq_true (by first | (with_reducible assumption) | assumption)
                                              obtain ⟨ad670, e670, hx670_0⟩ := Kd.at_int (Kd.R_reads' HO669.out).2.2 (ji49) p670 q670
                                              cases e670
                                              replace p670 := eq_true p670
                                              replace q670 := eq_true q670
                                              have p671 : 0 ≤ (ji34 : Int) := of_decide_eq_true (by first | (with_reducible assumption) | assumption)
                                              have q671 : ji34 < (y667.length : Int) := of_decide_eq_true (by first | (with_reducible assumption) | assumption)
                                              obtain ⟨ad671, e671, hx671_0⟩ := Kd.at_int (Kd.R_reads' HO669.out).2.2 ji34 p671 q671
                                              obtain rfl : ad670 = ad671 := (by injection e671)
                                              replace p671 := eq_true p671
                                              replace q671 := eq_true q671
                                              have p54 : 0 ≤ (ji34 : Int) := of_decide_eq_true (by first | (with_reducible assumption) | assumption)
                                              have q54 : (ji34 : Int) < ((y667.length : Int) : Int) := of_decide_eq_true (by first | (with_reducible assumption) | assumption)
                                              obtain ⟨go54, co54, eo54, gb54, gl54, cl54, HG54⟩ := Kd.R_form HO669.out (by omega)
                                              (first | cases eo54 | (injection eo54 with ea_ en_ ec_; (first | subst ea_ | (injection ea_ with ea_; subst ea_)); subst ec_; clear en_))
                                              have GB54 := Aside0.mk gb54
                                              have GG54 := Aside0.mk HG54
                                              clear gb54 gl54 HG54
                                              (first | simp only [add_plain] at hx670_0 | skip)
                                              (first | simp only [add_plain] at hx671_0 | skip)
                                              obtain ⟨hx54_0, hf54_0⟩ := Kd.R_celln 0 HO669.out (ji34 : Int) p54 q54
                                              replace p54 := eq_true p54
                                              replace q54 := eq_true q54
                                              have HP64 := Kd.R_putn HO669.out (ji34 : Int) (rd y667 (ji49))
                                              rw [← Ny672.out] at HP64
                                              have HQ64 := Aside0.mk HP64
                                              clear HP64
                                              have p55 : 0 ≤ ((ji49) : Int) := of_decide_eq_true (by first | (with_reducible assumption) | assumption)
                                              have q55 : ((ji49) : Int) < ((y667.length : Int) : Int) := of_decide_eq_true (by first | (with_reducible assumption) | assumption)
                                              obtain ⟨hx55_0, hf55_0⟩ := Kd.R_celln 0 HQ64.out ((ji49) : Int) p55 q55
                                              replace p55 := eq_true p55
                                              replace q55 := eq_true q55
                                              have HP65 := Kd.R_putn HQ64.out ((ji49) : Int) (rd y667 ji34)
                                              rw [← Ny673.out] at HP65
                                              have HQ65 := Aside0.mk HP65
                                              clear HP65
                                              refine start_ (n := 18) (S := fun w' => w'.cell? ⟨go54, ((ji49)).toNat, none⟩ = some (.int .i64 (rd y667 (ji49))) ∧ w'.cell? ⟨go54, (ji34).toNat, none⟩ = some (.int .i64 (rd y667 ji34))) (ds := [15, 17]) #[false, false, false, false, false, false, false, false, false, false, false, false, false, false, false, false, false, false] (by kernel_rfl) rfl rfl ⟨hx670_0, hx671_0⟩ (fun hHeld => ?_); refine with_tabW bookplatelaw05_NormalOrder.tab19 bookplatelaw05_NormalOrder.bits19 (fun HT_ HW_ => ?_)
                                              generalize w61.drew = w62 at HO669 HB GG54 HQ64 HQ65 hf54_0 hf55_0 hx54_0 hx55_0 hx670_0 hx671_0 hHeld ⊢
                                              refine pure_ (i := 0) (N := some 98) (v := ?_) (a' := ?_) #[true, false, false, false, false, false, false, false, false, false, false, false, false, false, false, false, false, false] rfl rfl (any_of HT_.out (by kernel_rfl)) (fun _ _ _ h => h) (Or.inl ⟨by rfl, ?_⟩) ?_ ?_
                                              rotate_left
                                              · intro w'
                                                go_simp
                                                with_reducible rfl
                                              rotate_left
                                              · simp only [Act.put, List.setIfInBounds_toArray, List.set_cons_zero, List.set_cons_succ, i64_w, i32_w]
                                                rfl
                                              refine pure_ (i := 1) (N := some 99) (v := ?_) (a' := ?_) #[true, true, false, false, false, false, false, false, false, false, false, false, false, false, false, false, false, false] rfl rfl (any_of HT_.out (by kernel_rfl)) (fun _ _ _ h => h) (Or.inl ⟨by rfl, ?_⟩) ?_ ?_
                                              rotate_left
                                              · intro w'
                                                go_simp
                                                with_reducible rfl
                                              rotate_left
                                              · simp only [Act.put, List.setIfInBounds_toArray, List.set_cons_zero, List.set_cons_succ, i64_w, i32_w]
                                                rfl
                                              refine pure_ (i := 2) (N := some 100) (v := ?_) (a' := ?_) #[true, true, true, false, false, false, false, false, false, false, false, false, false, false, false, false, false, false] rfl rfl (any_of HT_.out (by kernel_rfl)) (fun _ _ _ h => h) (Or.inl ⟨by rfl, ?_⟩) ?_ ?_
                                              rotate_left
                                              · intro w'
                                                go_simp
                                                with_reducible rfl
                                              rotate_left
                                              · simp only [Act.put, List.setIfInBounds_toArray, List.set_cons_zero, List.set_cons_succ, i64_w, i32_w]
                                                rfl
                                              refine pure_ (i := 3) (N := some 101) (v := ?_) (a' := ?_) #[true, true, true, true, false, false, false, false, false, false, false, false, false, false, false, false, false, false] rfl rfl (any_of HT_.out (by kernel_rfl)) (fun _ _ _ h => h) (Or.inl ⟨by rfl, ?_⟩) ?_ ?_
                                              rotate_left
                                              · intro w'
                                                go_simp
                                                with_reducible rfl
                                              rotate_left
                                              · simp only [Act.put, List.setIfInBounds_toArray, List.set_cons_zero, List.set_cons_succ, i64_w, i32_w]
                                                rfl
                                              refine pure_ (i := 4) (N := some 102) (v := ?_) (a' := ?_) #[true, true, true, true, true, false, false, false, false, false, false, false, false, false, false, false, false, false] rfl rfl (any_of HT_.out (by kernel_rfl)) (fun _ _ _ h => h) (Or.inl ⟨by rfl, ?_⟩) ?_ ?_
                                              rotate_left
                                              · intro w'
                                                go_simp
                                                with_reducible rfl
                                              rotate_left
                                              · simp only [Act.put, List.setIfInBounds_toArray, List.set_cons_zero, List.set_cons_succ, i64_w, i32_w]
                                                rfl
                                              refine pure_ (i := 5) (N := some 103) (v := ?_) (a' := ?_) #[true, true, true, true, true, true, false, false, false, false, false, false, false, false, false, false, false, false] rfl rfl (any_of HT_.out (by kernel_rfl)) (fun _ _ _ h => h) (Or.inl ⟨by rfl, ?_⟩) ?_ ?_
                                              rotate_left
                                              · intro w'
                                                go_simp
                                                with_reducible rfl
                                              rotate_left
                                              · simp only [Act.put, List.setIfInBounds_toArray, List.set_cons_zero, List.set_cons_succ, i64_w, i32_w]
                                                rfl
                                              refine pure_ (i := 6) (N := some 104) (v := ?_) (a' := ?_) #[true, true, true, true, true, true, true, false, false, false, false, false, false, false, false, false, false, false] rfl rfl (any_of HT_.out (by kernel_rfl)) (fun _ _ _ h => h) (Or.inl ⟨by rfl, ?_⟩) ?_ ?_
                                              rotate_left
                                              · intro w'
                                                go_simp
                                                with_reducible rfl
                                              rotate_left
                                              · simp only [Act.put, List.setIfInBounds_toArray, List.set_cons_zero, List.set_cons_succ, i64_w, i32_w]
                                                rfl
                                              refine pure_ (i := 7) (N := some 105) (v := ?_) (a' := ?_) #[true, true, true, true, true, true, true, true, false, false, false, false, false, false, false, false, false, false] rfl rfl (any_of HT_.out (by kernel_rfl)) (fun _ _ _ h => h) (Or.inl ⟨by rfl, ?_⟩) ?_ ?_
                                              rotate_left
                                              · intro w'
                                                go_simp
                                                with_reducible rfl
                                              rotate_left
                                              · simp only [Act.put, List.setIfInBounds_toArray, List.set_cons_zero, List.set_cons_succ, i64_w, i32_w]
                                                rfl
                                              refine pure_ (i := 8) (N := some 106) (v := ?_) (a' := ?_) #[true, true, true, true, true, true, true, true, true, false, false, false, false, false, false, false, false, false] rfl rfl (any_of HT_.out (by kernel_rfl)) (fun _ _ _ h => h) (Or.inl ⟨by rfl, ?_⟩) ?_ ?_
                                              rotate_left
                                              · intro w'
                                                go_simp
                                                with_reducible rfl
                                              rotate_left
                                              · simp only [Act.put, List.setIfInBounds_toArray, List.set_cons_zero, List.set_cons_succ, i64_w, i32_w]
                                                rfl
                                              refine pure_ (i := 10) (N := some 108) (v := ?_) (a' := ?_) #[true, true, true, true, true, true, true, true, true, false, true, false, false, false, false, false, false, false] rfl rfl (any_of HT_.out (by kernel_rfl)) (fun _ _ _ h => h) (Or.inl ⟨by rfl, ?_⟩) ?_ ?_
                                              rotate_left
                                              · intro w'
                                                go_simp
                                                with_reducible rfl
                                              rotate_left
                                              · simp only [Act.put, List.setIfInBounds_toArray, List.set_cons_zero, List.set_cons_succ, i64_w, i32_w]
                                                rfl
                                              refine pure_ (i := 11) (N := some 109) (v := ?_) (a' := ?_) #[true, true, true, true, true, true, true, true, true, false, true, true, false, false, false, false, false, false] rfl rfl (any_of HT_.out (by kernel_rfl)) (fun _ _ _ h => h) (Or.inl ⟨by rfl, ?_⟩) ?_ ?_
                                              rotate_left
                                              · intro w'
                                                go_simp
                                                with_reducible rfl
                                              rotate_left
                                              · simp only [Act.put, List.setIfInBounds_toArray, List.set_cons_zero, List.set_cons_succ, i64_w, i32_w]
                                                rfl
                                              refine pure_ (i := 12) (N := some 110) (v := ?_) (a' := ?_) #[true, true, true, true, true, true, true, true, true, false, true, true, true, false, false, false, false, false] rfl rfl (any_of HT_.out (by kernel_rfl)) (fun _ _ _ h => h) (Or.inl ⟨by rfl, ?_⟩) ?_ ?_
                                              rotate_left
                                              · intro w'
                                                go_simp
                                                with_reducible rfl
                                              rotate_left
                                              · simp only [Act.put, List.setIfInBounds_toArray, List.set_cons_zero, List.set_cons_succ, i64_w, i32_w]
                                                rfl
                                              refine take_ (i := 9) (N := some 107) (v := ?_) (a' := ?_) #[true, true, true, true, true, true, true, true, true, true, true, true, true, false, false, false, false, false] rfl rfl (take_ofW HT_.out HW_.out (by kernel_rfl)) (fun _ _ _ h => h) (Or.inl ⟨by rfl, ?_⟩) hHeld ?_ ?_
                                              rotate_left
                                              · rintro w' ⟨s0, s1⟩
                                                go_simp
                                                with_reducible rfl
                                              rotate_left
                                              · simp only [Act.put, List.setIfInBounds_toArray, List.set_cons_zero, List.set_cons_succ, i64_w, i32_w]
                                                rfl
                                              refine take_ (i := 13) (N := some 111) (v := ?_) (a' := ?_) #[true, true, true, true, true, true, true, true, true, true, true, true, true, true, false, false, false, false] rfl rfl (take_ofW HT_.out HW_.out (by kernel_rfl)) (fun _ _ _ h => h) (Or.inl ⟨by rfl, ?_⟩) hHeld ?_ ?_
                                              rotate_left
                                              · rintro w' ⟨s0, s1⟩
                                                go_simp
                                                with_reducible rfl
                                              rotate_left
                                              · simp only [Act.put, List.setIfInBounds_toArray, List.set_cons_zero, List.set_cons_succ, i64_w, i32_w]
                                                rfl
                                              refine pure_ (i := 14) (N := some 112) (v := ?_) (a' := ?_) #[true, true, true, true, true, true, true, true, true, true, true, true, true, true, true, false, false, false] rfl rfl (any_of HT_.out (by kernel_rfl)) (fun _ _ _ h => h) (Or.inl ⟨by rfl, ?_⟩) ?_ ?_
                                              rotate_left
                                              · intro w'
                                                go_simp
                                                with_reducible rfl
                                              rotate_left
                                              · simp only [Act.put, List.setIfInBounds_toArray, List.set_cons_zero, List.set_cons_succ, i64_w, i32_w]
                                                rfl
                                              refine last_ (i := 15) (N := none) #[true, true, true, true, true, true, true, true, true, true, true, true, true, true, true, true, false, false] rfl rfl (one_of HT_.out (by kernel_rfl)) (by decide) (fun K hK => ?_)
                                              refine skip_ (w1 := ?_) (by rfl) rfl ?_ ?_
                                              rotate_left
                                              · go_simp
                                                rfl
                                              refine hK.out _ _ ?_
                                              clear hK K
                                              refine pure_ (i := 16) (N := some 113) (v := ?_) (a' := ?_) #[true, true, true, true, true, true, true, true, true, true, true, true, true, true, true, true, true, false] rfl rfl (any_of HT_.out (by kernel_rfl)) (fun _ _ _ h => h) (Or.inl ⟨by rfl, ?_⟩) ?_ ?_
                                              rotate_left
                                              · intro w'
                                                go_simp
                                                with_reducible rfl
                                              rotate_left
                                              · simp only [Act.put, List.setIfInBounds_toArray, List.set_cons_zero, List.set_cons_succ, i64_w, i32_w]
                                                rfl
                                              refine last_ (i := 17) (N := none) #[true, true, true, true, true, true, true, true, true, true, true, true, true, true, true, true, true, true] rfl rfl (one_of HT_.out (by kernel_rfl)) (by decide) (fun K hK => ?_)
                                              refine skip_ (w1 := ?_) (by rfl) rfl ?_ ?_
                                              rotate_left
                                              · go_simp
                                                rfl
                                              refine hK.out _ _ ?_
                                              clear hK K
                                              refine done_ (done_of HT_.out (by kernel_rfl)) ?_
                                              try go_wp2_with (first | ((with_reducible refine gate_callee (f := 50) rfl ?_); refine goesL_ (some 116) rfl rfl Tryd.func50 (by kernel_rfl) rfl #[.slice (some ⟨go54, 0, none⟩) y673.length co63] rfl (by (try simp only [List.map_toArray, List.map_cons, List.map_nil]); first | done | (rw [show y673.length = y667.length from (Kd.R_reads' HQ65.out).1.symm] <;> rfl) | rfl | (simp only [List.length_drop, List.length_take]; rfl)) ?_; (with_reducible refine (bookplateref04_Encode.calls kj41 _ _ y673 t674 t675 _ ?side1 ?side2 A56.out).mono ?_); (case side1 => refine (Kd.R_reads' (e := 3) (base := w.heap.size) (ok := fun k_ => True) (n := y667.length) (c := co63) ?_).2.2; exact (by (with_reducible repeat (first | apply Kd.R_alloc | apply Kd.R_drewN | apply Kd.R_drew)); exact HQ65.out)); (case side2 => rw [show y673.length = y667.length from (Kd.R_reads' HQ65.out).1.symm]; exact (Kd.R_reads' HO669.out).2.1); rintro e w66 ⟨rfl, hb⟩; refine ⟨_, rfl, ?_⟩; have n0_ := Aside0.mk (Kd.R_below (by (with_reducible repeat (first | apply Kd.R_alloc | apply Kd.R_drewN | apply Kd.R_drew)); exact HQ65.out) hb); have n1_ := Aside0.mk (below_step (by repeat (first | (with_reducible first | exact HB.out | apply below_alloc | apply pw_below_drewN | apply below_drew1 | refine below_set ?_ GB54.out | refine below_set ?_ GB54.out) | exact HB.out)) hb); clear HO669; clear HB; have HO669 := n0_; have HB := n1_; clear n0_ n1_; (try clear hb); (try clear hb2); (try clear hk); (try clear hi)) | (go_at_call 48; (with_reducible refine (normal_Equal.calls kj41 t647 t674 t676 _ ?side1 A58.out).mono ?_); (case side1 => exact GT1.below (HG.out) (by repeat (first | (with_reducible first | exact HB.out | apply below_alloc | apply pw_below_drewN | apply below_drew1) | exact HB.out))); rintro e w67 ⟨rfl, hb⟩; have n0_ := Aside0.mk (Kd.R_below (by (with_reducible repeat (first | apply Kd.R_alloc | apply Kd.R_drewN | apply Kd.R_drew)); exact HO669.out) hb); have n1_ := Aside0.mk (below_step (by repeat (first | (with_reducible first | exact HB.out | apply below_alloc | apply pw_below_drewN | apply below_drew1) | exact HB.out)) hb); clear HO669; clear HB; have HO669 := n0_; have HB := n1_; clear n0_ n1_; (try clear hb); (try clear hb2); (try clear hk); (try clear hi)))
                                              go_ret
                                              exact ⟨by first | rfl | (simp [errW_none, errW_some] <;> rfl) | (simp only [← hji34, ← hji38, ← hji49]; first | rfl | (simp [errW_none, errW_some] <;> rfl)) | (simp [*, errW_none, errW_some] <;> rfl), by repeat (first | (with_reducible first | exact HB.out | apply below_alloc | apply pw_below_drewN | apply below_drew1) | exact HB.out)⟩
                                            · replace c57 := Bool.eq_false_iff.mpr c57
                                              subst c57
                                              have H1 : (some false) = some r := by rw [if_neg (show ¬ (false = true) by decide)] at H; exact H
                                              clear H
                                              have H := H1
                                              clear H1
                                              obtain rfl := Option.some.inj H
                                              try go_wp2_with (first | ((with_reducible refine gate_dst (N := 95) rfl ?_); (try (refine gate_guard (by rfl) ?_; dsimp only)); refine Kd.R_lit (Kd.int .i64) _ 3 ?hg (N := 95) ?hd (xs := ([] : List Int)) (inner := []) (ok := fun _ => True) (okp := fun _ => True) ?hr ?hp (fun _ hk => hk) trivial (Below.refl _ _) (Nat.le_refl _) (by simp) ?_; (case hd => rfl); (case hg => rfl); (case hr => first | (go_simp; done) | (go_simp; rfl)); (case hp => exact (Reps.none _ _)); intro v665 w68 ho69 hb hg_ hnew_; clear hg_ hnew_; (first | rw [← Ny664.out] at ho69 | (simp only [Int.reduceToNat] at ho69; rw [← Ny664.out] at ho69)); have n0_ := Aside0.mk (Kd.R_lower ho69 (below_size (by repeat (first | (with_reducible first | exact HB.out | apply below_alloc | apply pw_below_drewN | apply below_drew1) | exact HB.out)))); have n1_ := Aside0.mk (below_step (by repeat (first | (with_reducible first | exact HB.out | apply below_alloc | apply pw_below_drewN | apply below_drew1) | exact HB.out)) hb); clear HB; have HO666 := n0_; have HB := n1_; clear n0_ n1_; clear hb ho69) | ((with_reducible refine gate_builtin (b := .append) (xs := #[.tmp 95, .tmp 96]) rfl ?_); (try (refine gate_guard (by rfl) ?_; dsimp only)); at_builtin; refine Kd.R_append_rows (Kd.int .i64) (w0 := w) w.heap.size rfl (.tmp 95) (.tmp 96) 35 3 (.int .i64 0) 8 rfl Tryd.underlying35 info3 rfl (by decide) (by omega) v665 y664 l0 _ _ _ (fun _ => True) (fun _ => False) rfl rfl ?aO ?aR (fun _ _ h => h) (fun _ h => h.elim) ?aF ?aB ?aS ?aL ?_; (case aR => repeat (first | exact (Kd.C_below HR0.out HB.out) | (with_reducible refine Kd.C_alloc ?_ _) | (with_reducible refine Kd.C_drewN ?_ _) | (with_reducible refine Kd.C_drew ?_))); (case aB => exact (by repeat (first | (with_reducible first | exact HB.out | apply below_alloc | apply pw_below_drewN | apply below_drew1) | exact HB.out))); (case aF => exact (fun _ _ => trivial)); (case aO => exact (by (with_reducible repeat (first | apply Kd.R_alloc | apply Kd.R_drewN | apply Kd.R_drew)); exact HO666.out)); (case aS => exact (below_size (by repeat (first | (with_reducible first | exact HB.out | apply below_alloc | apply pw_below_drewN | apply below_drew1) | exact HB.out)))); (case aL => have := LMc48.out; omega); intro v668 w70 ho hb hg hat; rw [← Ny667.out] at ho; have n0_ := Aside0.mk (hb); have n1_ := Aside0.mk (ho); clear HB; clear HO666; have HB := n0_; have HO669 := n1_; clear n0_ n1_; clear ho hb hg hat))
                                              have n0_ := Aside0.mk (Kd.R_drew HO669.out)
                                              have n1_ := Aside0.mk (below_drew1 HB.out)
                                              clear HO669
                                              clear HB
                                              have HO669 := n0_
                                              have HB := n1_
                                              clear n0_ n1_
                                              obtain ⟨Ao72, co72, eo72⟩ := Kd.R_slice HO669.out
                                              (first | subst eo72 | (injection eo72 with f1_ f2_ f3_; have f4_ := f1_.symm; have f5_ := f3_.symm; clear f1_ f2_ f3_; subst f4_; subst f5_))
                                              have p670 : 0 ≤ ((ji49) : Int) := of_decide_eq_true (by first | (with_reducible assumption) | assumption)
                                              have q670 : (ji49) < (y667.length : Int) := of_decide_eq_true (by first | (with_reducible assumption) | assumption)
                                              obtain ⟨ad670, e670, hx670_0⟩ := Kd.at_int (Kd.R_reads' HO669.out).2.2 (ji49) p670 q670
                                              cases e670
                                              replace p670 := eq_true p670
                                              replace q670 := eq_true q670
                                              have p671 : 0 ≤ (ji34 : Int) := of_decide_eq_true (by first | (with_reducible assumption) | assumption)
                                              have q671 : ji34 < (y667.length : Int) := of_decide_eq_true (by first | (with_reducible assumption) | assumption)
                                              obtain ⟨ad671, e671, hx671_0⟩ := Kd.at_int (Kd.R_reads' HO669.out).2.2 ji34 p671 q671
                                              obtain rfl : ad670 = ad671 := (by injection e671)
                                              replace p671 := eq_true p671
                                              replace q671 := eq_true q671
                                              have p54 : 0 ≤ (ji34 : Int) := of_decide_eq_true (by first | (with_reducible assumption) | assumption)
                                              have q54 : (ji34 : Int) < ((y667.length : Int) : Int) := of_decide_eq_true (by first | (with_reducible assumption) | assumption)
                                              obtain ⟨go54, co54, eo54, gb54, gl54, cl54, HG54⟩ := Kd.R_form HO669.out (by omega)
                                              (first | cases eo54 | (injection eo54 with ea_ en_ ec_; (first | subst ea_ | (injection ea_ with ea_; subst ea_)); subst ec_; clear en_))
                                              have GB54 := Aside0.mk gb54
                                              have GG54 := Aside0.mk HG54
                                              clear gb54 gl54 HG54
                                              (first | simp only [add_plain] at hx670_0 | skip)
                                              (first | simp only [add_plain] at hx671_0 | skip)
                                              obtain ⟨hx54_0, hf54_0⟩ := Kd.R_celln 0 HO669.out (ji34 : Int) p54 q54
                                              replace p54 := eq_true p54
                                              replace q54 := eq_true q54
                                              have HP73 := Kd.R_putn HO669.out (ji34 : Int) (rd y667 (ji49))
                                              rw [← Ny672.out] at HP73
                                              have HQ73 := Aside0.mk HP73
                                              clear HP73
                                              have p55 : 0 ≤ ((ji49) : Int) := of_decide_eq_true (by first | (with_reducible assumption) | assumption)
                                              have q55 : ((ji49) : Int) < ((y667.length : Int) : Int) := of_decide_eq_true (by first | (with_reducible assumption) | assumption)
                                              obtain ⟨hx55_0, hf55_0⟩ := Kd.R_celln 0 HQ73.out ((ji49) : Int) p55 q55
                                              replace p55 := eq_true p55
                                              replace q55 := eq_true q55
                                              have HP74 := Kd.R_putn HQ73.out ((ji49) : Int) (rd y667 ji34)
                                              rw [← Ny673.out] at HP74
                                              have HQ74 := Aside0.mk HP74
                                              clear HP74
                                              refine start_ (n := 18) (S := fun w' => w'.cell? ⟨go54, ((ji49)).toNat, none⟩ = some (.int .i64 (rd y667 (ji49))) ∧ w'.cell? ⟨go54, (ji34).toNat, none⟩ = some (.int .i64 (rd y667 ji34))) (ds := [15, 17]) #[false, false, false, false, false, false, false, false, false, false, false, false, false, false, false, false, false, false] (by kernel_rfl) rfl rfl ⟨hx670_0, hx671_0⟩ (fun hHeld => ?_); refine with_tabW bookplatelaw05_NormalOrder.tab19 bookplatelaw05_NormalOrder.bits19 (fun HT_ HW_ => ?_)
                                              generalize w70.drew = w71 at HO669 HB GG54 HQ73 HQ74 hf54_0 hf55_0 hx54_0 hx55_0 hx670_0 hx671_0 hHeld ⊢
                                              refine pure_ (i := 0) (N := some 98) (v := ?_) (a' := ?_) #[true, false, false, false, false, false, false, false, false, false, false, false, false, false, false, false, false, false] rfl rfl (any_of HT_.out (by kernel_rfl)) (fun _ _ _ h => h) (Or.inl ⟨by rfl, ?_⟩) ?_ ?_
                                              rotate_left
                                              · intro w'
                                                go_simp
                                                with_reducible rfl
                                              rotate_left
                                              · simp only [Act.put, List.setIfInBounds_toArray, List.set_cons_zero, List.set_cons_succ, i64_w, i32_w]
                                                rfl
                                              refine pure_ (i := 1) (N := some 99) (v := ?_) (a' := ?_) #[true, true, false, false, false, false, false, false, false, false, false, false, false, false, false, false, false, false] rfl rfl (any_of HT_.out (by kernel_rfl)) (fun _ _ _ h => h) (Or.inl ⟨by rfl, ?_⟩) ?_ ?_
                                              rotate_left
                                              · intro w'
                                                go_simp
                                                with_reducible rfl
                                              rotate_left
                                              · simp only [Act.put, List.setIfInBounds_toArray, List.set_cons_zero, List.set_cons_succ, i64_w, i32_w]
                                                rfl
                                              refine pure_ (i := 2) (N := some 100) (v := ?_) (a' := ?_) #[true, true, true, false, false, false, false, false, false, false, false, false, false, false, false, false, false, false] rfl rfl (any_of HT_.out (by kernel_rfl)) (fun _ _ _ h => h) (Or.inl ⟨by rfl, ?_⟩) ?_ ?_
                                              rotate_left
                                              · intro w'
                                                go_simp
                                                with_reducible rfl
                                              rotate_left
                                              · simp only [Act.put, List.setIfInBounds_toArray, List.set_cons_zero, List.set_cons_succ, i64_w, i32_w]
                                                rfl
                                              refine pure_ (i := 3) (N := some 101) (v := ?_) (a' := ?_) #[true, true, true, true, false, false, false, false, false, false, false, false, false, false, false, false, false, false] rfl rfl (any_of HT_.out (by kernel_rfl)) (fun _ _ _ h => h) (Or.inl ⟨by rfl, ?_⟩) ?_ ?_
                                              rotate_left
                                              · intro w'
                                                go_simp
                                                with_reducible rfl
                                              rotate_left
                                              · simp only [Act.put, List.setIfInBounds_toArray, List.set_cons_zero, List.set_cons_succ, i64_w, i32_w]
                                                rfl
                                              refine pure_ (i := 4) (N := some 102) (v := ?_) (a' := ?_) #[true, true, true, true, true, false, false, false, false, false, false, false, false, false, false, false, false, false] rfl rfl (any_of HT_.out (by kernel_rfl)) (fun _ _ _ h => h) (Or.inl ⟨by rfl, ?_⟩) ?_ ?_
                                              rotate_left
                                              · intro w'
                                                go_simp
                                                with_reducible rfl
                                              rotate_left
                                              · simp only [Act.put, List.setIfInBounds_toArray, List.set_cons_zero, List.set_cons_succ, i64_w, i32_w]
                                                rfl
                                              refine pure_ (i := 5) (N := some 103) (v := ?_) (a' := ?_) #[true, true, true, true, true, true, false, false, false, false, false, false, false, false, false, false, false, false] rfl rfl (any_of HT_.out (by kernel_rfl)) (fun _ _ _ h => h) (Or.inl ⟨by rfl, ?_⟩) ?_ ?_
                                              rotate_left
                                              · intro w'
                                                go_simp
                                                with_reducible rfl
                                              rotate_left
                                              · simp only [Act.put, List.setIfInBounds_toArray, List.set_cons_zero, List.set_cons_succ, i64_w, i32_w]
                                                rfl
                                              refine pure_ (i := 6) (N := some 104) (v := ?_) (a' := ?_) #[true, true, true, true, true, true, true, false, false, false, false, false, false, false, false, false, false, false] rfl rfl (any_of HT_.out (by kernel_rfl)) (fun _ _ _ h => h) (Or.inl ⟨by rfl, ?_⟩) ?_ ?_
                                              rotate_left
                                              · intro w'
                                                go_simp
                                                with_reducible rfl
                                              rotate_left
                                              · simp only [Act.put, List.setIfInBounds_toArray, List.set_cons_zero, List.set_cons_succ, i64_w, i32_w]
                                                rfl
                                              refine pure_ (i := 7) (N := some 105) (v := ?_) (a' := ?_) #[true, true, true, true, true, true, true, true, false, false, false, false, false, false, false, false, false, false] rfl rfl (any_of HT_.out (by kernel_rfl)) (fun _ _ _ h => h) (Or.inl ⟨by rfl, ?_⟩) ?_ ?_
                                              rotate_left
                                              · intro w'
                                                go_simp
                                                with_reducible rfl
                                              rotate_left
                                              · simp only [Act.put, List.setIfInBounds_toArray, List.set_cons_zero, List.set_cons_succ, i64_w, i32_w]
                                                rfl
                                              refine pure_ (i := 8) (N := some 106) (v := ?_) (a' := ?_) #[true, true, true, true, true, true, true, true, true, false, false, false, false, false, false, false, false, false] rfl rfl (any_of HT_.out (by kernel_rfl)) (fun _ _ _ h => h) (Or.inl ⟨by rfl, ?_⟩) ?_ ?_
                                              rotate_left
                                              · intro w'
                                                go_simp
                                                with_reducible rfl
                                              rotate_left
                                              · simp only [Act.put, List.setIfInBounds_toArray, List.set_cons_zero, List.set_cons_succ, i64_w, i32_w]
                                                rfl
                                              refine pure_ (i := 10) (N := some 108) (v := ?_) (a' := ?_) #[true, true, true, true, true, true, true, true, true, false, true, false, false, false, false, false, false, false] rfl rfl (any_of HT_.out (by kernel_rfl)) (fun _ _ _ h => h) (Or.inl ⟨by rfl, ?_⟩) ?_ ?_
                                              rotate_left
                                              · intro w'
                                                go_simp
                                                with_reducible rfl
                                              rotate_left
                                              · simp only [Act.put, List.setIfInBounds_toArray, List.set_cons_zero, List.set_cons_succ, i64_w, i32_w]
                                                rfl
                                              refine pure_ (i := 11) (N := some 109) (v := ?_) (a' := ?_) #[true, true, true, true, true, true, true, true, true, false, true, true, false, false, false, false, false, false] rfl rfl (any_of HT_.out (by kernel_rfl)) (fun _ _ _ h => h) (Or.inl ⟨by rfl, ?_⟩) ?_ ?_
                                              rotate_left
                                              · intro w'
                                                go_simp
                                                with_reducible rfl
                                              rotate_left
                                              · simp only [Act.put, List.setIfInBounds_toArray, List.set_cons_zero, List.set_cons_succ, i64_w, i32_w]
                                                rfl
                                              refine pure_ (i := 12) (N := some 110) (v := ?_) (a' := ?_) #[true, true, true, true, true, true, true, true, true, false, true, true, true, false, false, false, false, false] rfl rfl (any_of HT_.out (by kernel_rfl)) (fun _ _ _ h => h) (Or.inl ⟨by rfl, ?_⟩) ?_ ?_
                                              rotate_left
                                              · intro w'
                                                go_simp
                                                with_reducible rfl
                                              rotate_left
                                              · simp only [Act.put, List.setIfInBounds_toArray, List.set_cons_zero, List.set_cons_succ, i64_w, i32_w]
                                                rfl
                                              refine take_ (i := 9) (N := some 107) (v := ?_) (a' := ?_) #[true, true, true, true, true, true, true, true, true, true, true, true, true, false, false, false, false, false] rfl rfl (take_ofW HT_.out HW_.out (by kernel_rfl)) (fun _ _ _ h => h) (Or.inl ⟨by rfl, ?_⟩) hHeld ?_ ?_
                                              rotate_left
                                              · rintro w' ⟨s0, s1⟩
                                                go_simp
                                                with_reducible rfl
                                              rotate_left
                                              · simp only [Act.put, List.setIfInBounds_toArray, List.set_cons_zero, List.set_cons_succ, i64_w, i32_w]
                                                rfl
                                              refine take_ (i := 13) (N := some 111) (v := ?_) (a' := ?_) #[true, true, true, true, true, true, true, true, true, true, true, true, true, true, false, false, false, false] rfl rfl (take_ofW HT_.out HW_.out (by kernel_rfl)) (fun _ _ _ h => h) (Or.inl ⟨by rfl, ?_⟩) hHeld ?_ ?_
                                              rotate_left
                                              · rintro w' ⟨s0, s1⟩
                                                go_simp
                                                with_reducible rfl
                                              rotate_left
                                              · simp only [Act.put, List.setIfInBounds_toArray, List.set_cons_zero, List.set_cons_succ, i64_w, i32_w]
                                                rfl
                                              refine pure_ (i := 14) (N := some 112) (v := ?_) (a' := ?_) #[true, true, true, true, true, true, true, true, true, true, true, true, true, true, true, false, false, false] rfl rfl (any_of HT_.out (by kernel_rfl)) (fun _ _ _ h => h) (Or.inl ⟨by rfl, ?_⟩) ?_ ?_
                                              rotate_left
                                              · intro w'
                                                go_simp
                                                with_reducible rfl
                                              rotate_left
                                              · simp only [Act.put, List.setIfInBounds_toArray, List.set_cons_zero, List.set_cons_succ, i64_w, i32_w]
                                                rfl
                                              refine last_ (i := 15) (N := none) #[true, true, true, true, true, true, true, true, true, true, true, true, true, true, true, true, false, false] rfl rfl (one_of HT_.out (by kernel_rfl)) (by decide) (fun K hK => ?_)
                                              refine skip_ (w1 := ?_) (by rfl) rfl ?_ ?_
                                              rotate_left
                                              · go_simp
                                                rfl
                                              refine hK.out _ _ ?_
                                              clear hK K
                                              refine pure_ (i := 16) (N := some 113) (v := ?_) (a' := ?_) #[true, true, true, true, true, true, true, true, true, true, true, true, true, true, true, true, true, false] rfl rfl (any_of HT_.out (by kernel_rfl)) (fun _ _ _ h => h) (Or.inl ⟨by rfl, ?_⟩) ?_ ?_
                                              rotate_left
                                              · intro w'
                                                go_simp
                                                with_reducible rfl
                                              rotate_left
                                              · simp only [Act.put, List.setIfInBounds_toArray, List.set_cons_zero, List.set_cons_succ, i64_w, i32_w]
                                                rfl
                                              refine last_ (i := 17) (N := none) #[true, true, true, true, true, true, true, true, true, true, true, true, true, true, true, true, true, true] rfl rfl (one_of HT_.out (by kernel_rfl)) (by decide) (fun K hK => ?_)
                                              refine skip_ (w1 := ?_) (by rfl) rfl ?_ ?_
                                              rotate_left
                                              · go_simp
                                                rfl
                                              refine hK.out _ _ ?_
                                              clear hK K
                                              refine done_ (done_of HT_.out (by kernel_rfl)) ?_
                                              try go_wp2_with (first | ((with_reducible refine gate_callee (f := 50) rfl ?_); refine goesL_ (some 116) rfl rfl Tryd.func50 (by kernel_rfl) rfl #[.slice (some ⟨go54, 0, none⟩) y673.length co72] rfl (by (try simp only [List.map_toArray, List.map_cons, List.map_nil]); first | done | (rw [show y673.length = y667.length from (Kd.R_reads' HQ74.out).1.symm] <;> rfl) | rfl | (simp only [List.length_drop, List.length_take]; rfl)) ?_; (with_reducible refine (bookplateref04_Encode.calls kj41 _ _ y673 t674 t675 _ ?side1 ?side2 A56.out).mono ?_); (case side1 => refine (Kd.R_reads' (e := 3) (base := w.heap.size) (ok := fun k_ => True) (n := y667.length) (c := co72) ?_).2.2; exact (by (with_reducible repeat (first | apply Kd.R_alloc | apply Kd.R_drewN | apply Kd.R_drew)); exact HQ74.out)); (case side2 => rw [show y673.length = y667.length from (Kd.R_reads' HQ74.out).1.symm]; exact (Kd.R_reads' HO669.out).2.1); rintro e w75 ⟨rfl, hb⟩; refine ⟨_, rfl, ?_⟩; have n0_ := Aside0.mk (Kd.R_below (by (with_reducible repeat (first | apply Kd.R_alloc | apply Kd.R_drewN | apply Kd.R_drew)); exact HQ74.out) hb); have n1_ := Aside0.mk (below_step (by repeat (first | (with_reducible first | exact HB.out | apply below_alloc | apply pw_below_drewN | apply below_drew1 | refine below_set ?_ GB54.out | refine below_set ?_ GB54.out) | exact HB.out)) hb); clear HO669; clear HB; have HO669 := n0_; have HB := n1_; clear n0_ n1_; (try clear hb); (try clear hb2); (try clear hk); (try clear hi)))
                                              go_ret
                                              exact ⟨by first | rfl | (simp [errW_none, errW_some] <;> rfl) | (simp only [← hji34, ← hji38, ← hji49]; first | rfl | (simp [errW_none, errW_some] <;> rfl)) | (simp [*, errW_none, errW_some] <;> rfl), by repeat (first | (with_reducible first | exact HB.out | apply below_alloc | apply pw_below_drewN | apply below_drew1) | exact HB.out)⟩
                                          · rw [if_neg c53] at H
                                            exact absurd H (by simp)
                                        · rw [if_neg c52] at H
                                          exact absurd H (by simp)
                                      · rw [if_neg c51] at H
                                        exact absurd H (by simp)
                                    · rw [if_neg c50] at H
                                      exact absurd H (by simp)
                                  · rw [if_neg c48] at H
                                    exact absurd H (by simp)
                          · rw [if_neg c40] at H
                            exact absurd H (by simp)
                        · rw [if_neg c39] at H
                          exact absurd H (by simp)
                      · rw [if_neg c36] at H
                        exact absurd H (by simp)
                    · rw [if_neg c35] at H
                      exact absurd H (by simp)
  · replace c4 := Bool.eq_false_iff.mpr c4
    subst c4
    have H1 : (some false) = some r := by rw [if_neg (show ¬ (false = true) by decide)] at H; exact H
    clear H
    have H := H1
    clear H1
    obtain rfl := Option.some.inj H
    go_enter Tryd.func13, Tryd.ntmps13
    go_wp2_with (first | ((with_reducible refine gate_callee (f := 37) rfl ?_); refine goesL_ (some 16) rfl rfl Tryd.func37 (by kernel_rfl) rfl #[] rfl (by (try simp only [List.map_toArray, List.map_cons, List.map_nil]); first | done | rfl | (simp only [List.length_drop, List.length_take]; rfl)) ?_; (with_reducible refine (bookplatelaw05_awake.calls k  false _ ?side1 A3.out).mono ?_); (case side1 => exact GT1.below (HG.out) (by repeat (first | (with_reducible first | exact HB.out | apply below_alloc | apply pw_below_drewN | apply below_drew1) | exact HB.out))); rintro e w76 ⟨rfl, hb⟩; refine ⟨_, rfl, ?_⟩; have n0_ := Aside0.mk (below_step (by repeat (first | (with_reducible first | exact HB.out | apply below_alloc | apply pw_below_drewN | apply below_drew1) | exact HB.out)) hb); clear HB; have HB := n0_; clear n0_; (try clear hb); (try clear hb2); (try clear hk); (try clear hi)))
    go_ret
    exact ⟨by first | rfl | (simp [errW_none, errW_some] <;> rfl) | (simp [*, errW_none, errW_some] <;> rfl), by repeat (first | (with_reducible first | exact HB.out | apply below_alloc | apply pw_below_drewN | apply below_drew1) | exact HB.out)⟩
end Go.Proofs.YthcpdhniakpbaaaDoor.X
end

section
namespace Go.Proofs.YthcpdhniakpbaaaDoor.X
open Go.RowKit Go.Sort Go.Lib Go.Proofs.YthcpdhniakpbaaaDoorW.PrintWords Go.Proofs.YthcpdhniakpbaaaDoorW.PrintLast Go.Proofs.YthcpdhniakpbaaaDoorW.PrintMore
set_option linter.unusedVariables false
set_option linter.unusedSimpArgs false
theorem has_w {c : Int} (h : hasS c = true) : -9223372036854775808 ≤ c ∧ c ≤ 9223372036854775807 := by have := hasS_range h; omega
theorem mcl_mk {c : Int} (h : isMk c = true) : mcl c = clsN c := by unfold mcl; rw [if_pos h]
theorem mcl_ne {c : Int} (h : mcl c ≠ 0) : isMk c = true := by
  cases hm : isMk c with
  | true => rfl
  | false => unfold mcl at h; rw [hm] at h; exact absurd rfl h
theorem parts (p : List Int) : (∃ M, (∀ x ∈ M, isMk x = true) ∧ p = M) ∨ ∃ M c r, (∀ x ∈ M, isMk x = true) ∧ isMk c = false ∧ p = M ++ c :: r := by
  have h := List.takeWhile_append_dropWhile (p := isMk) (l := p)
  have hm := take_marks p
  have hd := drop_noHead p
  cases hr : p.dropWhile isMk with
  | nil => exact .inl ⟨_, hm, by rw [hr, List.append_nil] at h; exact h.symm⟩
  | cons c r => exact .inr ⟨_, c, r, hm, hd c r hr, by rw [hr] at h; exact h.symm⟩
theorem run_mid (M : List Int) (a b : Int) (q : List Int) (hM : ∀ x ∈ M, isMk x = true) (ha : isMk a = true) (hb : isMk b = true) :
    runS (M ++ a :: b :: q) = sortS (M ++ a :: b :: q.takeWhile isMk) ++ runS (q.dropWhile isMk) := by
  have h := List.takeWhile_append_dropWhile (p := isMk) (l := q)
  have e : M ++ a :: b :: q = (M ++ a :: b :: q.takeWhile isMk) ++ q.dropWhile isMk := by
    conv => lhs; rw [← h]
    simp
  rw [e]
  refine runS_marks (fun x hx => ?_) (drop_noHead q)
  rcases List.mem_append.1 hx with hx | hx
  · exact hM x hx
  · rcases List.mem_cons.1 hx with rfl | hx
    · exact ha
    rcases List.mem_cons.1 hx with rfl | hx
    · exact hb
    · exact take_marks q x hx
theorem run_step (M : List Int) (c : Int) (Y : List Int) (hM : ∀ x ∈ M, isMk x = true) (hc : isMk c = false) : runS (M ++ c :: Y) = sortS M ++ c :: runS Y := by
  rw [runS_marks hM (NoHead.cons hc), runS_cons hc]
theorem run_swap0 {a b : Int} (ha : isMk a = true) (hb : isMk b = true) (hne : clsN b < clsN a) (q p : List Int) (hM : ∀ x ∈ p, isMk x = true) : runS (p ++ a :: b :: q) = runS (p ++ b :: a :: q) := by
  rw [run_mid p a b q hM ha hb, run_mid p b a q hM hb ha]
  congr 1
  have h1 : p ++ a :: b :: q.takeWhile isMk = p ++ ([a] ++ [b] ++ q.takeWhile isMk) := by simp
  have h2 : p ++ b :: a :: q.takeWhile isMk = p ++ ([b] ++ [a] ++ q.takeWhile isMk) := by simp
  rw [h1, h2]
  exact Same.eq (Same.append (Same.refl p) (Same.append (same_swap (u := [a]) (v := [b]) (by simpa using hne)) (Same.refl _)))
theorem run_swap {a b : Int} (ha : isMk a = true) (hb : isMk b = true) (hne : clsN b < clsN a) (q : List Int) : ∀ (n : Nat) (p : List Int), p.length ≤ n → runS (p ++ a :: b :: q) = runS (p ++ b :: a :: q) := by
  intro n
  induction n with
  | zero =>
    intro p hp
    have : p = [] := List.length_eq_zero_iff.1 (by omega)
    subst this
    exact run_swap0 ha hb hne q [] (by simp)
  | succ n ih =>
    intro p hp
    rcases parts p with ⟨M, hM, rfl⟩ | ⟨M, c, r, hM, hc, rfl⟩
    · exact run_swap0 ha hb hne q p hM
    · have e1 : M ++ c :: r ++ a :: b :: q = M ++ c :: (r ++ a :: b :: q) := by simp
      have e2 : M ++ c :: r ++ b :: a :: q = M ++ c :: (r ++ b :: a :: q) := by simp
      rw [e1, e2, run_step M c _ hM hc, run_step M c _ hM hc, ih r (by simp at hp; omega)]
theorem run_adj {a b : Int} (ha : isMk a = true) (hb : isMk b = true) (q : List Int) : ∀ (n : Nat) (p : List Int), p.length ≤ n → runS (p ++ a :: b :: q) = p ++ a :: b :: q → clsN a ≤ clsN b := by
  have base : ∀ M : List Int, (∀ x ∈ M, isMk x = true) → runS (M ++ a :: b :: q) = M ++ a :: b :: q → clsN a ≤ clsN b := by
    intro M hM h
    rw [run_mid M a b q hM ha hb] at h
    have ht := List.takeWhile_append_dropWhile (p := isMk) (l := q)
    have e : M ++ a :: b :: q = (M ++ a :: b :: q.takeWhile isMk) ++ q.dropWhile isMk := by
      conv => lhs; rw [← ht]
      simp
    rw [e] at h
    obtain ⟨h1, _⟩ := List.append_inj h (sortS_length _)
    have hs := sortS_srt (M ++ a :: b :: q.takeWhile isMk)
    rw [h1] at hs
    have hs2 := (srt_append.1 hs).2.1
    exact (List.pairwise_cons.1 hs2).1 b (by simp)
  intro n
  induction n with
  | zero =>
    intro p hp h
    have : p = [] := List.length_eq_zero_iff.1 (by omega)
    subst this
    exact base [] (by simp) h
  | succ n ih =>
    intro p hp h
    rcases parts p with ⟨M, hM, rfl⟩ | ⟨M, c, r, hM, hc, rfl⟩
    · exact base p hM h
    · have e1 : M ++ c :: r ++ a :: b :: q = M ++ c :: (r ++ a :: b :: q) := by simp
      rw [e1, run_step M c _ hM hc] at h
      obtain ⟨_, h2⟩ := List.append_inj h (sortS_length _)
      injection h2 with _ h2
      exact ih r (by simp at hp; omega) h2
theorem adj_of {D : List Int} (h : runS D = D) (i : Nat) (hi : i + 1 < D.length) (hm : isMk D[i + 1] = true) : mcl D[i] ≤ mcl D[i + 1] := by
  cases ha : isMk D[i] with
  | false =>
    have := (mcl_pos (c := D[i + 1])).2 hm
    unfold mcl at this ⊢
    rw [ha]
    simp only [Bool.false_eq_true, if_false]
    omega
  | true =>
    rw [mcl_mk ha, mcl_mk hm]
    have e : D = D.take i ++ D[i] :: D[i + 1] :: D.drop (i + 2) := by
      rw [List.getElem_cons_drop, List.getElem_cons_drop, List.take_append_drop]
    exact run_adj ha hm _ (D.take i).length (D.take i) (Nat.le_refl _) (by rw [← e]; exact h)
theorem dec_swap {a b : Int} (ha : isMk a = true) (hb : isMk b = true) (hne : clsN a ≠ clsN b) (p q : List Int) : decD (p ++ a :: b :: q) = decD (p ++ b :: a :: q) := by
  have sa := (mark_atom ha).1
  have sb := (mark_atom hb).1
  unfold decD
  simp only [List.flatMap_append, List.flatMap_cons, sa, sb, List.singleton_append]
  by_cases h : clsN b < clsN a
  · exact run_swap ha hb h _ _ _ (Nat.le_refl _)
  · exact (run_swap hb ha (by omega) _ _ _ (Nat.le_refl _)).symm
theorem set_swap {l : List Int} {m : Nat} (h : m + 1 < l.length) : (l.set m l[m + 1]).set (m + 1) l[m] = l.take m ++ l[m + 1] :: l[m] :: l.drop (m + 2) := by
  apply List.ext_getElem
  · simp; omega
  · intro j h1 h2
    simp only [List.getElem_set]
    rw [List.getElem_append]
    by_cases h3 : j < m
    · rw [dif_pos (by simp; omega), if_neg (by omega), if_neg (by omega)]; simp
    · rw [dif_neg (by simp; omega)]
      have hm : (l.take m).length = m := by simp; omega
      by_cases h4 : j = m
      · subst h4; rw [if_neg (by omega), if_pos rfl]; simp [hm]
      by_cases h5 : j = m + 1
      · subst h5; rw [if_pos rfl]; simp [hm]
      · obtain ⟨d, rfl⟩ : ∃ d, j = m + 2 + d := ⟨j - m - 2, by omega⟩
        rw [if_neg (by omega), if_neg (by omega)]
        simp only [hm, show m + 2 + d - m = d + 1 + 1 by omega, List.getElem_cons_succ, List.getElem_drop]
theorem order_end (l0 : List Int) (hl : l0.length ≤ 30) (hh : ∀ c ∈ l0, hasS c = true) (a1 : Int) (w1 : 0 ≤ a1 ∧ a1 < 256) (D : List Int) (n : Nat) (hn : D.length ≤ n) :
    Ev (fun k => bookplatelaw05_NormalOrder.l0 k l0 a1 (bytesOfL l0) D true (n : Int)) true := by
  refine Ev.step (fun k => by rw [bookplatelaw05_NormalOrder.l0, if_neg (by omega)]) ?_
  by_cases h2 : (l0.length : Int) < 2
  · exact Ev.pick h2 (Ev.const _)
  refine Ev.skip h2 ?_
  have e1 : wrap64 a1 = a1 := w64 (by omega) (by omega)
  have e2 : wrap64 ((l0.length : Int) - 1) = (l0.length : Int) - 1 := w64 (by omega) (by omega)
  rw [e1, e2]
  have t0 := Int.tmod_nonneg ((l0.length : Int) - 1) w1.1
  have t1 := Int.tmod_lt_of_pos a1 (show 0 < (l0.length : Int) - 1 by omega)
  obtain ⟨m, hm⟩ : ∃ m : Nat, Int.tmod a1 ((l0.length : Int) - 1) = (m : Int) := ⟨(Int.tmod a1 ((l0.length : Int) - 1)).toNat, by omega⟩
  rw [hm] at t1 ⊢
  have hm1 : m + 1 < l0.length := by omega
  have e3 : wrap64 ((m : Int) + 1) = ((m + 1 : Nat) : Int) := by rw [w64 (by omega) (by omega)]; omega
  rw [e3]
  have r0 : rd l0 (m : Int) = l0[m] := rd_get (by omega)
  have r1 : rd l0 ((m + 1 : Nat) : Int) = l0[m + 1] := rd_get hm1
  refine Ev.skip (by omega) (Ev.pick (by omega) (Ev.pick (by omega) ?_))
  rw [r0, r1]
  refine Ev.bind (ev_lmarks _ (has_w (hh _ (List.getElem_mem _)))) (Ev.pick (by omega) (Ev.pick (by omega) (Ev.bind (ev_lmarks _ (has_w (hh _ (List.getElem_mem _)))) ?_)))
  have triv : Ev (fun k => bookplatelaw05_NormalOrder.j2 k l0 (bytesOfL l0) true (m : Int) true) true := Ev.step (g' := fun _ => some true) (fun k => by rw [bookplatelaw05_NormalOrder.j2, if_pos rfl]) (Ev.const _)
  by_cases z0 : mcl l0[m] = 0
  · exact Ev.pick z0 triv
  refine Ev.skip z0 ?_
  by_cases z1 : mcl l0[m + 1] = 0
  · exact Ev.pick z1 triv
  refine Ev.skip z1 ?_
  by_cases z2 : mcl l0[m] = mcl l0[m + 1]
  · rw [z2, beq_self_eq_true]; exact triv
  rw [beq_eq_false_iff_ne.2 z2]
  have k0 := mcl_ne z0
  have k1 := mcl_ne z1
  rw [mcl_mk k0, mcl_mk k1] at z2
  have hs := set_swap hm1
  have e : l0 = l0.take m ++ l0[m] :: l0[m + 1] :: l0.drop (m + 2) := by
    rw [List.getElem_cons_drop, List.getElem_cons_drop, List.take_append_drop]
  have hh' : ∀ c ∈ l0.take m ++ l0[m + 1] :: l0[m] :: l0.drop (m + 2), hasS c = true := by
    intro c hc
    apply hh
    rw [e]
    simp only [List.mem_append, List.mem_cons] at hc ⊢
    rcases hc with h | h | h | h
    · exact .inl h
    · exact .inr (.inr (.inl h))
    · exact .inr (.inl h)
    · exact .inr (.inr (.inr h))
  have hd : decD (l0.take m ++ l0[m + 1] :: l0[m] :: l0.drop (m + 2)) = decD l0 := by
    rw [← dec_swap k0 k1 z2, ← e]
  have hlen : (l0.take m ++ l0[m + 1] :: l0[m] :: l0.drop (m + 2)).length = l0.length := by rw [← hs]; simp
  refine Ev.step (g' := fun k => (bookplateref04_Encode.f k (l0.take m ++ l0[m + 1] :: l0[m] :: l0.drop (m + 2))).bind fun bt => (normal_Equal.f k (bytesOfL l0) bt.1).bind fun t => some t) (fun k => ?_) ?_
  · rw [bookplatelaw05_NormalOrder.j2, if_neg (by decide)]
    simp only [Option.bind_some, List.nil_append, List.length_nil, e3, r0, r1, Int.toNat_natCast, hs]
    rw [if_pos (by omega), if_pos (by omega), if_pos (by omega), if_pos (by omega), if_pos (by omega)]
    simp only [if_true]
  have en := ev_encode_any _ (by rw [hlen]; omega) (fun c hc => has_w (hh' c hc))
  rw [encS_pos hh'] at en
  obtain ⟨f1, f2⟩ := form_facts l0 (by omega) hh
  obtain ⟨g1, g2⟩ := form_facts _ (by rw [hlen]; omega) hh'
  refine Ev.bind en (Ev.bind (ev_equal _ _ f2 g2) (Ev.of fun k => ?_))
  rw [(chs_bytes hh).2, (chs_bytes hh').2, f1, g1, hd]
  simp
theorem order_loop (l0 : List Int) (hl : l0.length ≤ 30) (hh : ∀ c ∈ l0, hasS c = true) (a1 : Int) (w1 : 0 ≤ a1 ∧ a1 < 256) (D : List Int) (hD : ∀ c ∈ D, hasS c = true) (hDl : D.length ≤ 1000) (hr : runS D = D) : ∀ (n i : Nat), D.length ≤ i + 1 + n →
    Ev (fun k => bookplatelaw05_NormalOrder.l0 k l0 a1 (bytesOfL l0) D true ((i + 1 : Nat) : Int)) true := by
  intro n
  induction n with
  | zero => intro i h; exact order_end l0 hl hh a1 w1 D (i + 1) (by omega)
  | succ n ih =>
    intro i h
    by_cases hi : D.length ≤ i + 1
    · exact order_end l0 hl hh a1 w1 D (i + 1) hi
    have hi1 : i + 1 < D.length := by omega
    have e1 : wrap64 (((i + 1 : Nat) : Int) - 1) = (i : Int) := by rw [w64 (by omega) (by omega)]; omega
    have e2 : wrap64 (((i + 1 : Nat) : Int) + 1) = ((i + 1 + 1 : Nat) : Int) := by rw [w64 (by omega) (by omega)]; omega
    have r0 : rd D (i : Int) = D[i] := rd_get (by omega)
    have r1 : rd D ((i + 1 : Nat) : Int) = D[i + 1] := rd_get hi1
    refine Ev.step (fun k => by rw [bookplatelaw05_NormalOrder.l0, if_pos (by omega), if_pos (by omega), r1, e1, e2, r0]) (Ev.bind (ev_lmarks _ (has_w (hD _ (List.getElem_mem _)))) ?_)
    by_cases hp : mcl D[i + 1] > 0
    · refine Ev.pick hp (Ev.pick (by omega) (Ev.pick (by omega) (Ev.bind (ev_lmarks _ (has_w (hD _ (List.getElem_mem _)))) (Ev.bind (ev_lmarks _ (has_w (hD _ (List.getElem_mem _)))) ?_))))
      have := adj_of hr i hi1 (mcl_pos.1 hp)
      exact Ev.skip (by omega) (ih (i + 1) (by omega))
    · exact Ev.skip hp (ih (i + 1) (by omega))
theorem normOrder_true (l0 : List Int) (a1 : Int) (hl : l0.length ≤ 17592186044416) (hw : ∀ z ∈ l0, -9223372036854775808 ≤ z ∧ z ≤ 9223372036854775807) (w1 : 0 ≤ a1 ∧ a1 < 256) : ∃ k, bookplatelaw05_NormalOrder.f k l0 a1 = some true := by
  apply Ev.get
  unfold bookplatelaw05_NormalOrder.f
  refine Ev.bind ev_awake (Ev.pick rfl (Ev.bind (ev_encode_any l0 (by omega) hw) ?_))
  have triv : ∀ B, Ev (fun k => bookplatelaw05_NormalOrder.j0 k l0 a1 B true) true := fun B => Ev.step (g' := fun _ => some true) (fun k => by rw [bookplatelaw05_NormalOrder.j0, if_pos rfl]) (Ev.const _)
  by_cases ha : l0.all hasS = true
  · have hh : ∀ c ∈ l0, hasS c = true := List.all_eq_true.1 ha
    rw [encS_pos hh]
    refine Ev.pick rfl ?_
    by_cases h30 : (l0.length : Int) > 30
    · rw [decide_eq_true h30]; exact triv _
    rw [decide_eq_false h30]
    have hl30 : l0.length ≤ 30 := by omega
    obtain ⟨f1, f2⟩ := form_facts l0 (by omega) hh
    have hD : ∀ c ∈ decD l0, hasS c = true := decD_has hh
    have hDl := decD_len l0
    obtain ⟨g1, g2⟩ := form_facts (decD l0) (by omega) hD
    have ed := decompose_eq _ f2
    rw [f1] at ed
    have eo : decR [] (bytesOfL (decD l0)).data.toList = (decD l0, true) := Prod.ext (chs_bytes hD).1 (chs_bytes hD).2
    have eD := ev_decode2 (bytesOfL (decD l0)) (by omega)
    rw [eo] at eD
    refine Ev.step (fun k => by rw [bookplatelaw05_NormalOrder.j0, if_neg (by decide)]) (Ev.bind (Ev.of fun k => ed) (Ev.bind eD ?_))
    exact order_loop l0 hl30 hh a1 w1 (decD l0) hD (by omega) (decD_run l0) (decD l0).length 0 (by omega)
  · rw [encS_neg ha]
    exact Ev.skip (by decide) (triv _)
end Go.Proofs.YthcpdhniakpbaaaDoor.X
end
