/- The law TranslitJoins returns true for every input, the package variables that it reads holding what the row lists. Part 6 of the texts that its proof stands on; put together by a program. -/
import Derived.Test.YthcpdhniakpbaaaDoorTranslitJoinsE
section
namespace Go.Proofs.YthcpdhniakpbaaaDoor.X
open Go.RowKit Go.Proofs.YthcpdhniakpbaaaDoorW.PrintWords Go.Proofs.YthcpdhniakpbaaaDoorW.PrintLast Go.Proofs.YthcpdhniakpbaaaDoorW.PrintMore
attribute [local go_sem] max2_int min2_int max_two min_two max_three min_three max_four min_four
set_option linter.unusedVariables false
set_option linter.unusedSimpArgs false
mutual
def bookplatelaw07_TranslitJoins.j0 : Nat → List (S34) → ByteArray → ByteArray → Bool → Option (Bool)
  | 0, _, _, _, _ => none
  | k + 1, x0, x1, x2, x27 => if x27 = true then (some true) else (bookplatelaw07_TranslitJoins.l0 k x0 x1 x2 (x0.length : Int) 0)
def bookplatelaw07_TranslitJoins.l0 : Nat → List (S34) → ByteArray → ByteArray → Int → Int → Option (Bool)
  | 0, _, _, _, _, _ => none
  | k + 1, x0, x1, x2, x29, x30 => if x30 < x29 then (if 0 ≤ x30 then (if x30 < (x0.length : Int) then ((bookplateref04_Cut.f k ((rd_T34 x0 x30).f0) 1).bind fun t513 => (if t513.toList = ((rd_T34 x0 x30).f0).toList then (bookplatelaw07_TranslitJoins.l0 k x0 x1 x2 x29 (wrap64 (x30 + 1))) else (some true))) else (none)) else (none)) else ((bookplateref04_Decode.f k x1).bind fun bt515 => ((bookplateref04_Decode.f k x2).bind fun bt519 => ((bookplatelaw07_own.f k x0).bind fun t523 => (if bt515.2 = true then (if bt519.2 = true then (if x1.size + x2.size ≤ 9223372036854775807 then ((translit_To.f k t523 (x1 ++ x2)).bind fun t526 => ((translit_To.f k t523 x1).bind fun t527 => ((translit_To.f k t523 x2).bind fun t528 => (if t527.size + t528.size ≤ 9223372036854775807 then (if t526.toList = (t527 ++ t528).toList then ((translit_Valid.f t523).bind fun t529 => (if t529 = true then ((translit_Covers.f k t523 (x1 ++ x2)).bind fun t530 => ((translit_Covers.f k t523 x1).bind fun t531 => (if t531 = true then ((translit_Covers.f k t523 x2).bind fun t532 => (some (t530 == t532))) else (some (t530 == false))))) else (some true))) else (some false)) else (none))))) else (none)) else (some true)) else (some true)))))
end
def bookplatelaw07_TranslitJoins.f (k : Nat) (l0 : List (S34)) (a1 : ByteArray) (a2 : ByteArray) : Option (Bool) := (bookplatelaw07_awake.f k).bind fun t510 => (if t510 = true then ((bookplatelaw07_few.f k l0).bind fun t511 => (if t511 = true then (if (a1.size : Int) > 40 then (bookplatelaw07_TranslitJoins.j0 k l0 a1 a2 true) else (bookplatelaw07_TranslitJoins.j0 k l0 a1 a2 (decide ((a2.size : Int) > 40)))) else (bookplatelaw07_TranslitJoins.j0 k l0 a1 a2 true))) else (some false))
def bookplatelaw07_TranslitJoins.T8 : Bool × List (List Nat × List Nat) := (true, [([], []), ([], []), ([0, 1], [0, 1]), ([2], [2]), ([3], [3]), ([4], [4]), ([], []), ([], []), ([6, 7], [6, 7]), ([8], [8]), ([9], [9]), ([5, 10], [5, 10])])
def bookplatelaw07_TranslitJoins.B8 : List Nat := [0, 0, 3, 7, 15, 31, 0, 0, 192, 448, 960, 2047]
theorem bookplatelaw07_TranslitJoins.tab8 : rtab .any (opsOf Tryd.f6 8) = bookplatelaw07_TranslitJoins.T8 := by kernel_rfl
theorem bookplatelaw07_TranslitJoins.bits8 : waitsOk bookplatelaw07_TranslitJoins.T8.2 bookplatelaw07_TranslitJoins.B8 = true := by kernel_rfl
set_option maxHeartbeats 8000000 in
set_option maxRecDepth 100000 in
theorem bookplatelaw07_TranslitJoins.calls (k : Nat) (A0 : Option Addr) (c0 : Nat) (l0 : List (S34)) (a1 : ByteArray) (a2 : ByteArray) (r : Bool) (w : World) (hr0 : Kd.C k34 w A0 l0.length l0) (hc0 : l0.length ≤ c0) (hG : GT2 w) (h : bookplatelaw07_TranslitJoins.f k l0 a1 a2 = some r) :
    Calls Tryd.prog 6 #[.slice A0 l0.length c0, .string a1, .string a2] w fun e w' => e = .returned (.bool r) ∧ Below w.heap.size w w' := by
  have HG := Aside0.mk hG
  clear hG
  have HR0 := Aside0.mk hr0
  have HC0 := Aside0.mk hc0
  clear hr0 hc0
  have HB := Aside0.mk (Below.refl w.heap.size w)
  have H : ((bookplatelaw07_awake.f k).bind fun t510 => (if t510 = true then ((bookplatelaw07_few.f k l0).bind fun t511 => (if t511 = true then (if (a1.size : Int) > 40 then (bookplatelaw07_TranslitJoins.j0 k l0 a1 a2 true) else (bookplatelaw07_TranslitJoins.j0 k l0 a1 a2 (decide ((a2.size : Int) > 40)))) else (bookplatelaw07_TranslitJoins.j0 k l0 a1 a2 true))) else (some false))) = some r := h
  clear h
  replace H := Option.bind_eq_some_iff.mp H
  obtain ⟨t510, A40, H⟩ := H
  replace H : (if t510 = true then ((bookplatelaw07_few.f k l0).bind fun t511 => (if t511 = true then (if (a1.size : Int) > 40 then (bookplatelaw07_TranslitJoins.j0 k l0 a1 a2 true) else (bookplatelaw07_TranslitJoins.j0 k l0 a1 a2 (decide ((a2.size : Int) > 40)))) else (bookplatelaw07_TranslitJoins.j0 k l0 a1 a2 true))) else (some false)) = some r := H
  have A4 := Aside0.mk A40
  clear A40
  by_cases c5 : t510 = true
  · subst c5
    have H1 : ((bookplatelaw07_few.f k l0).bind fun t511 => (if t511 = true then (if (a1.size : Int) > 40 then (bookplatelaw07_TranslitJoins.j0 k l0 a1 a2 true) else (bookplatelaw07_TranslitJoins.j0 k l0 a1 a2 (decide ((a2.size : Int) > 40)))) else (bookplatelaw07_TranslitJoins.j0 k l0 a1 a2 true))) = some r := by rw [if_pos rfl] at H; exact H
    clear H
    have H := H1
    clear H1
    have HC6 := Aside0.mk H
    clear H
    go_enter Tryd.func6, Tryd.ntmps6
    go_upto_region 3 with (first | ((with_reducible refine gate_callee (f := 17) rfl ?_); refine goesL_ (some 13) rfl rfl Tryd.func17 (by kernel_rfl) rfl #[] rfl (by (try simp only [List.map_toArray, List.map_cons, List.map_nil]); first | done | rfl | (simp only [List.length_drop, List.length_take]; rfl)) ?_; (with_reducible refine (bookplatelaw07_awake.calls k  true _ ?side1 A4.out).mono ?_); (case side1 => exact GT2.below (HG.out) (by repeat (first | (with_reducible first | exact HB.out | apply below_alloc | apply pw_below_drewN | apply below_drew1) | exact HB.out))); rintro e w7 ⟨rfl, hb⟩; refine ⟨_, rfl, ?_⟩; have n0_ := Aside0.mk (below_step (by repeat (first | (with_reducible first | exact HB.out | apply below_alloc | apply pw_below_drewN | apply below_drew1) | exact HB.out)) hb); clear HB; have HB := n0_; clear n0_; (try clear hb); (try clear hb2); (try clear hk); (try clear hi)))
    (try simp only [Act.put, List.setIfInBounds_toArray, List.set_cons_zero, List.set_cons_succ])
    go_cut [27] (fun v27 wc => ∃ (kq : Nat) (x27_5 : Bool), v27 = .bool x27_5 ∧ Aside0 (bookplatelaw07_TranslitJoins.j0 kq l0 a1 a2 x27_5 = some r) ∧ Aside0 (kq ≤ k) ∧ Aside0 (Below w.heap.size w wc))
    case first =>
      have H := HC6.out
      clear HC6
      replace H := Option.bind_eq_some_iff.mp H
      obtain ⟨t511, A80, H⟩ := H
      replace H : (if t511 = true then (if (a1.size : Int) > 40 then (bookplatelaw07_TranslitJoins.j0 k l0 a1 a2 true) else (bookplatelaw07_TranslitJoins.j0 k l0 a1 a2 (decide ((a2.size : Int) > 40)))) else (bookplatelaw07_TranslitJoins.j0 k l0 a1 a2 true)) = some r := H
      have A8 := Aside0.mk A80
      clear A80
      by_cases c9 : t511 = true
      · subst c9
        have H1 : (if (a1.size : Int) > 40 then (bookplatelaw07_TranslitJoins.j0 k l0 a1 a2 true) else (bookplatelaw07_TranslitJoins.j0 k l0 a1 a2 (decide ((a2.size : Int) > 40)))) = some r := by rw [if_pos rfl] at H; exact H
        clear H
        have H := H1
        clear H1
        by_cases c10 : (a1.size : Int) > 40
        · rw [if_pos c10] at H
          have c10b0 : decide (40 < (a1.size : Int)) = true := decide_eq_true c10
          have c10b1 : decide (40 < a1.size) = true := decide_eq_true (by omega)
          clear c10
          (first | rw [c10b0] | (simp only [i64_w, i32_w]; rw [c10b0]) | skip)
          have H' := Aside0.mk H
          clear H
          go_wp2_with (first | ((with_reducible refine gate_callee (f := 18) rfl ?_); refine goesL_ (some 16) rfl rfl Tryd.func18 (by kernel_rfl) rfl #[.slice A0 l0.length c0] rfl (by (try simp only [List.map_toArray, List.map_cons, List.map_nil]); first | done | rfl | (simp only [List.length_drop, List.length_take]; rfl)) ?_; (with_reducible refine (bookplatelaw07_few.calls k _ _ l0 true _ ?side1 ?side2 A8.out).mono ?_); (case side1 => repeat (first | exact (Kd.C_below HR0.out HB.out) | (with_reducible refine Kd.C_alloc ?_ _) | (with_reducible refine Kd.C_drewN ?_ _) | (with_reducible refine Kd.C_drew ?_))); (case side2 => exact HC0.out); rintro e w' ⟨rfl, ⟨nd, rfl⟩⟩; refine ⟨_, rfl, ?_⟩))
          go_meet
          case rel => exact ⟨_, (true), (by first | rfl | (simp; done) | (simp [*]; done)), H', ⟨by first | omega | exact Nat.le_refl _⟩, ⟨by repeat (first | (with_reducible first | exact HB.out | apply below_alloc | apply pw_below_drewN | apply below_drew1) | exact HB.out)⟩⟩
        · rw [if_neg c10] at H
          have c10b0 : decide (40 < (a1.size : Int)) = false := decide_eq_false c10
          have c10b1 : decide (40 < a1.size) = false := decide_eq_false (by omega)
          clear c10
          (first | rw [c10b0] | (simp only [i64_w, i32_w]; rw [c10b0]) | skip)
          have H' := Aside0.mk H
          clear H
          go_wp2_with (first | ((with_reducible refine gate_callee (f := 18) rfl ?_); refine goesL_ (some 16) rfl rfl Tryd.func18 (by kernel_rfl) rfl #[.slice A0 l0.length c0] rfl (by (try simp only [List.map_toArray, List.map_cons, List.map_nil]); first | done | rfl | (simp only [List.length_drop, List.length_take]; rfl)) ?_; (with_reducible refine (bookplatelaw07_few.calls k _ _ l0 true _ ?side1 ?side2 A8.out).mono ?_); (case side1 => repeat (first | exact (Kd.C_below HR0.out HB.out) | (with_reducible refine Kd.C_alloc ?_ _) | (with_reducible refine Kd.C_drewN ?_ _) | (with_reducible refine Kd.C_drew ?_))); (case side2 => exact HC0.out); rintro e w' ⟨rfl, ⟨nd, rfl⟩⟩; refine ⟨_, rfl, ?_⟩))
          go_meet
          case rel => exact ⟨_, (decide ((a2.size : Int) > 40)), (by first | rfl | (simp; done) | (simp [*]; done)), H', ⟨by first | omega | exact Nat.le_refl _⟩, ⟨by repeat (first | (with_reducible first | exact HB.out | apply below_alloc | apply pw_below_drewN | apply below_drew1) | exact HB.out)⟩⟩
      · replace c9 := Bool.eq_false_iff.mpr c9
        subst c9
        have H1 : (bookplatelaw07_TranslitJoins.j0 k l0 a1 a2 true) = some r := by rw [if_neg (show ¬ (false = true) by decide)] at H; exact H
        clear H
        have H := H1
        clear H1
        have H' := Aside0.mk H
        clear H
        go_wp2_with (first | ((with_reducible refine gate_callee (f := 18) rfl ?_); refine goesL_ (some 16) rfl rfl Tryd.func18 (by kernel_rfl) rfl #[.slice A0 l0.length c0] rfl (by (try simp only [List.map_toArray, List.map_cons, List.map_nil]); first | done | rfl | (simp only [List.length_drop, List.length_take]; rfl)) ?_; (with_reducible refine (bookplatelaw07_few.calls k _ _ l0 false _ ?side1 ?side2 A8.out).mono ?_); (case side1 => repeat (first | exact (Kd.C_below HR0.out HB.out) | (with_reducible refine Kd.C_alloc ?_ _) | (with_reducible refine Kd.C_drewN ?_ _) | (with_reducible refine Kd.C_drew ?_))); (case side2 => exact HC0.out); rintro e w' ⟨rfl, ⟨nd, rfl⟩⟩; refine ⟨_, rfl, ?_⟩))
        go_meet
        case rel => exact ⟨_, (true), (by first | rfl | (simp; done) | (simp [*]; done)), H', ⟨by first | omega | exact Nat.le_refl _⟩, ⟨by repeat (first | (with_reducible first | exact HB.out | apply below_alloc | apply pw_below_drewN | apply below_drew1) | exact HB.out)⟩⟩
    case rest =>
      clear HC6
      try clear c1
      try clear p2
      try clear c5
      try clear c6
      try clear c9
      try clear c10
      try clear c10b0
      try clear c10b1
      obtain ⟨kq, x27_5, rfl, HA, HJ5, HB⟩ := hcut
      cases kq with
      | zero => exact absurd HA.out (by simp [bookplatelaw07_TranslitJoins.j0])
      | succ kj5 =>
        have H := HA.out
        clear HA
        simp only [bookplatelaw07_TranslitJoins.j0] at H
        by_cases c11 : x27_5 = true
        · subst c11
          have H1 : (some true) = some r := by rw [if_pos rfl] at H; exact H
          clear H
          have H := H1
          clear H1
          obtain rfl := Option.some.inj H
          go_wp2
          go_ret
          exact ⟨by first | rfl | (simp [errW_none, errW_some] <;> rfl) | (simp [*, errW_none, errW_some] <;> rfl), by repeat (first | (with_reducible first | exact HB.out | apply below_alloc | apply pw_below_drewN | apply below_drew1) | exact HB.out)⟩
        · replace c11 := Bool.eq_false_iff.mpr c11
          subst c11
          have H1 : (bookplatelaw07_TranslitJoins.l0 kj5 l0 a1 a2 (l0.length : Int) 0) = some r := by rw [if_neg (show ¬ (false = true) by decide)] at H; exact H
          clear H
          have H := H1
          clear H1
          have H' := Aside0.mk H
          clear H
          go_wp2
          go_loopg [30] kj5 (fun kq v30 w' => ∃ (x30_2 : Int), v30 = .int .i64 x30_2 ∧ Aside0 (bookplatelaw07_TranslitJoins.l0 kq l0 a1 a2 (l0.length : Int) x30_2 = some r) ∧ Aside0 (kq ≤ kj5) ∧ Aside0 (Below w.heap.size w w'))
          case atStart => exact ⟨(0), (by first | rfl | (simp; done) | (simp [*]; done)), H', ⟨Nat.le_refl _⟩, ⟨by repeat (first | (with_reducible first | exact HB.out | apply below_alloc | apply pw_below_drewN | apply below_drew1) | exact HB.out)⟩⟩
          case round =>
            clear H'
            try clear c1
            try clear p2
            try clear c5
            try clear c6
            try clear c9
            try clear c10
            try clear c10b0
            try clear c10b1
            try clear c11
            try clear p2
            obtain ⟨x30_2, rfl, HA, HK2, HB⟩ := hrel
            cases gk with
            | zero => exact absurd HA.out (by simp [bookplatelaw07_TranslitJoins.l0])
            | succ k2 =>
              have H := HA.out
              clear HA
              simp only [bookplatelaw07_TranslitJoins.l0] at H
              by_cases c12 : x30_2 < (l0.length : Int)
              · rw [if_pos c12] at H
                have c12b0 : decide (x30_2 < (l0.length : Int)) = true := decide_eq_true c12
                clear c12
                by_cases c13 : 0 ≤ x30_2
                · rw [if_pos c13] at H
                  have c13b0 : decide (0 ≤ x30_2) = true := decide_eq_true c13
                  clear c13
                  by_cases c14 : x30_2 < (l0.length : Int)
                  · rw [if_pos c14] at H
                    have c14b0 : decide (x30_2 < (l0.length : Int)) = true := decide_eq_true c14
                    clear c14
                    replace H := Option.bind_eq_some_iff.mp H
                    obtain ⟨t513, A150, H⟩ := H
                    replace H : (if t513.toList = ((rd_T34 l0 x30_2).f0).toList then (bookplatelaw07_TranslitJoins.l0 k2 l0 a1 a2 (l0.length : Int) (wrap64 (x30_2 + 1))) else (some true)) = some r := H
                    have A15 := Aside0.mk A150
                    clear A150
                    by_cases c16 : t513.toList = ((rd_T34 l0 x30_2).f0).toList
                    · rw [if_pos c16] at H
                      have c16b0 : (t513.toList == ((rd_T34 l0 x30_2).f0).toList) = true := beq_iff_eq.mpr c16
                      have c16b1 : (t513.toList != ((rd_T34 l0 x30_2).f0).toList) = false := bne_eq_false_iff_eq.mpr c16
                      clear c16
                      have H' := Aside0.mk H
                      clear H
                      try go_wp2
                      have n0_ := Aside0.mk (below_drew1 HB.out)
                      clear HB
                      have HB := n0_
                      clear n0_
                      have p512 : 0 ≤ (x30_2 : Int) := of_decide_eq_true (by first | (with_reducible assumption) | assumption)
                      have q512 : x30_2 < (l0.length : Int) := of_decide_eq_true (by first | (with_reducible assumption) | assumption)
                      obtain ⟨ad512, e512, hx512_0, hx512_1⟩ := at_T34 HR0.out x30_2 p512 q512
                      have hw512_1 := hx512_1
                      have hw512_0 := hx512_0
                      cases e512
                      replace hx512_0 := (HB.out.cell (World.block_lt_of_cell? w _ hx512_0)).trans hx512_0
                      replace hx512_1 := (HB.out.cell (World.block_lt_of_cell? w _ hx512_1)).trans hx512_1
                      replace p512 := eq_true p512
                      replace q512 := eq_true q512
                      have p514 : 0 ≤ (x30_2 : Int) := of_decide_eq_true (by first | (with_reducible assumption) | assumption)
                      have q514 : x30_2 < (l0.length : Int) := of_decide_eq_true (by first | (with_reducible assumption) | assumption)
                      obtain ⟨ad514, e514, hx514_0, hx514_1⟩ := at_T34 HR0.out x30_2 p514 q514
                      have hw514_1 := hx514_1
                      have hw514_0 := hx514_0
                      obtain rfl : ad512 = ad514 := (by injection e514)
                      replace hx514_0 := (HB.out.cell (World.block_lt_of_cell? w _ hx514_0)).trans hx514_0
                      replace hx514_1 := (HB.out.cell (World.block_lt_of_cell? w _ hx514_1)).trans hx514_1
                      replace p514 := eq_true p514
                      replace q514 := eq_true q514
                      refine start_ (n := 12) (S := fun w' => w'.cell? (ad512.add ((x30_2).toNat * 2)) = some (.string ((rd_T34 l0 x30_2).f0)) ∧ w'.cell? ⟨(ad512.add ((x30_2).toNat * 2)).block, (ad512.add ((x30_2).toNat * 2)).off + 1, none⟩ = some (.string ((rd_T34 l0 x30_2).f1)) ∧ w'.cell? (ad512.add ((x30_2).toNat * 2)) = some (.string ((rd_T34 l0 x30_2).f0)) ∧ w'.cell? ⟨(ad512.add ((x30_2).toNat * 2)).block, (ad512.add ((x30_2).toNat * 2)).off + 1, none⟩ = some (.string ((rd_T34 l0 x30_2).f1))) (ds := []) #[false, false, false, false, false, false, false, false, false, false, false, false] (by kernel_rfl) rfl rfl ⟨((HB.out.cell (World.block_lt_of_cell? w _ hw512_0)).trans hw512_0), ((HB.out.cell (World.block_lt_of_cell? w _ hw512_1)).trans hw512_1), ((HB.out.cell (World.block_lt_of_cell? w _ hw514_0)).trans hw514_0), ((HB.out.cell (World.block_lt_of_cell? w _ hw514_1)).trans hw514_1)⟩ (fun hHeld => ?_); refine with_tabW bookplatelaw07_TranslitJoins.tab8 bookplatelaw07_TranslitJoins.bits8 (fun HT_ HW_ => ?_)
                      generalize wr.drew = w17 at HB hx512_0 hx512_1 hx514_0 hx514_1 hHeld ⊢
                      refine pure_ (i := 0) (N := some 33) (v := ?_) (a' := ?_) #[true, false, false, false, false, false, false, false, false, false, false, false] rfl rfl (any_of HT_.out (by kernel_rfl)) (fun _ _ _ h => h) (Or.inl ⟨by rfl, ?_⟩) ?_ ?_
                      rotate_left
                      · intro w'
                        go_simp
                        with_reducible rfl
                      rotate_left
                      · simp only [Act.put, List.setIfInBounds_toArray, List.set_cons_zero, List.set_cons_succ, i64_w, i32_w]
                        rfl
                      refine pure_ (i := 1) (N := some 34) (v := ?_) (a' := ?_) #[true, true, false, false, false, false, false, false, false, false, false, false] rfl rfl (any_of HT_.out (by kernel_rfl)) (fun _ _ _ h => h) (Or.inl ⟨by rfl, ?_⟩) ?_ ?_
                      rotate_left
                      · intro w'
                        go_simp
                        with_reducible rfl
                      rotate_left
                      · simp only [Act.put, List.setIfInBounds_toArray, List.set_cons_zero, List.set_cons_succ, i64_w, i32_w]
                        rfl
                      refine pure_ (i := 2) (N := some 35) (v := ?_) (a' := ?_) #[true, true, true, false, false, false, false, false, false, false, false, false] rfl rfl (any_of HT_.out (by kernel_rfl)) (fun _ _ _ h => h) (Or.inl ⟨by rfl, ?_⟩) ?_ ?_
                      rotate_left
                      · intro w'
                        go_simp
                        with_reducible rfl
                      rotate_left
                      · simp only [Act.put, List.setIfInBounds_toArray, List.set_cons_zero, List.set_cons_succ, i64_w, i32_w]
                        rfl
                      refine pure_ (i := 3) (N := some 36) (v := ?_) (a' := ?_) #[true, true, true, true, false, false, false, false, false, false, false, false] rfl rfl (any_of HT_.out (by kernel_rfl)) (fun _ _ _ h => h) (Or.inl ⟨by rfl, ?_⟩) ?_ ?_
                      rotate_left
                      · intro w'
                        go_simp
                        with_reducible rfl
                      rotate_left
                      · simp only [Act.put, List.setIfInBounds_toArray, List.set_cons_zero, List.set_cons_succ, i64_w, i32_w]
                        rfl
                      refine pure_ (i := 6) (N := some 39) (v := ?_) (a' := ?_) #[true, true, true, true, false, false, true, false, false, false, false, false] rfl rfl (any_of HT_.out (by kernel_rfl)) (fun _ _ _ h => h) (Or.inl ⟨by rfl, ?_⟩) ?_ ?_
                      rotate_left
                      · intro w'
                        go_simp
                        with_reducible rfl
                      rotate_left
                      · simp only [Act.put, List.setIfInBounds_toArray, List.set_cons_zero, List.set_cons_succ, i64_w, i32_w]
                        rfl
                      refine pure_ (i := 7) (N := some 40) (v := ?_) (a' := ?_) #[true, true, true, true, false, false, true, true, false, false, false, false] rfl rfl (any_of HT_.out (by kernel_rfl)) (fun _ _ _ h => h) (Or.inl ⟨by rfl, ?_⟩) ?_ ?_
                      rotate_left
                      · intro w'
                        go_simp
                        with_reducible rfl
                      rotate_left
                      · simp only [Act.put, List.setIfInBounds_toArray, List.set_cons_zero, List.set_cons_succ, i64_w, i32_w]
                        rfl
                      refine pure_ (i := 8) (N := some 41) (v := ?_) (a' := ?_) #[true, true, true, true, false, false, true, true, true, false, false, false] rfl rfl (any_of HT_.out (by kernel_rfl)) (fun _ _ _ h => h) (Or.inl ⟨by rfl, ?_⟩) ?_ ?_
                      rotate_left
                      · intro w'
                        go_simp
                        with_reducible rfl
                      rotate_left
                      · simp only [Act.put, List.setIfInBounds_toArray, List.set_cons_zero, List.set_cons_succ, i64_w, i32_w]
                        rfl
                      refine pure_ (i := 9) (N := some 42) (v := ?_) (a' := ?_) #[true, true, true, true, false, false, true, true, true, true, false, false] rfl rfl (any_of HT_.out (by kernel_rfl)) (fun _ _ _ h => h) (Or.inl ⟨by rfl, ?_⟩) ?_ ?_
                      rotate_left
                      · intro w'
                        go_simp
                        with_reducible rfl
                      rotate_left
                      · simp only [Act.put, List.setIfInBounds_toArray, List.set_cons_zero, List.set_cons_succ, i64_w, i32_w]
                        rfl
                      refine take_ (i := 4) (N := some 37) (v := ?_) (a' := ?_) #[true, true, true, true, true, false, true, true, true, true, false, false] rfl rfl (take_ofW HT_.out HW_.out (by kernel_rfl)) (fun _ _ _ h => h) (Or.inl ⟨by rfl, ?_⟩) hHeld ?_ ?_
                      rotate_left
                      · rintro w' ⟨s0, s1, s2, s3⟩
                        go_simp
                        with_reducible rfl
                      rotate_left
                      · simp only [Act.put, List.setIfInBounds_toArray, List.set_cons_zero, List.set_cons_succ, i64_w, i32_w]
                        rfl
                      refine take_ (i := 10) (N := some 43) (v := ?_) (a' := ?_) #[true, true, true, true, true, false, true, true, true, true, true, false] rfl rfl (take_ofW HT_.out HW_.out (by kernel_rfl)) (fun _ _ _ h => h) (Or.inl ⟨by rfl, ?_⟩) hHeld ?_ ?_
                      rotate_left
                      · rintro w' ⟨s0, s1, s2, s3⟩
                        go_simp
                        with_reducible rfl
                      rotate_left
                      · simp only [Act.put, List.setIfInBounds_toArray, List.set_cons_zero, List.set_cons_succ, i64_w, i32_w]
                        rfl
                      refine one_ (i := 5) (N := some 38) #[true, true, true, true, true, true, true, true, true, true, true, false] rfl rfl (one_of HT_.out (by kernel_rfl)) (by decide) (fun K hK => ?_)
                      refine goes_ Tryd.func30 (by kernel_rfl) rfl #[.string ((rd_T34 l0 x30_2).f0), .int .i64 1] (by rfl) rfl rfl (by (try simp only [List.map_toArray, List.map_cons, List.map_nil]); first | done | rfl | (simp only [List.length_drop, List.length_take]; rfl)) ?_
                      with_reducible refine (bookplateref04_Cut.calls k2 ((rd_T34 l0 x30_2).f0) 1 t513 _ A15.out).mono ?_
                      rintro e w18 ⟨rfl, hb⟩
                      refine ⟨_, rfl, ?_⟩
                      have n0_ := Aside0.mk (below_step (by repeat (first | (with_reducible first | exact HB.out | apply below_alloc | apply pw_below_drewN | apply below_drew1) | exact HB.out)) hb)
                      clear HB
                      have HB := n0_
                      clear n0_
                      (try clear hb)
                      (try clear hb2)
                      (try clear hk)
                      (try clear hi)
                      refine hK.out _ _ ⟨((HB.out.cell (World.block_lt_of_cell? w _ hw512_0)).trans hw512_0), ((HB.out.cell (World.block_lt_of_cell? w _ hw512_1)).trans hw512_1), ((HB.out.cell (World.block_lt_of_cell? w _ hw514_0)).trans hw514_0), ((HB.out.cell (World.block_lt_of_cell? w _ hw514_1)).trans hw514_1)⟩ (fun hHeld => ?_)
                      clear hK K
                      refine norm_ (a' := ?_) ?_ ?_
                      rotate_left
                      · show Act.put _ (some 38) _ = _
                        simp only [Act.put, List.setIfInBounds_toArray, List.set_cons_zero, List.set_cons_succ, i64_w, i32_w]
                        rfl
                      refine pure_ (i := 11) (N := some 44) (v := ?_) (a' := ?_) #[true, true, true, true, true, true, true, true, true, true, true, true] rfl rfl (any_of HT_.out (by kernel_rfl)) (fun _ _ _ h => h) (Or.inl ⟨by rfl, ?_⟩) ?_ ?_
                      rotate_left
                      · intro w'
                        go_simp
                        with_reducible rfl
                      rotate_left
                      · simp only [Act.put, List.setIfInBounds_toArray, List.set_cons_zero, List.set_cons_succ, i64_w, i32_w]
                        rfl
                      refine done_ (done_of HT_.out (by kernel_rfl)) ?_
                      try go_wp2
                      go_roundg k2
                      case measure => have := HJ5.out; have := HK2.out; omega
                      case rel => exact ⟨(wrap64 (x30_2 + 1)), (by first | rfl | (simp; done) | (simp [*]; done)), H', ⟨by have := HJ5.out; have := HK2.out; omega⟩, ⟨by repeat (first | (with_reducible first | exact HB.out | apply below_alloc | apply pw_below_drewN | apply below_drew1) | exact HB.out)⟩⟩
                    · rw [if_neg c16] at H
                      have c16b0 : (t513.toList == ((rd_T34 l0 x30_2).f0).toList) = false := beq_eq_false_iff_ne.mpr c16
                      have c16b1 : (t513.toList != ((rd_T34 l0 x30_2).f0).toList) = true := bne_iff_ne.mpr c16
                      obtain rfl := Option.some.inj H
                      try go_wp2
                      have n0_ := Aside0.mk (below_drew1 HB.out)
                      clear HB
                      have HB := n0_
                      clear n0_
                      have p512 : 0 ≤ (x30_2 : Int) := of_decide_eq_true (by first | (with_reducible assumption) | assumption)
                      have q512 : x30_2 < (l0.length : Int) := of_decide_eq_true (by first | (with_reducible assumption) | assumption)
                      obtain ⟨ad512, e512, hx512_0, hx512_1⟩ := at_T34 HR0.out x30_2 p512 q512
                      have hw512_1 := hx512_1
                      have hw512_0 := hx512_0
                      cases e512
                      replace hx512_0 := (HB.out.cell (World.block_lt_of_cell? w _ hx512_0)).trans hx512_0
                      replace hx512_1 := (HB.out.cell (World.block_lt_of_cell? w _ hx512_1)).trans hx512_1
                      replace p512 := eq_true p512
                      replace q512 := eq_true q512
                      have p514 : 0 ≤ (x30_2 : Int) := of_decide_eq_true (by first | (with_reducible assumption) | assumption)
                      have q514 : x30_2 < (l0.length : Int) := of_decide_eq_true (by first | (with_reducible assumption) | assumption)
                      obtain ⟨ad514, e514, hx514_0, hx514_1⟩ := at_T34 HR0.out x30_2 p514 q514
                      have hw514_1 := hx514_1
                      have hw514_0 := hx514_0
                      obtain rfl : ad512 = ad514 := (by injection e514)
                      replace hx514_0 := (HB.out.cell (World.block_lt_of_cell? w _ hx514_0)).trans hx514_0
                      replace hx514_1 := (HB.out.cell (World.block_lt_of_cell? w _ hx514_1)).trans hx514_1
                      replace p514 := eq_true p514
                      replace q514 := eq_true q514
                      refine start_ (n := 12) (S := fun w' => w'.cell? (ad512.add ((x30_2).toNat * 2)) = some (.string ((rd_T34 l0 x30_2).f0)) ∧ w'.cell? ⟨(ad512.add ((x30_2).toNat * 2)).block, (ad512.add ((x30_2).toNat * 2)).off + 1, none⟩ = some (.string ((rd_T34 l0 x30_2).f1)) ∧ w'.cell? (ad512.add ((x30_2).toNat * 2)) = some (.string ((rd_T34 l0 x30_2).f0)) ∧ w'.cell? ⟨(ad512.add ((x30_2).toNat * 2)).block, (ad512.add ((x30_2).toNat * 2)).off + 1, none⟩ = some (.string ((rd_T34 l0 x30_2).f1))) (ds := []) #[false, false, false, false, false, false, false, false, false, false, false, false] (by kernel_rfl) rfl rfl ⟨((HB.out.cell (World.block_lt_of_cell? w _ hw512_0)).trans hw512_0), ((HB.out.cell (World.block_lt_of_cell? w _ hw512_1)).trans hw512_1), ((HB.out.cell (World.block_lt_of_cell? w _ hw514_0)).trans hw514_0), ((HB.out.cell (World.block_lt_of_cell? w _ hw514_1)).trans hw514_1)⟩ (fun hHeld => ?_); refine with_tabW bookplatelaw07_TranslitJoins.tab8 bookplatelaw07_TranslitJoins.bits8 (fun HT_ HW_ => ?_)
                      generalize wr.drew = w19 at HB hx512_0 hx512_1 hx514_0 hx514_1 hHeld ⊢
                      refine pure_ (i := 0) (N := some 33) (v := ?_) (a' := ?_) #[true, false, false, false, false, false, false, false, false, false, false, false] rfl rfl (any_of HT_.out (by kernel_rfl)) (fun _ _ _ h => h) (Or.inl ⟨by rfl, ?_⟩) ?_ ?_
                      rotate_left
                      · intro w'
                        go_simp
                        with_reducible rfl
                      rotate_left
                      · simp only [Act.put, List.setIfInBounds_toArray, List.set_cons_zero, List.set_cons_succ, i64_w, i32_w]
                        rfl
                      refine pure_ (i := 1) (N := some 34) (v := ?_) (a' := ?_) #[true, true, false, false, false, false, false, false, false, false, false, false] rfl rfl (any_of HT_.out (by kernel_rfl)) (fun _ _ _ h => h) (Or.inl ⟨by rfl, ?_⟩) ?_ ?_
                      rotate_left
                      · intro w'
                        go_simp
                        with_reducible rfl
                      rotate_left
                      · simp only [Act.put, List.setIfInBounds_toArray, List.set_cons_zero, List.set_cons_succ, i64_w, i32_w]
                        rfl
                      refine pure_ (i := 2) (N := some 35) (v := ?_) (a' := ?_) #[true, true, true, false, false, false, false, false, false, false, false, false] rfl rfl (any_of HT_.out (by kernel_rfl)) (fun _ _ _ h => h) (Or.inl ⟨by rfl, ?_⟩) ?_ ?_
                      rotate_left
                      · intro w'
                        go_simp
                        with_reducible rfl
                      rotate_left
                      · simp only [Act.put, List.setIfInBounds_toArray, List.set_cons_zero, List.set_cons_succ, i64_w, i32_w]
                        rfl
                      refine pure_ (i := 3) (N := some 36) (v := ?_) (a' := ?_) #[true, true, true, true, false, false, false, false, false, false, false, false] rfl rfl (any_of HT_.out (by kernel_rfl)) (fun _ _ _ h => h) (Or.inl ⟨by rfl, ?_⟩) ?_ ?_
                      rotate_left
                      · intro w'
                        go_simp
                        with_reducible rfl
                      rotate_left
                      · simp only [Act.put, List.setIfInBounds_toArray, List.set_cons_zero, List.set_cons_succ, i64_w, i32_w]
                        rfl
                      refine pure_ (i := 6) (N := some 39) (v := ?_) (a' := ?_) #[true, true, true, true, false, false, true, false, false, false, false, false] rfl rfl (any_of HT_.out (by kernel_rfl)) (fun _ _ _ h => h) (Or.inl ⟨by rfl, ?_⟩) ?_ ?_
                      rotate_left
                      · intro w'
                        go_simp
                        with_reducible rfl
                      rotate_left
                      · simp only [Act.put, List.setIfInBounds_toArray, List.set_cons_zero, List.set_cons_succ, i64_w, i32_w]
                        rfl
                      refine pure_ (i := 7) (N := some 40) (v := ?_) (a' := ?_) #[true, true, true, true, false, false, true, true, false, false, false, false] rfl rfl (any_of HT_.out (by kernel_rfl)) (fun _ _ _ h => h) (Or.inl ⟨by rfl, ?_⟩) ?_ ?_
                      rotate_left
                      · intro w'
                        go_simp
                        with_reducible rfl
                      rotate_left
                      · simp only [Act.put, List.setIfInBounds_toArray, List.set_cons_zero, List.set_cons_succ, i64_w, i32_w]
                        rfl
                      refine pure_ (i := 8) (N := some 41) (v := ?_) (a' := ?_) #[true, true, true, true, false, false, true, true, true, false, false, false] rfl rfl (any_of HT_.out (by kernel_rfl)) (fun _ _ _ h => h) (Or.inl ⟨by rfl, ?_⟩) ?_ ?_
                      rotate_left
                      · intro w'
                        go_simp
                        with_reducible rfl
                      rotate_left
                      · simp only [Act.put, List.setIfInBounds_toArray, List.set_cons_zero, List.set_cons_succ, i64_w, i32_w]
                        rfl
                      refine pure_ (i := 9) (N := some 42) (v := ?_) (a' := ?_) #[true, true, true, true, false, false, true, true, true, true, false, false] rfl rfl (any_of HT_.out (by kernel_rfl)) (fun _ _ _ h => h) (Or.inl ⟨by rfl, ?_⟩) ?_ ?_
                      rotate_left
                      · intro w'
                        go_simp
                        with_reducible rfl
                      rotate_left
                      · simp only [Act.put, List.setIfInBounds_toArray, List.set_cons_zero, List.set_cons_succ, i64_w, i32_w]
                        rfl
                      refine take_ (i := 4) (N := some 37) (v := ?_) (a' := ?_) #[true, true, true, true, true, false, true, true, true, true, false, false] rfl rfl (take_ofW HT_.out HW_.out (by kernel_rfl)) (fun _ _ _ h => h) (Or.inl ⟨by rfl, ?_⟩) hHeld ?_ ?_
                      rotate_left
                      · rintro w' ⟨s0, s1, s2, s3⟩
                        go_simp
                        with_reducible rfl
                      rotate_left
                      · simp only [Act.put, List.setIfInBounds_toArray, List.set_cons_zero, List.set_cons_succ, i64_w, i32_w]
                        rfl
                      refine take_ (i := 10) (N := some 43) (v := ?_) (a' := ?_) #[true, true, true, true, true, false, true, true, true, true, true, false] rfl rfl (take_ofW HT_.out HW_.out (by kernel_rfl)) (fun _ _ _ h => h) (Or.inl ⟨by rfl, ?_⟩) hHeld ?_ ?_
                      rotate_left
                      · rintro w' ⟨s0, s1, s2, s3⟩
                        go_simp
                        with_reducible rfl
                      rotate_left
                      · simp only [Act.put, List.setIfInBounds_toArray, List.set_cons_zero, List.set_cons_succ, i64_w, i32_w]
                        rfl
                      refine one_ (i := 5) (N := some 38) #[true, true, true, true, true, true, true, true, true, true, true, false] rfl rfl (one_of HT_.out (by kernel_rfl)) (by decide) (fun K hK => ?_)
                      refine goes_ Tryd.func30 (by kernel_rfl) rfl #[.string ((rd_T34 l0 x30_2).f0), .int .i64 1] (by rfl) rfl rfl (by (try simp only [List.map_toArray, List.map_cons, List.map_nil]); first | done | rfl | (simp only [List.length_drop, List.length_take]; rfl)) ?_
                      with_reducible refine (bookplateref04_Cut.calls k2 ((rd_T34 l0 x30_2).f0) 1 t513 _ A15.out).mono ?_
                      rintro e w20 ⟨rfl, hb⟩
                      refine ⟨_, rfl, ?_⟩
                      have n0_ := Aside0.mk (below_step (by repeat (first | (with_reducible first | exact HB.out | apply below_alloc | apply pw_below_drewN | apply below_drew1) | exact HB.out)) hb)
                      clear HB
                      have HB := n0_
                      clear n0_
                      (try clear hb)
                      (try clear hb2)
                      (try clear hk)
                      (try clear hi)
                      refine hK.out _ _ ⟨((HB.out.cell (World.block_lt_of_cell? w _ hw512_0)).trans hw512_0), ((HB.out.cell (World.block_lt_of_cell? w _ hw512_1)).trans hw512_1), ((HB.out.cell (World.block_lt_of_cell? w _ hw514_0)).trans hw514_0), ((HB.out.cell (World.block_lt_of_cell? w _ hw514_1)).trans hw514_1)⟩ (fun hHeld => ?_)
                      clear hK K
                      refine norm_ (a' := ?_) ?_ ?_
                      rotate_left
                      · show Act.put _ (some 38) _ = _
                        simp only [Act.put, List.setIfInBounds_toArray, List.set_cons_zero, List.set_cons_succ, i64_w, i32_w]
                        rfl
                      refine pure_ (i := 11) (N := some 44) (v := ?_) (a' := ?_) #[true, true, true, true, true, true, true, true, true, true, true, true] rfl rfl (any_of HT_.out (by kernel_rfl)) (fun _ _ _ h => h) (Or.inl ⟨by rfl, ?_⟩) ?_ ?_
                      rotate_left
                      · intro w'
                        go_simp
                        with_reducible rfl
                      rotate_left
                      · simp only [Act.put, List.setIfInBounds_toArray, List.set_cons_zero, List.set_cons_succ, i64_w, i32_w]
                        rfl
                      refine done_ (done_of HT_.out (by kernel_rfl)) ?_
                      try go_wp2
                      go_ret
                      exact ⟨by first | rfl | (simp [errW_none, errW_some] <;> rfl) | (simp [*, errW_none, errW_some] <;> rfl), by repeat (first | (with_reducible first | exact HB.out | apply below_alloc | apply pw_below_drewN | apply below_drew1) | exact HB.out)⟩
                  · rw [if_neg c14] at H
                    exact absurd H (by simp)
                · rw [if_neg c13] at H
                  exact absurd H (by simp)
              · rw [if_neg c12] at H
                have c12b0 : decide (x30_2 < (l0.length : Int)) = false := decide_eq_false c12
                clear c12
                replace H := Option.bind_eq_some_iff.mp H
                obtain ⟨⟨t515, t516⟩, A210, H⟩ := H
                replace H : ((bookplateref04_Decode.f k2 a2).bind fun bt519 => ((bookplatelaw07_own.f k2 l0).bind fun t523 => (if t516 = true then (if bt519.2 = true then (if a1.size + a2.size ≤ 9223372036854775807 then ((translit_To.f k2 t523 (a1 ++ a2)).bind fun t526 => ((translit_To.f k2 t523 a1).bind fun t527 => ((translit_To.f k2 t523 a2).bind fun t528 => (if t527.size + t528.size ≤ 9223372036854775807 then (if t526.toList = (t527 ++ t528).toList then ((translit_Valid.f t523).bind fun t529 => (if t529 = true then ((translit_Covers.f k2 t523 (a1 ++ a2)).bind fun t530 => ((translit_Covers.f k2 t523 a1).bind fun t531 => (if t531 = true then ((translit_Covers.f k2 t523 a2).bind fun t532 => (some (t530 == t532))) else (some (t530 == false))))) else (some true))) else (some false)) else (none))))) else (none)) else (some true)) else (some true)))) = some r := H
                have A21 := Aside0.mk A210
                clear A210
                replace H := Option.bind_eq_some_iff.mp H
                obtain ⟨⟨t519, t520⟩, A220, H⟩ := H
                replace H : ((bookplatelaw07_own.f k2 l0).bind fun t523 => (if t516 = true then (if t520 = true then (if a1.size + a2.size ≤ 9223372036854775807 then ((translit_To.f k2 t523 (a1 ++ a2)).bind fun t526 => ((translit_To.f k2 t523 a1).bind fun t527 => ((translit_To.f k2 t523 a2).bind fun t528 => (if t527.size + t528.size ≤ 9223372036854775807 then (if t526.toList = (t527 ++ t528).toList then ((translit_Valid.f t523).bind fun t529 => (if t529 = true then ((translit_Covers.f k2 t523 (a1 ++ a2)).bind fun t530 => ((translit_Covers.f k2 t523 a1).bind fun t531 => (if t531 = true then ((translit_Covers.f k2 t523 a2).bind fun t532 => (some (t530 == t532))) else (some (t530 == false))))) else (some true))) else (some false)) else (none))))) else (none)) else (some true)) else (some true))) = some r := H
                have A22 := Aside0.mk A220
                clear A220
                replace H := Option.bind_eq_some_iff.mp H
                obtain ⟨t523, A230, H⟩ := H
                replace H : (if t516 = true then (if t520 = true then (if a1.size + a2.size ≤ 9223372036854775807 then ((translit_To.f k2 t523 (a1 ++ a2)).bind fun t526 => ((translit_To.f k2 t523 a1).bind fun t527 => ((translit_To.f k2 t523 a2).bind fun t528 => (if t527.size + t528.size ≤ 9223372036854775807 then (if t526.toList = (t527 ++ t528).toList then ((translit_Valid.f t523).bind fun t529 => (if t529 = true then ((translit_Covers.f k2 t523 (a1 ++ a2)).bind fun t530 => ((translit_Covers.f k2 t523 a1).bind fun t531 => (if t531 = true then ((translit_Covers.f k2 t523 a2).bind fun t532 => (some (t530 == t532))) else (some (t530 == false))))) else (some true))) else (some false)) else (none))))) else (none)) else (some true)) else (some true)) = some r := H
                have A23 := Aside0.mk A230
                clear A230
                by_cases c24 : t516 = true
                · subst c24
                  have H1 : (if t520 = true then (if a1.size + a2.size ≤ 9223372036854775807 then ((translit_To.f k2 t523 (a1 ++ a2)).bind fun t526 => ((translit_To.f k2 t523 a1).bind fun t527 => ((translit_To.f k2 t523 a2).bind fun t528 => (if t527.size + t528.size ≤ 9223372036854775807 then (if t526.toList = (t527 ++ t528).toList then ((translit_Valid.f t523).bind fun t529 => (if t529 = true then ((translit_Covers.f k2 t523 (a1 ++ a2)).bind fun t530 => ((translit_Covers.f k2 t523 a1).bind fun t531 => (if t531 = true then ((translit_Covers.f k2 t523 a2).bind fun t532 => (some (t530 == t532))) else (some (t530 == false))))) else (some true))) else (some false)) else (none))))) else (none)) else (some true)) = some r := by rw [if_pos rfl] at H; exact H
                  clear H
                  have H := H1
                  clear H1
                  by_cases c25 : t520 = true
                  · subst c25
                    have H1 : (if a1.size + a2.size ≤ 9223372036854775807 then ((translit_To.f k2 t523 (a1 ++ a2)).bind fun t526 => ((translit_To.f k2 t523 a1).bind fun t527 => ((translit_To.f k2 t523 a2).bind fun t528 => (if t527.size + t528.size ≤ 9223372036854775807 then (if t526.toList = (t527 ++ t528).toList then ((translit_Valid.f t523).bind fun t529 => (if t529 = true then ((translit_Covers.f k2 t523 (a1 ++ a2)).bind fun t530 => ((translit_Covers.f k2 t523 a1).bind fun t531 => (if t531 = true then ((translit_Covers.f k2 t523 a2).bind fun t532 => (some (t530 == t532))) else (some (t530 == false))))) else (some true))) else (some false)) else (none))))) else (none)) = some r := by rw [if_pos rfl] at H; exact H
                    clear H
                    have H := H1
                    clear H1
                    by_cases c26 : a1.size + a2.size ≤ 9223372036854775807
                    · rw [if_pos c26] at H
                      have c26b0 := eq_true c26
                      have c26b1 : decide (a1.size + a2.size ≤ 9223372036854775807) = true := decide_eq_true c26
                      try have c26b2 : (9223372036854775807 < a1.size + a2.size) = False := eq_false (Nat.not_lt.2 c26)
                      replace H := Option.bind_eq_some_iff.mp H
                      obtain ⟨t526, A270, H⟩ := H
                      replace H : ((translit_To.f k2 t523 a1).bind fun t527 => ((translit_To.f k2 t523 a2).bind fun t528 => (if t527.size + t528.size ≤ 9223372036854775807 then (if t526.toList = (t527 ++ t528).toList then ((translit_Valid.f t523).bind fun t529 => (if t529 = true then ((translit_Covers.f k2 t523 (a1 ++ a2)).bind fun t530 => ((translit_Covers.f k2 t523 a1).bind fun t531 => (if t531 = true then ((translit_Covers.f k2 t523 a2).bind fun t532 => (some (t530 == t532))) else (some (t530 == false))))) else (some true))) else (some false)) else (none)))) = some r := H
                      have A27 := Aside0.mk A270
                      clear A270
                      replace H := Option.bind_eq_some_iff.mp H
                      obtain ⟨t527, A280, H⟩ := H
                      replace H : ((translit_To.f k2 t523 a2).bind fun t528 => (if t527.size + t528.size ≤ 9223372036854775807 then (if t526.toList = (t527 ++ t528).toList then ((translit_Valid.f t523).bind fun t529 => (if t529 = true then ((translit_Covers.f k2 t523 (a1 ++ a2)).bind fun t530 => ((translit_Covers.f k2 t523 a1).bind fun t531 => (if t531 = true then ((translit_Covers.f k2 t523 a2).bind fun t532 => (some (t530 == t532))) else (some (t530 == false))))) else (some true))) else (some false)) else (none))) = some r := H
                      have A28 := Aside0.mk A280
                      clear A280
                      replace H := Option.bind_eq_some_iff.mp H
                      obtain ⟨t528, A290, H⟩ := H
                      replace H : (if t527.size + t528.size ≤ 9223372036854775807 then (if t526.toList = (t527 ++ t528).toList then ((translit_Valid.f t523).bind fun t529 => (if t529 = true then ((translit_Covers.f k2 t523 (a1 ++ a2)).bind fun t530 => ((translit_Covers.f k2 t523 a1).bind fun t531 => (if t531 = true then ((translit_Covers.f k2 t523 a2).bind fun t532 => (some (t530 == t532))) else (some (t530 == false))))) else (some true))) else (some false)) else (none)) = some r := H
                      have A29 := Aside0.mk A290
                      clear A290
                      by_cases c30 : t527.size + t528.size ≤ 9223372036854775807
                      · rw [if_pos c30] at H
                        have c30b0 := eq_true c30
                        have c30b1 : decide (t527.size + t528.size ≤ 9223372036854775807) = true := decide_eq_true c30
                        try have c30b2 : (9223372036854775807 < t527.size + t528.size) = False := eq_false (Nat.not_lt.2 c30)
                        by_cases c31 : t526.toList = (t527 ++ t528).toList
                        · rw [if_pos c31] at H
                          have c31b0 : (t526.toList == (t527 ++ t528).toList) = true := beq_iff_eq.mpr c31
                          have c31b1 : (t526.toList != (t527 ++ t528).toList) = false := bne_eq_false_iff_eq.mpr c31
                          clear c31
                          replace H := Option.bind_eq_some_iff.mp H
                          obtain ⟨t529, A320, H⟩ := H
                          replace H : (if t529 = true then ((translit_Covers.f k2 t523 (a1 ++ a2)).bind fun t530 => ((translit_Covers.f k2 t523 a1).bind fun t531 => (if t531 = true then ((translit_Covers.f k2 t523 a2).bind fun t532 => (some (t530 == t532))) else (some (t530 == false))))) else (some true)) = some r := H
                          have A32 := Aside0.mk A320
                          clear A320
                          by_cases c33 : t529 = true
                          · subst c33
                            have H1 : ((translit_Covers.f k2 t523 (a1 ++ a2)).bind fun t530 => ((translit_Covers.f k2 t523 a1).bind fun t531 => (if t531 = true then ((translit_Covers.f k2 t523 a2).bind fun t532 => (some (t530 == t532))) else (some (t530 == false))))) = some r := by rw [if_pos rfl] at H; exact H
                            clear H
                            have H := H1
                            clear H1
                            replace H := Option.bind_eq_some_iff.mp H
                            obtain ⟨t530, A340, H⟩ := H
                            replace H : ((translit_Covers.f k2 t523 a1).bind fun t531 => (if t531 = true then ((translit_Covers.f k2 t523 a2).bind fun t532 => (some (t530 == t532))) else (some (t530 == false)))) = some r := H
                            have A34 := Aside0.mk A340
                            clear A340
                            replace H := Option.bind_eq_some_iff.mp H
                            obtain ⟨t531, A350, H⟩ := H
                            replace H : (if t531 = true then ((translit_Covers.f k2 t523 a2).bind fun t532 => (some (t530 == t532))) else (some (t530 == false))) = some r := H
                            have A35 := Aside0.mk A350
                            clear A350
                            by_cases c36 : t531 = true
                            · subst c36
                              have H1 : ((translit_Covers.f k2 t523 a2).bind fun t532 => (some (t530 == t532))) = some r := by rw [if_pos rfl] at H; exact H
                              clear H
                              have H := H1
                              clear H1
                              replace H := Option.bind_eq_some_iff.mp H
                              obtain ⟨t532, A370, H⟩ := H
                              replace H : (some (t530 == t532)) = some r := H
                              have A37 := Aside0.mk A370
                              clear A370
                              obtain rfl := Option.some.inj H
                              go_wp2_with (first | ((with_reducible refine gate_callee (f := 31) rfl ?_); refine goesL_ (some 48) rfl rfl Tryd.func31 (by kernel_rfl) rfl #[.string a1] rfl (by (try simp only [List.map_toArray, List.map_cons, List.map_nil]); first | done | rfl | (simp only [List.length_drop, List.length_take]; rfl)) ?_; (with_reducible refine (bookplateref04_Decode.calls k2 a1 t515 true _ A21.out).mono ?_); rintro e w38 ⟨v517, rfl, ho0, hb⟩; refine ⟨_, rfl, ?_⟩; have n0_ := Aside0.mk (Kd.R_lower ho0 (below_size (by repeat (first | (with_reducible first | exact HB.out | apply below_alloc | apply pw_below_drewN | apply below_drew1) | exact HB.out)))); have n1_ := Aside0.mk (below_step (by repeat (first | (with_reducible first | exact HB.out | apply below_alloc | apply pw_below_drewN | apply below_drew1) | exact HB.out)) hb); clear HB; have HO518 := n0_; have HB := n1_; clear n0_ n1_; (try clear hb); (try clear hb2); (try clear hk); (try clear hi); (try clear ho0)) | ((with_reducible refine gate_callee (f := 31) rfl ?_); refine goesL_ (some 53) rfl rfl Tryd.func31 (by kernel_rfl) rfl #[.string a2] rfl (by (try simp only [List.map_toArray, List.map_cons, List.map_nil]); first | done | rfl | (simp only [List.length_drop, List.length_take]; rfl)) ?_; (with_reducible refine (bookplateref04_Decode.calls k2 a2 t519 true _ A22.out).mono ?_); rintro e w39 ⟨v521, rfl, ho0, hb⟩; refine ⟨_, rfl, ?_⟩; have n0_ := Aside0.mk (Kd.R_elder' (by (with_reducible repeat (first | apply Kd.R_alloc | apply Kd.R_drewN | apply Kd.R_drew)); exact HO518.out) (Kd.R_base ho0) hb); have n1_ := Aside0.mk (Kd.R_lower (Kd.R_new' ho0 (Kd.R_lt (by (with_reducible repeat (first | apply Kd.R_alloc | apply Kd.R_drewN | apply Kd.R_drew)); exact HO518.out))) (below_size (by repeat (first | (with_reducible first | exact HB.out | apply below_alloc | apply pw_below_drewN | apply below_drew1) | exact HB.out)))); have n2_ := Aside0.mk (below_step (by repeat (first | (with_reducible first | exact HB.out | apply below_alloc | apply pw_below_drewN | apply below_drew1) | exact HB.out)) hb); clear HO518; clear HB; have HO518 := n0_; have HO522 := n1_; have HB := n2_; clear n0_ n1_ n2_; (try clear hb); (try clear hb2); (try clear hk); (try clear hi); (try clear ho0)) | ((with_reducible refine gate_callee (f := 19) rfl ?_); refine goesL_ (some 57) rfl rfl Tryd.func19 (by kernel_rfl) rfl #[.slice A0 l0.length c0] rfl (by (try simp only [List.map_toArray, List.map_cons, List.map_nil]); first | done | rfl | (simp only [List.length_drop, List.length_take]; rfl)) ?_; (with_reducible refine (bookplatelaw07_own.calls k2 _ _ l0 t523 _ ?side1 ?side2 A23.out).mono ?_); (case side1 => repeat (first | exact (Kd.C_below HR0.out HB.out) | (with_reducible refine Kd.C_alloc ?_ _) | (with_reducible refine Kd.C_drewN ?_ _) | (with_reducible refine Kd.C_drew ?_))); (case side2 => exact HC0.out); rintro e w40 ⟨v524, rfl, ho0, hb⟩; refine ⟨_, rfl, ?_⟩; have n0_ := Aside0.mk (Kd.R_below (by (with_reducible repeat (first | apply Kd.R_alloc | apply Kd.R_drewN | apply Kd.R_drew)); exact HO518.out) hb); have n1_ := Aside0.mk (Kd.R_below (by (with_reducible repeat (first | apply Kd.R_alloc | apply Kd.R_drewN | apply Kd.R_drew)); exact HO522.out) hb); have n2_ := Aside0.mk (Kd.R_lower ho0 (below_size (by repeat (first | (with_reducible first | exact HB.out | apply below_alloc | apply pw_below_drewN | apply below_drew1) | exact HB.out)))); have n3_ := Aside0.mk (below_step (by repeat (first | (with_reducible first | exact HB.out | apply below_alloc | apply pw_below_drewN | apply below_drew1) | exact HB.out)) hb); clear HO518; clear HO522; clear HB; have HO518 := n0_; have HO522 := n1_; have HO525 := n2_; have HB := n3_; clear n0_ n1_ n2_ n3_; (try clear hb); (try clear hb2); (try clear hk); (try clear hi); (try clear ho0); obtain ⟨Ao41, co41, eo41⟩ := Kd.R_slice HO525.out; subst eo41) | (go_at_call 24; (with_reducible refine (translit_To.calls k2 _ _ t523 (a1 ++ a2) t526 _ ?side1 ?side2 ?side3 A27.out).mono ?_); (case side1 => repeat (first | exact (Kd.R_reads' HO525.out).2.2 | (with_reducible refine Kd.C_alloc ?_ _) | (with_reducible refine Kd.C_drewN ?_ _) | (with_reducible refine Kd.C_drew ?_))); (case side2 => exact (Kd.R_reads' HO525.out).2.1); (case side3 => exact GT1.below (HG.out.one) (by repeat (first | (with_reducible first | exact HB.out | apply below_alloc | apply pw_below_drewN | apply below_drew1) | exact HB.out))); rintro e w42 ⟨rfl, hb⟩; have n0_ := Aside0.mk (Kd.R_below (by (with_reducible repeat (first | apply Kd.R_alloc | apply Kd.R_drewN | apply Kd.R_drew)); exact HO518.out) hb); have n1_ := Aside0.mk (Kd.R_below (by (with_reducible repeat (first | apply Kd.R_alloc | apply Kd.R_drewN | apply Kd.R_drew)); exact HO522.out) hb); have n2_ := Aside0.mk (Kd.R_below (by (with_reducible repeat (first | apply Kd.R_alloc | apply Kd.R_drewN | apply Kd.R_drew)); exact HO525.out) hb); have n3_ := Aside0.mk (below_step (by repeat (first | (with_reducible first | exact HB.out | apply below_alloc | apply pw_below_drewN | apply below_drew1) | exact HB.out)) hb); clear HO518; clear HO522; clear HO525; clear HB; have HO518 := n0_; have HO522 := n1_; have HO525 := n2_; have HB := n3_; clear n0_ n1_ n2_ n3_; (try clear hb); (try clear hb2); (try clear hk); (try clear hi)) | (go_at_call 24; (with_reducible refine (translit_To.calls k2 _ _ t523 a1 t527 _ ?side1 ?side2 ?side3 A28.out).mono ?_); (case side1 => repeat (first | exact (Kd.R_reads' HO525.out).2.2 | (with_reducible refine Kd.C_alloc ?_ _) | (with_reducible refine Kd.C_drewN ?_ _) | (with_reducible refine Kd.C_drew ?_))); (case side2 => exact (Kd.R_reads' HO525.out).2.1); (case side3 => exact GT1.below (HG.out.one) (by repeat (first | (with_reducible first | exact HB.out | apply below_alloc | apply pw_below_drewN | apply below_drew1) | exact HB.out))); rintro e w43 ⟨rfl, hb⟩; have n0_ := Aside0.mk (Kd.R_below (by (with_reducible repeat (first | apply Kd.R_alloc | apply Kd.R_drewN | apply Kd.R_drew)); exact HO518.out) hb); have n1_ := Aside0.mk (Kd.R_below (by (with_reducible repeat (first | apply Kd.R_alloc | apply Kd.R_drewN | apply Kd.R_drew)); exact HO522.out) hb); have n2_ := Aside0.mk (Kd.R_below (by (with_reducible repeat (first | apply Kd.R_alloc | apply Kd.R_drewN | apply Kd.R_drew)); exact HO525.out) hb); have n3_ := Aside0.mk (below_step (by repeat (first | (with_reducible first | exact HB.out | apply below_alloc | apply pw_below_drewN | apply below_drew1) | exact HB.out)) hb); clear HO518; clear HO522; clear HO525; clear HB; have HO518 := n0_; have HO522 := n1_; have HO525 := n2_; have HB := n3_; clear n0_ n1_ n2_ n3_; (try clear hb); (try clear hb2); (try clear hk); (try clear hi)) | (go_at_call 24; (with_reducible refine (translit_To.calls k2 _ _ t523 a2 t528 _ ?side1 ?side2 ?side3 A29.out).mono ?_); (case side1 => repeat (first | exact (Kd.R_reads' HO525.out).2.2 | (with_reducible refine Kd.C_alloc ?_ _) | (with_reducible refine Kd.C_drewN ?_ _) | (with_reducible refine Kd.C_drew ?_))); (case side2 => exact (Kd.R_reads' HO525.out).2.1); (case side3 => exact GT1.below (HG.out.one) (by repeat (first | (with_reducible first | exact HB.out | apply below_alloc | apply pw_below_drewN | apply below_drew1) | exact HB.out))); rintro e w44 ⟨rfl, hb⟩; have n0_ := Aside0.mk (Kd.R_below (by (with_reducible repeat (first | apply Kd.R_alloc | apply Kd.R_drewN | apply Kd.R_drew)); exact HO518.out) hb); have n1_ := Aside0.mk (Kd.R_below (by (with_reducible repeat (first | apply Kd.R_alloc | apply Kd.R_drewN | apply Kd.R_drew)); exact HO522.out) hb); have n2_ := Aside0.mk (Kd.R_below (by (with_reducible repeat (first | apply Kd.R_alloc | apply Kd.R_drewN | apply Kd.R_drew)); exact HO525.out) hb); have n3_ := Aside0.mk (below_step (by repeat (first | (with_reducible first | exact HB.out | apply below_alloc | apply pw_below_drewN | apply below_drew1) | exact HB.out)) hb); clear HO518; clear HO522; clear HO525; clear HB; have HO518 := n0_; have HO522 := n1_; have HO525 := n2_; have HB := n3_; clear n0_ n1_ n2_ n3_; (try clear hb); (try clear hb2); (try clear hk); (try clear hi)) | (go_at_call 20; (with_reducible refine (translit_Valid.calls _ _ t523 true _ ?side1 ?side2 ?side3 A32.out).mono ?_); (case side1 => repeat (first | exact (Kd.R_reads' HO525.out).2.2 | (with_reducible refine Kd.C_alloc ?_ _) | (with_reducible refine Kd.C_drewN ?_ _) | (with_reducible refine Kd.C_drew ?_))); (case side2 => exact (Kd.R_reads' HO525.out).2.1); (case side3 => exact GT1.below (HG.out.one) (by repeat (first | (with_reducible first | exact HB.out | apply below_alloc | apply pw_below_drewN | apply below_drew1) | exact HB.out))); rintro e w45 ⟨rfl, hb⟩; have n0_ := Aside0.mk (Kd.R_below (by (with_reducible repeat (first | apply Kd.R_alloc | apply Kd.R_drewN | apply Kd.R_drew)); exact HO518.out) hb); have n1_ := Aside0.mk (Kd.R_below (by (with_reducible repeat (first | apply Kd.R_alloc | apply Kd.R_drewN | apply Kd.R_drew)); exact HO522.out) hb); have n2_ := Aside0.mk (Kd.R_below (by (with_reducible repeat (first | apply Kd.R_alloc | apply Kd.R_drewN | apply Kd.R_drew)); exact HO525.out) hb); have n3_ := Aside0.mk (below_step (by repeat (first | (with_reducible first | exact HB.out | apply below_alloc | apply pw_below_drewN | apply below_drew1) | exact HB.out)) hb); clear HO518; clear HO522; clear HO525; clear HB; have HO518 := n0_; have HO522 := n1_; have HO525 := n2_; have HB := n3_; clear n0_ n1_ n2_ n3_; (try clear hb); (try clear hb2); (try clear hk); (try clear hi)) | (go_at_call 28; (with_reducible refine (translit_Covers.calls k2 _ _ t523 (a1 ++ a2) t530 _ ?side1 ?side2 ?side3 A34.out).mono ?_); (case side1 => repeat (first | exact (Kd.R_reads' HO525.out).2.2 | (with_reducible refine Kd.C_alloc ?_ _) | (with_reducible refine Kd.C_drewN ?_ _) | (with_reducible refine Kd.C_drew ?_))); (case side2 => exact (Kd.R_reads' HO525.out).2.1); (case side3 => exact GT1.below (HG.out.one) (by repeat (first | (with_reducible first | exact HB.out | apply below_alloc | apply pw_below_drewN | apply below_drew1) | exact HB.out))); rintro e w46 ⟨rfl, hb⟩; have n0_ := Aside0.mk (Kd.R_below (by (with_reducible repeat (first | apply Kd.R_alloc | apply Kd.R_drewN | apply Kd.R_drew)); exact HO518.out) hb); have n1_ := Aside0.mk (Kd.R_below (by (with_reducible repeat (first | apply Kd.R_alloc | apply Kd.R_drewN | apply Kd.R_drew)); exact HO522.out) hb); have n2_ := Aside0.mk (Kd.R_below (by (with_reducible repeat (first | apply Kd.R_alloc | apply Kd.R_drewN | apply Kd.R_drew)); exact HO525.out) hb); have n3_ := Aside0.mk (below_step (by repeat (first | (with_reducible first | exact HB.out | apply below_alloc | apply pw_below_drewN | apply below_drew1) | exact HB.out)) hb); clear HO518; clear HO522; clear HO525; clear HB; have HO518 := n0_; have HO522 := n1_; have HO525 := n2_; have HB := n3_; clear n0_ n1_ n2_ n3_; (try clear hb); (try clear hb2); (try clear hk); (try clear hi)) | (go_at_call 28; (with_reducible refine (translit_Covers.calls k2 _ _ t523 a1 true _ ?side1 ?side2 ?side3 A35.out).mono ?_); (case side1 => repeat (first | exact (Kd.R_reads' HO525.out).2.2 | (with_reducible refine Kd.C_alloc ?_ _) | (with_reducible refine Kd.C_drewN ?_ _) | (with_reducible refine Kd.C_drew ?_))); (case side2 => exact (Kd.R_reads' HO525.out).2.1); (case side3 => exact GT1.below (HG.out.one) (by repeat (first | (with_reducible first | exact HB.out | apply below_alloc | apply pw_below_drewN | apply below_drew1) | exact HB.out))); rintro e w47 ⟨rfl, hb⟩; have n0_ := Aside0.mk (Kd.R_below (by (with_reducible repeat (first | apply Kd.R_alloc | apply Kd.R_drewN | apply Kd.R_drew)); exact HO518.out) hb); have n1_ := Aside0.mk (Kd.R_below (by (with_reducible repeat (first | apply Kd.R_alloc | apply Kd.R_drewN | apply Kd.R_drew)); exact HO522.out) hb); have n2_ := Aside0.mk (Kd.R_below (by (with_reducible repeat (first | apply Kd.R_alloc | apply Kd.R_drewN | apply Kd.R_drew)); exact HO525.out) hb); have n3_ := Aside0.mk (below_step (by repeat (first | (with_reducible first | exact HB.out | apply below_alloc | apply pw_below_drewN | apply below_drew1) | exact HB.out)) hb); clear HO518; clear HO522; clear HO525; clear HB; have HO518 := n0_; have HO522 := n1_; have HO525 := n2_; have HB := n3_; clear n0_ n1_ n2_ n3_; (try clear hb); (try clear hb2); (try clear hk); (try clear hi)) | (go_at_call 28; (with_reducible refine (translit_Covers.calls k2 _ _ t523 a2 t532 _ ?side1 ?side2 ?side3 A37.out).mono ?_); (case side1 => repeat (first | exact (Kd.R_reads' HO525.out).2.2 | (with_reducible refine Kd.C_alloc ?_ _) | (with_reducible refine Kd.C_drewN ?_ _) | (with_reducible refine Kd.C_drew ?_))); (case side2 => exact (Kd.R_reads' HO525.out).2.1); (case side3 => exact GT1.below (HG.out.one) (by repeat (first | (with_reducible first | exact HB.out | apply below_alloc | apply pw_below_drewN | apply below_drew1) | exact HB.out))); rintro e w48 ⟨rfl, hb⟩; have n0_ := Aside0.mk (Kd.R_below (by (with_reducible repeat (first | apply Kd.R_alloc | apply Kd.R_drewN | apply Kd.R_drew)); exact HO518.out) hb); have n1_ := Aside0.mk (Kd.R_below (by (with_reducible repeat (first | apply Kd.R_alloc | apply Kd.R_drewN | apply Kd.R_drew)); exact HO522.out) hb); have n2_ := Aside0.mk (Kd.R_below (by (with_reducible repeat (first | apply Kd.R_alloc | apply Kd.R_drewN | apply Kd.R_drew)); exact HO525.out) hb); have n3_ := Aside0.mk (below_step (by repeat (first | (with_reducible first | exact HB.out | apply below_alloc | apply pw_below_drewN | apply below_drew1) | exact HB.out)) hb); clear HO518; clear HO522; clear HO525; clear HB; have HO518 := n0_; have HO522 := n1_; have HO525 := n2_; have HB := n3_; clear n0_ n1_ n2_ n3_; (try clear hb); (try clear hb2); (try clear hk); (try clear hi)))
                              go_ret
                              exact ⟨by first | rfl | (simp [errW_none, errW_some] <;> rfl) | (simp [*, errW_none, errW_some] <;> rfl), by repeat (first | (with_reducible first | exact HB.out | apply below_alloc | apply pw_below_drewN | apply below_drew1) | exact HB.out)⟩
                            · replace c36 := Bool.eq_false_iff.mpr c36
                              subst c36
                              have H1 : (some (t530 == false)) = some r := by rw [if_neg (show ¬ (false = true) by decide)] at H; exact H
                              clear H
                              have H := H1
                              clear H1
                              obtain rfl := Option.some.inj H
                              go_wp2_with (first | ((with_reducible refine gate_callee (f := 31) rfl ?_); refine goesL_ (some 48) rfl rfl Tryd.func31 (by kernel_rfl) rfl #[.string a1] rfl (by (try simp only [List.map_toArray, List.map_cons, List.map_nil]); first | done | rfl | (simp only [List.length_drop, List.length_take]; rfl)) ?_; (with_reducible refine (bookplateref04_Decode.calls k2 a1 t515 true _ A21.out).mono ?_); rintro e w49 ⟨v517, rfl, ho0, hb⟩; refine ⟨_, rfl, ?_⟩; have n0_ := Aside0.mk (Kd.R_lower ho0 (below_size (by repeat (first | (with_reducible first | exact HB.out | apply below_alloc | apply pw_below_drewN | apply below_drew1) | exact HB.out)))); have n1_ := Aside0.mk (below_step (by repeat (first | (with_reducible first | exact HB.out | apply below_alloc | apply pw_below_drewN | apply below_drew1) | exact HB.out)) hb); clear HB; have HO518 := n0_; have HB := n1_; clear n0_ n1_; (try clear hb); (try clear hb2); (try clear hk); (try clear hi); (try clear ho0)) | ((with_reducible refine gate_callee (f := 31) rfl ?_); refine goesL_ (some 53) rfl rfl Tryd.func31 (by kernel_rfl) rfl #[.string a2] rfl (by (try simp only [List.map_toArray, List.map_cons, List.map_nil]); first | done | rfl | (simp only [List.length_drop, List.length_take]; rfl)) ?_; (with_reducible refine (bookplateref04_Decode.calls k2 a2 t519 true _ A22.out).mono ?_); rintro e w50 ⟨v521, rfl, ho0, hb⟩; refine ⟨_, rfl, ?_⟩; have n0_ := Aside0.mk (Kd.R_elder' (by (with_reducible repeat (first | apply Kd.R_alloc | apply Kd.R_drewN | apply Kd.R_drew)); exact HO518.out) (Kd.R_base ho0) hb); have n1_ := Aside0.mk (Kd.R_lower (Kd.R_new' ho0 (Kd.R_lt (by (with_reducible repeat (first | apply Kd.R_alloc | apply Kd.R_drewN | apply Kd.R_drew)); exact HO518.out))) (below_size (by repeat (first | (with_reducible first | exact HB.out | apply below_alloc | apply pw_below_drewN | apply below_drew1) | exact HB.out)))); have n2_ := Aside0.mk (below_step (by repeat (first | (with_reducible first | exact HB.out | apply below_alloc | apply pw_below_drewN | apply below_drew1) | exact HB.out)) hb); clear HO518; clear HB; have HO518 := n0_; have HO522 := n1_; have HB := n2_; clear n0_ n1_ n2_; (try clear hb); (try clear hb2); (try clear hk); (try clear hi); (try clear ho0)) | ((with_reducible refine gate_callee (f := 19) rfl ?_); refine goesL_ (some 57) rfl rfl Tryd.func19 (by kernel_rfl) rfl #[.slice A0 l0.length c0] rfl (by (try simp only [List.map_toArray, List.map_cons, List.map_nil]); first | done | rfl | (simp only [List.length_drop, List.length_take]; rfl)) ?_; (with_reducible refine (bookplatelaw07_own.calls k2 _ _ l0 t523 _ ?side1 ?side2 A23.out).mono ?_); (case side1 => repeat (first | exact (Kd.C_below HR0.out HB.out) | (with_reducible refine Kd.C_alloc ?_ _) | (with_reducible refine Kd.C_drewN ?_ _) | (with_reducible refine Kd.C_drew ?_))); (case side2 => exact HC0.out); rintro e w51 ⟨v524, rfl, ho0, hb⟩; refine ⟨_, rfl, ?_⟩; have n0_ := Aside0.mk (Kd.R_below (by (with_reducible repeat (first | apply Kd.R_alloc | apply Kd.R_drewN | apply Kd.R_drew)); exact HO518.out) hb); have n1_ := Aside0.mk (Kd.R_below (by (with_reducible repeat (first | apply Kd.R_alloc | apply Kd.R_drewN | apply Kd.R_drew)); exact HO522.out) hb); have n2_ := Aside0.mk (Kd.R_lower ho0 (below_size (by repeat (first | (with_reducible first | exact HB.out | apply below_alloc | apply pw_below_drewN | apply below_drew1) | exact HB.out)))); have n3_ := Aside0.mk (below_step (by repeat (first | (with_reducible first | exact HB.out | apply below_alloc | apply pw_below_drewN | apply below_drew1) | exact HB.out)) hb); clear HO518; clear HO522; clear HB; have HO518 := n0_; have HO522 := n1_; have HO525 := n2_; have HB := n3_; clear n0_ n1_ n2_ n3_; (try clear hb); (try clear hb2); (try clear hk); (try clear hi); (try clear ho0); obtain ⟨Ao52, co52, eo52⟩ := Kd.R_slice HO525.out; subst eo52) | (go_at_call 24; (with_reducible refine (translit_To.calls k2 _ _ t523 (a1 ++ a2) t526 _ ?side1 ?side2 ?side3 A27.out).mono ?_); (case side1 => repeat (first | exact (Kd.R_reads' HO525.out).2.2 | (with_reducible refine Kd.C_alloc ?_ _) | (with_reducible refine Kd.C_drewN ?_ _) | (with_reducible refine Kd.C_drew ?_))); (case side2 => exact (Kd.R_reads' HO525.out).2.1); (case side3 => exact GT1.below (HG.out.one) (by repeat (first | (with_reducible first | exact HB.out | apply below_alloc | apply pw_below_drewN | apply below_drew1) | exact HB.out))); rintro e w53 ⟨rfl, hb⟩; have n0_ := Aside0.mk (Kd.R_below (by (with_reducible repeat (first | apply Kd.R_alloc | apply Kd.R_drewN | apply Kd.R_drew)); exact HO518.out) hb); have n1_ := Aside0.mk (Kd.R_below (by (with_reducible repeat (first | apply Kd.R_alloc | apply Kd.R_drewN | apply Kd.R_drew)); exact HO522.out) hb); have n2_ := Aside0.mk (Kd.R_below (by (with_reducible repeat (first | apply Kd.R_alloc | apply Kd.R_drewN | apply Kd.R_drew)); exact HO525.out) hb); have n3_ := Aside0.mk (below_step (by repeat (first | (with_reducible first | exact HB.out | apply below_alloc | apply pw_below_drewN | apply below_drew1) | exact HB.out)) hb); clear HO518; clear HO522; clear HO525; clear HB; have HO518 := n0_; have HO522 := n1_; have HO525 := n2_; have HB := n3_; clear n0_ n1_ n2_ n3_; (try clear hb); (try clear hb2); (try clear hk); (try clear hi)) | (go_at_call 24; (with_reducible refine (translit_To.calls k2 _ _ t523 a1 t527 _ ?side1 ?side2 ?side3 A28.out).mono ?_); (case side1 => repeat (first | exact (Kd.R_reads' HO525.out).2.2 | (with_reducible refine Kd.C_alloc ?_ _) | (with_reducible refine Kd.C_drewN ?_ _) | (with_reducible refine Kd.C_drew ?_))); (case side2 => exact (Kd.R_reads' HO525.out).2.1); (case side3 => exact GT1.below (HG.out.one) (by repeat (first | (with_reducible first | exact HB.out | apply below_alloc | apply pw_below_drewN | apply below_drew1) | exact HB.out))); rintro e w54 ⟨rfl, hb⟩; have n0_ := Aside0.mk (Kd.R_below (by (with_reducible repeat (first | apply Kd.R_alloc | apply Kd.R_drewN | apply Kd.R_drew)); exact HO518.out) hb); have n1_ := Aside0.mk (Kd.R_below (by (with_reducible repeat (first | apply Kd.R_alloc | apply Kd.R_drewN | apply Kd.R_drew)); exact HO522.out) hb); have n2_ := Aside0.mk (Kd.R_below (by (with_reducible repeat (first | apply Kd.R_alloc | apply Kd.R_drewN | apply Kd.R_drew)); exact HO525.out) hb); have n3_ := Aside0.mk (below_step (by repeat (first | (with_reducible first | exact HB.out | apply below_alloc | apply pw_below_drewN | apply below_drew1) | exact HB.out)) hb); clear HO518; clear HO522; clear HO525; clear HB; have HO518 := n0_; have HO522 := n1_; have HO525 := n2_; have HB := n3_; clear n0_ n1_ n2_ n3_; (try clear hb); (try clear hb2); (try clear hk); (try clear hi)) | (go_at_call 24; (with_reducible refine (translit_To.calls k2 _ _ t523 a2 t528 _ ?side1 ?side2 ?side3 A29.out).mono ?_); (case side1 => repeat (first | exact (Kd.R_reads' HO525.out).2.2 | (with_reducible refine Kd.C_alloc ?_ _) | (with_reducible refine Kd.C_drewN ?_ _) | (with_reducible refine Kd.C_drew ?_))); (case side2 => exact (Kd.R_reads' HO525.out).2.1); (case side3 => exact GT1.below (HG.out.one) (by repeat (first | (with_reducible first | exact HB.out | apply below_alloc | apply pw_below_drewN | apply below_drew1) | exact HB.out))); rintro e w55 ⟨rfl, hb⟩; have n0_ := Aside0.mk (Kd.R_below (by (with_reducible repeat (first | apply Kd.R_alloc | apply Kd.R_drewN | apply Kd.R_drew)); exact HO518.out) hb); have n1_ := Aside0.mk (Kd.R_below (by (with_reducible repeat (first | apply Kd.R_alloc | apply Kd.R_drewN | apply Kd.R_drew)); exact HO522.out) hb); have n2_ := Aside0.mk (Kd.R_below (by (with_reducible repeat (first | apply Kd.R_alloc | apply Kd.R_drewN | apply Kd.R_drew)); exact HO525.out) hb); have n3_ := Aside0.mk (below_step (by repeat (first | (with_reducible first | exact HB.out | apply below_alloc | apply pw_below_drewN | apply below_drew1) | exact HB.out)) hb); clear HO518; clear HO522; clear HO525; clear HB; have HO518 := n0_; have HO522 := n1_; have HO525 := n2_; have HB := n3_; clear n0_ n1_ n2_ n3_; (try clear hb); (try clear hb2); (try clear hk); (try clear hi)) | (go_at_call 20; (with_reducible refine (translit_Valid.calls _ _ t523 true _ ?side1 ?side2 ?side3 A32.out).mono ?_); (case side1 => repeat (first | exact (Kd.R_reads' HO525.out).2.2 | (with_reducible refine Kd.C_alloc ?_ _) | (with_reducible refine Kd.C_drewN ?_ _) | (with_reducible refine Kd.C_drew ?_))); (case side2 => exact (Kd.R_reads' HO525.out).2.1); (case side3 => exact GT1.below (HG.out.one) (by repeat (first | (with_reducible first | exact HB.out | apply below_alloc | apply pw_below_drewN | apply below_drew1) | exact HB.out))); rintro e w56 ⟨rfl, hb⟩; have n0_ := Aside0.mk (Kd.R_below (by (with_reducible repeat (first | apply Kd.R_alloc | apply Kd.R_drewN | apply Kd.R_drew)); exact HO518.out) hb); have n1_ := Aside0.mk (Kd.R_below (by (with_reducible repeat (first | apply Kd.R_alloc | apply Kd.R_drewN | apply Kd.R_drew)); exact HO522.out) hb); have n2_ := Aside0.mk (Kd.R_below (by (with_reducible repeat (first | apply Kd.R_alloc | apply Kd.R_drewN | apply Kd.R_drew)); exact HO525.out) hb); have n3_ := Aside0.mk (below_step (by repeat (first | (with_reducible first | exact HB.out | apply below_alloc | apply pw_below_drewN | apply below_drew1) | exact HB.out)) hb); clear HO518; clear HO522; clear HO525; clear HB; have HO518 := n0_; have HO522 := n1_; have HO525 := n2_; have HB := n3_; clear n0_ n1_ n2_ n3_; (try clear hb); (try clear hb2); (try clear hk); (try clear hi)) | (go_at_call 28; (with_reducible refine (translit_Covers.calls k2 _ _ t523 (a1 ++ a2) t530 _ ?side1 ?side2 ?side3 A34.out).mono ?_); (case side1 => repeat (first | exact (Kd.R_reads' HO525.out).2.2 | (with_reducible refine Kd.C_alloc ?_ _) | (with_reducible refine Kd.C_drewN ?_ _) | (with_reducible refine Kd.C_drew ?_))); (case side2 => exact (Kd.R_reads' HO525.out).2.1); (case side3 => exact GT1.below (HG.out.one) (by repeat (first | (with_reducible first | exact HB.out | apply below_alloc | apply pw_below_drewN | apply below_drew1) | exact HB.out))); rintro e w57 ⟨rfl, hb⟩; have n0_ := Aside0.mk (Kd.R_below (by (with_reducible repeat (first | apply Kd.R_alloc | apply Kd.R_drewN | apply Kd.R_drew)); exact HO518.out) hb); have n1_ := Aside0.mk (Kd.R_below (by (with_reducible repeat (first | apply Kd.R_alloc | apply Kd.R_drewN | apply Kd.R_drew)); exact HO522.out) hb); have n2_ := Aside0.mk (Kd.R_below (by (with_reducible repeat (first | apply Kd.R_alloc | apply Kd.R_drewN | apply Kd.R_drew)); exact HO525.out) hb); have n3_ := Aside0.mk (below_step (by repeat (first | (with_reducible first | exact HB.out | apply below_alloc | apply pw_below_drewN | apply below_drew1) | exact HB.out)) hb); clear HO518; clear HO522; clear HO525; clear HB; have HO518 := n0_; have HO522 := n1_; have HO525 := n2_; have HB := n3_; clear n0_ n1_ n2_ n3_; (try clear hb); (try clear hb2); (try clear hk); (try clear hi)) | (go_at_call 28; (with_reducible refine (translit_Covers.calls k2 _ _ t523 a1 false _ ?side1 ?side2 ?side3 A35.out).mono ?_); (case side1 => repeat (first | exact (Kd.R_reads' HO525.out).2.2 | (with_reducible refine Kd.C_alloc ?_ _) | (with_reducible refine Kd.C_drewN ?_ _) | (with_reducible refine Kd.C_drew ?_))); (case side2 => exact (Kd.R_reads' HO525.out).2.1); (case side3 => exact GT1.below (HG.out.one) (by repeat (first | (with_reducible first | exact HB.out | apply below_alloc | apply pw_below_drewN | apply below_drew1) | exact HB.out))); rintro e w58 ⟨rfl, hb⟩; have n0_ := Aside0.mk (Kd.R_below (by (with_reducible repeat (first | apply Kd.R_alloc | apply Kd.R_drewN | apply Kd.R_drew)); exact HO518.out) hb); have n1_ := Aside0.mk (Kd.R_below (by (with_reducible repeat (first | apply Kd.R_alloc | apply Kd.R_drewN | apply Kd.R_drew)); exact HO522.out) hb); have n2_ := Aside0.mk (Kd.R_below (by (with_reducible repeat (first | apply Kd.R_alloc | apply Kd.R_drewN | apply Kd.R_drew)); exact HO525.out) hb); have n3_ := Aside0.mk (below_step (by repeat (first | (with_reducible first | exact HB.out | apply below_alloc | apply pw_below_drewN | apply below_drew1) | exact HB.out)) hb); clear HO518; clear HO522; clear HO525; clear HB; have HO518 := n0_; have HO522 := n1_; have HO525 := n2_; have HB := n3_; clear n0_ n1_ n2_ n3_; (try clear hb); (try clear hb2); (try clear hk); (try clear hi)))
                              go_ret
                              exact ⟨by first | rfl | (simp [errW_none, errW_some] <;> rfl) | (simp [*, errW_none, errW_some] <;> rfl), by repeat (first | (with_reducible first | exact HB.out | apply below_alloc | apply pw_below_drewN | apply below_drew1) | exact HB.out)⟩
                          · replace c33 := Bool.eq_false_iff.mpr c33
                            subst c33
                            have H1 : (some true) = some r := by rw [if_neg (show ¬ (false = true) by decide)] at H; exact H
                            clear H
                            have H := H1
                            clear H1
                            obtain rfl := Option.some.inj H
                            go_wp2_with (first | ((with_reducible refine gate_callee (f := 31) rfl ?_); refine goesL_ (some 48) rfl rfl Tryd.func31 (by kernel_rfl) rfl #[.string a1] rfl (by (try simp only [List.map_toArray, List.map_cons, List.map_nil]); first | done | rfl | (simp only [List.length_drop, List.length_take]; rfl)) ?_; (with_reducible refine (bookplateref04_Decode.calls k2 a1 t515 true _ A21.out).mono ?_); rintro e w59 ⟨v517, rfl, ho0, hb⟩; refine ⟨_, rfl, ?_⟩; have n0_ := Aside0.mk (Kd.R_lower ho0 (below_size (by repeat (first | (with_reducible first | exact HB.out | apply below_alloc | apply pw_below_drewN | apply below_drew1) | exact HB.out)))); have n1_ := Aside0.mk (below_step (by repeat (first | (with_reducible first | exact HB.out | apply below_alloc | apply pw_below_drewN | apply below_drew1) | exact HB.out)) hb); clear HB; have HO518 := n0_; have HB := n1_; clear n0_ n1_; (try clear hb); (try clear hb2); (try clear hk); (try clear hi); (try clear ho0)) | ((with_reducible refine gate_callee (f := 31) rfl ?_); refine goesL_ (some 53) rfl rfl Tryd.func31 (by kernel_rfl) rfl #[.string a2] rfl (by (try simp only [List.map_toArray, List.map_cons, List.map_nil]); first | done | rfl | (simp only [List.length_drop, List.length_take]; rfl)) ?_; (with_reducible refine (bookplateref04_Decode.calls k2 a2 t519 true _ A22.out).mono ?_); rintro e w60 ⟨v521, rfl, ho0, hb⟩; refine ⟨_, rfl, ?_⟩; have n0_ := Aside0.mk (Kd.R_elder' (by (with_reducible repeat (first | apply Kd.R_alloc | apply Kd.R_drewN | apply Kd.R_drew)); exact HO518.out) (Kd.R_base ho0) hb); have n1_ := Aside0.mk (Kd.R_lower (Kd.R_new' ho0 (Kd.R_lt (by (with_reducible repeat (first | apply Kd.R_alloc | apply Kd.R_drewN | apply Kd.R_drew)); exact HO518.out))) (below_size (by repeat (first | (with_reducible first | exact HB.out | apply below_alloc | apply pw_below_drewN | apply below_drew1) | exact HB.out)))); have n2_ := Aside0.mk (below_step (by repeat (first | (with_reducible first | exact HB.out | apply below_alloc | apply pw_below_drewN | apply below_drew1) | exact HB.out)) hb); clear HO518; clear HB; have HO518 := n0_; have HO522 := n1_; have HB := n2_; clear n0_ n1_ n2_; (try clear hb); (try clear hb2); (try clear hk); (try clear hi); (try clear ho0)) | ((with_reducible refine gate_callee (f := 19) rfl ?_); refine goesL_ (some 57) rfl rfl Tryd.func19 (by kernel_rfl) rfl #[.slice A0 l0.length c0] rfl (by (try simp only [List.map_toArray, List.map_cons, List.map_nil]); first | done | rfl | (simp only [List.length_drop, List.length_take]; rfl)) ?_; (with_reducible refine (bookplatelaw07_own.calls k2 _ _ l0 t523 _ ?side1 ?side2 A23.out).mono ?_); (case side1 => repeat (first | exact (Kd.C_below HR0.out HB.out) | (with_reducible refine Kd.C_alloc ?_ _) | (with_reducible refine Kd.C_drewN ?_ _) | (with_reducible refine Kd.C_drew ?_))); (case side2 => exact HC0.out); rintro e w61 ⟨v524, rfl, ho0, hb⟩; refine ⟨_, rfl, ?_⟩; have n0_ := Aside0.mk (Kd.R_below (by (with_reducible repeat (first | apply Kd.R_alloc | apply Kd.R_drewN | apply Kd.R_drew)); exact HO518.out) hb); have n1_ := Aside0.mk (Kd.R_below (by (with_reducible repeat (first | apply Kd.R_alloc | apply Kd.R_drewN | apply Kd.R_drew)); exact HO522.out) hb); have n2_ := Aside0.mk (Kd.R_lower ho0 (below_size (by repeat (first | (with_reducible first | exact HB.out | apply below_alloc | apply pw_below_drewN | apply below_drew1) | exact HB.out)))); have n3_ := Aside0.mk (below_step (by repeat (first | (with_reducible first | exact HB.out | apply below_alloc | apply pw_below_drewN | apply below_drew1) | exact HB.out)) hb); clear HO518; clear HO522; clear HB; have HO518 := n0_; have HO522 := n1_; have HO525 := n2_; have HB := n3_; clear n0_ n1_ n2_ n3_; (try clear hb); (try clear hb2); (try clear hk); (try clear hi); (try clear ho0); obtain ⟨Ao62, co62, eo62⟩ := Kd.R_slice HO525.out; subst eo62) | (go_at_call 24; (with_reducible refine (translit_To.calls k2 _ _ t523 (a1 ++ a2) t526 _ ?side1 ?side2 ?side3 A27.out).mono ?_); (case side1 => repeat (first | exact (Kd.R_reads' HO525.out).2.2 | (with_reducible refine Kd.C_alloc ?_ _) | (with_reducible refine Kd.C_drewN ?_ _) | (with_reducible refine Kd.C_drew ?_))); (case side2 => exact (Kd.R_reads' HO525.out).2.1); (case side3 => exact GT1.below (HG.out.one) (by repeat (first | (with_reducible first | exact HB.out | apply below_alloc | apply pw_below_drewN | apply below_drew1) | exact HB.out))); rintro e w63 ⟨rfl, hb⟩; have n0_ := Aside0.mk (Kd.R_below (by (with_reducible repeat (first | apply Kd.R_alloc | apply Kd.R_drewN | apply Kd.R_drew)); exact HO518.out) hb); have n1_ := Aside0.mk (Kd.R_below (by (with_reducible repeat (first | apply Kd.R_alloc | apply Kd.R_drewN | apply Kd.R_drew)); exact HO522.out) hb); have n2_ := Aside0.mk (Kd.R_below (by (with_reducible repeat (first | apply Kd.R_alloc | apply Kd.R_drewN | apply Kd.R_drew)); exact HO525.out) hb); have n3_ := Aside0.mk (below_step (by repeat (first | (with_reducible first | exact HB.out | apply below_alloc | apply pw_below_drewN | apply below_drew1) | exact HB.out)) hb); clear HO518; clear HO522; clear HO525; clear HB; have HO518 := n0_; have HO522 := n1_; have HO525 := n2_; have HB := n3_; clear n0_ n1_ n2_ n3_; (try clear hb); (try clear hb2); (try clear hk); (try clear hi)) | (go_at_call 24; (with_reducible refine (translit_To.calls k2 _ _ t523 a1 t527 _ ?side1 ?side2 ?side3 A28.out).mono ?_); (case side1 => repeat (first | exact (Kd.R_reads' HO525.out).2.2 | (with_reducible refine Kd.C_alloc ?_ _) | (with_reducible refine Kd.C_drewN ?_ _) | (with_reducible refine Kd.C_drew ?_))); (case side2 => exact (Kd.R_reads' HO525.out).2.1); (case side3 => exact GT1.below (HG.out.one) (by repeat (first | (with_reducible first | exact HB.out | apply below_alloc | apply pw_below_drewN | apply below_drew1) | exact HB.out))); rintro e w64 ⟨rfl, hb⟩; have n0_ := Aside0.mk (Kd.R_below (by (with_reducible repeat (first | apply Kd.R_alloc | apply Kd.R_drewN | apply Kd.R_drew)); exact HO518.out) hb); have n1_ := Aside0.mk (Kd.R_below (by (with_reducible repeat (first | apply Kd.R_alloc | apply Kd.R_drewN | apply Kd.R_drew)); exact HO522.out) hb); have n2_ := Aside0.mk (Kd.R_below (by (with_reducible repeat (first | apply Kd.R_alloc | apply Kd.R_drewN | apply Kd.R_drew)); exact HO525.out) hb); have n3_ := Aside0.mk (below_step (by repeat (first | (with_reducible first | exact HB.out | apply below_alloc | apply pw_below_drewN | apply below_drew1) | exact HB.out)) hb); clear HO518; clear HO522; clear HO525; clear HB; have HO518 := n0_; have HO522 := n1_; have HO525 := n2_; have HB := n3_; clear n0_ n1_ n2_ n3_; (try clear hb); (try clear hb2); (try clear hk); (try clear hi)) | (go_at_call 24; (with_reducible refine (translit_To.calls k2 _ _ t523 a2 t528 _ ?side1 ?side2 ?side3 A29.out).mono ?_); (case side1 => repeat (first | exact (Kd.R_reads' HO525.out).2.2 | (with_reducible refine Kd.C_alloc ?_ _) | (with_reducible refine Kd.C_drewN ?_ _) | (with_reducible refine Kd.C_drew ?_))); (case side2 => exact (Kd.R_reads' HO525.out).2.1); (case side3 => exact GT1.below (HG.out.one) (by repeat (first | (with_reducible first | exact HB.out | apply below_alloc | apply pw_below_drewN | apply below_drew1) | exact HB.out))); rintro e w65 ⟨rfl, hb⟩; have n0_ := Aside0.mk (Kd.R_below (by (with_reducible repeat (first | apply Kd.R_alloc | apply Kd.R_drewN | apply Kd.R_drew)); exact HO518.out) hb); have n1_ := Aside0.mk (Kd.R_below (by (with_reducible repeat (first | apply Kd.R_alloc | apply Kd.R_drewN | apply Kd.R_drew)); exact HO522.out) hb); have n2_ := Aside0.mk (Kd.R_below (by (with_reducible repeat (first | apply Kd.R_alloc | apply Kd.R_drewN | apply Kd.R_drew)); exact HO525.out) hb); have n3_ := Aside0.mk (below_step (by repeat (first | (with_reducible first | exact HB.out | apply below_alloc | apply pw_below_drewN | apply below_drew1) | exact HB.out)) hb); clear HO518; clear HO522; clear HO525; clear HB; have HO518 := n0_; have HO522 := n1_; have HO525 := n2_; have HB := n3_; clear n0_ n1_ n2_ n3_; (try clear hb); (try clear hb2); (try clear hk); (try clear hi)) | (go_at_call 20; (with_reducible refine (translit_Valid.calls _ _ t523 false _ ?side1 ?side2 ?side3 A32.out).mono ?_); (case side1 => repeat (first | exact (Kd.R_reads' HO525.out).2.2 | (with_reducible refine Kd.C_alloc ?_ _) | (with_reducible refine Kd.C_drewN ?_ _) | (with_reducible refine Kd.C_drew ?_))); (case side2 => exact (Kd.R_reads' HO525.out).2.1); (case side3 => exact GT1.below (HG.out.one) (by repeat (first | (with_reducible first | exact HB.out | apply below_alloc | apply pw_below_drewN | apply below_drew1) | exact HB.out))); rintro e w66 ⟨rfl, hb⟩; have n0_ := Aside0.mk (Kd.R_below (by (with_reducible repeat (first | apply Kd.R_alloc | apply Kd.R_drewN | apply Kd.R_drew)); exact HO518.out) hb); have n1_ := Aside0.mk (Kd.R_below (by (with_reducible repeat (first | apply Kd.R_alloc | apply Kd.R_drewN | apply Kd.R_drew)); exact HO522.out) hb); have n2_ := Aside0.mk (Kd.R_below (by (with_reducible repeat (first | apply Kd.R_alloc | apply Kd.R_drewN | apply Kd.R_drew)); exact HO525.out) hb); have n3_ := Aside0.mk (below_step (by repeat (first | (with_reducible first | exact HB.out | apply below_alloc | apply pw_below_drewN | apply below_drew1) | exact HB.out)) hb); clear HO518; clear HO522; clear HO525; clear HB; have HO518 := n0_; have HO522 := n1_; have HO525 := n2_; have HB := n3_; clear n0_ n1_ n2_ n3_; (try clear hb); (try clear hb2); (try clear hk); (try clear hi)))
                            go_ret
                            exact ⟨by first | rfl | (simp [errW_none, errW_some] <;> rfl) | (simp [*, errW_none, errW_some] <;> rfl), by repeat (first | (with_reducible first | exact HB.out | apply below_alloc | apply pw_below_drewN | apply below_drew1) | exact HB.out)⟩
                        · rw [if_neg c31] at H
                          have c31b0 : (t526.toList == (t527 ++ t528).toList) = false := beq_eq_false_iff_ne.mpr c31
                          have c31b1 : (t526.toList != (t527 ++ t528).toList) = true := bne_iff_ne.mpr c31
                          obtain rfl := Option.some.inj H
                          go_wp2_with (first | ((with_reducible refine gate_callee (f := 31) rfl ?_); refine goesL_ (some 48) rfl rfl Tryd.func31 (by kernel_rfl) rfl #[.string a1] rfl (by (try simp only [List.map_toArray, List.map_cons, List.map_nil]); first | done | rfl | (simp only [List.length_drop, List.length_take]; rfl)) ?_; (with_reducible refine (bookplateref04_Decode.calls k2 a1 t515 true _ A21.out).mono ?_); rintro e w67 ⟨v517, rfl, ho0, hb⟩; refine ⟨_, rfl, ?_⟩; have n0_ := Aside0.mk (Kd.R_lower ho0 (below_size (by repeat (first | (with_reducible first | exact HB.out | apply below_alloc | apply pw_below_drewN | apply below_drew1) | exact HB.out)))); have n1_ := Aside0.mk (below_step (by repeat (first | (with_reducible first | exact HB.out | apply below_alloc | apply pw_below_drewN | apply below_drew1) | exact HB.out)) hb); clear HB; have HO518 := n0_; have HB := n1_; clear n0_ n1_; (try clear hb); (try clear hb2); (try clear hk); (try clear hi); (try clear ho0)) | ((with_reducible refine gate_callee (f := 31) rfl ?_); refine goesL_ (some 53) rfl rfl Tryd.func31 (by kernel_rfl) rfl #[.string a2] rfl (by (try simp only [List.map_toArray, List.map_cons, List.map_nil]); first | done | rfl | (simp only [List.length_drop, List.length_take]; rfl)) ?_; (with_reducible refine (bookplateref04_Decode.calls k2 a2 t519 true _ A22.out).mono ?_); rintro e w68 ⟨v521, rfl, ho0, hb⟩; refine ⟨_, rfl, ?_⟩; have n0_ := Aside0.mk (Kd.R_elder' (by (with_reducible repeat (first | apply Kd.R_alloc | apply Kd.R_drewN | apply Kd.R_drew)); exact HO518.out) (Kd.R_base ho0) hb); have n1_ := Aside0.mk (Kd.R_lower (Kd.R_new' ho0 (Kd.R_lt (by (with_reducible repeat (first | apply Kd.R_alloc | apply Kd.R_drewN | apply Kd.R_drew)); exact HO518.out))) (below_size (by repeat (first | (with_reducible first | exact HB.out | apply below_alloc | apply pw_below_drewN | apply below_drew1) | exact HB.out)))); have n2_ := Aside0.mk (below_step (by repeat (first | (with_reducible first | exact HB.out | apply below_alloc | apply pw_below_drewN | apply below_drew1) | exact HB.out)) hb); clear HO518; clear HB; have HO518 := n0_; have HO522 := n1_; have HB := n2_; clear n0_ n1_ n2_; (try clear hb); (try clear hb2); (try clear hk); (try clear hi); (try clear ho0)) | ((with_reducible refine gate_callee (f := 19) rfl ?_); refine goesL_ (some 57) rfl rfl Tryd.func19 (by kernel_rfl) rfl #[.slice A0 l0.length c0] rfl (by (try simp only [List.map_toArray, List.map_cons, List.map_nil]); first | done | rfl | (simp only [List.length_drop, List.length_take]; rfl)) ?_; (with_reducible refine (bookplatelaw07_own.calls k2 _ _ l0 t523 _ ?side1 ?side2 A23.out).mono ?_); (case side1 => repeat (first | exact (Kd.C_below HR0.out HB.out) | (with_reducible refine Kd.C_alloc ?_ _) | (with_reducible refine Kd.C_drewN ?_ _) | (with_reducible refine Kd.C_drew ?_))); (case side2 => exact HC0.out); rintro e w69 ⟨v524, rfl, ho0, hb⟩; refine ⟨_, rfl, ?_⟩; have n0_ := Aside0.mk (Kd.R_below (by (with_reducible repeat (first | apply Kd.R_alloc | apply Kd.R_drewN | apply Kd.R_drew)); exact HO518.out) hb); have n1_ := Aside0.mk (Kd.R_below (by (with_reducible repeat (first | apply Kd.R_alloc | apply Kd.R_drewN | apply Kd.R_drew)); exact HO522.out) hb); have n2_ := Aside0.mk (Kd.R_lower ho0 (below_size (by repeat (first | (with_reducible first | exact HB.out | apply below_alloc | apply pw_below_drewN | apply below_drew1) | exact HB.out)))); have n3_ := Aside0.mk (below_step (by repeat (first | (with_reducible first | exact HB.out | apply below_alloc | apply pw_below_drewN | apply below_drew1) | exact HB.out)) hb); clear HO518; clear HO522; clear HB; have HO518 := n0_; have HO522 := n1_; have HO525 := n2_; have HB := n3_; clear n0_ n1_ n2_ n3_; (try clear hb); (try clear hb2); (try clear hk); (try clear hi); (try clear ho0); obtain ⟨Ao70, co70, eo70⟩ := Kd.R_slice HO525.out; subst eo70) | (go_at_call 24; (with_reducible refine (translit_To.calls k2 _ _ t523 (a1 ++ a2) t526 _ ?side1 ?side2 ?side3 A27.out).mono ?_); (case side1 => repeat (first | exact (Kd.R_reads' HO525.out).2.2 | (with_reducible refine Kd.C_alloc ?_ _) | (with_reducible refine Kd.C_drewN ?_ _) | (with_reducible refine Kd.C_drew ?_))); (case side2 => exact (Kd.R_reads' HO525.out).2.1); (case side3 => exact GT1.below (HG.out.one) (by repeat (first | (with_reducible first | exact HB.out | apply below_alloc | apply pw_below_drewN | apply below_drew1) | exact HB.out))); rintro e w71 ⟨rfl, hb⟩; have n0_ := Aside0.mk (Kd.R_below (by (with_reducible repeat (first | apply Kd.R_alloc | apply Kd.R_drewN | apply Kd.R_drew)); exact HO518.out) hb); have n1_ := Aside0.mk (Kd.R_below (by (with_reducible repeat (first | apply Kd.R_alloc | apply Kd.R_drewN | apply Kd.R_drew)); exact HO522.out) hb); have n2_ := Aside0.mk (Kd.R_below (by (with_reducible repeat (first | apply Kd.R_alloc | apply Kd.R_drewN | apply Kd.R_drew)); exact HO525.out) hb); have n3_ := Aside0.mk (below_step (by repeat (first | (with_reducible first | exact HB.out | apply below_alloc | apply pw_below_drewN | apply below_drew1) | exact HB.out)) hb); clear HO518; clear HO522; clear HO525; clear HB; have HO518 := n0_; have HO522 := n1_; have HO525 := n2_; have HB := n3_; clear n0_ n1_ n2_ n3_; (try clear hb); (try clear hb2); (try clear hk); (try clear hi)) | (go_at_call 24; (with_reducible refine (translit_To.calls k2 _ _ t523 a1 t527 _ ?side1 ?side2 ?side3 A28.out).mono ?_); (case side1 => repeat (first | exact (Kd.R_reads' HO525.out).2.2 | (with_reducible refine Kd.C_alloc ?_ _) | (with_reducible refine Kd.C_drewN ?_ _) | (with_reducible refine Kd.C_drew ?_))); (case side2 => exact (Kd.R_reads' HO525.out).2.1); (case side3 => exact GT1.below (HG.out.one) (by repeat (first | (with_reducible first | exact HB.out | apply below_alloc | apply pw_below_drewN | apply below_drew1) | exact HB.out))); rintro e w72 ⟨rfl, hb⟩; have n0_ := Aside0.mk (Kd.R_below (by (with_reducible repeat (first | apply Kd.R_alloc | apply Kd.R_drewN | apply Kd.R_drew)); exact HO518.out) hb); have n1_ := Aside0.mk (Kd.R_below (by (with_reducible repeat (first | apply Kd.R_alloc | apply Kd.R_drewN | apply Kd.R_drew)); exact HO522.out) hb); have n2_ := Aside0.mk (Kd.R_below (by (with_reducible repeat (first | apply Kd.R_alloc | apply Kd.R_drewN | apply Kd.R_drew)); exact HO525.out) hb); have n3_ := Aside0.mk (below_step (by repeat (first | (with_reducible first | exact HB.out | apply below_alloc | apply pw_below_drewN | apply below_drew1) | exact HB.out)) hb); clear HO518; clear HO522; clear HO525; clear HB; have HO518 := n0_; have HO522 := n1_; have HO525 := n2_; have HB := n3_; clear n0_ n1_ n2_ n3_; (try clear hb); (try clear hb2); (try clear hk); (try clear hi)) | (go_at_call 24; (with_reducible refine (translit_To.calls k2 _ _ t523 a2 t528 _ ?side1 ?side2 ?side3 A29.out).mono ?_); (case side1 => repeat (first | exact (Kd.R_reads' HO525.out).2.2 | (with_reducible refine Kd.C_alloc ?_ _) | (with_reducible refine Kd.C_drewN ?_ _) | (with_reducible refine Kd.C_drew ?_))); (case side2 => exact (Kd.R_reads' HO525.out).2.1); (case side3 => exact GT1.below (HG.out.one) (by repeat (first | (with_reducible first | exact HB.out | apply below_alloc | apply pw_below_drewN | apply below_drew1) | exact HB.out))); rintro e w73 ⟨rfl, hb⟩; have n0_ := Aside0.mk (Kd.R_below (by (with_reducible repeat (first | apply Kd.R_alloc | apply Kd.R_drewN | apply Kd.R_drew)); exact HO518.out) hb); have n1_ := Aside0.mk (Kd.R_below (by (with_reducible repeat (first | apply Kd.R_alloc | apply Kd.R_drewN | apply Kd.R_drew)); exact HO522.out) hb); have n2_ := Aside0.mk (Kd.R_below (by (with_reducible repeat (first | apply Kd.R_alloc | apply Kd.R_drewN | apply Kd.R_drew)); exact HO525.out) hb); have n3_ := Aside0.mk (below_step (by repeat (first | (with_reducible first | exact HB.out | apply below_alloc | apply pw_below_drewN | apply below_drew1) | exact HB.out)) hb); clear HO518; clear HO522; clear HO525; clear HB; have HO518 := n0_; have HO522 := n1_; have HO525 := n2_; have HB := n3_; clear n0_ n1_ n2_ n3_; (try clear hb); (try clear hb2); (try clear hk); (try clear hi)))
                          go_ret
                          exact ⟨by first | rfl | (simp [errW_none, errW_some] <;> rfl) | (simp [*, errW_none, errW_some] <;> rfl), by repeat (first | (with_reducible first | exact HB.out | apply below_alloc | apply pw_below_drewN | apply below_drew1) | exact HB.out)⟩
                      · rw [if_neg c30] at H
                        exact absurd H (by simp)
                    · rw [if_neg c26] at H
                      exact absurd H (by simp)
                  · replace c25 := Bool.eq_false_iff.mpr c25
                    subst c25
                    have H1 : (some true) = some r := by rw [if_neg (show ¬ (false = true) by decide)] at H; exact H
                    clear H
                    have H := H1
                    clear H1
                    obtain rfl := Option.some.inj H
                    go_wp2_with (first | ((with_reducible refine gate_callee (f := 31) rfl ?_); refine goesL_ (some 48) rfl rfl Tryd.func31 (by kernel_rfl) rfl #[.string a1] rfl (by (try simp only [List.map_toArray, List.map_cons, List.map_nil]); first | done | rfl | (simp only [List.length_drop, List.length_take]; rfl)) ?_; (with_reducible refine (bookplateref04_Decode.calls k2 a1 t515 true _ A21.out).mono ?_); rintro e w74 ⟨v517, rfl, ho0, hb⟩; refine ⟨_, rfl, ?_⟩; have n0_ := Aside0.mk (Kd.R_lower ho0 (below_size (by repeat (first | (with_reducible first | exact HB.out | apply below_alloc | apply pw_below_drewN | apply below_drew1) | exact HB.out)))); have n1_ := Aside0.mk (below_step (by repeat (first | (with_reducible first | exact HB.out | apply below_alloc | apply pw_below_drewN | apply below_drew1) | exact HB.out)) hb); clear HB; have HO518 := n0_; have HB := n1_; clear n0_ n1_; (try clear hb); (try clear hb2); (try clear hk); (try clear hi); (try clear ho0)) | ((with_reducible refine gate_callee (f := 31) rfl ?_); refine goesL_ (some 53) rfl rfl Tryd.func31 (by kernel_rfl) rfl #[.string a2] rfl (by (try simp only [List.map_toArray, List.map_cons, List.map_nil]); first | done | rfl | (simp only [List.length_drop, List.length_take]; rfl)) ?_; (with_reducible refine (bookplateref04_Decode.calls k2 a2 t519 false _ A22.out).mono ?_); rintro e w75 ⟨v521, rfl, ho0, hb⟩; refine ⟨_, rfl, ?_⟩; have n0_ := Aside0.mk (Kd.R_elder' (by (with_reducible repeat (first | apply Kd.R_alloc | apply Kd.R_drewN | apply Kd.R_drew)); exact HO518.out) (Kd.R_base ho0) hb); have n1_ := Aside0.mk (Kd.R_lower (Kd.R_new' ho0 (Kd.R_lt (by (with_reducible repeat (first | apply Kd.R_alloc | apply Kd.R_drewN | apply Kd.R_drew)); exact HO518.out))) (below_size (by repeat (first | (with_reducible first | exact HB.out | apply below_alloc | apply pw_below_drewN | apply below_drew1) | exact HB.out)))); have n2_ := Aside0.mk (below_step (by repeat (first | (with_reducible first | exact HB.out | apply below_alloc | apply pw_below_drewN | apply below_drew1) | exact HB.out)) hb); clear HO518; clear HB; have HO518 := n0_; have HO522 := n1_; have HB := n2_; clear n0_ n1_ n2_; (try clear hb); (try clear hb2); (try clear hk); (try clear hi); (try clear ho0)) | ((with_reducible refine gate_callee (f := 19) rfl ?_); refine goesL_ (some 57) rfl rfl Tryd.func19 (by kernel_rfl) rfl #[.slice A0 l0.length c0] rfl (by (try simp only [List.map_toArray, List.map_cons, List.map_nil]); first | done | rfl | (simp only [List.length_drop, List.length_take]; rfl)) ?_; (with_reducible refine (bookplatelaw07_own.calls k2 _ _ l0 t523 _ ?side1 ?side2 A23.out).mono ?_); (case side1 => repeat (first | exact (Kd.C_below HR0.out HB.out) | (with_reducible refine Kd.C_alloc ?_ _) | (with_reducible refine Kd.C_drewN ?_ _) | (with_reducible refine Kd.C_drew ?_))); (case side2 => exact HC0.out); rintro e w76 ⟨v524, rfl, ho0, hb⟩; refine ⟨_, rfl, ?_⟩; have n0_ := Aside0.mk (Kd.R_below (by (with_reducible repeat (first | apply Kd.R_alloc | apply Kd.R_drewN | apply Kd.R_drew)); exact HO518.out) hb); have n1_ := Aside0.mk (Kd.R_below (by (with_reducible repeat (first | apply Kd.R_alloc | apply Kd.R_drewN | apply Kd.R_drew)); exact HO522.out) hb); have n2_ := Aside0.mk (Kd.R_lower ho0 (below_size (by repeat (first | (with_reducible first | exact HB.out | apply below_alloc | apply pw_below_drewN | apply below_drew1) | exact HB.out)))); have n3_ := Aside0.mk (below_step (by repeat (first | (with_reducible first | exact HB.out | apply below_alloc | apply pw_below_drewN | apply below_drew1) | exact HB.out)) hb); clear HO518; clear HO522; clear HB; have HO518 := n0_; have HO522 := n1_; have HO525 := n2_; have HB := n3_; clear n0_ n1_ n2_ n3_; (try clear hb); (try clear hb2); (try clear hk); (try clear hi); (try clear ho0)))
                    go_ret
                    exact ⟨by first | rfl | (simp [errW_none, errW_some] <;> rfl) | (simp [*, errW_none, errW_some] <;> rfl), by repeat (first | (with_reducible first | exact HB.out | apply below_alloc | apply pw_below_drewN | apply below_drew1) | exact HB.out)⟩
                · replace c24 := Bool.eq_false_iff.mpr c24
                  subst c24
                  have H1 : (some true) = some r := by rw [if_neg (show ¬ (false = true) by decide)] at H; exact H
                  clear H
                  have H := H1
                  clear H1
                  obtain rfl := Option.some.inj H
                  go_wp2_with (first | ((with_reducible refine gate_callee (f := 31) rfl ?_); refine goesL_ (some 48) rfl rfl Tryd.func31 (by kernel_rfl) rfl #[.string a1] rfl (by (try simp only [List.map_toArray, List.map_cons, List.map_nil]); first | done | rfl | (simp only [List.length_drop, List.length_take]; rfl)) ?_; (with_reducible refine (bookplateref04_Decode.calls k2 a1 t515 false _ A21.out).mono ?_); rintro e w77 ⟨v517, rfl, ho0, hb⟩; refine ⟨_, rfl, ?_⟩; have n0_ := Aside0.mk (Kd.R_lower ho0 (below_size (by repeat (first | (with_reducible first | exact HB.out | apply below_alloc | apply pw_below_drewN | apply below_drew1) | exact HB.out)))); have n1_ := Aside0.mk (below_step (by repeat (first | (with_reducible first | exact HB.out | apply below_alloc | apply pw_below_drewN | apply below_drew1) | exact HB.out)) hb); clear HB; have HO518 := n0_; have HB := n1_; clear n0_ n1_; (try clear hb); (try clear hb2); (try clear hk); (try clear hi); (try clear ho0)) | ((with_reducible refine gate_callee (f := 31) rfl ?_); refine goesL_ (some 53) rfl rfl Tryd.func31 (by kernel_rfl) rfl #[.string a2] rfl (by (try simp only [List.map_toArray, List.map_cons, List.map_nil]); first | done | rfl | (simp only [List.length_drop, List.length_take]; rfl)) ?_; (with_reducible refine (bookplateref04_Decode.calls k2 a2 t519 t520 _ A22.out).mono ?_); rintro e w78 ⟨v521, rfl, ho0, hb⟩; refine ⟨_, rfl, ?_⟩; have n0_ := Aside0.mk (Kd.R_elder' (by (with_reducible repeat (first | apply Kd.R_alloc | apply Kd.R_drewN | apply Kd.R_drew)); exact HO518.out) (Kd.R_base ho0) hb); have n1_ := Aside0.mk (Kd.R_lower (Kd.R_new' ho0 (Kd.R_lt (by (with_reducible repeat (first | apply Kd.R_alloc | apply Kd.R_drewN | apply Kd.R_drew)); exact HO518.out))) (below_size (by repeat (first | (with_reducible first | exact HB.out | apply below_alloc | apply pw_below_drewN | apply below_drew1) | exact HB.out)))); have n2_ := Aside0.mk (below_step (by repeat (first | (with_reducible first | exact HB.out | apply below_alloc | apply pw_below_drewN | apply below_drew1) | exact HB.out)) hb); clear HO518; clear HB; have HO518 := n0_; have HO522 := n1_; have HB := n2_; clear n0_ n1_ n2_; (try clear hb); (try clear hb2); (try clear hk); (try clear hi); (try clear ho0)) | ((with_reducible refine gate_callee (f := 19) rfl ?_); refine goesL_ (some 57) rfl rfl Tryd.func19 (by kernel_rfl) rfl #[.slice A0 l0.length c0] rfl (by (try simp only [List.map_toArray, List.map_cons, List.map_nil]); first | done | rfl | (simp only [List.length_drop, List.length_take]; rfl)) ?_; (with_reducible refine (bookplatelaw07_own.calls k2 _ _ l0 t523 _ ?side1 ?side2 A23.out).mono ?_); (case side1 => repeat (first | exact (Kd.C_below HR0.out HB.out) | (with_reducible refine Kd.C_alloc ?_ _) | (with_reducible refine Kd.C_drewN ?_ _) | (with_reducible refine Kd.C_drew ?_))); (case side2 => exact HC0.out); rintro e w79 ⟨v524, rfl, ho0, hb⟩; refine ⟨_, rfl, ?_⟩; have n0_ := Aside0.mk (Kd.R_below (by (with_reducible repeat (first | apply Kd.R_alloc | apply Kd.R_drewN | apply Kd.R_drew)); exact HO518.out) hb); have n1_ := Aside0.mk (Kd.R_below (by (with_reducible repeat (first | apply Kd.R_alloc | apply Kd.R_drewN | apply Kd.R_drew)); exact HO522.out) hb); have n2_ := Aside0.mk (Kd.R_lower ho0 (below_size (by repeat (first | (with_reducible first | exact HB.out | apply below_alloc | apply pw_below_drewN | apply below_drew1) | exact HB.out)))); have n3_ := Aside0.mk (below_step (by repeat (first | (with_reducible first | exact HB.out | apply below_alloc | apply pw_below_drewN | apply below_drew1) | exact HB.out)) hb); clear HO518; clear HO522; clear HB; have HO518 := n0_; have HO522 := n1_; have HO525 := n2_; have HB := n3_; clear n0_ n1_ n2_ n3_; (try clear hb); (try clear hb2); (try clear hk); (try clear hi); (try clear ho0)))
                  go_ret
                  exact ⟨by first | rfl | (simp [errW_none, errW_some] <;> rfl) | (simp [*, errW_none, errW_some] <;> rfl), by repeat (first | (with_reducible first | exact HB.out | apply below_alloc | apply pw_below_drewN | apply below_drew1) | exact HB.out)⟩
  · replace c5 := Bool.eq_false_iff.mpr c5
    subst c5
    have H1 : (some false) = some r := by rw [if_neg (show ¬ (false = true) by decide)] at H; exact H
    clear H
    have H := H1
    clear H1
    obtain rfl := Option.some.inj H
    go_enter Tryd.func6, Tryd.ntmps6
    go_wp2_with (first | ((with_reducible refine gate_callee (f := 17) rfl ?_); refine goesL_ (some 13) rfl rfl Tryd.func17 (by kernel_rfl) rfl #[] rfl (by (try simp only [List.map_toArray, List.map_cons, List.map_nil]); first | done | rfl | (simp only [List.length_drop, List.length_take]; rfl)) ?_; (with_reducible refine (bookplatelaw07_awake.calls k  false _ ?side1 A4.out).mono ?_); (case side1 => exact GT2.below (HG.out) (by repeat (first | (with_reducible first | exact HB.out | apply below_alloc | apply pw_below_drewN | apply below_drew1) | exact HB.out))); rintro e w80 ⟨rfl, hb⟩; refine ⟨_, rfl, ?_⟩; have n0_ := Aside0.mk (below_step (by repeat (first | (with_reducible first | exact HB.out | apply below_alloc | apply pw_below_drewN | apply below_drew1) | exact HB.out)) hb); clear HB; have HB := n0_; clear n0_; (try clear hb); (try clear hb2); (try clear hk); (try clear hi)))
    go_ret
    exact ⟨by first | rfl | (simp [errW_none, errW_some] <;> rfl) | (simp [*, errW_none, errW_some] <;> rfl), by repeat (first | (with_reducible first | exact HB.out | apply below_alloc | apply pw_below_drewN | apply below_drew1) | exact HB.out)⟩
end Go.Proofs.YthcpdhniakpbaaaDoor.X
end

section
namespace Go.Proofs.YthcpdhniakpbaaaDoor.X
set_option linter.unusedVariables false
set_option linter.unusedSimpArgs false
open Go.RowKit Go.Proofs.YthcpdhniakpbaaaDoorW.PrintWords
theorem bestL_congr {l l' : List UInt8} : ∀ (t : List S41) (b : S41), (∀ r ∈ t, r.f0.data.toList.isPrefixOf l = r.f0.data.toList.isPrefixOf l') → bestL l b t = bestL l' b t
  | [], b, h => rfl
  | r :: rs, b, h => by
    rw [bestL, bestL, h r (by simp)]
    exact bestL_congr rs _ (fun q hq => h q (by simp [hq]))
def Singles (t : List S41) : Prop := ∀ r ∈ t, ∃ d, r.f0.data.toList = encC d ∧ hasS d = true
theorem prefix_one {d c : Int} (hd : hasS d = true) (hc : hasS c = true) (l : List UInt8) : (encC d).isPrefixOf (encC c ++ l) = decide (d = c) := by
  by_cases e : d = c
  · subst e
    rw [decide_eq_true rfl, List.isPrefixOf_iff_prefix]
    exact List.prefix_append _ _
  · rw [decide_eq_false e, prefix_false (hasS_ok hd) (hasS_ok hc) e]
theorem joins_law {t : List S41} (h : Singles t) : ∀ (ca cb : List Int), (∀ c ∈ ca, hasS c = true) → (∀ c ∈ cb, hasS c = true) →
    tr t (ca.length + cb.length) (ca ++ cb) = ((tr t ca.length ca).1 ++ (tr t cb.length cb).1, (tr t ca.length ca).2 + (tr t cb.length cb).2)
  | [], cb, ha, hb => by simp [tr_nil]
  | c :: ca, cb, ha, hb => by
    have hc := ha c (by simp)
    have ih := joins_law h ca cb (fun x hx => ha x (by simp [hx])) hb
    have hbe : bestL (encL (c :: (ca ++ cb))) rule0 t = bestL (encL (c :: ca)) rule0 t := bestL_congr t rule0 (fun r hr => by
      obtain ⟨d, h1, h2⟩ := h r hr
      rw [h1, encL_cons, encL_cons, prefix_one h2 hc, prefix_one h2 hc])
    have hlen : (c :: ca).length + cb.length = (ca.length + cb.length) + 1 := by simp; omega
    rw [hlen, List.cons_append, tr, hbe, List.length_cons, tr]
    by_cases hz : (bestL (encL (c :: ca)) rule0 t).f0.size = 0
    · rw [if_pos hz, if_pos hz, ih]
      simp only [List.append_assoc, Prod.mk.injEq, true_and]
      omega
    · rw [if_neg hz, if_neg hz]
      have hmem : bestL (encL (c :: ca)) rule0 t ∈ t := by
        rcases bestL_in (encL (c :: ca)) t rule0 with e | ⟨e, _⟩
        · rw [e] at hz; exact absurd rfl hz
        · exact e
      obtain ⟨d, h1, h2⟩ := h _ hmem
      have hcn : cntS (bestL (encL (c :: ca)) rule0 t).f0.data.toList = 1 := cntS_of (cs := [d]) (by rw [h1]; simp [encL_cons, encL_nil]) (fun x hx => by simp at hx; rw [hx]; exact h2)
      rw [hcn]
      simp only [List.drop_succ_cons, List.drop_zero]
      rw [ih]
      simp only [List.append_assoc]
theorem single_of {s : ByteArray} (h : EncB s) (he : (⟨(headS s.data.toList).toArray⟩ : ByteArray) = s) : ∃ d, s.data.toList = encC d ∧ hasS d = true := by
  obtain ⟨fs, h1, h2, h3⟩ := h
  cases fs with
  | nil => exact absurd rfl h1
  | cons d fs =>
    have hh : headS s.data.toList = encC d := by unfold headS; rw [decS_of h2 h3]
    rw [hh] at he
    exact ⟨d, by rw [← he], h3 d (by simp)⟩
theorem joins_go (x : List S34) (a b : ByteArray) (hx : x.length ≤ 1000) (hsm : ∀ r ∈ tab x, r.f0.size ≤ 1000) (F : Nat) (hF : 2000 ≤ F)
    (fin : (∀ r ∈ tab x, (⟨(headS r.f0.data.toList).toArray⟩ : ByteArray) = r.f0) → ∀ k, F ≤ k → bookplatelaw07_TranslitJoins.l0 k x a b (x.length : Int) (x.length : Int) = some true) :
    ∀ (n i k : Nat), x.length ≤ i + n → i ≤ x.length → (∀ j, j < i → (⟨(headS (ru (tab x) j).f0.data.toList).toArray⟩ : ByteArray) = (ru (tab x) j).f0) → n + F ≤ k →
      bookplatelaw07_TranslitJoins.l0 k x a b (x.length : Int) (i : Int) = some true := by
  intro n
  have done : ∀ (i k : Nat), i = x.length → (∀ j, j < i → (⟨(headS (ru (tab x) j).f0.data.toList).toArray⟩ : ByteArray) = (ru (tab x) j).f0) → F ≤ k → bookplatelaw07_TranslitJoins.l0 k x a b (x.length : Int) (i : Int) = some true := by
    rintro i k rfl hj hk
    refine fin (fun r hr => ?_) k hk
    obtain ⟨j, hjl, rfl⟩ := mem_ru hr
    exact hj j (by rw [tab_length] at hjl; exact hjl)
  induction n with
  | zero => intro i k h1 h2 hj hk; exact done i k (by omega) hj (by omega)
  | succ n ih =>
    intro i k h1 h2 hj hk
    by_cases e : i = x.length
    · exact done i k e hj (by omega)
    · obtain ⟨k, rfl⟩ : ∃ k', k = k' + 1 := ⟨k - 1, by omega⟩
      have hlt : i < (tab x).length := by rw [tab_length]; omega
      have hz := hsm _ (ru_mem hlt)
      rw [bookplatelaw07_TranslitJoins.l0, if_pos (by omega), if_pos (by omega), if_pos (by omega), rd0, rd_ru, refCut_eq _ (by omega) k (by omega), w64 (by omega) (by omega)]
      simp only [Option.bind_some]
      by_cases hc : (⟨(headS (ru (tab x) i).f0.data.toList).toArray⟩ : ByteArray).toList = (ru (tab x) i).f0.toList
      · rw [if_pos hc, show ((i : Int) + 1) = ((i + 1 : Nat) : Int) by omega]
        refine ih (i + 1) k (by omega) (by omega) (fun j hjl => ?_) (by omega)
        rcases Nat.lt_or_eq_of_le (Nat.le_of_lt_succ hjl) with h | rfl
        · exact hj j h
        · exact (toList_eq_iff _ _).1 hc
      · rw [if_neg hc]
theorem decR_snd (s : ByteArray) : (decR [] s.data.toList).2 = (decS hasS s.data.toList).isSome := by
  unfold decR
  cases decS hasS s.data.toList <;> rfl
theorem toS_bad {y : List S41} (hv : ¬ validS y = true) (s : ByteArray) : toS y s = ⟨#[]⟩ := by
  unfold toS
  rw [if_neg hv]
theorem transJoins_true (x : List S34) (a b : ByteArray) (hx : x.length ≤ 9223372036854775807) : ∃ k, bookplatelaw07_TranslitJoins.f k x a b = some true := by
  obtain ⟨k, hk⟩ : ∃ k, x.length + 400000 ≤ k := ⟨_, Nat.le_refl _⟩
  refine ⟨k, ?_⟩
  obtain ⟨k, rfl⟩ : ∃ k', k = k' + 1 := ⟨k - 1, by omega⟩
  unfold bookplatelaw07_TranslitJoins.f
  rw [awake_eq _ (by omega), few_eq x hx _ (by omega)]
  simp only [Option.bind_some, if_true, bookplatelaw07_TranslitJoins.j0]
  by_cases hf : FewS (tab x)
  · rw [decide_eq_true hf, if_pos rfl]
    by_cases hs : (a.size : Int) > 40
    · rw [if_pos hs]
    · rw [if_neg hs]
      by_cases hs2 : (b.size : Int) > 40
      · rw [decide_eq_true hs2, if_pos rfl]
      · have h9 : x.length ≤ 90 := by have := hf.2; rw [tab_length] at this; exact this
        have ha : a.size ≤ 40 := by omega
        have hb : b.size ≤ 40 := by omega
        rw [decide_eq_false hs2, if_neg (by decide)]
        refine joins_go x a b (by omega) (fun r hr => (few_small hf r hr).1) 300000 (by omega) ?_ x.length 0 k (by omega) (by omega) (fun j hj => by omega) (by omega)
        intro hsing k hk
        obtain ⟨k, rfl⟩ : ∃ k', k = k' + 1 := ⟨k - 1, by omega⟩
        rw [bookplatelaw07_TranslitJoins.l0, if_neg (by omega), refDecode_eq a (by omega) k (by omega), refDecode_eq b (by omega) k (by omega), own_eq x (by omega) k (by omega)]
        simp only [Option.bind_some]
        rw [decR_snd, decR_snd]
        cases hda : decS hasS a.data.toList with
        | none => rfl
        | some ca =>
          cases hdb : decS hasS b.data.toList with
          | none => rfl
          | some cb =>
            have hab : (a ++ b).size = a.size + b.size := ByteArray.size_append
            have z1 := toS_size hf a
            have z2 := toS_size hf b
            rw [if_pos (Option.isSome_some), if_pos (Option.isSome_some), if_pos (by omega), to_eq hf (a ++ b) (by omega) k (by omega), to_eq hf a (by omega) k (by omega), to_eq hf b (by omega) k (by omega)]
            simp only [Option.bind_some]
            rw [if_pos (by omega), valid_eq _ hf]
            by_cases hv : validS (tab x) = true
            · obtain ⟨a1, a2⟩ := decS_iff.1 hda
              obtain ⟨b1, b2⟩ := decS_iff.1 hdb
              have hha : ∀ c ∈ ca, hasS c = true := fun c h => (a2 c h).2
              have hhb : ∀ c ∈ cb, hasS c = true := fun c h => (b2 c h).2
              have hsg : Singles (tab x) := fun r hr => single_of ((valid_enc hv r hr).1) (hsing r hr)
              have hd : decS hasS (a ++ b).data.toList = some (ca ++ cb) := decS_of (by rw [show (a ++ b).data.toList = a.data.toList ++ b.data.toList by simp, a1, b1, encL_append]) (fun c hc => (List.mem_append.1 hc).elim (hha c) (hhb c))
              have hj := joins_law hsg ca cb hha hhb
              have e1 : toS (tab x) (a ++ b) = toS (tab x) a ++ toS (tab x) b := by
                unfold toS trS
                rw [if_pos hv, if_pos hv, if_pos hv, hd, hda, hdb]
                simp only [Option.map_some]
                rw [List.length_append, hj]
                exact ext_bytes (by simp)
              rw [if_pos (by rw [e1]), cov_eq hf (a ++ b) (by omega) k (by omega), cov_eq hf a (by omega) k (by omega), cov_eq hf b (by omega) k (by omega)]
              simp only [Option.bind_some]
              rw [if_pos hv]
              have n1 := tr_nonneg (tab x) ca.length ca
              have n2 := tr_nonneg (tab x) cb.length cb
              have e2 : covS (tab x) (a ++ b) = (covS (tab x) a && covS (tab x) b) := by
                unfold covS trS
                rw [if_pos hv, if_pos hv, if_pos hv, hd, hda, hdb]
                simp only [Option.map_some]
                rw [List.length_append, hj, Bool.eq_iff_iff, Bool.and_eq_true, beq_iff_eq, beq_iff_eq, beq_iff_eq]
                simp only
                omega
              rw [e2]
              cases covS (tab x) a <;> simp
            · rw [toS_bad hv, toS_bad hv, toS_bad hv, if_pos ((toList_eq_iff _ _).2 (ext_bytes (by simp)))]
              simp only [Option.bind_some]
              rw [if_neg hv]
  · rw [decide_eq_false hf, if_neg (by decide)]
end Go.Proofs.YthcpdhniakpbaaaDoor.X
end
