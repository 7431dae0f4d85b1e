/- The law TranslitStays returns true for every input of the sizes that the row's condition lets in, the package variables that it reads holding what the row lists. Part 4 of the texts that its proof stands on; put together by a program. -/
import Derived.Test.YthcpdhniakpbaaaDoorTranslitStaysC
import Derived.Maps.Own
import Derived.Maps.OwnOps
import Derived.Maps.OwnSet
import Derived.Maps.Views
import Derived.Outline
import Derived.Lib.FrozenHead
import Derived.Lib.FrozenHead2
import Derived.Lib.OthersKept
section
namespace Go.Proofs.YthcpdhniakpbaaaDoor.X
open Go.RowKit Go.Proofs.YthcpdhniakpbaaaDoorW.PrintWords Go.Proofs.YthcpdhniakpbaaaDoorW.PrintLast Go.Proofs.YthcpdhniakpbaaaDoorW.PrintMore
attribute [local go_sem] max2_int min2_int max_two min_two max_three min_three max_four min_four
set_option linter.unusedVariables false
set_option linter.unusedSimpArgs false
mutual
def bookplateref04_Class.j0 : Nat → Int → Option (Int × Int)
  | 0, _ => none
  | k + 1, x0 => if x0 = 32 then (bookplateref04_Class.j1 k x0 true) else (bookplateref04_Class.j1 k x0 (x0 == 160))
def bookplateref04_Class.j1 : Nat → Int → Bool → Option (Int × Int)
  | 0, _, _ => none
  | k + 1, x0, x8 => if x8 = true then (some (0, 4)) else ((bookplateref04_in.f x0 48 57).bind fun t116 => (if t116 = true then (bookplateref04_Class.j2 k x0 true) else (if x0 = 178 then (bookplateref04_Class.j2 k x0 true) else (if x0 = 179 then (bookplateref04_Class.j2 k x0 true) else (bookplateref04_Class.j2 k x0 (x0 == 185))))))
def bookplateref04_Class.j2 : Nat → Int → Bool → Option (Int × Int)
  | 0, _, _ => none
  | k + 1, x0, x15 => if x15 = true then (some (0, 3)) else ((bookplateref04_in.f x0 65 90).bind fun t117 => (if t117 = true then (bookplateref04_Class.j3 k x0 true) else ((bookplateref04_in.f x0 97 122).bind fun t118 => (if t118 = true then (bookplateref04_Class.j3 k x0 true) else (if x0 = 383 then (bookplateref04_Class.j3 k x0 true) else (if x0 = 64257 then (bookplateref04_Class.j3 k x0 true) else (if x0 = 64258 then (bookplateref04_Class.j3 k x0 true) else ((bookplateref04_listed.f k (⟨#[195, 128, 195, 136, 195, 140, 195, 146, 195, 153, 195, 160, 195, 168, 195, 172, 195, 178, 195, 185, 195, 129, 195, 137, 195, 141, 195, 147, 195, 154, 195, 157, 195, 161, 195, 169, 195, 173, 195, 179, 195, 186, 195, 189, 196, 134, 196, 135, 196, 185, 196, 186, 197, 131, 197, 132, 197, 148, 197, 149, 197, 154, 197, 155, 197, 185, 197, 186, 195, 130, 195, 138, 195, 142, 195, 148, 195, 155, 195, 162, 195, 170, 195, 174, 195, 180, 195, 187, 196, 136, 196, 137, 196, 156, 196, 157, 196, 164, 196, 165, 196, 180, 196, 181, 197, 156, 197, 157, 197, 180, 197, 181, 197, 182, 197, 183, 195, 131, 195, 145, 195, 149, 195, 163, 195, 177, 195, 181, 196, 168, 196, 169, 197, 168, 197, 169, 196, 128, 196, 129, 196, 146, 196, 147, 196, 170, 196, 171, 197, 140, 197, 141, 197, 170, 197, 171, 196, 130, 196, 131, 196, 148, 196, 149, 196, 158, 196, 159, 196, 172, 196, 173, 197, 142, 197, 143, 197, 172, 197, 173, 196, 138, 196, 139, 196, 150, 196, 151, 196, 160, 196, 161, 196, 176, 197, 187, 197, 188, 195, 132, 195, 139, 195, 143, 195, 150, 195, 156, 195, 164, 195, 171, 195, 175, 195, 182, 195, 188, 195, 191, 197, 184, 195, 133, 195, 165, 197, 174, 197, 175, 197, 144, 197, 145, 197, 176, 197, 177, 196, 140, 196, 141, 196, 142, 196, 143, 196, 154, 196, 155, 197, 135, 197, 136, 197, 152, 197, 153, 197, 160, 197, 161, 197, 164, 197, 165, 197, 189, 197, 190, 196, 189, 196, 190, 195, 135, 195, 167, 196, 162, 196, 163, 196, 182, 196, 183, 196, 187, 196, 188, 197, 133, 197, 134, 197, 150, 197, 151, 197, 158, 197, 159, 197, 162, 197, 163, 196, 132, 196, 133, 196, 152, 196, 153, 196, 174, 196, 175, 197, 178, 197, 179, 195, 134, 195, 166, 195, 152, 195, 184, 195, 144, 195, 176, 195, 158, 195, 190, 195, 159, 196, 144, 196, 145, 196, 166, 196, 167, 196, 177, 197, 129, 197, 130, 197, 146, 197, 147, 197, 138, 197, 139, 197, 166, 197, 167]⟩ : ByteArray) x0).bind fun t119 => (bookplateref04_Class.j3 k x0 t119)))))))))
def bookplateref04_Class.j3 : Nat → Int → Bool → Option (Int × Int)
  | 0, _, _ => none
  | k + 1, x0, x30 => if x30 = true then (some (1, 1)) else ((bookplateref04_in.f x0 768 772).bind fun t120 => (if t120 = true then (bookplateref04_Class.j4 k x0 true) else ((bookplateref04_in.f x0 774 776).bind fun t121 => (if t121 = true then (bookplateref04_Class.j4 k x0 true) else ((bookplateref04_in.f x0 778 780).bind fun t122 => (if t122 = true then (bookplateref04_Class.j4 k x0 true) else (if x0 = 803 then (bookplateref04_Class.j4 k x0 true) else (if x0 = 807 then (bookplateref04_Class.j4 k x0 true) else (bookplateref04_Class.j4 k x0 (x0 == 808))))))))))
def bookplateref04_Class.j4 : Nat → Int → Bool → Option (Int × Int)
  | 0, _, _ => none
  | k + 1, x0, x53 => if x53 = true then (some (0, 2)) else ((bookplateref04_in.f x0 913 929).bind fun t123 => (if t123 = true then (bookplateref04_Class.j5 k x0 true) else ((bookplateref04_in.f x0 931 937).bind fun t124 => (if t124 = true then (bookplateref04_Class.j5 k x0 true) else ((bookplateref04_in.f x0 945 969).bind fun t125 => (if t125 = true then (bookplateref04_Class.j5 k x0 true) else ((bookplateref04_listed.f k (⟨#[206, 134, 206, 136, 206, 137, 206, 138, 206, 140, 206, 142, 206, 143, 206, 172, 206, 173, 206, 174, 206, 175, 207, 140, 207, 141, 207, 142, 206, 170, 206, 171, 207, 138, 207, 139]⟩ : ByteArray) x0).bind fun t126 => (bookplateref04_Class.j5 k x0 t126))))))))
def bookplateref04_Class.j5 : Nat → Int → Bool → Option (Int × Int)
  | 0, _, _ => none
  | k + 1, x0, x76 => if x76 = true then (some (2, 1)) else ((bookplateref04_in.f x0 1040 1103).bind fun t127 => (if t127 = true then (bookplateref04_Class.j6 k x0 true) else ((bookplateref04_listed.f k (⟨#[208, 129, 209, 145, 208, 135, 209, 151, 208, 132, 209, 148, 210, 144, 210, 145, 208, 142, 209, 158, 208, 134, 209, 150]⟩ : ByteArray) x0).bind fun t128 => (bookplateref04_Class.j6 k x0 t128))))
def bookplateref04_Class.j6 : Nat → Int → Bool → Option (Int × Int)
  | 0, _, _ => none
  | k + 1, x0, x91 => if x91 = true then (some (3, 1)) else ((bookplateref04_in.f x0 33 126).bind fun t129 => (if t129 = true then (some (0, 5)) else (some (0, 0))))
end
def bookplateref04_Class.f (k : Nat) (a0 : Int) : Option (Int × Int) := (bookplateref04_in.f a0 65281 65374).bind fun t115 => (if t115 = true then (bookplateref04_Class.j0 k (wrap64 (a0 - 65248))) else (bookplateref04_Class.j0 k a0))
set_option maxHeartbeats 8000000 in
set_option maxRecDepth 100000 in
theorem bookplateref04_Class.calls (k : Nat) (a0 : Int) (r1 : Int) (r2 : Int) (w : World) (h : bookplateref04_Class.f k a0 = some (r1, r2)) :
    Calls Tryd.prog 63 #[.int .i64 a0] w fun e w' => e = .returned (.tuple #[.int .i64 r1, .int .i64 r2]) ∧ Drawn0 w w' := by
  have H : ((bookplateref04_in.f a0 65281 65374).bind fun t115 => (if t115 = true then (bookplateref04_Class.j0 k (wrap64 (a0 - 65248))) else (bookplateref04_Class.j0 k a0))) = some (r1, r2) := h
  clear h
  replace H := Option.bind_eq_some_iff.mp H
  obtain ⟨t115, A20, H⟩ := H
  replace H : (if t115 = true then (bookplateref04_Class.j0 k (wrap64 (a0 - 65248))) else (bookplateref04_Class.j0 k a0)) = some (r1, r2) := H
  have A2 := Aside0.mk A20
  clear A20
  have HC3 := Aside0.mk H
  clear H
  go_enter Tryd.func63, Tryd.ntmps63
  go_upto_if 5 with (first | ((with_reducible refine gate_callee (f := 83) rfl ?_); refine goesL_ (some 5) rfl rfl Tryd.func83 (by kernel_rfl) rfl #[.int .i64 a0, .int .i64 65281, .int .i64 65374] rfl (by (try simp only [List.map_toArray, List.map_cons, List.map_nil]); first | done | rfl | (simp only [List.length_drop, List.length_take]; rfl)) ?_; (with_reducible refine (bookplateref04_in.calls a0 65281 65374 t115 _ A2.out).mono ?_); rintro e w' ⟨rfl, ⟨nd, rfl⟩⟩; refine ⟨_, rfl, ?_⟩))
  (try simp only [Act.put, List.setIfInBounds_toArray, List.set_cons_zero, List.set_cons_succ])
  go_cut [0] (fun v0 wc => ∃ (kq : Nat) (x0_2 : Int), v0 = .int .i64 x0_2 ∧ Aside0 (bookplateref04_Class.j0 kq x0_2 = some (r1, r2)) ∧ Aside0 (kq ≤ k) ∧ Drawn0 w wc)
  case first =>
    have H := HC3.out
    clear HC3
    by_cases c4 : t115 = true
    · subst c4
      have H1 : (bookplateref04_Class.j0 k (wrap64 (a0 - 65248))) = some (r1, r2) := by rw [if_pos rfl] at H; exact H
      clear H
      have H := H1
      clear H1
      have H' := Aside0.mk H
      clear H
      go_wp2
      go_meet
      case rel => exact ⟨_, (wrap64 (a0 - 65248)), (by first | rfl | (simp; done) | (simp [*]; done)), H', ⟨by first | omega | exact Nat.le_refl _⟩, by repeat (first | exact Drawn0.refl _ | apply Drawn0.step)⟩
    · replace c4 := Bool.eq_false_iff.mpr c4
      subst c4
      have H1 : (bookplateref04_Class.j0 k a0) = some (r1, r2) := by rw [if_neg (show ¬ (false = true) by decide)] at H; exact H
      clear H
      have H := H1
      clear H1
      have H' := Aside0.mk H
      clear H
      go_wp2
      go_meet
      case rel => exact ⟨_, (a0), (by first | rfl | (simp; done) | (simp [*]; done)), H', ⟨by first | omega | exact Nat.le_refl _⟩, by repeat (first | exact Drawn0.refl _ | apply Drawn0.step)⟩
  case rest =>
    clear HC3
    try clear p2
    try clear c4
    obtain ⟨kq, x0_2, rfl, HA, HJ2, ⟨mc2, rfl⟩⟩ := hcut
    cases kq with
    | zero => exact absurd HA.out (by simp [bookplateref04_Class.j0])
    | succ kj2 =>
      have H := HA.out
      clear HA
      simp only [bookplateref04_Class.j0] at H
      have HC5 := Aside0.mk H
      clear H
      go_upto_region 3 with (fail)
      go_cut [8] (fun v8 wc => ∃ (kq : Nat) (x8_4 : Bool), v8 = .bool x8_4 ∧ Aside0 (bookplateref04_Class.j1 kq x0_2 x8_4 = some (r1, r2)) ∧ Aside0 (kq ≤ kj2) ∧ Drawn0 w wc)
      case first =>
        have H := HC5.out
        clear HC5
        by_cases c6 : x0_2 = 32
        · rw [if_pos c6] at H
          have c6b0 : (x0_2 == 32) = true := beq_iff_eq.mpr c6
          have c6b1 : (x0_2 != 32) = false := bne_eq_false_iff_eq.mpr c6
          clear c6
          (first | rw [c6b0] | (simp only [i64_w, i32_w]; rw [c6b0]) | skip)
          have H' := Aside0.mk H
          clear H
          go_wp2
          go_meet
          case rel => exact ⟨_, (true), (by first | rfl | (simp; done) | (simp [*]; done)), H', ⟨by have := HJ2.out; first | omega | exact Nat.le_refl _⟩, by repeat (first | exact Drawn0.refl _ | apply Drawn0.step)⟩
        · rw [if_neg c6] at H
          have c6b0 : (x0_2 == 32) = false := beq_eq_false_iff_ne.mpr c6
          have c6b1 : (x0_2 != 32) = true := bne_iff_ne.mpr c6
          (first | rw [c6b0] | (simp only [i64_w, i32_w]; rw [c6b0]) | skip)
          have H' := Aside0.mk H
          clear H
          go_wp2
          go_meet
          case rel => exact ⟨_, ((x0_2 == 160)), (by first | rfl | (simp; done) | (simp [*]; done)), H', ⟨by have := HJ2.out; first | omega | exact Nat.le_refl _⟩, by repeat (first | exact Drawn0.refl _ | apply Drawn0.step)⟩
      case rest =>
        clear HC5
        try clear c2
        try clear p2
        try clear c4
        try clear c6
        try clear c6b0
        try clear c6b1
        try clear p6
        try clear p2
        obtain ⟨kq, x8_4, rfl, HA, HJ4, ⟨mc4, rfl⟩⟩ := hcut
        cases kq with
        | zero => exact absurd HA.out (by simp [bookplateref04_Class.j1])
        | succ kj4 =>
          have H := HA.out
          clear HA
          simp only [bookplateref04_Class.j1] at H
          by_cases c7 : x8_4 = true
          · subst c7
            have H1 : (some (0, 4)) = some (r1, r2) := by rw [if_pos rfl] at H; exact H
            clear H
            have H := H1
            clear H1
            simp only [Option.some.injEq, Prod.mk.injEq] at H
            obtain ⟨rfl, rfl⟩ := H
            go_wp2
            go_ret2
            exact ⟨by first | rfl | (simp; done) | (simp [*]; done), by repeat (first | exact Drawn0.refl _ | apply Drawn0.step)⟩
          · replace c7 := Bool.eq_false_iff.mpr c7
            subst c7
            have H1 : ((bookplateref04_in.f x0_2 48 57).bind fun t116 => (if t116 = true then (bookplateref04_Class.j2 kj4 x0_2 true) else (if x0_2 = 178 then (bookplateref04_Class.j2 kj4 x0_2 true) else (if x0_2 = 179 then (bookplateref04_Class.j2 kj4 x0_2 true) else (bookplateref04_Class.j2 kj4 x0_2 (x0_2 == 185)))))) = some (r1, r2) := by rw [if_neg (show ¬ (false = true) by decide)] at H; exact H
            clear H
            have H := H1
            clear H1
            have HC8 := Aside0.mk H
            clear H
            go_upto_region 5 with (fail)
            go_cut [15] (fun v15 wc => ∃ (kq : Nat) (x15_7 : Bool), v15 = .bool x15_7 ∧ Aside0 (bookplateref04_Class.j2 kq x0_2 x15_7 = some (r1, r2)) ∧ Aside0 (kq ≤ kj4) ∧ Drawn0 w wc)
            case first =>
              have H := HC8.out
              clear HC8
              replace H := Option.bind_eq_some_iff.mp H
              obtain ⟨t116, A90, H⟩ := H
              replace H : (if t116 = true then (bookplateref04_Class.j2 kj4 x0_2 true) else (if x0_2 = 178 then (bookplateref04_Class.j2 kj4 x0_2 true) else (if x0_2 = 179 then (bookplateref04_Class.j2 kj4 x0_2 true) else (bookplateref04_Class.j2 kj4 x0_2 (x0_2 == 185))))) = some (r1, r2) := H
              have A9 := Aside0.mk A90
              clear A90
              by_cases c10 : t116 = true
              · subst c10
                have H1 : (bookplateref04_Class.j2 kj4 x0_2 true) = some (r1, r2) := by rw [if_pos rfl] at H; exact H
                clear H
                have H := H1
                clear H1
                have H' := Aside0.mk H
                clear H
                go_wp2_with (first | ((with_reducible refine gate_callee (f := 83) rfl ?_); refine goesL_ (some 17) rfl rfl Tryd.func83 (by kernel_rfl) rfl #[.int .i64 x0_2, .int .i64 48, .int .i64 57] rfl (by (try simp only [List.map_toArray, List.map_cons, List.map_nil]); first | done | rfl | (simp only [List.length_drop, List.length_take]; rfl)) ?_; (with_reducible refine (bookplateref04_in.calls x0_2 48 57 true _ A9.out).mono ?_); rintro e w' ⟨rfl, ⟨nd, rfl⟩⟩; refine ⟨_, rfl, ?_⟩))
                go_meet
                case rel => exact ⟨_, (true), (by first | rfl | (simp; done) | (simp [*]; done)), H', ⟨by have := HJ2.out; have := HJ4.out; first | omega | exact Nat.le_refl _⟩, by repeat (first | exact Drawn0.refl _ | apply Drawn0.step)⟩
              · replace c10 := Bool.eq_false_iff.mpr c10
                subst c10
                have H1 : (if x0_2 = 178 then (bookplateref04_Class.j2 kj4 x0_2 true) else (if x0_2 = 179 then (bookplateref04_Class.j2 kj4 x0_2 true) else (bookplateref04_Class.j2 kj4 x0_2 (x0_2 == 185)))) = some (r1, r2) := by rw [if_neg (show ¬ (false = true) by decide)] at H; exact H
                clear H
                have H := H1
                clear H1
                by_cases c11 : x0_2 = 178
                · rw [if_pos c11] at H
                  have c11b0 : (x0_2 == 178) = true := beq_iff_eq.mpr c11
                  have c11b1 : (x0_2 != 178) = false := bne_eq_false_iff_eq.mpr c11
                  clear c11
                  (first | rw [c11b0] | (simp only [i64_w, i32_w]; rw [c11b0]) | skip)
                  have H' := Aside0.mk H
                  clear H
                  go_wp2_with (first | ((with_reducible refine gate_callee (f := 83) rfl ?_); refine goesL_ (some 17) rfl rfl Tryd.func83 (by kernel_rfl) rfl #[.int .i64 x0_2, .int .i64 48, .int .i64 57] rfl (by (try simp only [List.map_toArray, List.map_cons, List.map_nil]); first | done | rfl | (simp only [List.length_drop, List.length_take]; rfl)) ?_; (with_reducible refine (bookplateref04_in.calls x0_2 48 57 false _ A9.out).mono ?_); rintro e w' ⟨rfl, ⟨nd, rfl⟩⟩; refine ⟨_, rfl, ?_⟩))
                  go_meet
                  case rel => exact ⟨_, (true), (by first | rfl | (simp; done) | (simp [*]; done)), H', ⟨by have := HJ2.out; have := HJ4.out; first | omega | exact Nat.le_refl _⟩, by repeat (first | exact Drawn0.refl _ | apply Drawn0.step)⟩
                · rw [if_neg c11] at H
                  have c11b0 : (x0_2 == 178) = false := beq_eq_false_iff_ne.mpr c11
                  have c11b1 : (x0_2 != 178) = true := bne_iff_ne.mpr c11
                  (first | rw [c11b0] | (simp only [i64_w, i32_w]; rw [c11b0]) | skip)
                  by_cases c12 : x0_2 = 179
                  · rw [if_pos c12] at H
                    have c12b0 : (x0_2 == 179) = true := beq_iff_eq.mpr c12
                    have c12b1 : (x0_2 != 179) = false := bne_eq_false_iff_eq.mpr c12
                    clear c12
                    have H' := Aside0.mk H
                    clear H
                    go_wp2_with (first | ((with_reducible refine gate_callee (f := 83) rfl ?_); refine goesL_ (some 17) rfl rfl Tryd.func83 (by kernel_rfl) rfl #[.int .i64 x0_2, .int .i64 48, .int .i64 57] rfl (by (try simp only [List.map_toArray, List.map_cons, List.map_nil]); first | done | rfl | (simp only [List.length_drop, List.length_take]; rfl)) ?_; (with_reducible refine (bookplateref04_in.calls x0_2 48 57 false _ A9.out).mono ?_); rintro e w' ⟨rfl, ⟨nd, rfl⟩⟩; refine ⟨_, rfl, ?_⟩))
                    go_meet
                    case rel => exact ⟨_, (true), (by first | rfl | (simp; done) | (simp [*]; done)), H', ⟨by have := HJ2.out; have := HJ4.out; first | omega | exact Nat.le_refl _⟩, by repeat (first | exact Drawn0.refl _ | apply Drawn0.step)⟩
                  · rw [if_neg c12] at H
                    have c12b0 : (x0_2 == 179) = false := beq_eq_false_iff_ne.mpr c12
                    have c12b1 : (x0_2 != 179) = true := bne_iff_ne.mpr c12
                    have H' := Aside0.mk H
                    clear H
                    go_wp2_with (first | ((with_reducible refine gate_callee (f := 83) rfl ?_); refine goesL_ (some 17) rfl rfl Tryd.func83 (by kernel_rfl) rfl #[.int .i64 x0_2, .int .i64 48, .int .i64 57] rfl (by (try simp only [List.map_toArray, List.map_cons, List.map_nil]); first | done | rfl | (simp only [List.length_drop, List.length_take]; rfl)) ?_; (with_reducible refine (bookplateref04_in.calls x0_2 48 57 false _ A9.out).mono ?_); rintro e w' ⟨rfl, ⟨nd, rfl⟩⟩; refine ⟨_, rfl, ?_⟩))
                    go_meet
                    case rel => exact ⟨_, ((x0_2 == 185)), (by first | rfl | (simp; done) | (simp [*]; done)), H', ⟨by have := HJ2.out; have := HJ4.out; first | omega | exact Nat.le_refl _⟩, by repeat (first | exact Drawn0.refl _ | apply Drawn0.step)⟩
            case rest =>
              clear HC8
              try clear c1
              try clear c2
              try clear p2
              try clear c4
              try clear c6
              try clear c6b0
              try clear c6b1
              try clear p6
              try clear c7
              try clear c8
              try clear c10
              try clear c11
              try clear c11b0
              try clear c11b1
              try clear c12
              try clear c12b0
              try clear c12b1
              try clear p2
              try clear p6
              obtain ⟨kq, x15_7, rfl, HA, HJ7, ⟨mc7, rfl⟩⟩ := hcut
              cases kq with
              | zero => exact absurd HA.out (by simp [bookplateref04_Class.j2])
              | succ kj7 =>
                have H := HA.out
                clear HA
                simp only [bookplateref04_Class.j2] at H
                by_cases c13 : x15_7 = true
                · subst c13
                  have H1 : (some (0, 3)) = some (r1, r2) := by rw [if_pos rfl] at H; exact H
                  clear H
                  have H := H1
                  clear H1
                  simp only [Option.some.injEq, Prod.mk.injEq] at H
                  obtain ⟨rfl, rfl⟩ := H
                  go_wp2
                  go_ret2
                  exact ⟨by first | rfl | (simp; done) | (simp [*]; done), by repeat (first | exact Drawn0.refl _ | apply Drawn0.step)⟩
                · replace c13 := Bool.eq_false_iff.mpr c13
                  subst c13
                  have H1 : ((bookplateref04_in.f x0_2 65 90).bind fun t117 => (if t117 = true then (bookplateref04_Class.j3 kj7 x0_2 true) else ((bookplateref04_in.f x0_2 97 122).bind fun t118 => (if t118 = true then (bookplateref04_Class.j3 kj7 x0_2 true) else (if x0_2 = 383 then (bookplateref04_Class.j3 kj7 x0_2 true) else (if x0_2 = 64257 then (bookplateref04_Class.j3 kj7 x0_2 true) else (if x0_2 = 64258 then (bookplateref04_Class.j3 kj7 x0_2 true) else ((bookplateref04_listed.f kj7 (⟨#[195, 128, 195, 136, 195, 140, 195, 146, 195, 153, 195, 160, 195, 168, 195, 172, 195, 178, 195, 185, 195, 129, 195, 137, 195, 141, 195, 147, 195, 154, 195, 157, 195, 161, 195, 169, 195, 173, 195, 179, 195, 186, 195, 189, 196, 134, 196, 135, 196, 185, 196, 186, 197, 131, 197, 132, 197, 148, 197, 149, 197, 154, 197, 155, 197, 185, 197, 186, 195, 130, 195, 138, 195, 142, 195, 148, 195, 155, 195, 162, 195, 170, 195, 174, 195, 180, 195, 187, 196, 136, 196, 137, 196, 156, 196, 157, 196, 164, 196, 165, 196, 180, 196, 181, 197, 156, 197, 157, 197, 180, 197, 181, 197, 182, 197, 183, 195, 131, 195, 145, 195, 149, 195, 163, 195, 177, 195, 181, 196, 168, 196, 169, 197, 168, 197, 169, 196, 128, 196, 129, 196, 146, 196, 147, 196, 170, 196, 171, 197, 140, 197, 141, 197, 170, 197, 171, 196, 130, 196, 131, 196, 148, 196, 149, 196, 158, 196, 159, 196, 172, 196, 173, 197, 142, 197, 143, 197, 172, 197, 173, 196, 138, 196, 139, 196, 150, 196, 151, 196, 160, 196, 161, 196, 176, 197, 187, 197, 188, 195, 132, 195, 139, 195, 143, 195, 150, 195, 156, 195, 164, 195, 171, 195, 175, 195, 182, 195, 188, 195, 191, 197, 184, 195, 133, 195, 165, 197, 174, 197, 175, 197, 144, 197, 145, 197, 176, 197, 177, 196, 140, 196, 141, 196, 142, 196, 143, 196, 154, 196, 155, 197, 135, 197, 136, 197, 152, 197, 153, 197, 160, 197, 161, 197, 164, 197, 165, 197, 189, 197, 190, 196, 189, 196, 190, 195, 135, 195, 167, 196, 162, 196, 163, 196, 182, 196, 183, 196, 187, 196, 188, 197, 133, 197, 134, 197, 150, 197, 151, 197, 158, 197, 159, 197, 162, 197, 163, 196, 132, 196, 133, 196, 152, 196, 153, 196, 174, 196, 175, 197, 178, 197, 179, 195, 134, 195, 166, 195, 152, 195, 184, 195, 144, 195, 176, 195, 158, 195, 190, 195, 159, 196, 144, 196, 145, 196, 166, 196, 167, 196, 177, 197, 129, 197, 130, 197, 146, 197, 147, 197, 138, 197, 139, 197, 166, 197, 167]⟩ : ByteArray) x0_2).bind fun t119 => (bookplateref04_Class.j3 kj7 x0_2 t119))))))))) = some (r1, r2) := by rw [if_neg (show ¬ (false = true) by decide)] at H; exact H
                  clear H
                  have H := H1
                  clear H1
                  have HC14 := Aside0.mk H
                  clear H
                  go_upto_region 7 with (fail)
                  go_cut [30] (fun v30 wc => ∃ (kq : Nat) (x30_13 : Bool), v30 = .bool x30_13 ∧ Aside0 (bookplateref04_Class.j3 kq x0_2 x30_13 = some (r1, r2)) ∧ Aside0 (kq ≤ kj7) ∧ Drawn0 w wc)
                  case first =>
                    have H := HC14.out
                    clear HC14
                    replace H := Option.bind_eq_some_iff.mp H
                    obtain ⟨t117, A150, H⟩ := H
                    replace H : (if t117 = true then (bookplateref04_Class.j3 kj7 x0_2 true) else ((bookplateref04_in.f x0_2 97 122).bind fun t118 => (if t118 = true then (bookplateref04_Class.j3 kj7 x0_2 true) else (if x0_2 = 383 then (bookplateref04_Class.j3 kj7 x0_2 true) else (if x0_2 = 64257 then (bookplateref04_Class.j3 kj7 x0_2 true) else (if x0_2 = 64258 then (bookplateref04_Class.j3 kj7 x0_2 true) else ((bookplateref04_listed.f kj7 (⟨#[195, 128, 195, 136, 195, 140, 195, 146, 195, 153, 195, 160, 195, 168, 195, 172, 195, 178, 195, 185, 195, 129, 195, 137, 195, 141, 195, 147, 195, 154, 195, 157, 195, 161, 195, 169, 195, 173, 195, 179, 195, 186, 195, 189, 196, 134, 196, 135, 196, 185, 196, 186, 197, 131, 197, 132, 197, 148, 197, 149, 197, 154, 197, 155, 197, 185, 197, 186, 195, 130, 195, 138, 195, 142, 195, 148, 195, 155, 195, 162, 195, 170, 195, 174, 195, 180, 195, 187, 196, 136, 196, 137, 196, 156, 196, 157, 196, 164, 196, 165, 196, 180, 196, 181, 197, 156, 197, 157, 197, 180, 197, 181, 197, 182, 197, 183, 195, 131, 195, 145, 195, 149, 195, 163, 195, 177, 195, 181, 196, 168, 196, 169, 197, 168, 197, 169, 196, 128, 196, 129, 196, 146, 196, 147, 196, 170, 196, 171, 197, 140, 197, 141, 197, 170, 197, 171, 196, 130, 196, 131, 196, 148, 196, 149, 196, 158, 196, 159, 196, 172, 196, 173, 197, 142, 197, 143, 197, 172, 197, 173, 196, 138, 196, 139, 196, 150, 196, 151, 196, 160, 196, 161, 196, 176, 197, 187, 197, 188, 195, 132, 195, 139, 195, 143, 195, 150, 195, 156, 195, 164, 195, 171, 195, 175, 195, 182, 195, 188, 195, 191, 197, 184, 195, 133, 195, 165, 197, 174, 197, 175, 197, 144, 197, 145, 197, 176, 197, 177, 196, 140, 196, 141, 196, 142, 196, 143, 196, 154, 196, 155, 197, 135, 197, 136, 197, 152, 197, 153, 197, 160, 197, 161, 197, 164, 197, 165, 197, 189, 197, 190, 196, 189, 196, 190, 195, 135, 195, 167, 196, 162, 196, 163, 196, 182, 196, 183, 196, 187, 196, 188, 197, 133, 197, 134, 197, 150, 197, 151, 197, 158, 197, 159, 197, 162, 197, 163, 196, 132, 196, 133, 196, 152, 196, 153, 196, 174, 196, 175, 197, 178, 197, 179, 195, 134, 195, 166, 195, 152, 195, 184, 195, 144, 195, 176, 195, 158, 195, 190, 195, 159, 196, 144, 196, 145, 196, 166, 196, 167, 196, 177, 197, 129, 197, 130, 197, 146, 197, 147, 197, 138, 197, 139, 197, 166, 197, 167]⟩ : ByteArray) x0_2).bind fun t119 => (bookplateref04_Class.j3 kj7 x0_2 t119)))))))) = some (r1, r2) := H
                    have A15 := Aside0.mk A150
                    clear A150
                    by_cases c16 : t117 = true
                    · subst c16
                      have H1 : (bookplateref04_Class.j3 kj7 x0_2 true) = some (r1, r2) := by rw [if_pos rfl] at H; exact H
                      clear H
                      have H := H1
                      clear H1
                      have H' := Aside0.mk H
                      clear H
                      go_wp2_with (first | ((with_reducible refine gate_callee (f := 83) rfl ?_); refine goesL_ (some 32) rfl rfl Tryd.func83 (by kernel_rfl) rfl #[.int .i64 x0_2, .int .i64 65, .int .i64 90] rfl (by (try simp only [List.map_toArray, List.map_cons, List.map_nil]); first | done | rfl | (simp only [List.length_drop, List.length_take]; rfl)) ?_; (with_reducible refine (bookplateref04_in.calls x0_2 65 90 true _ A15.out).mono ?_); rintro e w' ⟨rfl, ⟨nd, rfl⟩⟩; refine ⟨_, rfl, ?_⟩))
                      go_meet
                      case rel => exact ⟨_, (true), (by first | rfl | (simp; done) | (simp [*]; done)), H', ⟨by have := HJ2.out; have := HJ4.out; have := HJ7.out; first | omega | exact Nat.le_refl _⟩, by repeat (first | exact Drawn0.refl _ | apply Drawn0.step)⟩
                    · replace c16 := Bool.eq_false_iff.mpr c16
                      subst c16
                      have H1 : ((bookplateref04_in.f x0_2 97 122).bind fun t118 => (if t118 = true then (bookplateref04_Class.j3 kj7 x0_2 true) else (if x0_2 = 383 then (bookplateref04_Class.j3 kj7 x0_2 true) else (if x0_2 = 64257 then (bookplateref04_Class.j3 kj7 x0_2 true) else (if x0_2 = 64258 then (bookplateref04_Class.j3 kj7 x0_2 true) else ((bookplateref04_listed.f kj7 (⟨#[195, 128, 195, 136, 195, 140, 195, 146, 195, 153, 195, 160, 195, 168, 195, 172, 195, 178, 195, 185, 195, 129, 195, 137, 195, 141, 195, 147, 195, 154, 195, 157, 195, 161, 195, 169, 195, 173, 195, 179, 195, 186, 195, 189, 196, 134, 196, 135, 196, 185, 196, 186, 197, 131, 197, 132, 197, 148, 197, 149, 197, 154, 197, 155, 197, 185, 197, 186, 195, 130, 195, 138, 195, 142, 195, 148, 195, 155, 195, 162, 195, 170, 195, 174, 195, 180, 195, 187, 196, 136, 196, 137, 196, 156, 196, 157, 196, 164, 196, 165, 196, 180, 196, 181, 197, 156, 197, 157, 197, 180, 197, 181, 197, 182, 197, 183, 195, 131, 195, 145, 195, 149, 195, 163, 195, 177, 195, 181, 196, 168, 196, 169, 197, 168, 197, 169, 196, 128, 196, 129, 196, 146, 196, 147, 196, 170, 196, 171, 197, 140, 197, 141, 197, 170, 197, 171, 196, 130, 196, 131, 196, 148, 196, 149, 196, 158, 196, 159, 196, 172, 196, 173, 197, 142, 197, 143, 197, 172, 197, 173, 196, 138, 196, 139, 196, 150, 196, 151, 196, 160, 196, 161, 196, 176, 197, 187, 197, 188, 195, 132, 195, 139, 195, 143, 195, 150, 195, 156, 195, 164, 195, 171, 195, 175, 195, 182, 195, 188, 195, 191, 197, 184, 195, 133, 195, 165, 197, 174, 197, 175, 197, 144, 197, 145, 197, 176, 197, 177, 196, 140, 196, 141, 196, 142, 196, 143, 196, 154, 196, 155, 197, 135, 197, 136, 197, 152, 197, 153, 197, 160, 197, 161, 197, 164, 197, 165, 197, 189, 197, 190, 196, 189, 196, 190, 195, 135, 195, 167, 196, 162, 196, 163, 196, 182, 196, 183, 196, 187, 196, 188, 197, 133, 197, 134, 197, 150, 197, 151, 197, 158, 197, 159, 197, 162, 197, 163, 196, 132, 196, 133, 196, 152, 196, 153, 196, 174, 196, 175, 197, 178, 197, 179, 195, 134, 195, 166, 195, 152, 195, 184, 195, 144, 195, 176, 195, 158, 195, 190, 195, 159, 196, 144, 196, 145, 196, 166, 196, 167, 196, 177, 197, 129, 197, 130, 197, 146, 197, 147, 197, 138, 197, 139, 197, 166, 197, 167]⟩ : ByteArray) x0_2).bind fun t119 => (bookplateref04_Class.j3 kj7 x0_2 t119))))))) = some (r1, r2) := by rw [if_neg (show ¬ (false = true) by decide)] at H; exact H
                      clear H
                      have H := H1
                      clear H1
                      replace H := Option.bind_eq_some_iff.mp H
                      obtain ⟨t118, A170, H⟩ := H
                      replace H : (if t118 = true then (bookplateref04_Class.j3 kj7 x0_2 true) else (if x0_2 = 383 then (bookplateref04_Class.j3 kj7 x0_2 true) else (if x0_2 = 64257 then (bookplateref04_Class.j3 kj7 x0_2 true) else (if x0_2 = 64258 then (bookplateref04_Class.j3 kj7 x0_2 true) else ((bookplateref04_listed.f kj7 (⟨#[195, 128, 195, 136, 195, 140, 195, 146, 195, 153, 195, 160, 195, 168, 195, 172, 195, 178, 195, 185, 195, 129, 195, 137, 195, 141, 195, 147, 195, 154, 195, 157, 195, 161, 195, 169, 195, 173, 195, 179, 195, 186, 195, 189, 196, 134, 196, 135, 196, 185, 196, 186, 197, 131, 197, 132, 197, 148, 197, 149, 197, 154, 197, 155, 197, 185, 197, 186, 195, 130, 195, 138, 195, 142, 195, 148, 195, 155, 195, 162, 195, 170, 195, 174, 195, 180, 195, 187, 196, 136, 196, 137, 196, 156, 196, 157, 196, 164, 196, 165, 196, 180, 196, 181, 197, 156, 197, 157, 197, 180, 197, 181, 197, 182, 197, 183, 195, 131, 195, 145, 195, 149, 195, 163, 195, 177, 195, 181, 196, 168, 196, 169, 197, 168, 197, 169, 196, 128, 196, 129, 196, 146, 196, 147, 196, 170, 196, 171, 197, 140, 197, 141, 197, 170, 197, 171, 196, 130, 196, 131, 196, 148, 196, 149, 196, 158, 196, 159, 196, 172, 196, 173, 197, 142, 197, 143, 197, 172, 197, 173, 196, 138, 196, 139, 196, 150, 196, 151, 196, 160, 196, 161, 196, 176, 197, 187, 197, 188, 195, 132, 195, 139, 195, 143, 195, 150, 195, 156, 195, 164, 195, 171, 195, 175, 195, 182, 195, 188, 195, 191, 197, 184, 195, 133, 195, 165, 197, 174, 197, 175, 197, 144, 197, 145, 197, 176, 197, 177, 196, 140, 196, 141, 196, 142, 196, 143, 196, 154, 196, 155, 197, 135, 197, 136, 197, 152, 197, 153, 197, 160, 197, 161, 197, 164, 197, 165, 197, 189, 197, 190, 196, 189, 196, 190, 195, 135, 195, 167, 196, 162, 196, 163, 196, 182, 196, 183, 196, 187, 196, 188, 197, 133, 197, 134, 197, 150, 197, 151, 197, 158, 197, 159, 197, 162, 197, 163, 196, 132, 196, 133, 196, 152, 196, 153, 196, 174, 196, 175, 197, 178, 197, 179, 195, 134, 195, 166, 195, 152, 195, 184, 195, 144, 195, 176, 195, 158, 195, 190, 195, 159, 196, 144, 196, 145, 196, 166, 196, 167, 196, 177, 197, 129, 197, 130, 197, 146, 197, 147, 197, 138, 197, 139, 197, 166, 197, 167]⟩ : ByteArray) x0_2).bind fun t119 => (bookplateref04_Class.j3 kj7 x0_2 t119)))))) = some (r1, r2) := H
                      have A17 := Aside0.mk A170
                      clear A170
                      by_cases c18 : t118 = true
                      · subst c18
                        have H1 : (bookplateref04_Class.j3 kj7 x0_2 true) = some (r1, r2) := by rw [if_pos rfl] at H; exact H
                        clear H
                        have H := H1
                        clear H1
                        have H' := Aside0.mk H
                        clear H
                        go_wp2_with (first | ((with_reducible refine gate_callee (f := 83) rfl ?_); refine goesL_ (some 32) rfl rfl Tryd.func83 (by kernel_rfl) rfl #[.int .i64 x0_2, .int .i64 65, .int .i64 90] rfl (by (try simp only [List.map_toArray, List.map_cons, List.map_nil]); first | done | rfl | (simp only [List.length_drop, List.length_take]; rfl)) ?_; (with_reducible refine (bookplateref04_in.calls x0_2 65 90 false _ A15.out).mono ?_); rintro e w' ⟨rfl, ⟨nd, rfl⟩⟩; refine ⟨_, rfl, ?_⟩) | (go_at_call 83; (with_reducible refine (bookplateref04_in.calls x0_2 97 122 true _ A17.out).mono ?_); rintro e w' ⟨rfl, ⟨nd, rfl⟩⟩))
                        go_meet
                        case rel => exact ⟨_, (true), (by first | rfl | (simp; done) | (simp [*]; done)), H', ⟨by have := HJ2.out; have := HJ4.out; have := HJ7.out; first | omega | exact Nat.le_refl _⟩, by repeat (first | exact Drawn0.refl _ | apply Drawn0.step)⟩
                      · replace c18 := Bool.eq_false_iff.mpr c18
                        subst c18
                        have H1 : (if x0_2 = 383 then (bookplateref04_Class.j3 kj7 x0_2 true) else (if x0_2 = 64257 then (bookplateref04_Class.j3 kj7 x0_2 true) else (if x0_2 = 64258 then (bookplateref04_Class.j3 kj7 x0_2 true) else ((bookplateref04_listed.f kj7 (⟨#[195, 128, 195, 136, 195, 140, 195, 146, 195, 153, 195, 160, 195, 168, 195, 172, 195, 178, 195, 185, 195, 129, 195, 137, 195, 141, 195, 147, 195, 154, 195, 157, 195, 161, 195, 169, 195, 173, 195, 179, 195, 186, 195, 189, 196, 134, 196, 135, 196, 185, 196, 186, 197, 131, 197, 132, 197, 148, 197, 149, 197, 154, 197, 155, 197, 185, 197, 186, 195, 130, 195, 138, 195, 142, 195, 148, 195, 155, 195, 162, 195, 170, 195, 174, 195, 180, 195, 187, 196, 136, 196, 137, 196, 156, 196, 157, 196, 164, 196, 165, 196, 180, 196, 181, 197, 156, 197, 157, 197, 180, 197, 181, 197, 182, 197, 183, 195, 131, 195, 145, 195, 149, 195, 163, 195, 177, 195, 181, 196, 168, 196, 169, 197, 168, 197, 169, 196, 128, 196, 129, 196, 146, 196, 147, 196, 170, 196, 171, 197, 140, 197, 141, 197, 170, 197, 171, 196, 130, 196, 131, 196, 148, 196, 149, 196, 158, 196, 159, 196, 172, 196, 173, 197, 142, 197, 143, 197, 172, 197, 173, 196, 138, 196, 139, 196, 150, 196, 151, 196, 160, 196, 161, 196, 176, 197, 187, 197, 188, 195, 132, 195, 139, 195, 143, 195, 150, 195, 156, 195, 164, 195, 171, 195, 175, 195, 182, 195, 188, 195, 191, 197, 184, 195, 133, 195, 165, 197, 174, 197, 175, 197, 144, 197, 145, 197, 176, 197, 177, 196, 140, 196, 141, 196, 142, 196, 143, 196, 154, 196, 155, 197, 135, 197, 136, 197, 152, 197, 153, 197, 160, 197, 161, 197, 164, 197, 165, 197, 189, 197, 190, 196, 189, 196, 190, 195, 135, 195, 167, 196, 162, 196, 163, 196, 182, 196, 183, 196, 187, 196, 188, 197, 133, 197, 134, 197, 150, 197, 151, 197, 158, 197, 159, 197, 162, 197, 163, 196, 132, 196, 133, 196, 152, 196, 153, 196, 174, 196, 175, 197, 178, 197, 179, 195, 134, 195, 166, 195, 152, 195, 184, 195, 144, 195, 176, 195, 158, 195, 190, 195, 159, 196, 144, 196, 145, 196, 166, 196, 167, 196, 177, 197, 129, 197, 130, 197, 146, 197, 147, 197, 138, 197, 139, 197, 166, 197, 167]⟩ : ByteArray) x0_2).bind fun t119 => (bookplateref04_Class.j3 kj7 x0_2 t119))))) = some (r1, r2) := by rw [if_neg (show ¬ (false = true) by decide)] at H; exact H
                        clear H
                        have H := H1
                        clear H1
                        by_cases c19 : x0_2 = 383
                        · rw [if_pos c19] at H
                          have c19b0 : (x0_2 == 383) = true := beq_iff_eq.mpr c19
                          have c19b1 : (x0_2 != 383) = false := bne_eq_false_iff_eq.mpr c19
                          clear c19
                          (first | rw [c19b0] | (simp only [i64_w, i32_w]; rw [c19b0]) | skip)
                          have H' := Aside0.mk H
                          clear H
                          go_wp2_with (first | ((with_reducible refine gate_callee (f := 83) rfl ?_); refine goesL_ (some 32) rfl rfl Tryd.func83 (by kernel_rfl) rfl #[.int .i64 x0_2, .int .i64 65, .int .i64 90] rfl (by (try simp only [List.map_toArray, List.map_cons, List.map_nil]); first | done | rfl | (simp only [List.length_drop, List.length_take]; rfl)) ?_; (with_reducible refine (bookplateref04_in.calls x0_2 65 90 false _ A15.out).mono ?_); rintro e w' ⟨rfl, ⟨nd, rfl⟩⟩; refine ⟨_, rfl, ?_⟩) | (go_at_call 83; (with_reducible refine (bookplateref04_in.calls x0_2 97 122 false _ A17.out).mono ?_); rintro e w' ⟨rfl, ⟨nd, rfl⟩⟩))
                          go_meet
                          case rel => exact ⟨_, (true), (by first | rfl | (simp; done) | (simp [*]; done)), H', ⟨by have := HJ2.out; have := HJ4.out; have := HJ7.out; first | omega | exact Nat.le_refl _⟩, by repeat (first | exact Drawn0.refl _ | apply Drawn0.step)⟩
                        · rw [if_neg c19] at H
                          have c19b0 : (x0_2 == 383) = false := beq_eq_false_iff_ne.mpr c19
                          have c19b1 : (x0_2 != 383) = true := bne_iff_ne.mpr c19
                          (first | rw [c19b0] | (simp only [i64_w, i32_w]; rw [c19b0]) | skip)
                          by_cases c20 : x0_2 = 64257
                          · rw [if_pos c20] at H
                            have c20b0 : (x0_2 == 64257) = true := beq_iff_eq.mpr c20
                            have c20b1 : (x0_2 != 64257) = false := bne_eq_false_iff_eq.mpr c20
                            clear c20
                            have H' := Aside0.mk H
                            clear H
                            go_wp2_with (first | ((with_reducible refine gate_callee (f := 83) rfl ?_); refine goesL_ (some 32) rfl rfl Tryd.func83 (by kernel_rfl) rfl #[.int .i64 x0_2, .int .i64 65, .int .i64 90] rfl (by (try simp only [List.map_toArray, List.map_cons, List.map_nil]); first | done | rfl | (simp only [List.length_drop, List.length_take]; rfl)) ?_; (with_reducible refine (bookplateref04_in.calls x0_2 65 90 false _ A15.out).mono ?_); rintro e w' ⟨rfl, ⟨nd, rfl⟩⟩; refine ⟨_, rfl, ?_⟩) | (go_at_call 83; (with_reducible refine (bookplateref04_in.calls x0_2 97 122 false _ A17.out).mono ?_); rintro e w' ⟨rfl, ⟨nd, rfl⟩⟩))
                            go_meet
                            case rel => exact ⟨_, (true), (by first | rfl | (simp; done) | (simp [*]; done)), H', ⟨by have := HJ2.out; have := HJ4.out; have := HJ7.out; first | omega | exact Nat.le_refl _⟩, by repeat (first | exact Drawn0.refl _ | apply Drawn0.step)⟩
                          · rw [if_neg c20] at H
                            have c20b0 : (x0_2 == 64257) = false := beq_eq_false_iff_ne.mpr c20
                            have c20b1 : (x0_2 != 64257) = true := bne_iff_ne.mpr c20
                            by_cases c21 : x0_2 = 64258
                            · rw [if_pos c21] at H
                              have c21b0 : (x0_2 == 64258) = true := beq_iff_eq.mpr c21
                              have c21b1 : (x0_2 != 64258) = false := bne_eq_false_iff_eq.mpr c21
                              clear c21
                              have H' := Aside0.mk H
                              clear H
                              go_wp2_with (first | ((with_reducible refine gate_callee (f := 83) rfl ?_); refine goesL_ (some 32) rfl rfl Tryd.func83 (by kernel_rfl) rfl #[.int .i64 x0_2, .int .i64 65, .int .i64 90] rfl (by (try simp only [List.map_toArray, List.map_cons, List.map_nil]); first | done | rfl | (simp only [List.length_drop, List.length_take]; rfl)) ?_; (with_reducible refine (bookplateref04_in.calls x0_2 65 90 false _ A15.out).mono ?_); rintro e w' ⟨rfl, ⟨nd, rfl⟩⟩; refine ⟨_, rfl, ?_⟩) | (go_at_call 83; (with_reducible refine (bookplateref04_in.calls x0_2 97 122 false _ A17.out).mono ?_); rintro e w' ⟨rfl, ⟨nd, rfl⟩⟩))
                              go_meet
                              case rel => exact ⟨_, (true), (by first | rfl | (simp; done) | (simp [*]; done)), H', ⟨by have := HJ2.out; have := HJ4.out; have := HJ7.out; first | omega | exact Nat.le_refl _⟩, by repeat (first | exact Drawn0.refl _ | apply Drawn0.step)⟩
                            · rw [if_neg c21] at H
                              have c21b0 : (x0_2 == 64258) = false := beq_eq_false_iff_ne.mpr c21
                              have c21b1 : (x0_2 != 64258) = true := bne_iff_ne.mpr c21
                              replace H := Option.bind_eq_some_iff.mp H
                              obtain ⟨t119, A220, H⟩ := H
                              replace H : (bookplateref04_Class.j3 kj7 x0_2 t119) = some (r1, r2) := H
                              have A22 := Aside0.mk A220
                              clear A220
                              have H' := Aside0.mk H
                              clear H
                              go_wp2_with (first | ((with_reducible refine gate_callee (f := 83) rfl ?_); refine goesL_ (some 32) rfl rfl Tryd.func83 (by kernel_rfl) rfl #[.int .i64 x0_2, .int .i64 65, .int .i64 90] rfl (by (try simp only [List.map_toArray, List.map_cons, List.map_nil]); first | done | rfl | (simp only [List.length_drop, List.length_take]; rfl)) ?_; (with_reducible refine (bookplateref04_in.calls x0_2 65 90 false _ A15.out).mono ?_); rintro e w' ⟨rfl, ⟨nd, rfl⟩⟩; refine ⟨_, rfl, ?_⟩) | (go_at_call 83; (with_reducible refine (bookplateref04_in.calls x0_2 97 122 false _ A17.out).mono ?_); rintro e w' ⟨rfl, ⟨nd, rfl⟩⟩) | (go_at_call 84; (with_reducible refine (bookplateref04_listed.calls kj7 (⟨#[195, 128, 195, 136, 195, 140, 195, 146, 195, 153, 195, 160, 195, 168, 195, 172, 195, 178, 195, 185, 195, 129, 195, 137, 195, 141, 195, 147, 195, 154, 195, 157, 195, 161, 195, 169, 195, 173, 195, 179, 195, 186, 195, 189, 196, 134, 196, 135, 196, 185, 196, 186, 197, 131, 197, 132, 197, 148, 197, 149, 197, 154, 197, 155, 197, 185, 197, 186, 195, 130, 195, 138, 195, 142, 195, 148, 195, 155, 195, 162, 195, 170, 195, 174, 195, 180, 195, 187, 196, 136, 196, 137, 196, 156, 196, 157, 196, 164, 196, 165, 196, 180, 196, 181, 197, 156, 197, 157, 197, 180, 197, 181, 197, 182, 197, 183, 195, 131, 195, 145, 195, 149, 195, 163, 195, 177, 195, 181, 196, 168, 196, 169, 197, 168, 197, 169, 196, 128, 196, 129, 196, 146, 196, 147, 196, 170, 196, 171, 197, 140, 197, 141, 197, 170, 197, 171, 196, 130, 196, 131, 196, 148, 196, 149, 196, 158, 196, 159, 196, 172, 196, 173, 197, 142, 197, 143, 197, 172, 197, 173, 196, 138, 196, 139, 196, 150, 196, 151, 196, 160, 196, 161, 196, 176, 197, 187, 197, 188, 195, 132, 195, 139, 195, 143, 195, 150, 195, 156, 195, 164, 195, 171, 195, 175, 195, 182, 195, 188, 195, 191, 197, 184, 195, 133, 195, 165, 197, 174, 197, 175, 197, 144, 197, 145, 197, 176, 197, 177, 196, 140, 196, 141, 196, 142, 196, 143, 196, 154, 196, 155, 197, 135, 197, 136, 197, 152, 197, 153, 197, 160, 197, 161, 197, 164, 197, 165, 197, 189, 197, 190, 196, 189, 196, 190, 195, 135, 195, 167, 196, 162, 196, 163, 196, 182, 196, 183, 196, 187, 196, 188, 197, 133, 197, 134, 197, 150, 197, 151, 197, 158, 197, 159, 197, 162, 197, 163, 196, 132, 196, 133, 196, 152, 196, 153, 196, 174, 196, 175, 197, 178, 197, 179, 195, 134, 195, 166, 195, 152, 195, 184, 195, 144, 195, 176, 195, 158, 195, 190, 195, 159, 196, 144, 196, 145, 196, 166, 196, 167, 196, 177, 197, 129, 197, 130, 197, 146, 197, 147, 197, 138, 197, 139, 197, 166, 197, 167]⟩ : ByteArray) x0_2 t119 _ A22.out).mono ?_); rintro e w' ⟨rfl, ⟨nd, rfl⟩⟩))
                              go_meet
                              case rel => exact ⟨_, (t119), (by first | rfl | (simp; done) | (simp [*]; done)), H', ⟨by have := HJ2.out; have := HJ4.out; have := HJ7.out; first | omega | exact Nat.le_refl _⟩, by repeat (first | exact Drawn0.refl _ | apply Drawn0.step)⟩
                  case rest =>
                    clear HC14
                    try clear c1
                    try clear c2
                    try clear p2
                    try clear c4
                    try clear c6
                    try clear c6b0
                    try clear c6b1
                    try clear p6
                    try clear c7
                    try clear c8
                    try clear c10
                    try clear c11
                    try clear c11b0
                    try clear c11b1
                    try clear c12
                    try clear c12b0
                    try clear c12b1
                    try clear c13
                    try clear c16
                    try clear c18
                    try clear c19
                    try clear c19b0
                    try clear c19b1
                    try clear c20
                    try clear c20b0
                    try clear c20b1
                    try clear c21
                    try clear c21b0
                    try clear c21b1
                    try clear p2
                    try clear p6
                    obtain ⟨kq, x30_13, rfl, HA, HJ13, ⟨mc13, rfl⟩⟩ := hcut
                    cases kq with
                    | zero => exact absurd HA.out (by simp [bookplateref04_Class.j3])
                    | succ kj13 =>
                      have H := HA.out
                      clear HA
                      simp only [bookplateref04_Class.j3] at H
                      by_cases c23 : x30_13 = true
                      · subst c23
                        have H1 : (some (1, 1)) = some (r1, r2) := by rw [if_pos rfl] at H; exact H
                        clear H
                        have H := H1
                        clear H1
                        simp only [Option.some.injEq, Prod.mk.injEq] at H
                        obtain ⟨rfl, rfl⟩ := H
                        go_wp2
                        go_ret2
                        exact ⟨by first | rfl | (simp; done) | (simp [*]; done), by repeat (first | exact Drawn0.refl _ | apply Drawn0.step)⟩
                      · replace c23 := Bool.eq_false_iff.mpr c23
                        subst c23
                        have H1 : ((bookplateref04_in.f x0_2 768 772).bind fun t120 => (if t120 = true then (bookplateref04_Class.j4 kj13 x0_2 true) else ((bookplateref04_in.f x0_2 774 776).bind fun t121 => (if t121 = true then (bookplateref04_Class.j4 kj13 x0_2 true) else ((bookplateref04_in.f x0_2 778 780).bind fun t122 => (if t122 = true then (bookplateref04_Class.j4 kj13 x0_2 true) else (if x0_2 = 803 then (bookplateref04_Class.j4 kj13 x0_2 true) else (if x0_2 = 807 then (bookplateref04_Class.j4 kj13 x0_2 true) else (bookplateref04_Class.j4 kj13 x0_2 (x0_2 == 808)))))))))) = some (r1, r2) := by rw [if_neg (show ¬ (false = true) by decide)] at H; exact H
                        clear H
                        have H := H1
                        clear H1
                        have HC24 := Aside0.mk H
                        clear H
                        go_upto_region 9 with (fail)
                        go_cut [53] (fun v53 wc => ∃ (kq : Nat) (x53_23 : Bool), v53 = .bool x53_23 ∧ Aside0 (bookplateref04_Class.j4 kq x0_2 x53_23 = some (r1, r2)) ∧ Aside0 (kq ≤ kj13) ∧ Drawn0 w wc)
                        case first =>
                          have H := HC24.out
                          clear HC24
                          replace H := Option.bind_eq_some_iff.mp H
                          obtain ⟨t120, A250, H⟩ := H
                          replace H : (if t120 = true then (bookplateref04_Class.j4 kj13 x0_2 true) else ((bookplateref04_in.f x0_2 774 776).bind fun t121 => (if t121 = true then (bookplateref04_Class.j4 kj13 x0_2 true) else ((bookplateref04_in.f x0_2 778 780).bind fun t122 => (if t122 = true then (bookplateref04_Class.j4 kj13 x0_2 true) else (if x0_2 = 803 then (bookplateref04_Class.j4 kj13 x0_2 true) else (if x0_2 = 807 then (bookplateref04_Class.j4 kj13 x0_2 true) else (bookplateref04_Class.j4 kj13 x0_2 (x0_2 == 808))))))))) = some (r1, r2) := H
                          have A25 := Aside0.mk A250
                          clear A250
                          by_cases c26 : t120 = true
                          · subst c26
                            have H1 : (bookplateref04_Class.j4 kj13 x0_2 true) = some (r1, r2) := by rw [if_pos rfl] at H; exact H
                            clear H
                            have H := H1
                            clear H1
                            have H' := Aside0.mk H
                            clear H
                            go_wp2_with (first | ((with_reducible refine gate_callee (f := 83) rfl ?_); refine goesL_ (some 55) rfl rfl Tryd.func83 (by kernel_rfl) rfl #[.int .i64 x0_2, .int .i64 768, .int .i64 772] rfl (by (try simp only [List.map_toArray, List.map_cons, List.map_nil]); first | done | rfl | (simp only [List.length_drop, List.length_take]; rfl)) ?_; (with_reducible refine (bookplateref04_in.calls x0_2 768 772 true _ A25.out).mono ?_); rintro e w' ⟨rfl, ⟨nd, rfl⟩⟩; refine ⟨_, rfl, ?_⟩))
                            go_meet
                            case rel => exact ⟨_, (true), (by first | rfl | (simp; done) | (simp [*]; done)), H', ⟨by have := HJ2.out; have := HJ4.out; have := HJ7.out; have := HJ13.out; first | omega | exact Nat.le_refl _⟩, by repeat (first | exact Drawn0.refl _ | apply Drawn0.step)⟩
                          · replace c26 := Bool.eq_false_iff.mpr c26
                            subst c26
                            have H1 : ((bookplateref04_in.f x0_2 774 776).bind fun t121 => (if t121 = true then (bookplateref04_Class.j4 kj13 x0_2 true) else ((bookplateref04_in.f x0_2 778 780).bind fun t122 => (if t122 = true then (bookplateref04_Class.j4 kj13 x0_2 true) else (if x0_2 = 803 then (bookplateref04_Class.j4 kj13 x0_2 true) else (if x0_2 = 807 then (bookplateref04_Class.j4 kj13 x0_2 true) else (bookplateref04_Class.j4 kj13 x0_2 (x0_2 == 808)))))))) = some (r1, r2) := by rw [if_neg (show ¬ (false = true) by decide)] at H; exact H
                            clear H
                            have H := H1
                            clear H1
                            replace H := Option.bind_eq_some_iff.mp H
                            obtain ⟨t121, A270, H⟩ := H
                            replace H : (if t121 = true then (bookplateref04_Class.j4 kj13 x0_2 true) else ((bookplateref04_in.f x0_2 778 780).bind fun t122 => (if t122 = true then (bookplateref04_Class.j4 kj13 x0_2 true) else (if x0_2 = 803 then (bookplateref04_Class.j4 kj13 x0_2 true) else (if x0_2 = 807 then (bookplateref04_Class.j4 kj13 x0_2 true) else (bookplateref04_Class.j4 kj13 x0_2 (x0_2 == 808))))))) = some (r1, r2) := H
                            have A27 := Aside0.mk A270
                            clear A270
                            by_cases c28 : t121 = true
                            · subst c28
                              have H1 : (bookplateref04_Class.j4 kj13 x0_2 true) = some (r1, r2) := by rw [if_pos rfl] at H; exact H
                              clear H
                              have H := H1
                              clear H1
                              have H' := Aside0.mk H
                              clear H
                              go_wp2_with (first | ((with_reducible refine gate_callee (f := 83) rfl ?_); refine goesL_ (some 55) rfl rfl Tryd.func83 (by kernel_rfl) rfl #[.int .i64 x0_2, .int .i64 768, .int .i64 772] rfl (by (try simp only [List.map_toArray, List.map_cons, List.map_nil]); first | done | rfl | (simp only [List.length_drop, List.length_take]; rfl)) ?_; (with_reducible refine (bookplateref04_in.calls x0_2 768 772 false _ A25.out).mono ?_); rintro e w' ⟨rfl, ⟨nd, rfl⟩⟩; refine ⟨_, rfl, ?_⟩) | (go_at_call 83; (with_reducible refine (bookplateref04_in.calls x0_2 774 776 true _ A27.out).mono ?_); rintro e w' ⟨rfl, ⟨nd, rfl⟩⟩))
                              go_meet
                              case rel => exact ⟨_, (true), (by first | rfl | (simp; done) | (simp [*]; done)), H', ⟨by have := HJ2.out; have := HJ4.out; have := HJ7.out; have := HJ13.out; first | omega | exact Nat.le_refl _⟩, by repeat (first | exact Drawn0.refl _ | apply Drawn0.step)⟩
                            · replace c28 := Bool.eq_false_iff.mpr c28
                              subst c28
                              have H1 : ((bookplateref04_in.f x0_2 778 780).bind fun t122 => (if t122 = true then (bookplateref04_Class.j4 kj13 x0_2 true) else (if x0_2 = 803 then (bookplateref04_Class.j4 kj13 x0_2 true) else (if x0_2 = 807 then (bookplateref04_Class.j4 kj13 x0_2 true) else (bookplateref04_Class.j4 kj13 x0_2 (x0_2 == 808)))))) = some (r1, r2) := by rw [if_neg (show ¬ (false = true) by decide)] at H; exact H
                              clear H
                              have H := H1
                              clear H1
                              replace H := Option.bind_eq_some_iff.mp H
                              obtain ⟨t122, A290, H⟩ := H
                              replace H : (if t122 = true then (bookplateref04_Class.j4 kj13 x0_2 true) else (if x0_2 = 803 then (bookplateref04_Class.j4 kj13 x0_2 true) else (if x0_2 = 807 then (bookplateref04_Class.j4 kj13 x0_2 true) else (bookplateref04_Class.j4 kj13 x0_2 (x0_2 == 808))))) = some (r1, r2) := H
                              have A29 := Aside0.mk A290
                              clear A290
                              by_cases c30 : t122 = true
                              · subst c30
                                have H1 : (bookplateref04_Class.j4 kj13 x0_2 true) = some (r1, r2) := by rw [if_pos rfl] at H; exact H
                                clear H
                                have H := H1
                                clear H1
                                have H' := Aside0.mk H
                                clear H
                                go_wp2_with (first | ((with_reducible refine gate_callee (f := 83) rfl ?_); refine goesL_ (some 55) rfl rfl Tryd.func83 (by kernel_rfl) rfl #[.int .i64 x0_2, .int .i64 768, .int .i64 772] rfl (by (try simp only [List.map_toArray, List.map_cons, List.map_nil]); first | done | rfl | (simp only [List.length_drop, List.length_take]; rfl)) ?_; (with_reducible refine (bookplateref04_in.calls x0_2 768 772 false _ A25.out).mono ?_); rintro e w' ⟨rfl, ⟨nd, rfl⟩⟩; refine ⟨_, rfl, ?_⟩) | (go_at_call 83; (with_reducible refine (bookplateref04_in.calls x0_2 774 776 false _ A27.out).mono ?_); rintro e w' ⟨rfl, ⟨nd, rfl⟩⟩) | (go_at_call 83; (with_reducible refine (bookplateref04_in.calls x0_2 778 780 true _ A29.out).mono ?_); rintro e w' ⟨rfl, ⟨nd, rfl⟩⟩))
                                go_meet
                                case rel => exact ⟨_, (true), (by first | rfl | (simp; done) | (simp [*]; done)), H', ⟨by have := HJ2.out; have := HJ4.out; have := HJ7.out; have := HJ13.out; first | omega | exact Nat.le_refl _⟩, by repeat (first | exact Drawn0.refl _ | apply Drawn0.step)⟩
                              · replace c30 := Bool.eq_false_iff.mpr c30
                                subst c30
                                have H1 : (if x0_2 = 803 then (bookplateref04_Class.j4 kj13 x0_2 true) else (if x0_2 = 807 then (bookplateref04_Class.j4 kj13 x0_2 true) else (bookplateref04_Class.j4 kj13 x0_2 (x0_2 == 808)))) = some (r1, r2) := by rw [if_neg (show ¬ (false = true) by decide)] at H; exact H
                                clear H
                                have H := H1
                                clear H1
                                by_cases c31 : x0_2 = 803
                                · rw [if_pos c31] at H
                                  have c31b0 : (x0_2 == 803) = true := beq_iff_eq.mpr c31
                                  have c31b1 : (x0_2 != 803) = false := bne_eq_false_iff_eq.mpr c31
                                  clear c31
                                  (first | rw [c31b0] | (simp only [i64_w, i32_w]; rw [c31b0]) | skip)
                                  have H' := Aside0.mk H
                                  clear H
                                  go_wp2_with (first | ((with_reducible refine gate_callee (f := 83) rfl ?_); refine goesL_ (some 55) rfl rfl Tryd.func83 (by kernel_rfl) rfl #[.int .i64 x0_2, .int .i64 768, .int .i64 772] rfl (by (try simp only [List.map_toArray, List.map_cons, List.map_nil]); first | done | rfl | (simp only [List.length_drop, List.length_take]; rfl)) ?_; (with_reducible refine (bookplateref04_in.calls x0_2 768 772 false _ A25.out).mono ?_); rintro e w' ⟨rfl, ⟨nd, rfl⟩⟩; refine ⟨_, rfl, ?_⟩) | (go_at_call 83; (with_reducible refine (bookplateref04_in.calls x0_2 774 776 false _ A27.out).mono ?_); rintro e w' ⟨rfl, ⟨nd, rfl⟩⟩) | (go_at_call 83; (with_reducible refine (bookplateref04_in.calls x0_2 778 780 false _ A29.out).mono ?_); rintro e w' ⟨rfl, ⟨nd, rfl⟩⟩))
                                  go_meet
                                  case rel => exact ⟨_, (true), (by first | rfl | (simp; done) | (simp [*]; done)), H', ⟨by have := HJ2.out; have := HJ4.out; have := HJ7.out; have := HJ13.out; first | omega | exact Nat.le_refl _⟩, by repeat (first | exact Drawn0.refl _ | apply Drawn0.step)⟩
                                · rw [if_neg c31] at H
                                  have c31b0 : (x0_2 == 803) = false := beq_eq_false_iff_ne.mpr c31
                                  have c31b1 : (x0_2 != 803) = true := bne_iff_ne.mpr c31
                                  (first | rw [c31b0] | (simp only [i64_w, i32_w]; rw [c31b0]) | skip)
                                  by_cases c32 : x0_2 = 807
                                  · rw [if_pos c32] at H
                                    have c32b0 : (x0_2 == 807) = true := beq_iff_eq.mpr c32
                                    have c32b1 : (x0_2 != 807) = false := bne_eq_false_iff_eq.mpr c32
                                    clear c32
                                    have H' := Aside0.mk H
                                    clear H
                                    go_wp2_with (first | ((with_reducible refine gate_callee (f := 83) rfl ?_); refine goesL_ (some 55) rfl rfl Tryd.func83 (by kernel_rfl) rfl #[.int .i64 x0_2, .int .i64 768, .int .i64 772] rfl (by (try simp only [List.map_toArray, List.map_cons, List.map_nil]); first | done | rfl | (simp only [List.length_drop, List.length_take]; rfl)) ?_; (with_reducible refine (bookplateref04_in.calls x0_2 768 772 false _ A25.out).mono ?_); rintro e w' ⟨rfl, ⟨nd, rfl⟩⟩; refine ⟨_, rfl, ?_⟩) | (go_at_call 83; (with_reducible refine (bookplateref04_in.calls x0_2 774 776 false _ A27.out).mono ?_); rintro e w' ⟨rfl, ⟨nd, rfl⟩⟩) | (go_at_call 83; (with_reducible refine (bookplateref04_in.calls x0_2 778 780 false _ A29.out).mono ?_); rintro e w' ⟨rfl, ⟨nd, rfl⟩⟩))
                                    go_meet
                                    case rel => exact ⟨_, (true), (by first | rfl | (simp; done) | (simp [*]; done)), H', ⟨by have := HJ2.out; have := HJ4.out; have := HJ7.out; have := HJ13.out; first | omega | exact Nat.le_refl _⟩, by repeat (first | exact Drawn0.refl _ | apply Drawn0.step)⟩
                                  · rw [if_neg c32] at H
                                    have c32b0 : (x0_2 == 807) = false := beq_eq_false_iff_ne.mpr c32
                                    have c32b1 : (x0_2 != 807) = true := bne_iff_ne.mpr c32
                                    have H' := Aside0.mk H
                                    clear H
                                    go_wp2_with (first | ((with_reducible refine gate_callee (f := 83) rfl ?_); refine goesL_ (some 55) rfl rfl Tryd.func83 (by kernel_rfl) rfl #[.int .i64 x0_2, .int .i64 768, .int .i64 772] rfl (by (try simp only [List.map_toArray, List.map_cons, List.map_nil]); first | done | rfl | (simp only [List.length_drop, List.length_take]; rfl)) ?_; (with_reducible refine (bookplateref04_in.calls x0_2 768 772 false _ A25.out).mono ?_); rintro e w' ⟨rfl, ⟨nd, rfl⟩⟩; refine ⟨_, rfl, ?_⟩) | (go_at_call 83; (with_reducible refine (bookplateref04_in.calls x0_2 774 776 false _ A27.out).mono ?_); rintro e w' ⟨rfl, ⟨nd, rfl⟩⟩) | (go_at_call 83; (with_reducible refine (bookplateref04_in.calls x0_2 778 780 false _ A29.out).mono ?_); rintro e w' ⟨rfl, ⟨nd, rfl⟩⟩))
                                    go_meet
                                    case rel => exact ⟨_, ((x0_2 == 808)), (by first | rfl | (simp; done) | (simp [*]; done)), H', ⟨by have := HJ2.out; have := HJ4.out; have := HJ7.out; have := HJ13.out; first | omega | exact Nat.le_refl _⟩, by repeat (first | exact Drawn0.refl _ | apply Drawn0.step)⟩
                        case rest =>
                          clear HC24
                          try clear c1
                          try clear c2
                          try clear p2
                          try clear c3
                          try clear c4
                          try clear c6
                          try clear c6b0
                          try clear c6b1
                          try clear p6
                          try clear c7
                          try clear c8
                          try clear c10
                          try clear c11
                          try clear c11b0
                          try clear c11b1
                          try clear c12
                          try clear c12b0
                          try clear c12b1
                          try clear c13
                          try clear c16
                          try clear c18
                          try clear c19
                          try clear c19b0
                          try clear c19b1
                          try clear c20
                          try clear c20b0
                          try clear c20b1
                          try clear c21
                          try clear c21b0
                          try clear c21b1
                          try clear c23
                          try clear c26
                          try clear c28
                          try clear c30
                          try clear c31
                          try clear c31b0
                          try clear c31b1
                          try clear c32
                          try clear c32b0
                          try clear c32b1
                          try clear p2
                          try clear p6
                          obtain ⟨kq, x53_23, rfl, HA, HJ23, ⟨mc23, rfl⟩⟩ := hcut
                          cases kq with
                          | zero => exact absurd HA.out (by simp [bookplateref04_Class.j4])
                          | succ kj23 =>
                            have H := HA.out
                            clear HA
                            simp only [bookplateref04_Class.j4] at H
                            by_cases c33 : x53_23 = true
                            · subst c33
                              have H1 : (some (0, 2)) = some (r1, r2) := by rw [if_pos rfl] at H; exact H
                              clear H
                              have H := H1
                              clear H1
                              simp only [Option.some.injEq, Prod.mk.injEq] at H
                              obtain ⟨rfl, rfl⟩ := H
                              go_wp2
                              go_ret2
                              exact ⟨by first | rfl | (simp; done) | (simp [*]; done), by repeat (first | exact Drawn0.refl _ | apply Drawn0.step)⟩
                            · replace c33 := Bool.eq_false_iff.mpr c33
                              subst c33
                              have H1 : ((bookplateref04_in.f x0_2 913 929).bind fun t123 => (if t123 = true then (bookplateref04_Class.j5 kj23 x0_2 true) else ((bookplateref04_in.f x0_2 931 937).bind fun t124 => (if t124 = true then (bookplateref04_Class.j5 kj23 x0_2 true) else ((bookplateref04_in.f x0_2 945 969).bind fun t125 => (if t125 = true then (bookplateref04_Class.j5 kj23 x0_2 true) else ((bookplateref04_listed.f kj23 (⟨#[206, 134, 206, 136, 206, 137, 206, 138, 206, 140, 206, 142, 206, 143, 206, 172, 206, 173, 206, 174, 206, 175, 207, 140, 207, 141, 207, 142, 206, 170, 206, 171, 207, 138, 207, 139]⟩ : ByteArray) x0_2).bind fun t126 => (bookplateref04_Class.j5 kj23 x0_2 t126)))))))) = some (r1, r2) := by rw [if_neg (show ¬ (false = true) by decide)] at H; exact H
                              clear H
                              have H := H1
                              clear H1
                              have HC34 := Aside0.mk H
                              clear H
                              go_upto_region 11 with (fail)
                              go_cut [76] (fun v76 wc => ∃ (kq : Nat) (x76_33 : Bool), v76 = .bool x76_33 ∧ Aside0 (bookplateref04_Class.j5 kq x0_2 x76_33 = some (r1, r2)) ∧ Aside0 (kq ≤ kj23) ∧ Drawn0 w wc)
                              case first =>
                                have H := HC34.out
                                clear HC34
                                replace H := Option.bind_eq_some_iff.mp H
                                obtain ⟨t123, A350, H⟩ := H
                                replace H : (if t123 = true then (bookplateref04_Class.j5 kj23 x0_2 true) else ((bookplateref04_in.f x0_2 931 937).bind fun t124 => (if t124 = true then (bookplateref04_Class.j5 kj23 x0_2 true) else ((bookplateref04_in.f x0_2 945 969).bind fun t125 => (if t125 = true then (bookplateref04_Class.j5 kj23 x0_2 true) else ((bookplateref04_listed.f kj23 (⟨#[206, 134, 206, 136, 206, 137, 206, 138, 206, 140, 206, 142, 206, 143, 206, 172, 206, 173, 206, 174, 206, 175, 207, 140, 207, 141, 207, 142, 206, 170, 206, 171, 207, 138, 207, 139]⟩ : ByteArray) x0_2).bind fun t126 => (bookplateref04_Class.j5 kj23 x0_2 t126))))))) = some (r1, r2) := H
                                have A35 := Aside0.mk A350
                                clear A350
                                by_cases c36 : t123 = true
                                · subst c36
                                  have H1 : (bookplateref04_Class.j5 kj23 x0_2 true) = some (r1, r2) := by rw [if_pos rfl] at H; exact H
                                  clear H
                                  have H := H1
                                  clear H1
                                  have H' := Aside0.mk H
                                  clear H
                                  go_wp2_with (first | ((with_reducible refine gate_callee (f := 83) rfl ?_); refine goesL_ (some 78) rfl rfl Tryd.func83 (by kernel_rfl) rfl #[.int .i64 x0_2, .int .i64 913, .int .i64 929] rfl (by (try simp only [List.map_toArray, List.map_cons, List.map_nil]); first | done | rfl | (simp only [List.length_drop, List.length_take]; rfl)) ?_; (with_reducible refine (bookplateref04_in.calls x0_2 913 929 true _ A35.out).mono ?_); rintro e w' ⟨rfl, ⟨nd, rfl⟩⟩; refine ⟨_, rfl, ?_⟩))
                                  go_meet
                                  case rel => exact ⟨_, (true), (by first | rfl | (simp; done) | (simp [*]; done)), H', ⟨by have := HJ2.out; have := HJ4.out; have := HJ7.out; have := HJ13.out; have := HJ23.out; first | omega | exact Nat.le_refl _⟩, by repeat (first | exact Drawn0.refl _ | apply Drawn0.step)⟩
                                · replace c36 := Bool.eq_false_iff.mpr c36
                                  subst c36
                                  have H1 : ((bookplateref04_in.f x0_2 931 937).bind fun t124 => (if t124 = true then (bookplateref04_Class.j5 kj23 x0_2 true) else ((bookplateref04_in.f x0_2 945 969).bind fun t125 => (if t125 = true then (bookplateref04_Class.j5 kj23 x0_2 true) else ((bookplateref04_listed.f kj23 (⟨#[206, 134, 206, 136, 206, 137, 206, 138, 206, 140, 206, 142, 206, 143, 206, 172, 206, 173, 206, 174, 206, 175, 207, 140, 207, 141, 207, 142, 206, 170, 206, 171, 207, 138, 207, 139]⟩ : ByteArray) x0_2).bind fun t126 => (bookplateref04_Class.j5 kj23 x0_2 t126)))))) = some (r1, r2) := by rw [if_neg (show ¬ (false = true) by decide)] at H; exact H
                                  clear H
                                  have H := H1
                                  clear H1
                                  replace H := Option.bind_eq_some_iff.mp H
                                  obtain ⟨t124, A370, H⟩ := H
                                  replace H : (if t124 = true then (bookplateref04_Class.j5 kj23 x0_2 true) else ((bookplateref04_in.f x0_2 945 969).bind fun t125 => (if t125 = true then (bookplateref04_Class.j5 kj23 x0_2 true) else ((bookplateref04_listed.f kj23 (⟨#[206, 134, 206, 136, 206, 137, 206, 138, 206, 140, 206, 142, 206, 143, 206, 172, 206, 173, 206, 174, 206, 175, 207, 140, 207, 141, 207, 142, 206, 170, 206, 171, 207, 138, 207, 139]⟩ : ByteArray) x0_2).bind fun t126 => (bookplateref04_Class.j5 kj23 x0_2 t126))))) = some (r1, r2) := H
                                  have A37 := Aside0.mk A370
                                  clear A370
                                  by_cases c38 : t124 = true
                                  · subst c38
                                    have H1 : (bookplateref04_Class.j5 kj23 x0_2 true) = some (r1, r2) := by rw [if_pos rfl] at H; exact H
                                    clear H
                                    have H := H1
                                    clear H1
                                    have H' := Aside0.mk H
                                    clear H
                                    go_wp2_with (first | ((with_reducible refine gate_callee (f := 83) rfl ?_); refine goesL_ (some 78) rfl rfl Tryd.func83 (by kernel_rfl) rfl #[.int .i64 x0_2, .int .i64 913, .int .i64 929] rfl (by (try simp only [List.map_toArray, List.map_cons, List.map_nil]); first | done | rfl | (simp only [List.length_drop, List.length_take]; rfl)) ?_; (with_reducible refine (bookplateref04_in.calls x0_2 913 929 false _ A35.out).mono ?_); rintro e w' ⟨rfl, ⟨nd, rfl⟩⟩; refine ⟨_, rfl, ?_⟩) | (go_at_call 83; (with_reducible refine (bookplateref04_in.calls x0_2 931 937 true _ A37.out).mono ?_); rintro e w' ⟨rfl, ⟨nd, rfl⟩⟩))
                                    go_meet
                                    case rel => exact ⟨_, (true), (by first | rfl | (simp; done) | (simp [*]; done)), H', ⟨by have := HJ2.out; have := HJ4.out; have := HJ7.out; have := HJ13.out; have := HJ23.out; first | omega | exact Nat.le_refl _⟩, by repeat (first | exact Drawn0.refl _ | apply Drawn0.step)⟩
                                  · replace c38 := Bool.eq_false_iff.mpr c38
                                    subst c38
                                    have H1 : ((bookplateref04_in.f x0_2 945 969).bind fun t125 => (if t125 = true then (bookplateref04_Class.j5 kj23 x0_2 true) else ((bookplateref04_listed.f kj23 (⟨#[206, 134, 206, 136, 206, 137, 206, 138, 206, 140, 206, 142, 206, 143, 206, 172, 206, 173, 206, 174, 206, 175, 207, 140, 207, 141, 207, 142, 206, 170, 206, 171, 207, 138, 207, 139]⟩ : ByteArray) x0_2).bind fun t126 => (bookplateref04_Class.j5 kj23 x0_2 t126)))) = some (r1, r2) := by rw [if_neg (show ¬ (false = true) by decide)] at H; exact H
                                    clear H
                                    have H := H1
                                    clear H1
                                    replace H := Option.bind_eq_some_iff.mp H
                                    obtain ⟨t125, A390, H⟩ := H
                                    replace H : (if t125 = true then (bookplateref04_Class.j5 kj23 x0_2 true) else ((bookplateref04_listed.f kj23 (⟨#[206, 134, 206, 136, 206, 137, 206, 138, 206, 140, 206, 142, 206, 143, 206, 172, 206, 173, 206, 174, 206, 175, 207, 140, 207, 141, 207, 142, 206, 170, 206, 171, 207, 138, 207, 139]⟩ : ByteArray) x0_2).bind fun t126 => (bookplateref04_Class.j5 kj23 x0_2 t126))) = some (r1, r2) := H
                                    have A39 := Aside0.mk A390
                                    clear A390
                                    by_cases c40 : t125 = true
                                    · subst c40
                                      have H1 : (bookplateref04_Class.j5 kj23 x0_2 true) = some (r1, r2) := by rw [if_pos rfl] at H; exact H
                                      clear H
                                      have H := H1
                                      clear H1
                                      have H' := Aside0.mk H
                                      clear H
                                      go_wp2_with (first | ((with_reducible refine gate_callee (f := 83) rfl ?_); refine goesL_ (some 78) rfl rfl Tryd.func83 (by kernel_rfl) rfl #[.int .i64 x0_2, .int .i64 913, .int .i64 929] rfl (by (try simp only [List.map_toArray, List.map_cons, List.map_nil]); first | done | rfl | (simp only [List.length_drop, List.length_take]; rfl)) ?_; (with_reducible refine (bookplateref04_in.calls x0_2 913 929 false _ A35.out).mono ?_); rintro e w' ⟨rfl, ⟨nd, rfl⟩⟩; refine ⟨_, rfl, ?_⟩) | (go_at_call 83; (with_reducible refine (bookplateref04_in.calls x0_2 931 937 false _ A37.out).mono ?_); rintro e w' ⟨rfl, ⟨nd, rfl⟩⟩) | (go_at_call 83; (with_reducible refine (bookplateref04_in.calls x0_2 945 969 true _ A39.out).mono ?_); rintro e w' ⟨rfl, ⟨nd, rfl⟩⟩))
                                      go_meet
                                      case rel => exact ⟨_, (true), (by first | rfl | (simp; done) | (simp [*]; done)), H', ⟨by have := HJ2.out; have := HJ4.out; have := HJ7.out; have := HJ13.out; have := HJ23.out; first | omega | exact Nat.le_refl _⟩, by repeat (first | exact Drawn0.refl _ | apply Drawn0.step)⟩
                                    · replace c40 := Bool.eq_false_iff.mpr c40
                                      subst c40
                                      have H1 : ((bookplateref04_listed.f kj23 (⟨#[206, 134, 206, 136, 206, 137, 206, 138, 206, 140, 206, 142, 206, 143, 206, 172, 206, 173, 206, 174, 206, 175, 207, 140, 207, 141, 207, 142, 206, 170, 206, 171, 207, 138, 207, 139]⟩ : ByteArray) x0_2).bind fun t126 => (bookplateref04_Class.j5 kj23 x0_2 t126)) = some (r1, r2) := by rw [if_neg (show ¬ (false = true) by decide)] at H; exact H
                                      clear H
                                      have H := H1
                                      clear H1
                                      replace H := Option.bind_eq_some_iff.mp H
                                      obtain ⟨t126, A410, H⟩ := H
                                      replace H : (bookplateref04_Class.j5 kj23 x0_2 t126) = some (r1, r2) := H
                                      have A41 := Aside0.mk A410
                                      clear A410
                                      have H' := Aside0.mk H
                                      clear H
                                      go_wp2_with (first | ((with_reducible refine gate_callee (f := 83) rfl ?_); refine goesL_ (some 78) rfl rfl Tryd.func83 (by kernel_rfl) rfl #[.int .i64 x0_2, .int .i64 913, .int .i64 929] rfl (by (try simp only [List.map_toArray, List.map_cons, List.map_nil]); first | done | rfl | (simp only [List.length_drop, List.length_take]; rfl)) ?_; (with_reducible refine (bookplateref04_in.calls x0_2 913 929 false _ A35.out).mono ?_); rintro e w' ⟨rfl, ⟨nd, rfl⟩⟩; refine ⟨_, rfl, ?_⟩) | (go_at_call 83; (with_reducible refine (bookplateref04_in.calls x0_2 931 937 false _ A37.out).mono ?_); rintro e w' ⟨rfl, ⟨nd, rfl⟩⟩) | (go_at_call 83; (with_reducible refine (bookplateref04_in.calls x0_2 945 969 false _ A39.out).mono ?_); rintro e w' ⟨rfl, ⟨nd, rfl⟩⟩) | (go_at_call 84; (with_reducible refine (bookplateref04_listed.calls kj23 (⟨#[206, 134, 206, 136, 206, 137, 206, 138, 206, 140, 206, 142, 206, 143, 206, 172, 206, 173, 206, 174, 206, 175, 207, 140, 207, 141, 207, 142, 206, 170, 206, 171, 207, 138, 207, 139]⟩ : ByteArray) x0_2 t126 _ A41.out).mono ?_); rintro e w' ⟨rfl, ⟨nd, rfl⟩⟩))
                                      go_meet
                                      case rel => exact ⟨_, (t126), (by first | rfl | (simp; done) | (simp [*]; done)), H', ⟨by have := HJ2.out; have := HJ4.out; have := HJ7.out; have := HJ13.out; have := HJ23.out; first | omega | exact Nat.le_refl _⟩, by repeat (first | exact Drawn0.refl _ | apply Drawn0.step)⟩
                              case rest =>
                                clear HC34
                                try clear c1
                                try clear c2
                                try clear p2
                                try clear c3
                                try clear c4
                                try clear c6
                                try clear c6b0
                                try clear c6b1
                                try clear p6
                                try clear c7
                                try clear c8
                                try clear c10
                                try clear c11
                                try clear c11b0
                                try clear c11b1
                                try clear c12
                                try clear c12b0
                                try clear c12b1
                                try clear c13
                                try clear c16
                                try clear c18
                                try clear c19
                                try clear c19b0
                                try clear c19b1
                                try clear c20
                                try clear c20b0
                                try clear c20b1
                                try clear c21
                                try clear c21b0
                                try clear c21b1
                                try clear c23
                                try clear c26
                                try clear c28
                                try clear c30
                                try clear c31
                                try clear c31b0
                                try clear c31b1
                                try clear c32
                                try clear c32b0
                                try clear c32b1
                                try clear c33
                                try clear c36
                                try clear c38
                                try clear c40
                                try clear p2
                                try clear p6
                                obtain ⟨kq, x76_33, rfl, HA, HJ33, ⟨mc33, rfl⟩⟩ := hcut
                                cases kq with
                                | zero => exact absurd HA.out (by simp [bookplateref04_Class.j5])
                                | succ kj33 =>
                                  have H := HA.out
                                  clear HA
                                  simp only [bookplateref04_Class.j5] at H
                                  by_cases c42 : x76_33 = true
                                  · subst c42
                                    have H1 : (some (2, 1)) = some (r1, r2) := by rw [if_pos rfl] at H; exact H
                                    clear H
                                    have H := H1
                                    clear H1
                                    simp only [Option.some.injEq, Prod.mk.injEq] at H
                                    obtain ⟨rfl, rfl⟩ := H
                                    go_wp2
                                    go_ret2
                                    exact ⟨by first | rfl | (simp; done) | (simp [*]; done), by repeat (first | exact Drawn0.refl _ | apply Drawn0.step)⟩
                                  · replace c42 := Bool.eq_false_iff.mpr c42
                                    subst c42
                                    have H1 : ((bookplateref04_in.f x0_2 1040 1103).bind fun t127 => (if t127 = true then (bookplateref04_Class.j6 kj33 x0_2 true) else ((bookplateref04_listed.f kj33 (⟨#[208, 129, 209, 145, 208, 135, 209, 151, 208, 132, 209, 148, 210, 144, 210, 145, 208, 142, 209, 158, 208, 134, 209, 150]⟩ : ByteArray) x0_2).bind fun t128 => (bookplateref04_Class.j6 kj33 x0_2 t128)))) = some (r1, r2) := by rw [if_neg (show ¬ (false = true) by decide)] at H; exact H
                                    clear H
                                    have H := H1
                                    clear H1
                                    have HC43 := Aside0.mk H
                                    clear H
                                    go_upto_region 13 with (fail)
                                    go_cut [91] (fun v91 wc => ∃ (kq : Nat) (x91_42 : Bool), v91 = .bool x91_42 ∧ Aside0 (bookplateref04_Class.j6 kq x0_2 x91_42 = some (r1, r2)) ∧ Aside0 (kq ≤ kj33) ∧ Drawn0 w wc)
                                    case first =>
                                      have H := HC43.out
                                      clear HC43
                                      replace H := Option.bind_eq_some_iff.mp H
                                      obtain ⟨t127, A440, H⟩ := H
                                      replace H : (if t127 = true then (bookplateref04_Class.j6 kj33 x0_2 true) else ((bookplateref04_listed.f kj33 (⟨#[208, 129, 209, 145, 208, 135, 209, 151, 208, 132, 209, 148, 210, 144, 210, 145, 208, 142, 209, 158, 208, 134, 209, 150]⟩ : ByteArray) x0_2).bind fun t128 => (bookplateref04_Class.j6 kj33 x0_2 t128))) = some (r1, r2) := H
                                      have A44 := Aside0.mk A440
                                      clear A440
                                      by_cases c45 : t127 = true
                                      · subst c45
                                        have H1 : (bookplateref04_Class.j6 kj33 x0_2 true) = some (r1, r2) := by rw [if_pos rfl] at H; exact H
                                        clear H
                                        have H := H1
                                        clear H1
                                        have H' := Aside0.mk H
                                        clear H
                                        go_wp2_with (first | ((with_reducible refine gate_callee (f := 83) rfl ?_); refine goesL_ (some 93) rfl rfl Tryd.func83 (by kernel_rfl) rfl #[.int .i64 x0_2, .int .i64 1040, .int .i64 1103] rfl (by (try simp only [List.map_toArray, List.map_cons, List.map_nil]); first | done | rfl | (simp only [List.length_drop, List.length_take]; rfl)) ?_; (with_reducible refine (bookplateref04_in.calls x0_2 1040 1103 true _ A44.out).mono ?_); rintro e w' ⟨rfl, ⟨nd, rfl⟩⟩; refine ⟨_, rfl, ?_⟩))
                                        go_meet
                                        case rel => exact ⟨_, (true), (by first | rfl | (simp; done) | (simp [*]; done)), H', ⟨by have := HJ2.out; have := HJ4.out; have := HJ7.out; have := HJ13.out; have := HJ23.out; have := HJ33.out; first | omega | exact Nat.le_refl _⟩, by repeat (first | exact Drawn0.refl _ | apply Drawn0.step)⟩
                                      · replace c45 := Bool.eq_false_iff.mpr c45
                                        subst c45
                                        have H1 : ((bookplateref04_listed.f kj33 (⟨#[208, 129, 209, 145, 208, 135, 209, 151, 208, 132, 209, 148, 210, 144, 210, 145, 208, 142, 209, 158, 208, 134, 209, 150]⟩ : ByteArray) x0_2).bind fun t128 => (bookplateref04_Class.j6 kj33 x0_2 t128)) = some (r1, r2) := by rw [if_neg (show ¬ (false = true) by decide)] at H; exact H
                                        clear H
                                        have H := H1
                                        clear H1
                                        replace H := Option.bind_eq_some_iff.mp H
                                        obtain ⟨t128, A460, H⟩ := H
                                        replace H : (bookplateref04_Class.j6 kj33 x0_2 t128) = some (r1, r2) := H
                                        have A46 := Aside0.mk A460
                                        clear A460
                                        have H' := Aside0.mk H
                                        clear H
                                        go_wp2_with (first | ((with_reducible refine gate_callee (f := 83) rfl ?_); refine goesL_ (some 93) rfl rfl Tryd.func83 (by kernel_rfl) rfl #[.int .i64 x0_2, .int .i64 1040, .int .i64 1103] rfl (by (try simp only [List.map_toArray, List.map_cons, List.map_nil]); first | done | rfl | (simp only [List.length_drop, List.length_take]; rfl)) ?_; (with_reducible refine (bookplateref04_in.calls x0_2 1040 1103 false _ A44.out).mono ?_); rintro e w' ⟨rfl, ⟨nd, rfl⟩⟩; refine ⟨_, rfl, ?_⟩) | (go_at_call 84; (with_reducible refine (bookplateref04_listed.calls kj33 (⟨#[208, 129, 209, 145, 208, 135, 209, 151, 208, 132, 209, 148, 210, 144, 210, 145, 208, 142, 209, 158, 208, 134, 209, 150]⟩ : ByteArray) x0_2 t128 _ A46.out).mono ?_); rintro e w' ⟨rfl, ⟨nd, rfl⟩⟩))
                                        go_meet
                                        case rel => exact ⟨_, (t128), (by first | rfl | (simp; done) | (simp [*]; done)), H', ⟨by have := HJ2.out; have := HJ4.out; have := HJ7.out; have := HJ13.out; have := HJ23.out; have := HJ33.out; first | omega | exact Nat.le_refl _⟩, by repeat (first | exact Drawn0.refl _ | apply Drawn0.step)⟩
                                    case rest =>
                                      clear HC43
                                      try clear c1
                                      try clear c2
                                      try clear p2
                                      try clear c3
                                      try clear c4
                                      try clear c6
                                      try clear c6b0
                                      try clear c6b1
                                      try clear p6
                                      try clear c7
                                      try clear c8
                                      try clear c10
                                      try clear c11
                                      try clear c11b0
                                      try clear c11b1
                                      try clear c12
                                      try clear c12b0
                                      try clear c12b1
                                      try clear c13
                                      try clear c16
                                      try clear c18
                                      try clear c19
                                      try clear c19b0
                                      try clear c19b1
                                      try clear c20
                                      try clear c20b0
                                      try clear c20b1
                                      try clear c21
                                      try clear c21b0
                                      try clear c21b1
                                      try clear c23
                                      try clear c26
                                      try clear c28
                                      try clear c30
                                      try clear c31
                                      try clear c31b0
                                      try clear c31b1
                                      try clear c32
                                      try clear c32b0
                                      try clear c32b1
                                      try clear c33
                                      try clear c36
                                      try clear c38
                                      try clear c40
                                      try clear c42
                                      try clear c45
                                      try clear p2
                                      try clear p6
                                      obtain ⟨kq, x91_42, rfl, HA, HJ42, ⟨mc42, rfl⟩⟩ := hcut
                                      cases kq with
                                      | zero => exact absurd HA.out (by simp [bookplateref04_Class.j6])
                                      | succ kj42 =>
                                        have H := HA.out
                                        clear HA
                                        simp only [bookplateref04_Class.j6] at H
                                        by_cases c47 : x91_42 = true
                                        · subst c47
                                          have H1 : (some (3, 1)) = some (r1, r2) := by rw [if_pos rfl] at H; exact H
                                          clear H
                                          have H := H1
                                          clear H1
                                          simp only [Option.some.injEq, Prod.mk.injEq] at H
                                          obtain ⟨rfl, rfl⟩ := H
                                          go_wp2
                                          go_ret2
                                          exact ⟨by first | rfl | (simp; done) | (simp [*]; done), by repeat (first | exact Drawn0.refl _ | apply Drawn0.step)⟩
                                        · replace c47 := Bool.eq_false_iff.mpr c47
                                          subst c47
                                          have H1 : ((bookplateref04_in.f x0_2 33 126).bind fun t129 => (if t129 = true then (some (0, 5)) else (some (0, 0)))) = some (r1, r2) := by rw [if_neg (show ¬ (false = true) by decide)] at H; exact H
                                          clear H
                                          have H := H1
                                          clear H1
                                          replace H := Option.bind_eq_some_iff.mp H
                                          obtain ⟨t129, A480, H⟩ := H
                                          replace H : (if t129 = true then (some (0, 5)) else (some (0, 0))) = some (r1, r2) := H
                                          have A48 := Aside0.mk A480
                                          clear A480
                                          by_cases c49 : t129 = true
                                          · subst c49
                                            have H1 : (some (0, 5)) = some (r1, r2) := by rw [if_pos rfl] at H; exact H
                                            clear H
                                            have H := H1
                                            clear H1
                                            simp only [Option.some.injEq, Prod.mk.injEq] at H
                                            obtain ⟨rfl, rfl⟩ := H
                                            go_wp2_with (first | ((with_reducible refine gate_callee (f := 83) rfl ?_); refine goesL_ (some 100) rfl rfl Tryd.func83 (by kernel_rfl) rfl #[.int .i64 x0_2, .int .i64 33, .int .i64 126] rfl (by (try simp only [List.map_toArray, List.map_cons, List.map_nil]); first | done | rfl | (simp only [List.length_drop, List.length_take]; rfl)) ?_; (with_reducible refine (bookplateref04_in.calls x0_2 33 126 true _ A48.out).mono ?_); rintro e w' ⟨rfl, ⟨nd, rfl⟩⟩; refine ⟨_, rfl, ?_⟩))
                                            go_ret2
                                            exact ⟨by first | rfl | (simp; done) | (simp [*]; done), by repeat (first | exact Drawn0.refl _ | apply Drawn0.step)⟩
                                          · replace c49 := Bool.eq_false_iff.mpr c49
                                            subst c49
                                            have H1 : (some (0, 0)) = some (r1, r2) := by rw [if_neg (show ¬ (false = true) by decide)] at H; exact H
                                            clear H
                                            have H := H1
                                            clear H1
                                            simp only [Option.some.injEq, Prod.mk.injEq] at H
                                            obtain ⟨rfl, rfl⟩ := H
                                            go_wp2_with (first | ((with_reducible refine gate_callee (f := 83) rfl ?_); refine goesL_ (some 100) rfl rfl Tryd.func83 (by kernel_rfl) rfl #[.int .i64 x0_2, .int .i64 33, .int .i64 126] rfl (by (try simp only [List.map_toArray, List.map_cons, List.map_nil]); first | done | rfl | (simp only [List.length_drop, List.length_take]; rfl)) ?_; (with_reducible refine (bookplateref04_in.calls x0_2 33 126 false _ A48.out).mono ?_); rintro e w' ⟨rfl, ⟨nd, rfl⟩⟩; refine ⟨_, rfl, ?_⟩))
                                            go_ret2
                                            exact ⟨by first | rfl | (simp; done) | (simp [*]; done), by repeat (first | exact Drawn0.refl _ | apply Drawn0.step)⟩
end Go.Proofs.YthcpdhniakpbaaaDoor.X
end

section
namespace Go.Proofs.YthcpdhniakpbaaaDoor.X
open Go.RowKit Go.Proofs.YthcpdhniakpbaaaDoorW.PrintWords Go.Proofs.YthcpdhniakpbaaaDoorW.PrintLast Go.Proofs.YthcpdhniakpbaaaDoorW.PrintMore
attribute [local go_sem] max2_int min2_int max_two min_two max_three min_three max_four min_four
set_option linter.unusedVariables false
set_option linter.unusedSimpArgs false
def bookplateref04_Has.f (k : Nat) (a0 : Int) : Option (Bool) := (bookplateref04_Class.f k a0).bind fun bt130 => (some (bt130.2 != 0))
set_option maxHeartbeats 8000000 in
set_option maxRecDepth 100000 in
theorem bookplateref04_Has.calls (k : Nat) (a0 : Int) (r : Bool) (w : World) (h : bookplateref04_Has.f k a0 = some r) :
    Calls Tryd.prog 61 #[.int .i64 a0] w fun e w' => e = .returned (.bool r) ∧ Drawn0 w w' := by
  have H : ((bookplateref04_Class.f k a0).bind fun bt130 => (some (bt130.2 != 0))) = some r := h
  clear h
  replace H := Option.bind_eq_some_iff.mp H
  obtain ⟨⟨t130, t131⟩, A20, H⟩ := H
  replace H : (some (t131 != 0)) = some r := H
  have A2 := Aside0.mk A20
  clear A20
  obtain rfl := Option.some.inj H
  go_enter Tryd.func61, Tryd.ntmps61
  go_wp2_with (first | ((with_reducible refine gate_callee (f := 63) rfl ?_); refine goesL_ (some 7) rfl rfl Tryd.func63 (by kernel_rfl) rfl #[.int .i64 a0] rfl (by (try simp only [List.map_toArray, List.map_cons, List.map_nil]); first | done | rfl | (simp only [List.length_drop, List.length_take]; rfl)) ?_; (with_reducible refine (bookplateref04_Class.calls k a0 t130 t131 _ A2.out).mono ?_); rintro e w' ⟨rfl, ⟨nd, rfl⟩⟩; refine ⟨_, rfl, ?_⟩))
  go_ret
  exact ⟨by first | rfl | (simp; done) | (simp [*]; done), by repeat (first | exact Drawn0.refl _ | apply Drawn0.step)⟩
def bookplateref04_Decode.l0 : Nat → ByteArray → List Int → Int → Option (List Int × Bool)
  | 0, _, _, _ => none
  | k + 1, x0, x4, x5 => if x5 < (x0.size : Int) then ((bookplateref04_at.f k x0 x5).bind fun bt132 => (if bt132.2 = 0 then (some (([] : List Int), false)) else ((bookplateref04_Has.f k bt132.1).bind fun t134 => (if t134 = true then (if x4.length < 17592186044416 then (bookplateref04_Decode.l0 k x0 (x4 ++ [bt132.1]) (wrap64 (x5 + bt132.2))) else (none)) else (some (([] : List Int), false)))))) else (some (x4, true))
def bookplateref04_Decode.f (k : Nat) (a0 : ByteArray) : Option (List Int × Bool) := bookplateref04_Decode.l0 k a0 ([] : List Int) 0
set_option maxHeartbeats 8000000 in
set_option maxRecDepth 100000 in
theorem bookplateref04_Decode.calls (k : Nat) (a0 : ByteArray) (r1 : List Int) (r2 : Bool) (w : World) (h : bookplateref04_Decode.f k a0 = some (r1, r2)) :
    Calls Tryd.prog 31 #[.string a0] w fun e w' => ∃ v0_ : Value, e = .returned (.tuple #[v0_, .bool r2]) ∧ Kd.R (Kd.int .i64) 3 w' w.heap.size (fun _ => True) v0_ r1 ∧ Below w.heap.size w w' := by
  have HB := Aside0.mk (Below.refl w.heap.size w)
  have H : (bookplateref04_Decode.l0 k a0 ([] : List Int) 0) = some (r1, r2) := h
  clear h
  have H' := Aside0.mk H
  clear H
  go_enter Tryd.func31, Tryd.ntmps31
  go_wp2
  go_loopg [4, 5] k (fun kq v4 v5 w' => ∃ (x4_1 : List Int) (x5_1 : Int), v5 = .int .i64 x5_1 ∧ Aside0 (bookplateref04_Decode.l0 kq a0 x4_1 x5_1 = some (r1, r2)) ∧ Aside0 (kq ≤ k) ∧ Aside0 (Kd.R (Kd.int .i64) 3 w' w.heap.size (fun _ => True) v4 x4_1) ∧ Aside0 (Below w.heap.size w w'))
  case atStart => exact ⟨(([] : List Int)), (0), (by first | rfl | (simp; done) | (simp [*]; done)), H', ⟨Nat.le_refl _⟩, ⟨by first | exact Kd.R_nil _ _ _ _ _ | exact Kd.N_nil _ _ _ _ _ | exact Kd.V_nil _ _ _ _ _ | exact Kd.Q_nil _ _ _ _ _ | exact Kd.S_nil _ _ _ _ _⟩, ⟨by repeat (first | (with_reducible first | exact HB.out | apply below_alloc | apply pw_below_drewN | apply below_drew1) | exact HB.out)⟩⟩
  case round =>
    clear H'
    obtain ⟨x4_1, x5_1, rfl, HA, HK1, HO_4, HB⟩ := hrel
    cases gk with
    | zero => exact absurd HA.out (by simp [bookplateref04_Decode.l0])
    | succ k1 =>
      have H := HA.out
      clear HA
      simp only [bookplateref04_Decode.l0] at H
      by_cases c2 : x5_1 < (a0.size : Int)
      · rw [if_pos c2] at H
        have c2b0 : decide (x5_1 < (a0.size : Int)) = true := decide_eq_true c2
        clear c2
        replace H := Option.bind_eq_some_iff.mp H
        obtain ⟨⟨t132, t133⟩, A30, H⟩ := H
        replace H : (if t133 = 0 then (some (([] : List Int), false)) else ((bookplateref04_Has.f k1 t132).bind fun t134 => (if t134 = true then (if x4_1.length < 17592186044416 then (bookplateref04_Decode.l0 k1 a0 (x4_1 ++ [t132]) (wrap64 (x5_1 + t133))) else (none)) else (some (([] : List Int), false))))) = some (r1, r2) := H
        have A3 := Aside0.mk A30
        clear A30
        by_cases c4 : t133 = 0
        · rw [if_pos c4] at H
          have c4b0 : (t133 == 0) = true := beq_iff_eq.mpr c4
          have c4b1 : (t133 != 0) = false := bne_eq_false_iff_eq.mpr c4
          clear c4
          simp only [Option.some.injEq, Prod.mk.injEq] at H
          obtain ⟨rfl, rfl⟩ := H
          go_wp2_with (first | ((with_reducible refine gate_callee (f := 60) rfl ?_); refine goesL_ (some 15) rfl rfl Tryd.func60 (by kernel_rfl) rfl #[.string a0, .int .i64 x5_1] rfl (by (try simp only [List.map_toArray, List.map_cons, List.map_nil]); first | done | rfl | (simp only [List.length_drop, List.length_take]; rfl)) ?_; (with_reducible refine (bookplateref04_at.calls k1 a0 x5_1 t132 t133 _ A3.out).mono ?_); rintro e w' ⟨rfl, ⟨nd, rfl⟩⟩; refine ⟨_, rfl, ?_⟩))
          go_ret2
          exact ⟨_, by first | rfl | (simp [errW_none, errW_some] <;> rfl) | (simp [*, errW_none, errW_some] <;> rfl), by first | exact Kd.R_nil _ _ _ _ _ | exact Kd.N_nil _ _ _ _ _ | exact Kd.V_nil _ _ _ _ _ | exact Kd.Q_nil _ _ _ _ _ | exact Kd.S_nil _ _ _ _ _, by repeat (first | (with_reducible first | exact HB.out | apply below_alloc | apply pw_below_drewN | apply below_drew1) | exact HB.out)⟩
        · rw [if_neg c4] at H
          have c4b0 : (t133 == 0) = false := beq_eq_false_iff_ne.mpr c4
          have c4b1 : (t133 != 0) = true := bne_iff_ne.mpr c4
          replace H := Option.bind_eq_some_iff.mp H
          obtain ⟨t134, A50, H⟩ := H
          replace H : (if t134 = true then (if x4_1.length < 17592186044416 then (bookplateref04_Decode.l0 k1 a0 (x4_1 ++ [t132]) (wrap64 (x5_1 + t133))) else (none)) else (some (([] : List Int), false))) = some (r1, r2) := H
          have A5 := Aside0.mk A50
          clear A50
          by_cases c6 : t134 = true
          · subst c6
            have H1 : (if x4_1.length < 17592186044416 then (bookplateref04_Decode.l0 k1 a0 (x4_1 ++ [t132]) (wrap64 (x5_1 + t133))) else (none)) = some (r1, r2) := by rw [if_pos rfl] at H; exact H
            clear H
            have H := H1
            clear H1
            by_cases c7 : x4_1.length < 17592186044416
            · rw [if_pos c7] at H
              have LMc7 := Aside0.mk c7
              clear c7
              obtain ⟨y135, hy135⟩ : ∃ y_ : List Int, y_ = (x4_1 ++ [t132]) := ⟨_, rfl⟩
              replace H : (bookplateref04_Decode.l0 k1 a0 y135 (wrap64 (x5_1 + t133))) = some (r1, r2) := by first | (rw [hy135]; with_reducible exact H) | (have H2_ := (Option.bind_some _ _).symm.trans H; rw [hy135]; with_reducible exact H2_) | (have H2_ := (Option.bind_some _ _).symm.trans H; with_reducible exact H2_) | with_reducible exact H | (rw [hy135]; exact H) | exact H
              have Ny135 := Aside0.mk hy135
              clear hy135
              have H' := Aside0.mk H
              clear H
              go_wp2_with (first | ((with_reducible refine gate_callee (f := 60) rfl ?_); refine goesL_ (some 15) rfl rfl Tryd.func60 (by kernel_rfl) rfl #[.string a0, .int .i64 x5_1] rfl (by (try simp only [List.map_toArray, List.map_cons, List.map_nil]); first | done | rfl | (simp only [List.length_drop, List.length_take]; rfl)) ?_; (with_reducible refine (bookplateref04_at.calls k1 a0 x5_1 t132 t133 _ A3.out).mono ?_); rintro e w' ⟨rfl, ⟨nd, rfl⟩⟩; refine ⟨_, rfl, ?_⟩) | (go_at_call 61; (with_reducible refine (bookplateref04_Has.calls k1 t132 true _ A5.out).mono ?_); rintro e w' ⟨rfl, ⟨nd, rfl⟩⟩) | ((with_reducible refine gate_builtin (b := .append) (xs := #[.tmp 25, .tmp 27]) rfl ?_); at_builtin; refine Kd.R_append (Kd.int .i64) (w0 := w) w.heap.size rfl (.tmp 25) (.tmp 27) 35 3 (.int .i64 0) 8 rfl Tryd.underlying35 info3 rfl (by decide) (by omega) u4 x4_1 t132 [.int .i64 t132] (fun _ => True) (fun _ => False) rfl rfl ?aP (fun _ hk => hk.elim) ?aF ?aO ?aB ?aS ?aL ?_; (case aP => exact rfl); (case aB => exact (by repeat (first | (with_reducible first | exact HB.out | apply below_alloc | apply pw_below_drewN | apply below_drew1) | exact HB.out))); (case aF => exact (fun _ _ => trivial)); (case aO => exact (by (with_reducible repeat (first | apply Kd.R_alloc | apply Kd.R_drewN | apply Kd.R_drew)); exact HO_4.out)); (case aS => exact (below_size (by repeat (first | (with_reducible first | exact HB.out | apply below_alloc | apply pw_below_drewN | apply below_drew1) | exact HB.out)))); (case aL => have := LMc7.out; omega); intro v136 w8 ho hb hg hat; rw [← Ny135.out] at ho; have n0_ := Aside0.mk (hb); have n1_ := Aside0.mk (ho); clear HB; clear HO_4; have HB := n0_; have HO137 := n1_; clear n0_ n1_; clear ho hb hg hat))
              go_roundg k1
              case measure => have := HK1.out; omega
              case rel => exact ⟨(y135), (wrap64 (x5_1 + t133)), (by first | rfl | (simp; done) | (simp [*]; done)), H', ⟨by have := HK1.out; omega⟩, ⟨by (with_reducible repeat (first | apply Kd.R_alloc | apply Kd.R_drewN | apply Kd.R_drew)); exact HO137.out⟩, ⟨by repeat (first | (with_reducible first | exact HB.out | apply below_alloc | apply pw_below_drewN | apply below_drew1) | exact HB.out)⟩⟩
            · rw [if_neg c7] at H
              exact absurd H (by simp)
          · replace c6 := Bool.eq_false_iff.mpr c6
            subst c6
            have H1 : (some (([] : List Int), false)) = some (r1, r2) := by rw [if_neg (show ¬ (false = true) by decide)] at H; exact H
            clear H
            have H := H1
            clear H1
            simp only [Option.some.injEq, Prod.mk.injEq] at H
            obtain ⟨rfl, rfl⟩ := H
            go_wp2_with (first | ((with_reducible refine gate_callee (f := 60) rfl ?_); refine goesL_ (some 15) rfl rfl Tryd.func60 (by kernel_rfl) rfl #[.string a0, .int .i64 x5_1] rfl (by (try simp only [List.map_toArray, List.map_cons, List.map_nil]); first | done | rfl | (simp only [List.length_drop, List.length_take]; rfl)) ?_; (with_reducible refine (bookplateref04_at.calls k1 a0 x5_1 t132 t133 _ A3.out).mono ?_); rintro e w' ⟨rfl, ⟨nd, rfl⟩⟩; refine ⟨_, rfl, ?_⟩) | (go_at_call 61; (with_reducible refine (bookplateref04_Has.calls k1 t132 false _ A5.out).mono ?_); rintro e w' ⟨rfl, ⟨nd, rfl⟩⟩))
            go_ret2
            exact ⟨_, by first | rfl | (simp [errW_none, errW_some] <;> rfl) | (simp [*, errW_none, errW_some] <;> rfl), by first | exact Kd.R_nil _ _ _ _ _ | exact Kd.N_nil _ _ _ _ _ | exact Kd.V_nil _ _ _ _ _ | exact Kd.Q_nil _ _ _ _ _ | exact Kd.S_nil _ _ _ _ _, by repeat (first | (with_reducible first | exact HB.out | apply below_alloc | apply pw_below_drewN | apply below_drew1) | exact HB.out)⟩
      · rw [if_neg c2] at H
        have c2b0 : decide (x5_1 < (a0.size : Int)) = false := decide_eq_false c2
        clear c2
        simp only [Option.some.injEq, Prod.mk.injEq] at H
        obtain ⟨rfl, rfl⟩ := H
        go_wp2
        go_ret2
        exact ⟨_, by first | rfl | (simp [errW_none, errW_some] <;> rfl) | (simp [*, errW_none, errW_some] <;> rfl), by (with_reducible repeat (first | apply Kd.R_alloc | apply Kd.R_drewN | apply Kd.R_drew)); exact HO_4.out, by repeat (first | (with_reducible first | exact HB.out | apply below_alloc | apply pw_below_drewN | apply below_drew1) | exact HB.out)⟩
def bookplateref07_part.f (k : Nat) (a0 : ByteArray) : Option (Bool) := (bookplateref04_Decode.f k a0).bind fun bt138 => (if bt138.2 = true then (if (bt138.1.length : Int) ≥ 1 then (some (decide ((bt138.1.length : Int) ≤ 6))) else (some false)) else (some false))
set_option maxHeartbeats 8000000 in
set_option maxRecDepth 100000 in
theorem bookplateref07_part.calls (k : Nat) (a0 : ByteArray) (r : Bool) (w : World) (h : bookplateref07_part.f k a0 = some r) :
    Calls Tryd.prog 53 #[.string a0] w fun e w' => e = .returned (.bool r) ∧ Below w.heap.size w w' := by
  have HB := Aside0.mk (Below.refl w.heap.size w)
  have H : ((bookplateref04_Decode.f k a0).bind fun bt138 => (if bt138.2 = true then (if (bt138.1.length : Int) ≥ 1 then (some (decide ((bt138.1.length : Int) ≤ 6))) else (some false)) else (some false))) = some r := h
  clear h
  replace H := Option.bind_eq_some_iff.mp H
  obtain ⟨⟨t138, t139⟩, A20, H⟩ := H
  replace H : (if t139 = true then (if (t138.length : Int) ≥ 1 then (some (decide ((t138.length : Int) ≤ 6))) else (some false)) else (some false)) = some r := H
  have A2 := Aside0.mk A20
  clear A20
  by_cases c3 : t139 = true
  · subst c3
    have H1 : (if (t138.length : Int) ≥ 1 then (some (decide ((t138.length : Int) ≤ 6))) else (some false)) = some r := by rw [if_pos rfl] at H; exact H
    clear H
    have H := H1
    clear H1
    by_cases c4 : (t138.length : Int) ≥ 1
    · rw [if_pos c4] at H
      have c4b0 : decide (1 ≤ (t138.length : Int)) = true := decide_eq_true c4
      have c4b1 : decide (1 ≤ t138.length) = true := decide_eq_true (by omega)
      clear c4
      obtain rfl := Option.some.inj H
      go_enter Tryd.func53, Tryd.ntmps53
      go_wp2_with (first | ((with_reducible refine gate_callee (f := 31) rfl ?_); refine goesL_ (some 7) rfl rfl Tryd.func31 (by kernel_rfl) rfl #[.string a0] rfl (by (try simp only [List.map_toArray, List.map_cons, List.map_nil]); first | done | rfl | (simp only [List.length_drop, List.length_take]; rfl)) ?_; (with_reducible refine (bookplateref04_Decode.calls k a0 t138 true _ A2.out).mono ?_); rintro e w5 ⟨v140, rfl, ho0, hb⟩; refine ⟨_, rfl, ?_⟩; have n0_ := Aside0.mk (Kd.R_lower ho0 (below_size (by repeat (first | (with_reducible first | exact HB.out | apply below_alloc | apply pw_below_drewN | apply below_drew1) | exact HB.out)))); have n1_ := Aside0.mk (below_step (by repeat (first | (with_reducible first | exact HB.out | apply below_alloc | apply pw_below_drewN | apply below_drew1) | exact HB.out)) hb); clear HB; have HO141 := n0_; have HB := n1_; clear n0_ n1_; (try clear hb); (try clear hb2); (try clear hk); (try clear hi); (try clear ho0); obtain ⟨Ao6, co6, eo6⟩ := Kd.R_slice HO141.out; subst eo6))
      go_ret
      exact ⟨by first | rfl | (simp [errW_none, errW_some] <;> rfl) | (simp [*, errW_none, errW_some] <;> rfl), by repeat (first | (with_reducible first | exact HB.out | apply below_alloc | apply pw_below_drewN | apply below_drew1) | exact HB.out)⟩
    · rw [if_neg c4] at H
      have c4b0 : decide (1 ≤ (t138.length : Int)) = false := decide_eq_false c4
      have c4b1 : decide (1 ≤ t138.length) = false := decide_eq_false (by omega)
      clear c4
      obtain rfl := Option.some.inj H
      go_enter Tryd.func53, Tryd.ntmps53
      go_wp2_with (first | ((with_reducible refine gate_callee (f := 31) rfl ?_); refine goesL_ (some 7) rfl rfl Tryd.func31 (by kernel_rfl) rfl #[.string a0] rfl (by (try simp only [List.map_toArray, List.map_cons, List.map_nil]); first | done | rfl | (simp only [List.length_drop, List.length_take]; rfl)) ?_; (with_reducible refine (bookplateref04_Decode.calls k a0 t138 true _ A2.out).mono ?_); rintro e w7 ⟨v140, rfl, ho0, hb⟩; refine ⟨_, rfl, ?_⟩; have n0_ := Aside0.mk (Kd.R_lower ho0 (below_size (by repeat (first | (with_reducible first | exact HB.out | apply below_alloc | apply pw_below_drewN | apply below_drew1) | exact HB.out)))); have n1_ := Aside0.mk (below_step (by repeat (first | (with_reducible first | exact HB.out | apply below_alloc | apply pw_below_drewN | apply below_drew1) | exact HB.out)) hb); clear HB; have HO141 := n0_; have HB := n1_; clear n0_ n1_; (try clear hb); (try clear hb2); (try clear hk); (try clear hi); (try clear ho0); obtain ⟨Ao8, co8, eo8⟩ := Kd.R_slice HO141.out; subst eo8))
      go_ret
      exact ⟨by first | rfl | (simp [errW_none, errW_some] <;> rfl) | (simp [*, errW_none, errW_some] <;> rfl), by repeat (first | (with_reducible first | exact HB.out | apply below_alloc | apply pw_below_drewN | apply below_drew1) | exact HB.out)⟩
  · replace c3 := Bool.eq_false_iff.mpr c3
    subst c3
    have H1 : (some false) = some r := by rw [if_neg (show ¬ (false = true) by decide)] at H; exact H
    clear H
    have H := H1
    clear H1
    obtain rfl := Option.some.inj H
    go_enter Tryd.func53, Tryd.ntmps53
    go_wp2_with (first | ((with_reducible refine gate_callee (f := 31) rfl ?_); refine goesL_ (some 7) rfl rfl Tryd.func31 (by kernel_rfl) rfl #[.string a0] rfl (by (try simp only [List.map_toArray, List.map_cons, List.map_nil]); first | done | rfl | (simp only [List.length_drop, List.length_take]; rfl)) ?_; (with_reducible refine (bookplateref04_Decode.calls k a0 t138 false _ A2.out).mono ?_); rintro e w9 ⟨v140, rfl, ho0, hb⟩; refine ⟨_, rfl, ?_⟩; have n0_ := Aside0.mk (Kd.R_lower ho0 (below_size (by repeat (first | (with_reducible first | exact HB.out | apply below_alloc | apply pw_below_drewN | apply below_drew1) | exact HB.out)))); have n1_ := Aside0.mk (below_step (by repeat (first | (with_reducible first | exact HB.out | apply below_alloc | apply pw_below_drewN | apply below_drew1) | exact HB.out)) hb); clear HB; have HO141 := n0_; have HB := n1_; clear n0_ n1_; (try clear hb); (try clear hb2); (try clear hk); (try clear hi); (try clear ho0)))
    go_ret
    exact ⟨by first | rfl | (simp [errW_none, errW_some] <;> rfl) | (simp [*, errW_none, errW_some] <;> rfl), by repeat (first | (with_reducible first | exact HB.out | apply below_alloc | apply pw_below_drewN | apply below_drew1) | exact HB.out)⟩
mutual
def bookplateref07_Valid.l0 : Nat → List (S34) → Int → Option (Bool)
  | 0, _, _ => none
  | k + 1, x0, x3 => if x3 < (x0.length : Int) then (if 0 ≤ x3 then ((bookplateref07_part.f k ((rd_T34 x0 x3).f0)).bind fun t143 => (if t143 = true then ((bookplateref07_part.f k ((rd_T34 x0 x3).f1)).bind fun t145 => (bookplateref07_Valid.j1 k x0 x3 (!t145))) else (bookplateref07_Valid.j1 k x0 x3 true))) else (none)) else (if (x0.length : Int) ≥ 1 then (some (decide ((x0.length : Int) ≤ 80))) else (some false))
def bookplateref07_Valid.j1 : Nat → List (S34) → Int → Bool → Option (Bool)
  | 0, _, _, _ => none
  | k + 1, x0, x3, x26 => if x26 = true then (some false) else (bookplateref07_Valid.l1 k x0 x3 0)
def bookplateref07_Valid.l1 : Nat → List (S34) → Int → Int → Option (Bool)
  | 0, _, _, _ => none
  | k + 1, x0, x3, x4 => if x4 < x3 then (if 0 ≤ x4 then (if x4 < (x0.length : Int) then (if 0 ≤ x3 then (if x3 < (x0.length : Int) then (if ((rd_T34 x0 x4).f0).toList = ((rd_T34 x0 x3).f0).toList then (some false) else (bookplateref07_Valid.l1 k x0 x3 (wrap64 (x4 + 1)))) else (none)) else (none)) else (none)) else (none)) else (bookplateref07_Valid.l0 k x0 (wrap64 (x3 + 1)))
end
def bookplateref07_Valid.f (k : Nat) (l0 : List (S34)) : Option (Bool) := bookplateref07_Valid.l0 k l0 0
set_option maxHeartbeats 8000000 in
set_option maxRecDepth 100000 in
theorem bookplateref07_Valid.calls (k : Nat) (A0 : Option Addr) (c0 : Nat) (l0 : List (S34)) (r : Bool) (w : World) (hr0 : Kd.C k34 w A0 l0.length l0) (hc0 : l0.length ≤ c0) (h : bookplateref07_Valid.f k l0 = some r) :
    Calls Tryd.prog 21 #[.slice A0 l0.length c0] w fun e w' => e = .returned (.bool r) ∧ Below w.heap.size w w' := by
  have HR0 := Aside0.mk hr0
  have HC0 := Aside0.mk hc0
  clear hr0 hc0
  have HB := Aside0.mk (Below.refl w.heap.size w)
  have H : (bookplateref07_Valid.l0 k l0 0) = some r := h
  clear h
  have H' := Aside0.mk H
  clear H
  go_enter Tryd.func21, Tryd.ntmps21
  go_wp2
  repeat (go_quiet (fail); try go_wp2)
  go_loopg [3] k (fun kq v3 w' => ∃ (x3_1 : Int), v3 = .int .i64 x3_1 ∧ Aside0 (bookplateref07_Valid.l0 kq l0 x3_1 = some r) ∧ Aside0 (kq ≤ k) ∧ Aside0 (Below w.heap.size w w'))
  case atStart => exact ⟨(0), (by first | rfl | (simp; done) | (simp [*]; done)), H', ⟨Nat.le_refl _⟩, ⟨by repeat (first | (with_reducible first | exact HB.out | apply below_alloc | apply pw_below_drewN | apply below_drew1) | exact HB.out)⟩⟩
  case round =>
    clear H'
    obtain ⟨x3_1, rfl, HA, HK1, HB⟩ := hrel
    cases gk with
    | zero => exact absurd HA.out (by simp [bookplateref07_Valid.l0])
    | succ k1 =>
      have H := HA.out
      clear HA
      simp only [bookplateref07_Valid.l0] at H
      by_cases c2 : x3_1 < (l0.length : Int)
      · rw [if_pos c2] at H
        have c2b0 : decide (x3_1 < (l0.length : Int)) = true := decide_eq_true c2
        clear c2
        have HC3 := Aside0.mk H
        clear H
        go_upto_region 4 with (fail)
        repeat (go_quiet (fail); go_upto_region 4 with (fail))
        go_cut [26] (fun v26 wc => ∃ (kq : Nat) (x26_2 : Bool), v26 = .bool x26_2 ∧ Aside0 (bookplateref07_Valid.j1 kq l0 x3_1 x26_2 = some r) ∧ Aside0 (kq ≤ k1) ∧ Aside0 (Below w.heap.size w wc))
        case first =>
          have H := HC3.out
          clear HC3
          by_cases c4 : 0 ≤ x3_1
          · rw [if_pos c4] at H
            have c4b0 : decide (0 ≤ x3_1) = true := decide_eq_true c4
            clear c4
            (first | rw [c4b0] | (simp only [i64_w, i32_w]; rw [c4b0]) | skip)
            replace H := Option.bind_eq_some_iff.mp H
            obtain ⟨t143, A50, H⟩ := H
            replace H : (if t143 = true then ((bookplateref07_part.f k1 ((rd_T34 l0 x3_1).f1)).bind fun t145 => (bookplateref07_Valid.j1 k1 l0 x3_1 (!t145))) else (bookplateref07_Valid.j1 k1 l0 x3_1 true)) = some r := H
            have A5 := Aside0.mk A50
            clear A50
            by_cases c6 : t143 = true
            · subst c6
              have H1 : ((bookplateref07_part.f k1 ((rd_T34 l0 x3_1).f1)).bind fun t145 => (bookplateref07_Valid.j1 k1 l0 x3_1 (!t145))) = some r := by rw [if_pos rfl] at H; exact H
              clear H
              have H := H1
              clear H1
              replace H := Option.bind_eq_some_iff.mp H
              obtain ⟨t145, A70, H⟩ := H
              replace H : (bookplateref07_Valid.j1 k1 l0 x3_1 (!t145)) = some r := H
              have A7 := Aside0.mk A70
              clear A70
              have H' := Aside0.mk H
              clear H
              have p142 : 0 ≤ (x3_1 : Int) := of_decide_eq_true (by first | (with_reducible assumption) | assumption)
              have q142 : x3_1 < (l0.length : Int) := of_decide_eq_true (by first | (with_reducible assumption) | assumption)
              obtain ⟨ad142, e142, hx142_0, hx142_1⟩ := at_T34 HR0.out x3_1 p142 q142
              cases e142
              replace hx142_0 := (HB.out.cell (World.block_lt_of_cell? w _ hx142_0)).trans hx142_0
              replace hx142_1 := (HB.out.cell (World.block_lt_of_cell? w _ hx142_1)).trans hx142_1
              replace p142 := eq_true p142
              replace q142 := eq_true q142
              go_wp2_with (first | (go_at_call 53; (with_reducible refine (bookplateref07_part.calls k1 ((rd_T34 l0 x3_1).f0) true _ A5.out).mono ?_); rintro e w8 ⟨rfl, hb⟩; have n0_ := Aside0.mk (below_step (by repeat (first | (with_reducible first | exact HB.out | apply below_alloc | apply pw_below_drewN | apply below_drew1) | exact HB.out)) hb); clear HB; have HB := n0_; clear n0_; (try clear hb); (try clear hb2); (try clear hk); (try clear hi); have p144 : 0 ≤ (x3_1 : Int) := of_decide_eq_true (by first | (with_reducible assumption) | assumption); have q144 : x3_1 < (l0.length : Int) := of_decide_eq_true (by first | (with_reducible assumption) | assumption); obtain ⟨ad144, e144, hx144_0, hx144_1⟩ := at_T34 HR0.out x3_1 p144 q144; obtain rfl : ad142 = ad144 := (by injection e144); replace hx144_0 := (HB.out.cell (World.block_lt_of_cell? w _ hx144_0)).trans hx144_0; replace hx144_1 := (HB.out.cell (World.block_lt_of_cell? w _ hx144_1)).trans hx144_1; replace p144 := eq_true p144; replace q144 := eq_true q144) | (go_at_call 53; (with_reducible refine (bookplateref07_part.calls k1 ((rd_T34 l0 x3_1).f1) t145 _ A7.out).mono ?_); rintro e w9 ⟨rfl, hb⟩; have n0_ := Aside0.mk (below_step (by repeat (first | (with_reducible first | exact HB.out | apply below_alloc | apply pw_below_drewN | apply below_drew1) | exact HB.out)) hb); clear HB; have HB := n0_; clear n0_; (try clear hb); (try clear hb2); (try clear hk); (try clear hi)))
              repeat (go_quiet (first | (go_at_call 53; (with_reducible refine (bookplateref07_part.calls k1 ((rd_T34 l0 x3_1).f0) true _ A5.out).mono ?_); rintro e w8 ⟨rfl, hb⟩; have n0_ := Aside0.mk (below_step (by repeat (first | (with_reducible first | exact HB.out | apply below_alloc | apply pw_below_drewN | apply below_drew1) | exact HB.out)) hb); clear HB; have HB := n0_; clear n0_; (try clear hb); (try clear hb2); (try clear hk); (try clear hi); have p144 : 0 ≤ (x3_1 : Int) := of_decide_eq_true (by first | (with_reducible assumption) | assumption); have q144 : x3_1 < (l0.length : Int) := of_decide_eq_true (by first | (with_reducible assumption) | assumption); obtain ⟨ad144, e144, hx144_0, hx144_1⟩ := at_T34 HR0.out x3_1 p144 q144; obtain rfl : ad142 = ad144 := (by injection e144); replace hx144_0 := (HB.out.cell (World.block_lt_of_cell? w _ hx144_0)).trans hx144_0; replace hx144_1 := (HB.out.cell (World.block_lt_of_cell? w _ hx144_1)).trans hx144_1; replace p144 := eq_true p144; replace q144 := eq_true q144) | (go_at_call 53; (with_reducible refine (bookplateref07_part.calls k1 ((rd_T34 l0 x3_1).f1) t145 _ A7.out).mono ?_); rintro e w9 ⟨rfl, hb⟩; have n0_ := Aside0.mk (below_step (by repeat (first | (with_reducible first | exact HB.out | apply below_alloc | apply pw_below_drewN | apply below_drew1) | exact HB.out)) hb); clear HB; have HB := n0_; clear n0_; (try clear hb); (try clear hb2); (try clear hk); (try clear hi))); try go_wp2_with (first | (go_at_call 53; (with_reducible refine (bookplateref07_part.calls k1 ((rd_T34 l0 x3_1).f0) true _ A5.out).mono ?_); rintro e w8 ⟨rfl, hb⟩; have n0_ := Aside0.mk (below_step (by repeat (first | (with_reducible first | exact HB.out | apply below_alloc | apply pw_below_drewN | apply below_drew1) | exact HB.out)) hb); clear HB; have HB := n0_; clear n0_; (try clear hb); (try clear hb2); (try clear hk); (try clear hi); have p144 : 0 ≤ (x3_1 : Int) := of_decide_eq_true (by first | (with_reducible assumption) | assumption); have q144 : x3_1 < (l0.length : Int) := of_decide_eq_true (by first | (with_reducible assumption) | assumption); obtain ⟨ad144, e144, hx144_0, hx144_1⟩ := at_T34 HR0.out x3_1 p144 q144; obtain rfl : ad142 = ad144 := (by injection e144); replace hx144_0 := (HB.out.cell (World.block_lt_of_cell? w _ hx144_0)).trans hx144_0; replace hx144_1 := (HB.out.cell (World.block_lt_of_cell? w _ hx144_1)).trans hx144_1; replace p144 := eq_true p144; replace q144 := eq_true q144) | (go_at_call 53; (with_reducible refine (bookplateref07_part.calls k1 ((rd_T34 l0 x3_1).f1) t145 _ A7.out).mono ?_); rintro e w9 ⟨rfl, hb⟩; have n0_ := Aside0.mk (below_step (by repeat (first | (with_reducible first | exact HB.out | apply below_alloc | apply pw_below_drewN | apply below_drew1) | exact HB.out)) hb); clear HB; have HB := n0_; clear n0_; (try clear hb); (try clear hb2); (try clear hk); (try clear hi))))
              go_meet
              case rel => exact ⟨_, (!t145), (by first | rfl | (simp; done) | (simp [*]; done)), H', ⟨by have := HK1.out; first | omega | exact Nat.le_refl _⟩, ⟨by repeat (first | (with_reducible first | exact HB.out | apply below_alloc | apply pw_below_drewN | apply below_drew1) | exact HB.out)⟩⟩
            · replace c6 := Bool.eq_false_iff.mpr c6
              subst c6
              have H1 : (bookplateref07_Valid.j1 k1 l0 x3_1 true) = some r := by rw [if_neg (show ¬ (false = true) by decide)] at H; exact H
              clear H
              have H := H1
              clear H1
              have H' := Aside0.mk H
              clear H
              have p142 : 0 ≤ (x3_1 : Int) := of_decide_eq_true (by first | (with_reducible assumption) | assumption)
              have q142 : x3_1 < (l0.length : Int) := of_decide_eq_true (by first | (with_reducible assumption) | assumption)
              obtain ⟨ad142, e142, hx142_0, hx142_1⟩ := at_T34 HR0.out x3_1 p142 q142
              cases e142
              replace hx142_0 := (HB.out.cell (World.block_lt_of_cell? w _ hx142_0)).trans hx142_0
              replace hx142_1 := (HB.out.cell (World.block_lt_of_cell? w _ hx142_1)).trans hx142_1
              replace p142 := eq_true p142
              replace q142 := eq_true q142
              go_wp2_with (first | (go_at_call 53; (with_reducible refine (bookplateref07_part.calls k1 ((rd_T34 l0 x3_1).f0) false _ A5.out).mono ?_); rintro e w10 ⟨rfl, hb⟩; have n0_ := Aside0.mk (below_step (by repeat (first | (with_reducible first | exact HB.out | apply below_alloc | apply pw_below_drewN | apply below_drew1) | exact HB.out)) hb); clear HB; have HB := n0_; clear n0_; (try clear hb); (try clear hb2); (try clear hk); (try clear hi)))
              repeat (go_quiet (first | (go_at_call 53; (with_reducible refine (bookplateref07_part.calls k1 ((rd_T34 l0 x3_1).f0) false _ A5.out).mono ?_); rintro e w10 ⟨rfl, hb⟩; have n0_ := Aside0.mk (below_step (by repeat (first | (with_reducible first | exact HB.out | apply below_alloc | apply pw_below_drewN | apply below_drew1) | exact HB.out)) hb); clear HB; have HB := n0_; clear n0_; (try clear hb); (try clear hb2); (try clear hk); (try clear hi))); try go_wp2_with (first | (go_at_call 53; (with_reducible refine (bookplateref07_part.calls k1 ((rd_T34 l0 x3_1).f0) false _ A5.out).mono ?_); rintro e w10 ⟨rfl, hb⟩; have n0_ := Aside0.mk (below_step (by repeat (first | (with_reducible first | exact HB.out | apply below_alloc | apply pw_below_drewN | apply below_drew1) | exact HB.out)) hb); clear HB; have HB := n0_; clear n0_; (try clear hb); (try clear hb2); (try clear hk); (try clear hi))))
              go_meet
              case rel => exact ⟨_, (true), (by first | rfl | (simp; done) | (simp [*]; done)), H', ⟨by have := HK1.out; first | omega | exact Nat.le_refl _⟩, ⟨by repeat (first | (with_reducible first | exact HB.out | apply below_alloc | apply pw_below_drewN | apply below_drew1) | exact HB.out)⟩⟩
          · rw [if_neg c4] at H
            exact absurd H (by simp)
        case rest =>
          clear HC3
          try clear p1
          try clear q1
          try clear hx1
          try clear c2
          try clear c2b0
          try clear p2
          try clear c4
          try clear c4b0
          try clear c6
          try clear hx142_0
          try clear hx142_1
          try clear hx144_0
          try clear hx144_1
          try clear p142
          try clear p144
          try clear q142
          try clear q144
          obtain ⟨kq, x26_2, rfl, HA, HJ2, HB⟩ := hcut
          cases kq with
          | zero => exact absurd HA.out (by simp [bookplateref07_Valid.j1])
          | succ kj2 =>
            have H := HA.out
            clear HA
            simp only [bookplateref07_Valid.j1] at H
            by_cases c11 : x26_2 = true
            · subst c11
              have H1 : (some false) = some r := by rw [if_pos rfl] at H; exact H
              clear H
              have H := H1
              clear H1
              obtain rfl := Option.some.inj H
              go_wp2
              repeat (go_quiet (fail); try go_wp2)
              go_ret
              exact ⟨by first | rfl | (simp [errW_none, errW_some] <;> rfl) | (simp [*, errW_none, errW_some] <;> rfl), by repeat (first | (with_reducible first | exact HB.out | apply below_alloc | apply pw_below_drewN | apply below_drew1) | exact HB.out)⟩
            · replace c11 := Bool.eq_false_iff.mpr c11
              subst c11
              have H1 : (bookplateref07_Valid.l1 kj2 l0 x3_1 0) = some r := by rw [if_neg (show ¬ (false = true) by decide)] at H; exact H
              clear H
              have H := H1
              clear H1
              have H' := Aside0.mk H
              clear H
              go_wp2
              repeat (go_quiet (fail); try go_wp2)
              go_loopg [4] kj2 (fun kq v4 w' => ∃ (x4_3 : Int), v4 = .int .i64 x4_3 ∧ Aside0 (bookplateref07_Valid.l1 kq l0 x3_1 x4_3 = some r) ∧ Aside0 (kq ≤ kj2) ∧ Aside0 (Below w.heap.size w w'))
              case atStart => exact ⟨(0), (by first | rfl | (simp; done) | (simp [*]; done)), H', ⟨Nat.le_refl _⟩, ⟨by repeat (first | (with_reducible first | exact HB.out | apply below_alloc | apply pw_below_drewN | apply below_drew1) | exact HB.out)⟩⟩
              case round =>
                clear H'
                try clear c1
                try clear p1
                try clear q1
                try clear hx1
                try clear c2
                try clear c2b0
                try clear p2
                try clear c4
                try clear c4b0
                try clear c6
                try clear c11
                try clear hx142_0
                try clear hx142_1
                try clear hx144_0
                try clear hx144_1
                try clear p1
                try clear p142
                try clear p144
                try clear p2
                try clear q1
                try clear q142
                try clear q144
                obtain ⟨x4_3, rfl, HA, HK3, HB⟩ := hrel
                cases gk with
                | zero => exact absurd HA.out (by simp [bookplateref07_Valid.l1])
                | succ k3 =>
                  have H := HA.out
                  clear HA
                  simp only [bookplateref07_Valid.l1] at H
                  by_cases c12 : x4_3 < x3_1
                  · rw [if_pos c12] at H
                    have c12b0 : decide (x4_3 < x3_1) = true := decide_eq_true c12
                    clear c12
                    by_cases c13 : 0 ≤ x4_3
                    · rw [if_pos c13] at H
                      have c13b0 : decide (0 ≤ x4_3) = true := decide_eq_true c13
                      clear c13
                      by_cases c14 : x4_3 < (l0.length : Int)
                      · rw [if_pos c14] at H
                        have c14b0 : decide (x4_3 < (l0.length : Int)) = true := decide_eq_true c14
                        clear c14
                        by_cases c15 : 0 ≤ x3_1
                        · rw [if_pos c15] at H
                          have c15b0 : decide (0 ≤ x3_1) = true := decide_eq_true c15
                          clear c15
                          by_cases c16 : x3_1 < (l0.length : Int)
                          · rw [if_pos c16] at H
                            have c16b0 : decide (x3_1 < (l0.length : Int)) = true := decide_eq_true c16
                            clear c16
                            by_cases c17 : ((rd_T34 l0 x4_3).f0).toList = ((rd_T34 l0 x3_1).f0).toList
                            · rw [if_pos c17] at H
                              have c17b0 : (((rd_T34 l0 x4_3).f0).toList == ((rd_T34 l0 x3_1).f0).toList) = true := beq_iff_eq.mpr c17
                              have c17b1 : (((rd_T34 l0 x4_3).f0).toList != ((rd_T34 l0 x3_1).f0).toList) = false := bne_eq_false_iff_eq.mpr c17
                              clear c17
                              obtain rfl := Option.some.inj H
                              have p146 : 0 ≤ (x4_3 : Int) := of_decide_eq_true (by first | (with_reducible assumption) | assumption)
                              have q146 : x4_3 < (l0.length : Int) := of_decide_eq_true (by first | (with_reducible assumption) | assumption)
                              obtain ⟨ad146, e146, hx146_0, hx146_1⟩ := at_T34 HR0.out x4_3 p146 q146
                              cases e146
                              replace hx146_0 := (HB.out.cell (World.block_lt_of_cell? w _ hx146_0)).trans hx146_0
                              replace hx146_1 := (HB.out.cell (World.block_lt_of_cell? w _ hx146_1)).trans hx146_1
                              replace p146 := eq_true p146
                              replace q146 := eq_true q146
                              have p147 : 0 ≤ (x3_1 : Int) := of_decide_eq_true (by first | (with_reducible assumption) | assumption)
                              have q147 : x3_1 < (l0.length : Int) := of_decide_eq_true (by first | (with_reducible assumption) | assumption)
                              obtain ⟨ad147, e147, hx147_0, hx147_1⟩ := at_T34 HR0.out x3_1 p147 q147
                              obtain rfl : ad146 = ad147 := (by injection e147)
                              replace hx147_0 := (HB.out.cell (World.block_lt_of_cell? w _ hx147_0)).trans hx147_0
                              replace hx147_1 := (HB.out.cell (World.block_lt_of_cell? w _ hx147_1)).trans hx147_1
                              replace p147 := eq_true p147
                              replace q147 := eq_true q147
                              go_wp2
                              repeat (go_quiet (fail); try go_wp2)
                              go_ret
                              exact ⟨by first | rfl | (simp [errW_none, errW_some] <;> rfl) | (simp [*, errW_none, errW_some] <;> rfl), by repeat (first | (with_reducible first | exact HB.out | apply below_alloc | apply pw_below_drewN | apply below_drew1) | exact HB.out)⟩
                            · rw [if_neg c17] at H
                              have c17b0 : (((rd_T34 l0 x4_3).f0).toList == ((rd_T34 l0 x3_1).f0).toList) = false := beq_eq_false_iff_ne.mpr c17
                              have c17b1 : (((rd_T34 l0 x4_3).f0).toList != ((rd_T34 l0 x3_1).f0).toList) = true := bne_iff_ne.mpr c17
                              have H' := Aside0.mk H
                              clear H
                              have p146 : 0 ≤ (x4_3 : Int) := of_decide_eq_true (by first | (with_reducible assumption) | assumption)
                              have q146 : x4_3 < (l0.length : Int) := of_decide_eq_true (by first | (with_reducible assumption) | assumption)
                              obtain ⟨ad146, e146, hx146_0, hx146_1⟩ := at_T34 HR0.out x4_3 p146 q146
                              cases e146
                              replace hx146_0 := (HB.out.cell (World.block_lt_of_cell? w _ hx146_0)).trans hx146_0
                              replace hx146_1 := (HB.out.cell (World.block_lt_of_cell? w _ hx146_1)).trans hx146_1
                              replace p146 := eq_true p146
                              replace q146 := eq_true q146
                              have p147 : 0 ≤ (x3_1 : Int) := of_decide_eq_true (by first | (with_reducible assumption) | assumption)
                              have q147 : x3_1 < (l0.length : Int) := of_decide_eq_true (by first | (with_reducible assumption) | assumption)
                              obtain ⟨ad147, e147, hx147_0, hx147_1⟩ := at_T34 HR0.out x3_1 p147 q147
                              obtain rfl : ad146 = ad147 := (by injection e147)
                              replace hx147_0 := (HB.out.cell (World.block_lt_of_cell? w _ hx147_0)).trans hx147_0
                              replace hx147_1 := (HB.out.cell (World.block_lt_of_cell? w _ hx147_1)).trans hx147_1
                              replace p147 := eq_true p147
                              replace q147 := eq_true q147
                              go_wp2
                              repeat (go_quiet (fail); try go_wp2)
                              go_roundg k3
                              case measure => have := HK1.out; have := HJ2.out; have := HK3.out; omega
                              case rel => exact ⟨(wrap64 (x4_3 + 1)), (by first | rfl | (simp; done) | (simp [*]; done)), H', ⟨by have := HK1.out; have := HJ2.out; have := HK3.out; omega⟩, ⟨by repeat (first | (with_reducible first | exact HB.out | apply below_alloc | apply pw_below_drewN | apply below_drew1) | exact HB.out)⟩⟩
                          · rw [if_neg c16] at H
                            exact absurd H (by simp)
                        · rw [if_neg c15] at H
                          exact absurd H (by simp)
                      · rw [if_neg c14] at H
                        exact absurd H (by simp)
                    · rw [if_neg c13] at H
                      exact absurd H (by simp)
                  · rw [if_neg c12] at H
                    have c12b0 : decide (x4_3 < x3_1) = false := decide_eq_false c12
                    clear c12
                    have H' := Aside0.mk H
                    clear H
                    go_wp2
                    repeat (go_quiet (fail); try go_wp2)
                    go_roundg k3
                    case measure => have := HK1.out; have := HJ2.out; have := HK3.out; omega
                    case rel => exact ⟨(wrap64 (x3_1 + 1)), (by first | rfl | (simp; done) | (simp [*]; done)), H', ⟨by have := HK1.out; have := HJ2.out; have := HK3.out; omega⟩, ⟨by repeat (first | (with_reducible first | exact HB.out | apply below_alloc | apply pw_below_drewN | apply below_drew1) | exact HB.out)⟩⟩
      · rw [if_neg c2] at H
        have c2b0 : decide (x3_1 < (l0.length : Int)) = false := decide_eq_false c2
        clear c2
        by_cases c18 : (l0.length : Int) ≥ 1
        · rw [if_pos c18] at H
          have c18b0 : decide (1 ≤ (l0.length : Int)) = true := decide_eq_true c18
          have c18b1 : decide (1 ≤ l0.length) = true := decide_eq_true (by omega)
          clear c18
          obtain rfl := Option.some.inj H
          go_wp2
          repeat (go_quiet (fail); try go_wp2)
          go_ret
          exact ⟨by first | rfl | (simp [errW_none, errW_some] <;> rfl) | (simp [*, errW_none, errW_some] <;> rfl), by repeat (first | (with_reducible first | exact HB.out | apply below_alloc | apply pw_below_drewN | apply below_drew1) | exact HB.out)⟩
        · rw [if_neg c18] at H
          have c18b0 : decide (1 ≤ (l0.length : Int)) = false := decide_eq_false c18
          have c18b1 : decide (1 ≤ l0.length) = false := decide_eq_false (by omega)
          clear c18
          obtain rfl := Option.some.inj H
          go_wp2
          repeat (go_quiet (fail); try go_wp2)
          go_ret
          exact ⟨by first | rfl | (simp [errW_none, errW_some] <;> rfl) | (simp [*, errW_none, errW_some] <;> rfl), by repeat (first | (with_reducible first | exact HB.out | apply below_alloc | apply pw_below_drewN | apply below_drew1) | exact HB.out)⟩
end Go.Proofs.YthcpdhniakpbaaaDoor.X
end

section
namespace Go.Proofs.YthcpdhniakpbaaaDoor.X
open Go.RowKit Go.Proofs.YthcpdhniakpbaaaDoorW.PrintWords Go.Proofs.YthcpdhniakpbaaaDoorW.PrintLast Go.Proofs.YthcpdhniakpbaaaDoorW.PrintMore
attribute [local go_sem] max2_int min2_int max_two min_two max_three min_three max_four min_four
set_option linter.unusedVariables false
set_option linter.unusedSimpArgs false
def bookplateref07_Greek.f  : Option ((List (S34))) := some (([(⟨(⟨#[206, 177]⟩ : ByteArray), (⟨#[97]⟩ : ByteArray)⟩ : S34), (⟨(⟨#[206, 178]⟩ : ByteArray), (⟨#[98]⟩ : ByteArray)⟩ : S34), (⟨(⟨#[206, 179]⟩ : ByteArray), (⟨#[103]⟩ : ByteArray)⟩ : S34), (⟨(⟨#[206, 180]⟩ : ByteArray), (⟨#[100]⟩ : ByteArray)⟩ : S34), (⟨(⟨#[206, 181]⟩ : ByteArray), (⟨#[101]⟩ : ByteArray)⟩ : S34), (⟨(⟨#[206, 182]⟩ : ByteArray), (⟨#[122]⟩ : ByteArray)⟩ : S34), (⟨(⟨#[206, 183]⟩ : ByteArray), (⟨#[196, 147]⟩ : ByteArray)⟩ : S34), (⟨(⟨#[206, 184]⟩ : ByteArray), (⟨#[116, 104]⟩ : ByteArray)⟩ : S34), (⟨(⟨#[206, 185]⟩ : ByteArray), (⟨#[105]⟩ : ByteArray)⟩ : S34), (⟨(⟨#[206, 186]⟩ : ByteArray), (⟨#[107]⟩ : ByteArray)⟩ : S34), (⟨(⟨#[206, 187]⟩ : ByteArray), (⟨#[108]⟩ : ByteArray)⟩ : S34), (⟨(⟨#[206, 188]⟩ : ByteArray), (⟨#[109]⟩ : ByteArray)⟩ : S34), (⟨(⟨#[206, 189]⟩ : ByteArray), (⟨#[110]⟩ : ByteArray)⟩ : S34), (⟨(⟨#[206, 190]⟩ : ByteArray), (⟨#[120]⟩ : ByteArray)⟩ : S34), (⟨(⟨#[206, 191]⟩ : ByteArray), (⟨#[111]⟩ : ByteArray)⟩ : S34), (⟨(⟨#[207, 128]⟩ : ByteArray), (⟨#[112]⟩ : ByteArray)⟩ : S34), (⟨(⟨#[207, 129]⟩ : ByteArray), (⟨#[114]⟩ : ByteArray)⟩ : S34), (⟨(⟨#[207, 131]⟩ : ByteArray), (⟨#[115]⟩ : ByteArray)⟩ : S34), (⟨(⟨#[207, 130]⟩ : ByteArray), (⟨#[115]⟩ : ByteArray)⟩ : S34), (⟨(⟨#[207, 132]⟩ : ByteArray), (⟨#[116]⟩ : ByteArray)⟩ : S34), (⟨(⟨#[207, 133]⟩ : ByteArray), (⟨#[121]⟩ : ByteArray)⟩ : S34), (⟨(⟨#[207, 134]⟩ : ByteArray), (⟨#[112, 104]⟩ : ByteArray)⟩ : S34), (⟨(⟨#[207, 135]⟩ : ByteArray), (⟨#[99, 104]⟩ : ByteArray)⟩ : S34), (⟨(⟨#[207, 136]⟩ : ByteArray), (⟨#[112, 115]⟩ : ByteArray)⟩ : S34), (⟨(⟨#[207, 137]⟩ : ByteArray), (⟨#[197, 141]⟩ : ByteArray)⟩ : S34), (⟨(⟨#[206, 191, 207, 133]⟩ : ByteArray), (⟨#[111, 117]⟩ : ByteArray)⟩ : S34), (⟨(⟨#[206, 179, 206, 179]⟩ : ByteArray), (⟨#[110, 103]⟩ : ByteArray)⟩ : S34), (⟨(⟨#[206, 179, 206, 186]⟩ : ByteArray), (⟨#[110, 107]⟩ : ByteArray)⟩ : S34)] : List (S34)))
end Go.Proofs.YthcpdhniakpbaaaDoor.X
end

section
namespace Go.Proofs.YthcpdhniakpbaaaDoor.X
set_option linter.unusedVariables false
set_option linter.unusedSimpArgs false
open Go.RowKit Go.Proofs.YthcpdhniakpbaaaDoorW.PrintWords
theorem w64 {n : Int} (h0 : -9223372036854775808 ≤ n) (h1 : n ≤ 9223372036854775807) : wrap64 n = n := by unfold wrap64; omega
theorem bt_drop (s : ByteArray) (i j : Nat) (x : Int) (hx : x = ((i + j : Nat) : Int)) : bt s x = byN (s.data.toList.drop i) j := by
  subst hx
  unfold bt byN
  rw [List.getD_eq_getElem?_getD, List.getElem?_drop, Int.toNat_natCast]
  split
  · rename_i h
    rw [List.getElem?_eq_getElem (by simpa using h)]
    simp
    rfl
  · rename_i h
    rw [List.getElem?_eq_none (by simpa using h)]
    rfl
theorem dlen (s : ByteArray) : s.data.toList.length = s.size := Array.length_toList
def atR (l : List UInt8) : Int × Int := match charS l with | some (c, n) => (c, (n : Int)) | none => (0, 0)
theorem at_eq (s : ByteArray) (i : Nat) (hi : i < s.size) (hs : s.size ≤ 4611686018427387904) (k : Nat) :
    bookplateref04_at.f (k + 2) s (i : Int) = some (atR (s.data.toList.drop i)) := by
  have e0 := bt_drop s i 0 (i : Int) (by simp)
  have e1 := bt_drop s i 1 ((i : Int) + 1) (by simp)
  have e2 := bt_drop s i 2 ((i : Int) + 2) (by simp)
  obtain ⟨l0, l1⟩ := byN_range (s.data.toList.drop i) 0
  obtain ⟨m0, m1⟩ := byN_range (s.data.toList.drop i) 1
  obtain ⟨n0, n1⟩ := byN_range (s.data.toList.drop i) 2
  have hlen : (s.data.toList.drop i).length = s.size - i := by simp
  unfold atR charS
  rw [hlen]
  generalize byN (s.data.toList.drop i) 0 = b0 at *
  generalize byN (s.data.toList.drop i) 1 = b1 at *
  generalize byN (s.data.toList.drop i) 2 = b2 at *
  clear hlen
  have h64 : ∀ x : Int, 2 = x ↔ x = 2 := fun x => eq_comm
  unfold bookplateref04_at.f
  simp only [bookplateref04_at.j0, bookplateref04_at.j1]
  rw [w64 (n := (i : Int) + 1) (by omega) (by omega), w64 (n := (i : Int) + 2) (by omega) (by omega), e0, e1, e2, w64 (n := b0) (by omega) (by omega)]
  rw [if_pos (by omega), if_pos (by omega), if_neg (by omega : ¬ s.size - i = 0)]
  by_cases c1 : b0 < 128
  · rw [if_pos c1, if_pos c1]
    rfl
  · rw [if_neg c1, if_neg c1]
    by_cases c2 : 194 ≤ b0 ∧ b0 < 224
    · rw [if_pos (by omega), if_pos (by omega)]
      rw [if_neg (by omega : ¬ (224 ≤ b0 ∧ _))]
      by_cases c3 : (i : Int) + 1 < s.size
      · rw [if_pos c3, if_pos (by omega)]
        by_cases c4 : b1 / 64 = 2
        · have e : ((b1 / 64) == 2) = true := beq_iff_eq.mpr c4
          rw [e, if_pos (by omega : 194 ≤ b0 ∧ b0 < 224 ∧ 1 < s.size - i ∧ b1 / 64 = 2)]
          simp only [if_true]
          rw [if_pos (by omega), if_pos (by omega)]
          rw [w64 (n := b0 - 192) (by omega) (by omega), w64 (n := (b0 - 192) * 64) (by omega) (by omega), w64 (by omega) (by omega)]
          have : (b1 - 128) % 256 = b1 - 128 := by omega
          rw [this]
          rfl
        · have e : ((b1 / 64) == 2) = false := beq_eq_false_iff_ne.mpr c4
          rw [e, if_neg (by omega : ¬ (194 ≤ b0 ∧ b0 < 224 ∧ 1 < s.size - i ∧ b1 / 64 = 2))]
          simp only [Bool.false_eq_true, if_false]
          rw [if_neg (by omega)]
      · rw [if_neg c3, if_neg (by omega : ¬ (194 ≤ b0 ∧ b0 < 224 ∧ 1 < s.size - i ∧ b1 / 64 = 2))]
        simp only [Bool.false_eq_true, if_false]
        rw [if_neg (by omega)]
    · rw [if_neg (by omega : ¬ (194 ≤ b0 ∧ b0 < 224 ∧ 1 < s.size - i ∧ b1 / 64 = 2))]
      have hA : ∀ X Y Z : Option (Int × Int), (if b0 ≥ 194 then (if b0 < 224 then X else Y) else Y) = Y := by
        intro X Y Z
        by_cases c3 : b0 ≥ 194
        · rw [if_pos c3, if_neg (by omega)]
        · rw [if_neg c3]
      rw [hA _ _ none]
      simp only [Bool.false_eq_true, if_false]
      by_cases c3 : 224 ≤ b0 ∧ b0 < 240
      · rw [if_pos (by omega), if_pos (by omega)]
        by_cases c4 : (i : Int) + 2 < s.size
        · rw [if_pos c4, if_pos (by omega), if_pos (by omega)]
          by_cases c5 : b1 / 64 = 2
          · rw [if_pos c5, if_pos (by omega)]
            by_cases c6 : b2 / 64 = 2
            · have e : ((b2 / 64) == 2) = true := beq_iff_eq.mpr c6
              rw [e]
              simp only [if_true]
              rw [if_pos (by omega), if_pos (by omega), if_pos (by omega), if_pos (by omega)]
              have d1 : (b1 - 128) % 256 = b1 - 128 := by omega
              have d2 : (b2 - 128) % 256 = b2 - 128 := by omega
              rw [w64 (n := b0 - 224) (by omega) (by omega), w64 (n := (b0 - 224) * 4096) (by omega) (by omega), d1, d2, w64 (n := (b0 - 224) * 4096 + (b1 - 128) * 64) (by omega) (by omega), w64 (n := (b0 - 224) * 4096 + (b1 - 128) * 64 + (b2 - 128)) (by omega) (by omega)]
              by_cases c7 : (b0 - 224) * 4096 + (b1 - 128) * 64 + (b2 - 128) ≥ 2048
              · rw [if_pos c7, if_pos (by omega)]
                rfl
              · rw [if_neg c7, if_neg (by omega)]
            · have e : ((b2 / 64) == 2) = false := beq_eq_false_iff_ne.mpr c6
              rw [e, if_neg (by omega : ¬ (224 ≤ b0 ∧ _))]
              simp only [Bool.false_eq_true, if_false]
          · rw [if_neg c5, if_neg (by omega : ¬ (224 ≤ b0 ∧ _))]
        · rw [if_neg c4, if_neg (by omega : ¬ (224 ≤ b0 ∧ _))]
      · rw [if_neg (by omega : ¬ (224 ≤ b0 ∧ _))]
        by_cases c4 : b0 ≥ 224
        · rw [if_pos c4, if_neg (by omega)]
        · rw [if_neg c4]
theorem drop_enc (pre : List Int) (l : List UInt8) : (encL pre ++ l).drop (encL pre).length = l := by simp
theorem in_eq (c a b : Int) : bookplateref04_in.f c a b = some (decide (a ≤ c ∧ c ≤ b)) := by
  unfold bookplateref04_in.f
  by_cases h : c ≥ a
  · rw [if_pos h]; congr 1; apply decide_eq_decide.mpr; omega
  · rw [if_neg h, decide_eq_false (by omega)]
theorem listed_go (B : ByteArray) (c : Int) : ∀ (rest pre : List Int) (k : Nat), (∀ x ∈ rest, Ok x) → B.data.toList = encL pre ++ encL rest → B.size ≤ 1000000 → rest.length + 4 ≤ k →
    bookplateref04_listed.l0 k B c ((encL pre).length : Int) = some (decide (c ∈ rest))
  | [], pre, 0, ho, hB, hs, hk => by simp at hk
  | [], pre, k + 1, ho, hB, hs, hk => by
    have hsz : B.size = (encL pre).length := by rw [← dlen, hB]; simp [encL_nil]
    rw [bookplateref04_listed.l0, if_neg (by omega)]
    simp
  | x :: rest, pre, 0, ho, hB, hs, hk => by simp at hk
  | x :: rest, pre, k + 1, ho, hB, hs, hk => by
    have hp := (encC_length x).1
    have hsz : B.size = (encL pre).length + ((encC x).length + (encL rest).length) := by rw [← dlen, hB]; simp [encL_cons]
    obtain ⟨k, rfl⟩ : ∃ m, k = m + 2 := ⟨k - 2, by simp at hk; omega⟩
    rw [bookplateref04_listed.l0, if_pos (by omega), at_eq B _ (by omega) (by omega), hB, drop_enc, encL_cons]
    unfold atR
    rw [charS_enc x (ho x (by simp))]
    simp only [Option.bind_some]
    by_cases e : x = c
    · rw [if_pos e]; simp [e]
    · rw [if_neg e, w64 (by omega) (by omega)]
      have h2 : ((encL pre).length : Int) + ((encC x).length : Int) = ((encL (pre ++ [x])).length : Int) := by simp [encL_append, encL_cons, encL_nil]
      rw [h2, listed_go B c rest (pre ++ [x]) (k + 2) (fun y hy => ho y (by simp [hy])) (by rw [hB]; simp [encL_append, encL_cons, encL_nil]) hs (by simp at hk; omega)]
      have : c ≠ x := fun h => e h.symm
      simp [this]
theorem listed_eq (B : ByteArray) (c : Int) (L : List Int) (k : Nat) (ho : ∀ x ∈ L, Ok x) (hB : B.data.toList = encL L) (hs : B.size ≤ 1000000) (hk : L.length + 4 ≤ k) : bookplateref04_listed.f k B c = some (decide (c ∈ L)) := by
  have := listed_go B c L [] k ho (by simpa [encL_nil] using hB) hs hk
  simpa [bookplateref04_listed.f, encL_nil] using this
theorem latin_range : ∀ c ∈ latinL, 192 ≤ c ∧ c ≤ 382 := by decide +kernel
theorem greek_range : ∀ c ∈ greekL, 902 ≤ c ∧ c ≤ 974 := by decide +kernel
theorem cyr_range : ∀ c ∈ cyrL, 1025 ≤ c ∧ c ≤ 1169 := by decide +kernel
def refN (c : Int) : Int × Int :=
  if c = 32 ∨ c = 160 then (0, 4)
  else if (48 ≤ c ∧ c ≤ 57) ∨ c = 178 ∨ c = 179 ∨ c = 185 then (0, 3)
  else if (65 ≤ c ∧ c ≤ 90) ∨ (97 ≤ c ∧ c ≤ 122) ∨ c = 383 ∨ c = 64257 ∨ c = 64258 ∨ c ∈ latinL then (1, 1)
  else if (768 ≤ c ∧ c ≤ 772) ∨ (774 ≤ c ∧ c ≤ 776) ∨ (778 ≤ c ∧ c ≤ 780) ∨ c = 803 ∨ c = 807 ∨ c = 808 then (0, 2)
  else if (913 ≤ c ∧ c ≤ 929) ∨ (931 ≤ c ∧ c ≤ 937) ∨ (945 ≤ c ∧ c ≤ 969) ∨ c ∈ greekL then (2, 1)
  else if (1040 ≤ c ∧ c ≤ 1103) ∨ c ∈ cyrL then (3, 1)
  else if 33 ≤ c ∧ c ≤ 126 then (0, 5) else (0, 0)
set_option maxHeartbeats 4000000 in
theorem refN_eq (c : Int) : refN c = classN c := by
  have h1 := latin_range c
  have h2 := greek_range c
  have h3 := cyr_range c
  unfold refN classN letterS markS
  simp only [decide_eq_true_eq]
  by_cases q1 : c ∈ latinL
  · have := h1 q1
    simp only [q1, or_true, if_true]
    repeat' split
    all_goals first | rfl | omega
  · by_cases q2 : c ∈ greekL
    · have := h2 q2
      simp only [q1, q2, or_true, or_false, if_true]
      repeat' split
      all_goals first | rfl | omega
    · by_cases q3 : c ∈ cyrL
      · have := h3 q3
        simp only [q1, q2, q3, or_true, or_false, if_true]
        repeat' split
        all_goals first | rfl | omega
      · simp only [q1, q2, q3, or_true, or_false]
        repeat' split
        all_goals first | rfl | omega
theorem refClass_go {c : Int} (k : Nat) (hk : 300 ≤ k) : bookplateref04_Class.j0 k c = some (classN c) := by
  obtain ⟨m, rfl⟩ : ∃ m, k = m + 1 + 1 + 1 + 1 + 1 + 1 + 1 := ⟨k - 7, by omega⟩
  rw [← refN_eq]
  unfold refN
  have L1 : ∀ n, 280 ≤ n → bookplateref04_listed.f n latinB c = some (decide (c ∈ latinL)) := fun n hn => listed_eq _ c latinL n (fun x hx => by have := latin_range x hx; unfold Ok; omega) (by decide +kernel) (by decide +kernel) (Nat.le_trans (by decide +kernel) hn)
  have L2 : ∀ n, 280 ≤ n → bookplateref04_listed.f n greekB c = some (decide (c ∈ greekL)) := fun n hn => listed_eq _ c greekL n (fun x hx => by have := greek_range x hx; unfold Ok; omega) (by decide +kernel) (by decide +kernel) (Nat.le_trans (by decide +kernel) hn)
  have L3 : ∀ n, 280 ≤ n → bookplateref04_listed.f n cyrB c = some (decide (c ∈ cyrL)) := fun n hn => listed_eq _ c cyrL n (fun x hx => by have := cyr_range x hx; unfold Ok; omega) (by decide +kernel) (by decide +kernel) (Nat.le_trans (by decide +kernel) hn)
  have J6 : ∀ n b, bookplateref04_Class.j6 (n + 1) c b = some (if b = true then (3, 1) else if 33 ≤ c ∧ c ≤ 126 then (0, 5) else (0, 0)) := fun n b => by
    rw [bookplateref04_Class.j6]
    by_cases hb : b = true
    · rw [if_pos hb, if_pos hb]
    · rw [if_neg hb, if_neg hb, in_eq]
      simp only [Option.bind_some, decide_eq_true_eq]
      split <;> rfl
  have J5 : ∀ n b, 280 ≤ n → bookplateref04_Class.j5 (n + 1 + 1) c b = some (if b = true then (2, 1) else if (1040 ≤ c ∧ c ≤ 1103) ∨ c ∈ cyrL then (3, 1) else if 33 ≤ c ∧ c ≤ 126 then (0, 5) else (0, 0)) := fun n b hn => by
    rw [bookplateref04_Class.j5]
    by_cases hb : b = true
    · rw [if_pos hb, if_pos hb]
    · rw [if_neg hb, if_neg hb, in_eq]
      have := L3 (n + 1) (by omega)
      unfold cyrB at this
      rw [this]
      simp only [Option.bind_some, decide_eq_true_eq, J6]
      split
      · rename_i h; simp [h]
      · rename_i h; simp [h]
  have J4 : ∀ n b, 280 ≤ n → bookplateref04_Class.j4 (n + 1 + 1 + 1) c b = some (if b = true then (0, 2) else if (913 ≤ c ∧ c ≤ 929) ∨ (931 ≤ c ∧ c ≤ 937) ∨ (945 ≤ c ∧ c ≤ 969) ∨ c ∈ greekL then (2, 1) else if (1040 ≤ c ∧ c ≤ 1103) ∨ c ∈ cyrL then (3, 1) else if 33 ≤ c ∧ c ≤ 126 then (0, 5) else (0, 0)) := fun n b hn => by
    rw [bookplateref04_Class.j4]
    by_cases hb : b = true
    · rw [if_pos hb, if_pos hb]
    · rw [if_neg hb, if_neg hb, in_eq, in_eq, in_eq]
      have := L2 (n + 1 + 1) (by omega)
      unfold greekB at this
      rw [this]
      simp only [Option.bind_some, decide_eq_true_eq, J5 _ _ hn]
      by_cases h1 : 913 ≤ c ∧ c ≤ 929
      · simp [h1]
      · by_cases h2 : 931 ≤ c ∧ c ≤ 937
        · simp [h1, h2]
        · by_cases h3 : 945 ≤ c ∧ c ≤ 969
          · simp [h1, h2, h3]
          · simp only [h1, h2, h3, if_false, false_or]
  have J3 : ∀ n b, 280 ≤ n → bookplateref04_Class.j3 (n + 1 + 1 + 1 + 1) c b = some (if b = true then (1, 1) else if (768 ≤ c ∧ c ≤ 772) ∨ (774 ≤ c ∧ c ≤ 776) ∨ (778 ≤ c ∧ c ≤ 780) ∨ c = 803 ∨ c = 807 ∨ c = 808 then (0, 2) else if (913 ≤ c ∧ c ≤ 929) ∨ (931 ≤ c ∧ c ≤ 937) ∨ (945 ≤ c ∧ c ≤ 969) ∨ c ∈ greekL then (2, 1) else if (1040 ≤ c ∧ c ≤ 1103) ∨ c ∈ cyrL then (3, 1) else if 33 ≤ c ∧ c ≤ 126 then (0, 5) else (0, 0)) := fun n b hn => by
    rw [bookplateref04_Class.j3]
    by_cases hb : b = true
    · rw [if_pos hb, if_pos hb]
    · rw [if_neg hb, if_neg hb, in_eq, in_eq, in_eq]
      simp only [Option.bind_some, decide_eq_true_eq, J4 _ _ hn]
      by_cases h1 : 768 ≤ c ∧ c ≤ 772
      · simp [h1]
      · by_cases h2 : 774 ≤ c ∧ c ≤ 776
        · simp [h1, h2]
        · by_cases h3 : 778 ≤ c ∧ c ≤ 780
          · simp [h1, h2, h3]
          · by_cases h4 : c = 803
            · simp [h4]
            · by_cases h5 : c = 807
              · simp [h5]
              · simp only [h1, h2, h3, h4, h5, if_false, false_or, beq_iff_eq]
  have J2 : ∀ n b, 280 ≤ n → bookplateref04_Class.j2 (n + 1 + 1 + 1 + 1 + 1) c b = some (if b = true then (0, 3) else if (65 ≤ c ∧ c ≤ 90) ∨ (97 ≤ c ∧ c ≤ 122) ∨ c = 383 ∨ c = 64257 ∨ c = 64258 ∨ c ∈ latinL then (1, 1) else if (768 ≤ c ∧ c ≤ 772) ∨ (774 ≤ c ∧ c ≤ 776) ∨ (778 ≤ c ∧ c ≤ 780) ∨ c = 803 ∨ c = 807 ∨ c = 808 then (0, 2) else if (913 ≤ c ∧ c ≤ 929) ∨ (931 ≤ c ∧ c ≤ 937) ∨ (945 ≤ c ∧ c ≤ 969) ∨ c ∈ greekL then (2, 1) else if (1040 ≤ c ∧ c ≤ 1103) ∨ c ∈ cyrL then (3, 1) else if 33 ≤ c ∧ c ≤ 126 then (0, 5) else (0, 0)) := fun n b hn => by
    rw [bookplateref04_Class.j2]
    by_cases hb : b = true
    · rw [if_pos hb, if_pos hb]
    · rw [if_neg hb, if_neg hb, in_eq, in_eq]
      have := L1 (n + 1 + 1 + 1 + 1) (by omega)
      unfold latinB at this
      rw [this]
      simp only [Option.bind_some, decide_eq_true_eq, J3 _ _ hn]
      by_cases h1 : 65 ≤ c ∧ c ≤ 90
      · simp [h1]
      · by_cases h2 : 97 ≤ c ∧ c ≤ 122
        · simp [h1, h2]
        · by_cases h4 : c = 383
          · simp [h4]
          · by_cases h5 : c = 64257
            · simp [h5]
            · by_cases h6 : c = 64258
              · simp [h6]
              · simp only [h1, h2, h4, h5, h6, if_false, false_or]
  rw [bookplateref04_Class.j0]
  simp only [bookplateref04_Class.j1, in_eq, Option.bind_some, decide_eq_true_eq, J2 _ _ (show 280 ≤ m by omega)]
  by_cases h1 : c = 32
  · simp [h1]
  · simp only [h1, if_false, false_or, beq_iff_eq]
    by_cases h2 : c = 160
    · simp [h2]
    · simp only [h2, if_false]
      by_cases h3 : 48 ≤ c ∧ c ≤ 57
      · simp [h3]
      · by_cases h4 : c = 178
        · simp [h4]
        · by_cases h5 : c = 179
          · simp [h5]
          · simp only [h3, h4, h5, if_false, false_or]
theorem refClass_eq (c : Int) (k : Nat) (hk : 300 ≤ k) (hc : -9223372036854775808 ≤ c ∧ c ≤ 9223372036854775807) : bookplateref04_Class.f k c = some (classS c) := by
  unfold bookplateref04_Class.f classS narrow
  rw [in_eq]
  simp only [Option.bind_some, decide_eq_true_eq]
  split
  · rw [w64 (by omega) (by omega), refClass_go k hk]
  · rw [refClass_go k hk]
theorem refHas_eq (c : Int) (k : Nat) (hk : 300 ≤ k) (hc : -9223372036854775808 ≤ c ∧ c ≤ 9223372036854775807) : bookplateref04_Has.f k c = some (hasS c) := by
  unfold bookplateref04_Has.f
  rw [refClass_eq c k hk hc]
  rfl
theorem refDecode_go (s : ByteArray) (hs : s.size ≤ 10000000) : ∀ (n i : Nat) (acc : List Int) (k : Nat), s.size ≤ i + n → i ≤ s.size → n + 301 ≤ k → acc.length ≤ i → bookplateref04_Decode.l0 k s acc (i : Int) = some (decR acc (s.data.toList.drop i))
  | n, i, acc, 0, hn, hi, hk, ha => by omega
  | n, i, acc, k + 1, hn, hi, hk, ha => by
    rw [bookplateref04_Decode.l0]
    unfold decR
    by_cases e : i = s.size
    · rw [if_neg (by omega), List.drop_eq_nil_of_le (by rw [dlen]; omega), decS_nil]
      simp
    · rw [if_pos (by omega)]
      have hne : s.data.toList.drop i ≠ [] := fun h => by have := congrArg List.length h; rw [List.length_drop, dlen] at this; simp at this; omega
      obtain ⟨k, rfl⟩ : ∃ m, k = m + 2 := ⟨k - 2, by omega⟩
      rw [at_eq s i (by omega) (by omega), decS_cons hasS hne]
      unfold atR
      cases hc : charS (s.data.toList.drop i) with
      | none => simp
      | some q =>
        obtain ⟨c, m⟩ := q
        have hp := charS_pos hc
        rw [List.length_drop, dlen] at hp
        obtain ⟨hok, _, _⟩ := charS_back hc
        unfold Ok at hok
        simp only [Option.bind_some]
        rw [if_neg (by omega), refHas_eq c (k + 2) (by omega) (by omega)]
        simp only [Option.bind_some]
        cases hh : hasS c with
        | false => simp
        | true =>
          simp only [if_true]
          obtain ⟨n, rfl⟩ : ∃ n', n = n' + 1 := ⟨n - 1, by omega⟩
          rw [if_pos (by omega), w64 (by omega) (by omega), show ((i : Int) + (m : Int)) = ((i + m : Nat) : Int) by omega, refDecode_go s hs n (i + m) (acc ++ [c]) (k + 2) (by omega) (by omega) (by omega) (by simp; omega), List.drop_drop]
          unfold decR
          cases decS hasS (s.data.toList.drop (i + m)) with
          | none => rfl
          | some cs => simp
theorem refDecode_eq (s : ByteArray) (hs : s.size ≤ 10000000) (k : Nat) (hk : s.size + 301 ≤ k) : bookplateref04_Decode.f k s = some (decR [] s.data.toList) := by
  have := refDecode_go s hs s.size 0 [] k (by omega) (by omega) hk (by simp)
  simpa [bookplateref04_Decode.f] using this
end Go.Proofs.YthcpdhniakpbaaaDoor.X
end

section
namespace Go.Proofs.YthcpdhniakpbaaaDoor.X
open Go.RowKit Go.Maps Go.WideMaps Go.Proofs.YthcpdhniakpbaaaDoorW.PrintWords Go.Proofs.YthcpdhniakpbaaaDoorW.PrintLast Go.Proofs.YthcpdhniakpbaaaDoorW.PrintMore
set_option linter.unusedVariables false
set_option linter.unusedSimpArgs false
def boolElem (v : Value) : Option (DataW Unit × List MemPlace) := match v with | .bool b => some (.lit (.bool b), []) | _ => none
def seenD (fs : List (List UInt8)) : DataW Unit := setOf (.lit (.bool true)) (fs.map Lit.string)
theorem seenD_snoc (fs : List (List UInt8)) (f : List UInt8) : seenD (fs ++ [f]) = (seenD fs).put (.string f) (.lit (.bool true)) := by
  unfold seenD
  rw [List.map_append, List.map_cons, List.map_nil, setOf_snoc]
theorem seenD_isMap (fs : List (List UInt8)) : IsMap (seenD fs) := (tidy_setOf _ _ (by intro x hx; obtain ⟨y, _, rfl⟩ := List.mem_map.1 hx; trivial)).isMap
theorem seenD_at_go : ∀ (gs : List (List UInt8)) (f : List UInt8), (seenD gs.reverse).atKey (.string f) (.lit (.bool false)) = .lit (.bool (decide (f ∈ gs)))
  | [], f => rfl
  | g :: gs, f => by
    rw [List.reverse_cons, seenD_snoc]
    by_cases h : f = g
    · subst h
      rw [atKey_put_same (seenD_isMap _) (show WideAt.IsKeyLit (.string f) from trivial)]
      simp
    · rw [atKey_put_other (by simpa using h), seenD_at_go gs f]
      simp [h]
theorem seenD_at (fs : List (List UInt8)) (f : List UInt8) : (seenD fs).atKey (.string f) (.lit (.bool false)) = .lit (.bool (decide (f ∈ fs))) := by
  have := seenD_at_go fs.reverse f
  rw [List.reverse_reverse] at this
  rw [this]
  simp
theorem key9 : Keyed Tryd.prog 9 := string_keyed Tryd.underlying9
theorem seen_look {w : World} {b n : Nat} {fs : List (List UInt8)} (h : w.ownsMap Tryd.prog 9 boolElem b n (seenD fs)) (s : ByteArray) (hs : s.size ≤ maxLen) :
    (Instr.lookup 53 (.map (some b)) (.string s) false).run Tryd.prog w = .ok (.bool (decide (s.data.toList ∈ fs))) w := by
  obtain ⟨v, ps, hrun, hv⟩ := h.lookup key9 Tryd.underlying53 (Tryd.zeroValue4 w) (zd := .lit (.bool false)) (zp := []) rfl (keyOf_string_mk Tryd.underlying9 hs)
  rw [seenD_at] at hv
  unfold boolElem at hv
  split at hv
  · simp only [Option.some.injEq, Prod.mk.injEq, DataW.lit.injEq, Lit.bool.injEq] at hv
    rw [hrun, hv.1]
  · exact absurd hv (by simp)
def validGo : List (List UInt8) → List S41 → Bool
  | _, [] => true
  | seen, r :: rs => if partS r.f0.data.toList = true ∧ partS r.f1.data.toList = true ∧ r.f0.data.toList ∉ seen then validGo (seen ++ [r.f0.data.toList]) rs else false
def validS (l : List S41) : Bool := decide (1 ≤ l.length ∧ l.length ≤ 80) && validGo [] l
def Small (l : List S41) : Prop := ∀ r ∈ l, r.f0.size ≤ 1048576 ∧ r.f1.size ≤ 1048576
instance (l : List S41) : Decidable (Small l) := by unfold Small; infer_instance
def translit_Valid.f (l0 : List S41) : Option Bool := if Small l0 then some (validS l0) else none
theorem valid_step {seen : List (List UInt8)} {l : List S41} {i : Nat} (hi : i < l.length) :
    validGo seen (l.drop i) = if partS (rd_T41 l i).f0.data.toList = true ∧ partS (rd_T41 l i).f1.data.toList = true ∧ (rd_T41 l i).f0.data.toList ∉ seen then validGo (seen ++ [(rd_T41 l i).f0.data.toList]) (l.drop (i + 1)) else false := by
  have : rd_T41 l i = l[i] := by unfold rd_T41; simp [hi]
  rw [this, List.drop_eq_getElem_cons hi, validGo]
theorem part_any (s : ByteArray) (w : World) (hs : s.size ≤ 1048576) (hG : GT1 w) : Calls Tryd.prog 52 #[.string s] w fun e w' => e = .returned (.bool (partS s.data.toList)) ∧ Below w.heap.size w w' :=
  translit_part.calls (s.size + 8) s _ w hG (part_eq s (by omega) (Nat.le_refl _))
set_option maxHeartbeats 2000000 in
set_option maxRecDepth 100000 in
theorem valid_walk (A0 : Option Addr) (c0 : Nat) (l0 : List S41) (w : World) (hr0 : Kd.C k41 w A0 l0.length l0) (hG : GT1 w) (hs : Small l0) (h1 : 1 ≤ l0.length) (h2 : l0.length ≤ 80) :
    Calls Tryd.prog 20 #[.slice A0 l0.length c0] w fun e w' => e = .returned (.bool (validGo [] l0)) ∧ Below w.heap.size w w' := by
  have hmm := @run_makeMap Tryd.prog
  have HR0 := Aside0.mk hr0
  have HG := Aside0.mk hG
  have HS := Aside0.mk hs
  clear hr0 hG hs
  go_enter Tryd.func20, Tryd.ntmps20
  go_wp2
  go_loopw [17] (fun v17 wr => ∃ i : Nat, i ≤ l0.length ∧ v17 = .int .i64 (i : Int) ∧ Aside0 (∃ seen, wr.ownsMap Tryd.prog 9 boolElem w.heap.size i (seenD seen) ∧ validGo seen (l0.drop i) = validGo [] l0) ∧ Aside0 (Below w.heap.size w wr)) (fun v17 _ => l0.length - (intOf v17).toNat)
  case atStart => exact ⟨0, Nat.zero_le _, rfl, ⟨[], World.ownsMap_made _ _ _ _, rfl⟩, ⟨(Below.refl _ _).alloc (Nat.le_refl _) _⟩⟩
  case round =>
    obtain ⟨i, hi, rfl, HM, HB⟩ := hrel
    by_cases hlt : i < l0.length
    · obtain ⟨ad, rfl, hx0, hx1⟩ := at_T41 HR0.out (i : Int) (by omega) (by omega)
      simp only [Int.toNat_natCast] at hx0 hx1
      replace hx0 := (HB.out.cell (World.block_lt_of_cell? w _ hx0)).trans hx0
      replace hx1 := (HB.out.cell (World.block_lt_of_cell? w _ hx1)).trans hx1
      obtain ⟨f0, hf0⟩ : ∃ f, (rd_T41 l0 (i : Int)).f0 = f := ⟨_, rfl⟩
      obtain ⟨f1, hf1⟩ : ∃ f, (rd_T41 l0 (i : Int)).f1 = f := ⟨_, rfl⟩
      have hmem : rd_T41 l0 (i : Int) ∈ l0 := by unfold rd_T41; simp [hlt]
      have hs0 : f0.size ≤ 1048576 := by rw [← hf0]; exact (HS.out _ hmem).1
      have hs1 : f1.size ≤ 1048576 := by rw [← hf1]; exact (HS.out _ hmem).2
      have hst := fun seen => valid_step (seen := seen) hlt
      rw [hf0, hf1] at hst
      rw [hf0] at hx0
      rw [hf1] at hx1
      have HST := Lib.hid hst
      clear hst hf0 hf1 hmem
      obtain ⟨seen, hown, hgo⟩ := HM.out
      rw [HST.out] at hgo
      have HGO := Lib.hid hgo
      clear hgo HM
      have hbig : f0.size ≤ maxLen := by unfold maxLen; omega
      have hsz := HB.out.size
      obtain ⟨p0, hp0⟩ : ∃ p, partS f0.data.toList = p := ⟨_, rfl⟩
      obtain ⟨p1, hp1⟩ : ∃ p, partS f1.data.toList = p := ⟨_, rfl⟩
      obtain ⟨q, hq⟩ : ∃ q, decide (f0.data.toList ∈ seen) = q := ⟨_, rfl⟩
      have P0 := Lib.hid (show ∀ W, GT1 W → Calls Tryd.prog 52 #[.string f0] W fun e w' => e = .returned (.bool p0) ∧ Below W.heap.size W w' from fun W hg => by rw [← hp0]; exact part_any f0 W hs0 hg)
      have P1 := Lib.hid (show ∀ W, GT1 W → Calls Tryd.prog 52 #[.string f1] W fun e w' => e = .returned (.bool p1) ∧ Below W.heap.size W w' from fun W hg => by rw [← hp1]; exact part_any f1 W hs1 hg)
      have Q := Lib.hid (show ∀ W, W.ownsMap Tryd.prog 9 boolElem w.heap.size i (seenD seen) → (Instr.lookup 53 (.map (some w.heap.size)) (.string f0) false).run Tryd.prog W = .ok (.bool q) W from fun W h => by rw [← hq]; exact seen_look h f0 hbig)
      have HP0 := Lib.hid hp0
      have HP1 := Lib.hid hp1
      have HQ := Lib.hid hq
      clear hp0 hp1 hq
      have hlt0 := hown.lt
      cases p0 with
      | false =>
        go_wp2_with fail
        refine (P0.out _ (HG.out.below (HB.out.alloc hsz _))).mono ?_
        rintro e w1 ⟨rfl, hb1⟩
        go_wp2
        go_ret
        exact ⟨by rw [← HGO.out, HP0.out]; rfl, (HB.out.alloc hsz _).trans (hb1.mono (by simp; omega))⟩
      | true =>
        go_wp2_with fail
        refine (P0.out _ (HG.out.below (HB.out.alloc hsz _))).mono ?_
        rintro e w1 ⟨rfl, hb1⟩
        have hB1 : Below w.heap.size w w1 := (HB.out.alloc hsz _).trans (hb1.mono (by simp; omega))
        have c0 : w1.cell? ⟨wr.heap.size, 0, none⟩ = some (.string f0) := (hb1.cell (p := ⟨wr.heap.size, 0, none⟩) (by simp)).trans (by simp)
        have c1 : w1.cell? ⟨wr.heap.size, 1, none⟩ = some (.string f1) := (hb1.cell (p := ⟨wr.heap.size, 1, none⟩) (by simp)).trans (by simp)
        have hz1 : wr.heap.size < w1.heap.size := by have := hb1.size; simp at this; omega
        cases p1 with
        | false =>
          go_wp2_with fail
          refine (P1.out _ (HG.out.below hB1)).mono ?_
          rintro e w2 ⟨rfl, hb2⟩
          go_wp2
          go_ret
          exact ⟨by rw [← HGO.out, HP0.out, HP1.out]; rfl, hB1.trans (hb2.mono (by omega))⟩
        | true =>
          go_wp2_with fail
          refine (P1.out _ (HG.out.below hB1)).mono ?_
          rintro e w2 ⟨rfl, hb2⟩
          have hB2 : Below w.heap.size w w2 := hB1.trans (hb2.mono (by omega))
          have d0 : w2.cell? ⟨wr.heap.size, 0, none⟩ = some (.string f0) := (hb2.cell (p := ⟨wr.heap.size, 0, none⟩) hz1).trans c0
          have hbr : Below wr.heap.size wr w2 := (((Below.refl wr.heap.size wr).alloc (Nat.le_refl _) _).trans (hb1.mono (by simp))).trans (hb2.mono (by omega))
          have hown2 : w2.ownsMap Tryd.prog 9 boolElem w.heap.size i (seenD seen) := hown.kept (grown_of_below hbr none) (by simp)
          have hlook := Q.out w2 hown2
          have hkey := keyOf_string_mk (P := Tryd.prog) (s := f0) Tryd.underlying9 hbig
          cases q with
          | true =>
            go_wp2
            go_ret
            exact ⟨by rw [← HGO.out, HP0.out, HP1.out, if_neg (fun h => h.2.2 (of_decide_eq_true HQ.out))]; rfl, hB2⟩
          | false =>
            go_wp2_with (first
              | (at_mapUpdate; refine wpList_mapUpdate_own _ rfl _ _ _ 53 rfl 9 4 key9 Tryd.underlying53 boolElem w.heap.size i _ rfl hown2 (by unfold maxLen; omega) _ _ _ rfl rfl hkey (.lit (.bool true)) [] rfl ?_; intro w3 hown3 hgrow3)
              | go_in)
            go_roundw
            case rel => exact ⟨i + 1, by omega, by go_num, ⟨seen ++ [f0.data.toList], by rw [seenD_snoc]; exact hown3, by rw [← HGO.out, HP0.out, HP1.out, if_pos ⟨rfl, rfl, of_decide_eq_false HQ.out⟩]⟩, ⟨hB2.grown hgrow3 hB2.size (fun j hj => by cases hj; exact Nat.le_refl _)⟩⟩
            case measure => simp [intOf]; omega
    · obtain rfl : i = l0.length := by omega
      obtain ⟨seen, _, hgo⟩ := HM.out
      rw [List.drop_length] at hgo
      have HE := Lib.hid hgo
      go_wp2
      go_ret
      exact ⟨by rw [← HE.out]; rfl, HB.out⟩
theorem valid_short (A0 : Option Addr) (c0 : Nat) (l0 : List S41) (w : World) (h : l0.length < 1) :
    Calls Tryd.prog 20 #[.slice A0 l0.length c0] w fun e w' => e = .returned (.bool false) ∧ Below w.heap.size w w' := by
  go_enter Tryd.func20, Tryd.ntmps20
  go_wp2
  go_ret
  exact ⟨rfl, Below.refl _ _⟩
theorem valid_long (A0 : Option Addr) (c0 : Nat) (l0 : List S41) (w : World) (h : 80 < l0.length) :
    Calls Tryd.prog 20 #[.slice A0 l0.length c0] w fun e w' => e = .returned (.bool false) ∧ Below w.heap.size w w' := by
  go_enter Tryd.func20, Tryd.ntmps20
  go_wp2
  go_ret
  exact ⟨rfl, Below.refl _ _⟩
theorem translit_Valid.calls (A0 : Option Addr) (c0 : Nat) (l0 : List S41) (r : Bool) (w : World) (hr0 : Kd.C k41 w A0 l0.length l0) (hc0 : l0.length ≤ c0) (hG : GT1 w) (h : translit_Valid.f l0 = some r) :
    Calls Tryd.prog 20 #[.slice A0 l0.length c0] w fun e w' => e = .returned (.bool r) ∧ Below w.heap.size w w' := by
  unfold translit_Valid.f at h
  split at h
  · rename_i hs
    obtain rfl := Option.some.inj h
    unfold validS
    by_cases h1 : 1 ≤ l0.length
    · by_cases h2 : l0.length ≤ 80
      · rw [decide_eq_true (And.intro h1 h2), Bool.true_and]
        exact valid_walk A0 c0 l0 w hr0 hG hs h1 h2
      · rw [decide_eq_false (fun h => h2 h.2), Bool.false_and]
        exact valid_long A0 c0 l0 w (by omega)
    · rw [decide_eq_false (fun h => h1 h.1), Bool.false_and]
      exact valid_short A0 c0 l0 w (by omega)
  · exact absurd h (by simp)
end Go.Proofs.YthcpdhniakpbaaaDoor.X
end

section
namespace Go.Proofs.YthcpdhniakpbaaaDoor.X
open Go.RowKit
set_option linter.unusedVariables false
set_option linter.unusedSimpArgs false
theorem size72 : (Tryd.prog.info? 72).map (·.size) = some 2 := by kernel_rfl
theorem lies72 : liesAt Tryd.prog Tryd.prog.depth 72 (2 / Tryd.prog.cellsOf 72) 0 72 1 = true := by kernel_rfl
theorem infoByte : (Tryd.prog.info? 5).map (fun i => (i.zero, i.size, i.bytes)) = some (some (.int .u8 0), 1, 1) := by kernel_rfl
set_option maxHeartbeats 1000000 in
set_option maxRecDepth 100000 in
theorem copyCheck_used (b : Nat) (w : World) (h0 : w.cell? ⟨b, 0, none⟩ = some (.pointer (some ⟨b, 0, none⟩))) :
    Calls Tryd.prog 97 #[.pointer (some ⟨b, 0, none⟩)] w fun e w' => e = .returned (.tuple #[]) ∧ w = w' := by
  obtain ⟨j, hj, _⟩ := Option.map_eq_some_iff.1 size72
  go_enter Tryd.func97, Tryd.ntmps97
  go_wp2
  rw [Lib.run_neq_ptr_same w _ Tryd.underlying70 hj]
  go_wp2
  go_end0
  exact ⟨rfl, rfl⟩
set_option maxHeartbeats 1000000 in
set_option maxRecDepth 100000 in
theorem copyCheck_fresh (b : Nat) (w : World) (h0 : w.cell? ⟨b, 0, none⟩ = some (.pointer none)) (hsh : w.shape? b = some (72, 2)) (hfz : w.frozen? ⟨b, 0, none⟩ = false) :
    Calls Tryd.prog 97 #[.pointer (some ⟨b, 0, none⟩)] w fun e w' => e = .returned (.tuple #[]) ∧ w.setCell ⟨b, 0, none⟩ (.pointer (some ⟨b, 0, none⟩)) = w' := by
  obtain ⟨j, hj, hjs⟩ := Option.map_eq_some_iff.1 size72
  go_enter Tryd.func97, Tryd.ntmps97
  go_wp2
  rw [Lib.run_to_unsafe w ⟨b, 0, none⟩ Tryd.underlying70 Tryd.underlying108 hj (by rw [hjs]; decide) hsh (Nat.zero_lt_succ 1)]
  simp only [Result.andThen]
  rw [Oper.upon_value]
  go_wp2
  rw [run_callFunc_extern Tryd.func108 (by kernel_rfl) (by kernel_rfl) (by kernel_rfl) (e := Extern.AbiNoEscape.same) (by kernel_rfl)]
  rw [Lib.run_noEscape]
  simp only [Result.andThen]
  rw [Oper.upon_value]
  go_wp2
  rw [Lib.run_from_unsafe w ⟨b, 0, none⟩ Tryd.underlying108 Tryd.underlying70 hj hsh lies72]
  simp only [Result.andThen]
  rw [Oper.upon_value]
  go_wp2
  go_end0
  exact ⟨rfl, rfl⟩
theorem copyCheck (B b : Nat) (bs : List Value) (w : World) (h : Lib.IsBuilderF 72 5 B b bs w) :
    Calls Tryd.prog 97 #[.pointer (some ⟨b, 0, none⟩)] w fun e w' => e = .returned (.tuple #[]) ∧ (Lib.BuilderAtF 72 5 B b (.pointer (some ⟨b, 0, none⟩)) bs w' ∧ Below B w w' ∧ Lib.OthersKept 5 (some b) w w') := by
  rcases h with h | h
  · refine (copyCheck_fresh b w h.cell0 h.shape h.frozen0).mono ?_
    rintro e w' ⟨rfl, rfl⟩
    exact ⟨rfl, h.used _, (Below.refl B w).setCell (p := ⟨b, 0, none⟩) h.1 _, (Lib.OthersKept.refl _ _ w).setCell ⟨b, 0, none⟩ rfl _⟩
  · refine (copyCheck_used b w h.cell0).mono ?_
    rintro e w' ⟨rfl, rfl⟩
    exact ⟨rfl, h, Below.refl B _, Lib.OthersKept.refl _ _ _⟩
set_option maxHeartbeats 2000000 in
set_option maxRecDepth 100000 in
theorem writeString (B b : Nat) (bs : List Value) (s : ByteArray) (w : World) (h : Lib.IsBuilderF 72 5 B b bs w) (hlen : bs.length + s.size ≤ 140737488355328) (hBw : B ≤ w.heap.size) :
    Calls Tryd.prog 80 #[.pointer (some ⟨b, 0, none⟩), .string s] w fun e w' => e = .returned (.tuple #[.int .i64 s.size, .nilIface]) ∧ (Lib.BuilderAtF 72 5 B b (.pointer (some ⟨b, 0, none⟩)) (bs ++ Lib.strCells s) w' ∧ Below B w w' ∧ Lib.OthersKept 5 (some b) w w') := by
  obtain ⟨i0, hi, hz0, hz1, hz2⟩ := info_parts infoByte
  go_enter Tryd.func80, Tryd.ntmps80
  go_wp2_with (go_at_call 97; refine (copyCheck B b bs _ h).mono ?_)
  rintro e w1 ⟨rfl, h1, hb1, hk1⟩
  obtain ⟨hB, v, hbk, hown, hne⟩ := h1
  have c0 : w1.cell? ⟨b, 0, none⟩ = some (.pointer (some ⟨b, 0, none⟩)) := by rw [Lib.cell_of_heap hbk]; rfl
  have c1 : w1.cell? ⟨b, 1, none⟩ = some v := by rw [Lib.cell_of_heap hbk]; rfl
  go_wp2_with (at_builtin; refine Lib.wpList_append_own_stringF _ rfl _ _ 42 9 rfl B 5 i0 Tryd.underlying42 Tryd.underlying9 hi hz0 hz1 hz2 _ _ _ rfl hown s rfl ?c3 ?c4 ?c5 ?_)
  case c3 => unfold maxLen; omega
  case c4 => omega
  case c5 => have := hb1.size; omega
  intro v' w2 hown' hgrow _
  have hlt : b < w1.heap.size := by
    rcases Nat.lt_or_ge b w1.heap.size with h' | h'
    · exact h'
    · simp [Array.getElem?_eq_none h'] at hbk
  have hb2 : w2.heap[b]? = some (.cells #[.pointer (some ⟨b, 0, none⟩), v] 72 (0, 0)) := by
    rw [hgrow.block b hlt (fun e => hne e.symm)]
    exact hbk
  have d0 : w2.cell? ⟨b, 0, none⟩ = some (.pointer (some ⟨b, 0, none⟩)) := by rw [Lib.cell_of_heap hb2]; rfl
  have d1 : w2.cell? ⟨b, 1, none⟩ = some v := by rw [Lib.cell_of_heap hb2]; rfl
  have f1 : w2.frozen? ⟨b, 1, none⟩ = false := Lib.frozen_of_heap hb2 1
  obtain ⟨ao, n', cap, rfl⟩ : ∃ ao n' cap, v' = .slice ao n' cap := by
    rcases hown'.2 with ⟨hv, _⟩ | ⟨g, cap, cur, fz, hv, _⟩
    · exact ⟨_, _, _, hv⟩
    · exact ⟨_, _, _, hv⟩
  go_wp2
  go_ret2
  refine ⟨rfl, ?_, ?_, (hk1.grown hgrow (Lib.ownsRowF_kind hown)).setCell ⟨b, 1, none⟩ rfl _⟩
  · exact Lib.BuilderAtF.put (T := 72) (e := 5) hB hb2 (bs' := bs ++ Lib.strCells s) (by simpa [Lib.strCells_length] using hown') (by decide)
  · exact (hb1.grown hgrow (by have := hb1.size; omega) (fun k hk => (hown.lt k hk).1)).setCell (p := ⟨b, 1, none⟩) hB _
end Go.Proofs.YthcpdhniakpbaaaDoor.X
end

section
namespace Go.Proofs.YthcpdhniakpbaaaDoor.X
open Go.RowKit Go.Proofs.YthcpdhniakpbaaaDoorW.PrintWords Go.Proofs.YthcpdhniakpbaaaDoorW.PrintLast Go.Proofs.YthcpdhniakpbaaaDoorW.PrintMore
set_option linter.unusedVariables false
set_option linter.unusedSimpArgs false
def hasP (s p : ByteArray) : Bool := decide (p.size ≤ s.size) && ((s.extract 0 p.size).toList == p.toList)
theorem hasP_any (s p : ByteArray) (w : World) : Calls Tryd.prog 54 #[.string s, .string p] w fun e w' => e = .returned (.bool (hasP s p)) ∧ Drawn0 w w' := by
  refine strings_HasPrefix.calls s p (hasP s p) w ?_
  unfold strings_HasPrefix.f stringslite_HasPrefix.f hasP
  by_cases h : p.size ≤ s.size
  · rw [if_pos (by omega), if_pos (by omega), if_pos (by omega)]
    simp [h]
  · rw [if_neg (by omega)]
    simp [h]
theorem builder_drewN {w : World} {B b : Nat} {bs : List Value} (h : Lib.IsBuilderF 72 5 B b bs w) (n : Nat) : Lib.IsBuilderF 72 5 B b bs (w.drewN n) := h
theorem builder_below {w w' : World} {B b : Nat} {bs : List Value} (h : Lib.IsBuilderF 72 5 B b bs w) (hb : Below w.heap.size w w') : Lib.IsBuilderF 72 5 B b bs w' := by
  have one : ∀ p, Lib.BuilderAtF 72 5 B b p bs w → Lib.BuilderAtF 72 5 B b p bs w' := fun p h => by
    have hlt := h.lt
    obtain ⟨hB, v, hv, hown, hne⟩ := h
    exact ⟨hB, v, (hb.block b hlt).trans hv, hown.kept (row := none) ⟨hb.os, hb.tape, hb.output, hb.size, fun k hk _ => hb.block k hk⟩ (Classical.em _), hne⟩
  exact h.elim (fun x => .inl (one _ x)) (fun x => .inr (one _ x))
theorem builder_set {w : World} {B b bb : Nat} {bs : List Value} {cs : Array Value} (h : Lib.IsBuilderF 72 5 B b bs w) (hbb : w.heap[bb]? = some (.cells cs 41 (0, 0))) (i : Nat) (u : Value) :
    Lib.IsBuilderF 72 5 B b bs (w.setCell ⟨bb, i, none⟩ u) := by
  have one : ∀ p, Lib.BuilderAtF 72 5 B b p bs w → Lib.BuilderAtF 72 5 B b p bs (w.setCell ⟨bb, i, none⟩ u) := fun p ⟨hB, v, hb, hown, hne⟩ => by
    have hbne : b ≠ bb := fun e => by rw [e, hbb] at hb; injection hb with hb; injection hb with _ ht _; exact absurd ht (by decide)
    have hvn := Lib.ownBlock_neF hown hbb (by decide)
    refine ⟨hB, v, (Below.heap_setCell w _ u b hbne).trans hb, ?_, hne⟩
    exact hown.kept (row := some bb) ⟨rfl, rfl, rfl, by simp [World.setCell], fun k _ hk => Below.heap_setCell _ _ _ _ (fun e => hk (by simp [e]))⟩ (.inr hvn)
  exact h.elim (fun x => .inl (one _ x)) (fun x => .inr (one _ x))
theorem empty_dec (s : ByteArray) : s.toList.isEmpty = decide (s.size = 0) := by
  have h : s.toList.length = s.size := by rw [Lib.toList_data]; simp
  cases hs : s.toList with
  | nil => rw [hs] at h; rw [List.length_nil] at h; rw [decide_eq_true h.symm]; rfl
  | cons a l => rw [hs, List.length_cons] at h; rw [decide_eq_false (by omega)]; rfl
theorem decN_le (n b0 b1 b2 b3 : Nat) (hn : 1 ≤ n) : 1 ≤ (Lib.decodeN n b0 b1 b2 b3).2 ∧ (Lib.decodeN n b0 b1 b2 b3).2 ≤ n := by
  unfold Lib.decodeN
  repeat' split
  all_goals (simp only; omega)
theorem dec_pos (s : ByteArray) (h : s.size ≠ 0) : 1 ≤ (Lib.decodeGo s).2 := by
  unfold Lib.decodeGo
  rw [if_neg h, Lib.decode_at]
  exact (decN_le _ _ _ _ _ (by omega)).1
theorem dec_le (s : ByteArray) : (Lib.decodeGo s).2 ≤ s.size := by
  unfold Lib.decodeGo
  split
  · simp
  · rw [Lib.decode_at]
    exact (decN_le _ _ _ _ _ (by omega)).2
def bestB (s : ByteArray) : S41 → List S41 → S41
  | b, [] => b
  | b, r :: rs => bestB s (if b.f0.size < r.f0.size ∧ hasP s r.f0 = true then r else b) rs
theorem best_step {s : ByteArray} {b : S41} {l : List S41} {i : Nat} (hi : i < l.length) : bestB s b (l.drop i) = bestB s (if b.f0.size < (rd_T41 l i).f0.size ∧ hasP s (rd_T41 l i).f0 = true then rd_T41 l i else b) (l.drop (i + 1)) := by
  have : rd_T41 l i = l[i] := by unfold rd_T41; simp [hi]
  rw [this, List.drop_eq_getElem_cons hi, bestB]
theorem cell_alloc_old (w : World) (o : Obj) (a : Addr) (h : a.block < w.heap.size) : (w.alloc o).cell? a = w.cell? a := by
  exact World.cell?_alloc_old w o a (by omega)
theorem alloc_new (w : World) (o : Obj) : (w.alloc o).heap[w.heap.size]? = some o := by
  rw [World.alloc]; simp only [Array.getElem?_push_size]
def rule0 : S41 := ⟨⟨#[]⟩, ⟨#[]⟩⟩
def writeL (t : List S41) : Nat → ByteArray → List UInt8 → Int → Option (List UInt8 × Int)
  | 0, _, _, _ => none
  | f + 1, s, out, n => if s.size = 0 then some (out, n) else
    if (bestB s rule0 t).f0.size = 0 then writeL t f (s.extract (Lib.decodeGo s).2 s.size) (out ++ (s.extract 0 (Lib.decodeGo s).2).data.toList) (n + 1)
    else writeL t f (s.extract (bestB s rule0 t).f0.size s.size) (out ++ (bestB s rule0 t).f1.data.toList) n
theorem writeL_end {t : List S41} {f : Nat} {s : ByteArray} {out : List UInt8} {n : Int} {r : List UInt8 × Int} (h : s.size = 0) (hw : writeL t f s out n = some r) : (out, n) = r := by
  cases f with
  | zero => exact absurd hw (by simp [writeL])
  | succ f => rw [writeL, if_pos h] at hw; exact Option.some.inj hw
theorem writeL_zero {t : List S41} {f : Nat} {s : ByteArray} {out : List UInt8} {n : Int} {r : List UInt8 × Int} (h : s.size ≠ 0) (hb : (bestB s rule0 t).f0.size = 0) (hw : writeL t f s out n = some r) :
    writeL t (f - 1) (s.extract (Lib.decodeGo s).2 s.size) (out ++ (s.extract 0 (Lib.decodeGo s).2).data.toList) (n + 1) = some r := by
  cases f with
  | zero => exact absurd hw (by simp [writeL])
  | succ f => rw [writeL, if_neg h, if_pos hb] at hw; exact hw
theorem writeL_more {t : List S41} {f : Nat} {s : ByteArray} {out : List UInt8} {n : Int} {r : List UInt8 × Int} (h : s.size ≠ 0) (hb : (bestB s rule0 t).f0.size ≠ 0) (hw : writeL t f s out n = some r) :
    writeL t (f - 1) (s.extract (bestB s rule0 t).f0.size s.size) (out ++ (bestB s rule0 t).f1.data.toList) n = some r := by
  cases f with
  | zero => exact absurd hw (by simp [writeL])
  | succ f => rw [writeL, if_neg h, if_neg hb] at hw; exact hw
set_option maxHeartbeats 4000000 in
set_option maxRecDepth 100000 in
theorem write_walk (A0 : Option Addr) (c0 : Nat) (l0 : List S41) (s0 : ByteArray) (R : List UInt8) (N : Int) (w : World) (hr0 : Kd.C k41 w A0 l0.length l0) (hG : GT1 w)
    (hs : s0.size ≤ 1048576) (hsm : ∀ r ∈ l0, r.f0.size ≤ 1048576 ∧ r.f1.size ≤ 1048576) (hlen : l0.length ≤ 1048576) (hf : writeL l0 (s0.size + 1) s0 [] 0 = some (R, N)) :
    Calls Tryd.prog 57 #[.slice A0 l0.length c0, .string s0] w fun e w' => e = .returned (.tuple #[.string ⟨R.toArray⟩, .int .i64 N]) ∧ Below w.heap.size w w' := by
  have HR0 := Aside0.mk hr0
  have HG := Aside0.mk hG
  have HS := Aside0.mk hsm
  have HF := Aside0.mk hf
  clear hr0 hG hsm hf
  go_enter Tryd.func57, Tryd.ntmps57
  go_wp2
  go_loopw [1, 7] (fun v1 v7 wr => ∃ (s : ByteArray) (n : Int) (out : List UInt8) (f : Nat), v1 = .string s ∧ v7 = .int .i64 n ∧ 0 ≤ n ∧ n + s.size ≤ s0.size ∧ s.size < f ∧ Aside0 (out.length + s.size * 1048576 ≤ s0.size * 1048576 ∧ s.size ≤ s0.size) ∧ Aside0 (writeL l0 f s out n = some (R, N)) ∧ Aside0 (Lib.IsBuilderF 72 5 w.heap.size w.heap.size (Lib.byteCells out) wr) ∧ Aside0 (Below w.heap.size w wr))
    (fun v1 _ _ => match v1 with | .string s => s.size | _ => 0)
  case atStart =>
    refine ⟨s0, 0, [], s0.size + 1, rfl, rfl, by omega, by omega, by omega, ⟨by simp, by omega⟩, HF, ⟨Lib.IsBuilderF.of (Lib.fresh_isBuilder 72 5 w)⟩, ⟨(Below.refl _ _).alloc (Nat.le_refl _) _⟩⟩
  case round =>
    obtain ⟨s, n, out, f, rfl, rfl, hn0, hn1, hsf, HO, HW, HBu, HB⟩ := hrel
    obtain ⟨wo, rfl⟩ : ∃ wo : World, wo = wr := ⟨_, rfl⟩
    by_cases hne : s.size = 0
    · have hs0 : s = ⟨#[]⟩ := ByteArray.ext (Array.eq_empty_of_size_eq_zero hne)
      subst hs0
      have hne1 : (⟨#[]⟩ : ByteArray).toList.isEmpty = true := by rw [empty_dec, decide_eq_true hne]
      have hw := writeL_end hne HW.out
      have HWE := Lib.hid hw
      clear hw
      go_wp2_with fail
      refine (Tryd.Builder_String_any_k _ _ _ _ HBu.out HB.out.size).mono ?_
      rintro e w6 ⟨rfl, _, hb6, _⟩
      have hw1 : out = R := congrArg Prod.fst HWE.out
      have hw2 : n = N := congrArg Prod.snd HWE.out
      subst hw1
      subst hw2
      go_wp2
      go_ret2
      exact ⟨rfl, HB.out.trans hb6⟩
    · have hne1 : s.toList.isEmpty = false := by rw [empty_dec, decide_eq_false hne]
      have hne2 : (!s.toList.isEmpty) = true := by rw [hne1]; rfl
      have hBu := HBu.out
      have hblt : w.heap.size < wo.heap.size := hBu.elim (fun h => h.lt) (fun h => h.lt)
      have hsz := HB.out.size
      go_wp2
      go_loopw [18] (fun v18 wi => ∃ (i : Nat) (bst : S41), i ≤ l0.length ∧ v18 = .int .i64 (i : Int) ∧ Aside0 (wi.heap[wo.heap.size]? = some (.cells #[.string bst.f0, .string bst.f1] 41 (0, 0))) ∧ Aside0 (bestB s bst (l0.drop i) = bestB s rule0 l0) ∧ Aside0 (bst = rule0 ∨ bst ∈ l0 ∧ hasP s bst.f0 = true) ∧ Aside0 (Lib.IsBuilderF 72 5 w.heap.size w.heap.size (Lib.byteCells out) wi) ∧ Aside0 (Below w.heap.size w wi)) (fun v18 _ => l0.length - (intOf v18).toNat)
      case atStart => exact ⟨0, rule0, Nat.zero_le _, rfl, ⟨alloc_new _ _⟩, ⟨rfl⟩, ⟨.inl rfl⟩, ⟨hBu.alloc _⟩, ⟨HB.out.alloc hsz _⟩⟩
      case round =>
        obtain ⟨i, bst, hi, rfl, HK, HBE, HIN, HBu2, HB2⟩ := hrel
        obtain ⟨wi, rfl⟩ : ∃ wi : World, wi = wr := ⟨_, rfl⟩
        by_cases hlt : i < l0.length
        · obtain ⟨ad, rfl, hx0, hx1⟩ := at_T41 HR0.out (i : Int) (by omega) (by omega)
          simp only [Int.toNat_natCast] at hx0 hx1
          replace hx0 := (HB2.out.cell (World.block_lt_of_cell? w _ hx0)).trans hx0
          replace hx1 := (HB2.out.cell (World.block_lt_of_cell? w _ hx1)).trans hx1
          obtain ⟨f0, hf0⟩ : ∃ f, (rd_T41 l0 (i : Int)).f0 = f := ⟨_, rfl⟩
          obtain ⟨f1, hf1⟩ : ∃ f, (rd_T41 l0 (i : Int)).f1 = f := ⟨_, rfl⟩
          have hmem : rd_T41 l0 (i : Int) ∈ l0 := by unfold rd_T41; simp [hlt]
          rw [hf0] at hx0
          rw [hf1] at hx1
          have hs0 : f0.size ≤ 1048576 := by rw [← hf0]; exact (HS.out _ hmem).1
          have hsb : bst.f0.size ≤ 1048576 := by
            rcases HIN.out with h | h
            · rw [h]; decide
            · exact (HS.out _ h.1).1
          have hstep := best_step (s := s) (b := bst) hlt
          have hrd : rd_T41 l0 (i : Int) = ⟨f0, f1⟩ := by cases hr : rd_T41 l0 (i : Int); rw [hr] at hf0 hf1; simp at hf0 hf1; rw [hf0, hf1]
          rw [hrd] at hstep hmem
          rw [HBE.out] at hstep
          simp only at hstep
          have HST := Lib.hid hstep
          have HMEM := Aside0.mk hmem
          clear hstep hf0 hf1 hmem hrd
          have hbl := blk_lt HK.out
          have k0 : wi.cell? ⟨wo.heap.size, 0, none⟩ = some (.string bst.f0) := blk_cell HK.out 0
          have k1 : wi.cell? ⟨wo.heap.size, 1, none⟩ = some (.string bst.f1) := blk_cell HK.out 1
          have kf : ∀ i, wi.frozen? ⟨wo.heap.size, i, none⟩ = false := fun i => blk_frozen HK.out i
          have kk0 : (wi.alloc (.cells #[.string f0, .string f1] 41)).cell? ⟨wo.heap.size, 0, none⟩ = some (.string bst.f0) := by rw [← k0]; exact cell_alloc_old _ _ _ hbl
          obtain ⟨p, hp⟩ : ∃ p, hasP s f0 = p := ⟨_, rfl⟩
          have P := Lib.hid (show ∀ W, Calls Tryd.prog 54 #[.string s, .string f0] W fun e w' => e = .returned (.bool p) ∧ Drawn0 W w' from fun W => by rw [← hp]; exact hasP_any s f0 W)
          have HP := Lib.hid hp
          clear hp
          by_cases hc : bst.f0.size < f0.size
          · cases p with
            | true =>
              go_wp2_with (go_at_call 54; refine (P.out _).mono ?_; rintro e w' ⟨rfl, ⟨nd, rfl⟩⟩)
              go_roundw
              case rel =>
                have hw1 : ((wi.alloc (.cells #[.string f0, .string f1] 41)).drewN nd).heap[wo.heap.size]? = some (.cells #[.string bst.f0, .string bst.f1] 41 (0, 0)) := (Lib.alloc_old _ _ _ hbl).trans HK.out
                have hw2 := blk_put hw1 0 (.string f0) (cs' := #[.string f0, .string bst.f1]) rfl
                have hbu1 := builder_set (builder_drewN (HBu2.out.alloc (.cells #[.string f0, .string f1] 41)) nd) hw1 0 (.string f0)
                exact ⟨i + 1, ⟨f0, f1⟩, by omega, by go_num, ⟨blk_put hw2 1 (.string f1) rfl⟩, ⟨by rw [HST.out, if_pos ⟨hc, HP.out⟩]⟩, ⟨.inr ⟨HMEM.out, HP.out⟩⟩, ⟨builder_set hbu1 hw2 1 (.string f1)⟩, ⟨(((pw_below_drewN (HB2.out.alloc (by omega) _) nd).setCell (p := ⟨wo.heap.size, 0, none⟩) hsz _).setCell (p := ⟨wo.heap.size, 1, none⟩) hsz _)⟩⟩
              case measure => simp [intOf]; omega
            | false =>
              go_wp2_with (go_at_call 54; refine (P.out _).mono ?_; rintro e w' ⟨rfl, ⟨nd, rfl⟩⟩)
              go_roundw
              case rel => exact ⟨i + 1, bst, by omega, by go_num, ⟨(Lib.alloc_old _ _ _ hbl).trans HK.out⟩, ⟨by rw [HST.out, if_neg (fun h => by rw [HP.out] at h; exact absurd h.2 (by decide))]⟩, HIN, ⟨builder_drewN (HBu2.out.alloc _) nd⟩, ⟨pw_below_drewN (HB2.out.alloc (by omega) _) nd⟩⟩
              case measure => simp [intOf]; omega
          · go_wp2
            go_roundw
            case rel => exact ⟨i + 1, bst, by omega, by go_num, ⟨(Lib.alloc_old _ _ _ hbl).trans HK.out⟩, ⟨by rw [HST.out, if_neg (fun h => hc h.1)]⟩, HIN, ⟨HBu2.out.alloc _⟩, ⟨HB2.out.alloc (by omega) _⟩⟩
            case measure => simp [intOf]; omega
        · obtain rfl : i = l0.length := by omega
          have hend := HBE.out
          rw [List.drop_length, bestB] at hend
          have HBE2 := Lib.hid hend
          clear hend HBE
          have hbl := blk_lt HK.out
          have k0 : wi.cell? ⟨wo.heap.size, 0, none⟩ = some (.string bst.f0) := blk_cell HK.out 0
          have k1 : wi.cell? ⟨wo.heap.size, 1, none⟩ = some (.string bst.f1) := blk_cell HK.out 1
          have kf : ∀ i, wi.frozen? ⟨wo.heap.size, i, none⟩ = false := fun i => blk_frozen HK.out i
          by_cases hb0 : bst.f0.size = 0
          · have hb1 : bst.f0.toList.isEmpty = true := by rw [empty_dec, decide_eq_true hb0]
            have hd1 := dec_pos s hne
            have hd2 := dec_le s
            have D : ∀ W, GT1 W → Calls Tryd.prog 79 #[.string s] W fun e w' => e = .returned (.tuple #[.int .i32 (Lib.decodeGo s).1, .int .i64 (Lib.decodeGo s).2]) ∧ Below W.heap.size W w' := fun W hg => utf8_DecodeRuneInString.calls s _ _ W hg rfl
            obtain ⟨dr, hdr⟩ : ∃ r, (Lib.decodeGo s).1 = r := ⟨_, rfl⟩
            obtain ⟨dn, hdn⟩ : ∃ n, (Lib.decodeGo s).2 = n := ⟨_, rfl⟩
            rw [hdr, hdn] at D
            rw [hdn] at hd1 hd2
            have DD := Lib.hid D
            have HDN := Lib.hid hdn
            clear hdr hdn D
            go_wp2_with fail
            refine (DD.out _ (HG.out.below HB2.out)).mono ?_
            rintro e w3 ⟨rfl, hb3⟩
            have hB3 : Below w.heap.size w w3 := HB2.out.trans (hb3.mono (by omega))
            have hK3 := (hb3.block _ hbl).trans HK.out
            have hbl3 := blk_lt hK3
            have hBu3 : Lib.IsBuilderF 72 5 w.heap.size w.heap.size (Lib.byteCells out) w3 := builder_below HBu2.out hb3
            have j0 : w3.cell? ⟨wo.heap.size, 0, none⟩ = some (.string bst.f0) := blk_cell hK3 0
            have j1 : w3.cell? ⟨wo.heap.size, 1, none⟩ = some (.string bst.f1) := blk_cell hK3 1
            have jf : ∀ i, w3.frozen? ⟨wo.heap.size, i, none⟩ = false := fun i => blk_frozen hK3 i
            go_wp2_with fail
            go_region
            go_wp2_with fail
            have hesz : (s.extract 0 dn).size = dn := by simp; omega
            obtain ⟨es, hes⟩ : ∃ es, s.extract 0 dn = es := ⟨_, rfl⟩
            rw [hes] at hesz
            simp only [hes]
            have HES := Lib.hid hes
            clear hes
            have hw2 := blk_put hK3 0 (.string es) (cs' := #[.string es, .string bst.f1]) rfl
            have hbu1 := builder_set hBu3 hK3 0 (.string es)
            have hw3 := blk_put hw2 1 (.string es) (cs' := #[.string es, .string es]) rfl
            have hbu2 := builder_set hbu1 hw2 1 (.string es)
            have hB4 : Below w.heap.size w ((w3.setCell ⟨wo.heap.size, 0, none⟩ (.string es)).setCell ⟨wo.heap.size, 1, none⟩ (.string es)) := (hB3.setCell (p := ⟨wo.heap.size, 0, none⟩) hsz _).setCell (p := ⟨wo.heap.size, 1, none⟩) hsz _
            obtain ⟨w4, hw4⟩ : ∃ w4, (w3.setCell ⟨wo.heap.size, 0, none⟩ (.string es)).setCell ⟨wo.heap.size, 1, none⟩ (.string es) = w4 := ⟨_, rfl⟩
            rw [hw4] at hw3 hbu2 hB4
            rw [hw4]
            clear hw2 hbu1 hw4
            have hO := HO.out
            have hbl0 : (Lib.byteCells out).length = out.length := by simp [Lib.byteCells]
            refine (writeString w.heap.size w.heap.size _ es w4.drew hbu2 (by omega) hB4.size).mono ?_
            rintro e w5 ⟨rfl, hbu5, hbb5, hkk5⟩
            have hK5 := hkk5 _ _ hw3 (by intro h; injection h with h; omega) (by intro c fz h; injection h with _ h; exact absurd h (by decide))
            have m0 : w5.cell? ⟨wo.heap.size, 0, none⟩ = some (.string es) := blk_cell hK5 0
            go_wp2_with fail
            go_roundw
            case rel =>
              refine ⟨s.extract dn s.size, n + 1, out ++ es.data.toList, f - 1, rfl, by go_num, by omega, by simp; omega, by simp; omega, ⟨?_⟩, ⟨?_⟩, ⟨?_⟩, ⟨(below_drew hB4).trans hbb5⟩⟩
              · simp; omega
              · have h := writeL_zero hne (by rw [← HBE2.out]; exact hb0) HW.out
                rw [HDN.out, HES.out] at h
                exact h
              · have hq : Lib.IsBuilderF 72 5 w.heap.size w.heap.size (Lib.byteCells out ++ Lib.strCells es) w5 := .inr hbu5
                simpa [Lib.byteCells, Lib.strCells] using hq
            case measure => simp; omega
          · have hb1 : bst.f0.toList.isEmpty = false := by rw [empty_dec, decide_eq_false hb0]
            have hin : bst ∈ l0 ∧ hasP s bst.f0 = true := by
              rcases HIN.out with h | h
              · rw [h] at hb0; exact absurd rfl hb0
              · exact h
            have hs1 := (HS.out _ hin.1).2
            have hle : bst.f0.size ≤ s.size := of_decide_eq_true (Bool.and_eq_true_iff.1 hin.2).1
            have hbl0 : (Lib.byteCells out).length = out.length := by simp [Lib.byteCells]
            have hO := HO.out
            go_wp2_with fail
            refine (writeString w.heap.size w.heap.size _ bst.f1 wi HBu2.out (by omega) (by omega)).mono ?_
            rintro e w2 ⟨rfl, hbu, hbb, hkk⟩
            have hK2 := hkk _ _ HK.out (by intro h; injection h with h; omega) (by intro c fz h; injection h with _ h; exact absurd h (by decide))
            have m0 : w2.cell? ⟨wo.heap.size, 0, none⟩ = some (.string bst.f0) := blk_cell hK2 0
            go_wp2_with fail
            go_roundw
            case rel =>
              refine ⟨s.extract bst.f0.size s.size, n, out ++ bst.f1.data.toList, f - 1, rfl, rfl, hn0, by simp; omega, by simp; omega, ⟨?_⟩, ⟨?_⟩, ⟨?_⟩, ⟨HB2.out.trans hbb⟩⟩
              · simp; omega
              · have h := writeL_more hne (by rw [← HBE2.out]; exact hb0) HW.out
                rw [← HBE2.out] at h
                exact h
              · have hq : Lib.IsBuilderF 72 5 w.heap.size w.heap.size (Lib.byteCells out ++ Lib.strCells bst.f1) w2 := .inr hbu
                simpa [Lib.byteCells, Lib.strCells] using hq
            case measure => simp; omega
def WriteOk (t : List S41) (s : ByteArray) : Prop := s.size ≤ 1048576 ∧ Small t ∧ t.length ≤ 1048576
instance (t : List S41) (s : ByteArray) : Decidable (WriteOk t s) := by unfold WriteOk; infer_instance
def translit_write.f (l0 : List S41) (a1 : ByteArray) : Option (ByteArray × Int) := if WriteOk l0 a1 then (writeL l0 (a1.size + 1) a1 [] 0).map fun x => (⟨x.1.toArray⟩, x.2) else none
theorem translit_write.calls (A0 : Option Addr) (c0 : Nat) (l0 : List S41) (a1 : ByteArray) (r1 : ByteArray) (r2 : Int) (w : World) (hr0 : Kd.C k41 w A0 l0.length l0) (hc0 : l0.length ≤ c0) (hG : GT1 w) (h : translit_write.f l0 a1 = some (r1, r2)) :
    Calls Tryd.prog 57 #[.slice A0 l0.length c0, .string a1] w fun e w' => e = .returned (.tuple #[.string r1, .int .i64 r2]) ∧ Below w.heap.size w w' := by
  unfold translit_write.f at h
  split at h
  · rename_i ho
    obtain ⟨⟨R, N⟩, hw, he⟩ := Option.map_eq_some_iff.1 h
    obtain ⟨rfl, rfl⟩ := Prod.mk.inj he
    exact write_walk A0 c0 l0 a1 R N w hr0 hG ho.1 ho.2.1 ho.2.2 hw
  · exact absurd h (by simp)
end Go.Proofs.YthcpdhniakpbaaaDoor.X
end
