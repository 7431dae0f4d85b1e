/- The law NormalForms returns true for every input, the package variables that it reads holding what the row lists. Part 7 of the texts that its proof stands on; put together by a program. -/
import Derived.Test.YthcpdhniakpbaaaDoorNormalFormsF
section
namespace Go.Proofs.YthcpdhniakpbaaaDoor.X
open Go.RowKit Go.Proofs.YthcpdhniakpbaaaDoorW.PrintWords Go.Proofs.YthcpdhniakpbaaaDoorW.PrintLast Go.Proofs.YthcpdhniakpbaaaDoorW.PrintMore
attribute [local go_sem] max2_int min2_int max_two min_two max_three min_three max_four min_four
set_option linter.unusedVariables false
set_option linter.unusedSimpArgs false
def normal_Is.f (a0 : ByteArray) : Option (Bool) := (normal_Compose.f a0).bind fun t605 => (some (t605.toList == a0.toList))
set_option maxHeartbeats 8000000 in
set_option maxRecDepth 100000 in
theorem normal_Is.calls (a0 : ByteArray) (r : Bool) (w : World) (hG : GT1 w) (h : normal_Is.f a0 = some r) :
    Calls Tryd.prog 42 #[.string a0] w fun e w' => e = .returned (.bool r) ∧ Below w.heap.size w w' := by
  have HG := Aside0.mk hG
  clear hG
  have HB := Aside0.mk (Below.refl w.heap.size w)
  have H : ((normal_Compose.f a0).bind fun t605 => (some (t605.toList == a0.toList))) = some r := h
  clear h
  replace H := Option.bind_eq_some_iff.mp H
  obtain ⟨t605, A20, H⟩ := H
  replace H : (some (t605.toList == a0.toList)) = some r := H
  have A2 := Aside0.mk A20
  clear A20
  obtain rfl := Option.some.inj H
  go_enter Tryd.func42, Tryd.ntmps42
  go_wp2_with (first | ((with_reducible refine gate_callee (f := 40) rfl ?_); refine goesL_ (some 4) rfl rfl Tryd.func40 (by kernel_rfl) rfl #[.string a0] rfl (by (try simp only [List.map_toArray, List.map_cons, List.map_nil]); first | done | rfl | (simp only [List.length_drop, List.length_take]; rfl)) ?_; (with_reducible refine (normal_Compose.calls a0 t605 _ ?side1 A2.out).mono ?_); (case side1 => exact GT1.below (HG.out) (by repeat (first | (with_reducible first | exact HB.out | apply below_alloc | apply pw_below_drewN | apply below_drew1) | exact HB.out))); rintro e w3 ⟨rfl, hb⟩; refine ⟨_, rfl, ?_⟩; have n0_ := Aside0.mk (below_step (by repeat (first | (with_reducible first | exact HB.out | apply below_alloc | apply pw_below_drewN | apply below_drew1) | exact HB.out)) hb); clear HB; have HB := n0_; clear n0_; (try clear hb); (try clear hb2); (try clear hk); (try clear hi)))
  go_ret
  exact ⟨by first | rfl | (simp [errW_none, errW_some] <;> rfl) | (simp [*, errW_none, errW_some] <;> rfl), by repeat (first | (with_reducible first | exact HB.out | apply below_alloc | apply pw_below_drewN | apply below_drew1) | exact HB.out)⟩
def bookplatelaw05_awake.f (k : Nat)  : Option (Bool) := (normal_Decompose.f (⟨#[195, 169]⟩ : ByteArray)).bind fun t606 => (if t606.toList = ([101, 204, 129] : List UInt8) then ((normal_Decompose.f (⟨#[239, 172, 129]⟩ : ByteArray)).bind fun t607 => (if t607.toList = ([102, 105] : List UInt8) then ((normal_Compose.f (⟨#[99, 204, 129, 204, 167]⟩ : ByteArray)).bind fun t608 => (if t608.toList = ([195, 167, 204, 129] : List UInt8) then ((normal_Is.f (⟨#[195, 169]⟩ : ByteArray)).bind fun t609 => (if t609 = true then ((normal_Equal.f k (⟨#[195, 169]⟩ : ByteArray) (⟨#[101, 204, 129]⟩ : ByteArray)).bind fun t610 => (if t610 = true then ((normal_Strip.f (⟨#[195, 169]⟩ : ByteArray)).bind fun t611 => (if t611.toList = ([101] : List UInt8) then ((normal_Marks.f k (⟨#[195, 169]⟩ : ByteArray)).bind fun t612 => (some (t612 == 1))) else (some false))) else (some false))) else (some false))) else (some false))) else (some false))) else (some false))
set_option maxHeartbeats 8000000 in
set_option maxRecDepth 100000 in
theorem bookplatelaw05_awake.calls (k : Nat)  (r : Bool) (w : World) (hG : GT1 w) (h : bookplatelaw05_awake.f k  = some r) :
    Calls Tryd.prog 37 #[] w fun e w' => e = .returned (.bool r) ∧ Below w.heap.size w w' := by
  have HG := Aside0.mk hG
  clear hG
  have HB := Aside0.mk (Below.refl w.heap.size w)
  have H : ((normal_Decompose.f (⟨#[195, 169]⟩ : ByteArray)).bind fun t606 => (if t606.toList = ([101, 204, 129] : List UInt8) then ((normal_Decompose.f (⟨#[239, 172, 129]⟩ : ByteArray)).bind fun t607 => (if t607.toList = ([102, 105] : List UInt8) then ((normal_Compose.f (⟨#[99, 204, 129, 204, 167]⟩ : ByteArray)).bind fun t608 => (if t608.toList = ([195, 167, 204, 129] : List UInt8) then ((normal_Is.f (⟨#[195, 169]⟩ : ByteArray)).bind fun t609 => (if t609 = true then ((normal_Equal.f k (⟨#[195, 169]⟩ : ByteArray) (⟨#[101, 204, 129]⟩ : ByteArray)).bind fun t610 => (if t610 = true then ((normal_Strip.f (⟨#[195, 169]⟩ : ByteArray)).bind fun t611 => (if t611.toList = ([101] : List UInt8) then ((normal_Marks.f k (⟨#[195, 169]⟩ : ByteArray)).bind fun t612 => (some (t612 == 1))) else (some false))) else (some false))) else (some false))) else (some false))) else (some false))) else (some false))) = some r := h
  clear h
  replace H := Option.bind_eq_some_iff.mp H
  obtain ⟨t606, A10, H⟩ := H
  replace H : (if t606.toList = ([101, 204, 129] : List UInt8) then ((normal_Decompose.f (⟨#[239, 172, 129]⟩ : ByteArray)).bind fun t607 => (if t607.toList = ([102, 105] : List UInt8) then ((normal_Compose.f (⟨#[99, 204, 129, 204, 167]⟩ : ByteArray)).bind fun t608 => (if t608.toList = ([195, 167, 204, 129] : List UInt8) then ((normal_Is.f (⟨#[195, 169]⟩ : ByteArray)).bind fun t609 => (if t609 = true then ((normal_Equal.f k (⟨#[195, 169]⟩ : ByteArray) (⟨#[101, 204, 129]⟩ : ByteArray)).bind fun t610 => (if t610 = true then ((normal_Strip.f (⟨#[195, 169]⟩ : ByteArray)).bind fun t611 => (if t611.toList = ([101] : List UInt8) then ((normal_Marks.f k (⟨#[195, 169]⟩ : ByteArray)).bind fun t612 => (some (t612 == 1))) else (some false))) else (some false))) else (some false))) else (some false))) else (some false))) else (some false)) = some r := H
  have A1 := Aside0.mk A10
  clear A10
  by_cases c2 : t606.toList = ([101, 204, 129] : List UInt8)
  · rw [if_pos c2] at H
    have c2b0 : (t606.toList == ([101, 204, 129] : List UInt8)) = true := beq_iff_eq.mpr c2
    have c2b1 : (t606.toList != ([101, 204, 129] : List UInt8)) = false := bne_eq_false_iff_eq.mpr c2
    clear c2
    replace H := Option.bind_eq_some_iff.mp H
    obtain ⟨t607, A30, H⟩ := H
    replace H : (if t607.toList = ([102, 105] : List UInt8) then ((normal_Compose.f (⟨#[99, 204, 129, 204, 167]⟩ : ByteArray)).bind fun t608 => (if t608.toList = ([195, 167, 204, 129] : List UInt8) then ((normal_Is.f (⟨#[195, 169]⟩ : ByteArray)).bind fun t609 => (if t609 = true then ((normal_Equal.f k (⟨#[195, 169]⟩ : ByteArray) (⟨#[101, 204, 129]⟩ : ByteArray)).bind fun t610 => (if t610 = true then ((normal_Strip.f (⟨#[195, 169]⟩ : ByteArray)).bind fun t611 => (if t611.toList = ([101] : List UInt8) then ((normal_Marks.f k (⟨#[195, 169]⟩ : ByteArray)).bind fun t612 => (some (t612 == 1))) else (some false))) else (some false))) else (some false))) else (some false))) else (some false)) = some r := H
    have A3 := Aside0.mk A30
    clear A30
    by_cases c4 : t607.toList = ([102, 105] : List UInt8)
    · rw [if_pos c4] at H
      have c4b0 : (t607.toList == ([102, 105] : List UInt8)) = true := beq_iff_eq.mpr c4
      have c4b1 : (t607.toList != ([102, 105] : List UInt8)) = false := bne_eq_false_iff_eq.mpr c4
      clear c4
      replace H := Option.bind_eq_some_iff.mp H
      obtain ⟨t608, A50, H⟩ := H
      replace H : (if t608.toList = ([195, 167, 204, 129] : List UInt8) then ((normal_Is.f (⟨#[195, 169]⟩ : ByteArray)).bind fun t609 => (if t609 = true then ((normal_Equal.f k (⟨#[195, 169]⟩ : ByteArray) (⟨#[101, 204, 129]⟩ : ByteArray)).bind fun t610 => (if t610 = true then ((normal_Strip.f (⟨#[195, 169]⟩ : ByteArray)).bind fun t611 => (if t611.toList = ([101] : List UInt8) then ((normal_Marks.f k (⟨#[195, 169]⟩ : ByteArray)).bind fun t612 => (some (t612 == 1))) else (some false))) else (some false))) else (some false))) else (some false)) = some r := H
      have A5 := Aside0.mk A50
      clear A50
      by_cases c6 : t608.toList = ([195, 167, 204, 129] : List UInt8)
      · rw [if_pos c6] at H
        have c6b0 : (t608.toList == ([195, 167, 204, 129] : List UInt8)) = true := beq_iff_eq.mpr c6
        have c6b1 : (t608.toList != ([195, 167, 204, 129] : List UInt8)) = false := bne_eq_false_iff_eq.mpr c6
        clear c6
        replace H := Option.bind_eq_some_iff.mp H
        obtain ⟨t609, A70, H⟩ := H
        replace H : (if t609 = true then ((normal_Equal.f k (⟨#[195, 169]⟩ : ByteArray) (⟨#[101, 204, 129]⟩ : ByteArray)).bind fun t610 => (if t610 = true then ((normal_Strip.f (⟨#[195, 169]⟩ : ByteArray)).bind fun t611 => (if t611.toList = ([101] : List UInt8) then ((normal_Marks.f k (⟨#[195, 169]⟩ : ByteArray)).bind fun t612 => (some (t612 == 1))) else (some false))) else (some false))) else (some false)) = some r := H
        have A7 := Aside0.mk A70
        clear A70
        by_cases c8 : t609 = true
        · subst c8
          have H1 : ((normal_Equal.f k (⟨#[195, 169]⟩ : ByteArray) (⟨#[101, 204, 129]⟩ : ByteArray)).bind fun t610 => (if t610 = true then ((normal_Strip.f (⟨#[195, 169]⟩ : ByteArray)).bind fun t611 => (if t611.toList = ([101] : List UInt8) then ((normal_Marks.f k (⟨#[195, 169]⟩ : ByteArray)).bind fun t612 => (some (t612 == 1))) else (some false))) else (some false))) = some r := by rw [if_pos rfl] at H; exact H
          clear H
          have H := H1
          clear H1
          replace H := Option.bind_eq_some_iff.mp H
          obtain ⟨t610, A90, H⟩ := H
          replace H : (if t610 = true then ((normal_Strip.f (⟨#[195, 169]⟩ : ByteArray)).bind fun t611 => (if t611.toList = ([101] : List UInt8) then ((normal_Marks.f k (⟨#[195, 169]⟩ : ByteArray)).bind fun t612 => (some (t612 == 1))) else (some false))) else (some false)) = some r := H
          have A9 := Aside0.mk A90
          clear A90
          by_cases c10 : t610 = true
          · subst c10
            have H1 : ((normal_Strip.f (⟨#[195, 169]⟩ : ByteArray)).bind fun t611 => (if t611.toList = ([101] : List UInt8) then ((normal_Marks.f k (⟨#[195, 169]⟩ : ByteArray)).bind fun t612 => (some (t612 == 1))) else (some false))) = some r := by rw [if_pos rfl] at H; exact H
            clear H
            have H := H1
            clear H1
            replace H := Option.bind_eq_some_iff.mp H
            obtain ⟨t611, A110, H⟩ := H
            replace H : (if t611.toList = ([101] : List UInt8) then ((normal_Marks.f k (⟨#[195, 169]⟩ : ByteArray)).bind fun t612 => (some (t612 == 1))) else (some false)) = some r := H
            have A11 := Aside0.mk A110
            clear A110
            by_cases c12 : t611.toList = ([101] : List UInt8)
            · rw [if_pos c12] at H
              have c12b0 : (t611.toList == ([101] : List UInt8)) = true := beq_iff_eq.mpr c12
              have c12b1 : (t611.toList != ([101] : List UInt8)) = false := bne_eq_false_iff_eq.mpr c12
              clear c12
              replace H := Option.bind_eq_some_iff.mp H
              obtain ⟨t612, A130, H⟩ := H
              replace H : (some (t612 == 1)) = some r := H
              have A13 := Aside0.mk A130
              clear A130
              obtain rfl := Option.some.inj H
              go_enter Tryd.func37, Tryd.ntmps37
              go_wp2_with (first | ((with_reducible refine gate_callee (f := 38) rfl ?_); refine goesL_ (some 1) rfl rfl Tryd.func38 (by kernel_rfl) rfl #[.string (⟨#[195, 169]⟩ : ByteArray)] rfl (by (try simp only [List.map_toArray, List.map_cons, List.map_nil]); first | done | rfl | (simp only [List.length_drop, List.length_take]; rfl)) ?_; (with_reducible refine (normal_Decompose.calls (⟨#[195, 169]⟩ : ByteArray) t606 _ ?side1 A1.out).mono ?_); (case side1 => exact GT1.below (HG.out) (by repeat (first | (with_reducible first | exact HB.out | apply below_alloc | apply pw_below_drewN | apply below_drew1) | exact HB.out))); rintro e w14 ⟨rfl, hb⟩; refine ⟨_, rfl, ?_⟩; have n0_ := Aside0.mk (below_step (by repeat (first | (with_reducible first | exact HB.out | apply below_alloc | apply pw_below_drewN | apply below_drew1) | exact HB.out)) hb); clear HB; have HB := n0_; clear n0_; (try clear hb); (try clear hb2); (try clear hk); (try clear hi)) | (go_at_call 38; (with_reducible refine (normal_Decompose.calls (⟨#[239, 172, 129]⟩ : ByteArray) t607 _ ?side1 A3.out).mono ?_); (case side1 => exact GT1.below (HG.out) (by repeat (first | (with_reducible first | exact HB.out | apply below_alloc | apply pw_below_drewN | apply below_drew1) | exact HB.out))); rintro e w15 ⟨rfl, hb⟩; have n0_ := Aside0.mk (below_step (by repeat (first | (with_reducible first | exact HB.out | apply below_alloc | apply pw_below_drewN | apply below_drew1) | exact HB.out)) hb); clear HB; have HB := n0_; clear n0_; (try clear hb); (try clear hb2); (try clear hk); (try clear hi)) | (go_at_call 40; (with_reducible refine (normal_Compose.calls (⟨#[99, 204, 129, 204, 167]⟩ : ByteArray) t608 _ ?side1 A5.out).mono ?_); (case side1 => exact GT1.below (HG.out) (by repeat (first | (with_reducible first | exact HB.out | apply below_alloc | apply pw_below_drewN | apply below_drew1) | exact HB.out))); rintro e w16 ⟨rfl, hb⟩; have n0_ := Aside0.mk (below_step (by repeat (first | (with_reducible first | exact HB.out | apply below_alloc | apply pw_below_drewN | apply below_drew1) | exact HB.out)) hb); clear HB; have HB := n0_; clear n0_; (try clear hb); (try clear hb2); (try clear hk); (try clear hi)) | (go_at_call 42; (with_reducible refine (normal_Is.calls (⟨#[195, 169]⟩ : ByteArray) true _ ?side1 A7.out).mono ?_); (case side1 => exact GT1.below (HG.out) (by repeat (first | (with_reducible first | exact HB.out | apply below_alloc | apply pw_below_drewN | apply below_drew1) | exact HB.out))); rintro e w17 ⟨rfl, hb⟩; have n0_ := Aside0.mk (below_step (by repeat (first | (with_reducible first | exact HB.out | apply below_alloc | apply pw_below_drewN | apply below_drew1) | exact HB.out)) hb); clear HB; have HB := n0_; clear n0_; (try clear hb); (try clear hb2); (try clear hk); (try clear hi)) | (go_at_call 48; (with_reducible refine (normal_Equal.calls k (⟨#[195, 169]⟩ : ByteArray) (⟨#[101, 204, 129]⟩ : ByteArray) true _ ?side1 A9.out).mono ?_); (case side1 => exact GT1.below (HG.out) (by repeat (first | (with_reducible first | exact HB.out | apply below_alloc | apply pw_below_drewN | apply below_drew1) | exact HB.out))); rintro e w18 ⟨rfl, hb⟩; have n0_ := Aside0.mk (below_step (by repeat (first | (with_reducible first | exact HB.out | apply below_alloc | apply pw_below_drewN | apply below_drew1) | exact HB.out)) hb); clear HB; have HB := n0_; clear n0_; (try clear hb); (try clear hb2); (try clear hk); (try clear hi)) | (go_at_call 44; (with_reducible refine (normal_Strip.calls (⟨#[195, 169]⟩ : ByteArray) t611 _ ?side1 A11.out).mono ?_); (case side1 => exact GT1.below (HG.out) (by repeat (first | (with_reducible first | exact HB.out | apply below_alloc | apply pw_below_drewN | apply below_drew1) | exact HB.out))); rintro e w19 ⟨rfl, hb⟩; have n0_ := Aside0.mk (below_step (by repeat (first | (with_reducible first | exact HB.out | apply below_alloc | apply pw_below_drewN | apply below_drew1) | exact HB.out)) hb); clear HB; have HB := n0_; clear n0_; (try clear hb); (try clear hb2); (try clear hk); (try clear hi)) | (go_at_call 46; (with_reducible refine (normal_Marks.calls k (⟨#[195, 169]⟩ : ByteArray) t612 _ ?side1 A13.out).mono ?_); (case side1 => exact GT1.below (HG.out) (by repeat (first | (with_reducible first | exact HB.out | apply below_alloc | apply pw_below_drewN | apply below_drew1) | exact HB.out))); rintro e w20 ⟨rfl, hb⟩; have n0_ := Aside0.mk (below_step (by repeat (first | (with_reducible first | exact HB.out | apply below_alloc | apply pw_below_drewN | apply below_drew1) | exact HB.out)) hb); clear HB; have HB := n0_; clear n0_; (try clear hb); (try clear hb2); (try clear hk); (try clear hi)))
              go_ret
              exact ⟨by first | rfl | (simp [errW_none, errW_some] <;> rfl) | (simp [*, errW_none, errW_some] <;> rfl), by repeat (first | (with_reducible first | exact HB.out | apply below_alloc | apply pw_below_drewN | apply below_drew1) | exact HB.out)⟩
            · rw [if_neg c12] at H
              have c12b0 : (t611.toList == ([101] : List UInt8)) = false := beq_eq_false_iff_ne.mpr c12
              have c12b1 : (t611.toList != ([101] : List UInt8)) = true := bne_iff_ne.mpr c12
              obtain rfl := Option.some.inj H
              go_enter Tryd.func37, Tryd.ntmps37
              go_wp2_with (first | ((with_reducible refine gate_callee (f := 38) rfl ?_); refine goesL_ (some 1) rfl rfl Tryd.func38 (by kernel_rfl) rfl #[.string (⟨#[195, 169]⟩ : ByteArray)] rfl (by (try simp only [List.map_toArray, List.map_cons, List.map_nil]); first | done | rfl | (simp only [List.length_drop, List.length_take]; rfl)) ?_; (with_reducible refine (normal_Decompose.calls (⟨#[195, 169]⟩ : ByteArray) t606 _ ?side1 A1.out).mono ?_); (case side1 => exact GT1.below (HG.out) (by repeat (first | (with_reducible first | exact HB.out | apply below_alloc | apply pw_below_drewN | apply below_drew1) | exact HB.out))); rintro e w21 ⟨rfl, hb⟩; refine ⟨_, rfl, ?_⟩; have n0_ := Aside0.mk (below_step (by repeat (first | (with_reducible first | exact HB.out | apply below_alloc | apply pw_below_drewN | apply below_drew1) | exact HB.out)) hb); clear HB; have HB := n0_; clear n0_; (try clear hb); (try clear hb2); (try clear hk); (try clear hi)) | (go_at_call 38; (with_reducible refine (normal_Decompose.calls (⟨#[239, 172, 129]⟩ : ByteArray) t607 _ ?side1 A3.out).mono ?_); (case side1 => exact GT1.below (HG.out) (by repeat (first | (with_reducible first | exact HB.out | apply below_alloc | apply pw_below_drewN | apply below_drew1) | exact HB.out))); rintro e w22 ⟨rfl, hb⟩; have n0_ := Aside0.mk (below_step (by repeat (first | (with_reducible first | exact HB.out | apply below_alloc | apply pw_below_drewN | apply below_drew1) | exact HB.out)) hb); clear HB; have HB := n0_; clear n0_; (try clear hb); (try clear hb2); (try clear hk); (try clear hi)) | (go_at_call 40; (with_reducible refine (normal_Compose.calls (⟨#[99, 204, 129, 204, 167]⟩ : ByteArray) t608 _ ?side1 A5.out).mono ?_); (case side1 => exact GT1.below (HG.out) (by repeat (first | (with_reducible first | exact HB.out | apply below_alloc | apply pw_below_drewN | apply below_drew1) | exact HB.out))); rintro e w23 ⟨rfl, hb⟩; have n0_ := Aside0.mk (below_step (by repeat (first | (with_reducible first | exact HB.out | apply below_alloc | apply pw_below_drewN | apply below_drew1) | exact HB.out)) hb); clear HB; have HB := n0_; clear n0_; (try clear hb); (try clear hb2); (try clear hk); (try clear hi)) | (go_at_call 42; (with_reducible refine (normal_Is.calls (⟨#[195, 169]⟩ : ByteArray) true _ ?side1 A7.out).mono ?_); (case side1 => exact GT1.below (HG.out) (by repeat (first | (with_reducible first | exact HB.out | apply below_alloc | apply pw_below_drewN | apply below_drew1) | exact HB.out))); rintro e w24 ⟨rfl, hb⟩; have n0_ := Aside0.mk (below_step (by repeat (first | (with_reducible first | exact HB.out | apply below_alloc | apply pw_below_drewN | apply below_drew1) | exact HB.out)) hb); clear HB; have HB := n0_; clear n0_; (try clear hb); (try clear hb2); (try clear hk); (try clear hi)) | (go_at_call 48; (with_reducible refine (normal_Equal.calls k (⟨#[195, 169]⟩ : ByteArray) (⟨#[101, 204, 129]⟩ : ByteArray) true _ ?side1 A9.out).mono ?_); (case side1 => exact GT1.below (HG.out) (by repeat (first | (with_reducible first | exact HB.out | apply below_alloc | apply pw_below_drewN | apply below_drew1) | exact HB.out))); rintro e w25 ⟨rfl, hb⟩; have n0_ := Aside0.mk (below_step (by repeat (first | (with_reducible first | exact HB.out | apply below_alloc | apply pw_below_drewN | apply below_drew1) | exact HB.out)) hb); clear HB; have HB := n0_; clear n0_; (try clear hb); (try clear hb2); (try clear hk); (try clear hi)) | (go_at_call 44; (with_reducible refine (normal_Strip.calls (⟨#[195, 169]⟩ : ByteArray) t611 _ ?side1 A11.out).mono ?_); (case side1 => exact GT1.below (HG.out) (by repeat (first | (with_reducible first | exact HB.out | apply below_alloc | apply pw_below_drewN | apply below_drew1) | exact HB.out))); rintro e w26 ⟨rfl, hb⟩; have n0_ := Aside0.mk (below_step (by repeat (first | (with_reducible first | exact HB.out | apply below_alloc | apply pw_below_drewN | apply below_drew1) | exact HB.out)) hb); clear HB; have HB := n0_; clear n0_; (try clear hb); (try clear hb2); (try clear hk); (try clear hi)))
              go_ret
              exact ⟨by first | rfl | (simp [errW_none, errW_some] <;> rfl) | (simp [*, errW_none, errW_some] <;> rfl), by repeat (first | (with_reducible first | exact HB.out | apply below_alloc | apply pw_below_drewN | apply below_drew1) | exact HB.out)⟩
          · replace c10 := Bool.eq_false_iff.mpr c10
            subst c10
            have H1 : (some false) = some r := by rw [if_neg (show ¬ (false = true) by decide)] at H; exact H
            clear H
            have H := H1
            clear H1
            obtain rfl := Option.some.inj H
            go_enter Tryd.func37, Tryd.ntmps37
            go_wp2_with (first | ((with_reducible refine gate_callee (f := 38) rfl ?_); refine goesL_ (some 1) rfl rfl Tryd.func38 (by kernel_rfl) rfl #[.string (⟨#[195, 169]⟩ : ByteArray)] rfl (by (try simp only [List.map_toArray, List.map_cons, List.map_nil]); first | done | rfl | (simp only [List.length_drop, List.length_take]; rfl)) ?_; (with_reducible refine (normal_Decompose.calls (⟨#[195, 169]⟩ : ByteArray) t606 _ ?side1 A1.out).mono ?_); (case side1 => exact GT1.below (HG.out) (by repeat (first | (with_reducible first | exact HB.out | apply below_alloc | apply pw_below_drewN | apply below_drew1) | exact HB.out))); rintro e w27 ⟨rfl, hb⟩; refine ⟨_, rfl, ?_⟩; have n0_ := Aside0.mk (below_step (by repeat (first | (with_reducible first | exact HB.out | apply below_alloc | apply pw_below_drewN | apply below_drew1) | exact HB.out)) hb); clear HB; have HB := n0_; clear n0_; (try clear hb); (try clear hb2); (try clear hk); (try clear hi)) | (go_at_call 38; (with_reducible refine (normal_Decompose.calls (⟨#[239, 172, 129]⟩ : ByteArray) t607 _ ?side1 A3.out).mono ?_); (case side1 => exact GT1.below (HG.out) (by repeat (first | (with_reducible first | exact HB.out | apply below_alloc | apply pw_below_drewN | apply below_drew1) | exact HB.out))); rintro e w28 ⟨rfl, hb⟩; have n0_ := Aside0.mk (below_step (by repeat (first | (with_reducible first | exact HB.out | apply below_alloc | apply pw_below_drewN | apply below_drew1) | exact HB.out)) hb); clear HB; have HB := n0_; clear n0_; (try clear hb); (try clear hb2); (try clear hk); (try clear hi)) | (go_at_call 40; (with_reducible refine (normal_Compose.calls (⟨#[99, 204, 129, 204, 167]⟩ : ByteArray) t608 _ ?side1 A5.out).mono ?_); (case side1 => exact GT1.below (HG.out) (by repeat (first | (with_reducible first | exact HB.out | apply below_alloc | apply pw_below_drewN | apply below_drew1) | exact HB.out))); rintro e w29 ⟨rfl, hb⟩; have n0_ := Aside0.mk (below_step (by repeat (first | (with_reducible first | exact HB.out | apply below_alloc | apply pw_below_drewN | apply below_drew1) | exact HB.out)) hb); clear HB; have HB := n0_; clear n0_; (try clear hb); (try clear hb2); (try clear hk); (try clear hi)) | (go_at_call 42; (with_reducible refine (normal_Is.calls (⟨#[195, 169]⟩ : ByteArray) true _ ?side1 A7.out).mono ?_); (case side1 => exact GT1.below (HG.out) (by repeat (first | (with_reducible first | exact HB.out | apply below_alloc | apply pw_below_drewN | apply below_drew1) | exact HB.out))); rintro e w30 ⟨rfl, hb⟩; have n0_ := Aside0.mk (below_step (by repeat (first | (with_reducible first | exact HB.out | apply below_alloc | apply pw_below_drewN | apply below_drew1) | exact HB.out)) hb); clear HB; have HB := n0_; clear n0_; (try clear hb); (try clear hb2); (try clear hk); (try clear hi)) | (go_at_call 48; (with_reducible refine (normal_Equal.calls k (⟨#[195, 169]⟩ : ByteArray) (⟨#[101, 204, 129]⟩ : ByteArray) false _ ?side1 A9.out).mono ?_); (case side1 => exact GT1.below (HG.out) (by repeat (first | (with_reducible first | exact HB.out | apply below_alloc | apply pw_below_drewN | apply below_drew1) | exact HB.out))); rintro e w31 ⟨rfl, hb⟩; have n0_ := Aside0.mk (below_step (by repeat (first | (with_reducible first | exact HB.out | apply below_alloc | apply pw_below_drewN | apply below_drew1) | exact HB.out)) hb); clear HB; have HB := n0_; clear n0_; (try clear hb); (try clear hb2); (try clear hk); (try clear hi)))
            go_ret
            exact ⟨by first | rfl | (simp [errW_none, errW_some] <;> rfl) | (simp [*, errW_none, errW_some] <;> rfl), by repeat (first | (with_reducible first | exact HB.out | apply below_alloc | apply pw_below_drewN | apply below_drew1) | exact HB.out)⟩
        · replace c8 := Bool.eq_false_iff.mpr c8
          subst c8
          have H1 : (some false) = some r := by rw [if_neg (show ¬ (false = true) by decide)] at H; exact H
          clear H
          have H := H1
          clear H1
          obtain rfl := Option.some.inj H
          go_enter Tryd.func37, Tryd.ntmps37
          go_wp2_with (first | ((with_reducible refine gate_callee (f := 38) rfl ?_); refine goesL_ (some 1) rfl rfl Tryd.func38 (by kernel_rfl) rfl #[.string (⟨#[195, 169]⟩ : ByteArray)] rfl (by (try simp only [List.map_toArray, List.map_cons, List.map_nil]); first | done | rfl | (simp only [List.length_drop, List.length_take]; rfl)) ?_; (with_reducible refine (normal_Decompose.calls (⟨#[195, 169]⟩ : ByteArray) t606 _ ?side1 A1.out).mono ?_); (case side1 => exact GT1.below (HG.out) (by repeat (first | (with_reducible first | exact HB.out | apply below_alloc | apply pw_below_drewN | apply below_drew1) | exact HB.out))); rintro e w32 ⟨rfl, hb⟩; refine ⟨_, rfl, ?_⟩; have n0_ := Aside0.mk (below_step (by repeat (first | (with_reducible first | exact HB.out | apply below_alloc | apply pw_below_drewN | apply below_drew1) | exact HB.out)) hb); clear HB; have HB := n0_; clear n0_; (try clear hb); (try clear hb2); (try clear hk); (try clear hi)) | (go_at_call 38; (with_reducible refine (normal_Decompose.calls (⟨#[239, 172, 129]⟩ : ByteArray) t607 _ ?side1 A3.out).mono ?_); (case side1 => exact GT1.below (HG.out) (by repeat (first | (with_reducible first | exact HB.out | apply below_alloc | apply pw_below_drewN | apply below_drew1) | exact HB.out))); rintro e w33 ⟨rfl, hb⟩; have n0_ := Aside0.mk (below_step (by repeat (first | (with_reducible first | exact HB.out | apply below_alloc | apply pw_below_drewN | apply below_drew1) | exact HB.out)) hb); clear HB; have HB := n0_; clear n0_; (try clear hb); (try clear hb2); (try clear hk); (try clear hi)) | (go_at_call 40; (with_reducible refine (normal_Compose.calls (⟨#[99, 204, 129, 204, 167]⟩ : ByteArray) t608 _ ?side1 A5.out).mono ?_); (case side1 => exact GT1.below (HG.out) (by repeat (first | (with_reducible first | exact HB.out | apply below_alloc | apply pw_below_drewN | apply below_drew1) | exact HB.out))); rintro e w34 ⟨rfl, hb⟩; have n0_ := Aside0.mk (below_step (by repeat (first | (with_reducible first | exact HB.out | apply below_alloc | apply pw_below_drewN | apply below_drew1) | exact HB.out)) hb); clear HB; have HB := n0_; clear n0_; (try clear hb); (try clear hb2); (try clear hk); (try clear hi)) | (go_at_call 42; (with_reducible refine (normal_Is.calls (⟨#[195, 169]⟩ : ByteArray) false _ ?side1 A7.out).mono ?_); (case side1 => exact GT1.below (HG.out) (by repeat (first | (with_reducible first | exact HB.out | apply below_alloc | apply pw_below_drewN | apply below_drew1) | exact HB.out))); rintro e w35 ⟨rfl, hb⟩; have n0_ := Aside0.mk (below_step (by repeat (first | (with_reducible first | exact HB.out | apply below_alloc | apply pw_below_drewN | apply below_drew1) | exact HB.out)) hb); clear HB; have HB := n0_; clear n0_; (try clear hb); (try clear hb2); (try clear hk); (try clear hi)))
          go_ret
          exact ⟨by first | rfl | (simp [errW_none, errW_some] <;> rfl) | (simp [*, errW_none, errW_some] <;> rfl), by repeat (first | (with_reducible first | exact HB.out | apply below_alloc | apply pw_below_drewN | apply below_drew1) | exact HB.out)⟩
      · rw [if_neg c6] at H
        have c6b0 : (t608.toList == ([195, 167, 204, 129] : List UInt8)) = false := beq_eq_false_iff_ne.mpr c6
        have c6b1 : (t608.toList != ([195, 167, 204, 129] : List UInt8)) = true := bne_iff_ne.mpr c6
        obtain rfl := Option.some.inj H
        go_enter Tryd.func37, Tryd.ntmps37
        go_wp2_with (first | ((with_reducible refine gate_callee (f := 38) rfl ?_); refine goesL_ (some 1) rfl rfl Tryd.func38 (by kernel_rfl) rfl #[.string (⟨#[195, 169]⟩ : ByteArray)] rfl (by (try simp only [List.map_toArray, List.map_cons, List.map_nil]); first | done | rfl | (simp only [List.length_drop, List.length_take]; rfl)) ?_; (with_reducible refine (normal_Decompose.calls (⟨#[195, 169]⟩ : ByteArray) t606 _ ?side1 A1.out).mono ?_); (case side1 => exact GT1.below (HG.out) (by repeat (first | (with_reducible first | exact HB.out | apply below_alloc | apply pw_below_drewN | apply below_drew1) | exact HB.out))); rintro e w36 ⟨rfl, hb⟩; refine ⟨_, rfl, ?_⟩; have n0_ := Aside0.mk (below_step (by repeat (first | (with_reducible first | exact HB.out | apply below_alloc | apply pw_below_drewN | apply below_drew1) | exact HB.out)) hb); clear HB; have HB := n0_; clear n0_; (try clear hb); (try clear hb2); (try clear hk); (try clear hi)) | (go_at_call 38; (with_reducible refine (normal_Decompose.calls (⟨#[239, 172, 129]⟩ : ByteArray) t607 _ ?side1 A3.out).mono ?_); (case side1 => exact GT1.below (HG.out) (by repeat (first | (with_reducible first | exact HB.out | apply below_alloc | apply pw_below_drewN | apply below_drew1) | exact HB.out))); rintro e w37 ⟨rfl, hb⟩; have n0_ := Aside0.mk (below_step (by repeat (first | (with_reducible first | exact HB.out | apply below_alloc | apply pw_below_drewN | apply below_drew1) | exact HB.out)) hb); clear HB; have HB := n0_; clear n0_; (try clear hb); (try clear hb2); (try clear hk); (try clear hi)) | (go_at_call 40; (with_reducible refine (normal_Compose.calls (⟨#[99, 204, 129, 204, 167]⟩ : ByteArray) t608 _ ?side1 A5.out).mono ?_); (case side1 => exact GT1.below (HG.out) (by repeat (first | (with_reducible first | exact HB.out | apply below_alloc | apply pw_below_drewN | apply below_drew1) | exact HB.out))); rintro e w38 ⟨rfl, hb⟩; have n0_ := Aside0.mk (below_step (by repeat (first | (with_reducible first | exact HB.out | apply below_alloc | apply pw_below_drewN | apply below_drew1) | exact HB.out)) hb); clear HB; have HB := n0_; clear n0_; (try clear hb); (try clear hb2); (try clear hk); (try clear hi)))
        go_ret
        exact ⟨by first | rfl | (simp [errW_none, errW_some] <;> rfl) | (simp [*, errW_none, errW_some] <;> rfl), by repeat (first | (with_reducible first | exact HB.out | apply below_alloc | apply pw_below_drewN | apply below_drew1) | exact HB.out)⟩
    · rw [if_neg c4] at H
      have c4b0 : (t607.toList == ([102, 105] : List UInt8)) = false := beq_eq_false_iff_ne.mpr c4
      have c4b1 : (t607.toList != ([102, 105] : List UInt8)) = true := bne_iff_ne.mpr c4
      obtain rfl := Option.some.inj H
      go_enter Tryd.func37, Tryd.ntmps37
      go_wp2_with (first | ((with_reducible refine gate_callee (f := 38) rfl ?_); refine goesL_ (some 1) rfl rfl Tryd.func38 (by kernel_rfl) rfl #[.string (⟨#[195, 169]⟩ : ByteArray)] rfl (by (try simp only [List.map_toArray, List.map_cons, List.map_nil]); first | done | rfl | (simp only [List.length_drop, List.length_take]; rfl)) ?_; (with_reducible refine (normal_Decompose.calls (⟨#[195, 169]⟩ : ByteArray) t606 _ ?side1 A1.out).mono ?_); (case side1 => exact GT1.below (HG.out) (by repeat (first | (with_reducible first | exact HB.out | apply below_alloc | apply pw_below_drewN | apply below_drew1) | exact HB.out))); rintro e w39 ⟨rfl, hb⟩; refine ⟨_, rfl, ?_⟩; have n0_ := Aside0.mk (below_step (by repeat (first | (with_reducible first | exact HB.out | apply below_alloc | apply pw_below_drewN | apply below_drew1) | exact HB.out)) hb); clear HB; have HB := n0_; clear n0_; (try clear hb); (try clear hb2); (try clear hk); (try clear hi)) | (go_at_call 38; (with_reducible refine (normal_Decompose.calls (⟨#[239, 172, 129]⟩ : ByteArray) t607 _ ?side1 A3.out).mono ?_); (case side1 => exact GT1.below (HG.out) (by repeat (first | (with_reducible first | exact HB.out | apply below_alloc | apply pw_below_drewN | apply below_drew1) | exact HB.out))); rintro e w40 ⟨rfl, hb⟩; have n0_ := Aside0.mk (below_step (by repeat (first | (with_reducible first | exact HB.out | apply below_alloc | apply pw_below_drewN | apply below_drew1) | exact HB.out)) hb); clear HB; have HB := n0_; clear n0_; (try clear hb); (try clear hb2); (try clear hk); (try clear hi)))
      go_ret
      exact ⟨by first | rfl | (simp [errW_none, errW_some] <;> rfl) | (simp [*, errW_none, errW_some] <;> rfl), by repeat (first | (with_reducible first | exact HB.out | apply below_alloc | apply pw_below_drewN | apply below_drew1) | exact HB.out)⟩
  · rw [if_neg c2] at H
    have c2b0 : (t606.toList == ([101, 204, 129] : List UInt8)) = false := beq_eq_false_iff_ne.mpr c2
    have c2b1 : (t606.toList != ([101, 204, 129] : List UInt8)) = true := bne_iff_ne.mpr c2
    obtain rfl := Option.some.inj H
    go_enter Tryd.func37, Tryd.ntmps37
    go_wp2_with (first | ((with_reducible refine gate_callee (f := 38) rfl ?_); refine goesL_ (some 1) rfl rfl Tryd.func38 (by kernel_rfl) rfl #[.string (⟨#[195, 169]⟩ : ByteArray)] rfl (by (try simp only [List.map_toArray, List.map_cons, List.map_nil]); first | done | rfl | (simp only [List.length_drop, List.length_take]; rfl)) ?_; (with_reducible refine (normal_Decompose.calls (⟨#[195, 169]⟩ : ByteArray) t606 _ ?side1 A1.out).mono ?_); (case side1 => exact GT1.below (HG.out) (by repeat (first | (with_reducible first | exact HB.out | apply below_alloc | apply pw_below_drewN | apply below_drew1) | exact HB.out))); rintro e w41 ⟨rfl, hb⟩; refine ⟨_, rfl, ?_⟩; have n0_ := Aside0.mk (below_step (by repeat (first | (with_reducible first | exact HB.out | apply below_alloc | apply pw_below_drewN | apply below_drew1) | exact HB.out)) hb); clear HB; have HB := n0_; clear n0_; (try clear hb); (try clear hb2); (try clear hk); (try clear hi)))
    go_ret
    exact ⟨by first | rfl | (simp [errW_none, errW_some] <;> rfl) | (simp [*, errW_none, errW_some] <;> rfl), by repeat (first | (with_reducible first | exact HB.out | apply below_alloc | apply pw_below_drewN | apply below_drew1) | exact HB.out)⟩
def bookplatelaw05_NormalForms.f (k : Nat) (a0 : ByteArray) : Option (Bool) := (bookplatelaw05_awake.f k).bind fun t613 => (if t613 = true then (if (a0.size : Int) > 80 then (some true) else ((normal_Decompose.f a0).bind fun t614 => ((bookplateref05_Decompose.f k a0).bind fun t615 => (if t614.toList = t615.toList then ((normal_Compose.f a0).bind fun t616 => ((bookplateref05_Compose.f k a0).bind fun t617 => (if t616.toList = t617.toList then ((normal_Is.f a0).bind fun t618 => ((bookplateref05_Is.f k a0).bind fun t619 => (if (t618 == t619) = true then ((normal_Strip.f a0).bind fun t620 => ((bookplateref05_Strip.f k a0).bind fun t621 => (if t620.toList = t621.toList then ((normal_Marks.f k a0).bind fun t622 => ((bookplateref05_Marks.f k a0).bind fun t623 => (some (t622 == t623)))) else (some false)))) else (some false)))) else (some false)))) else (some false))))) else (some false))
set_option maxHeartbeats 8000000 in
set_option maxRecDepth 100000 in
theorem bookplatelaw05_NormalForms.calls (k : Nat) (a0 : ByteArray) (r : Bool) (w : World) (hG : GT1 w) (h : bookplatelaw05_NormalForms.f k a0 = some r) :
    Calls Tryd.prog 10 #[.string a0] w fun e w' => e = .returned (.bool r) ∧ Below w.heap.size w w' := by
  have HG := Aside0.mk hG
  clear hG
  have HB := Aside0.mk (Below.refl w.heap.size w)
  have H : ((bookplatelaw05_awake.f k).bind fun t613 => (if t613 = true then (if (a0.size : Int) > 80 then (some true) else ((normal_Decompose.f a0).bind fun t614 => ((bookplateref05_Decompose.f k a0).bind fun t615 => (if t614.toList = t615.toList then ((normal_Compose.f a0).bind fun t616 => ((bookplateref05_Compose.f k a0).bind fun t617 => (if t616.toList = t617.toList then ((normal_Is.f a0).bind fun t618 => ((bookplateref05_Is.f k a0).bind fun t619 => (if (t618 == t619) = true then ((normal_Strip.f a0).bind fun t620 => ((bookplateref05_Strip.f k a0).bind fun t621 => (if t620.toList = t621.toList then ((normal_Marks.f k a0).bind fun t622 => ((bookplateref05_Marks.f k a0).bind fun t623 => (some (t622 == t623)))) else (some false)))) else (some false)))) else (some false)))) else (some false))))) else (some false))) = some r := h
  clear h
  replace H := Option.bind_eq_some_iff.mp H
  obtain ⟨t613, A20, H⟩ := H
  replace H : (if t613 = true then (if (a0.size : Int) > 80 then (some true) else ((normal_Decompose.f a0).bind fun t614 => ((bookplateref05_Decompose.f k a0).bind fun t615 => (if t614.toList = t615.toList then ((normal_Compose.f a0).bind fun t616 => ((bookplateref05_Compose.f k a0).bind fun t617 => (if t616.toList = t617.toList then ((normal_Is.f a0).bind fun t618 => ((bookplateref05_Is.f k a0).bind fun t619 => (if (t618 == t619) = true then ((normal_Strip.f a0).bind fun t620 => ((bookplateref05_Strip.f k a0).bind fun t621 => (if t620.toList = t621.toList then ((normal_Marks.f k a0).bind fun t622 => ((bookplateref05_Marks.f k a0).bind fun t623 => (some (t622 == t623)))) else (some false)))) else (some false)))) else (some false)))) else (some false))))) else (some false)) = some r := H
  have A2 := Aside0.mk A20
  clear A20
  by_cases c3 : t613 = true
  · subst c3
    have H1 : (if (a0.size : Int) > 80 then (some true) else ((normal_Decompose.f a0).bind fun t614 => ((bookplateref05_Decompose.f k a0).bind fun t615 => (if t614.toList = t615.toList then ((normal_Compose.f a0).bind fun t616 => ((bookplateref05_Compose.f k a0).bind fun t617 => (if t616.toList = t617.toList then ((normal_Is.f a0).bind fun t618 => ((bookplateref05_Is.f k a0).bind fun t619 => (if (t618 == t619) = true then ((normal_Strip.f a0).bind fun t620 => ((bookplateref05_Strip.f k a0).bind fun t621 => (if t620.toList = t621.toList then ((normal_Marks.f k a0).bind fun t622 => ((bookplateref05_Marks.f k a0).bind fun t623 => (some (t622 == t623)))) else (some false)))) else (some false)))) else (some false)))) else (some false))))) = some r := by rw [if_pos rfl] at H; exact H
    clear H
    have H := H1
    clear H1
    by_cases c4 : (a0.size : Int) > 80
    · rw [if_pos c4] at H
      have c4b0 : decide (80 < (a0.size : Int)) = true := decide_eq_true c4
      have c4b1 : decide (80 < a0.size) = true := decide_eq_true (by omega)
      clear c4
      obtain rfl := Option.some.inj H
      go_enter Tryd.func10, Tryd.ntmps10
      go_wp2_with (first | ((with_reducible refine gate_callee (f := 37) rfl ?_); refine goesL_ (some 3) rfl rfl Tryd.func37 (by kernel_rfl) rfl #[] rfl (by (try simp only [List.map_toArray, List.map_cons, List.map_nil]); first | done | rfl | (simp only [List.length_drop, List.length_take]; rfl)) ?_; (with_reducible refine (bookplatelaw05_awake.calls k  true _ ?side1 A2.out).mono ?_); (case side1 => exact GT1.below (HG.out) (by repeat (first | (with_reducible first | exact HB.out | apply below_alloc | apply pw_below_drewN | apply below_drew1) | exact HB.out))); rintro e w5 ⟨rfl, hb⟩; refine ⟨_, rfl, ?_⟩; have n0_ := Aside0.mk (below_step (by repeat (first | (with_reducible first | exact HB.out | apply below_alloc | apply pw_below_drewN | apply below_drew1) | exact HB.out)) hb); clear HB; have HB := n0_; clear n0_; (try clear hb); (try clear hb2); (try clear hk); (try clear hi)))
      go_ret
      exact ⟨by first | rfl | (simp [errW_none, errW_some] <;> rfl) | (simp [*, errW_none, errW_some] <;> rfl), by repeat (first | (with_reducible first | exact HB.out | apply below_alloc | apply pw_below_drewN | apply below_drew1) | exact HB.out)⟩
    · rw [if_neg c4] at H
      have c4b0 : decide (80 < (a0.size : Int)) = false := decide_eq_false c4
      have c4b1 : decide (80 < a0.size) = false := decide_eq_false (by omega)
      clear c4
      replace H := Option.bind_eq_some_iff.mp H
      obtain ⟨t614, A60, H⟩ := H
      replace H : ((bookplateref05_Decompose.f k a0).bind fun t615 => (if t614.toList = t615.toList then ((normal_Compose.f a0).bind fun t616 => ((bookplateref05_Compose.f k a0).bind fun t617 => (if t616.toList = t617.toList then ((normal_Is.f a0).bind fun t618 => ((bookplateref05_Is.f k a0).bind fun t619 => (if (t618 == t619) = true then ((normal_Strip.f a0).bind fun t620 => ((bookplateref05_Strip.f k a0).bind fun t621 => (if t620.toList = t621.toList then ((normal_Marks.f k a0).bind fun t622 => ((bookplateref05_Marks.f k a0).bind fun t623 => (some (t622 == t623)))) else (some false)))) else (some false)))) else (some false)))) else (some false))) = some r := H
      have A6 := Aside0.mk A60
      clear A60
      replace H := Option.bind_eq_some_iff.mp H
      obtain ⟨t615, A70, H⟩ := H
      replace H : (if t614.toList = t615.toList then ((normal_Compose.f a0).bind fun t616 => ((bookplateref05_Compose.f k a0).bind fun t617 => (if t616.toList = t617.toList then ((normal_Is.f a0).bind fun t618 => ((bookplateref05_Is.f k a0).bind fun t619 => (if (t618 == t619) = true then ((normal_Strip.f a0).bind fun t620 => ((bookplateref05_Strip.f k a0).bind fun t621 => (if t620.toList = t621.toList then ((normal_Marks.f k a0).bind fun t622 => ((bookplateref05_Marks.f k a0).bind fun t623 => (some (t622 == t623)))) else (some false)))) else (some false)))) else (some false)))) else (some false)) = some r := H
      have A7 := Aside0.mk A70
      clear A70
      by_cases c8 : t614.toList = t615.toList
      · rw [if_pos c8] at H
        have c8b0 : (t614.toList == t615.toList) = true := beq_iff_eq.mpr c8
        have c8b1 : (t614.toList != t615.toList) = false := bne_eq_false_iff_eq.mpr c8
        clear c8
        replace H := Option.bind_eq_some_iff.mp H
        obtain ⟨t616, A90, H⟩ := H
        replace H : ((bookplateref05_Compose.f k a0).bind fun t617 => (if t616.toList = t617.toList then ((normal_Is.f a0).bind fun t618 => ((bookplateref05_Is.f k a0).bind fun t619 => (if (t618 == t619) = true then ((normal_Strip.f a0).bind fun t620 => ((bookplateref05_Strip.f k a0).bind fun t621 => (if t620.toList = t621.toList then ((normal_Marks.f k a0).bind fun t622 => ((bookplateref05_Marks.f k a0).bind fun t623 => (some (t622 == t623)))) else (some false)))) else (some false)))) else (some false))) = some r := H
        have A9 := Aside0.mk A90
        clear A90
        replace H := Option.bind_eq_some_iff.mp H
        obtain ⟨t617, A100, H⟩ := H
        replace H : (if t616.toList = t617.toList then ((normal_Is.f a0).bind fun t618 => ((bookplateref05_Is.f k a0).bind fun t619 => (if (t618 == t619) = true then ((normal_Strip.f a0).bind fun t620 => ((bookplateref05_Strip.f k a0).bind fun t621 => (if t620.toList = t621.toList then ((normal_Marks.f k a0).bind fun t622 => ((bookplateref05_Marks.f k a0).bind fun t623 => (some (t622 == t623)))) else (some false)))) else (some false)))) else (some false)) = some r := H
        have A10 := Aside0.mk A100
        clear A100
        by_cases c11 : t616.toList = t617.toList
        · rw [if_pos c11] at H
          have c11b0 : (t616.toList == t617.toList) = true := beq_iff_eq.mpr c11
          have c11b1 : (t616.toList != t617.toList) = false := bne_eq_false_iff_eq.mpr c11
          clear c11
          replace H := Option.bind_eq_some_iff.mp H
          obtain ⟨t618, A120, H⟩ := H
          replace H : ((bookplateref05_Is.f k a0).bind fun t619 => (if (t618 == t619) = true then ((normal_Strip.f a0).bind fun t620 => ((bookplateref05_Strip.f k a0).bind fun t621 => (if t620.toList = t621.toList then ((normal_Marks.f k a0).bind fun t622 => ((bookplateref05_Marks.f k a0).bind fun t623 => (some (t622 == t623)))) else (some false)))) else (some false))) = some r := H
          have A12 := Aside0.mk A120
          clear A120
          replace H := Option.bind_eq_some_iff.mp H
          obtain ⟨t619, A130, H⟩ := H
          replace H : (if (t618 == t619) = true then ((normal_Strip.f a0).bind fun t620 => ((bookplateref05_Strip.f k a0).bind fun t621 => (if t620.toList = t621.toList then ((normal_Marks.f k a0).bind fun t622 => ((bookplateref05_Marks.f k a0).bind fun t623 => (some (t622 == t623)))) else (some false)))) else (some false)) = some r := H
          have A13 := Aside0.mk A130
          clear A130
          by_cases c14 : (t618 == t619) = true
          · rw [if_pos c14] at H
            have c14b0 : (t618 == t619) = true := c14
            (try (have c14b1 : decide (t618 = t619) = true := by simpa using c14))
            (try (have c14b2 : (t618 == t619) = true := by simpa using c14))
            clear c14
            replace H := Option.bind_eq_some_iff.mp H
            obtain ⟨t620, A150, H⟩ := H
            replace H : ((bookplateref05_Strip.f k a0).bind fun t621 => (if t620.toList = t621.toList then ((normal_Marks.f k a0).bind fun t622 => ((bookplateref05_Marks.f k a0).bind fun t623 => (some (t622 == t623)))) else (some false))) = some r := H
            have A15 := Aside0.mk A150
            clear A150
            replace H := Option.bind_eq_some_iff.mp H
            obtain ⟨t621, A160, H⟩ := H
            replace H : (if t620.toList = t621.toList then ((normal_Marks.f k a0).bind fun t622 => ((bookplateref05_Marks.f k a0).bind fun t623 => (some (t622 == t623)))) else (some false)) = some r := H
            have A16 := Aside0.mk A160
            clear A160
            by_cases c17 : t620.toList = t621.toList
            · rw [if_pos c17] at H
              have c17b0 : (t620.toList == t621.toList) = true := beq_iff_eq.mpr c17
              have c17b1 : (t620.toList != t621.toList) = false := bne_eq_false_iff_eq.mpr c17
              clear c17
              replace H := Option.bind_eq_some_iff.mp H
              obtain ⟨t622, A180, H⟩ := H
              replace H : ((bookplateref05_Marks.f k a0).bind fun t623 => (some (t622 == t623))) = some r := H
              have A18 := Aside0.mk A180
              clear A180
              replace H := Option.bind_eq_some_iff.mp H
              obtain ⟨t623, A190, H⟩ := H
              replace H : (some (t622 == t623)) = some r := H
              have A19 := Aside0.mk A190
              clear A190
              obtain rfl := Option.some.inj H
              go_enter Tryd.func10, Tryd.ntmps10
              go_wp2_with (first | ((with_reducible refine gate_callee (f := 37) rfl ?_); refine goesL_ (some 3) rfl rfl Tryd.func37 (by kernel_rfl) rfl #[] rfl (by (try simp only [List.map_toArray, List.map_cons, List.map_nil]); first | done | rfl | (simp only [List.length_drop, List.length_take]; rfl)) ?_; (with_reducible refine (bookplatelaw05_awake.calls k  true _ ?side1 A2.out).mono ?_); (case side1 => exact GT1.below (HG.out) (by repeat (first | (with_reducible first | exact HB.out | apply below_alloc | apply pw_below_drewN | apply below_drew1) | exact HB.out))); rintro e w20 ⟨rfl, hb⟩; refine ⟨_, rfl, ?_⟩; have n0_ := Aside0.mk (below_step (by repeat (first | (with_reducible first | exact HB.out | apply below_alloc | apply pw_below_drewN | apply below_drew1) | exact HB.out)) hb); clear HB; have HB := n0_; clear n0_; (try clear hb); (try clear hb2); (try clear hk); (try clear hi)) | ((with_reducible refine gate_callee (f := 38) rfl ?_); refine goesL_ (some 9) rfl rfl Tryd.func38 (by kernel_rfl) rfl #[.string a0] rfl (by (try simp only [List.map_toArray, List.map_cons, List.map_nil]); first | done | rfl | (simp only [List.length_drop, List.length_take]; rfl)) ?_; (with_reducible refine (normal_Decompose.calls a0 t614 _ ?side1 A6.out).mono ?_); (case side1 => exact GT1.below (HG.out) (by repeat (first | (with_reducible first | exact HB.out | apply below_alloc | apply pw_below_drewN | apply below_drew1) | exact HB.out))); rintro e w21 ⟨rfl, hb⟩; refine ⟨_, rfl, ?_⟩; have n0_ := Aside0.mk (below_step (by repeat (first | (with_reducible first | exact HB.out | apply below_alloc | apply pw_below_drewN | apply below_drew1) | exact HB.out)) hb); clear HB; have HB := n0_; clear n0_; (try clear hb); (try clear hb2); (try clear hk); (try clear hi)) | ((with_reducible refine gate_callee (f := 39) rfl ?_); refine goesL_ (some 11) rfl rfl Tryd.func39 (by kernel_rfl) rfl #[.string a0] rfl (by (try simp only [List.map_toArray, List.map_cons, List.map_nil]); first | done | rfl | (simp only [List.length_drop, List.length_take]; rfl)) ?_; (with_reducible refine (bookplateref05_Decompose.calls k a0 t615 _ A7.out).mono ?_); rintro e w22 ⟨rfl, hb⟩; refine ⟨_, rfl, ?_⟩; have n0_ := Aside0.mk (below_step (by repeat (first | (with_reducible first | exact HB.out | apply below_alloc | apply pw_below_drewN | apply below_drew1) | exact HB.out)) hb); clear HB; have HB := n0_; clear n0_; (try clear hb); (try clear hb2); (try clear hk); (try clear hi)) | (go_at_call 40; (with_reducible refine (normal_Compose.calls a0 t616 _ ?side1 A9.out).mono ?_); (case side1 => exact GT1.below (HG.out) (by repeat (first | (with_reducible first | exact HB.out | apply below_alloc | apply pw_below_drewN | apply below_drew1) | exact HB.out))); rintro e w23 ⟨rfl, hb⟩; have n0_ := Aside0.mk (below_step (by repeat (first | (with_reducible first | exact HB.out | apply below_alloc | apply pw_below_drewN | apply below_drew1) | exact HB.out)) hb); clear HB; have HB := n0_; clear n0_; (try clear hb); (try clear hb2); (try clear hk); (try clear hi)) | (go_at_call 41; (with_reducible refine (bookplateref05_Compose.calls k a0 t617 _ A10.out).mono ?_); rintro e w24 ⟨rfl, hb⟩; have n0_ := Aside0.mk (below_step (by repeat (first | (with_reducible first | exact HB.out | apply below_alloc | apply pw_below_drewN | apply below_drew1) | exact HB.out)) hb); clear HB; have HB := n0_; clear n0_; (try clear hb); (try clear hb2); (try clear hk); (try clear hi)) | (go_at_call 42; (with_reducible refine (normal_Is.calls a0 t618 _ ?side1 A12.out).mono ?_); (case side1 => exact GT1.below (HG.out) (by repeat (first | (with_reducible first | exact HB.out | apply below_alloc | apply pw_below_drewN | apply below_drew1) | exact HB.out))); rintro e w25 ⟨rfl, hb⟩; have n0_ := Aside0.mk (below_step (by repeat (first | (with_reducible first | exact HB.out | apply below_alloc | apply pw_below_drewN | apply below_drew1) | exact HB.out)) hb); clear HB; have HB := n0_; clear n0_; (try clear hb); (try clear hb2); (try clear hk); (try clear hi)) | (go_at_call 43; (with_reducible refine (bookplateref05_Is.calls k a0 t619 _ A13.out).mono ?_); rintro e w26 ⟨rfl, hb⟩; have n0_ := Aside0.mk (below_step (by repeat (first | (with_reducible first | exact HB.out | apply below_alloc | apply pw_below_drewN | apply below_drew1) | exact HB.out)) hb); clear HB; have HB := n0_; clear n0_; (try clear hb); (try clear hb2); (try clear hk); (try clear hi)) | (go_at_call 44; (with_reducible refine (normal_Strip.calls a0 t620 _ ?side1 A15.out).mono ?_); (case side1 => exact GT1.below (HG.out) (by repeat (first | (with_reducible first | exact HB.out | apply below_alloc | apply pw_below_drewN | apply below_drew1) | exact HB.out))); rintro e w27 ⟨rfl, hb⟩; have n0_ := Aside0.mk (below_step (by repeat (first | (with_reducible first | exact HB.out | apply below_alloc | apply pw_below_drewN | apply below_drew1) | exact HB.out)) hb); clear HB; have HB := n0_; clear n0_; (try clear hb); (try clear hb2); (try clear hk); (try clear hi)) | (go_at_call 45; (with_reducible refine (bookplateref05_Strip.calls k a0 t621 _ A16.out).mono ?_); rintro e w28 ⟨rfl, hb⟩; have n0_ := Aside0.mk (below_step (by repeat (first | (with_reducible first | exact HB.out | apply below_alloc | apply pw_below_drewN | apply below_drew1) | exact HB.out)) hb); clear HB; have HB := n0_; clear n0_; (try clear hb); (try clear hb2); (try clear hk); (try clear hi)) | (go_at_call 46; (with_reducible refine (normal_Marks.calls k a0 t622 _ ?side1 A18.out).mono ?_); (case side1 => exact GT1.below (HG.out) (by repeat (first | (with_reducible first | exact HB.out | apply below_alloc | apply pw_below_drewN | apply below_drew1) | exact HB.out))); rintro e w29 ⟨rfl, hb⟩; have n0_ := Aside0.mk (below_step (by repeat (first | (with_reducible first | exact HB.out | apply below_alloc | apply pw_below_drewN | apply below_drew1) | exact HB.out)) hb); clear HB; have HB := n0_; clear n0_; (try clear hb); (try clear hb2); (try clear hk); (try clear hi)) | (go_at_call 47; (with_reducible refine (bookplateref05_Marks.calls k a0 t623 _ A19.out).mono ?_); rintro e w30 ⟨rfl, hb⟩; have n0_ := Aside0.mk (below_step (by repeat (first | (with_reducible first | exact HB.out | apply below_alloc | apply pw_below_drewN | apply below_drew1) | exact HB.out)) hb); clear HB; have HB := n0_; clear n0_; (try clear hb); (try clear hb2); (try clear hk); (try clear hi)))
              go_ret
              exact ⟨by first | rfl | (simp [errW_none, errW_some] <;> rfl) | (simp [*, errW_none, errW_some] <;> rfl), by repeat (first | (with_reducible first | exact HB.out | apply below_alloc | apply pw_below_drewN | apply below_drew1) | exact HB.out)⟩
            · rw [if_neg c17] at H
              have c17b0 : (t620.toList == t621.toList) = false := beq_eq_false_iff_ne.mpr c17
              have c17b1 : (t620.toList != t621.toList) = true := bne_iff_ne.mpr c17
              obtain rfl := Option.some.inj H
              go_enter Tryd.func10, Tryd.ntmps10
              go_wp2_with (first | ((with_reducible refine gate_callee (f := 37) rfl ?_); refine goesL_ (some 3) rfl rfl Tryd.func37 (by kernel_rfl) rfl #[] rfl (by (try simp only [List.map_toArray, List.map_cons, List.map_nil]); first | done | rfl | (simp only [List.length_drop, List.length_take]; rfl)) ?_; (with_reducible refine (bookplatelaw05_awake.calls k  true _ ?side1 A2.out).mono ?_); (case side1 => exact GT1.below (HG.out) (by repeat (first | (with_reducible first | exact HB.out | apply below_alloc | apply pw_below_drewN | apply below_drew1) | exact HB.out))); rintro e w31 ⟨rfl, hb⟩; refine ⟨_, rfl, ?_⟩; have n0_ := Aside0.mk (below_step (by repeat (first | (with_reducible first | exact HB.out | apply below_alloc | apply pw_below_drewN | apply below_drew1) | exact HB.out)) hb); clear HB; have HB := n0_; clear n0_; (try clear hb); (try clear hb2); (try clear hk); (try clear hi)) | ((with_reducible refine gate_callee (f := 38) rfl ?_); refine goesL_ (some 9) rfl rfl Tryd.func38 (by kernel_rfl) rfl #[.string a0] rfl (by (try simp only [List.map_toArray, List.map_cons, List.map_nil]); first | done | rfl | (simp only [List.length_drop, List.length_take]; rfl)) ?_; (with_reducible refine (normal_Decompose.calls a0 t614 _ ?side1 A6.out).mono ?_); (case side1 => exact GT1.below (HG.out) (by repeat (first | (with_reducible first | exact HB.out | apply below_alloc | apply pw_below_drewN | apply below_drew1) | exact HB.out))); rintro e w32 ⟨rfl, hb⟩; refine ⟨_, rfl, ?_⟩; have n0_ := Aside0.mk (below_step (by repeat (first | (with_reducible first | exact HB.out | apply below_alloc | apply pw_below_drewN | apply below_drew1) | exact HB.out)) hb); clear HB; have HB := n0_; clear n0_; (try clear hb); (try clear hb2); (try clear hk); (try clear hi)) | ((with_reducible refine gate_callee (f := 39) rfl ?_); refine goesL_ (some 11) rfl rfl Tryd.func39 (by kernel_rfl) rfl #[.string a0] rfl (by (try simp only [List.map_toArray, List.map_cons, List.map_nil]); first | done | rfl | (simp only [List.length_drop, List.length_take]; rfl)) ?_; (with_reducible refine (bookplateref05_Decompose.calls k a0 t615 _ A7.out).mono ?_); rintro e w33 ⟨rfl, hb⟩; refine ⟨_, rfl, ?_⟩; have n0_ := Aside0.mk (below_step (by repeat (first | (with_reducible first | exact HB.out | apply below_alloc | apply pw_below_drewN | apply below_drew1) | exact HB.out)) hb); clear HB; have HB := n0_; clear n0_; (try clear hb); (try clear hb2); (try clear hk); (try clear hi)) | (go_at_call 40; (with_reducible refine (normal_Compose.calls a0 t616 _ ?side1 A9.out).mono ?_); (case side1 => exact GT1.below (HG.out) (by repeat (first | (with_reducible first | exact HB.out | apply below_alloc | apply pw_below_drewN | apply below_drew1) | exact HB.out))); rintro e w34 ⟨rfl, hb⟩; have n0_ := Aside0.mk (below_step (by repeat (first | (with_reducible first | exact HB.out | apply below_alloc | apply pw_below_drewN | apply below_drew1) | exact HB.out)) hb); clear HB; have HB := n0_; clear n0_; (try clear hb); (try clear hb2); (try clear hk); (try clear hi)) | (go_at_call 41; (with_reducible refine (bookplateref05_Compose.calls k a0 t617 _ A10.out).mono ?_); rintro e w35 ⟨rfl, hb⟩; have n0_ := Aside0.mk (below_step (by repeat (first | (with_reducible first | exact HB.out | apply below_alloc | apply pw_below_drewN | apply below_drew1) | exact HB.out)) hb); clear HB; have HB := n0_; clear n0_; (try clear hb); (try clear hb2); (try clear hk); (try clear hi)) | (go_at_call 42; (with_reducible refine (normal_Is.calls a0 t618 _ ?side1 A12.out).mono ?_); (case side1 => exact GT1.below (HG.out) (by repeat (first | (with_reducible first | exact HB.out | apply below_alloc | apply pw_below_drewN | apply below_drew1) | exact HB.out))); rintro e w36 ⟨rfl, hb⟩; have n0_ := Aside0.mk (below_step (by repeat (first | (with_reducible first | exact HB.out | apply below_alloc | apply pw_below_drewN | apply below_drew1) | exact HB.out)) hb); clear HB; have HB := n0_; clear n0_; (try clear hb); (try clear hb2); (try clear hk); (try clear hi)) | (go_at_call 43; (with_reducible refine (bookplateref05_Is.calls k a0 t619 _ A13.out).mono ?_); rintro e w37 ⟨rfl, hb⟩; have n0_ := Aside0.mk (below_step (by repeat (first | (with_reducible first | exact HB.out | apply below_alloc | apply pw_below_drewN | apply below_drew1) | exact HB.out)) hb); clear HB; have HB := n0_; clear n0_; (try clear hb); (try clear hb2); (try clear hk); (try clear hi)) | (go_at_call 44; (with_reducible refine (normal_Strip.calls a0 t620 _ ?side1 A15.out).mono ?_); (case side1 => exact GT1.below (HG.out) (by repeat (first | (with_reducible first | exact HB.out | apply below_alloc | apply pw_below_drewN | apply below_drew1) | exact HB.out))); rintro e w38 ⟨rfl, hb⟩; have n0_ := Aside0.mk (below_step (by repeat (first | (with_reducible first | exact HB.out | apply below_alloc | apply pw_below_drewN | apply below_drew1) | exact HB.out)) hb); clear HB; have HB := n0_; clear n0_; (try clear hb); (try clear hb2); (try clear hk); (try clear hi)) | (go_at_call 45; (with_reducible refine (bookplateref05_Strip.calls k a0 t621 _ A16.out).mono ?_); rintro e w39 ⟨rfl, hb⟩; have n0_ := Aside0.mk (below_step (by repeat (first | (with_reducible first | exact HB.out | apply below_alloc | apply pw_below_drewN | apply below_drew1) | exact HB.out)) hb); clear HB; have HB := n0_; clear n0_; (try clear hb); (try clear hb2); (try clear hk); (try clear hi)))
              go_ret
              exact ⟨by first | rfl | (simp [errW_none, errW_some] <;> rfl) | (simp [*, errW_none, errW_some] <;> rfl), by repeat (first | (with_reducible first | exact HB.out | apply below_alloc | apply pw_below_drewN | apply below_drew1) | exact HB.out)⟩
          · rw [if_neg c14] at H
            have c14b0 : (t618 == t619) = false := by simpa using c14
            (try (have c14b1 : decide (t618 = t619) = false := by simpa using c14))
            (try (have c14b2 : (t618 == t619) = false := by simpa using c14))
            (try (have c14b3 : ¬ (t618 = t619) := by simpa using c14))
            clear c14
            obtain rfl := Option.some.inj H
            go_enter Tryd.func10, Tryd.ntmps10
            go_wp2_with (first | ((with_reducible refine gate_callee (f := 37) rfl ?_); refine goesL_ (some 3) rfl rfl Tryd.func37 (by kernel_rfl) rfl #[] rfl (by (try simp only [List.map_toArray, List.map_cons, List.map_nil]); first | done | rfl | (simp only [List.length_drop, List.length_take]; rfl)) ?_; (with_reducible refine (bookplatelaw05_awake.calls k  true _ ?side1 A2.out).mono ?_); (case side1 => exact GT1.below (HG.out) (by repeat (first | (with_reducible first | exact HB.out | apply below_alloc | apply pw_below_drewN | apply below_drew1) | exact HB.out))); rintro e w40 ⟨rfl, hb⟩; refine ⟨_, rfl, ?_⟩; have n0_ := Aside0.mk (below_step (by repeat (first | (with_reducible first | exact HB.out | apply below_alloc | apply pw_below_drewN | apply below_drew1) | exact HB.out)) hb); clear HB; have HB := n0_; clear n0_; (try clear hb); (try clear hb2); (try clear hk); (try clear hi)) | ((with_reducible refine gate_callee (f := 38) rfl ?_); refine goesL_ (some 9) rfl rfl Tryd.func38 (by kernel_rfl) rfl #[.string a0] rfl (by (try simp only [List.map_toArray, List.map_cons, List.map_nil]); first | done | rfl | (simp only [List.length_drop, List.length_take]; rfl)) ?_; (with_reducible refine (normal_Decompose.calls a0 t614 _ ?side1 A6.out).mono ?_); (case side1 => exact GT1.below (HG.out) (by repeat (first | (with_reducible first | exact HB.out | apply below_alloc | apply pw_below_drewN | apply below_drew1) | exact HB.out))); rintro e w41 ⟨rfl, hb⟩; refine ⟨_, rfl, ?_⟩; have n0_ := Aside0.mk (below_step (by repeat (first | (with_reducible first | exact HB.out | apply below_alloc | apply pw_below_drewN | apply below_drew1) | exact HB.out)) hb); clear HB; have HB := n0_; clear n0_; (try clear hb); (try clear hb2); (try clear hk); (try clear hi)) | ((with_reducible refine gate_callee (f := 39) rfl ?_); refine goesL_ (some 11) rfl rfl Tryd.func39 (by kernel_rfl) rfl #[.string a0] rfl (by (try simp only [List.map_toArray, List.map_cons, List.map_nil]); first | done | rfl | (simp only [List.length_drop, List.length_take]; rfl)) ?_; (with_reducible refine (bookplateref05_Decompose.calls k a0 t615 _ A7.out).mono ?_); rintro e w42 ⟨rfl, hb⟩; refine ⟨_, rfl, ?_⟩; have n0_ := Aside0.mk (below_step (by repeat (first | (with_reducible first | exact HB.out | apply below_alloc | apply pw_below_drewN | apply below_drew1) | exact HB.out)) hb); clear HB; have HB := n0_; clear n0_; (try clear hb); (try clear hb2); (try clear hk); (try clear hi)) | (go_at_call 40; (with_reducible refine (normal_Compose.calls a0 t616 _ ?side1 A9.out).mono ?_); (case side1 => exact GT1.below (HG.out) (by repeat (first | (with_reducible first | exact HB.out | apply below_alloc | apply pw_below_drewN | apply below_drew1) | exact HB.out))); rintro e w43 ⟨rfl, hb⟩; have n0_ := Aside0.mk (below_step (by repeat (first | (with_reducible first | exact HB.out | apply below_alloc | apply pw_below_drewN | apply below_drew1) | exact HB.out)) hb); clear HB; have HB := n0_; clear n0_; (try clear hb); (try clear hb2); (try clear hk); (try clear hi)) | (go_at_call 41; (with_reducible refine (bookplateref05_Compose.calls k a0 t617 _ A10.out).mono ?_); rintro e w44 ⟨rfl, hb⟩; have n0_ := Aside0.mk (below_step (by repeat (first | (with_reducible first | exact HB.out | apply below_alloc | apply pw_below_drewN | apply below_drew1) | exact HB.out)) hb); clear HB; have HB := n0_; clear n0_; (try clear hb); (try clear hb2); (try clear hk); (try clear hi)) | (go_at_call 42; (with_reducible refine (normal_Is.calls a0 t618 _ ?side1 A12.out).mono ?_); (case side1 => exact GT1.below (HG.out) (by repeat (first | (with_reducible first | exact HB.out | apply below_alloc | apply pw_below_drewN | apply below_drew1) | exact HB.out))); rintro e w45 ⟨rfl, hb⟩; have n0_ := Aside0.mk (below_step (by repeat (first | (with_reducible first | exact HB.out | apply below_alloc | apply pw_below_drewN | apply below_drew1) | exact HB.out)) hb); clear HB; have HB := n0_; clear n0_; (try clear hb); (try clear hb2); (try clear hk); (try clear hi)) | (go_at_call 43; (with_reducible refine (bookplateref05_Is.calls k a0 t619 _ A13.out).mono ?_); rintro e w46 ⟨rfl, hb⟩; have n0_ := Aside0.mk (below_step (by repeat (first | (with_reducible first | exact HB.out | apply below_alloc | apply pw_below_drewN | apply below_drew1) | exact HB.out)) hb); clear HB; have HB := n0_; clear n0_; (try clear hb); (try clear hb2); (try clear hk); (try clear hi)))
            go_ret
            exact ⟨by first | rfl | (simp [errW_none, errW_some] <;> rfl) | (simp [*, errW_none, errW_some] <;> rfl), by repeat (first | (with_reducible first | exact HB.out | apply below_alloc | apply pw_below_drewN | apply below_drew1) | exact HB.out)⟩
        · rw [if_neg c11] at H
          have c11b0 : (t616.toList == t617.toList) = false := beq_eq_false_iff_ne.mpr c11
          have c11b1 : (t616.toList != t617.toList) = true := bne_iff_ne.mpr c11
          obtain rfl := Option.some.inj H
          go_enter Tryd.func10, Tryd.ntmps10
          go_wp2_with (first | ((with_reducible refine gate_callee (f := 37) rfl ?_); refine goesL_ (some 3) rfl rfl Tryd.func37 (by kernel_rfl) rfl #[] rfl (by (try simp only [List.map_toArray, List.map_cons, List.map_nil]); first | done | rfl | (simp only [List.length_drop, List.length_take]; rfl)) ?_; (with_reducible refine (bookplatelaw05_awake.calls k  true _ ?side1 A2.out).mono ?_); (case side1 => exact GT1.below (HG.out) (by repeat (first | (with_reducible first | exact HB.out | apply below_alloc | apply pw_below_drewN | apply below_drew1) | exact HB.out))); rintro e w47 ⟨rfl, hb⟩; refine ⟨_, rfl, ?_⟩; have n0_ := Aside0.mk (below_step (by repeat (first | (with_reducible first | exact HB.out | apply below_alloc | apply pw_below_drewN | apply below_drew1) | exact HB.out)) hb); clear HB; have HB := n0_; clear n0_; (try clear hb); (try clear hb2); (try clear hk); (try clear hi)) | ((with_reducible refine gate_callee (f := 38) rfl ?_); refine goesL_ (some 9) rfl rfl Tryd.func38 (by kernel_rfl) rfl #[.string a0] rfl (by (try simp only [List.map_toArray, List.map_cons, List.map_nil]); first | done | rfl | (simp only [List.length_drop, List.length_take]; rfl)) ?_; (with_reducible refine (normal_Decompose.calls a0 t614 _ ?side1 A6.out).mono ?_); (case side1 => exact GT1.below (HG.out) (by repeat (first | (with_reducible first | exact HB.out | apply below_alloc | apply pw_below_drewN | apply below_drew1) | exact HB.out))); rintro e w48 ⟨rfl, hb⟩; refine ⟨_, rfl, ?_⟩; have n0_ := Aside0.mk (below_step (by repeat (first | (with_reducible first | exact HB.out | apply below_alloc | apply pw_below_drewN | apply below_drew1) | exact HB.out)) hb); clear HB; have HB := n0_; clear n0_; (try clear hb); (try clear hb2); (try clear hk); (try clear hi)) | ((with_reducible refine gate_callee (f := 39) rfl ?_); refine goesL_ (some 11) rfl rfl Tryd.func39 (by kernel_rfl) rfl #[.string a0] rfl (by (try simp only [List.map_toArray, List.map_cons, List.map_nil]); first | done | rfl | (simp only [List.length_drop, List.length_take]; rfl)) ?_; (with_reducible refine (bookplateref05_Decompose.calls k a0 t615 _ A7.out).mono ?_); rintro e w49 ⟨rfl, hb⟩; refine ⟨_, rfl, ?_⟩; have n0_ := Aside0.mk (below_step (by repeat (first | (with_reducible first | exact HB.out | apply below_alloc | apply pw_below_drewN | apply below_drew1) | exact HB.out)) hb); clear HB; have HB := n0_; clear n0_; (try clear hb); (try clear hb2); (try clear hk); (try clear hi)) | (go_at_call 40; (with_reducible refine (normal_Compose.calls a0 t616 _ ?side1 A9.out).mono ?_); (case side1 => exact GT1.below (HG.out) (by repeat (first | (with_reducible first | exact HB.out | apply below_alloc | apply pw_below_drewN | apply below_drew1) | exact HB.out))); rintro e w50 ⟨rfl, hb⟩; have n0_ := Aside0.mk (below_step (by repeat (first | (with_reducible first | exact HB.out | apply below_alloc | apply pw_below_drewN | apply below_drew1) | exact HB.out)) hb); clear HB; have HB := n0_; clear n0_; (try clear hb); (try clear hb2); (try clear hk); (try clear hi)) | (go_at_call 41; (with_reducible refine (bookplateref05_Compose.calls k a0 t617 _ A10.out).mono ?_); rintro e w51 ⟨rfl, hb⟩; have n0_ := Aside0.mk (below_step (by repeat (first | (with_reducible first | exact HB.out | apply below_alloc | apply pw_below_drewN | apply below_drew1) | exact HB.out)) hb); clear HB; have HB := n0_; clear n0_; (try clear hb); (try clear hb2); (try clear hk); (try clear hi)))
          go_ret
          exact ⟨by first | rfl | (simp [errW_none, errW_some] <;> rfl) | (simp [*, errW_none, errW_some] <;> rfl), by repeat (first | (with_reducible first | exact HB.out | apply below_alloc | apply pw_below_drewN | apply below_drew1) | exact HB.out)⟩
      · rw [if_neg c8] at H
        have c8b0 : (t614.toList == t615.toList) = false := beq_eq_false_iff_ne.mpr c8
        have c8b1 : (t614.toList != t615.toList) = true := bne_iff_ne.mpr c8
        obtain rfl := Option.some.inj H
        go_enter Tryd.func10, Tryd.ntmps10
        go_wp2_with (first | ((with_reducible refine gate_callee (f := 37) rfl ?_); refine goesL_ (some 3) rfl rfl Tryd.func37 (by kernel_rfl) rfl #[] rfl (by (try simp only [List.map_toArray, List.map_cons, List.map_nil]); first | done | rfl | (simp only [List.length_drop, List.length_take]; rfl)) ?_; (with_reducible refine (bookplatelaw05_awake.calls k  true _ ?side1 A2.out).mono ?_); (case side1 => exact GT1.below (HG.out) (by repeat (first | (with_reducible first | exact HB.out | apply below_alloc | apply pw_below_drewN | apply below_drew1) | exact HB.out))); rintro e w52 ⟨rfl, hb⟩; refine ⟨_, rfl, ?_⟩; have n0_ := Aside0.mk (below_step (by repeat (first | (with_reducible first | exact HB.out | apply below_alloc | apply pw_below_drewN | apply below_drew1) | exact HB.out)) hb); clear HB; have HB := n0_; clear n0_; (try clear hb); (try clear hb2); (try clear hk); (try clear hi)) | ((with_reducible refine gate_callee (f := 38) rfl ?_); refine goesL_ (some 9) rfl rfl Tryd.func38 (by kernel_rfl) rfl #[.string a0] rfl (by (try simp only [List.map_toArray, List.map_cons, List.map_nil]); first | done | rfl | (simp only [List.length_drop, List.length_take]; rfl)) ?_; (with_reducible refine (normal_Decompose.calls a0 t614 _ ?side1 A6.out).mono ?_); (case side1 => exact GT1.below (HG.out) (by repeat (first | (with_reducible first | exact HB.out | apply below_alloc | apply pw_below_drewN | apply below_drew1) | exact HB.out))); rintro e w53 ⟨rfl, hb⟩; refine ⟨_, rfl, ?_⟩; have n0_ := Aside0.mk (below_step (by repeat (first | (with_reducible first | exact HB.out | apply below_alloc | apply pw_below_drewN | apply below_drew1) | exact HB.out)) hb); clear HB; have HB := n0_; clear n0_; (try clear hb); (try clear hb2); (try clear hk); (try clear hi)) | ((with_reducible refine gate_callee (f := 39) rfl ?_); refine goesL_ (some 11) rfl rfl Tryd.func39 (by kernel_rfl) rfl #[.string a0] rfl (by (try simp only [List.map_toArray, List.map_cons, List.map_nil]); first | done | rfl | (simp only [List.length_drop, List.length_take]; rfl)) ?_; (with_reducible refine (bookplateref05_Decompose.calls k a0 t615 _ A7.out).mono ?_); rintro e w54 ⟨rfl, hb⟩; refine ⟨_, rfl, ?_⟩; have n0_ := Aside0.mk (below_step (by repeat (first | (with_reducible first | exact HB.out | apply below_alloc | apply pw_below_drewN | apply below_drew1) | exact HB.out)) hb); clear HB; have HB := n0_; clear n0_; (try clear hb); (try clear hb2); (try clear hk); (try clear hi)))
        go_ret
        exact ⟨by first | rfl | (simp [errW_none, errW_some] <;> rfl) | (simp [*, errW_none, errW_some] <;> rfl), by repeat (first | (with_reducible first | exact HB.out | apply below_alloc | apply pw_below_drewN | apply below_drew1) | exact HB.out)⟩
  · replace c3 := Bool.eq_false_iff.mpr c3
    subst c3
    have H1 : (some false) = some r := by rw [if_neg (show ¬ (false = true) by decide)] at H; exact H
    clear H
    have H := H1
    clear H1
    obtain rfl := Option.some.inj H
    go_enter Tryd.func10, Tryd.ntmps10
    go_wp2_with (first | ((with_reducible refine gate_callee (f := 37) rfl ?_); refine goesL_ (some 3) rfl rfl Tryd.func37 (by kernel_rfl) rfl #[] rfl (by (try simp only [List.map_toArray, List.map_cons, List.map_nil]); first | done | rfl | (simp only [List.length_drop, List.length_take]; rfl)) ?_; (with_reducible refine (bookplatelaw05_awake.calls k  false _ ?side1 A2.out).mono ?_); (case side1 => exact GT1.below (HG.out) (by repeat (first | (with_reducible first | exact HB.out | apply below_alloc | apply pw_below_drewN | apply below_drew1) | exact HB.out))); rintro e w55 ⟨rfl, hb⟩; refine ⟨_, rfl, ?_⟩; have n0_ := Aside0.mk (below_step (by repeat (first | (with_reducible first | exact HB.out | apply below_alloc | apply pw_below_drewN | apply below_drew1) | exact HB.out)) hb); clear HB; have HB := n0_; clear n0_; (try clear hb); (try clear hb2); (try clear hk); (try clear hi)))
    go_ret
    exact ⟨by first | rfl | (simp [errW_none, errW_some] <;> rfl) | (simp [*, errW_none, errW_some] <;> rfl), by repeat (first | (with_reducible first | exact HB.out | apply below_alloc | apply pw_below_drewN | apply below_drew1) | exact HB.out)⟩
end Go.Proofs.YthcpdhniakpbaaaDoor.X
end

section
namespace Go.Proofs.YthcpdhniakpbaaaDoor.X
open Go.RowKit Go.Sort Go.Lib Go.Proofs.YthcpdhniakpbaaaDoorW.PrintWords Go.Proofs.YthcpdhniakpbaaaDoorW.PrintLast Go.Proofs.YthcpdhniakpbaaaDoorW.PrintMore
set_option linter.unusedVariables false
set_option linter.unusedSimpArgs false
theorem decomposed_eq (s : ByteArray) (hs : s.size ≤ 50000) : normal_decomposed.f s = some (decD (chs s), okS s) := by
  unfold normal_decomposed.f
  rw [if_pos (show DecOk s by unfold DecOk; omega)]
  rfl
theorem text_eq (l : List Int) (hl : l.length ≤ 1000000) (hh : ∀ c ∈ l, hasS c = true) : normal_text.f l = some (bytesOfL l) := by
  unfold normal_text.f repertoire_Encode.f
  rw [if_pos (show EncOk l from ⟨by omega, hh⟩)]
  rfl
theorem nlen (s : ByteArray) (hs : s.size ≤ 50000) : (decD (chs s)).length ≤ 100000 := by have := decD_len (chs s); have := chs_len s; omega
theorem dhas (s : ByteArray) : ∀ c ∈ decD (chs s), hasS c = true := decD_has (chs_has s)
theorem decompose_eq (s : ByteArray) (hs : s.size ≤ 50000) : normal_Decompose.f s = some (bytesOfL (decD (chs s))) := by
  unfold normal_Decompose.f
  rw [decomposed_eq s hs]
  simp only [Option.bind_some]
  rw [text_eq _ (by have := nlen s hs; omega) (dhas s)]
  rfl
theorem compS_has {l : List Int} (h : ∀ c ∈ l, hasS c = true) : ∀ c ∈ compS l, hasS c = true := compF_has _ _ h
theorem compS_len (l : List Int) : (compS l).length ≤ l.length := compF_len _ _
theorem compose_eq (s : ByteArray) (hs : s.size ≤ 50000) : normal_Compose.f s = some (bytesOfL (compS (decD (chs s)))) := by
  have := nlen s hs
  have := compS_len (decD (chs s))
  unfold normal_Compose.f
  rw [decomposed_eq s hs]
  simp only [Option.bind_some]
  rw [if_pos (show ComposeOk (decD (chs s)) from ⟨by omega, dhas s⟩), text_eq _ (by omega) (compS_has (dhas s))]
theorem strip_eq (s : ByteArray) (hs : s.size ≤ 50000) : normal_Strip.f s = some (bytesOfL (stripS (decD (chs s)))) := by
  have := nlen s hs
  have h2 : (stripS (decD (chs s))).length ≤ (decD (chs s)).length := List.length_filter_le _ _
  unfold normal_Strip.f
  rw [decomposed_eq s hs]
  simp only [Option.bind_some]
  exact text_eq (stripS (decD (chs s))) (by omega) (fun c hc => dhas s c (List.mem_filter.1 hc).1)
theorem is_eq (s : ByteArray) (hs : s.size ≤ 50000) : normal_Is.f s = some ((bytesOfL (compS (decD (chs s)))).toList == s.toList) := by
  unfold normal_Is.f
  rw [compose_eq s hs]
  rfl
theorem marks_go {d : List Int} (hh : ∀ x ∈ d, hasS x = true) (hd : d.length < 400000) : ∀ (n i q : Nat), d.length ≤ i + n → i ≤ d.length → q ≤ i →
    Ev (fun k => normal_Marks.l0 k (q : Int) d (d.length : Int) (i : Int)) ((q + cntM (d.drop i) : Nat) : Int) := by
  intro n
  have last : ∀ (i q : Nat), ¬ i < d.length → Ev (fun k => normal_Marks.l0 k (q : Int) d (d.length : Int) (i : Int)) ((q + cntM (d.drop i) : Nat) : Int) := by
    intro i q h1
    rw [List.drop_of_length_le (by omega)]
    refine Ev.step (g' := fun _ => some (q : Int)) (fun k => ?_) (Ev.const _)
    rw [normal_Marks.l0, if_neg (by omega)]
  induction n with
  | zero => intro i q h1 h2 h3; exact last i q (by omega)
  | succ n ih =>
    intro i q h1 h2 h3
    by_cases hi : i < d.length
    · have hdr : d.drop i = d[i] :: d.drop (i + 1) := List.drop_eq_getElem_cons hi
      have hx := hh _ (List.getElem_mem hi)
      obtain ⟨c, hc⟩ : ∃ c, d[i] = c := ⟨_, rfl⟩
      rw [hc] at hx hdr
      rw [hdr, cntM_cons]
      have hne : c ≠ 65533 := fun e => by rw [e, hasS_65533] at hx; exact absurd hx (by decide)
      have hev : Ev (fun k => normal_mark.f k c) (isMk c) := ⟨7, fun k hk => by
        obtain ⟨q, rfl⟩ : ∃ q, k = q + 7 := ⟨k - 7, by omega⟩
        exact isMark_eq hne q⟩
      refine Ev.step (g' := fun k => (normal_mark.f k c).bind fun t => if t = true then normal_Marks.l0 k ((q + 1 : Nat) : Int) d (d.length : Int) ((i + 1 : Nat) : Int) else normal_Marks.l0 k (q : Int) d (d.length : Int) ((i + 1 : Nat) : Int)) (fun k => ?_) (Ev.bind hev ?_)
      · rw [normal_Marks.l0, if_pos (by omega), if_pos (by omega), if_pos (by omega), rd_get hi, hc, w64n i (by omega), w64n q (by omega)]
      · cases hmk : isMk c with
        | true =>
          have := ih (i + 1) (q + 1) (by omega) (by omega) (by omega)
          rw [if_pos rfl, show q + (1 + cntM (d.drop (i + 1))) = q + 1 + cntM (d.drop (i + 1)) by omega]
          exact Ev.congr (fun k => if_pos rfl) this
        | false =>
          have := ih (i + 1) q (by omega) (by omega) (by omega)
          rw [if_neg (by decide), Nat.zero_add]
          exact Ev.congr (fun k => if_neg (by decide)) this
    · exact last i q hi
theorem ev_marks (s : ByteArray) (hs : s.size ≤ 50000) : Ev (fun k => normal_Marks.f k s) ((cntM (decD (chs s)) : Nat) : Int) := by
  have h1 := nlen s hs
  refine Ev.congr (g' := fun k => normal_Marks.l0 k 0 (decD (chs s)) ((decD (chs s)).length : Int) 0) (fun k => ?_) ?_
  · unfold normal_Marks.f
    rw [decomposed_eq s hs]
    rfl
  · have := marks_go (d := decD (chs s)) (dhas s) (by omega) (decD (chs s)).length 0 0 (by omega) (by omega) (by omega)
    rw [Nat.zero_add] at this
    exact this
theorem equal_go {a b : List Int} (hl : a.length = b.length) (hb : a.length < 1000000) : ∀ (n i : Nat), a.length ≤ i + n → i ≤ a.length →
    Ev (fun k => slices_Equal_int_int.l0 k a b (a.length : Int) (i : Int)) (decide (a.drop i = b.drop i)) := by
  intro n
  have last : ∀ i : Nat, ¬ i < a.length → Ev (fun k => slices_Equal_int_int.l0 k a b (a.length : Int) (i : Int)) (decide (a.drop i = b.drop i)) := by
    intro i h
    rw [List.drop_of_length_le (by omega), List.drop_of_length_le (by omega)]
    refine Ev.step (g' := fun _ => some true) (fun k => ?_) (Ev.const _)
    rw [slices_Equal_int_int.l0, if_neg (by omega)]
  induction n with
  | zero => intro i h1 h2; exact last i (by omega)
  | succ n ih =>
    intro i h1 h2
    by_cases hi : i < a.length
    · have hib : i < b.length := by omega
      have e1 : a.drop i = a[i] :: a.drop (i + 1) := List.drop_eq_getElem_cons hi
      have e2 : b.drop i = b[i] :: b.drop (i + 1) := List.drop_eq_getElem_cons hib
      rw [e1, e2]
      by_cases he : a[i] = b[i]
      · have e : decide (a[i] :: a.drop (i + 1) = b[i] :: b.drop (i + 1)) = decide (a.drop (i + 1) = b.drop (i + 1)) := decide_eq_decide.2 ⟨fun h => (List.cons.inj h).2, fun h => by rw [he, h]⟩
        rw [e]
        refine Ev.step (fun k => ?_) (ih (i + 1) (by omega) (by omega))
        rw [slices_Equal_int_int.l0, if_pos (by omega), if_pos (by omega), if_pos (by omega), if_pos (by omega), rd_get hi, rd_get hib, if_pos he, w64n i (by omega)]
      · have e : decide (a[i] :: a.drop (i + 1) = b[i] :: b.drop (i + 1)) = false := decide_eq_false (fun h => he (by injection h))
        rw [e]
        refine Ev.step (g' := fun _ => some false) (fun k => ?_) (Ev.const _)
        rw [slices_Equal_int_int.l0, if_pos (by omega), if_pos (by omega), if_pos (by omega), if_pos (by omega), rd_get hi, rd_get hib, if_neg he]
    · exact last i hi
theorem ev_slEqual (a b : List Int) (ha : a.length < 1000000) : Ev (fun k => slices_Equal_int_int.f k a b) (decide (a = b)) := by
  by_cases hl : a.length = b.length
  · have := equal_go hl ha a.length 0 (by omega) (by omega)
    refine Ev.congr (fun k => ?_) this
    unfold slices_Equal_int_int.f
    rw [if_pos (by omega)]
    rfl
  · rw [decide_eq_false (fun h => hl (by rw [h]))]
    exact Ev.congr (g' := fun _ => some false) (fun k => by unfold slices_Equal_int_int.f; rw [if_neg (by omega)]) (Ev.const _)
theorem ev_equal (a b : ByteArray) (ha : a.size ≤ 50000) (hb : b.size ≤ 50000) : Ev (fun k => normal_Equal.f k a b) (okS a && (okS b && decide (decD (chs a) = decD (chs b)))) := by
  refine Ev.congr (g' := fun k => if okS a = true then (if okS b = true then (slices_Equal_int_int.f k (decD (chs a)) (decD (chs b))).bind fun t => some t else some false) else some false) (fun k => ?_) ?_
  · unfold normal_Equal.f
    rw [decomposed_eq a ha, decomposed_eq b hb]
    rfl
  · cases okS a with
    | false => exact Ev.congr (fun k => if_neg (by decide)) (Ev.const _)
    | true =>
      refine Ev.congr (fun k => if_pos rfl) ?_
      cases okS b with
      | false => exact Ev.congr (fun k => if_neg (by decide)) (Ev.const _)
      | true => exact Ev.congr (fun k => if_pos rfl) (Ev.bind (ev_slEqual _ _ (by have := nlen a ha; omega)) (Ev.const _))
theorem bad_chs {s : ByteArray} (h : okS s = false) : chs s = [] ∧ 0 < s.size := by
  unfold okS decR at h
  unfold chs decR
  cases hd : decS hasS s.data.toList with
  | none =>
    refine ⟨rfl, ?_⟩
    rcases Nat.eq_zero_or_pos s.size with e | e
    · have hl : s.data.toList = [] := List.length_eq_zero_iff.1 (by rw [show s.data.toList.length = s.size from Array.length_toList, e])
      rw [hl, decS_nil] at hd
      exact absurd hd (by simp)
    · exact e
  | some cs => rw [hd] at h; simp at h
end Go.Proofs.YthcpdhniakpbaaaDoor.X
end

section
namespace Go.Proofs.YthcpdhniakpbaaaDoor.X
open Go.RowKit Go.Sort Go.Lib Go.Proofs.YthcpdhniakpbaaaDoorW.PrintWords Go.Proofs.YthcpdhniakpbaaaDoorW.PrintLast Go.Proofs.YthcpdhniakpbaaaDoorW.PrintMore
set_option linter.unusedVariables false
set_option linter.unusedSimpArgs false
theorem Ev.pick {α : Type} {c : Prop} [Decidable c] {g g' : Nat → Option α} {r : α} (h : c) (e : Ev g r) : Ev (fun k => if c then g k else g' k) r := Ev.congr (fun k => if_pos h) e
theorem Ev.skip {α : Type} {c : Prop} [Decidable c] {g g' : Nat → Option α} {r : α} (h : ¬ c) (e : Ev g' r) : Ev (fun k => if c then g k else g' k) r := Ev.congr (fun k => if_neg h) e
def eAc : ByteArray := ⟨#[195, 169]⟩
def fiL : ByteArray := ⟨#[239, 172, 129]⟩
def cAc : ByteArray := ⟨#[99, 204, 129, 204, 167]⟩
def eDc : ByteArray := ⟨#[101, 204, 129]⟩
theorem aw1 : (bytesOfL (decD (chs eAc))).toList = ([101, 204, 129] : List UInt8) := by decide +kernel
theorem aw2 : (bytesOfL (decD (chs fiL))).toList = ([102, 105] : List UInt8) := by decide +kernel
theorem aw3 : (bytesOfL (compS (decD (chs cAc)))).toList = ([195, 167, 204, 129] : List UInt8) := by decide +kernel
theorem aw4 : ((bytesOfL (compS (decD (chs eAc)))).toList == eAc.toList) = true := by decide +kernel
theorem aw5 : (okS eAc && (okS eDc && decide (decD (chs eAc) = decD (chs eDc)))) = true := by decide +kernel
theorem aw6 : (bytesOfL (stripS (decD (chs eAc)))).toList = ([101] : List UInt8) := by decide +kernel
theorem aw7 : cntM (decD (chs eAc)) = 1 := by decide +kernel
theorem ev_awake : Ev (fun k => bookplatelaw05_awake.f k) true := by
  have s1 : eAc.size ≤ 50000 := by decide
  have s2 : fiL.size ≤ 50000 := by decide
  have s3 : cAc.size ≤ 50000 := by decide
  have s4 : eDc.size ≤ 50000 := by decide
  unfold bookplatelaw05_awake.f
  refine Ev.bind (Ev.of fun k => decompose_eq eAc s1) (Ev.pick aw1 ?_)
  refine Ev.bind (Ev.of fun k => decompose_eq fiL s2) (Ev.pick aw2 ?_)
  refine Ev.bind (Ev.of fun k => compose_eq cAc s3) (Ev.pick aw3 ?_)
  refine Ev.bind (Ev.of fun k => is_eq eAc s1) (Ev.pick aw4 ?_)
  refine Ev.bind (ev_equal eAc eDc s1 s4) (Ev.pick aw5 ?_)
  refine Ev.bind (Ev.of fun k => strip_eq eAc s1) (Ev.pick aw6 ?_)
  refine Ev.bind (ev_marks eAc s1) ?_
  exact Ev.of fun k => by rw [aw7]; rfl
theorem is_same (s : ByteArray) : ((bytesOfL (compS (decD (chs s)))).toList == s.toList) = (okS s && ((bytesOfL (compS (decD (chs s)))).toList == s.toList)) := by
  cases h : okS s with
  | true => rfl
  | false =>
    obtain ⟨h1, h2⟩ := bad_chs h
    rw [h1, Bool.false_and, beq_eq_false_iff_ne]
    intro e
    rw [toList_eq_iff] at e
    have hz : (bytesOfL (compS (decD []))).size = 0 := rfl
    rw [e] at hz
    omega
theorem normForms_true (a0 : ByteArray) : ∃ k, bookplatelaw05_NormalForms.f k a0 = some true := by
  apply Ev.get
  unfold bookplatelaw05_NormalForms.f
  refine Ev.bind ev_awake (Ev.pick rfl ?_)
  by_cases h : (a0.size : Int) > 80
  · exact Ev.pick h (Ev.const _)
  · refine Ev.skip h ?_
    have hs : a0.size ≤ 50000 := by omega
    refine Ev.bind (Ev.of fun k => decompose_eq a0 hs) (Ev.bind (ev_refDecompose a0 hs) (Ev.pick rfl ?_))
    refine Ev.bind (Ev.of fun k => compose_eq a0 hs) (Ev.bind (ev_refCompose a0 hs) (Ev.pick rfl ?_))
    refine Ev.bind (Ev.of fun k => is_eq a0 hs) (Ev.bind (ev_refIs a0 hs) (Ev.pick (by rw [← is_same]; exact beq_self_eq_true _) ?_))
    refine Ev.bind (Ev.of fun k => strip_eq a0 hs) (Ev.bind (ev_refStrip a0 hs) (Ev.pick rfl ?_))
    refine Ev.bind (ev_marks a0 hs) (Ev.bind (ev_refMarks a0 hs) ?_)
    exact Ev.of fun k => by rw [beq_self_eq_true]
end Go.Proofs.YthcpdhniakpbaaaDoor.X
end
