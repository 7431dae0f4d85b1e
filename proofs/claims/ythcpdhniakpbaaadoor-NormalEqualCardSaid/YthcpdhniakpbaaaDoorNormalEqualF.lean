/- The law NormalEqual returns true for every input, the package variables that it reads holding what the row lists. Part 6 of the texts that its proof stands on; put together by a program. -/
import Derived.Test.YthcpdhniakpbaaaDoorNormalEqualE
section
namespace Go.Proofs.YthcpdhniakpbaaaDoor.X
open Go.RowKit Go.Proofs.YthcpdhniakpbaaaDoorW.PrintWords Go.Proofs.YthcpdhniakpbaaaDoorW.PrintLast Go.Proofs.YthcpdhniakpbaaaDoorW.PrintMore
attribute [local go_sem] max2_int min2_int max_two min_two max_three min_three max_four min_four
set_option linter.unusedVariables false
set_option linter.unusedSimpArgs false
def bookplateref05_Decompose.f (k : Nat) (a0 : ByteArray) : Option (ByteArray) := (bookplateref05_decomposed.f k a0).bind fun t290 => ((bookplateref04_Encode.f k t290).bind fun bt293 => (some bt293.1))
set_option maxHeartbeats 8000000 in
set_option maxRecDepth 100000 in
theorem bookplateref05_Decompose.calls (k : Nat) (a0 : ByteArray) (r : ByteArray) (w : World) (h : bookplateref05_Decompose.f k a0 = some r) :
    Calls Tryd.prog 39 #[.string a0] w fun e w' => e = .returned (.string r) ∧ Below w.heap.size w w' := by
  have HB := Aside0.mk (Below.refl w.heap.size w)
  have H : ((bookplateref05_decomposed.f k a0).bind fun t290 => ((bookplateref04_Encode.f k t290).bind fun bt293 => (some bt293.1))) = some r := h
  clear h
  replace H := Option.bind_eq_some_iff.mp H
  obtain ⟨t290, A20, H⟩ := H
  replace H : ((bookplateref04_Encode.f k t290).bind fun bt293 => (some bt293.1)) = some r := H
  have A2 := Aside0.mk A20
  clear A20
  replace H := Option.bind_eq_some_iff.mp H
  obtain ⟨⟨t293, t294⟩, A30, H⟩ := H
  replace H : (some t293) = some r := H
  have A3 := Aside0.mk A30
  clear A30
  obtain rfl := Option.some.inj H
  go_enter Tryd.func39, Tryd.ntmps39
  go_wp2_with (first | ((with_reducible refine gate_callee (f := 66) rfl ?_); refine goesL_ (some 7) rfl rfl Tryd.func66 (by kernel_rfl) rfl #[.string a0] rfl (by (try simp only [List.map_toArray, List.map_cons, List.map_nil]); first | done | rfl | (simp only [List.length_drop, List.length_take]; rfl)) ?_; (with_reducible refine (bookplateref05_decomposed.calls k a0 t290 _ A2.out).mono ?_); rintro e w4 ⟨v291, rfl, ho0, hb⟩; refine ⟨_, rfl, ?_⟩; have n0_ := Aside0.mk (Kd.R_lower ho0 (below_size (by repeat (first | (with_reducible first | exact HB.out | apply below_alloc | apply pw_below_drewN | apply below_drew1) | exact HB.out)))); have n1_ := Aside0.mk (below_step (by repeat (first | (with_reducible first | exact HB.out | apply below_alloc | apply pw_below_drewN | apply below_drew1) | exact HB.out)) hb); clear HB; have HO292 := n0_; have HB := n1_; clear n0_ n1_; (try clear hb); (try clear hb2); (try clear hk); (try clear hi); (try clear ho0); obtain ⟨Ao5, co5, eo5⟩ := Kd.R_slice HO292.out; subst eo5) | ((with_reducible refine gate_callee (f := 50) rfl ?_); refine goesL_ (some 8) rfl rfl Tryd.func50 (by kernel_rfl) rfl #[.slice Ao5 t290.length co5] rfl (by (try simp only [List.map_toArray, List.map_cons, List.map_nil]); first | done | rfl | (simp only [List.length_drop, List.length_take]; rfl)) ?_; (with_reducible refine (bookplateref04_Encode.calls k _ _ t290 t293 t294 _ ?side1 ?side2 A3.out).mono ?_); (case side1 => repeat (first | exact (Kd.R_reads' HO292.out).2.2 | (with_reducible refine Kd.C_alloc ?_ _) | (with_reducible refine Kd.C_drewN ?_ _) | (with_reducible refine Kd.C_drew ?_))); (case side2 => exact (Kd.R_reads' HO292.out).2.1); rintro e w6 ⟨rfl, hb⟩; refine ⟨_, rfl, ?_⟩; have n0_ := Aside0.mk (Kd.R_below (by (with_reducible repeat (first | apply Kd.R_alloc | apply Kd.R_drewN | apply Kd.R_drew)); exact HO292.out) hb); have n1_ := Aside0.mk (below_step (by repeat (first | (with_reducible first | exact HB.out | apply below_alloc | apply pw_below_drewN | apply below_drew1) | exact HB.out)) hb); clear HO292; clear HB; have HO292 := n0_; have HB := n1_; clear n0_ n1_; (try clear hb); (try clear hb2); (try clear hk); (try clear hi)))
  go_ret
  exact ⟨by first | rfl | (simp [errW_none, errW_some] <;> rfl) | (simp [*, errW_none, errW_some] <;> rfl), by repeat (first | (with_reducible first | exact HB.out | apply below_alloc | apply pw_below_drewN | apply below_drew1) | exact HB.out)⟩
end Go.Proofs.YthcpdhniakpbaaaDoor.X
end

section
namespace Go.Proofs.YthcpdhniakpbaaaDoor.X
open Go.RowKit Go.Proofs.YthcpdhniakpbaaaDoorW.PrintWords Go.Proofs.YthcpdhniakpbaaaDoorW.PrintLast Go.Proofs.YthcpdhniakpbaaaDoorW.PrintMore
attribute [local go_sem] max2_int min2_int max_two min_two max_three min_three max_four min_four
set_option linter.unusedVariables false
set_option linter.unusedSimpArgs false
def bookplateref05_encoded.f (k : Nat) (a0 : ByteArray) : Option (Bool) := (bookplateref04_Decode.f k a0).bind fun bt345 => (some bt345.2)
set_option maxHeartbeats 8000000 in
set_option maxRecDepth 100000 in
theorem bookplateref05_encoded.calls (k : Nat) (a0 : ByteArray) (r : Bool) (w : World) (h : bookplateref05_encoded.f k a0 = some r) :
    Calls Tryd.prog 72 #[.string a0] w fun e w' => e = .returned (.bool r) ∧ Below w.heap.size w w' := by
  have HB := Aside0.mk (Below.refl w.heap.size w)
  have H : ((bookplateref04_Decode.f k a0).bind fun bt345 => (some bt345.2)) = some r := h
  clear h
  replace H := Option.bind_eq_some_iff.mp H
  obtain ⟨⟨t345, t346⟩, A20, H⟩ := H
  replace H : (some t346) = some r := H
  have A2 := Aside0.mk A20
  clear A20
  obtain rfl := Option.some.inj H
  go_enter Tryd.func72, Tryd.ntmps72
  go_wp2_with (first | ((with_reducible refine gate_callee (f := 31) rfl ?_); refine goesL_ (some 7) rfl rfl Tryd.func31 (by kernel_rfl) rfl #[.string a0] rfl (by (try simp only [List.map_toArray, List.map_cons, List.map_nil]); first | done | rfl | (simp only [List.length_drop, List.length_take]; rfl)) ?_; (with_reducible refine (bookplateref04_Decode.calls k a0 t345 t346 _ A2.out).mono ?_); rintro e w3 ⟨v347, rfl, ho0, hb⟩; refine ⟨_, rfl, ?_⟩; have n0_ := Aside0.mk (Kd.R_lower ho0 (below_size (by repeat (first | (with_reducible first | exact HB.out | apply below_alloc | apply pw_below_drewN | apply below_drew1) | exact HB.out)))); have n1_ := Aside0.mk (below_step (by repeat (first | (with_reducible first | exact HB.out | apply below_alloc | apply pw_below_drewN | apply below_drew1) | exact HB.out)) hb); clear HB; have HO348 := n0_; have HB := n1_; clear n0_ n1_; (try clear hb); (try clear hb2); (try clear hk); (try clear hi); (try clear ho0)))
  go_ret
  exact ⟨by first | rfl | (simp [errW_none, errW_some] <;> rfl) | (simp [*, errW_none, errW_some] <;> rfl), by repeat (first | (with_reducible first | exact HB.out | apply below_alloc | apply pw_below_drewN | apply below_drew1) | exact HB.out)⟩
end Go.Proofs.YthcpdhniakpbaaaDoor.X
end

section
namespace Go.Proofs.YthcpdhniakpbaaaDoor.X
open Go.RowKit Go.Proofs.YthcpdhniakpbaaaDoorW.PrintWords Go.Proofs.YthcpdhniakpbaaaDoorW.PrintLast Go.Proofs.YthcpdhniakpbaaaDoorW.PrintMore
attribute [local go_sem] max2_int min2_int max_two min_two max_three min_three max_four min_four
set_option linter.unusedVariables false
set_option linter.unusedSimpArgs false
def bookplateref05_Equal.f (k : Nat) (a0 : ByteArray) (a1 : ByteArray) : Option (Bool) := (bookplateref05_encoded.f k a0).bind fun t367 => (if t367 = true then ((bookplateref05_encoded.f k a1).bind fun t368 => (if t368 = true then ((bookplateref05_Decompose.f k a0).bind fun t369 => ((bookplateref05_Decompose.f k a1).bind fun t370 => (some (t369.toList == t370.toList)))) else (some false))) else (some false))
set_option maxHeartbeats 8000000 in
set_option maxRecDepth 100000 in
theorem bookplateref05_Equal.calls (k : Nat) (a0 : ByteArray) (a1 : ByteArray) (r : Bool) (w : World) (h : bookplateref05_Equal.f k a0 a1 = some r) :
    Calls Tryd.prog 49 #[.string a0, .string a1] w fun e w' => e = .returned (.bool r) ∧ Below w.heap.size w w' := by
  have HB := Aside0.mk (Below.refl w.heap.size w)
  have H : ((bookplateref05_encoded.f k a0).bind fun t367 => (if t367 = true then ((bookplateref05_encoded.f k a1).bind fun t368 => (if t368 = true then ((bookplateref05_Decompose.f k a0).bind fun t369 => ((bookplateref05_Decompose.f k a1).bind fun t370 => (some (t369.toList == t370.toList)))) else (some false))) else (some false))) = some r := h
  clear h
  replace H := Option.bind_eq_some_iff.mp H
  obtain ⟨t367, A30, H⟩ := H
  replace H : (if t367 = true then ((bookplateref05_encoded.f k a1).bind fun t368 => (if t368 = true then ((bookplateref05_Decompose.f k a0).bind fun t369 => ((bookplateref05_Decompose.f k a1).bind fun t370 => (some (t369.toList == t370.toList)))) else (some false))) else (some false)) = some r := H
  have A3 := Aside0.mk A30
  clear A30
  by_cases c4 : t367 = true
  · subst c4
    have H1 : ((bookplateref05_encoded.f k a1).bind fun t368 => (if t368 = true then ((bookplateref05_Decompose.f k a0).bind fun t369 => ((bookplateref05_Decompose.f k a1).bind fun t370 => (some (t369.toList == t370.toList)))) else (some false))) = some r := by rw [if_pos rfl] at H; exact H
    clear H
    have H := H1
    clear H1
    replace H := Option.bind_eq_some_iff.mp H
    obtain ⟨t368, A50, H⟩ := H
    replace H : (if t368 = true then ((bookplateref05_Decompose.f k a0).bind fun t369 => ((bookplateref05_Decompose.f k a1).bind fun t370 => (some (t369.toList == t370.toList)))) else (some false)) = some r := H
    have A5 := Aside0.mk A50
    clear A50
    by_cases c6 : t368 = true
    · subst c6
      have H1 : ((bookplateref05_Decompose.f k a0).bind fun t369 => ((bookplateref05_Decompose.f k a1).bind fun t370 => (some (t369.toList == t370.toList)))) = some r := by rw [if_pos rfl] at H; exact H
      clear H
      have H := H1
      clear H1
      replace H := Option.bind_eq_some_iff.mp H
      obtain ⟨t369, A70, H⟩ := H
      replace H : ((bookplateref05_Decompose.f k a1).bind fun t370 => (some (t369.toList == t370.toList))) = some r := H
      have A7 := Aside0.mk A70
      clear A70
      replace H := Option.bind_eq_some_iff.mp H
      obtain ⟨t370, A80, H⟩ := H
      replace H : (some (t369.toList == t370.toList)) = some r := H
      have A8 := Aside0.mk A80
      clear A80
      obtain rfl := Option.some.inj H
      go_enter Tryd.func49, Tryd.ntmps49
      go_wp2_with (first | ((with_reducible refine gate_callee (f := 72) rfl ?_); refine goesL_ (some 6) rfl rfl Tryd.func72 (by kernel_rfl) rfl #[.string a0] rfl (by (try simp only [List.map_toArray, List.map_cons, List.map_nil]); first | done | rfl | (simp only [List.length_drop, List.length_take]; rfl)) ?_; (with_reducible refine (bookplateref05_encoded.calls k a0 true _ A3.out).mono ?_); rintro e w9 ⟨rfl, hb⟩; refine ⟨_, rfl, ?_⟩; have n0_ := Aside0.mk (below_step (by repeat (first | (with_reducible first | exact HB.out | apply below_alloc | apply pw_below_drewN | apply below_drew1) | exact HB.out)) hb); clear HB; have HB := n0_; clear n0_; (try clear hb); (try clear hb2); (try clear hk); (try clear hi)) | (go_at_call 72; (with_reducible refine (bookplateref05_encoded.calls k a1 true _ A5.out).mono ?_); rintro e w10 ⟨rfl, hb⟩; have n0_ := Aside0.mk (below_step (by repeat (first | (with_reducible first | exact HB.out | apply below_alloc | apply pw_below_drewN | apply below_drew1) | exact HB.out)) hb); clear HB; have HB := n0_; clear n0_; (try clear hb); (try clear hb2); (try clear hk); (try clear hi)) | (go_at_call 39; (with_reducible refine (bookplateref05_Decompose.calls k a0 t369 _ A7.out).mono ?_); rintro e w11 ⟨rfl, hb⟩; have n0_ := Aside0.mk (below_step (by repeat (first | (with_reducible first | exact HB.out | apply below_alloc | apply pw_below_drewN | apply below_drew1) | exact HB.out)) hb); clear HB; have HB := n0_; clear n0_; (try clear hb); (try clear hb2); (try clear hk); (try clear hi)) | (go_at_call 39; (with_reducible refine (bookplateref05_Decompose.calls k a1 t370 _ A8.out).mono ?_); rintro e w12 ⟨rfl, hb⟩; have n0_ := Aside0.mk (below_step (by repeat (first | (with_reducible first | exact HB.out | apply below_alloc | apply pw_below_drewN | apply below_drew1) | exact HB.out)) hb); clear HB; have HB := n0_; clear n0_; (try clear hb); (try clear hb2); (try clear hk); (try clear hi)))
      go_ret
      exact ⟨by first | rfl | (simp [errW_none, errW_some] <;> rfl) | (simp [*, errW_none, errW_some] <;> rfl), by repeat (first | (with_reducible first | exact HB.out | apply below_alloc | apply pw_below_drewN | apply below_drew1) | exact HB.out)⟩
    · replace c6 := Bool.eq_false_iff.mpr c6
      subst c6
      have H1 : (some false) = some r := by rw [if_neg (show ¬ (false = true) by decide)] at H; exact H
      clear H
      have H := H1
      clear H1
      obtain rfl := Option.some.inj H
      go_enter Tryd.func49, Tryd.ntmps49
      go_wp2_with (first | ((with_reducible refine gate_callee (f := 72) rfl ?_); refine goesL_ (some 6) rfl rfl Tryd.func72 (by kernel_rfl) rfl #[.string a0] rfl (by (try simp only [List.map_toArray, List.map_cons, List.map_nil]); first | done | rfl | (simp only [List.length_drop, List.length_take]; rfl)) ?_; (with_reducible refine (bookplateref05_encoded.calls k a0 true _ A3.out).mono ?_); rintro e w13 ⟨rfl, hb⟩; refine ⟨_, rfl, ?_⟩; have n0_ := Aside0.mk (below_step (by repeat (first | (with_reducible first | exact HB.out | apply below_alloc | apply pw_below_drewN | apply below_drew1) | exact HB.out)) hb); clear HB; have HB := n0_; clear n0_; (try clear hb); (try clear hb2); (try clear hk); (try clear hi)) | (go_at_call 72; (with_reducible refine (bookplateref05_encoded.calls k a1 false _ A5.out).mono ?_); rintro e w14 ⟨rfl, hb⟩; have n0_ := Aside0.mk (below_step (by repeat (first | (with_reducible first | exact HB.out | apply below_alloc | apply pw_below_drewN | apply below_drew1) | exact HB.out)) hb); clear HB; have HB := n0_; clear n0_; (try clear hb); (try clear hb2); (try clear hk); (try clear hi)))
      go_ret
      exact ⟨by first | rfl | (simp [errW_none, errW_some] <;> rfl) | (simp [*, errW_none, errW_some] <;> rfl), by repeat (first | (with_reducible first | exact HB.out | apply below_alloc | apply pw_below_drewN | apply below_drew1) | exact HB.out)⟩
  · replace c4 := Bool.eq_false_iff.mpr c4
    subst c4
    have H1 : (some false) = some r := by rw [if_neg (show ¬ (false = true) by decide)] at H; exact H
    clear H
    have H := H1
    clear H1
    obtain rfl := Option.some.inj H
    go_enter Tryd.func49, Tryd.ntmps49
    go_wp2_with (first | ((with_reducible refine gate_callee (f := 72) rfl ?_); refine goesL_ (some 6) rfl rfl Tryd.func72 (by kernel_rfl) rfl #[.string a0] rfl (by (try simp only [List.map_toArray, List.map_cons, List.map_nil]); first | done | rfl | (simp only [List.length_drop, List.length_take]; rfl)) ?_; (with_reducible refine (bookplateref05_encoded.calls k a0 false _ A3.out).mono ?_); rintro e w15 ⟨rfl, hb⟩; refine ⟨_, rfl, ?_⟩; have n0_ := Aside0.mk (below_step (by repeat (first | (with_reducible first | exact HB.out | apply below_alloc | apply pw_below_drewN | apply below_drew1) | exact HB.out)) hb); clear HB; have HB := n0_; clear n0_; (try clear hb); (try clear hb2); (try clear hk); (try clear hi)))
    go_ret
    exact ⟨by first | rfl | (simp [errW_none, errW_some] <;> rfl) | (simp [*, errW_none, errW_some] <;> rfl), by repeat (first | (with_reducible first | exact HB.out | apply below_alloc | apply pw_below_drewN | apply below_drew1) | exact HB.out)⟩
end Go.Proofs.YthcpdhniakpbaaaDoor.X
end

section
namespace Go.Proofs.YthcpdhniakpbaaaDoor.X
open Go.RowKit Go.Sort Go.Lib Go.Proofs.YthcpdhniakpbaaaDoorW.PrintWords Go.Proofs.YthcpdhniakpbaaaDoorW.PrintLast Go.Proofs.YthcpdhniakpbaaaDoorW.PrintMore
set_option linter.unusedVariables false
set_option linter.unusedSimpArgs false
def Ev {α : Type} (g : Nat → Option α) (r : α) : Prop := ∃ K, ∀ k, K ≤ k → g k = some r
theorem Ev.const {α : Type} (r : α) : Ev (fun _ => some r) r := ⟨0, fun _ _ => rfl⟩
theorem Ev.of {α : Type} {g : Nat → Option α} {r : α} (h : ∀ k, g k = some r) : Ev g r := ⟨0, fun k _ => h k⟩
theorem Ev.step {α : Type} {g g' : Nat → Option α} {r : α} (h : ∀ k, g (k + 1) = g' k) (e : Ev g' r) : Ev g r := by
  obtain ⟨K, hK⟩ := e
  refine ⟨K + 1, fun k hk => ?_⟩
  obtain ⟨q, rfl⟩ : ∃ q, k = q + 1 := ⟨k - 1, by omega⟩
  rw [h, hK q (by omega)]
theorem Ev.congr {α : Type} {g g' : Nat → Option α} {r : α} (h : ∀ k, g k = g' k) (e : Ev g' r) : Ev g r := by
  obtain ⟨K, hK⟩ := e
  exact ⟨K, fun k hk => by rw [h, hK k hk]⟩
theorem Ev.bind {α β : Type} {g : Nat → Option α} {h : Nat → α → Option β} {a : α} {r : β} (e : Ev g a) (e' : Ev (fun k => h k a) r) : Ev (fun k => (g k).bind (h k)) r := by
  obtain ⟨K, hK⟩ := e
  obtain ⟨L, hL⟩ := e'
  exact ⟨max K L, fun k hk => by show (g k).bind (h k) = _; rw [hK k (by omega)]; exact hL k (by omega)⟩
theorem Ev.get {α : Type} {g : Nat → Option α} {r : α} (e : Ev g r) : ∃ k, g k = some r := by
  obtain ⟨K, hK⟩ := e
  exact ⟨K, hK K (Nat.le_refl _)⟩
theorem ev_decode (s : ByteArray) (hs : s.size ≤ 1000000) : Ev (fun k => bookplateref04_Decode.f k s) (decR [] s.data.toList) := ⟨s.size + 301, fun k hk => refDecode_eq s (by omega) k hk⟩
theorem ev_encode (l : List Int) (hl : l.length ≤ 1000000) (hh : ∀ c ∈ l, hasS c = true) : Ev (fun k => bookplateref04_Encode.f k l) (⟨(encL l).toArray⟩, true) := ⟨l.length + 301, fun k hk => refEncode_eq l hl hh k hk⟩
def mcl (c : Int) : Int := if isMk c = true then clsN c else 0
theorem mcl_pos {c : Int} : mcl c > 0 ↔ isMk c = true := by
  unfold mcl
  have := clsN_range c
  split
  · rename_i h; simp [h]; omega
  · rename_i h; simp [h]
theorem ev_class (c : Int) (hc : hasS c = true) : Ev (fun k => bookplateref05_class.f k c) (mcl c) := by
  have hr := hasS_range hc
  refine ⟨301, fun k hk => ?_⟩
  obtain ⟨q, rfl⟩ : ∃ q, k = q + 1 := ⟨k - 1, by omega⟩
  show bookplateref05_class.f (q + 1) c = _
  unfold bookplateref05_class.f
  rw [refClass_eq c (q + 1) (by omega) (by omega)]
  simp only [Option.bind_some]
  by_cases h2 : (classS c).2 = 2
  · have hm : isMk c = true := by unfold isMk; simp [h2]
    rw [if_pos h2]
    unfold mcl
    rw [if_pos hm]
    unfold clsN
    by_cases h3 : c = 807
    · subst h3; rfl
    · by_cases h4 : c = 808
      · subst h4; rfl
      · by_cases h5 : c = 803
        · subst h5; rfl
        · rw [if_neg h3, if_neg (by rintro (h | h); exact h3 h; exact h4 h), if_neg h5, bookplateref05_class.j0, show (c == 808) = false from by rw [beq_eq_false_iff_ne]; exact h4]
          rw [if_neg (by decide), if_neg h5]
  · have hm : ¬ isMk c = true := by unfold isMk; simp [h2]
    rw [if_neg h2]
    unfold mcl
    rw [if_neg hm]
def to96 (r : NRow) : S96 := ⟨r.mark, r.lb, r.bb⟩
def rows96 : List S96 := nrows.map to96
theorem rows96_eq : bookplateref05_rows.f = some rows96 := by kernel_rfl
theorem rows96_len : (rows96.length : Int) = 13 := rfl
theorem rows96_rd {i : Nat} (h : i < 13) : rd_T96 rows96 (i : Int) = to96 (nr i) := by
  have h1 : i < nrows.length := h
  unfold rd_T96 rows96 nr
  simp [h1]
theorem dec_letters {r : NRow} (h : r ∈ nrows) : decR [] r.lb.data.toList = (r.l, true) ∧ decR [] r.bb.data.toList = (r.b, true) := by
  obtain ⟨h1, h2, _⟩ := row_str h
  have h3 := row_has h
  have e1 : r.lb.data.toList = encL r.l := by unfold strB at h1; simp only [Bool.and_eq_true, beq_iff_eq] at h1; exact h1.1.1.1.1
  have e2 : r.bb.data.toList = encL r.b := by unfold strB at h2; simp only [Bool.and_eq_true, beq_iff_eq] at h2; exact h2.1.1.1.1
  rw [e1, e2]
  unfold decR
  rw [decS_enc hasS r.l (fun c hc => ⟨hasS_ok (h3.2.1 c hc), h3.2.1 c hc⟩), decS_enc hasS r.b (fun c hc => ⟨hasS_ok (h3.1 c hc), h3.1 c hc⟩)]
  exact ⟨by simp, by simp⟩
theorem row_sizes {r : NRow} (h : r ∈ nrows) : r.lb.size ≤ 1000000 ∧ r.bb.size ≤ 1000000 := by
  obtain ⟨h1, h2, _⟩ := row_str h
  unfold strB at h1 h2
  simp only [Bool.and_eq_true, decide_eq_true_eq] at h1 h2
  have := h1.1.1.2
  have := h2.1.1.2
  omega
theorem ev_letters {r : NRow} (h : r ∈ nrows) : Ev (fun k => bookplateref04_Decode.f k r.lb) (r.l, true) ∧ Ev (fun k => bookplateref04_Decode.f k r.bb) (r.b, true) := by
  have h1 := ev_decode r.lb (row_sizes h).1
  have h2 := ev_decode r.bb (row_sizes h).2
  rw [(dec_letters h).1] at h1
  rw [(dec_letters h).2] at h2
  exact ⟨h1, h2⟩
theorem plc_at {xs : List Int} {c : Int} {j : Nat} (hj : j < xs.length) (he : xs[j] = c) (hn : c ∉ xs.take j) : plc xs c = j := by
  have hm : c ∈ xs := by rw [← he]; exact List.getElem_mem hj
  unfold plc
  rw [if_pos hm]
  have hsp : xs = xs.take j ++ xs.drop j := (List.take_append_drop j xs).symm
  have hd : xs.drop j = c :: xs.drop (j + 1) := by rw [List.drop_eq_getElem_cons hj, he]
  have : xs.takeWhile (fun y => y != c) = xs.take j := by
    conv => lhs; rw [hsp, List.takeWhile_append_of_pos (fun x hx => by simpa using fun e => hn (by rw [← e]; exact hx)), hd]
    simp
  rw [this]
  simp
  omega
theorem rd_get {xs : List Int} {j : Nat} (hj : j < xs.length) : rd xs (j : Int) = xs[j] := by unfold rd; simp [hj]
theorem w64n (n : Nat) (h : n < 1000000000000) : wrap64 ((n : Int) + 1) = ((n + 1 : Nat) : Int) := by unfold wrap64; omega
def pairR (c : Int) : List NRow → Int × Int
  | [] => (0, 0)
  | r :: rs => if c ∈ r.l then (at0 r.b (plc r.l c), r.mark) else pairR c rs
theorem pair_l1 {c : Int} {i : Nat} (hi : i < 13) {X : Int × Int} (hX : Ev (fun k => bookplateref05_pair.l0 k c rows96 ((i + 1 : Nat) : Int)) X) : ∀ (n j : Nat), (nr i).l.length ≤ j + n → j ≤ (nr i).l.length → c ∉ (nr i).l.take j →
    Ev (fun k => bookplateref05_pair.l1 k c rows96 (i : Int) (nr i).l (nr i).b (j : Int)) (if c ∈ (nr i).l then (at0 (nr i).b (plc (nr i).l c), (nr i).mark) else X) := by
  have hm := nr_mem hi
  have hb := row_bounds hm
  have hl := (row_str hm).2.2
  have hrd := rows96_rd hi
  generalize nr i = r at hm hb hl hrd
  intro n
  induction n with
  | zero =>
    intro j h1 h2 h3
    have hj : j = r.l.length := by omega
    subst hj
    rw [List.take_length] at h3
    rw [if_neg h3]
    refine Ev.step (fun k => ?_) hX
    rw [bookplateref05_pair.l1, if_neg (by omega), w64n i (by omega)]
  | succ n ih =>
    intro j h1 h2 h3
    by_cases hj : j < r.l.length
    · by_cases he : r.l[j] = c
      · have hmem : c ∈ r.l := by rw [← he]; exact List.getElem_mem hj
        rw [if_pos hmem, plc_at hj he h3]
        refine Ev.step (g' := fun _ => some (at0 r.b (j : Int), r.mark)) (fun k => ?_) (Ev.const _)
        rw [bookplateref05_pair.l1, if_pos (by omega), if_pos (by omega), rd_get hj, if_pos he, if_pos (by omega), if_pos (by omega), if_pos (by rw [rows96_len]; omega), hrd]
        rfl
      · have h3' : c ∉ r.l.take (j + 1) := by
          rw [List.take_succ_eq_append_getElem hj]
          intro hm
          rcases List.mem_append.1 hm with hm | hm
          · exact h3 hm
          · exact he (List.mem_singleton.1 hm).symm
        refine Ev.step (fun k => ?_) (ih (j + 1) (by omega) (by omega) h3')
        rw [bookplateref05_pair.l1, if_pos (by omega), if_pos (by omega), rd_get hj, if_neg he, w64n j (by omega)]
    · have hj : j = r.l.length := by omega
      subst hj
      rw [List.take_length] at h3
      rw [if_neg h3]
      refine Ev.step (fun k => ?_) hX
      rw [bookplateref05_pair.l1, if_neg (by omega), w64n i (by omega)]
theorem pair_l0 (c : Int) : ∀ (n i : Nat), 13 ≤ i + n → i ≤ 13 → Ev (fun k => bookplateref05_pair.l0 k c rows96 (i : Int)) (pairR c (nrows.drop i)) := by
  intro n
  induction n with
  | zero =>
    intro i h1 h2
    obtain rfl : i = 13 := by omega
    refine Ev.step (g' := fun _ => some (0, 0)) (fun k => ?_) (Ev.const _)
    rw [bookplateref05_pair.l0, if_neg (by rw [rows96_len]; omega)]
  | succ n ih =>
    intro i h1 h2
    by_cases hi : i < 13
    · have hX := ih (i + 1) (by omega) (by omega)
      rw [nr_drop hi, pairR]
      have hev := ev_letters (nr_mem hi)
      refine Ev.step (g' := fun k => (bookplateref04_Decode.f k (nr i).lb).bind fun a => (bookplateref04_Decode.f k (nr i).bb).bind fun b => bookplateref05_pair.l1 k c rows96 (i : Int) a.1 b.1 0) (fun k => ?_) ?_
      · rw [bookplateref05_pair.l0, if_pos (by rw [rows96_len]; omega), if_pos (by omega), rows96_rd hi]
        rfl
      · refine Ev.bind hev.1 ?_
        refine Ev.bind hev.2 ?_
        exact pair_l1 hi hX (nr i).l.length 0 (by omega) (by omega) (by simp)
    · obtain rfl : i = 13 := by omega
      refine Ev.step (g' := fun _ => some (0, 0)) (fun k => ?_) (Ev.const _)
      rw [bookplateref05_pair.l0, if_neg (by rw [rows96_len]; omega)]
theorem ev_pair (c : Int) : Ev (fun k => bookplateref05_pair.f k c) (pairR c nrows) := by
  refine Ev.congr (fun k => ?_) (pair_l0 c 13 0 (by omega) (by omega))
  unfold bookplateref05_pair.f
  rw [rows96_eq]
  rfl
theorem pairR_split (c : Int) : ∀ rs : List NRow, (∀ r ∈ rs, r ∈ nrows) → splitR c rs = if (pairR c rs).1 = 0 then [c] else [(pairR c rs).1, (pairR c rs).2]
  | [], _ => rfl
  | r :: rs, h => by
    rw [splitR, pairR]
    split
    · rename_i hm
      have hrn := h r (by simp)
      have := (row_has hrn).1 _ (at0_mem (plc_ge.2 hm) (by have := plc_lt hm; have := (row_str hrn).2.2; omega))
      have hr := hasS_range this
      rw [if_neg (by simp only; omega)]
    · exact pairR_split c rs (fun r' h' => h r' (by simp [h']))
theorem low_split {c : Int} (h0 : 128 ≤ c) (h1 : c < 192) : splitR c nrows = [c] := by
  have : ∀ rs : List NRow, (∀ r ∈ rs, r ∈ nrows) → splitR c rs = [c] := by
    intro rs
    induction rs with
    | nil => intro _; rfl
    | cons r rs ih =>
      intro h
      rw [splitR, if_neg (fun hm => ?_)]
      · exact ih (fun r' h' => h r' (by simp [h']))
      · have hl : nrows.all (fun r => r.l.all fun x => decide (192 ≤ x)) = true := by decide +kernel
        have := List.all_eq_true.1 (List.all_eq_true.1 hl r (h r (by simp))) c hm
        have := of_decide_eq_true this
        omega
  exact this nrows (fun _ h => h)
theorem ev_whole (c : Int) (hc : hasS c = true) : Ev (fun k => bookplateref05_whole.f k c) (splitS c) := by
  have hr := hasS_range hc
  unfold splitS
  by_cases h1 : c = 160
  · rw [if_pos h1]; exact Ev.of fun k => by unfold bookplateref05_whole.f; rw [if_pos h1]
  rw [if_neg h1]
  by_cases h2 : c = 185
  · rw [if_pos h2]; exact Ev.of fun k => by unfold bookplateref05_whole.f; rw [if_neg h1, if_pos h2]
  rw [if_neg h2]
  by_cases h3 : c = 178 ∨ c = 179
  · rw [if_pos h3]
    refine Ev.step (g' := fun _ => some [c - 176 + 48]) (fun k => ?_) (Ev.const _)
    unfold bookplateref05_whole.f
    rw [if_neg h1, if_neg h2]
    rcases h3 with h3 | h3
    · subst h3; rw [if_pos rfl, bookplateref05_whole.j0, if_pos rfl]; unfold wrap64; rfl
    · subst h3; rw [if_neg (by decide), bookplateref05_whole.j0, if_pos (by decide)]; unfold wrap64; rfl
  rw [if_neg h3]
  have hj : ∀ k, bookplateref05_whole.f k c = bookplateref05_whole.j0 k c false := fun k => by
    unfold bookplateref05_whole.f
    rw [if_neg h1, if_neg h2, if_neg (fun e => h3 (.inl e)), show (c == 179) = false from by rw [beq_eq_false_iff_ne]; exact fun e => h3 (.inr e)]
  refine Ev.congr hj ?_
  by_cases h4 : c = 383
  · rw [if_pos h4]; exact Ev.step (g' := fun _ => some [115]) (fun k => by rw [bookplateref05_whole.j0, if_neg (by decide), if_pos h4]) (Ev.const _)
  rw [if_neg h4]
  by_cases h5 : c = 64257
  · rw [if_pos h5]; exact Ev.step (g' := fun _ => some [102, 105]) (fun k => by rw [bookplateref05_whole.j0, if_neg (by decide), if_neg h4, if_pos h5]) (Ev.const _)
  rw [if_neg h5]
  by_cases h6 : c = 64258
  · rw [if_pos h6]; exact Ev.step (g' := fun _ => some [102, 108]) (fun k => by rw [bookplateref05_whole.j0, if_neg (by decide), if_neg h4, if_neg h5, if_pos h6]) (Ev.const _)
  rw [if_neg h6]
  by_cases h7 : 65281 ≤ c
  · rw [if_pos h7]
    refine Ev.step (g' := fun k => bookplateref05_whole.j1 k c true) (fun k => by rw [bookplateref05_whole.j0, if_neg (by decide), if_neg h4, if_neg h5, if_neg h6, if_pos h7, decide_eq_true (by omega : c ≤ 65374)]) ?_
    exact Ev.step (g' := fun _ => some [c - 65248]) (fun k => by rw [bookplateref05_whole.j1, if_pos rfl]; unfold wrap64; congr 2; omega) (Ev.const _)
  rw [if_neg h7]
  refine Ev.step (g' := fun k => bookplateref05_whole.j1 k c false) (fun k => by rw [bookplateref05_whole.j0, if_neg (by decide), if_neg h4, if_neg h5, if_neg h6, if_neg h7]) ?_
  by_cases h8 : c < 192
  · have e : (if c < 128 then [c] else splitR c nrows) = [c] := by
      split
      · rfl
      · exact low_split (by omega) h8
    rw [e]
    exact Ev.step (g' := fun _ => some [c]) (fun k => by rw [bookplateref05_whole.j1, if_neg (by decide), if_pos h8]) (Ev.const _)
  · rw [if_neg (by omega), pairR_split c nrows (fun _ h => h)]
    refine Ev.step (fun k => by rw [bookplateref05_whole.j1, if_neg (by decide), if_neg h8]) (Ev.bind (ev_pair c) ?_)
    split
    · exact Ev.const _
    · exact Ev.const _
end Go.Proofs.YthcpdhniakpbaaaDoor.X
end

section
namespace Go.Proofs.YthcpdhniakpbaaaDoor.X
open Go.RowKit Go.Sort Go.Lib Go.Proofs.YthcpdhniakpbaaaDoorW.PrintWords Go.Proofs.YthcpdhniakpbaaaDoorW.PrintLast Go.Proofs.YthcpdhniakpbaaaDoorW.PrintMore
set_option linter.unusedVariables false
set_option linter.unusedSimpArgs false
structure Tail (A S : List Int) : Prop where
  last : ∀ A' c, A = A' ++ [c] → isMk c = false
  marks : ∀ x ∈ S, isMk x = true
  srt : Srt S
  has : ∀ x ∈ A ++ S, hasS x = true
def stepR (st : List Int × List Int) (x : Int) : List Int × List Int := if isMk x = true then (st.1, sortS (st.2 ++ [x])) else (st.1 ++ st.2 ++ [x], [])
def outR (st : List Int × List Int) : List Int := st.1 ++ st.2
theorem Tail.mark {A S : List Int} {x : Int} (h : Tail A S) (hm : isMk x = true) : Tail A (sortS (S ++ [x])) where
  last := h.last
  marks y hy := by
    rcases List.mem_append.1 (sortS_mem.1 hy) with hy | hy
    · exact h.marks y hy
    · obtain rfl := List.mem_singleton.1 hy; exact hm
  srt := sortS_srt _
  has y hy := by
    rcases List.mem_append.1 hy with hy | hy
    · exact h.has y (List.mem_append_left _ hy)
    · rcases List.mem_append.1 (sortS_mem.1 hy) with hy | hy
      · exact h.has y (List.mem_append_right _ hy)
      · obtain rfl := List.mem_singleton.1 hy; exact isMk_has hm
theorem Tail.other {A S : List Int} {x : Int} (h : Tail A S) (hm : isMk x = false) (hx : hasS x = true) : Tail (A ++ S ++ [x]) [] where
  last A' c e := by
    have := List.append_inj_right' e rfl
    injection this with this _
    rw [← this]; exact hm
  marks y hy := by simp at hy
  srt := by simp [Srt]
  has y hy := by
    rw [List.append_nil] at hy
    rcases List.mem_append.1 hy with hy | hy
    · exact h.has y hy
    · obtain rfl := List.mem_singleton.1 hy; exact hx
theorem Tail.nil : Tail [] [] := ⟨fun A' c e => by simp at e, by simp, by simp [Srt], by simp⟩
theorem runS_sortS {M l : List Int} (hM : ∀ x ∈ M, isMk x = true) : runS (sortS M ++ l) = runS (M ++ l) := by
  have hm : ∀ x ∈ sortS M, isMk x = true := fun x hx => hM x (sortS_mem.1 hx)
  rw [runS_eq, runS_eq (M ++ l), List.takeWhile_append_of_pos hm, List.dropWhile_append_of_pos hm, List.takeWhile_append_of_pos hM, List.dropWhile_append_of_pos hM]
  congr 1
  have := sortS_in [] M (l.takeWhile isMk)
  simpa using this
theorem fold_run : ∀ (l A S : List Int), (∀ x ∈ S, isMk x = true) → Srt S → outR (l.foldl stepR (A, S)) = A ++ runS (S ++ l)
  | [], A, S, hm, hs => by
    have h2 := runS_marks hm NoHead.nil
    rw [runS_nil, List.append_nil, List.append_nil] at h2
    rw [List.append_nil, h2, sortS_id hs]; rfl
  | x :: l, A, S, hm, hs => by
    rw [List.foldl_cons]
    unfold stepR
    cases hx : isMk x with
    | true =>
      have hm2 : ∀ y ∈ S ++ [x], isMk y = true := fun y hy => by
        rcases List.mem_append.1 hy with hy | hy
        · exact hm y hy
        · obtain rfl := List.mem_singleton.1 hy; exact hx
      rw [if_pos rfl]
      have := fold_run l A (sortS (S ++ [x])) (fun y hy => hm2 y (sortS_mem.1 hy)) (sortS_srt _)
      unfold stepR at this
      rw [this, runS_sortS hm2]
      simp
    | false =>
      rw [if_neg (by decide)]
      have := fold_run l (A ++ S ++ [x]) [] (by simp) (by simp [Srt])
      unfold stepR at this
      rw [this, runS_marks hm (NoHead.cons hx), sortS_id hs, runS_cons hx]
      simp
theorem rd_split (p : List Int) (x : Int) (q : List Int) (i : Int) (hi : i = (p.length : Int)) : rd (p ++ x :: q) i = x := by
  subst hi
  unfold rd
  simp
theorem w64i {n : Int} (h0 : 0 ≤ n) (h1 : n < 1000000000000) : wrap64 (n - 1) = n - 1 := by unfold wrap64; omega
theorem l2_step (cs x7 : List Int) (x6 x8 : Int) (P E : List Int) (x y : Int) (hl : P.length < 1000000) (k : Nat) :
    bookplateref05_decomposed.l2 (k + 1) cs (P ++ y :: (x :: E)) x6 x7 x8 ((P.length : Int) + 1) =
      (bookplateref05_class.f k x).bind fun t281 => if t281 > 0 then (bookplateref05_class.f k y).bind fun t283 => (bookplateref05_class.f k x).bind fun t285 => if t283 > t285 then bookplateref05_decomposed.l2 k cs (P ++ x :: (y :: E)) x6 x7 x8 (P.length : Int) else bookplateref05_decomposed.l1 k cs (P ++ y :: (x :: E)) x6 x7 (wrap64 (x8 + 1)) else bookplateref05_decomposed.l1 k cs (P ++ y :: (x :: E)) x6 x7 (wrap64 (x8 + 1)) := by
  have hw : wrap64 ((P.length : Int) + 1 - 1) = (P.length : Int) := by unfold wrap64; omega
  have r1 : rd (P ++ y :: (x :: E)) ((P.length : Int) + 1) = x := by
    rw [show P ++ y :: (x :: E) = (P ++ [y]) ++ x :: E by simp]
    exact rd_split _ _ _ _ (by simp)
  have r2 : rd (P ++ y :: (x :: E)) (P.length : Int) = y := rd_split _ _ _ _ rfl
  have hset : ((P ++ y :: (x :: E)).set (P.length : Int).toNat x).set ((P.length : Int) + 1).toNat y = P ++ x :: (y :: E) := by
    rw [Int.toNat_natCast, show ((P.length : Int) + 1).toNat = P.length + 1 by omega, List.set_append_right _ _ (Nat.le_refl _), Nat.sub_self, List.set_cons_zero, List.set_append_right _ _ (by omega), show P.length + 1 - P.length = 1 by omega]
    rfl
  have hlen : (((P ++ y :: (x :: E)).length : Nat) : Int) = (P.length : Int) + 2 + (E.length : Int) := by simp; omega
  rw [bookplateref05_decomposed.l2, if_pos (by omega), if_pos (by omega), if_pos (by rw [hlen]; omega), hw, r1, r2, if_pos (by omega), if_pos (by rw [hlen]; omega), hset]
theorem dec_l2 {cs x7 R : List Int} {x6 : Int} {x8 : Int} : ∀ (n : Nat) (u A E : List Int) (x : Int), u.length = n → (∀ A' c, A = A' ++ [c] → isMk c = false) → (∀ y ∈ u, isMk y = true) → Srt u → isMk x = true → (∀ y ∈ A, hasS y = true) → A.length + u.length < 1000000 →
    Ev (fun k => bookplateref05_decomposed.l1 k cs (A ++ sortS (u ++ [x]) ++ E) x6 x7 (wrap64 (x8 + 1))) R →
    Ev (fun k => bookplateref05_decomposed.l2 k cs (A ++ u ++ x :: E) x6 x7 x8 ((A.length : Int) + (u.length : Int))) R := by
  intro n
  induction n with
  | zero =>
    intro u A E x hu hA hm hs hx hh hl hE
    obtain rfl := List.length_eq_zero_iff.1 hu
    have e1 : sortS ([] ++ [x]) = [x] := sortS_id (by simp [Srt])
    have e2 : A ++ sortS ([] ++ [x]) ++ E = A ++ [] ++ x :: E := by rw [e1]; simp
    rw [e2] at hE
    by_cases hA0 : A = []
    · subst hA0
      refine Ev.step (fun k => ?_) hE
      rw [bookplateref05_decomposed.l2, if_neg (by simp)]
    · obtain ⟨A', c, rfl⟩ : ∃ A' c, A = A' ++ [c] := ⟨_, _, (List.dropLast_concat_getLast hA0).symm⟩
      have hc := hA A' c rfl
      have hcx := ev_class x (isMk_has hx)
      have hcc := ev_class c (hh c (by simp))
      have m1 : mcl x > 0 := mcl_pos.2 hx
      have m2 : mcl c = 0 := by unfold mcl; rw [if_neg (by rw [hc]; decide)]
      have e3 : A' ++ [c] ++ [] ++ x :: E = A' ++ c :: (x :: E) := by simp
      have e4 : (((A' ++ [c]).length : Nat) : Int) + ((([] : List Int).length : Nat) : Int) = (A'.length : Int) + 1 := by simp
      rw [e3] at hE ⊢
      rw [e4]
      refine Ev.step (l2_step cs x7 x6 x8 A' E x c (by simp at hl; omega)) (Ev.bind hcx ?_)
      refine Ev.congr (fun k => if_pos m1) (Ev.bind hcc ?_)
      refine Ev.bind hcx ?_
      exact Ev.congr (fun k => if_neg (by omega)) hE
  | succ n ih =>
    intro u A E x hu hA hm hs hx hh hl hE
    have hne : u ≠ [] := fun e' => by rw [e'] at hu; simp at hu
    obtain ⟨u', y, rfl⟩ : ∃ u' y, u = u' ++ [y] := ⟨_, _, (List.dropLast_concat_getLast hne).symm⟩
    have hn : u'.length = n := by simpa using hu
    have hy := hm y (by simp)
    have hcx := ev_class x (isMk_has hx)
    have hcy := ev_class y (isMk_has hy)
    have m1 : mcl x = clsN x := by unfold mcl; rw [if_pos hx]
    have m2 : mcl y = clsN y := by unfold mcl; rw [if_pos hy]
    have rx := clsN_range x
    obtain ⟨s1, s2, s3⟩ := srt_append.1 hs
    have e3 : A ++ (u' ++ [y]) ++ x :: E = (A ++ u') ++ y :: (x :: E) := by simp
    have e4 : (A.length : Int) + (((u' ++ [y]).length : Nat) : Int) = (((A ++ u').length : Nat) : Int) + 1 := by simp; omega
    rw [e3, e4]
    refine Ev.step (l2_step cs x7 x6 x8 (A ++ u') E x y (by simp at hl ⊢; omega)) (Ev.bind hcx ?_)
    refine Ev.congr (fun k => if_pos (by omega)) (Ev.bind hcy ?_)
    refine Ev.bind hcx ?_
    by_cases hlt : clsN x < clsN y
    · refine Ev.congr (fun k => if_pos (by omega)) ?_
      have e5 : (((A ++ u').length : Nat) : Int) = (A.length : Int) + (u'.length : Int) := by simp
      rw [e5]
      refine ih u' A (y :: E) x hn hA (fun z hz => hm z (by simp [hz])) s1 hx hh (by simp at hl; omega) ?_
      have hsm : sortS (u' ++ [y] ++ [x]) = sortS (u' ++ [x]) ++ [y] := by
        have hsame : Same (u' ++ [y] ++ [x]) (u' ++ [x] ++ [y]) := by
          have := (Same.refl u').append (same_swap (u := [y]) (v := [x]) (by simp; exact hlt))
          simpa [List.append_assoc] using this
        rw [hsame.eq, sortS_append (b := [y])]
        · rw [sortS_id (l := [y]) (by simp [Srt])]
        · intro z hz w hw
          obtain rfl := List.mem_singleton.1 hw
          rcases List.mem_append.1 hz with hz | hz
          · exact s3 z hz _ (by simp)
          · obtain rfl := List.mem_singleton.1 hz; omega
      have e2 : A ++ sortS (u' ++ [y] ++ [x]) ++ E = A ++ sortS (u' ++ [x]) ++ y :: E := by rw [hsm]; simp
      rw [e2] at hE
      exact hE
    · refine Ev.congr (fun k => if_neg (by omega)) ?_
      have hsr : Srt (u' ++ [y] ++ [x]) := by
        refine srt_append.2 ⟨hs, by simp [Srt], fun z hz w hw => ?_⟩
        obtain rfl := List.mem_singleton.1 hw
        rcases List.mem_append.1 hz with hz | hz
        · exact Int.le_trans (s3 z hz y (by simp)) (by omega)
        · obtain rfl := List.mem_singleton.1 hz; omega
      have e2 : A ++ sortS (u' ++ [y] ++ [x]) ++ E = A ++ u' ++ y :: (x :: E) := by rw [sortS_id hsr]; simp
      rw [e2] at hE
      exact hE
theorem dec_l1 {cs R x7 : List Int} {x6 : Int} : ∀ (n j : Nat) (A S : List Int), x7.length ≤ j + n → j ≤ x7.length → x7.length < 1000000 → Tail A S → (∀ x ∈ x7, hasS x = true) → (A ++ S).length + n < 900000 →
    (∀ A' S', Tail A' S' → (A' ++ S').length ≤ (A ++ S).length + n → (x7.drop j).foldl stepR (A, S) = (A', S') → Ev (fun k => bookplateref05_decomposed.l0 k cs (A' ++ S') (wrap64 (x6 + 1))) R) →
    Ev (fun k => bookplateref05_decomposed.l1 k cs (A ++ S) x6 x7 (j : Int)) R := by
  intro n
  induction n with
  | zero =>
    intro j A S h1 h2 hx7 hT hh hl hE
    have hj : j = x7.length := by omega
    subst hj
    refine Ev.step (fun k => ?_) (hE A S hT (by omega) (by rw [List.drop_length]; rfl))
    rw [bookplateref05_decomposed.l1, if_neg (by omega)]
  | succ n ih =>
    intro j A S h1 h2 hx7 hT hh hl hE
    by_cases hj : j < x7.length
    · have hx := hh _ (List.getElem_mem hj)
      have hrd := rd_get (xs := x7) hj
      have hdr : x7.drop j = x7[j] :: x7.drop (j + 1) := List.drop_eq_getElem_cons hj
      generalize x7[j] = x at hx hrd hdr
      have hlen : (((A ++ S ++ [x]).length : Nat) : Int) - 1 = (((A ++ S).length : Nat) : Int) := by simp; omega
      have hw : wrap64 ((((A ++ S ++ [x]).length : Nat) : Int) - 1) = (((A ++ S).length : Nat) : Int) := by rw [w64i (by simp; omega) (by simp at hl ⊢; omega), hlen]
      refine Ev.step (g' := fun k => bookplateref05_decomposed.l2 k cs (A ++ S ++ [x]) x6 x7 (j : Int) (((A ++ S).length : Nat) : Int)) (fun k => ?_) ?_
      · rw [bookplateref05_decomposed.l1, if_pos (by omega), if_pos (by omega), if_pos (by omega), hrd]
        simp only [Option.bind_some]
        rw [hw]
      · cases hm : isMk x with
        | true =>
          have hst : stepR (A, S) x = (A, sortS (S ++ [x])) := by unfold stepR; rw [if_pos hm]
          have hrec := ih (j + 1) A (sortS (S ++ [x])) (by omega) (by omega) hx7 (hT.mark hm) hh (by simp [sortS_length] at hl ⊢; omega) (fun A' S' t1 t2 t3 => hE A' S' t1 (by simp [sortS_length] at t2 ⊢; omega) (by rw [hdr, List.foldl_cons, hst]; exact t3))
          have e1 : (((A ++ S).length : Nat) : Int) = (A.length : Int) + (S.length : Int) := by simp
          have := dec_l2 (cs := cs) (x7 := x7) (R := R) (x6 := x6) (x8 := (j : Int)) S.length S A [] x rfl hT.last hT.marks hT.srt hm (fun y hy => hT.has y (by simp [hy])) (by simp at hl; omega) (by rw [List.append_nil, w64n j (by omega)]; exact hrec)
          rw [e1]
          exact this
        | false =>
          have hst : stepR (A, S) x = (A ++ S ++ [x], []) := by unfold stepR; rw [if_neg (by rw [hm]; decide)]
          have hrec := ih (j + 1) (A ++ S ++ [x]) [] (by omega) (by omega) hx7 (hT.other hm hx) hh (by simp at hl ⊢; omega) (fun A' S' t1 t2 t3 => hE A' S' t1 (by simp at t2 ⊢; omega) (by rw [hdr, List.foldl_cons, hst]; exact t3))
          rw [List.append_nil] at hrec
          have m0 : mcl x = 0 := by unfold mcl; rw [if_neg (by rw [hm]; decide)]
          by_cases h0 : A ++ S = []
          · rw [h0] at hrec ⊢
            refine Ev.step (fun k => ?_) hrec
            rw [bookplateref05_decomposed.l2, if_neg (by simp), w64n j (by omega)]
          · obtain ⟨P, y, hP⟩ : ∃ P y, A ++ S = P ++ [y] := ⟨_, _, (List.dropLast_concat_getLast h0).symm⟩
            rw [hP] at hrec ⊢
            have e1 : (((P ++ [y]).length : Nat) : Int) = (P.length : Int) + 1 := by simp
            have e2 : P ++ [y] ++ [x] = P ++ y :: (x :: []) := by simp
            rw [e1]
            rw [e2] at hrec ⊢
            refine Ev.step (l2_step cs x7 x6 (j : Int) P [] x y (by rw [hP] at hl; simp at hl; omega)) (Ev.bind (ev_class x hx) ?_)
            refine Ev.congr (fun k => if_neg (by omega)) ?_
            rw [w64n j (by omega)]
            exact hrec
    · have hj : j = x7.length := by omega
      subst hj
      refine Ev.step (fun k => ?_) (hE A S hT (by omega) (by rw [List.drop_length]; rfl))
      rw [bookplateref05_decomposed.l1, if_neg (by omega)]
theorem dec_l0 {cs : List Int} (hh : ∀ c ∈ cs, hasS c = true) (hcs : cs.length ≤ 100000) : ∀ (n i : Nat) (A S : List Int), cs.length ≤ i + n → i ≤ cs.length → Tail A S → (A ++ S).length + 2 * n ≤ 200000 →
    Ev (fun k => bookplateref05_decomposed.l0 k cs (A ++ S) (i : Int)) (outR (((cs.drop i).flatMap splitS).foldl stepR (A, S))) := by
  intro n
  induction n with
  | zero =>
    intro i A S h1 h2 hT hl
    have hi : i = cs.length := by omega
    subst hi
    rw [List.drop_length]
    refine Ev.step (g' := fun _ => some (A ++ S)) (fun k => ?_) (Ev.const _)
    rw [bookplateref05_decomposed.l0, if_neg (by omega)]
  | succ n ih =>
    intro i A S h1 h2 hT hl
    by_cases hi : i < cs.length
    · have hx := hh _ (List.getElem_mem hi)
      have hrd := rd_get (xs := cs) hi
      have hdr : cs.drop i = cs[i] :: cs.drop (i + 1) := List.drop_eq_getElem_cons hi
      generalize cs[i] = c at hx hrd hdr
      have hsl := split_len c
      refine Ev.step (g' := fun k => (bookplateref05_whole.f k c).bind fun t273 => bookplateref05_decomposed.l1 k cs (A ++ S) (i : Int) t273 0) (fun k => ?_) (Ev.bind (ev_whole c hx) ?_)
      · rw [bookplateref05_decomposed.l0, if_pos (by omega), if_pos (by omega), hrd]
      · have := dec_l1 (cs := cs) (R := outR (((cs.drop i).flatMap splitS).foldl stepR (A, S))) (x7 := splitS c) (x6 := (i : Int)) (splitS c).length 0 A S (by omega) (by omega) (by omega) hT (split_has hx) (by omega) (fun A' S' t1 t2 t3 => by
          rw [w64n i (by omega)]
          have := ih (i + 1) A' S' (by omega) (by omega) t1 (by omega)
          rw [hdr, List.flatMap_cons, List.foldl_append]
          rw [List.drop_zero] at t3
          rw [t3]
          exact this)
        exact this
    · have hi : i = cs.length := by omega
      subst hi
      rw [List.drop_length]
      refine Ev.step (g' := fun _ => some (A ++ S)) (fun k => ?_) (Ev.const _)
      rw [bookplateref05_decomposed.l0, if_neg (by omega)]
theorem dec_small (s : ByteArray) (hs : s.size ≤ 50000) : (decR [] s.data.toList).1.length ≤ 50000 ∧ ∀ c ∈ (decR [] s.data.toList).1, hasS c = true := by
  unfold decR
  cases hd : decS hasS s.data.toList with
  | none => simp
  | some cs =>
    have h1 := (decS_back hd).1
    have h2 := encL_ge cs
    rw [← h1] at h2
    have h3 : s.data.toList.length = s.size := Array.length_toList
    exact ⟨by simp; omega, by simpa using fun c hc => ((decS_back hd).2 c hc).2⟩
theorem ev_decomposed (s : ByteArray) (hs : s.size ≤ 50000) : Ev (fun k => bookplateref05_decomposed.f k s) (decD (decR [] s.data.toList).1) := by
  obtain ⟨h1, h2⟩ := dec_small s hs
  refine Ev.congr (g' := fun k => (bookplateref04_Decode.f k s).bind fun bt268 => bookplateref05_decomposed.l0 k bt268.1 ([] : List Int) 0) (fun k => rfl) (Ev.bind (ev_decode s (by omega)) ?_)
  have := dec_l0 h2 (by omega) (decR [] s.data.toList).1.length 0 [] [] (by omega) (by omega) Tail.nil (by simp; omega)
  rw [List.drop_zero, fold_run _ [] [] (by simp) (by simp [Srt]), List.nil_append, List.nil_append] at this
  exact this
end Go.Proofs.YthcpdhniakpbaaaDoor.X
end

section
namespace Go.Proofs.YthcpdhniakpbaaaDoor.X
open Go.RowKit Go.Sort Go.Lib Go.Proofs.YthcpdhniakpbaaaDoorW.PrintWords Go.Proofs.YthcpdhniakpbaaaDoorW.PrintLast Go.Proofs.YthcpdhniakpbaaaDoorW.PrintMore
set_option linter.unusedVariables false
set_option linter.unusedSimpArgs false
def chs (s : ByteArray) : List Int := (decR [] s.data.toList).1
def okS (s : ByteArray) : Bool := (decR [] s.data.toList).2
theorem decD_has {cs : List Int} (h : ∀ c ∈ cs, hasS c = true) : ∀ x ∈ decD cs, hasS x = true := fun x hx => flat_has h x ((runS_mem _ _ (Nat.le_refl _) x).1 hx)
theorem decD_len (cs : List Int) : (decD cs).length ≤ 2 * cs.length := by
  unfold decD
  rw [runS_length _ _ (Nat.le_refl _)]
  exact flat_len cs
theorem chs_has (s : ByteArray) : ∀ c ∈ chs s, hasS c = true := by
  unfold chs decR
  cases hd : decS hasS s.data.toList with
  | none => simp
  | some cs => simpa using fun c hc => ((decS_back hd).2 c hc).2
theorem chs_len (s : ByteArray) : (chs s).length ≤ s.size := by
  unfold chs decR
  cases hd : decS hasS s.data.toList with
  | none => simp
  | some cs =>
    have h1 := (decS_back hd).1
    have h2 := encL_ge cs
    rw [← h1] at h2
    have h3 : s.data.toList.length = s.size := Array.length_toList
    simp
    omega
def bytesOfL (l : List Int) : ByteArray := ⟨(encL l).toArray⟩
theorem ev_refDecompose (s : ByteArray) (hs : s.size ≤ 50000) : Ev (fun k => bookplateref05_Decompose.f k s) (bytesOfL (decD (chs s))) := by
  refine Ev.bind (ev_decomposed s hs) (Ev.bind (ev_encode _ ?_ (decD_has (chs_has s))) (Ev.const _))
  have := decD_len (chs s); have := chs_len s; unfold chs at *; omega
theorem ev_refEncoded (s : ByteArray) (hs : s.size ≤ 50000) : Ev (fun k => bookplateref05_encoded.f k s) (okS s) := Ev.bind (ev_decode s (by omega)) (Ev.const _)
theorem ev_refEqual (a b : ByteArray) (ha : a.size ≤ 50000) (hb : b.size ≤ 50000) : Ev (fun k => bookplateref05_Equal.f k a b) (okS a && (okS b && ((bytesOfL (decD (chs a))).toList == (bytesOfL (decD (chs b))).toList))) := by
  refine Ev.bind (ev_refEncoded a ha) ?_
  cases okS a with
  | false => exact Ev.congr (fun k => if_neg (by decide)) (Ev.const _)
  | true =>
    refine Ev.congr (fun k => if_pos rfl) (Ev.bind (ev_refEncoded b hb) ?_)
    cases okS b with
    | false => exact Ev.congr (fun k => if_neg (by decide)) (Ev.const _)
    | true => exact Ev.congr (fun k => if_pos rfl) (Ev.bind (ev_refDecompose a ha) (Ev.bind (ev_refDecompose b hb) (Ev.const _)))
def cntM (l : List Int) : Nat := (l.filter isMk).length
theorem cntM_cons (c : Int) (l : List Int) : cntM (c :: l) = (if isMk c = true then 1 else 0) + cntM l := by
  unfold cntM
  rw [List.filter_cons]
  split <;> simp <;> omega
end Go.Proofs.YthcpdhniakpbaaaDoor.X
end

section
namespace Go.Proofs.YthcpdhniakpbaaaDoor.X
open Go.RowKit Go.Proofs.YthcpdhniakpbaaaDoorW.PrintWords Go.Proofs.YthcpdhniakpbaaaDoorW.PrintLast Go.Proofs.YthcpdhniakpbaaaDoorW.PrintMore
attribute [local go_sem] max2_int min2_int max_two min_two max_three min_three max_four min_four
set_option linter.unusedVariables false
set_option linter.unusedSimpArgs false
def normal_Decompose.f (a0 : ByteArray) : Option (ByteArray) := (normal_decomposed.f a0).bind fun bt585 => ((normal_text.f bt585.1).bind fun t589 => (some t589))
set_option maxHeartbeats 8000000 in
set_option maxRecDepth 100000 in
theorem normal_Decompose.calls (a0 : ByteArray) (r : ByteArray) (w : World) (hG : GT1 w) (h : normal_Decompose.f a0 = some r) :
    Calls Tryd.prog 38 #[.string a0] w fun e w' => e = .returned (.string r) ∧ Below w.heap.size w w' := by
  have HG := Aside0.mk hG
  clear hG
  have HB := Aside0.mk (Below.refl w.heap.size w)
  have H : ((normal_decomposed.f a0).bind fun bt585 => ((normal_text.f bt585.1).bind fun t589 => (some t589))) = some r := h
  clear h
  replace H := Option.bind_eq_some_iff.mp H
  obtain ⟨⟨t585, t586⟩, A20, H⟩ := H
  replace H : ((normal_text.f t585).bind fun t589 => (some t589)) = some r := H
  have A2 := Aside0.mk A20
  clear A20
  replace H := Option.bind_eq_some_iff.mp H
  obtain ⟨t589, A30, H⟩ := H
  replace H : (some t589) = some r := H
  have A3 := Aside0.mk A30
  clear A30
  obtain rfl := Option.some.inj H
  go_enter Tryd.func38, Tryd.ntmps38
  go_wp2_with (first | ((with_reducible refine gate_callee (f := 64) rfl ?_); refine goesL_ (some 7) rfl rfl Tryd.func64 (by kernel_rfl) rfl #[.string a0] rfl (by (try simp only [List.map_toArray, List.map_cons, List.map_nil]); first | done | rfl | (simp only [List.length_drop, List.length_take]; rfl)) ?_; (with_reducible refine (normal_decomposed.calls a0 t585 t586 _ ?side1 A2.out).mono ?_); (case side1 => exact GT1.below (HG.out) (by repeat (first | (with_reducible first | exact HB.out | apply below_alloc | apply pw_below_drewN | apply below_drew1) | exact HB.out))); rintro e w4 ⟨v587, rfl, ho0, hb⟩; refine ⟨_, rfl, ?_⟩; have n0_ := Aside0.mk (Kd.R_lower ho0 (below_size (by repeat (first | (with_reducible first | exact HB.out | apply below_alloc | apply pw_below_drewN | apply below_drew1) | exact HB.out)))); have n1_ := Aside0.mk (below_step (by repeat (first | (with_reducible first | exact HB.out | apply below_alloc | apply pw_below_drewN | apply below_drew1) | exact HB.out)) hb); clear HB; have HO588 := n0_; have HB := n1_; clear n0_ n1_; (try clear hb); (try clear hb2); (try clear hk); (try clear hi); (try clear ho0); obtain ⟨Ao5, co5, eo5⟩ := Kd.R_slice HO588.out; subst eo5) | ((with_reducible refine gate_callee (f := 65) rfl ?_); refine goesL_ (some 11) rfl rfl Tryd.func65 (by kernel_rfl) rfl #[.slice Ao5 t585.length co5] rfl (by (try simp only [List.map_toArray, List.map_cons, List.map_nil]); first | done | rfl | (simp only [List.length_drop, List.length_take]; rfl)) ?_; (with_reducible refine (normal_text.calls _ _ t585 t589 _ ?side1 ?side2 A3.out).mono ?_); (case side1 => repeat (first | exact (Kd.R_reads' HO588.out).2.2 | (with_reducible refine Kd.C_alloc ?_ _) | (with_reducible refine Kd.C_drewN ?_ _) | (with_reducible refine Kd.C_drew ?_))); (case side2 => exact (Kd.R_reads' HO588.out).2.1); rintro e w6 ⟨rfl, hb⟩; refine ⟨_, rfl, ?_⟩; have n0_ := Aside0.mk (Kd.R_below (by (with_reducible repeat (first | apply Kd.R_alloc | apply Kd.R_drewN | apply Kd.R_drew)); exact HO588.out) hb); have n1_ := Aside0.mk (below_step (by repeat (first | (with_reducible first | exact HB.out | apply below_alloc | apply pw_below_drewN | apply below_drew1) | exact HB.out)) hb); clear HO588; clear HB; have HO588 := n0_; have HB := n1_; clear n0_ n1_; (try clear hb); (try clear hb2); (try clear hk); (try clear hi)))
  go_ret
  exact ⟨by first | rfl | (simp [errW_none, errW_some] <;> rfl) | (simp [*, errW_none, errW_some] <;> rfl), by repeat (first | (with_reducible first | exact HB.out | apply below_alloc | apply pw_below_drewN | apply below_drew1) | exact HB.out)⟩
def normal_Marks.l0 : Nat → Int → List Int → Int → Int → Option (Int)
  | 0, _, _, _, _ => none
  | k + 1, x3, x13, x14, x15 => if x15 < x14 then (if 0 ≤ x15 then (if x15 < (x13.length : Int) then ((normal_mark.f k (rd x13 x15)).bind fun t595 => (if t595 = true then (normal_Marks.l0 k (wrap64 (x3 + 1)) x13 x14 (wrap64 (x15 + 1))) else (normal_Marks.l0 k x3 x13 x14 (wrap64 (x15 + 1))))) else (none)) else (none)) else (some x3)
def normal_Marks.f (k : Nat) (a0 : ByteArray) : Option (Int) := (normal_decomposed.f a0).bind fun bt590 => (normal_Marks.l0 k 0 bt590.1 (bt590.1.length : Int) 0)
set_option maxHeartbeats 8000000 in
set_option maxRecDepth 100000 in
theorem normal_Marks.calls (k : Nat) (a0 : ByteArray) (r : Int) (w : World) (hG : GT1 w) (h : normal_Marks.f k a0 = some r) :
    Calls Tryd.prog 46 #[.string a0] w fun e w' => e = .returned (.int .i64 r) ∧ Below w.heap.size w w' := by
  have HG := Aside0.mk hG
  clear hG
  have HB := Aside0.mk (Below.refl w.heap.size w)
  have H : ((normal_decomposed.f a0).bind fun bt590 => (normal_Marks.l0 k 0 bt590.1 (bt590.1.length : Int) 0)) = some r := h
  clear h
  replace H := Option.bind_eq_some_iff.mp H
  obtain ⟨⟨t590, t591⟩, A20, H⟩ := H
  replace H : (normal_Marks.l0 k 0 t590 (t590.length : Int) 0) = some r := H
  have A2 := Aside0.mk A20
  clear A20
  have H' := Aside0.mk H
  clear H
  go_enter Tryd.func46, Tryd.ntmps46
  go_wp2_with (first | ((with_reducible refine gate_callee (f := 64) rfl ?_); refine goesL_ (some 10) rfl rfl Tryd.func64 (by kernel_rfl) rfl #[.string a0] rfl (by (try simp only [List.map_toArray, List.map_cons, List.map_nil]); first | done | rfl | (simp only [List.length_drop, List.length_take]; rfl)) ?_; (with_reducible refine (normal_decomposed.calls a0 t590 t591 _ ?side1 A2.out).mono ?_); (case side1 => exact GT1.below (HG.out) (by repeat (first | (with_reducible first | exact HB.out | apply below_alloc | apply pw_below_drewN | apply below_drew1) | exact HB.out))); rintro e w3 ⟨v592, rfl, ho0, hb⟩; refine ⟨_, rfl, ?_⟩; have n0_ := Aside0.mk (Kd.R_lower ho0 (below_size (by repeat (first | (with_reducible first | exact HB.out | apply below_alloc | apply pw_below_drewN | apply below_drew1) | exact HB.out)))); have n1_ := Aside0.mk (below_step (by repeat (first | (with_reducible first | exact HB.out | apply below_alloc | apply pw_below_drewN | apply below_drew1) | exact HB.out)) hb); clear HB; have HO593 := n0_; have HB := n1_; clear n0_ n1_; (try clear hb); (try clear hb2); (try clear hk); (try clear hi); (try clear ho0); obtain ⟨Ao4, co4, eo4⟩ := Kd.R_slice HO593.out; subst eo4))
  go_loopg [3, 15] k (fun kq v3 v15 w' => ∃ (x3_1 : Int) (x15_1 : Int), v3 = .int .i64 x3_1 ∧ v15 = .int .i64 x15_1 ∧ Aside0 (normal_Marks.l0 kq x3_1 t590 (t590.length : Int) x15_1 = some r) ∧ Aside0 (kq ≤ k) ∧ Aside0 (Kd.R (Kd.int .i64) 3 w' w.heap.size (fun _ => True) (.slice Ao4 t590.length co4) t590) ∧ Aside0 (Below w.heap.size w w'))
  case atStart => exact ⟨(0), (0), (by first | rfl | (simp; done) | (simp [*]; done)), (by first | rfl | (simp; done) | (simp [*]; done)), H', ⟨Nat.le_refl _⟩, ⟨by (with_reducible repeat (first | apply Kd.R_alloc | apply Kd.R_drewN | apply Kd.R_drew)); exact HO593.out⟩, ⟨by repeat (first | (with_reducible first | exact HB.out | apply below_alloc | apply pw_below_drewN | apply below_drew1) | exact HB.out)⟩⟩
  case round =>
    clear H'
    try clear p2
    try clear c4
    obtain ⟨x3_1, x15_1, rfl, rfl, HA, HK1, HO_13, HB⟩ := hrel
    cases gk with
    | zero => exact absurd HA.out (by simp [normal_Marks.l0])
    | succ k1 =>
      have H := HA.out
      clear HA
      simp only [normal_Marks.l0] at H
      by_cases c5 : x15_1 < (t590.length : Int)
      · rw [if_pos c5] at H
        have c5b0 : decide (x15_1 < (t590.length : Int)) = true := decide_eq_true c5
        clear c5
        by_cases c6 : 0 ≤ x15_1
        · rw [if_pos c6] at H
          have c6b0 : decide (0 ≤ x15_1) = true := decide_eq_true c6
          clear c6
          by_cases c7 : x15_1 < (t590.length : Int)
          · rw [if_pos c7] at H
            have c7b0 : decide (x15_1 < (t590.length : Int)) = true := decide_eq_true c7
            clear c7
            replace H := Option.bind_eq_some_iff.mp H
            obtain ⟨t595, A80, H⟩ := H
            replace H : (if t595 = true then (normal_Marks.l0 k1 (wrap64 (x3_1 + 1)) t590 (t590.length : Int) (wrap64 (x15_1 + 1))) else (normal_Marks.l0 k1 x3_1 t590 (t590.length : Int) (wrap64 (x15_1 + 1)))) = some r := H
            have A8 := Aside0.mk A80
            clear A80
            by_cases c9 : t595 = true
            · subst c9
              have H1 : (normal_Marks.l0 k1 (wrap64 (x3_1 + 1)) t590 (t590.length : Int) (wrap64 (x15_1 + 1))) = some r := by rw [if_pos rfl] at H; exact H
              clear H
              have H := H1
              clear H1
              have H' := Aside0.mk H
              clear H
              have p594 : 0 ≤ (x15_1 : Int) := of_decide_eq_true (by first | (with_reducible assumption) | assumption)
              have q594 : x15_1 < (t590.length : Int) := of_decide_eq_true (by first | (with_reducible assumption) | assumption)
              obtain ⟨ad594, e594, hx594_0⟩ := Kd.at_int (Kd.R_reads' HO_13.out).2.2 x15_1 p594 q594
              cases e594
              replace p594 := eq_true p594
              replace q594 := eq_true q594
              go_wp2_with (first | ((with_reducible refine gate_callee (f := 67) rfl ?_); refine goesL_ (some 20) rfl rfl Tryd.func67 (by kernel_rfl) rfl #[.int .i64 (rd t590 x15_1)] rfl (by (try simp only [List.map_toArray, List.map_cons, List.map_nil]); first | done | rfl | (simp only [List.length_drop, List.length_take]; rfl)) ?_; (with_reducible refine (normal_mark.calls k1 (rd t590 x15_1) true _ A8.out).mono ?_); rintro e w' ⟨rfl, ⟨nd, rfl⟩⟩; refine ⟨_, rfl, ?_⟩))
              go_roundg k1
              case measure => have := HK1.out; omega
              case rel => exact ⟨(wrap64 (x3_1 + 1)), (wrap64 (x15_1 + 1)), (by first | rfl | (simp; done) | (simp [*]; done)), (by first | rfl | (simp; done) | (simp [*]; done)), H', ⟨by have := HK1.out; omega⟩, ⟨by (with_reducible repeat (first | apply Kd.R_alloc | apply Kd.R_drewN | apply Kd.R_drew)); exact HO_13.out⟩, ⟨by repeat (first | (with_reducible first | exact HB.out | apply below_alloc | apply pw_below_drewN | apply below_drew1) | exact HB.out)⟩⟩
            · replace c9 := Bool.eq_false_iff.mpr c9
              subst c9
              have H1 : (normal_Marks.l0 k1 x3_1 t590 (t590.length : Int) (wrap64 (x15_1 + 1))) = some r := by rw [if_neg (show ¬ (false = true) by decide)] at H; exact H
              clear H
              have H := H1
              clear H1
              have H' := Aside0.mk H
              clear H
              have p594 : 0 ≤ (x15_1 : Int) := of_decide_eq_true (by first | (with_reducible assumption) | assumption)
              have q594 : x15_1 < (t590.length : Int) := of_decide_eq_true (by first | (with_reducible assumption) | assumption)
              obtain ⟨ad594, e594, hx594_0⟩ := Kd.at_int (Kd.R_reads' HO_13.out).2.2 x15_1 p594 q594
              cases e594
              replace p594 := eq_true p594
              replace q594 := eq_true q594
              go_wp2_with (first | ((with_reducible refine gate_callee (f := 67) rfl ?_); refine goesL_ (some 20) rfl rfl Tryd.func67 (by kernel_rfl) rfl #[.int .i64 (rd t590 x15_1)] rfl (by (try simp only [List.map_toArray, List.map_cons, List.map_nil]); first | done | rfl | (simp only [List.length_drop, List.length_take]; rfl)) ?_; (with_reducible refine (normal_mark.calls k1 (rd t590 x15_1) false _ A8.out).mono ?_); rintro e w' ⟨rfl, ⟨nd, rfl⟩⟩; refine ⟨_, rfl, ?_⟩))
              go_roundg k1
              case measure => have := HK1.out; omega
              case rel => exact ⟨(x3_1), (wrap64 (x15_1 + 1)), (by first | rfl | (simp; done) | (simp [*]; done)), (by first | rfl | (simp; done) | (simp [*]; done)), H', ⟨by have := HK1.out; omega⟩, ⟨by (with_reducible repeat (first | apply Kd.R_alloc | apply Kd.R_drewN | apply Kd.R_drew)); exact HO_13.out⟩, ⟨by repeat (first | (with_reducible first | exact HB.out | apply below_alloc | apply pw_below_drewN | apply below_drew1) | exact HB.out)⟩⟩
          · rw [if_neg c7] at H
            exact absurd H (by simp)
        · rw [if_neg c6] at H
          exact absurd H (by simp)
      · rw [if_neg c5] at H
        have c5b0 : decide (x15_1 < (t590.length : Int)) = false := decide_eq_false c5
        clear c5
        obtain rfl := Option.some.inj H
        go_wp2
        go_ret
        exact ⟨by first | rfl | (simp [errW_none, errW_some] <;> rfl) | (simp [*, errW_none, errW_some] <;> rfl), by repeat (first | (with_reducible first | exact HB.out | apply below_alloc | apply pw_below_drewN | apply below_drew1) | exact HB.out)⟩
def normal_Equal.f (k : Nat) (a0 : ByteArray) (a1 : ByteArray) : Option (Bool) := (normal_decomposed.f a0).bind fun bt596 => ((normal_decomposed.f a1).bind fun bt600 => (if bt596.2 = true then (if bt600.2 = true then ((slices_Equal_int_int.f k bt596.1 bt600.1).bind fun t604 => (some t604)) else (some false)) else (some false)))
set_option maxHeartbeats 8000000 in
set_option maxRecDepth 100000 in
theorem normal_Equal.calls (k : Nat) (a0 : ByteArray) (a1 : ByteArray) (r : Bool) (w : World) (hG : GT1 w) (h : normal_Equal.f k a0 a1 = some r) :
    Calls Tryd.prog 48 #[.string a0, .string a1] w fun e w' => e = .returned (.bool r) ∧ Below w.heap.size w w' := by
  have HG := Aside0.mk hG
  clear hG
  have HB := Aside0.mk (Below.refl w.heap.size w)
  have H : ((normal_decomposed.f a0).bind fun bt596 => ((normal_decomposed.f a1).bind fun bt600 => (if bt596.2 = true then (if bt600.2 = true then ((slices_Equal_int_int.f k bt596.1 bt600.1).bind fun t604 => (some t604)) else (some false)) else (some false)))) = some r := h
  clear h
  replace H := Option.bind_eq_some_iff.mp H
  obtain ⟨⟨t596, t597⟩, A30, H⟩ := H
  replace H : ((normal_decomposed.f a1).bind fun bt600 => (if t597 = true then (if bt600.2 = true then ((slices_Equal_int_int.f k t596 bt600.1).bind fun t604 => (some t604)) else (some false)) else (some false))) = some r := H
  have A3 := Aside0.mk A30
  clear A30
  replace H := Option.bind_eq_some_iff.mp H
  obtain ⟨⟨t600, t601⟩, A40, H⟩ := H
  replace H : (if t597 = true then (if t601 = true then ((slices_Equal_int_int.f k t596 t600).bind fun t604 => (some t604)) else (some false)) else (some false)) = some r := H
  have A4 := Aside0.mk A40
  clear A40
  by_cases c5 : t597 = true
  · subst c5
    have H1 : (if t601 = true then ((slices_Equal_int_int.f k t596 t600).bind fun t604 => (some t604)) else (some false)) = some r := by rw [if_pos rfl] at H; exact H
    clear H
    have H := H1
    clear H1
    by_cases c6 : t601 = true
    · subst c6
      have H1 : ((slices_Equal_int_int.f k t596 t600).bind fun t604 => (some t604)) = some r := by rw [if_pos rfl] at H; exact H
      clear H
      have H := H1
      clear H1
      replace H := Option.bind_eq_some_iff.mp H
      obtain ⟨t604, A70, H⟩ := H
      replace H : (some t604) = some r := H
      have A7 := Aside0.mk A70
      clear A70
      obtain rfl := Option.some.inj H
      go_enter Tryd.func48, Tryd.ntmps48
      go_wp2_with (first | ((with_reducible refine gate_callee (f := 64) rfl ?_); refine goesL_ (some 11) rfl rfl Tryd.func64 (by kernel_rfl) rfl #[.string a0] rfl (by (try simp only [List.map_toArray, List.map_cons, List.map_nil]); first | done | rfl | (simp only [List.length_drop, List.length_take]; rfl)) ?_; (with_reducible refine (normal_decomposed.calls a0 t596 true _ ?side1 A3.out).mono ?_); (case side1 => exact GT1.below (HG.out) (by repeat (first | (with_reducible first | exact HB.out | apply below_alloc | apply pw_below_drewN | apply below_drew1) | exact HB.out))); rintro e w8 ⟨v598, rfl, ho0, hb⟩; refine ⟨_, rfl, ?_⟩; have n0_ := Aside0.mk (Kd.R_lower ho0 (below_size (by repeat (first | (with_reducible first | exact HB.out | apply below_alloc | apply pw_below_drewN | apply below_drew1) | exact HB.out)))); have n1_ := Aside0.mk (below_step (by repeat (first | (with_reducible first | exact HB.out | apply below_alloc | apply pw_below_drewN | apply below_drew1) | exact HB.out)) hb); clear HB; have HO599 := n0_; have HB := n1_; clear n0_ n1_; (try clear hb); (try clear hb2); (try clear hk); (try clear hi); (try clear ho0)) | ((with_reducible refine gate_callee (f := 64) rfl ?_); refine goesL_ (some 16) rfl rfl Tryd.func64 (by kernel_rfl) rfl #[.string a1] rfl (by (try simp only [List.map_toArray, List.map_cons, List.map_nil]); first | done | rfl | (simp only [List.length_drop, List.length_take]; rfl)) ?_; (with_reducible refine (normal_decomposed.calls a1 t600 true _ ?side1 A4.out).mono ?_); (case side1 => exact GT1.below (HG.out) (by repeat (first | (with_reducible first | exact HB.out | apply below_alloc | apply pw_below_drewN | apply below_drew1) | exact HB.out))); rintro e w9 ⟨v602, rfl, ho0, hb⟩; refine ⟨_, rfl, ?_⟩; have n0_ := Aside0.mk (Kd.R_elder' (by (with_reducible repeat (first | apply Kd.R_alloc | apply Kd.R_drewN | apply Kd.R_drew)); exact HO599.out) (Kd.R_base ho0) hb); have n1_ := Aside0.mk (Kd.R_lower (Kd.R_new' ho0 (Kd.R_lt (by (with_reducible repeat (first | apply Kd.R_alloc | apply Kd.R_drewN | apply Kd.R_drew)); exact HO599.out))) (below_size (by repeat (first | (with_reducible first | exact HB.out | apply below_alloc | apply pw_below_drewN | apply below_drew1) | exact HB.out)))); have n2_ := Aside0.mk (below_step (by repeat (first | (with_reducible first | exact HB.out | apply below_alloc | apply pw_below_drewN | apply below_drew1) | exact HB.out)) hb); clear HO599; clear HB; have HO599 := n0_; have HO603 := n1_; have HB := n2_; clear n0_ n1_ n2_; (try clear hb); (try clear hb2); (try clear hk); (try clear hi); (try clear ho0); obtain ⟨Ao10, co10, eo10⟩ := Kd.R_slice HO599.out; subst eo10; obtain ⟨Ao11, co11, eo11⟩ := Kd.R_slice HO603.out; subst eo11) | (go_at_call 74; (with_reducible refine (slices_Equal_int_int.calls k _ _ t596 _ _ t600 t604 _ ?side1 ?side2 ?side3 ?side4 A7.out).mono ?_); (case side1 => repeat (first | exact (Kd.R_reads' HO599.out).2.2 | (with_reducible refine Kd.C_alloc ?_ _) | (with_reducible refine Kd.C_drewN ?_ _) | (with_reducible refine Kd.C_drew ?_))); (case side2 => exact (Kd.R_reads' HO599.out).2.1); (case side3 => repeat (first | exact (Kd.R_reads' HO603.out).2.2 | (with_reducible refine Kd.C_alloc ?_ _) | (with_reducible refine Kd.C_drewN ?_ _) | (with_reducible refine Kd.C_drew ?_))); (case side4 => exact (Kd.R_reads' HO603.out).2.1); rintro e w' ⟨rfl, ⟨nd, rfl⟩⟩))
      go_ret
      exact ⟨by first | rfl | (simp [errW_none, errW_some] <;> rfl) | (simp [*, errW_none, errW_some] <;> rfl), by repeat (first | (with_reducible first | exact HB.out | apply below_alloc | apply pw_below_drewN | apply below_drew1) | exact HB.out)⟩
    · replace c6 := Bool.eq_false_iff.mpr c6
      subst c6
      have H1 : (some false) = some r := by rw [if_neg (show ¬ (false = true) by decide)] at H; exact H
      clear H
      have H := H1
      clear H1
      obtain rfl := Option.some.inj H
      go_enter Tryd.func48, Tryd.ntmps48
      go_wp2_with (first | ((with_reducible refine gate_callee (f := 64) rfl ?_); refine goesL_ (some 11) rfl rfl Tryd.func64 (by kernel_rfl) rfl #[.string a0] rfl (by (try simp only [List.map_toArray, List.map_cons, List.map_nil]); first | done | rfl | (simp only [List.length_drop, List.length_take]; rfl)) ?_; (with_reducible refine (normal_decomposed.calls a0 t596 true _ ?side1 A3.out).mono ?_); (case side1 => exact GT1.below (HG.out) (by repeat (first | (with_reducible first | exact HB.out | apply below_alloc | apply pw_below_drewN | apply below_drew1) | exact HB.out))); rintro e w12 ⟨v598, rfl, ho0, hb⟩; refine ⟨_, rfl, ?_⟩; have n0_ := Aside0.mk (Kd.R_lower ho0 (below_size (by repeat (first | (with_reducible first | exact HB.out | apply below_alloc | apply pw_below_drewN | apply below_drew1) | exact HB.out)))); have n1_ := Aside0.mk (below_step (by repeat (first | (with_reducible first | exact HB.out | apply below_alloc | apply pw_below_drewN | apply below_drew1) | exact HB.out)) hb); clear HB; have HO599 := n0_; have HB := n1_; clear n0_ n1_; (try clear hb); (try clear hb2); (try clear hk); (try clear hi); (try clear ho0)) | ((with_reducible refine gate_callee (f := 64) rfl ?_); refine goesL_ (some 16) rfl rfl Tryd.func64 (by kernel_rfl) rfl #[.string a1] rfl (by (try simp only [List.map_toArray, List.map_cons, List.map_nil]); first | done | rfl | (simp only [List.length_drop, List.length_take]; rfl)) ?_; (with_reducible refine (normal_decomposed.calls a1 t600 false _ ?side1 A4.out).mono ?_); (case side1 => exact GT1.below (HG.out) (by repeat (first | (with_reducible first | exact HB.out | apply below_alloc | apply pw_below_drewN | apply below_drew1) | exact HB.out))); rintro e w13 ⟨v602, rfl, ho0, hb⟩; refine ⟨_, rfl, ?_⟩; have n0_ := Aside0.mk (Kd.R_elder' (by (with_reducible repeat (first | apply Kd.R_alloc | apply Kd.R_drewN | apply Kd.R_drew)); exact HO599.out) (Kd.R_base ho0) hb); have n1_ := Aside0.mk (Kd.R_lower (Kd.R_new' ho0 (Kd.R_lt (by (with_reducible repeat (first | apply Kd.R_alloc | apply Kd.R_drewN | apply Kd.R_drew)); exact HO599.out))) (below_size (by repeat (first | (with_reducible first | exact HB.out | apply below_alloc | apply pw_below_drewN | apply below_drew1) | exact HB.out)))); have n2_ := Aside0.mk (below_step (by repeat (first | (with_reducible first | exact HB.out | apply below_alloc | apply pw_below_drewN | apply below_drew1) | exact HB.out)) hb); clear HO599; clear HB; have HO599 := n0_; have HO603 := n1_; have HB := n2_; clear n0_ n1_ n2_; (try clear hb); (try clear hb2); (try clear hk); (try clear hi); (try clear ho0)))
      go_ret
      exact ⟨by first | rfl | (simp [errW_none, errW_some] <;> rfl) | (simp [*, errW_none, errW_some] <;> rfl), by repeat (first | (with_reducible first | exact HB.out | apply below_alloc | apply pw_below_drewN | apply below_drew1) | exact HB.out)⟩
  · replace c5 := Bool.eq_false_iff.mpr c5
    subst c5
    have H1 : (some false) = some r := by rw [if_neg (show ¬ (false = true) by decide)] at H; exact H
    clear H
    have H := H1
    clear H1
    obtain rfl := Option.some.inj H
    go_enter Tryd.func48, Tryd.ntmps48
    go_wp2_with (first | ((with_reducible refine gate_callee (f := 64) rfl ?_); refine goesL_ (some 11) rfl rfl Tryd.func64 (by kernel_rfl) rfl #[.string a0] rfl (by (try simp only [List.map_toArray, List.map_cons, List.map_nil]); first | done | rfl | (simp only [List.length_drop, List.length_take]; rfl)) ?_; (with_reducible refine (normal_decomposed.calls a0 t596 false _ ?side1 A3.out).mono ?_); (case side1 => exact GT1.below (HG.out) (by repeat (first | (with_reducible first | exact HB.out | apply below_alloc | apply pw_below_drewN | apply below_drew1) | exact HB.out))); rintro e w14 ⟨v598, rfl, ho0, hb⟩; refine ⟨_, rfl, ?_⟩; have n0_ := Aside0.mk (Kd.R_lower ho0 (below_size (by repeat (first | (with_reducible first | exact HB.out | apply below_alloc | apply pw_below_drewN | apply below_drew1) | exact HB.out)))); have n1_ := Aside0.mk (below_step (by repeat (first | (with_reducible first | exact HB.out | apply below_alloc | apply pw_below_drewN | apply below_drew1) | exact HB.out)) hb); clear HB; have HO599 := n0_; have HB := n1_; clear n0_ n1_; (try clear hb); (try clear hb2); (try clear hk); (try clear hi); (try clear ho0)) | ((with_reducible refine gate_callee (f := 64) rfl ?_); refine goesL_ (some 16) rfl rfl Tryd.func64 (by kernel_rfl) rfl #[.string a1] rfl (by (try simp only [List.map_toArray, List.map_cons, List.map_nil]); first | done | rfl | (simp only [List.length_drop, List.length_take]; rfl)) ?_; (with_reducible refine (normal_decomposed.calls a1 t600 t601 _ ?side1 A4.out).mono ?_); (case side1 => exact GT1.below (HG.out) (by repeat (first | (with_reducible first | exact HB.out | apply below_alloc | apply pw_below_drewN | apply below_drew1) | exact HB.out))); rintro e w15 ⟨v602, rfl, ho0, hb⟩; refine ⟨_, rfl, ?_⟩; have n0_ := Aside0.mk (Kd.R_elder' (by (with_reducible repeat (first | apply Kd.R_alloc | apply Kd.R_drewN | apply Kd.R_drew)); exact HO599.out) (Kd.R_base ho0) hb); have n1_ := Aside0.mk (Kd.R_lower (Kd.R_new' ho0 (Kd.R_lt (by (with_reducible repeat (first | apply Kd.R_alloc | apply Kd.R_drewN | apply Kd.R_drew)); exact HO599.out))) (below_size (by repeat (first | (with_reducible first | exact HB.out | apply below_alloc | apply pw_below_drewN | apply below_drew1) | exact HB.out)))); have n2_ := Aside0.mk (below_step (by repeat (first | (with_reducible first | exact HB.out | apply below_alloc | apply pw_below_drewN | apply below_drew1) | exact HB.out)) hb); clear HO599; clear HB; have HO599 := n0_; have HO603 := n1_; have HB := n2_; clear n0_ n1_ n2_; (try clear hb); (try clear hb2); (try clear hk); (try clear hi); (try clear ho0)))
    go_ret
    exact ⟨by first | rfl | (simp [errW_none, errW_some] <;> rfl) | (simp [*, errW_none, errW_some] <;> rfl), by repeat (first | (with_reducible first | exact HB.out | apply below_alloc | apply pw_below_drewN | apply below_drew1) | exact HB.out)⟩
end Go.Proofs.YthcpdhniakpbaaaDoor.X
end

section
namespace Go.Proofs.YthcpdhniakpbaaaDoor.X
open Go.RowKit Go.Proofs.YthcpdhniakpbaaaDoorW.PrintWords Go.Proofs.YthcpdhniakpbaaaDoorW.PrintLast Go.Proofs.YthcpdhniakpbaaaDoorW.PrintMore
attribute [local go_sem] max2_int min2_int max_two min_two max_three min_three max_four min_four
set_option linter.unusedVariables false
set_option linter.unusedSimpArgs false
def normal_Is.f (a0 : ByteArray) : Option (Bool) := (normal_Compose.f a0).bind fun t605 => (some (t605.toList == a0.toList))
set_option maxHeartbeats 8000000 in
set_option maxRecDepth 100000 in
theorem normal_Is.calls (a0 : ByteArray) (r : Bool) (w : World) (hG : GT1 w) (h : normal_Is.f a0 = some r) :
    Calls Tryd.prog 42 #[.string a0] w fun e w' => e = .returned (.bool r) ∧ Below w.heap.size w w' := by
  have HG := Aside0.mk hG
  clear hG
  have HB := Aside0.mk (Below.refl w.heap.size w)
  have H : ((normal_Compose.f a0).bind fun t605 => (some (t605.toList == a0.toList))) = some r := h
  clear h
  replace H := Option.bind_eq_some_iff.mp H
  obtain ⟨t605, A20, H⟩ := H
  replace H : (some (t605.toList == a0.toList)) = some r := H
  have A2 := Aside0.mk A20
  clear A20
  obtain rfl := Option.some.inj H
  go_enter Tryd.func42, Tryd.ntmps42
  go_wp2_with (first | ((with_reducible refine gate_callee (f := 40) rfl ?_); refine goesL_ (some 4) rfl rfl Tryd.func40 (by kernel_rfl) rfl #[.string a0] rfl (by (try simp only [List.map_toArray, List.map_cons, List.map_nil]); first | done | rfl | (simp only [List.length_drop, List.length_take]; rfl)) ?_; (with_reducible refine (normal_Compose.calls a0 t605 _ ?side1 A2.out).mono ?_); (case side1 => exact GT1.below (HG.out) (by repeat (first | (with_reducible first | exact HB.out | apply below_alloc | apply pw_below_drewN | apply below_drew1) | exact HB.out))); rintro e w3 ⟨rfl, hb⟩; refine ⟨_, rfl, ?_⟩; have n0_ := Aside0.mk (below_step (by repeat (first | (with_reducible first | exact HB.out | apply below_alloc | apply pw_below_drewN | apply below_drew1) | exact HB.out)) hb); clear HB; have HB := n0_; clear n0_; (try clear hb); (try clear hb2); (try clear hk); (try clear hi)))
  go_ret
  exact ⟨by first | rfl | (simp [errW_none, errW_some] <;> rfl) | (simp [*, errW_none, errW_some] <;> rfl), by repeat (first | (with_reducible first | exact HB.out | apply below_alloc | apply pw_below_drewN | apply below_drew1) | exact HB.out)⟩
def bookplatelaw05_awake.f (k : Nat)  : Option (Bool) := (normal_Decompose.f (⟨#[195, 169]⟩ : ByteArray)).bind fun t606 => (if t606.toList = ([101, 204, 129] : List UInt8) then ((normal_Decompose.f (⟨#[239, 172, 129]⟩ : ByteArray)).bind fun t607 => (if t607.toList = ([102, 105] : List UInt8) then ((normal_Compose.f (⟨#[99, 204, 129, 204, 167]⟩ : ByteArray)).bind fun t608 => (if t608.toList = ([195, 167, 204, 129] : List UInt8) then ((normal_Is.f (⟨#[195, 169]⟩ : ByteArray)).bind fun t609 => (if t609 = true then ((normal_Equal.f k (⟨#[195, 169]⟩ : ByteArray) (⟨#[101, 204, 129]⟩ : ByteArray)).bind fun t610 => (if t610 = true then ((normal_Strip.f (⟨#[195, 169]⟩ : ByteArray)).bind fun t611 => (if t611.toList = ([101] : List UInt8) then ((normal_Marks.f k (⟨#[195, 169]⟩ : ByteArray)).bind fun t612 => (some (t612 == 1))) else (some false))) else (some false))) else (some false))) else (some false))) else (some false))) else (some false))
set_option maxHeartbeats 8000000 in
set_option maxRecDepth 100000 in
theorem bookplatelaw05_awake.calls (k : Nat)  (r : Bool) (w : World) (hG : GT1 w) (h : bookplatelaw05_awake.f k  = some r) :
    Calls Tryd.prog 37 #[] w fun e w' => e = .returned (.bool r) ∧ Below w.heap.size w w' := by
  have HG := Aside0.mk hG
  clear hG
  have HB := Aside0.mk (Below.refl w.heap.size w)
  have H : ((normal_Decompose.f (⟨#[195, 169]⟩ : ByteArray)).bind fun t606 => (if t606.toList = ([101, 204, 129] : List UInt8) then ((normal_Decompose.f (⟨#[239, 172, 129]⟩ : ByteArray)).bind fun t607 => (if t607.toList = ([102, 105] : List UInt8) then ((normal_Compose.f (⟨#[99, 204, 129, 204, 167]⟩ : ByteArray)).bind fun t608 => (if t608.toList = ([195, 167, 204, 129] : List UInt8) then ((normal_Is.f (⟨#[195, 169]⟩ : ByteArray)).bind fun t609 => (if t609 = true then ((normal_Equal.f k (⟨#[195, 169]⟩ : ByteArray) (⟨#[101, 204, 129]⟩ : ByteArray)).bind fun t610 => (if t610 = true then ((normal_Strip.f (⟨#[195, 169]⟩ : ByteArray)).bind fun t611 => (if t611.toList = ([101] : List UInt8) then ((normal_Marks.f k (⟨#[195, 169]⟩ : ByteArray)).bind fun t612 => (some (t612 == 1))) else (some false))) else (some false))) else (some false))) else (some false))) else (some false))) else (some false))) = some r := h
  clear h
  replace H := Option.bind_eq_some_iff.mp H
  obtain ⟨t606, A10, H⟩ := H
  replace H : (if t606.toList = ([101, 204, 129] : List UInt8) then ((normal_Decompose.f (⟨#[239, 172, 129]⟩ : ByteArray)).bind fun t607 => (if t607.toList = ([102, 105] : List UInt8) then ((normal_Compose.f (⟨#[99, 204, 129, 204, 167]⟩ : ByteArray)).bind fun t608 => (if t608.toList = ([195, 167, 204, 129] : List UInt8) then ((normal_Is.f (⟨#[195, 169]⟩ : ByteArray)).bind fun t609 => (if t609 = true then ((normal_Equal.f k (⟨#[195, 169]⟩ : ByteArray) (⟨#[101, 204, 129]⟩ : ByteArray)).bind fun t610 => (if t610 = true then ((normal_Strip.f (⟨#[195, 169]⟩ : ByteArray)).bind fun t611 => (if t611.toList = ([101] : List UInt8) then ((normal_Marks.f k (⟨#[195, 169]⟩ : ByteArray)).bind fun t612 => (some (t612 == 1))) else (some false))) else (some false))) else (some false))) else (some false))) else (some false))) else (some false)) = some r := H
  have A1 := Aside0.mk A10
  clear A10
  by_cases c2 : t606.toList = ([101, 204, 129] : List UInt8)
  · rw [if_pos c2] at H
    have c2b0 : (t606.toList == ([101, 204, 129] : List UInt8)) = true := beq_iff_eq.mpr c2
    have c2b1 : (t606.toList != ([101, 204, 129] : List UInt8)) = false := bne_eq_false_iff_eq.mpr c2
    clear c2
    replace H := Option.bind_eq_some_iff.mp H
    obtain ⟨t607, A30, H⟩ := H
    replace H : (if t607.toList = ([102, 105] : List UInt8) then ((normal_Compose.f (⟨#[99, 204, 129, 204, 167]⟩ : ByteArray)).bind fun t608 => (if t608.toList = ([195, 167, 204, 129] : List UInt8) then ((normal_Is.f (⟨#[195, 169]⟩ : ByteArray)).bind fun t609 => (if t609 = true then ((normal_Equal.f k (⟨#[195, 169]⟩ : ByteArray) (⟨#[101, 204, 129]⟩ : ByteArray)).bind fun t610 => (if t610 = true then ((normal_Strip.f (⟨#[195, 169]⟩ : ByteArray)).bind fun t611 => (if t611.toList = ([101] : List UInt8) then ((normal_Marks.f k (⟨#[195, 169]⟩ : ByteArray)).bind fun t612 => (some (t612 == 1))) else (some false))) else (some false))) else (some false))) else (some false))) else (some false)) = some r := H
    have A3 := Aside0.mk A30
    clear A30
    by_cases c4 : t607.toList = ([102, 105] : List UInt8)
    · rw [if_pos c4] at H
      have c4b0 : (t607.toList == ([102, 105] : List UInt8)) = true := beq_iff_eq.mpr c4
      have c4b1 : (t607.toList != ([102, 105] : List UInt8)) = false := bne_eq_false_iff_eq.mpr c4
      clear c4
      replace H := Option.bind_eq_some_iff.mp H
      obtain ⟨t608, A50, H⟩ := H
      replace H : (if t608.toList = ([195, 167, 204, 129] : List UInt8) then ((normal_Is.f (⟨#[195, 169]⟩ : ByteArray)).bind fun t609 => (if t609 = true then ((normal_Equal.f k (⟨#[195, 169]⟩ : ByteArray) (⟨#[101, 204, 129]⟩ : ByteArray)).bind fun t610 => (if t610 = true then ((normal_Strip.f (⟨#[195, 169]⟩ : ByteArray)).bind fun t611 => (if t611.toList = ([101] : List UInt8) then ((normal_Marks.f k (⟨#[195, 169]⟩ : ByteArray)).bind fun t612 => (some (t612 == 1))) else (some false))) else (some false))) else (some false))) else (some false)) = some r := H
      have A5 := Aside0.mk A50
      clear A50
      by_cases c6 : t608.toList = ([195, 167, 204, 129] : List UInt8)
      · rw [if_pos c6] at H
        have c6b0 : (t608.toList == ([195, 167, 204, 129] : List UInt8)) = true := beq_iff_eq.mpr c6
        have c6b1 : (t608.toList != ([195, 167, 204, 129] : List UInt8)) = false := bne_eq_false_iff_eq.mpr c6
        clear c6
        replace H := Option.bind_eq_some_iff.mp H
        obtain ⟨t609, A70, H⟩ := H
        replace H : (if t609 = true then ((normal_Equal.f k (⟨#[195, 169]⟩ : ByteArray) (⟨#[101, 204, 129]⟩ : ByteArray)).bind fun t610 => (if t610 = true then ((normal_Strip.f (⟨#[195, 169]⟩ : ByteArray)).bind fun t611 => (if t611.toList = ([101] : List UInt8) then ((normal_Marks.f k (⟨#[195, 169]⟩ : ByteArray)).bind fun t612 => (some (t612 == 1))) else (some false))) else (some false))) else (some false)) = some r := H
        have A7 := Aside0.mk A70
        clear A70
        by_cases c8 : t609 = true
        · subst c8
          have H1 : ((normal_Equal.f k (⟨#[195, 169]⟩ : ByteArray) (⟨#[101, 204, 129]⟩ : ByteArray)).bind fun t610 => (if t610 = true then ((normal_Strip.f (⟨#[195, 169]⟩ : ByteArray)).bind fun t611 => (if t611.toList = ([101] : List UInt8) then ((normal_Marks.f k (⟨#[195, 169]⟩ : ByteArray)).bind fun t612 => (some (t612 == 1))) else (some false))) else (some false))) = some r := by rw [if_pos rfl] at H; exact H
          clear H
          have H := H1
          clear H1
          replace H := Option.bind_eq_some_iff.mp H
          obtain ⟨t610, A90, H⟩ := H
          replace H : (if t610 = true then ((normal_Strip.f (⟨#[195, 169]⟩ : ByteArray)).bind fun t611 => (if t611.toList = ([101] : List UInt8) then ((normal_Marks.f k (⟨#[195, 169]⟩ : ByteArray)).bind fun t612 => (some (t612 == 1))) else (some false))) else (some false)) = some r := H
          have A9 := Aside0.mk A90
          clear A90
          by_cases c10 : t610 = true
          · subst c10
            have H1 : ((normal_Strip.f (⟨#[195, 169]⟩ : ByteArray)).bind fun t611 => (if t611.toList = ([101] : List UInt8) then ((normal_Marks.f k (⟨#[195, 169]⟩ : ByteArray)).bind fun t612 => (some (t612 == 1))) else (some false))) = some r := by rw [if_pos rfl] at H; exact H
            clear H
            have H := H1
            clear H1
            replace H := Option.bind_eq_some_iff.mp H
            obtain ⟨t611, A110, H⟩ := H
            replace H : (if t611.toList = ([101] : List UInt8) then ((normal_Marks.f k (⟨#[195, 169]⟩ : ByteArray)).bind fun t612 => (some (t612 == 1))) else (some false)) = some r := H
            have A11 := Aside0.mk A110
            clear A110
            by_cases c12 : t611.toList = ([101] : List UInt8)
            · rw [if_pos c12] at H
              have c12b0 : (t611.toList == ([101] : List UInt8)) = true := beq_iff_eq.mpr c12
              have c12b1 : (t611.toList != ([101] : List UInt8)) = false := bne_eq_false_iff_eq.mpr c12
              clear c12
              replace H := Option.bind_eq_some_iff.mp H
              obtain ⟨t612, A130, H⟩ := H
              replace H : (some (t612 == 1)) = some r := H
              have A13 := Aside0.mk A130
              clear A130
              obtain rfl := Option.some.inj H
              go_enter Tryd.func37, Tryd.ntmps37
              go_wp2_with (first | ((with_reducible refine gate_callee (f := 38) rfl ?_); refine goesL_ (some 1) rfl rfl Tryd.func38 (by kernel_rfl) rfl #[.string (⟨#[195, 169]⟩ : ByteArray)] rfl (by (try simp only [List.map_toArray, List.map_cons, List.map_nil]); first | done | rfl | (simp only [List.length_drop, List.length_take]; rfl)) ?_; (with_reducible refine (normal_Decompose.calls (⟨#[195, 169]⟩ : ByteArray) t606 _ ?side1 A1.out).mono ?_); (case side1 => exact GT1.below (HG.out) (by repeat (first | (with_reducible first | exact HB.out | apply below_alloc | apply pw_below_drewN | apply below_drew1) | exact HB.out))); rintro e w14 ⟨rfl, hb⟩; refine ⟨_, rfl, ?_⟩; have n0_ := Aside0.mk (below_step (by repeat (first | (with_reducible first | exact HB.out | apply below_alloc | apply pw_below_drewN | apply below_drew1) | exact HB.out)) hb); clear HB; have HB := n0_; clear n0_; (try clear hb); (try clear hb2); (try clear hk); (try clear hi)) | (go_at_call 38; (with_reducible refine (normal_Decompose.calls (⟨#[239, 172, 129]⟩ : ByteArray) t607 _ ?side1 A3.out).mono ?_); (case side1 => exact GT1.below (HG.out) (by repeat (first | (with_reducible first | exact HB.out | apply below_alloc | apply pw_below_drewN | apply below_drew1) | exact HB.out))); rintro e w15 ⟨rfl, hb⟩; have n0_ := Aside0.mk (below_step (by repeat (first | (with_reducible first | exact HB.out | apply below_alloc | apply pw_below_drewN | apply below_drew1) | exact HB.out)) hb); clear HB; have HB := n0_; clear n0_; (try clear hb); (try clear hb2); (try clear hk); (try clear hi)) | (go_at_call 40; (with_reducible refine (normal_Compose.calls (⟨#[99, 204, 129, 204, 167]⟩ : ByteArray) t608 _ ?side1 A5.out).mono ?_); (case side1 => exact GT1.below (HG.out) (by repeat (first | (with_reducible first | exact HB.out | apply below_alloc | apply pw_below_drewN | apply below_drew1) | exact HB.out))); rintro e w16 ⟨rfl, hb⟩; have n0_ := Aside0.mk (below_step (by repeat (first | (with_reducible first | exact HB.out | apply below_alloc | apply pw_below_drewN | apply below_drew1) | exact HB.out)) hb); clear HB; have HB := n0_; clear n0_; (try clear hb); (try clear hb2); (try clear hk); (try clear hi)) | (go_at_call 42; (with_reducible refine (normal_Is.calls (⟨#[195, 169]⟩ : ByteArray) true _ ?side1 A7.out).mono ?_); (case side1 => exact GT1.below (HG.out) (by repeat (first | (with_reducible first | exact HB.out | apply below_alloc | apply pw_below_drewN | apply below_drew1) | exact HB.out))); rintro e w17 ⟨rfl, hb⟩; have n0_ := Aside0.mk (below_step (by repeat (first | (with_reducible first | exact HB.out | apply below_alloc | apply pw_below_drewN | apply below_drew1) | exact HB.out)) hb); clear HB; have HB := n0_; clear n0_; (try clear hb); (try clear hb2); (try clear hk); (try clear hi)) | (go_at_call 48; (with_reducible refine (normal_Equal.calls k (⟨#[195, 169]⟩ : ByteArray) (⟨#[101, 204, 129]⟩ : ByteArray) true _ ?side1 A9.out).mono ?_); (case side1 => exact GT1.below (HG.out) (by repeat (first | (with_reducible first | exact HB.out | apply below_alloc | apply pw_below_drewN | apply below_drew1) | exact HB.out))); rintro e w18 ⟨rfl, hb⟩; have n0_ := Aside0.mk (below_step (by repeat (first | (with_reducible first | exact HB.out | apply below_alloc | apply pw_below_drewN | apply below_drew1) | exact HB.out)) hb); clear HB; have HB := n0_; clear n0_; (try clear hb); (try clear hb2); (try clear hk); (try clear hi)) | (go_at_call 44; (with_reducible refine (normal_Strip.calls (⟨#[195, 169]⟩ : ByteArray) t611 _ ?side1 A11.out).mono ?_); (case side1 => exact GT1.below (HG.out) (by repeat (first | (with_reducible first | exact HB.out | apply below_alloc | apply pw_below_drewN | apply below_drew1) | exact HB.out))); rintro e w19 ⟨rfl, hb⟩; have n0_ := Aside0.mk (below_step (by repeat (first | (with_reducible first | exact HB.out | apply below_alloc | apply pw_below_drewN | apply below_drew1) | exact HB.out)) hb); clear HB; have HB := n0_; clear n0_; (try clear hb); (try clear hb2); (try clear hk); (try clear hi)) | (go_at_call 46; (with_reducible refine (normal_Marks.calls k (⟨#[195, 169]⟩ : ByteArray) t612 _ ?side1 A13.out).mono ?_); (case side1 => exact GT1.below (HG.out) (by repeat (first | (with_reducible first | exact HB.out | apply below_alloc | apply pw_below_drewN | apply below_drew1) | exact HB.out))); rintro e w20 ⟨rfl, hb⟩; have n0_ := Aside0.mk (below_step (by repeat (first | (with_reducible first | exact HB.out | apply below_alloc | apply pw_below_drewN | apply below_drew1) | exact HB.out)) hb); clear HB; have HB := n0_; clear n0_; (try clear hb); (try clear hb2); (try clear hk); (try clear hi)))
              go_ret
              exact ⟨by first | rfl | (simp [errW_none, errW_some] <;> rfl) | (simp [*, errW_none, errW_some] <;> rfl), by repeat (first | (with_reducible first | exact HB.out | apply below_alloc | apply pw_below_drewN | apply below_drew1) | exact HB.out)⟩
            · rw [if_neg c12] at H
              have c12b0 : (t611.toList == ([101] : List UInt8)) = false := beq_eq_false_iff_ne.mpr c12
              have c12b1 : (t611.toList != ([101] : List UInt8)) = true := bne_iff_ne.mpr c12
              obtain rfl := Option.some.inj H
              go_enter Tryd.func37, Tryd.ntmps37
              go_wp2_with (first | ((with_reducible refine gate_callee (f := 38) rfl ?_); refine goesL_ (some 1) rfl rfl Tryd.func38 (by kernel_rfl) rfl #[.string (⟨#[195, 169]⟩ : ByteArray)] rfl (by (try simp only [List.map_toArray, List.map_cons, List.map_nil]); first | done | rfl | (simp only [List.length_drop, List.length_take]; rfl)) ?_; (with_reducible refine (normal_Decompose.calls (⟨#[195, 169]⟩ : ByteArray) t606 _ ?side1 A1.out).mono ?_); (case side1 => exact GT1.below (HG.out) (by repeat (first | (with_reducible first | exact HB.out | apply below_alloc | apply pw_below_drewN | apply below_drew1) | exact HB.out))); rintro e w21 ⟨rfl, hb⟩; refine ⟨_, rfl, ?_⟩; have n0_ := Aside0.mk (below_step (by repeat (first | (with_reducible first | exact HB.out | apply below_alloc | apply pw_below_drewN | apply below_drew1) | exact HB.out)) hb); clear HB; have HB := n0_; clear n0_; (try clear hb); (try clear hb2); (try clear hk); (try clear hi)) | (go_at_call 38; (with_reducible refine (normal_Decompose.calls (⟨#[239, 172, 129]⟩ : ByteArray) t607 _ ?side1 A3.out).mono ?_); (case side1 => exact GT1.below (HG.out) (by repeat (first | (with_reducible first | exact HB.out | apply below_alloc | apply pw_below_drewN | apply below_drew1) | exact HB.out))); rintro e w22 ⟨rfl, hb⟩; have n0_ := Aside0.mk (below_step (by repeat (first | (with_reducible first | exact HB.out | apply below_alloc | apply pw_below_drewN | apply below_drew1) | exact HB.out)) hb); clear HB; have HB := n0_; clear n0_; (try clear hb); (try clear hb2); (try clear hk); (try clear hi)) | (go_at_call 40; (with_reducible refine (normal_Compose.calls (⟨#[99, 204, 129, 204, 167]⟩ : ByteArray) t608 _ ?side1 A5.out).mono ?_); (case side1 => exact GT1.below (HG.out) (by repeat (first | (with_reducible first | exact HB.out | apply below_alloc | apply pw_below_drewN | apply below_drew1) | exact HB.out))); rintro e w23 ⟨rfl, hb⟩; have n0_ := Aside0.mk (below_step (by repeat (first | (with_reducible first | exact HB.out | apply below_alloc | apply pw_below_drewN | apply below_drew1) | exact HB.out)) hb); clear HB; have HB := n0_; clear n0_; (try clear hb); (try clear hb2); (try clear hk); (try clear hi)) | (go_at_call 42; (with_reducible refine (normal_Is.calls (⟨#[195, 169]⟩ : ByteArray) true _ ?side1 A7.out).mono ?_); (case side1 => exact GT1.below (HG.out) (by repeat (first | (with_reducible first | exact HB.out | apply below_alloc | apply pw_below_drewN | apply below_drew1) | exact HB.out))); rintro e w24 ⟨rfl, hb⟩; have n0_ := Aside0.mk (below_step (by repeat (first | (with_reducible first | exact HB.out | apply below_alloc | apply pw_below_drewN | apply below_drew1) | exact HB.out)) hb); clear HB; have HB := n0_; clear n0_; (try clear hb); (try clear hb2); (try clear hk); (try clear hi)) | (go_at_call 48; (with_reducible refine (normal_Equal.calls k (⟨#[195, 169]⟩ : ByteArray) (⟨#[101, 204, 129]⟩ : ByteArray) true _ ?side1 A9.out).mono ?_); (case side1 => exact GT1.below (HG.out) (by repeat (first | (with_reducible first | exact HB.out | apply below_alloc | apply pw_below_drewN | apply below_drew1) | exact HB.out))); rintro e w25 ⟨rfl, hb⟩; have n0_ := Aside0.mk (below_step (by repeat (first | (with_reducible first | exact HB.out | apply below_alloc | apply pw_below_drewN | apply below_drew1) | exact HB.out)) hb); clear HB; have HB := n0_; clear n0_; (try clear hb); (try clear hb2); (try clear hk); (try clear hi)) | (go_at_call 44; (with_reducible refine (normal_Strip.calls (⟨#[195, 169]⟩ : ByteArray) t611 _ ?side1 A11.out).mono ?_); (case side1 => exact GT1.below (HG.out) (by repeat (first | (with_reducible first | exact HB.out | apply below_alloc | apply pw_below_drewN | apply below_drew1) | exact HB.out))); rintro e w26 ⟨rfl, hb⟩; have n0_ := Aside0.mk (below_step (by repeat (first | (with_reducible first | exact HB.out | apply below_alloc | apply pw_below_drewN | apply below_drew1) | exact HB.out)) hb); clear HB; have HB := n0_; clear n0_; (try clear hb); (try clear hb2); (try clear hk); (try clear hi)))
              go_ret
              exact ⟨by first | rfl | (simp [errW_none, errW_some] <;> rfl) | (simp [*, errW_none, errW_some] <;> rfl), by repeat (first | (with_reducible first | exact HB.out | apply below_alloc | apply pw_below_drewN | apply below_drew1) | exact HB.out)⟩
          · replace c10 := Bool.eq_false_iff.mpr c10
            subst c10
            have H1 : (some false) = some r := by rw [if_neg (show ¬ (false = true) by decide)] at H; exact H
            clear H
            have H := H1
            clear H1
            obtain rfl := Option.some.inj H
            go_enter Tryd.func37, Tryd.ntmps37
            go_wp2_with (first | ((with_reducible refine gate_callee (f := 38) rfl ?_); refine goesL_ (some 1) rfl rfl Tryd.func38 (by kernel_rfl) rfl #[.string (⟨#[195, 169]⟩ : ByteArray)] rfl (by (try simp only [List.map_toArray, List.map_cons, List.map_nil]); first | done | rfl | (simp only [List.length_drop, List.length_take]; rfl)) ?_; (with_reducible refine (normal_Decompose.calls (⟨#[195, 169]⟩ : ByteArray) t606 _ ?side1 A1.out).mono ?_); (case side1 => exact GT1.below (HG.out) (by repeat (first | (with_reducible first | exact HB.out | apply below_alloc | apply pw_below_drewN | apply below_drew1) | exact HB.out))); rintro e w27 ⟨rfl, hb⟩; refine ⟨_, rfl, ?_⟩; have n0_ := Aside0.mk (below_step (by repeat (first | (with_reducible first | exact HB.out | apply below_alloc | apply pw_below_drewN | apply below_drew1) | exact HB.out)) hb); clear HB; have HB := n0_; clear n0_; (try clear hb); (try clear hb2); (try clear hk); (try clear hi)) | (go_at_call 38; (with_reducible refine (normal_Decompose.calls (⟨#[239, 172, 129]⟩ : ByteArray) t607 _ ?side1 A3.out).mono ?_); (case side1 => exact GT1.below (HG.out) (by repeat (first | (with_reducible first | exact HB.out | apply below_alloc | apply pw_below_drewN | apply below_drew1) | exact HB.out))); rintro e w28 ⟨rfl, hb⟩; have n0_ := Aside0.mk (below_step (by repeat (first | (with_reducible first | exact HB.out | apply below_alloc | apply pw_below_drewN | apply below_drew1) | exact HB.out)) hb); clear HB; have HB := n0_; clear n0_; (try clear hb); (try clear hb2); (try clear hk); (try clear hi)) | (go_at_call 40; (with_reducible refine (normal_Compose.calls (⟨#[99, 204, 129, 204, 167]⟩ : ByteArray) t608 _ ?side1 A5.out).mono ?_); (case side1 => exact GT1.below (HG.out) (by repeat (first | (with_reducible first | exact HB.out | apply below_alloc | apply pw_below_drewN | apply below_drew1) | exact HB.out))); rintro e w29 ⟨rfl, hb⟩; have n0_ := Aside0.mk (below_step (by repeat (first | (with_reducible first | exact HB.out | apply below_alloc | apply pw_below_drewN | apply below_drew1) | exact HB.out)) hb); clear HB; have HB := n0_; clear n0_; (try clear hb); (try clear hb2); (try clear hk); (try clear hi)) | (go_at_call 42; (with_reducible refine (normal_Is.calls (⟨#[195, 169]⟩ : ByteArray) true _ ?side1 A7.out).mono ?_); (case side1 => exact GT1.below (HG.out) (by repeat (first | (with_reducible first | exact HB.out | apply below_alloc | apply pw_below_drewN | apply below_drew1) | exact HB.out))); rintro e w30 ⟨rfl, hb⟩; have n0_ := Aside0.mk (below_step (by repeat (first | (with_reducible first | exact HB.out | apply below_alloc | apply pw_below_drewN | apply below_drew1) | exact HB.out)) hb); clear HB; have HB := n0_; clear n0_; (try clear hb); (try clear hb2); (try clear hk); (try clear hi)) | (go_at_call 48; (with_reducible refine (normal_Equal.calls k (⟨#[195, 169]⟩ : ByteArray) (⟨#[101, 204, 129]⟩ : ByteArray) false _ ?side1 A9.out).mono ?_); (case side1 => exact GT1.below (HG.out) (by repeat (first | (with_reducible first | exact HB.out | apply below_alloc | apply pw_below_drewN | apply below_drew1) | exact HB.out))); rintro e w31 ⟨rfl, hb⟩; have n0_ := Aside0.mk (below_step (by repeat (first | (with_reducible first | exact HB.out | apply below_alloc | apply pw_below_drewN | apply below_drew1) | exact HB.out)) hb); clear HB; have HB := n0_; clear n0_; (try clear hb); (try clear hb2); (try clear hk); (try clear hi)))
            go_ret
            exact ⟨by first | rfl | (simp [errW_none, errW_some] <;> rfl) | (simp [*, errW_none, errW_some] <;> rfl), by repeat (first | (with_reducible first | exact HB.out | apply below_alloc | apply pw_below_drewN | apply below_drew1) | exact HB.out)⟩
        · replace c8 := Bool.eq_false_iff.mpr c8
          subst c8
          have H1 : (some false) = some r := by rw [if_neg (show ¬ (false = true) by decide)] at H; exact H
          clear H
          have H := H1
          clear H1
          obtain rfl := Option.some.inj H
          go_enter Tryd.func37, Tryd.ntmps37
          go_wp2_with (first | ((with_reducible refine gate_callee (f := 38) rfl ?_); refine goesL_ (some 1) rfl rfl Tryd.func38 (by kernel_rfl) rfl #[.string (⟨#[195, 169]⟩ : ByteArray)] rfl (by (try simp only [List.map_toArray, List.map_cons, List.map_nil]); first | done | rfl | (simp only [List.length_drop, List.length_take]; rfl)) ?_; (with_reducible refine (normal_Decompose.calls (⟨#[195, 169]⟩ : ByteArray) t606 _ ?side1 A1.out).mono ?_); (case side1 => exact GT1.below (HG.out) (by repeat (first | (with_reducible first | exact HB.out | apply below_alloc | apply pw_below_drewN | apply below_drew1) | exact HB.out))); rintro e w32 ⟨rfl, hb⟩; refine ⟨_, rfl, ?_⟩; have n0_ := Aside0.mk (below_step (by repeat (first | (with_reducible first | exact HB.out | apply below_alloc | apply pw_below_drewN | apply below_drew1) | exact HB.out)) hb); clear HB; have HB := n0_; clear n0_; (try clear hb); (try clear hb2); (try clear hk); (try clear hi)) | (go_at_call 38; (with_reducible refine (normal_Decompose.calls (⟨#[239, 172, 129]⟩ : ByteArray) t607 _ ?side1 A3.out).mono ?_); (case side1 => exact GT1.below (HG.out) (by repeat (first | (with_reducible first | exact HB.out | apply below_alloc | apply pw_below_drewN | apply below_drew1) | exact HB.out))); rintro e w33 ⟨rfl, hb⟩; have n0_ := Aside0.mk (below_step (by repeat (first | (with_reducible first | exact HB.out | apply below_alloc | apply pw_below_drewN | apply below_drew1) | exact HB.out)) hb); clear HB; have HB := n0_; clear n0_; (try clear hb); (try clear hb2); (try clear hk); (try clear hi)) | (go_at_call 40; (with_reducible refine (normal_Compose.calls (⟨#[99, 204, 129, 204, 167]⟩ : ByteArray) t608 _ ?side1 A5.out).mono ?_); (case side1 => exact GT1.below (HG.out) (by repeat (first | (with_reducible first | exact HB.out | apply below_alloc | apply pw_below_drewN | apply below_drew1) | exact HB.out))); rintro e w34 ⟨rfl, hb⟩; have n0_ := Aside0.mk (below_step (by repeat (first | (with_reducible first | exact HB.out | apply below_alloc | apply pw_below_drewN | apply below_drew1) | exact HB.out)) hb); clear HB; have HB := n0_; clear n0_; (try clear hb); (try clear hb2); (try clear hk); (try clear hi)) | (go_at_call 42; (with_reducible refine (normal_Is.calls (⟨#[195, 169]⟩ : ByteArray) false _ ?side1 A7.out).mono ?_); (case side1 => exact GT1.below (HG.out) (by repeat (first | (with_reducible first | exact HB.out | apply below_alloc | apply pw_below_drewN | apply below_drew1) | exact HB.out))); rintro e w35 ⟨rfl, hb⟩; have n0_ := Aside0.mk (below_step (by repeat (first | (with_reducible first | exact HB.out | apply below_alloc | apply pw_below_drewN | apply below_drew1) | exact HB.out)) hb); clear HB; have HB := n0_; clear n0_; (try clear hb); (try clear hb2); (try clear hk); (try clear hi)))
          go_ret
          exact ⟨by first | rfl | (simp [errW_none, errW_some] <;> rfl) | (simp [*, errW_none, errW_some] <;> rfl), by repeat (first | (with_reducible first | exact HB.out | apply below_alloc | apply pw_below_drewN | apply below_drew1) | exact HB.out)⟩
      · rw [if_neg c6] at H
        have c6b0 : (t608.toList == ([195, 167, 204, 129] : List UInt8)) = false := beq_eq_false_iff_ne.mpr c6
        have c6b1 : (t608.toList != ([195, 167, 204, 129] : List UInt8)) = true := bne_iff_ne.mpr c6
        obtain rfl := Option.some.inj H
        go_enter Tryd.func37, Tryd.ntmps37
        go_wp2_with (first | ((with_reducible refine gate_callee (f := 38) rfl ?_); refine goesL_ (some 1) rfl rfl Tryd.func38 (by kernel_rfl) rfl #[.string (⟨#[195, 169]⟩ : ByteArray)] rfl (by (try simp only [List.map_toArray, List.map_cons, List.map_nil]); first | done | rfl | (simp only [List.length_drop, List.length_take]; rfl)) ?_; (with_reducible refine (normal_Decompose.calls (⟨#[195, 169]⟩ : ByteArray) t606 _ ?side1 A1.out).mono ?_); (case side1 => exact GT1.below (HG.out) (by repeat (first | (with_reducible first | exact HB.out | apply below_alloc | apply pw_below_drewN | apply below_drew1) | exact HB.out))); rintro e w36 ⟨rfl, hb⟩; refine ⟨_, rfl, ?_⟩; have n0_ := Aside0.mk (below_step (by repeat (first | (with_reducible first | exact HB.out | apply below_alloc | apply pw_below_drewN | apply below_drew1) | exact HB.out)) hb); clear HB; have HB := n0_; clear n0_; (try clear hb); (try clear hb2); (try clear hk); (try clear hi)) | (go_at_call 38; (with_reducible refine (normal_Decompose.calls (⟨#[239, 172, 129]⟩ : ByteArray) t607 _ ?side1 A3.out).mono ?_); (case side1 => exact GT1.below (HG.out) (by repeat (first | (with_reducible first | exact HB.out | apply below_alloc | apply pw_below_drewN | apply below_drew1) | exact HB.out))); rintro e w37 ⟨rfl, hb⟩; have n0_ := Aside0.mk (below_step (by repeat (first | (with_reducible first | exact HB.out | apply below_alloc | apply pw_below_drewN | apply below_drew1) | exact HB.out)) hb); clear HB; have HB := n0_; clear n0_; (try clear hb); (try clear hb2); (try clear hk); (try clear hi)) | (go_at_call 40; (with_reducible refine (normal_Compose.calls (⟨#[99, 204, 129, 204, 167]⟩ : ByteArray) t608 _ ?side1 A5.out).mono ?_); (case side1 => exact GT1.below (HG.out) (by repeat (first | (with_reducible first | exact HB.out | apply below_alloc | apply pw_below_drewN | apply below_drew1) | exact HB.out))); rintro e w38 ⟨rfl, hb⟩; have n0_ := Aside0.mk (below_step (by repeat (first | (with_reducible first | exact HB.out | apply below_alloc | apply pw_below_drewN | apply below_drew1) | exact HB.out)) hb); clear HB; have HB := n0_; clear n0_; (try clear hb); (try clear hb2); (try clear hk); (try clear hi)))
        go_ret
        exact ⟨by first | rfl | (simp [errW_none, errW_some] <;> rfl) | (simp [*, errW_none, errW_some] <;> rfl), by repeat (first | (with_reducible first | exact HB.out | apply below_alloc | apply pw_below_drewN | apply below_drew1) | exact HB.out)⟩
    · rw [if_neg c4] at H
      have c4b0 : (t607.toList == ([102, 105] : List UInt8)) = false := beq_eq_false_iff_ne.mpr c4
      have c4b1 : (t607.toList != ([102, 105] : List UInt8)) = true := bne_iff_ne.mpr c4
      obtain rfl := Option.some.inj H
      go_enter Tryd.func37, Tryd.ntmps37
      go_wp2_with (first | ((with_reducible refine gate_callee (f := 38) rfl ?_); refine goesL_ (some 1) rfl rfl Tryd.func38 (by kernel_rfl) rfl #[.string (⟨#[195, 169]⟩ : ByteArray)] rfl (by (try simp only [List.map_toArray, List.map_cons, List.map_nil]); first | done | rfl | (simp only [List.length_drop, List.length_take]; rfl)) ?_; (with_reducible refine (normal_Decompose.calls (⟨#[195, 169]⟩ : ByteArray) t606 _ ?side1 A1.out).mono ?_); (case side1 => exact GT1.below (HG.out) (by repeat (first | (with_reducible first | exact HB.out | apply below_alloc | apply pw_below_drewN | apply below_drew1) | exact HB.out))); rintro e w39 ⟨rfl, hb⟩; refine ⟨_, rfl, ?_⟩; have n0_ := Aside0.mk (below_step (by repeat (first | (with_reducible first | exact HB.out | apply below_alloc | apply pw_below_drewN | apply below_drew1) | exact HB.out)) hb); clear HB; have HB := n0_; clear n0_; (try clear hb); (try clear hb2); (try clear hk); (try clear hi)) | (go_at_call 38; (with_reducible refine (normal_Decompose.calls (⟨#[239, 172, 129]⟩ : ByteArray) t607 _ ?side1 A3.out).mono ?_); (case side1 => exact GT1.below (HG.out) (by repeat (first | (with_reducible first | exact HB.out | apply below_alloc | apply pw_below_drewN | apply below_drew1) | exact HB.out))); rintro e w40 ⟨rfl, hb⟩; have n0_ := Aside0.mk (below_step (by repeat (first | (with_reducible first | exact HB.out | apply below_alloc | apply pw_below_drewN | apply below_drew1) | exact HB.out)) hb); clear HB; have HB := n0_; clear n0_; (try clear hb); (try clear hb2); (try clear hk); (try clear hi)))
      go_ret
      exact ⟨by first | rfl | (simp [errW_none, errW_some] <;> rfl) | (simp [*, errW_none, errW_some] <;> rfl), by repeat (first | (with_reducible first | exact HB.out | apply below_alloc | apply pw_below_drewN | apply below_drew1) | exact HB.out)⟩
  · rw [if_neg c2] at H
    have c2b0 : (t606.toList == ([101, 204, 129] : List UInt8)) = false := beq_eq_false_iff_ne.mpr c2
    have c2b1 : (t606.toList != ([101, 204, 129] : List UInt8)) = true := bne_iff_ne.mpr c2
    obtain rfl := Option.some.inj H
    go_enter Tryd.func37, Tryd.ntmps37
    go_wp2_with (first | ((with_reducible refine gate_callee (f := 38) rfl ?_); refine goesL_ (some 1) rfl rfl Tryd.func38 (by kernel_rfl) rfl #[.string (⟨#[195, 169]⟩ : ByteArray)] rfl (by (try simp only [List.map_toArray, List.map_cons, List.map_nil]); first | done | rfl | (simp only [List.length_drop, List.length_take]; rfl)) ?_; (with_reducible refine (normal_Decompose.calls (⟨#[195, 169]⟩ : ByteArray) t606 _ ?side1 A1.out).mono ?_); (case side1 => exact GT1.below (HG.out) (by repeat (first | (with_reducible first | exact HB.out | apply below_alloc | apply pw_below_drewN | apply below_drew1) | exact HB.out))); rintro e w41 ⟨rfl, hb⟩; refine ⟨_, rfl, ?_⟩; have n0_ := Aside0.mk (below_step (by repeat (first | (with_reducible first | exact HB.out | apply below_alloc | apply pw_below_drewN | apply below_drew1) | exact HB.out)) hb); clear HB; have HB := n0_; clear n0_; (try clear hb); (try clear hb2); (try clear hk); (try clear hi)))
    go_ret
    exact ⟨by first | rfl | (simp [errW_none, errW_some] <;> rfl) | (simp [*, errW_none, errW_some] <;> rfl), by repeat (first | (with_reducible first | exact HB.out | apply below_alloc | apply pw_below_drewN | apply below_drew1) | exact HB.out)⟩
end Go.Proofs.YthcpdhniakpbaaaDoor.X
end

section
namespace Go.Proofs.YthcpdhniakpbaaaDoor.X
open Go.RowKit Go.Sort Go.Lib Go.Proofs.YthcpdhniakpbaaaDoorW.PrintWords Go.Proofs.YthcpdhniakpbaaaDoorW.PrintLast Go.Proofs.YthcpdhniakpbaaaDoorW.PrintMore
set_option linter.unusedVariables false
set_option linter.unusedSimpArgs false
theorem decomposed_eq (s : ByteArray) (hs : s.size ≤ 50000) : normal_decomposed.f s = some (decD (chs s), okS s) := by
  unfold normal_decomposed.f
  rw [if_pos (show DecOk s by unfold DecOk; omega)]
  rfl
theorem text_eq (l : List Int) (hl : l.length ≤ 1000000) (hh : ∀ c ∈ l, hasS c = true) : normal_text.f l = some (bytesOfL l) := by
  unfold normal_text.f repertoire_Encode.f
  rw [if_pos (show EncOk l from ⟨by omega, hh⟩)]
  rfl
theorem nlen (s : ByteArray) (hs : s.size ≤ 50000) : (decD (chs s)).length ≤ 100000 := by have := decD_len (chs s); have := chs_len s; omega
theorem dhas (s : ByteArray) : ∀ c ∈ decD (chs s), hasS c = true := decD_has (chs_has s)
theorem decompose_eq (s : ByteArray) (hs : s.size ≤ 50000) : normal_Decompose.f s = some (bytesOfL (decD (chs s))) := by
  unfold normal_Decompose.f
  rw [decomposed_eq s hs]
  simp only [Option.bind_some]
  rw [text_eq _ (by have := nlen s hs; omega) (dhas s)]
  rfl
theorem compS_has {l : List Int} (h : ∀ c ∈ l, hasS c = true) : ∀ c ∈ compS l, hasS c = true := compF_has _ _ h
theorem compS_len (l : List Int) : (compS l).length ≤ l.length := compF_len _ _
theorem compose_eq (s : ByteArray) (hs : s.size ≤ 50000) : normal_Compose.f s = some (bytesOfL (compS (decD (chs s)))) := by
  have := nlen s hs
  have := compS_len (decD (chs s))
  unfold normal_Compose.f
  rw [decomposed_eq s hs]
  simp only [Option.bind_some]
  rw [if_pos (show ComposeOk (decD (chs s)) from ⟨by omega, dhas s⟩), text_eq _ (by omega) (compS_has (dhas s))]
theorem strip_eq (s : ByteArray) (hs : s.size ≤ 50000) : normal_Strip.f s = some (bytesOfL (stripS (decD (chs s)))) := by
  have := nlen s hs
  have h2 : (stripS (decD (chs s))).length ≤ (decD (chs s)).length := List.length_filter_le _ _
  unfold normal_Strip.f
  rw [decomposed_eq s hs]
  simp only [Option.bind_some]
  exact text_eq (stripS (decD (chs s))) (by omega) (fun c hc => dhas s c (List.mem_filter.1 hc).1)
theorem is_eq (s : ByteArray) (hs : s.size ≤ 50000) : normal_Is.f s = some ((bytesOfL (compS (decD (chs s)))).toList == s.toList) := by
  unfold normal_Is.f
  rw [compose_eq s hs]
  rfl
theorem marks_go {d : List Int} (hh : ∀ x ∈ d, hasS x = true) (hd : d.length < 400000) : ∀ (n i q : Nat), d.length ≤ i + n → i ≤ d.length → q ≤ i →
    Ev (fun k => normal_Marks.l0 k (q : Int) d (d.length : Int) (i : Int)) ((q + cntM (d.drop i) : Nat) : Int) := by
  intro n
  have last : ∀ (i q : Nat), ¬ i < d.length → Ev (fun k => normal_Marks.l0 k (q : Int) d (d.length : Int) (i : Int)) ((q + cntM (d.drop i) : Nat) : Int) := by
    intro i q h1
    rw [List.drop_of_length_le (by omega)]
    refine Ev.step (g' := fun _ => some (q : Int)) (fun k => ?_) (Ev.const _)
    rw [normal_Marks.l0, if_neg (by omega)]
  induction n with
  | zero => intro i q h1 h2 h3; exact last i q (by omega)
  | succ n ih =>
    intro i q h1 h2 h3
    by_cases hi : i < d.length
    · have hdr : d.drop i = d[i] :: d.drop (i + 1) := List.drop_eq_getElem_cons hi
      have hx := hh _ (List.getElem_mem hi)
      obtain ⟨c, hc⟩ : ∃ c, d[i] = c := ⟨_, rfl⟩
      rw [hc] at hx hdr
      rw [hdr, cntM_cons]
      have hne : c ≠ 65533 := fun e => by rw [e, hasS_65533] at hx; exact absurd hx (by decide)
      have hev : Ev (fun k => normal_mark.f k c) (isMk c) := ⟨7, fun k hk => by
        obtain ⟨q, rfl⟩ : ∃ q, k = q + 7 := ⟨k - 7, by omega⟩
        exact isMark_eq hne q⟩
      refine Ev.step (g' := fun k => (normal_mark.f k c).bind fun t => if t = true then normal_Marks.l0 k ((q + 1 : Nat) : Int) d (d.length : Int) ((i + 1 : Nat) : Int) else normal_Marks.l0 k (q : Int) d (d.length : Int) ((i + 1 : Nat) : Int)) (fun k => ?_) (Ev.bind hev ?_)
      · rw [normal_Marks.l0, if_pos (by omega), if_pos (by omega), if_pos (by omega), rd_get hi, hc, w64n i (by omega), w64n q (by omega)]
      · cases hmk : isMk c with
        | true =>
          have := ih (i + 1) (q + 1) (by omega) (by omega) (by omega)
          rw [if_pos rfl, show q + (1 + cntM (d.drop (i + 1))) = q + 1 + cntM (d.drop (i + 1)) by omega]
          exact Ev.congr (fun k => if_pos rfl) this
        | false =>
          have := ih (i + 1) q (by omega) (by omega) (by omega)
          rw [if_neg (by decide), Nat.zero_add]
          exact Ev.congr (fun k => if_neg (by decide)) this
    · exact last i q hi
theorem ev_marks (s : ByteArray) (hs : s.size ≤ 50000) : Ev (fun k => normal_Marks.f k s) ((cntM (decD (chs s)) : Nat) : Int) := by
  have h1 := nlen s hs
  refine Ev.congr (g' := fun k => normal_Marks.l0 k 0 (decD (chs s)) ((decD (chs s)).length : Int) 0) (fun k => ?_) ?_
  · unfold normal_Marks.f
    rw [decomposed_eq s hs]
    rfl
  · have := marks_go (d := decD (chs s)) (dhas s) (by omega) (decD (chs s)).length 0 0 (by omega) (by omega) (by omega)
    rw [Nat.zero_add] at this
    exact this
theorem equal_go {a b : List Int} (hl : a.length = b.length) (hb : a.length < 1000000) : ∀ (n i : Nat), a.length ≤ i + n → i ≤ a.length →
    Ev (fun k => slices_Equal_int_int.l0 k a b (a.length : Int) (i : Int)) (decide (a.drop i = b.drop i)) := by
  intro n
  have last : ∀ i : Nat, ¬ i < a.length → Ev (fun k => slices_Equal_int_int.l0 k a b (a.length : Int) (i : Int)) (decide (a.drop i = b.drop i)) := by
    intro i h
    rw [List.drop_of_length_le (by omega), List.drop_of_length_le (by omega)]
    refine Ev.step (g' := fun _ => some true) (fun k => ?_) (Ev.const _)
    rw [slices_Equal_int_int.l0, if_neg (by omega)]
  induction n with
  | zero => intro i h1 h2; exact last i (by omega)
  | succ n ih =>
    intro i h1 h2
    by_cases hi : i < a.length
    · have hib : i < b.length := by omega
      have e1 : a.drop i = a[i] :: a.drop (i + 1) := List.drop_eq_getElem_cons hi
      have e2 : b.drop i = b[i] :: b.drop (i + 1) := List.drop_eq_getElem_cons hib
      rw [e1, e2]
      by_cases he : a[i] = b[i]
      · have e : decide (a[i] :: a.drop (i + 1) = b[i] :: b.drop (i + 1)) = decide (a.drop (i + 1) = b.drop (i + 1)) := decide_eq_decide.2 ⟨fun h => (List.cons.inj h).2, fun h => by rw [he, h]⟩
        rw [e]
        refine Ev.step (fun k => ?_) (ih (i + 1) (by omega) (by omega))
        rw [slices_Equal_int_int.l0, if_pos (by omega), if_pos (by omega), if_pos (by omega), if_pos (by omega), rd_get hi, rd_get hib, if_pos he, w64n i (by omega)]
      · have e : decide (a[i] :: a.drop (i + 1) = b[i] :: b.drop (i + 1)) = false := decide_eq_false (fun h => he (by injection h))
        rw [e]
        refine Ev.step (g' := fun _ => some false) (fun k => ?_) (Ev.const _)
        rw [slices_Equal_int_int.l0, if_pos (by omega), if_pos (by omega), if_pos (by omega), if_pos (by omega), rd_get hi, rd_get hib, if_neg he]
    · exact last i hi
theorem ev_slEqual (a b : List Int) (ha : a.length < 1000000) : Ev (fun k => slices_Equal_int_int.f k a b) (decide (a = b)) := by
  by_cases hl : a.length = b.length
  · have := equal_go hl ha a.length 0 (by omega) (by omega)
    refine Ev.congr (fun k => ?_) this
    unfold slices_Equal_int_int.f
    rw [if_pos (by omega)]
    rfl
  · rw [decide_eq_false (fun h => hl (by rw [h]))]
    exact Ev.congr (g' := fun _ => some false) (fun k => by unfold slices_Equal_int_int.f; rw [if_neg (by omega)]) (Ev.const _)
theorem ev_equal (a b : ByteArray) (ha : a.size ≤ 50000) (hb : b.size ≤ 50000) : Ev (fun k => normal_Equal.f k a b) (okS a && (okS b && decide (decD (chs a) = decD (chs b)))) := by
  refine Ev.congr (g' := fun k => if okS a = true then (if okS b = true then (slices_Equal_int_int.f k (decD (chs a)) (decD (chs b))).bind fun t => some t else some false) else some false) (fun k => ?_) ?_
  · unfold normal_Equal.f
    rw [decomposed_eq a ha, decomposed_eq b hb]
    rfl
  · cases okS a with
    | false => exact Ev.congr (fun k => if_neg (by decide)) (Ev.const _)
    | true =>
      refine Ev.congr (fun k => if_pos rfl) ?_
      cases okS b with
      | false => exact Ev.congr (fun k => if_neg (by decide)) (Ev.const _)
      | true => exact Ev.congr (fun k => if_pos rfl) (Ev.bind (ev_slEqual _ _ (by have := nlen a ha; omega)) (Ev.const _))
theorem bytes_inj {a b : List Int} (ha : ∀ c ∈ a, hasS c = true) (hb : ∀ c ∈ b, hasS c = true) : (bytesOfL a).toList = (bytesOfL b).toList ↔ a = b := by
  rw [toList_eq_iff]
  constructor
  · intro h
    have : encL a = encL b := congrArg (fun x : ByteArray => x.data.toList) h
    exact encL_inj (fun c hc => hasS_ok (ha c hc)) (fun c hc => hasS_ok (hb c hc)) this
  · intro h; rw [h]
theorem base_atom {r : NRow} (h : r ∈ nrows) {x : Int} (hx : x ∈ r.b) : Atom x := ⟨((row_facts h).base x hx).1, (row_has h).1 x hx⟩
theorem splitR_atom {c : Int} (h : hasS c = true) (hs : splitS c = splitR c nrows) : ∀ rs : List NRow, (∀ r ∈ rs, r ∈ nrows) → (splitR c rs = splitR c nrows → ∀ x ∈ splitR c rs, Atom x)
  | [], _, he, x, hx => by
    rw [splitR] at hx he
    obtain rfl := List.mem_singleton.1 hx
    exact ⟨by rw [hs, ← he], h⟩
  | r :: rs, hr, he, x, hx => by
    have hrn := hr r (by simp)
    by_cases hm : c ∈ r.l
    · rw [splitR, if_pos hm] at hx
      rcases List.mem_cons.1 hx with rfl | hx
      · exact base_atom hrn (at0_mem (plc_ge.2 hm) (by have := plc_lt hm; have := (row_str hrn).2.2; omega))
      · obtain rfl := List.mem_singleton.1 hx
        exact mark_atom (row_facts hrn).mark.2
    · rw [splitR, if_neg hm] at hx he
      exact splitR_atom h hs rs (fun r' h' => hr r' (by simp [h'])) he x hx
theorem ascii_atoms : ((List.range 96).all fun n => splitS (32 + n) == [(32 + n : Int)]) = true := by decide +kernel
theorem ascii_atom {c : Int} (h0 : 32 ≤ c) (h1 : c < 128) (h : hasS c = true) : Atom c := by
  have := List.all_eq_true.1 ascii_atoms (c - 32).toNat (List.mem_range.2 (by omega))
  rw [show (32 : Int) + ((c - 32).toNat : Int) = c by omega] at this
  exact ⟨by simpa using this, h⟩
theorem split_atom {c : Int} (h : hasS c = true) : ∀ x ∈ splitS c, Atom x := by
  intro x hx
  have hxs := split_has h x hx
  have hr := hasS_range h
  by_cases h9 : c < 128
  · have e : splitS c = [c] := (ascii_atom (by omega) h9 h).1
    rw [e] at hx
    obtain rfl := List.mem_singleton.1 hx
    exact ascii_atom (by omega) h9 h
  · by_cases hsp : splitS c = splitR c nrows
    · rw [hsp] at hx
      exact splitR_atom h hsp nrows (fun _ h => h) rfl x hx
    · have hlow : x < 128 := by
        unfold splitS at hx hsp
        split at hx
        · obtain rfl := List.mem_singleton.1 hx; decide
        split at hx
        · obtain rfl := List.mem_singleton.1 hx; decide
        split at hx
        · obtain rfl := List.mem_singleton.1 hx; omega
        split at hx
        · obtain rfl := List.mem_singleton.1 hx; decide
        split at hx
        · rcases List.mem_cons.1 hx with rfl | hx
          · decide
          · obtain rfl := List.mem_singleton.1 hx; decide
        split at hx
        · rcases List.mem_cons.1 hx with rfl | hx
          · decide
          · obtain rfl := List.mem_singleton.1 hx; decide
        split at hx
        · obtain rfl := List.mem_singleton.1 hx; omega
        rename_i g1 g2 g3 g4 g5 g6 g7
        rw [if_neg g1, if_neg g2, if_neg g3, if_neg g4, if_neg g5, if_neg g6, if_neg g7, if_neg h9] at hsp
        exact absurd rfl hsp
      have := hasS_range hxs
      exact ascii_atom (by omega) hlow hxs
theorem decD_atoms {cs : List Int} (h : ∀ c ∈ cs, hasS c = true) : ∀ x ∈ decD cs, Atom x := by
  intro x hx
  have := (runS_mem _ _ (Nat.le_refl _) x).1 hx
  obtain ⟨c, hc, hx⟩ := List.mem_flatMap.1 this
  exact split_atom (h c hc) x hx
theorem decD_run (cs : List Int) : runS (decD cs) = decD cs := runS_idem _ _ (Nat.le_refl _)
end Go.Proofs.YthcpdhniakpbaaaDoor.X
end

section
namespace Go.Proofs.YthcpdhniakpbaaaDoor.X
open Go.RowKit Go.Sort Go.Lib
set_option linter.unusedVariables false
set_option linter.unusedSimpArgs false
theorem joinR_some {c m x : Int} : ∀ rs : List NRow, joinR c m rs = some x → ∃ r ∈ rs, r.mark = m ∧ c ∈ r.b ∧ x = at0 r.l (plc r.b c)
  | [], h => by simp [joinR] at h
  | r :: rs, h => by
    rw [joinR] at h
    split at h
    · rename_i hc
      exact ⟨r, by simp, hc.1, hc.2, (Option.some.inj h).symm⟩
    · obtain ⟨r', h1, h2⟩ := joinR_some rs h
      exact ⟨r', by simp [h1], h2⟩
theorem plc_nat {xs : List Int} {c : Int} (h : c ∈ xs) : ∃ i : Nat, plc xs c = i ∧ i < xs.length ∧ xs.getD i 0 = c := by
  have h0 := plc_ge.2 h
  have h1 := plc_lt h
  refine ⟨(plc xs c).toNat, by omega, by omega, ?_⟩
  unfold plc at h0 h1 ⊢
  rw [if_pos h] at h0 h1 ⊢
  rw [Int.toNat_natCast]
  have hp := List.takeWhile_append_dropWhile (p := fun y => y != c) (l := xs)
  have hd : (xs.dropWhile fun y => y != c) ≠ [] := fun e => by
    rw [e, List.append_nil] at hp
    have := plc_go h
    rw [hp] at this
    omega
  obtain ⟨y, r, hy⟩ : ∃ y r, (xs.dropWhile fun y => y != c) = y :: r := List.exists_cons_of_ne_nil hd
  have hyc : y = c := by
    have := List.head_dropWhile_not (p := fun y => y != c) (l := xs) hd
    simp only [hy, List.head_cons] at this
    simpa using this
  rw [hy, hyc] at hp
  generalize xs.takeWhile (fun y => y != c) = a at hp ⊢
  subst hp
  simp
theorem join_facts {c m x : Int} (h : joinS c m = some x) : splitS x = [c, m] ∧ isMk x = false ∧ ∀ q ∈ nrows, x ∉ q.b := by
  obtain ⟨r, hr, hm, hc, hx⟩ := joinR_some nrows h
  obtain ⟨i, e1, e2, e3⟩ := plc_nat hc
  have hrf := row_facts hr
  have hl := (row_str hr).2.2
  have hi : i < r.l.length := by omega
  have hxe : x = r.l.getD i 0 := by rw [hx, e1]; rfl
  have hp := hrf.pair i hi
  have hxm : x ∈ r.l := by rw [hxe]; simp [hi]
  refine ⟨by rw [hxe, hp.1, e3, hm], (hrf.letter x hxm).1, (hrf.letter x hxm).2⟩
theorem joinR_none {c m : Int} : ∀ rs : List NRow, (∀ q ∈ rs, c ∉ q.b) → joinR c m rs = none
  | [], _ => rfl
  | r :: rs, h => by rw [joinR, if_neg (fun hc => h r (by simp) hc.2), joinR_none rs (fun q hq => h q (by simp [hq]))]
theorem compM_none {c : Int} (h : ∀ q ∈ nrows, c ∉ q.b) : ∀ (ms kept : List Int), compM ms c kept = (c, kept ++ ms)
  | [], kept => by simp [compM]
  | m :: ms, kept => by
    rw [compM, show joinS c m = none from joinR_none nrows h]
    simp only
    rw [compM_none h ms]
    simp
theorem compM_form {c : Int} (hc : splitS c = [c]) : ∀ (ms kept : List Int), (∀ x ∈ ms, isMk x = true) → (∀ x ∈ kept, isMk x = true) → Srt (kept ++ ms) →
    ∃ ms0, splitS (compM ms c kept).1 = c :: ms0 ∧ (∀ x ∈ ms0, isMk x = true) ∧ (∀ x ∈ (compM ms c kept).2, isMk x = true) ∧ sortS (ms0 ++ (compM ms c kept).2) = kept ++ ms
  | [], kept, _, hk, hs => ⟨[], by rw [compM]; exact hc, by simp, by rw [compM]; exact hk, by rw [compM]; rw [List.append_nil] at hs; simp [sortS_id hs]⟩
  | m :: ms, kept, hm, hk, hs => by
    have hm1 := hm m (by simp)
    have hm2 : ∀ x ∈ ms, isMk x = true := fun x hx => hm x (by simp [hx])
    have hk2 : ∀ x ∈ kept ++ [m], isMk x = true := fun x hx => by
      rcases List.mem_append.1 hx with hx | hx
      · exact hk x hx
      · obtain rfl := List.mem_singleton.1 hx; exact hm1
    have hs2 : Srt ((kept ++ [m]) ++ ms) := by simpa using hs
    have e2 : (kept ++ [m]) ++ ms = kept ++ m :: ms := by simp
    have rec1 := compM_form hc ms (kept ++ [m]) hm2 hk2 hs2
    rw [e2] at rec1
    rw [compM]
    cases hJ : joinS c m with
    | none => exact rec1
    | some x =>
      simp only
      cases htk : taken kept m with
      | true => rw [if_pos rfl]; exact rec1
      | false =>
        rw [if_neg (by decide)]
        obtain ⟨j1, j2, j3⟩ := join_facts hJ
        rw [compM_none j3 ms kept]
        refine ⟨[m], j1, by simp [hm1], fun y hy => ?_, ?_⟩
        · rcases List.mem_append.1 hy with hy | hy
          · exact hk y hy
          · exact hm2 y hy
        · obtain ⟨s1, s2, s3⟩ := srt_append.1 hs
          have hlt : ∀ z ∈ [m], ∀ y ∈ kept, clsN y < clsN z := fun z hz y hy => by
            obtain rfl := List.mem_singleton.1 hz
            have h1 := s3 y hy z (by simp)
            have h2 : clsN y ≠ clsN z := fun e => by
              have : taken kept z = true := List.any_eq_true.2 ⟨y, hy, by rw [e]; simp⟩
              rw [htk] at this
              exact absurd this (by decide)
            omega
          have hsame : Same ([m] ++ (kept ++ ms)) (kept ++ m :: ms) := by
            have := (same_swap hlt).append (Same.refl ms)
            simpa [List.append_assoc] using this
          rw [hsame.eq, sortS_id hs]
theorem flat_marks {l : List Int} (h : ∀ x ∈ l, isMk x = true) : l.flatMap splitS = l := flat_atoms l (fun x hx => mark_atom (h x hx))
theorem comp_back : ∀ (n : Nat) (e : List Int) (f : Nat), e.length ≤ n → e.length ≤ f → NoHead e → (∀ x ∈ e, Atom x) → runS e = e → runS ((compF f e).flatMap splitS) = e ∧ NoHead ((compF f e).flatMap splitS)
  | n, [], f, _, _, _, _, _ => by rw [compF_nil]; exact ⟨rfl, NoHead.nil⟩
  | 0, c :: r, f, h, _, _, _, _ => by simp at h
  | n + 1, c :: r, f, h, hf, hn, ha, hr => by
    have hc := hn c r rfl
    obtain ⟨f, rfl⟩ : ∃ q, f = q + 1 := ⟨f - 1, by simp at hf; omega⟩
    rw [runS_cons hc] at hr
    have hr2 : runS r = r := (List.cons.inj hr).2
    have hsp := List.takeWhile_append_dropWhile (p := isMk) (l := r)
    have htl := takeDrop_len r
    have htm := take_marks r
    have hdn := drop_noHead r
    rw [compF, if_neg (by rw [hc]; decide)]
    generalize r.takeWhile isMk = ms at hsp htl htm ⊢
    generalize r.dropWhile isMk = e' at hsp htl hdn ⊢
    subst hsp
    rw [runS_marks htm hdn] at hr2
    obtain ⟨q1, q2⟩ := List.append_inj hr2 (sortS_length ms)
    have hsrt : Srt ms := by rw [← q1]; exact sortS_srt ms
    obtain ⟨i1, i2⟩ := comp_back n e' f (by simp at h; omega) (by simp at hf; omega) hdn (fun x hx => ha x (by simp [hx])) q2
    obtain ⟨ms0, g1, g2, g3, g4⟩ := compM_form (ha c (by simp)).1 ms [] htm (by simp) (by simpa using hsrt)
    have e1 : ((((compM ms c []).1 :: (compM ms c []).2) ++ compF f e').flatMap splitS) = c :: ((ms0 ++ (compM ms c []).2) ++ (compF f e').flatMap splitS) := by
      rw [List.flatMap_append, List.flatMap_cons, g1, flat_marks g3]
      simp
    rw [e1, runS_cons hc, runS_marks (fun x hx => by
      rcases List.mem_append.1 hx with hx | hx
      · exact g2 x hx
      · exact g3 x hx) i2, g4, i1]
    exact ⟨by simp, NoHead.cons hc⟩
theorem compF_marks : ∀ (M e : List Int) (f : Nat), (∀ x ∈ M, isMk x = true) → compF (M.length + f) (M ++ e) = M ++ compF f e
  | [], e, f, _ => by simp
  | c :: M, e, f, h => by
    rw [List.length_cons, show M.length + 1 + f = (M.length + f) + 1 by omega, List.cons_append, compF, if_pos (h c (by simp)), compF_marks M e f (fun x hx => h x (by simp [hx]))]
    rfl
theorem decD_compS {d : List Int} (ha : ∀ x ∈ d, Atom x) (hr : runS d = d) : decD (compS d) = d := by
  have hsp := List.takeWhile_append_dropWhile (p := isMk) (l := d)
  have htm := take_marks d
  have hdn := drop_noHead d
  generalize d.takeWhile isMk = M at hsp htm
  generalize d.dropWhile isMk = e at hsp hdn
  subst hsp
  rw [runS_marks htm hdn] at hr
  obtain ⟨q1, q2⟩ := List.append_inj hr (sortS_length M)
  unfold decD compS
  rw [List.length_append, compF_marks M e e.length htm, List.flatMap_append, flat_marks htm]
  obtain ⟨i1, i2⟩ := comp_back e.length e e.length (Nat.le_refl _) (Nat.le_refl _) hdn (fun x hx => ha x (by simp [hx])) q2
  rw [runS_marks htm i2, i1, q1]
end Go.Proofs.YthcpdhniakpbaaaDoor.X
end

section
namespace Go.Proofs.YthcpdhniakpbaaaDoor.X
open Go.RowKit Go.Sort Go.Lib Go.Proofs.YthcpdhniakpbaaaDoorW.PrintWords Go.Proofs.YthcpdhniakpbaaaDoorW.PrintLast Go.Proofs.YthcpdhniakpbaaaDoorW.PrintMore
set_option linter.unusedVariables false
set_option linter.unusedSimpArgs false
theorem Ev.pick {α : Type} {c : Prop} [Decidable c] {g g' : Nat → Option α} {r : α} (h : c) (e : Ev g r) : Ev (fun k => if c then g k else g' k) r := Ev.congr (fun k => if_pos h) e
theorem Ev.skip {α : Type} {c : Prop} [Decidable c] {g g' : Nat → Option α} {r : α} (h : ¬ c) (e : Ev g' r) : Ev (fun k => if c then g k else g' k) r := Ev.congr (fun k => if_neg h) e
def eAc : ByteArray := ⟨#[195, 169]⟩
def fiL : ByteArray := ⟨#[239, 172, 129]⟩
def cAc : ByteArray := ⟨#[99, 204, 129, 204, 167]⟩
def eDc : ByteArray := ⟨#[101, 204, 129]⟩
theorem aw1 : (bytesOfL (decD (chs eAc))).toList = ([101, 204, 129] : List UInt8) := by decide +kernel
theorem aw2 : (bytesOfL (decD (chs fiL))).toList = ([102, 105] : List UInt8) := by decide +kernel
theorem aw3 : (bytesOfL (compS (decD (chs cAc)))).toList = ([195, 167, 204, 129] : List UInt8) := by decide +kernel
theorem aw4 : ((bytesOfL (compS (decD (chs eAc)))).toList == eAc.toList) = true := by decide +kernel
theorem aw5 : (okS eAc && (okS eDc && decide (decD (chs eAc) = decD (chs eDc)))) = true := by decide +kernel
theorem aw6 : (bytesOfL (stripS (decD (chs eAc)))).toList = ([101] : List UInt8) := by decide +kernel
theorem aw7 : cntM (decD (chs eAc)) = 1 := by decide +kernel
theorem ev_awake : Ev (fun k => bookplatelaw05_awake.f k) true := by
  have s1 : eAc.size ≤ 50000 := by decide
  have s2 : fiL.size ≤ 50000 := by decide
  have s3 : cAc.size ≤ 50000 := by decide
  have s4 : eDc.size ≤ 50000 := by decide
  unfold bookplatelaw05_awake.f
  refine Ev.bind (Ev.of fun k => decompose_eq eAc s1) (Ev.pick aw1 ?_)
  refine Ev.bind (Ev.of fun k => decompose_eq fiL s2) (Ev.pick aw2 ?_)
  refine Ev.bind (Ev.of fun k => compose_eq cAc s3) (Ev.pick aw3 ?_)
  refine Ev.bind (Ev.of fun k => is_eq eAc s1) (Ev.pick aw4 ?_)
  refine Ev.bind (ev_equal eAc eDc s1 s4) (Ev.pick aw5 ?_)
  refine Ev.bind (Ev.of fun k => strip_eq eAc s1) (Ev.pick aw6 ?_)
  refine Ev.bind (ev_marks eAc s1) ?_
  exact Ev.of fun k => by rw [aw7]; rfl
theorem dec_of_comp (s : ByteArray) : decD (compS (decD (chs s))) = decD (chs s) := decD_compS (decD_atoms (chs_has s)) (decD_run _)
end Go.Proofs.YthcpdhniakpbaaaDoor.X
end

section
namespace Go.Proofs.YthcpdhniakpbaaaDoor.X
open Go.RowKit Go.Proofs.YthcpdhniakpbaaaDoorW.PrintWords Go.Proofs.YthcpdhniakpbaaaDoorW.PrintLast Go.Proofs.YthcpdhniakpbaaaDoorW.PrintMore
attribute [local go_sem] max2_int min2_int max_two min_two max_three min_three max_four min_four
set_option linter.unusedVariables false
set_option linter.unusedSimpArgs false
def bookplatelaw05_NormalEqual.j0 : Nat → ByteArray → ByteArray → Bool → Option (Bool)
  | 0, _, _, _ => none
  | k + 1, x0, x1, x18 => if x18 = true then (some true) else ((normal_Equal.f k x0 x1).bind fun t633 => ((bookplateref05_Equal.f k x0 x1).bind fun t634 => (if (t633 != t634) = true then (some false) else ((bookplateref04_Decode.f k x0).bind fun bt635 => ((bookplateref04_Decode.f k x1).bind fun bt639 => (if bt635.2 = true then (if bt639.2 = true then ((normal_Equal.f k x0 x1).bind fun t643 => ((normal_Compose.f x0).bind fun t644 => ((normal_Compose.f x1).bind fun t645 => (some (t643 == (t644.toList == t645.toList)))))) else (some true)) else (some true)))))))
def bookplatelaw05_NormalEqual.f (k : Nat) (a0 : ByteArray) (a1 : ByteArray) : Option (Bool) := (bookplatelaw05_awake.f k).bind fun t632 => (if t632 = true then (if (a0.size : Int) > 40 then (bookplatelaw05_NormalEqual.j0 k a0 a1 true) else (bookplatelaw05_NormalEqual.j0 k a0 a1 (decide ((a1.size : Int) > 40)))) else (some false))
set_option maxHeartbeats 8000000 in
set_option maxRecDepth 100000 in
theorem bookplatelaw05_NormalEqual.calls (k : Nat) (a0 : ByteArray) (a1 : ByteArray) (r : Bool) (w : World) (hG : GT1 w) (h : bookplatelaw05_NormalEqual.f k a0 a1 = some r) :
    Calls Tryd.prog 12 #[.string a0, .string a1] w fun e w' => e = .returned (.bool r) ∧ Below w.heap.size w w' := by
  have HG := Aside0.mk hG
  clear hG
  have HB := Aside0.mk (Below.refl w.heap.size w)
  have H : ((bookplatelaw05_awake.f k).bind fun t632 => (if t632 = true then (if (a0.size : Int) > 40 then (bookplatelaw05_NormalEqual.j0 k a0 a1 true) else (bookplatelaw05_NormalEqual.j0 k a0 a1 (decide ((a1.size : Int) > 40)))) else (some false))) = some r := h
  clear h
  replace H := Option.bind_eq_some_iff.mp H
  obtain ⟨t632, A30, H⟩ := H
  replace H : (if t632 = true then (if (a0.size : Int) > 40 then (bookplatelaw05_NormalEqual.j0 k a0 a1 true) else (bookplatelaw05_NormalEqual.j0 k a0 a1 (decide ((a1.size : Int) > 40)))) else (some false)) = some r := H
  have A3 := Aside0.mk A30
  clear A30
  by_cases c4 : t632 = true
  · subst c4
    have H1 : (if (a0.size : Int) > 40 then (bookplatelaw05_NormalEqual.j0 k a0 a1 true) else (bookplatelaw05_NormalEqual.j0 k a0 a1 (decide ((a1.size : Int) > 40)))) = some r := by rw [if_pos rfl] at H; exact H
    clear H
    have H := H1
    clear H1
    have HC5 := Aside0.mk H
    clear H
    go_enter Tryd.func12, Tryd.ntmps12
    go_upto_region 3 with (first | ((with_reducible refine gate_callee (f := 37) rfl ?_); refine goesL_ (some 9) rfl rfl Tryd.func37 (by kernel_rfl) rfl #[] rfl (by (try simp only [List.map_toArray, List.map_cons, List.map_nil]); first | done | rfl | (simp only [List.length_drop, List.length_take]; rfl)) ?_; (with_reducible refine (bookplatelaw05_awake.calls k  true _ ?side1 A3.out).mono ?_); (case side1 => exact GT1.below (HG.out) (by repeat (first | (with_reducible first | exact HB.out | apply below_alloc | apply pw_below_drewN | apply below_drew1) | exact HB.out))); rintro e w6 ⟨rfl, hb⟩; refine ⟨_, rfl, ?_⟩; have n0_ := Aside0.mk (below_step (by repeat (first | (with_reducible first | exact HB.out | apply below_alloc | apply pw_below_drewN | apply below_drew1) | exact HB.out)) hb); clear HB; have HB := n0_; clear n0_; (try clear hb); (try clear hb2); (try clear hk); (try clear hi)))
    (try simp only [Act.put, List.setIfInBounds_toArray, List.set_cons_zero, List.set_cons_succ])
    go_cut [18] (fun v18 wc => ∃ (kq : Nat) (x18_4 : Bool), v18 = .bool x18_4 ∧ Aside0 (bookplatelaw05_NormalEqual.j0 kq a0 a1 x18_4 = some r) ∧ Aside0 (kq ≤ k) ∧ Aside0 (Below w.heap.size w wc))
    case first =>
      have H := HC5.out
      clear HC5
      by_cases c7 : (a0.size : Int) > 40
      · rw [if_pos c7] at H
        have c7b0 : decide (40 < (a0.size : Int)) = true := decide_eq_true c7
        have c7b1 : decide (40 < a0.size) = true := decide_eq_true (by omega)
        clear c7
        (first | rw [c7b0] | (simp only [i64_w, i32_w]; rw [c7b0]) | skip)
        have H' := Aside0.mk H
        clear H
        go_wp2
        go_meet
        case rel => exact ⟨_, (true), (by first | rfl | (simp; done) | (simp [*]; done)), H', ⟨by first | omega | exact Nat.le_refl _⟩, ⟨by repeat (first | (with_reducible first | exact HB.out | apply below_alloc | apply pw_below_drewN | apply below_drew1) | exact HB.out)⟩⟩
      · rw [if_neg c7] at H
        have c7b0 : decide (40 < (a0.size : Int)) = false := decide_eq_false c7
        have c7b1 : decide (40 < a0.size) = false := decide_eq_false (by omega)
        clear c7
        (first | rw [c7b0] | (simp only [i64_w, i32_w]; rw [c7b0]) | skip)
        have H' := Aside0.mk H
        clear H
        go_wp2
        go_meet
        case rel => exact ⟨_, (decide ((a1.size : Int) > 40)), (by first | rfl | (simp; done) | (simp [*]; done)), H', ⟨by first | omega | exact Nat.le_refl _⟩, ⟨by repeat (first | (with_reducible first | exact HB.out | apply below_alloc | apply pw_below_drewN | apply below_drew1) | exact HB.out)⟩⟩
    case rest =>
      clear HC5
      try clear c1
      try clear p2
      try clear c3
      try clear c4
      try clear c7
      try clear c7b0
      try clear c7b1
      obtain ⟨kq, x18_4, rfl, HA, HJ4, HB⟩ := hcut
      cases kq with
      | zero => exact absurd HA.out (by simp [bookplatelaw05_NormalEqual.j0])
      | succ kj4 =>
        have H := HA.out
        clear HA
        simp only [bookplatelaw05_NormalEqual.j0] at H
        by_cases c8 : x18_4 = true
        · subst c8
          have H1 : (some true) = some r := by rw [if_pos rfl] at H; exact H
          clear H
          have H := H1
          clear H1
          obtain rfl := Option.some.inj H
          go_wp2
          go_ret
          exact ⟨by first | rfl | (simp [errW_none, errW_some] <;> rfl) | (simp [*, errW_none, errW_some] <;> rfl), by repeat (first | (with_reducible first | exact HB.out | apply below_alloc | apply pw_below_drewN | apply below_drew1) | exact HB.out)⟩
        · replace c8 := Bool.eq_false_iff.mpr c8
          subst c8
          have H1 : ((normal_Equal.f kj4 a0 a1).bind fun t633 => ((bookplateref05_Equal.f kj4 a0 a1).bind fun t634 => (if (t633 != t634) = true then (some false) else ((bookplateref04_Decode.f kj4 a0).bind fun bt635 => ((bookplateref04_Decode.f kj4 a1).bind fun bt639 => (if bt635.2 = true then (if bt639.2 = true then ((normal_Equal.f kj4 a0 a1).bind fun t643 => ((normal_Compose.f a0).bind fun t644 => ((normal_Compose.f a1).bind fun t645 => (some (t643 == (t644.toList == t645.toList)))))) else (some true)) else (some true))))))) = some r := by rw [if_neg (show ¬ (false = true) by decide)] at H; exact H
          clear H
          have H := H1
          clear H1
          replace H := Option.bind_eq_some_iff.mp H
          obtain ⟨t633, A90, H⟩ := H
          replace H : ((bookplateref05_Equal.f kj4 a0 a1).bind fun t634 => (if (t633 != t634) = true then (some false) else ((bookplateref04_Decode.f kj4 a0).bind fun bt635 => ((bookplateref04_Decode.f kj4 a1).bind fun bt639 => (if bt635.2 = true then (if bt639.2 = true then ((normal_Equal.f kj4 a0 a1).bind fun t643 => ((normal_Compose.f a0).bind fun t644 => ((normal_Compose.f a1).bind fun t645 => (some (t643 == (t644.toList == t645.toList)))))) else (some true)) else (some true)))))) = some r := H
          have A9 := Aside0.mk A90
          clear A90
          replace H := Option.bind_eq_some_iff.mp H
          obtain ⟨t634, A100, H⟩ := H
          replace H : (if (t633 != t634) = true then (some false) else ((bookplateref04_Decode.f kj4 a0).bind fun bt635 => ((bookplateref04_Decode.f kj4 a1).bind fun bt639 => (if bt635.2 = true then (if bt639.2 = true then ((normal_Equal.f kj4 a0 a1).bind fun t643 => ((normal_Compose.f a0).bind fun t644 => ((normal_Compose.f a1).bind fun t645 => (some (t643 == (t644.toList == t645.toList)))))) else (some true)) else (some true))))) = some r := H
          have A10 := Aside0.mk A100
          clear A100
          by_cases c11 : (t633 != t634) = true
          · rw [if_pos c11] at H
            have c11b0 : (t633 != t634) = true := c11
            (try (have c11b1 : decide (t633 = t634) = false := by simpa using c11))
            (try (have c11b2 : (t633 == t634) = false := by simpa using c11))
            (try (have c11b3 : ¬ (t633 = t634) := by simpa using c11))
            clear c11
            obtain rfl := Option.some.inj H
            go_wp2_with (first | ((with_reducible refine gate_callee (f := 48) rfl ?_); refine goesL_ (some 21) rfl rfl Tryd.func48 (by kernel_rfl) rfl #[.string a0, .string a1] rfl (by (try simp only [List.map_toArray, List.map_cons, List.map_nil]); first | done | rfl | (simp only [List.length_drop, List.length_take]; rfl)) ?_; (with_reducible refine (normal_Equal.calls kj4 a0 a1 t633 _ ?side1 A9.out).mono ?_); (case side1 => exact GT1.below (HG.out) (by repeat (first | (with_reducible first | exact HB.out | apply below_alloc | apply pw_below_drewN | apply below_drew1) | exact HB.out))); rintro e w12 ⟨rfl, hb⟩; refine ⟨_, rfl, ?_⟩; have n0_ := Aside0.mk (below_step (by repeat (first | (with_reducible first | exact HB.out | apply below_alloc | apply pw_below_drewN | apply below_drew1) | exact HB.out)) hb); clear HB; have HB := n0_; clear n0_; (try clear hb); (try clear hb2); (try clear hk); (try clear hi)) | ((with_reducible refine gate_callee (f := 49) rfl ?_); refine goesL_ (some 24) rfl rfl Tryd.func49 (by kernel_rfl) rfl #[.string a0, .string a1] rfl (by (try simp only [List.map_toArray, List.map_cons, List.map_nil]); first | done | rfl | (simp only [List.length_drop, List.length_take]; rfl)) ?_; (with_reducible refine (bookplateref05_Equal.calls kj4 a0 a1 t634 _ A10.out).mono ?_); rintro e w13 ⟨rfl, hb⟩; refine ⟨_, rfl, ?_⟩; have n0_ := Aside0.mk (below_step (by repeat (first | (with_reducible first | exact HB.out | apply below_alloc | apply pw_below_drewN | apply below_drew1) | exact HB.out)) hb); clear HB; have HB := n0_; clear n0_; (try clear hb); (try clear hb2); (try clear hk); (try clear hi)))
            go_ret
            exact ⟨by first | rfl | (simp [errW_none, errW_some] <;> rfl) | (simp [*, errW_none, errW_some] <;> rfl), by repeat (first | (with_reducible first | exact HB.out | apply below_alloc | apply pw_below_drewN | apply below_drew1) | exact HB.out)⟩
          · rw [if_neg c11] at H
            have c11b0 : (t633 != t634) = false := by simpa using c11
            (try (have c11b1 : decide (t633 = t634) = true := by simpa using c11))
            (try (have c11b2 : (t633 == t634) = true := by simpa using c11))
            clear c11
            replace H := Option.bind_eq_some_iff.mp H
            obtain ⟨⟨t635, t636⟩, A140, H⟩ := H
            replace H : ((bookplateref04_Decode.f kj4 a1).bind fun bt639 => (if t636 = true then (if bt639.2 = true then ((normal_Equal.f kj4 a0 a1).bind fun t643 => ((normal_Compose.f a0).bind fun t644 => ((normal_Compose.f a1).bind fun t645 => (some (t643 == (t644.toList == t645.toList)))))) else (some true)) else (some true))) = some r := H
            have A14 := Aside0.mk A140
            clear A140
            replace H := Option.bind_eq_some_iff.mp H
            obtain ⟨⟨t639, t640⟩, A150, H⟩ := H
            replace H : (if t636 = true then (if t640 = true then ((normal_Equal.f kj4 a0 a1).bind fun t643 => ((normal_Compose.f a0).bind fun t644 => ((normal_Compose.f a1).bind fun t645 => (some (t643 == (t644.toList == t645.toList)))))) else (some true)) else (some true)) = some r := H
            have A15 := Aside0.mk A150
            clear A150
            by_cases c16 : t636 = true
            · subst c16
              have H1 : (if t640 = true then ((normal_Equal.f kj4 a0 a1).bind fun t643 => ((normal_Compose.f a0).bind fun t644 => ((normal_Compose.f a1).bind fun t645 => (some (t643 == (t644.toList == t645.toList)))))) else (some true)) = some r := by rw [if_pos rfl] at H; exact H
              clear H
              have H := H1
              clear H1
              by_cases c17 : t640 = true
              · subst c17
                have H1 : ((normal_Equal.f kj4 a0 a1).bind fun t643 => ((normal_Compose.f a0).bind fun t644 => ((normal_Compose.f a1).bind fun t645 => (some (t643 == (t644.toList == t645.toList)))))) = some r := by rw [if_pos rfl] at H; exact H
                clear H
                have H := H1
                clear H1
                replace H := Option.bind_eq_some_iff.mp H
                obtain ⟨t643, A180, H⟩ := H
                replace H : ((normal_Compose.f a0).bind fun t644 => ((normal_Compose.f a1).bind fun t645 => (some (t643 == (t644.toList == t645.toList))))) = some r := H
                have A18 := Aside0.mk A180
                clear A180
                replace H := Option.bind_eq_some_iff.mp H
                obtain ⟨t644, A190, H⟩ := H
                replace H : ((normal_Compose.f a1).bind fun t645 => (some (t643 == (t644.toList == t645.toList)))) = some r := H
                have A19 := Aside0.mk A190
                clear A190
                replace H := Option.bind_eq_some_iff.mp H
                obtain ⟨t645, A200, H⟩ := H
                replace H : (some (t643 == (t644.toList == t645.toList))) = some r := H
                have A20 := Aside0.mk A200
                clear A200
                obtain rfl := Option.some.inj H
                go_wp2_with (first | ((with_reducible refine gate_callee (f := 48) rfl ?_); refine goesL_ (some 21) rfl rfl Tryd.func48 (by kernel_rfl) rfl #[.string a0, .string a1] rfl (by (try simp only [List.map_toArray, List.map_cons, List.map_nil]); first | done | rfl | (simp only [List.length_drop, List.length_take]; rfl)) ?_; (with_reducible refine (normal_Equal.calls kj4 a0 a1 t633 _ ?side1 A9.out).mono ?_); (case side1 => exact GT1.below (HG.out) (by repeat (first | (with_reducible first | exact HB.out | apply below_alloc | apply pw_below_drewN | apply below_drew1) | exact HB.out))); rintro e w21 ⟨rfl, hb⟩; refine ⟨_, rfl, ?_⟩; have n0_ := Aside0.mk (below_step (by repeat (first | (with_reducible first | exact HB.out | apply below_alloc | apply pw_below_drewN | apply below_drew1) | exact HB.out)) hb); clear HB; have HB := n0_; clear n0_; (try clear hb); (try clear hb2); (try clear hk); (try clear hi)) | ((with_reducible refine gate_callee (f := 49) rfl ?_); refine goesL_ (some 24) rfl rfl Tryd.func49 (by kernel_rfl) rfl #[.string a0, .string a1] rfl (by (try simp only [List.map_toArray, List.map_cons, List.map_nil]); first | done | rfl | (simp only [List.length_drop, List.length_take]; rfl)) ?_; (with_reducible refine (bookplateref05_Equal.calls kj4 a0 a1 t634 _ A10.out).mono ?_); rintro e w22 ⟨rfl, hb⟩; refine ⟨_, rfl, ?_⟩; have n0_ := Aside0.mk (below_step (by repeat (first | (with_reducible first | exact HB.out | apply below_alloc | apply pw_below_drewN | apply below_drew1) | exact HB.out)) hb); clear HB; have HB := n0_; clear n0_; (try clear hb); (try clear hb2); (try clear hk); (try clear hi)) | ((with_reducible refine gate_callee (f := 31) rfl ?_); refine goesL_ (some 28) rfl rfl Tryd.func31 (by kernel_rfl) rfl #[.string a0] rfl (by (try simp only [List.map_toArray, List.map_cons, List.map_nil]); first | done | rfl | (simp only [List.length_drop, List.length_take]; rfl)) ?_; (with_reducible refine (bookplateref04_Decode.calls kj4 a0 t635 true _ A14.out).mono ?_); rintro e w23 ⟨v637, rfl, ho0, hb⟩; refine ⟨_, rfl, ?_⟩; have n0_ := Aside0.mk (Kd.R_lower ho0 (below_size (by repeat (first | (with_reducible first | exact HB.out | apply below_alloc | apply pw_below_drewN | apply below_drew1) | exact HB.out)))); have n1_ := Aside0.mk (below_step (by repeat (first | (with_reducible first | exact HB.out | apply below_alloc | apply pw_below_drewN | apply below_drew1) | exact HB.out)) hb); clear HB; have HO638 := n0_; have HB := n1_; clear n0_ n1_; (try clear hb); (try clear hb2); (try clear hk); (try clear hi); (try clear ho0)) | ((with_reducible refine gate_callee (f := 31) rfl ?_); refine goesL_ (some 33) rfl rfl Tryd.func31 (by kernel_rfl) rfl #[.string a1] rfl (by (try simp only [List.map_toArray, List.map_cons, List.map_nil]); first | done | rfl | (simp only [List.length_drop, List.length_take]; rfl)) ?_; (with_reducible refine (bookplateref04_Decode.calls kj4 a1 t639 true _ A15.out).mono ?_); rintro e w24 ⟨v641, rfl, ho0, hb⟩; refine ⟨_, rfl, ?_⟩; have n0_ := Aside0.mk (Kd.R_elder' (by (with_reducible repeat (first | apply Kd.R_alloc | apply Kd.R_drewN | apply Kd.R_drew)); exact HO638.out) (Kd.R_base ho0) hb); have n1_ := Aside0.mk (Kd.R_lower (Kd.R_new' ho0 (Kd.R_lt (by (with_reducible repeat (first | apply Kd.R_alloc | apply Kd.R_drewN | apply Kd.R_drew)); exact HO638.out))) (below_size (by repeat (first | (with_reducible first | exact HB.out | apply below_alloc | apply pw_below_drewN | apply below_drew1) | exact HB.out)))); have n2_ := Aside0.mk (below_step (by repeat (first | (with_reducible first | exact HB.out | apply below_alloc | apply pw_below_drewN | apply below_drew1) | exact HB.out)) hb); clear HO638; clear HB; have HO638 := n0_; have HO642 := n1_; have HB := n2_; clear n0_ n1_ n2_; (try clear hb); (try clear hb2); (try clear hk); (try clear hi); (try clear ho0)) | (go_at_call 48; (with_reducible refine (normal_Equal.calls kj4 a0 a1 t643 _ ?side1 A18.out).mono ?_); (case side1 => exact GT1.below (HG.out) (by repeat (first | (with_reducible first | exact HB.out | apply below_alloc | apply pw_below_drewN | apply below_drew1) | exact HB.out))); rintro e w25 ⟨rfl, hb⟩; have n0_ := Aside0.mk (Kd.R_below (by (with_reducible repeat (first | apply Kd.R_alloc | apply Kd.R_drewN | apply Kd.R_drew)); exact HO638.out) hb); have n1_ := Aside0.mk (Kd.R_below (by (with_reducible repeat (first | apply Kd.R_alloc | apply Kd.R_drewN | apply Kd.R_drew)); exact HO642.out) hb); have n2_ := Aside0.mk (below_step (by repeat (first | (with_reducible first | exact HB.out | apply below_alloc | apply pw_below_drewN | apply below_drew1) | exact HB.out)) hb); clear HO638; clear HO642; clear HB; have HO638 := n0_; have HO642 := n1_; have HB := n2_; clear n0_ n1_ n2_; (try clear hb); (try clear hb2); (try clear hk); (try clear hi)) | (go_at_call 40; (with_reducible refine (normal_Compose.calls a0 t644 _ ?side1 A19.out).mono ?_); (case side1 => exact GT1.below (HG.out) (by repeat (first | (with_reducible first | exact HB.out | apply below_alloc | apply pw_below_drewN | apply below_drew1) | exact HB.out))); rintro e w26 ⟨rfl, hb⟩; have n0_ := Aside0.mk (Kd.R_below (by (with_reducible repeat (first | apply Kd.R_alloc | apply Kd.R_drewN | apply Kd.R_drew)); exact HO638.out) hb); have n1_ := Aside0.mk (Kd.R_below (by (with_reducible repeat (first | apply Kd.R_alloc | apply Kd.R_drewN | apply Kd.R_drew)); exact HO642.out) hb); have n2_ := Aside0.mk (below_step (by repeat (first | (with_reducible first | exact HB.out | apply below_alloc | apply pw_below_drewN | apply below_drew1) | exact HB.out)) hb); clear HO638; clear HO642; clear HB; have HO638 := n0_; have HO642 := n1_; have HB := n2_; clear n0_ n1_ n2_; (try clear hb); (try clear hb2); (try clear hk); (try clear hi)) | (go_at_call 40; (with_reducible refine (normal_Compose.calls a1 t645 _ ?side1 A20.out).mono ?_); (case side1 => exact GT1.below (HG.out) (by repeat (first | (with_reducible first | exact HB.out | apply below_alloc | apply pw_below_drewN | apply below_drew1) | exact HB.out))); rintro e w27 ⟨rfl, hb⟩; have n0_ := Aside0.mk (Kd.R_below (by (with_reducible repeat (first | apply Kd.R_alloc | apply Kd.R_drewN | apply Kd.R_drew)); exact HO638.out) hb); have n1_ := Aside0.mk (Kd.R_below (by (with_reducible repeat (first | apply Kd.R_alloc | apply Kd.R_drewN | apply Kd.R_drew)); exact HO642.out) hb); have n2_ := Aside0.mk (below_step (by repeat (first | (with_reducible first | exact HB.out | apply below_alloc | apply pw_below_drewN | apply below_drew1) | exact HB.out)) hb); clear HO638; clear HO642; clear HB; have HO638 := n0_; have HO642 := n1_; have HB := n2_; clear n0_ n1_ n2_; (try clear hb); (try clear hb2); (try clear hk); (try clear hi)))
                go_ret
                exact ⟨by first | rfl | (simp [errW_none, errW_some] <;> rfl) | (simp [*, errW_none, errW_some] <;> rfl), by repeat (first | (with_reducible first | exact HB.out | apply below_alloc | apply pw_below_drewN | apply below_drew1) | exact HB.out)⟩
              · replace c17 := Bool.eq_false_iff.mpr c17
                subst c17
                have H1 : (some true) = some r := by rw [if_neg (show ¬ (false = true) by decide)] at H; exact H
                clear H
                have H := H1
                clear H1
                obtain rfl := Option.some.inj H
                go_wp2_with (first | ((with_reducible refine gate_callee (f := 48) rfl ?_); refine goesL_ (some 21) rfl rfl Tryd.func48 (by kernel_rfl) rfl #[.string a0, .string a1] rfl (by (try simp only [List.map_toArray, List.map_cons, List.map_nil]); first | done | rfl | (simp only [List.length_drop, List.length_take]; rfl)) ?_; (with_reducible refine (normal_Equal.calls kj4 a0 a1 t633 _ ?side1 A9.out).mono ?_); (case side1 => exact GT1.below (HG.out) (by repeat (first | (with_reducible first | exact HB.out | apply below_alloc | apply pw_below_drewN | apply below_drew1) | exact HB.out))); rintro e w28 ⟨rfl, hb⟩; refine ⟨_, rfl, ?_⟩; have n0_ := Aside0.mk (below_step (by repeat (first | (with_reducible first | exact HB.out | apply below_alloc | apply pw_below_drewN | apply below_drew1) | exact HB.out)) hb); clear HB; have HB := n0_; clear n0_; (try clear hb); (try clear hb2); (try clear hk); (try clear hi)) | ((with_reducible refine gate_callee (f := 49) rfl ?_); refine goesL_ (some 24) rfl rfl Tryd.func49 (by kernel_rfl) rfl #[.string a0, .string a1] rfl (by (try simp only [List.map_toArray, List.map_cons, List.map_nil]); first | done | rfl | (simp only [List.length_drop, List.length_take]; rfl)) ?_; (with_reducible refine (bookplateref05_Equal.calls kj4 a0 a1 t634 _ A10.out).mono ?_); rintro e w29 ⟨rfl, hb⟩; refine ⟨_, rfl, ?_⟩; have n0_ := Aside0.mk (below_step (by repeat (first | (with_reducible first | exact HB.out | apply below_alloc | apply pw_below_drewN | apply below_drew1) | exact HB.out)) hb); clear HB; have HB := n0_; clear n0_; (try clear hb); (try clear hb2); (try clear hk); (try clear hi)) | ((with_reducible refine gate_callee (f := 31) rfl ?_); refine goesL_ (some 28) rfl rfl Tryd.func31 (by kernel_rfl) rfl #[.string a0] rfl (by (try simp only [List.map_toArray, List.map_cons, List.map_nil]); first | done | rfl | (simp only [List.length_drop, List.length_take]; rfl)) ?_; (with_reducible refine (bookplateref04_Decode.calls kj4 a0 t635 true _ A14.out).mono ?_); rintro e w30 ⟨v637, rfl, ho0, hb⟩; refine ⟨_, rfl, ?_⟩; have n0_ := Aside0.mk (Kd.R_lower ho0 (below_size (by repeat (first | (with_reducible first | exact HB.out | apply below_alloc | apply pw_below_drewN | apply below_drew1) | exact HB.out)))); have n1_ := Aside0.mk (below_step (by repeat (first | (with_reducible first | exact HB.out | apply below_alloc | apply pw_below_drewN | apply below_drew1) | exact HB.out)) hb); clear HB; have HO638 := n0_; have HB := n1_; clear n0_ n1_; (try clear hb); (try clear hb2); (try clear hk); (try clear hi); (try clear ho0)) | ((with_reducible refine gate_callee (f := 31) rfl ?_); refine goesL_ (some 33) rfl rfl Tryd.func31 (by kernel_rfl) rfl #[.string a1] rfl (by (try simp only [List.map_toArray, List.map_cons, List.map_nil]); first | done | rfl | (simp only [List.length_drop, List.length_take]; rfl)) ?_; (with_reducible refine (bookplateref04_Decode.calls kj4 a1 t639 false _ A15.out).mono ?_); rintro e w31 ⟨v641, rfl, ho0, hb⟩; refine ⟨_, rfl, ?_⟩; have n0_ := Aside0.mk (Kd.R_elder' (by (with_reducible repeat (first | apply Kd.R_alloc | apply Kd.R_drewN | apply Kd.R_drew)); exact HO638.out) (Kd.R_base ho0) hb); have n1_ := Aside0.mk (Kd.R_lower (Kd.R_new' ho0 (Kd.R_lt (by (with_reducible repeat (first | apply Kd.R_alloc | apply Kd.R_drewN | apply Kd.R_drew)); exact HO638.out))) (below_size (by repeat (first | (with_reducible first | exact HB.out | apply below_alloc | apply pw_below_drewN | apply below_drew1) | exact HB.out)))); have n2_ := Aside0.mk (below_step (by repeat (first | (with_reducible first | exact HB.out | apply below_alloc | apply pw_below_drewN | apply below_drew1) | exact HB.out)) hb); clear HO638; clear HB; have HO638 := n0_; have HO642 := n1_; have HB := n2_; clear n0_ n1_ n2_; (try clear hb); (try clear hb2); (try clear hk); (try clear hi); (try clear ho0)))
                go_ret
                exact ⟨by first | rfl | (simp [errW_none, errW_some] <;> rfl) | (simp [*, errW_none, errW_some] <;> rfl), by repeat (first | (with_reducible first | exact HB.out | apply below_alloc | apply pw_below_drewN | apply below_drew1) | exact HB.out)⟩
            · replace c16 := Bool.eq_false_iff.mpr c16
              subst c16
              have H1 : (some true) = some r := by rw [if_neg (show ¬ (false = true) by decide)] at H; exact H
              clear H
              have H := H1
              clear H1
              obtain rfl := Option.some.inj H
              go_wp2_with (first | ((with_reducible refine gate_callee (f := 48) rfl ?_); refine goesL_ (some 21) rfl rfl Tryd.func48 (by kernel_rfl) rfl #[.string a0, .string a1] rfl (by (try simp only [List.map_toArray, List.map_cons, List.map_nil]); first | done | rfl | (simp only [List.length_drop, List.length_take]; rfl)) ?_; (with_reducible refine (normal_Equal.calls kj4 a0 a1 t633 _ ?side1 A9.out).mono ?_); (case side1 => exact GT1.below (HG.out) (by repeat (first | (with_reducible first | exact HB.out | apply below_alloc | apply pw_below_drewN | apply below_drew1) | exact HB.out))); rintro e w32 ⟨rfl, hb⟩; refine ⟨_, rfl, ?_⟩; have n0_ := Aside0.mk (below_step (by repeat (first | (with_reducible first | exact HB.out | apply below_alloc | apply pw_below_drewN | apply below_drew1) | exact HB.out)) hb); clear HB; have HB := n0_; clear n0_; (try clear hb); (try clear hb2); (try clear hk); (try clear hi)) | ((with_reducible refine gate_callee (f := 49) rfl ?_); refine goesL_ (some 24) rfl rfl Tryd.func49 (by kernel_rfl) rfl #[.string a0, .string a1] rfl (by (try simp only [List.map_toArray, List.map_cons, List.map_nil]); first | done | rfl | (simp only [List.length_drop, List.length_take]; rfl)) ?_; (with_reducible refine (bookplateref05_Equal.calls kj4 a0 a1 t634 _ A10.out).mono ?_); rintro e w33 ⟨rfl, hb⟩; refine ⟨_, rfl, ?_⟩; have n0_ := Aside0.mk (below_step (by repeat (first | (with_reducible first | exact HB.out | apply below_alloc | apply pw_below_drewN | apply below_drew1) | exact HB.out)) hb); clear HB; have HB := n0_; clear n0_; (try clear hb); (try clear hb2); (try clear hk); (try clear hi)) | ((with_reducible refine gate_callee (f := 31) rfl ?_); refine goesL_ (some 28) rfl rfl Tryd.func31 (by kernel_rfl) rfl #[.string a0] rfl (by (try simp only [List.map_toArray, List.map_cons, List.map_nil]); first | done | rfl | (simp only [List.length_drop, List.length_take]; rfl)) ?_; (with_reducible refine (bookplateref04_Decode.calls kj4 a0 t635 false _ A14.out).mono ?_); rintro e w34 ⟨v637, rfl, ho0, hb⟩; refine ⟨_, rfl, ?_⟩; have n0_ := Aside0.mk (Kd.R_lower ho0 (below_size (by repeat (first | (with_reducible first | exact HB.out | apply below_alloc | apply pw_below_drewN | apply below_drew1) | exact HB.out)))); have n1_ := Aside0.mk (below_step (by repeat (first | (with_reducible first | exact HB.out | apply below_alloc | apply pw_below_drewN | apply below_drew1) | exact HB.out)) hb); clear HB; have HO638 := n0_; have HB := n1_; clear n0_ n1_; (try clear hb); (try clear hb2); (try clear hk); (try clear hi); (try clear ho0)) | ((with_reducible refine gate_callee (f := 31) rfl ?_); refine goesL_ (some 33) rfl rfl Tryd.func31 (by kernel_rfl) rfl #[.string a1] rfl (by (try simp only [List.map_toArray, List.map_cons, List.map_nil]); first | done | rfl | (simp only [List.length_drop, List.length_take]; rfl)) ?_; (with_reducible refine (bookplateref04_Decode.calls kj4 a1 t639 t640 _ A15.out).mono ?_); rintro e w35 ⟨v641, rfl, ho0, hb⟩; refine ⟨_, rfl, ?_⟩; have n0_ := Aside0.mk (Kd.R_elder' (by (with_reducible repeat (first | apply Kd.R_alloc | apply Kd.R_drewN | apply Kd.R_drew)); exact HO638.out) (Kd.R_base ho0) hb); have n1_ := Aside0.mk (Kd.R_lower (Kd.R_new' ho0 (Kd.R_lt (by (with_reducible repeat (first | apply Kd.R_alloc | apply Kd.R_drewN | apply Kd.R_drew)); exact HO638.out))) (below_size (by repeat (first | (with_reducible first | exact HB.out | apply below_alloc | apply pw_below_drewN | apply below_drew1) | exact HB.out)))); have n2_ := Aside0.mk (below_step (by repeat (first | (with_reducible first | exact HB.out | apply below_alloc | apply pw_below_drewN | apply below_drew1) | exact HB.out)) hb); clear HO638; clear HB; have HO638 := n0_; have HO642 := n1_; have HB := n2_; clear n0_ n1_ n2_; (try clear hb); (try clear hb2); (try clear hk); (try clear hi); (try clear ho0)))
              go_ret
              exact ⟨by first | rfl | (simp [errW_none, errW_some] <;> rfl) | (simp [*, errW_none, errW_some] <;> rfl), by repeat (first | (with_reducible first | exact HB.out | apply below_alloc | apply pw_below_drewN | apply below_drew1) | exact HB.out)⟩
  · replace c4 := Bool.eq_false_iff.mpr c4
    subst c4
    have H1 : (some false) = some r := by rw [if_neg (show ¬ (false = true) by decide)] at H; exact H
    clear H
    have H := H1
    clear H1
    obtain rfl := Option.some.inj H
    go_enter Tryd.func12, Tryd.ntmps12
    go_wp2_with (first | ((with_reducible refine gate_callee (f := 37) rfl ?_); refine goesL_ (some 9) rfl rfl Tryd.func37 (by kernel_rfl) rfl #[] rfl (by (try simp only [List.map_toArray, List.map_cons, List.map_nil]); first | done | rfl | (simp only [List.length_drop, List.length_take]; rfl)) ?_; (with_reducible refine (bookplatelaw05_awake.calls k  false _ ?side1 A3.out).mono ?_); (case side1 => exact GT1.below (HG.out) (by repeat (first | (with_reducible first | exact HB.out | apply below_alloc | apply pw_below_drewN | apply below_drew1) | exact HB.out))); rintro e w36 ⟨rfl, hb⟩; refine ⟨_, rfl, ?_⟩; have n0_ := Aside0.mk (below_step (by repeat (first | (with_reducible first | exact HB.out | apply below_alloc | apply pw_below_drewN | apply below_drew1) | exact HB.out)) hb); clear HB; have HB := n0_; clear n0_; (try clear hb); (try clear hb2); (try clear hk); (try clear hi)))
    go_ret
    exact ⟨by first | rfl | (simp [errW_none, errW_some] <;> rfl) | (simp [*, errW_none, errW_some] <;> rfl), by repeat (first | (with_reducible first | exact HB.out | apply below_alloc | apply pw_below_drewN | apply below_drew1) | exact HB.out)⟩
end Go.Proofs.YthcpdhniakpbaaaDoor.X
end

section
namespace Go.Proofs.YthcpdhniakpbaaaDoor.X
open Go.RowKit Go.Sort Go.Lib Go.Proofs.YthcpdhniakpbaaaDoorW.PrintWords Go.Proofs.YthcpdhniakpbaaaDoorW.PrintLast Go.Proofs.YthcpdhniakpbaaaDoorW.PrintMore
set_option linter.unusedVariables false
set_option linter.unusedSimpArgs false
theorem normEqual_true (a0 a1 : ByteArray) : ∃ k, bookplatelaw05_NormalEqual.f k a0 a1 = some true := by
  apply Ev.get
  unfold bookplatelaw05_NormalEqual.f
  refine Ev.bind ev_awake (Ev.pick rfl ?_)
  have big : Ev (fun k => bookplatelaw05_NormalEqual.j0 k a0 a1 true) true := Ev.step (g' := fun _ => some true) (fun k => by rw [bookplatelaw05_NormalEqual.j0, if_pos rfl]) (Ev.const _)
  by_cases h : (a0.size : Int) > 40
  · exact Ev.pick h big
  · refine Ev.skip h ?_
    by_cases h1 : (a1.size : Int) > 40
    · rw [decide_eq_true h1]
      exact big
    · rw [decide_eq_false h1]
      have hs : a0.size ≤ 50000 := by omega
      have hs1 : a1.size ≤ 50000 := by omega
      have heq : (decide (decD (chs a0) = decD (chs a1))) = ((bytesOfL (decD (chs a0))).toList == (bytesOfL (decD (chs a1))).toList) := by
        rw [Bool.eq_iff_iff, decide_eq_true_iff, beq_iff_eq]
        exact (bytes_inj (dhas a0) (dhas a1)).symm
      have hcq : (decide (decD (chs a0) = decD (chs a1))) = ((bytesOfL (compS (decD (chs a0)))).toList == (bytesOfL (compS (decD (chs a1)))).toList) := by
        rw [Bool.eq_iff_iff, decide_eq_true_iff, beq_iff_eq, bytes_inj (compS_has (dhas a0)) (compS_has (dhas a1))]
        constructor
        · intro e; rw [e]
        · intro e; rw [← dec_of_comp a0, e, dec_of_comp a1]
      refine Ev.step (fun k => by rw [bookplatelaw05_NormalEqual.j0, if_neg (by decide)]) (Ev.bind (ev_equal a0 a1 hs hs1) (Ev.bind (ev_refEqual a0 a1 hs hs1) ?_))
      refine Ev.skip ?_ ?_
      · rw [heq]; simp
      refine Ev.bind (ev_decode a0 (by omega)) (Ev.bind (ev_decode a1 (by omega)) ?_)
      by_cases o1 : okS a0 = true
      · refine Ev.pick o1 ?_
        by_cases o2 : okS a1 = true
        · refine Ev.pick o2 (Ev.bind (ev_equal a0 a1 hs hs1) (Ev.bind (Ev.of fun k => compose_eq a0 hs) (Ev.bind (Ev.of fun k => compose_eq a1 hs1) ?_)))
          exact Ev.of fun k => by rw [o1, o2, Bool.true_and, Bool.true_and, hcq]; simp
        · exact Ev.skip o2 (Ev.const _)
      · exact Ev.skip o1 (Ev.const _)
end Go.Proofs.YthcpdhniakpbaaaDoor.X
end
