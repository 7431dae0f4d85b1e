/- The law TranslitStays returns true for every input of the sizes that the row's condition lets in, the package variables that it reads holding what the row lists. Part 5 of the texts that its proof stands on; put together by a program. -/
import Derived.Test.YthcpdhniakpbaaaDoorTranslitStaysD
import Derived.KernelRfl
section
namespace Go.Proofs.YthcpdhniakpbaaaDoor.X
open Go.RowKit Go.Proofs.YthcpdhniakpbaaaDoorW.PrintWords Go.Proofs.YthcpdhniakpbaaaDoorW.PrintLast Go.Proofs.YthcpdhniakpbaaaDoorW.PrintMore
attribute [local go_sem] max2_int min2_int max_two min_two max_three min_three max_four min_four
set_option linter.unusedVariables false
set_option linter.unusedSimpArgs false
mutual
def translit_Reversible.l0 : Nat → List (S41) → List (S41) → Int → Int → Option (Bool)
  | 0, _, _, _, _ => none
  | k + 1, x0, x7, x8, x9 => if x9 < x8 then (if 0 ≤ x9 then (if x9 < (x7.length : Int) then (translit_Reversible.l1 k x0 x9 x7 x8 x9 x0 (x0.length : Int) 0 ((rd_T41 x7 x9).f0) ((rd_T41 x7 x9).f1)) else (none)) else (none)) else ((translit_Valid.f x0).bind fun t427 => (some t427))
def translit_Reversible.l1 : Nat → List (S41) → Int → List (S41) → Int → Int → List (S41) → Int → Int → ByteArray → ByteArray → Option (Bool)
  | 0, _, _, _, _, _, _, _, _, _, _ => none
  | k + 1, x0, x3, x7, x8, x9, x14, x15, x16, x430000, x430001 => if x16 < x15 then (if 0 ≤ x16 then (if x16 < (x14.length : Int) then (if x3 = x16 then (translit_Reversible.l1 k x0 x3 x7 x8 x9 x14 x15 (wrap64 (x16 + 1)) x430000 x430001) else ((strings_HasPrefix.f x430001 ((rd_T41 x14 x16).f1)).bind fun t432 => (if t432 = true then (some false) else (translit_Reversible.l1 k x0 x3 x7 x8 x9 x14 x15 (wrap64 (x16 + 1)) x430000 x430001)))) else (none)) else (none)) else (translit_Reversible.l0 k x0 x7 x8 (wrap64 (x9 + 1)))
end
def translit_Reversible.f (k : Nat) (l0 : List (S41)) : Option (Bool) := translit_Reversible.l0 k l0 l0 (l0.length : Int) 0
set_option maxHeartbeats 8000000 in
set_option maxRecDepth 100000 in
theorem translit_Reversible.calls (k : Nat) (A0 : Option Addr) (c0 : Nat) (l0 : List (S41)) (r : Bool) (w : World) (hr0 : Kd.C k41 w A0 l0.length l0) (hc0 : l0.length ≤ c0) (hG : GT1 w) (h : translit_Reversible.f k l0 = some r) :
    Calls Tryd.prog 22 #[.slice A0 l0.length c0] w fun e w' => e = .returned (.bool r) ∧ Below w.heap.size w w' := by
  have HG := Aside0.mk hG
  clear hG
  have hu41 := Tryd.underlying41
  have HR0 := Aside0.mk hr0
  have HC0 := Aside0.mk hc0
  clear hr0 hc0
  have HB := Aside0.mk (Below.refl w.heap.size w)
  have H : (translit_Reversible.l0 k l0 l0 (l0.length : Int) 0) = some r := h
  clear h
  have H' := Aside0.mk H
  clear H
  go_enter Tryd.func22, Tryd.ntmps22
  go_wp2
  go_loopg [9] k (fun kq v9 w' => ∃ (x9_1 : Int), v9 = .int .i64 x9_1 ∧ Aside0 (translit_Reversible.l0 kq l0 l0 (l0.length : Int) x9_1 = some r) ∧ Aside0 (kq ≤ k) ∧ Aside0 (Below w.heap.size w w'))
  case atStart => exact ⟨(0), (by first | rfl | (simp; done) | (simp [*]; done)), H', ⟨Nat.le_refl _⟩, ⟨by repeat (first | (with_reducible first | exact HB.out | apply below_alloc | apply pw_below_drewN | apply below_drew1) | exact HB.out)⟩⟩
  case round =>
    clear H'
    obtain ⟨x9_1, rfl, HA, HK1, HB⟩ := hrel
    cases gk with
    | zero => exact absurd HA.out (by simp [translit_Reversible.l0])
    | succ k1 =>
      have H := HA.out
      clear HA
      simp only [translit_Reversible.l0] at H
      by_cases c2 : x9_1 < (l0.length : Int)
      · rw [if_pos c2] at H
        have c2b0 : decide (x9_1 < (l0.length : Int)) = true := decide_eq_true c2
        clear c2
        by_cases c3 : 0 ≤ x9_1
        · rw [if_pos c3] at H
          have c3b0 : decide (0 ≤ x9_1) = true := decide_eq_true c3
          clear c3
          by_cases c4 : x9_1 < (l0.length : Int)
          · rw [if_pos c4] at H
            have c4b0 : decide (x9_1 < (l0.length : Int)) = true := decide_eq_true c4
            clear c4
            have H' := Aside0.mk H
            clear H
            have p428 : 0 ≤ (x9_1 : Int) := of_decide_eq_true (by first | (with_reducible assumption) | assumption)
            have q428 : x9_1 < (l0.length : Int) := of_decide_eq_true (by first | (with_reducible assumption) | assumption)
            obtain ⟨ad428, e428, hx428_0, hx428_1⟩ := at_T41 HR0.out x9_1 p428 q428
            cases e428
            replace hx428_0 := (HB.out.cell (World.block_lt_of_cell? w _ hx428_0)).trans hx428_0
            replace hx428_1 := (HB.out.cell (World.block_lt_of_cell? w _ hx428_1)).trans hx428_1
            replace p428 := eq_true p428
            replace q428 := eq_true q428
            go_wp2_with (first | ((with_reducible refine gate_dst (N := 4) rfl ?_); refine box_event ?hg (N := 4) ?hd (cs := #[.string (⟨#[]⟩ : ByteArray), .string (⟨#[]⟩ : ByteArray)]) (t := 41) ?hr ?_; (case hd => rfl); (case hg => rfl); (case hr => first | (go_simp; done) | (go_simp; rfl)); intro gb429 hg w5 hbox hb; have n0_ := Aside0.mk (below_step (by repeat (first | (with_reducible first | exact HB.out | apply below_alloc | apply pw_below_drewN | apply below_drew1) | exact HB.out)) hb); have n1_ := Aside0.mk (hbox); have n2_ := Aside0.mk ((by rw [hg]; exact (below_size (by repeat (first | (with_reducible first | exact HB.out | apply below_alloc | apply pw_below_drewN | apply below_drew1) | exact HB.out))) : w.heap.size ≤ gb429)); have n3_ := Aside0.mk ((by rw [hg]; exact (below_size (by repeat (first | (with_reducible first | exact HB.out | apply below_alloc | apply pw_below_drewN | apply below_drew1) | exact HB.out))) : w.heap.size ≤ gb429)); clear HB; have HB := n0_; have BK429 := n1_; have GW429 := n2_; have GE429 := n3_; clear n0_ n1_ n2_ n3_; clear hb hbox hg; have hcz6_0 : w5.cell? ⟨gb429, 0, none⟩ = some (.string (⟨#[]⟩ : ByteArray)) := (blk_cell BK429.out 0).trans rfl; have hcz6_1 : w5.cell? ⟨gb429, 1, none⟩ = some (.string (⟨#[]⟩ : ByteArray)) := (blk_cell BK429.out 1).trans rfl; have hfz6_0 := blk_frozen BK429.out 0; have hfz6_1 := blk_frozen BK429.out 1))
            go_loopg [16] k1 (fun kq v16 w' => ∃ (x16_2 : Int), v16 = .int .i64 x16_2 ∧ Aside0 (translit_Reversible.l1 kq l0 x9_1 l0 (l0.length : Int) x9_1 l0 (l0.length : Int) x16_2 ((rd_T41 l0 x9_1).f0) ((rd_T41 l0 x9_1).f1) = some r) ∧ Aside0 (kq ≤ k1) ∧ Aside0 (w'.heap[gb429]? = some (.cells #[.string ((rd_T41 l0 x9_1).f0), .string ((rd_T41 l0 x9_1).f1)] 41 (0, 0))) ∧ Aside0 (Below w.heap.size w w'))
            case atStart => exact ⟨(0), (by first | rfl | (simp; done) | (simp [*]; done)), H', ⟨Nat.le_refl _⟩, ⟨by (with_reducible repeat (first | refine blk_drewN ?_ _ | refine blk_drew ?_ | refine blk_alloc ?_ _)); refine blk_put (cs := #[.string ((rd_T41 l0 x9_1).f0), .string (⟨#[]⟩ : ByteArray)]) ?_ 1 _ rfl; (with_reducible repeat (first | refine blk_drewN ?_ _ | refine blk_drew ?_ | refine blk_alloc ?_ _)); refine blk_put (cs := #[.string (⟨#[]⟩ : ByteArray), .string (⟨#[]⟩ : ByteArray)]) ?_ 0 _ rfl; (with_reducible repeat (first | refine blk_drewN ?_ _ | refine blk_drew ?_ | refine blk_alloc ?_ _)); exact BK429.out⟩, ⟨by repeat (first | (with_reducible first | exact HB.out | apply below_alloc | apply pw_below_drewN | apply below_drew1 | refine below_set ?_ GE429.out) | exact HB.out)⟩⟩
            case round =>
              clear H'
              try clear c2
              try clear c2b0
              try clear p2
              try clear c3
              try clear c3b0
              try clear c4
              try clear c4b0
              try clear p4
              try clear q4
              try clear hx4
              try clear hcz6_0
              try clear hcz6_1
              try clear hfz6_0
              try clear hfz6_1
              try clear hx428_0
              try clear hx428_1
              try clear p428
              try clear q428
              obtain ⟨x16_2, rfl, HA, HK2, BK429, HB⟩ := hrel
              cases gk with
              | zero => exact absurd HA.out (by simp [translit_Reversible.l1])
              | succ k2 =>
                have H := HA.out
                clear HA
                simp only [translit_Reversible.l1] at H
                by_cases c7 : x16_2 < (l0.length : Int)
                · rw [if_pos c7] at H
                  have c7b0 : decide (x16_2 < (l0.length : Int)) = true := decide_eq_true c7
                  clear c7
                  by_cases c8 : 0 ≤ x16_2
                  · rw [if_pos c8] at H
                    have c8b0 : decide (0 ≤ x16_2) = true := decide_eq_true c8
                    clear c8
                    by_cases c9 : x16_2 < (l0.length : Int)
                    · rw [if_pos c9] at H
                      have c9b0 : decide (x16_2 < (l0.length : Int)) = true := decide_eq_true c9
                      clear c9
                      by_cases c10 : x9_1 = x16_2
                      · rw [if_pos c10] at H
                        have c10b0 : (x9_1 == x16_2) = true := beq_iff_eq.mpr c10
                        have c10b1 : (x9_1 != x16_2) = false := bne_eq_false_iff_eq.mpr c10
                        clear c10
                        have H' := Aside0.mk H
                        clear H
                        have p430 : 0 ≤ (x16_2 : Int) := of_decide_eq_true (by first | (with_reducible assumption) | assumption)
                        have q430 : x16_2 < (l0.length : Int) := of_decide_eq_true (by first | (with_reducible assumption) | assumption)
                        obtain ⟨ad430, e430, hx430_0, hx430_1⟩ := at_T41 HR0.out x16_2 p430 q430
                        obtain rfl : ad428 = ad430 := (by injection e430)
                        replace hx430_0 := (HB.out.cell (World.block_lt_of_cell? w _ hx430_0)).trans hx430_0
                        replace hx430_1 := (HB.out.cell (World.block_lt_of_cell? w _ hx430_1)).trans hx430_1
                        replace p430 := eq_true p430
                        replace q430 := eq_true q430
                        go_wp2_with (first | ((with_reducible refine gate_dst (N := 6) rfl ?_); refine box_event ?hg (N := 6) ?hd (cs := #[.string (⟨#[]⟩ : ByteArray), .string (⟨#[]⟩ : ByteArray)]) (t := 41) ?hr ?_; (case hd => rfl); (case hg => rfl); (case hr => first | (go_simp; done) | (go_simp; rfl)); intro gb431 hg w11 hbox hb; have n0_ := Aside0.mk (blk_below (g := gb429) (o := .cells #[.string ((rd_T41 l0 x9_1).f0), .string ((rd_T41 l0 x9_1).f1)] 41 (0, 0)) (by (with_reducible repeat (first | refine blk_drewN ?_ _ | refine blk_drew ?_ | refine blk_alloc ?_ _)); exact BK429.out) hb); have n1_ := Aside0.mk (below_step (by repeat (first | (with_reducible first | exact HB.out | apply below_alloc | apply pw_below_drewN | apply below_drew1 | refine below_set ?_ GE429.out) | exact HB.out)) hb); have n2_ := Aside0.mk (hbox); have n3_ := Aside0.mk ((by rw [hg]; exact (below_size (by repeat (first | (with_reducible first | exact HB.out | apply below_alloc | apply pw_below_drewN | apply below_drew1 | refine below_set ?_ GE429.out) | exact HB.out))) : w.heap.size ≤ gb431)); have n4_ := Aside0.mk ((by rw [hg]; exact (below_size (by repeat (first | (with_reducible first | exact HB.out | apply below_alloc | apply pw_below_drewN | apply below_drew1 | refine below_set ?_ GE429.out) | exact HB.out))) : w.heap.size ≤ gb431)); have n5_ := Aside0.mk ((by rw [hg]; exact Nat.ne_of_lt (blk_lt (g := gb429) (o := .cells #[.string ((rd_T41 l0 x9_1).f0), .string ((rd_T41 l0 x9_1).f1)] 41 (0, 0)) (by (with_reducible repeat (first | refine blk_drewN ?_ _ | refine blk_drew ?_ | refine blk_alloc ?_ _)); exact BK429.out)) : gb429 ≠ gb431)); have n6_ := Aside0.mk ((by rw [hg]; exact Nat.ne_of_gt (blk_lt (g := gb429) (o := .cells #[.string ((rd_T41 l0 x9_1).f0), .string ((rd_T41 l0 x9_1).f1)] 41 (0, 0)) (by (with_reducible repeat (first | refine blk_drewN ?_ _ | refine blk_drew ?_ | refine blk_alloc ?_ _)); exact BK429.out)) : gb431 ≠ gb429)); clear BK429; clear HB; have BK429 := n0_; have HB := n1_; have BK431 := n2_; have GW431 := n3_; have GE431 := n4_; have NB429_431 := n5_; have NB431_429 := n6_; clear n0_ n1_ n2_ n3_ n4_ n5_ n6_; clear hb hbox hg; have hnb12 := NB431_429.out; have hnc12 := NB429_431.out; have hcz13_0 : w11.cell? ⟨gb431, 0, none⟩ = some (.string (⟨#[]⟩ : ByteArray)) := (blk_cell BK431.out 0).trans rfl; have hcz13_1 : w11.cell? ⟨gb431, 1, none⟩ = some (.string (⟨#[]⟩ : ByteArray)) := (blk_cell BK431.out 1).trans rfl; have hfz13_0 := blk_frozen BK431.out 0; have hfz13_1 := blk_frozen BK431.out 1))
                        go_roundg k2
                        case measure => have := HK1.out; have := HK2.out; omega
                        case rel => exact ⟨(wrap64 (x16_2 + 1)), (by first | rfl | (simp; done) | (simp [*]; done)), H', ⟨by have := HK1.out; have := HK2.out; omega⟩, ⟨by (with_reducible repeat (first | refine blk_drewN ?_ _ | refine blk_drew ?_ | refine blk_alloc ?_ _)); refine blk_far ?_ NB429_431.out _; (with_reducible repeat (first | refine blk_drewN ?_ _ | refine blk_drew ?_ | refine blk_alloc ?_ _)); refine blk_far ?_ NB429_431.out _; (with_reducible repeat (first | refine blk_drewN ?_ _ | refine blk_drew ?_ | refine blk_alloc ?_ _)); exact BK429.out⟩, ⟨by repeat (first | (with_reducible first | exact HB.out | apply below_alloc | apply pw_below_drewN | apply below_drew1 | refine below_set ?_ GE429.out | refine below_set ?_ GE431.out) | exact HB.out)⟩⟩
                      · rw [if_neg c10] at H
                        have c10b0 : (x9_1 == x16_2) = false := beq_eq_false_iff_ne.mpr c10
                        have c10b1 : (x9_1 != x16_2) = true := bne_iff_ne.mpr c10
                        replace H := Option.bind_eq_some_iff.mp H
                        obtain ⟨t432, A140, H⟩ := H
                        replace H : (if t432 = true then (some false) else (translit_Reversible.l1 k2 l0 x9_1 l0 (l0.length : Int) x9_1 l0 (l0.length : Int) (wrap64 (x16_2 + 1)) ((rd_T41 l0 x9_1).f0) ((rd_T41 l0 x9_1).f1))) = some r := H
                        have A14 := Aside0.mk A140
                        clear A140
                        by_cases c15 : t432 = true
                        · subst c15
                          have H1 : (some false) = some r := by rw [if_pos rfl] at H; exact H
                          clear H
                          have H := H1
                          clear H1
                          obtain rfl := Option.some.inj H
                          have p430 : 0 ≤ (x16_2 : Int) := of_decide_eq_true (by first | (with_reducible assumption) | assumption)
                          have q430 : x16_2 < (l0.length : Int) := of_decide_eq_true (by first | (with_reducible assumption) | assumption)
                          obtain ⟨ad430, e430, hx430_0, hx430_1⟩ := at_T41 HR0.out x16_2 p430 q430
                          obtain rfl : ad428 = ad430 := (by injection e430)
                          replace hx430_0 := (HB.out.cell (World.block_lt_of_cell? w _ hx430_0)).trans hx430_0
                          replace hx430_1 := (HB.out.cell (World.block_lt_of_cell? w _ hx430_1)).trans hx430_1
                          replace p430 := eq_true p430
                          replace q430 := eq_true q430
                          go_wp2_with (first | ((with_reducible refine gate_dst (N := 6) rfl ?_); refine box_event ?hg (N := 6) ?hd (cs := #[.string (⟨#[]⟩ : ByteArray), .string (⟨#[]⟩ : ByteArray)]) (t := 41) ?hr ?_; (case hd => rfl); (case hg => rfl); (case hr => first | (go_simp; done) | (go_simp; rfl)); intro gb431 hg w16 hbox hb; have n0_ := Aside0.mk (blk_below (g := gb429) (o := .cells #[.string ((rd_T41 l0 x9_1).f0), .string ((rd_T41 l0 x9_1).f1)] 41 (0, 0)) (by (with_reducible repeat (first | refine blk_drewN ?_ _ | refine blk_drew ?_ | refine blk_alloc ?_ _)); exact BK429.out) hb); have n1_ := Aside0.mk (below_step (by repeat (first | (with_reducible first | exact HB.out | apply below_alloc | apply pw_below_drewN | apply below_drew1 | refine below_set ?_ GE429.out) | exact HB.out)) hb); have n2_ := Aside0.mk (hbox); have n3_ := Aside0.mk ((by rw [hg]; exact (below_size (by repeat (first | (with_reducible first | exact HB.out | apply below_alloc | apply pw_below_drewN | apply below_drew1 | refine below_set ?_ GE429.out) | exact HB.out))) : w.heap.size ≤ gb431)); have n4_ := Aside0.mk ((by rw [hg]; exact (below_size (by repeat (first | (with_reducible first | exact HB.out | apply below_alloc | apply pw_below_drewN | apply below_drew1 | refine below_set ?_ GE429.out) | exact HB.out))) : w.heap.size ≤ gb431)); have n5_ := Aside0.mk ((by rw [hg]; exact Nat.ne_of_lt (blk_lt (g := gb429) (o := .cells #[.string ((rd_T41 l0 x9_1).f0), .string ((rd_T41 l0 x9_1).f1)] 41 (0, 0)) (by (with_reducible repeat (first | refine blk_drewN ?_ _ | refine blk_drew ?_ | refine blk_alloc ?_ _)); exact BK429.out)) : gb429 ≠ gb431)); have n6_ := Aside0.mk ((by rw [hg]; exact Nat.ne_of_gt (blk_lt (g := gb429) (o := .cells #[.string ((rd_T41 l0 x9_1).f0), .string ((rd_T41 l0 x9_1).f1)] 41 (0, 0)) (by (with_reducible repeat (first | refine blk_drewN ?_ _ | refine blk_drew ?_ | refine blk_alloc ?_ _)); exact BK429.out)) : gb431 ≠ gb429)); clear BK429; clear HB; have BK429 := n0_; have HB := n1_; have BK431 := n2_; have GW431 := n3_; have GE431 := n4_; have NB429_431 := n5_; have NB431_429 := n6_; clear n0_ n1_ n2_ n3_ n4_ n5_ n6_; clear hb hbox hg; have hnb17 := NB431_429.out; have hnc17 := NB429_431.out; have hcz18_0 : w16.cell? ⟨gb431, 0, none⟩ = some (.string (⟨#[]⟩ : ByteArray)) := (blk_cell BK431.out 0).trans rfl; have hcz18_1 : w16.cell? ⟨gb431, 1, none⟩ = some (.string (⟨#[]⟩ : ByteArray)) := (blk_cell BK431.out 1).trans rfl; have hfz18_0 := blk_frozen BK431.out 0; have hfz18_1 := blk_frozen BK431.out 1; have hcz19_0 : w16.cell? ⟨gb429, 0, none⟩ = some (.string ((rd_T41 l0 x9_1).f0)) := (blk_cell BK429.out 0).trans rfl; have hcz19_1 : w16.cell? ⟨gb429, 1, none⟩ = some (.string ((rd_T41 l0 x9_1).f1)) := (blk_cell BK429.out 1).trans rfl; have hfz19_0 := blk_frozen BK429.out 0; have hfz19_1 := blk_frozen BK429.out 1) | (go_at_call 54; (with_reducible refine (strings_HasPrefix.calls ((rd_T41 l0 x9_1).f1) ((rd_T41 l0 x16_2).f1) true _ A14.out).mono ?_); rintro e w' ⟨rfl, ⟨nd, rfl⟩⟩))
                          go_ret
                          exact ⟨by first | rfl | (simp [errW_none, errW_some] <;> rfl) | (simp [*, errW_none, errW_some] <;> rfl), by repeat (first | (with_reducible first | exact HB.out | apply below_alloc | apply pw_below_drewN | apply below_drew1 | refine below_set ?_ GE429.out | refine below_set ?_ GE431.out) | exact HB.out)⟩
                        · replace c15 := Bool.eq_false_iff.mpr c15
                          subst c15
                          have H1 : (translit_Reversible.l1 k2 l0 x9_1 l0 (l0.length : Int) x9_1 l0 (l0.length : Int) (wrap64 (x16_2 + 1)) ((rd_T41 l0 x9_1).f0) ((rd_T41 l0 x9_1).f1)) = some r := by rw [if_neg (show ¬ (false = true) by decide)] at H; exact H
                          clear H
                          have H := H1
                          clear H1
                          have H' := Aside0.mk H
                          clear H
                          have p430 : 0 ≤ (x16_2 : Int) := of_decide_eq_true (by first | (with_reducible assumption) | assumption)
                          have q430 : x16_2 < (l0.length : Int) := of_decide_eq_true (by first | (with_reducible assumption) | assumption)
                          obtain ⟨ad430, e430, hx430_0, hx430_1⟩ := at_T41 HR0.out x16_2 p430 q430
                          obtain rfl : ad428 = ad430 := (by injection e430)
                          replace hx430_0 := (HB.out.cell (World.block_lt_of_cell? w _ hx430_0)).trans hx430_0
                          replace hx430_1 := (HB.out.cell (World.block_lt_of_cell? w _ hx430_1)).trans hx430_1
                          replace p430 := eq_true p430
                          replace q430 := eq_true q430
                          go_wp2_with (first | ((with_reducible refine gate_dst (N := 6) rfl ?_); refine box_event ?hg (N := 6) ?hd (cs := #[.string (⟨#[]⟩ : ByteArray), .string (⟨#[]⟩ : ByteArray)]) (t := 41) ?hr ?_; (case hd => rfl); (case hg => rfl); (case hr => first | (go_simp; done) | (go_simp; rfl)); intro gb431 hg w20 hbox hb; have n0_ := Aside0.mk (blk_below (g := gb429) (o := .cells #[.string ((rd_T41 l0 x9_1).f0), .string ((rd_T41 l0 x9_1).f1)] 41 (0, 0)) (by (with_reducible repeat (first | refine blk_drewN ?_ _ | refine blk_drew ?_ | refine blk_alloc ?_ _)); exact BK429.out) hb); have n1_ := Aside0.mk (below_step (by repeat (first | (with_reducible first | exact HB.out | apply below_alloc | apply pw_below_drewN | apply below_drew1 | refine below_set ?_ GE429.out) | exact HB.out)) hb); have n2_ := Aside0.mk (hbox); have n3_ := Aside0.mk ((by rw [hg]; exact (below_size (by repeat (first | (with_reducible first | exact HB.out | apply below_alloc | apply pw_below_drewN | apply below_drew1 | refine below_set ?_ GE429.out) | exact HB.out))) : w.heap.size ≤ gb431)); have n4_ := Aside0.mk ((by rw [hg]; exact (below_size (by repeat (first | (with_reducible first | exact HB.out | apply below_alloc | apply pw_below_drewN | apply below_drew1 | refine below_set ?_ GE429.out) | exact HB.out))) : w.heap.size ≤ gb431)); have n5_ := Aside0.mk ((by rw [hg]; exact Nat.ne_of_lt (blk_lt (g := gb429) (o := .cells #[.string ((rd_T41 l0 x9_1).f0), .string ((rd_T41 l0 x9_1).f1)] 41 (0, 0)) (by (with_reducible repeat (first | refine blk_drewN ?_ _ | refine blk_drew ?_ | refine blk_alloc ?_ _)); exact BK429.out)) : gb429 ≠ gb431)); have n6_ := Aside0.mk ((by rw [hg]; exact Nat.ne_of_gt (blk_lt (g := gb429) (o := .cells #[.string ((rd_T41 l0 x9_1).f0), .string ((rd_T41 l0 x9_1).f1)] 41 (0, 0)) (by (with_reducible repeat (first | refine blk_drewN ?_ _ | refine blk_drew ?_ | refine blk_alloc ?_ _)); exact BK429.out)) : gb431 ≠ gb429)); clear BK429; clear HB; have BK429 := n0_; have HB := n1_; have BK431 := n2_; have GW431 := n3_; have GE431 := n4_; have NB429_431 := n5_; have NB431_429 := n6_; clear n0_ n1_ n2_ n3_ n4_ n5_ n6_; clear hb hbox hg; have hnb21 := NB431_429.out; have hnc21 := NB429_431.out; have hcz22_0 : w20.cell? ⟨gb431, 0, none⟩ = some (.string (⟨#[]⟩ : ByteArray)) := (blk_cell BK431.out 0).trans rfl; have hcz22_1 : w20.cell? ⟨gb431, 1, none⟩ = some (.string (⟨#[]⟩ : ByteArray)) := (blk_cell BK431.out 1).trans rfl; have hfz22_0 := blk_frozen BK431.out 0; have hfz22_1 := blk_frozen BK431.out 1; have hcz23_0 : w20.cell? ⟨gb429, 0, none⟩ = some (.string ((rd_T41 l0 x9_1).f0)) := (blk_cell BK429.out 0).trans rfl; have hcz23_1 : w20.cell? ⟨gb429, 1, none⟩ = some (.string ((rd_T41 l0 x9_1).f1)) := (blk_cell BK429.out 1).trans rfl; have hfz23_0 := blk_frozen BK429.out 0; have hfz23_1 := blk_frozen BK429.out 1) | (go_at_call 54; (with_reducible refine (strings_HasPrefix.calls ((rd_T41 l0 x9_1).f1) ((rd_T41 l0 x16_2).f1) false _ A14.out).mono ?_); rintro e w' ⟨rfl, ⟨nd, rfl⟩⟩))
                          go_roundg k2
                          case measure => have := HK1.out; have := HK2.out; omega
                          case rel => exact ⟨(wrap64 (x16_2 + 1)), (by first | rfl | (simp; done) | (simp [*]; done)), H', ⟨by have := HK1.out; have := HK2.out; omega⟩, ⟨by (with_reducible repeat (first | refine blk_drewN ?_ _ | refine blk_drew ?_ | refine blk_alloc ?_ _)); refine blk_far ?_ NB429_431.out _; (with_reducible repeat (first | refine blk_drewN ?_ _ | refine blk_drew ?_ | refine blk_alloc ?_ _)); refine blk_far ?_ NB429_431.out _; (with_reducible repeat (first | refine blk_drewN ?_ _ | refine blk_drew ?_ | refine blk_alloc ?_ _)); exact BK429.out⟩, ⟨by repeat (first | (with_reducible first | exact HB.out | apply below_alloc | apply pw_below_drewN | apply below_drew1 | refine below_set ?_ GE429.out | refine below_set ?_ GE431.out) | exact HB.out)⟩⟩
                    · rw [if_neg c9] at H
                      exact absurd H (by simp)
                  · rw [if_neg c8] at H
                    exact absurd H (by simp)
                · rw [if_neg c7] at H
                  have c7b0 : decide (x16_2 < (l0.length : Int)) = false := decide_eq_false c7
                  clear c7
                  have H' := Aside0.mk H
                  clear H
                  go_wp2
                  go_roundg k2
                  case measure => have := HK1.out; have := HK2.out; omega
                  case rel => exact ⟨(wrap64 (x9_1 + 1)), (by first | rfl | (simp; done) | (simp [*]; done)), H', ⟨by have := HK1.out; have := HK2.out; omega⟩, ⟨by repeat (first | (with_reducible first | exact HB.out | apply below_alloc | apply pw_below_drewN | apply below_drew1 | refine below_set ?_ GE429.out) | exact HB.out)⟩⟩
          · rw [if_neg c4] at H
            exact absurd H (by simp)
        · rw [if_neg c3] at H
          exact absurd H (by simp)
      · rw [if_neg c2] at H
        have c2b0 : decide (x9_1 < (l0.length : Int)) = false := decide_eq_false c2
        clear c2
        replace H := Option.bind_eq_some_iff.mp H
        obtain ⟨t427, A240, H⟩ := H
        replace H : (some t427) = some r := H
        have A24 := Aside0.mk A240
        clear A240
        obtain rfl := Option.some.inj H
        go_wp2_with (first | ((with_reducible refine gate_callee (f := 20) rfl ?_); refine goesL_ (some 34) rfl rfl Tryd.func20 (by kernel_rfl) rfl #[.slice A0 l0.length c0] rfl (by (try simp only [List.map_toArray, List.map_cons, List.map_nil]); first | done | rfl | (simp only [List.length_drop, List.length_take]; rfl)) ?_; (with_reducible refine (translit_Valid.calls _ _ l0 t427 _ ?side1 ?side2 ?side3 A24.out).mono ?_); (case side1 => repeat (first | exact (Kd.C_below HR0.out HB.out) | (with_reducible refine Kd.C_alloc ?_ _) | (with_reducible refine Kd.C_drewN ?_ _) | (with_reducible refine Kd.C_drew ?_))); (case side2 => exact HC0.out); (case side3 => exact GT1.below (HG.out) (by repeat (first | (with_reducible first | exact HB.out | apply below_alloc | apply pw_below_drewN | apply below_drew1) | exact HB.out))); rintro e w25 ⟨rfl, hb⟩; refine ⟨_, rfl, ?_⟩; have n0_ := Aside0.mk (below_step (by repeat (first | (with_reducible first | exact HB.out | apply below_alloc | apply pw_below_drewN | apply below_drew1) | exact HB.out)) hb); clear HB; have HB := n0_; clear n0_; (try clear hb); (try clear hb2); (try clear hk); (try clear hi)))
        go_ret
        exact ⟨by first | rfl | (simp [errW_none, errW_some] <;> rfl) | (simp [*, errW_none, errW_some] <;> rfl), by repeat (first | (with_reducible first | exact HB.out | apply below_alloc | apply pw_below_drewN | apply below_drew1) | exact HB.out)⟩
def translit_To.f (k : Nat) (l0 : List (S41)) (a1 : ByteArray) : Option (ByteArray) := (translit_Valid.f l0).bind fun t433 => (if t433 = true then ((translit_encoded.f k a1).bind fun t434 => (if t434 = true then ((translit_write.f l0 a1).bind fun bt435 => (some bt435.1)) else (some (⟨#[]⟩ : ByteArray)))) else (some (⟨#[]⟩ : ByteArray)))
set_option maxHeartbeats 8000000 in
set_option maxRecDepth 100000 in
theorem translit_To.calls (k : Nat) (A0 : Option Addr) (c0 : Nat) (l0 : List (S41)) (a1 : ByteArray) (r : ByteArray) (w : World) (hr0 : Kd.C k41 w A0 l0.length l0) (hc0 : l0.length ≤ c0) (hG : GT1 w) (h : translit_To.f k l0 a1 = some r) :
    Calls Tryd.prog 24 #[.slice A0 l0.length c0, .string a1] w fun e w' => e = .returned (.string r) ∧ Below w.heap.size w w' := by
  have HG := Aside0.mk hG
  clear hG
  have HR0 := Aside0.mk hr0
  have HC0 := Aside0.mk hc0
  clear hr0 hc0
  have HB := Aside0.mk (Below.refl w.heap.size w)
  have H : ((translit_Valid.f l0).bind fun t433 => (if t433 = true then ((translit_encoded.f k a1).bind fun t434 => (if t434 = true then ((translit_write.f l0 a1).bind fun bt435 => (some bt435.1)) else (some (⟨#[]⟩ : ByteArray)))) else (some (⟨#[]⟩ : ByteArray)))) = some r := h
  clear h
  replace H := Option.bind_eq_some_iff.mp H
  obtain ⟨t433, A30, H⟩ := H
  replace H : (if t433 = true then ((translit_encoded.f k a1).bind fun t434 => (if t434 = true then ((translit_write.f l0 a1).bind fun bt435 => (some bt435.1)) else (some (⟨#[]⟩ : ByteArray)))) else (some (⟨#[]⟩ : ByteArray))) = some r := H
  have A3 := Aside0.mk A30
  clear A30
  by_cases c4 : t433 = true
  · subst c4
    have H1 : ((translit_encoded.f k a1).bind fun t434 => (if t434 = true then ((translit_write.f l0 a1).bind fun bt435 => (some bt435.1)) else (some (⟨#[]⟩ : ByteArray)))) = some r := by rw [if_pos rfl] at H; exact H
    clear H
    have H := H1
    clear H1
    replace H := Option.bind_eq_some_iff.mp H
    obtain ⟨t434, A50, H⟩ := H
    replace H : (if t434 = true then ((translit_write.f l0 a1).bind fun bt435 => (some bt435.1)) else (some (⟨#[]⟩ : ByteArray))) = some r := H
    have A5 := Aside0.mk A50
    clear A50
    by_cases c6 : t434 = true
    · subst c6
      have H1 : ((translit_write.f l0 a1).bind fun bt435 => (some bt435.1)) = some r := by rw [if_pos rfl] at H; exact H
      clear H
      have H := H1
      clear H1
      replace H := Option.bind_eq_some_iff.mp H
      obtain ⟨⟨t435, t436⟩, A70, H⟩ := H
      replace H : (some t435) = some r := H
      have A7 := Aside0.mk A70
      clear A70
      obtain rfl := Option.some.inj H
      go_enter Tryd.func24, Tryd.ntmps24
      go_wp2_with (first | ((with_reducible refine gate_callee (f := 20) rfl ?_); refine goesL_ (some 8) rfl rfl Tryd.func20 (by kernel_rfl) rfl #[.slice A0 l0.length c0] rfl (by (try simp only [List.map_toArray, List.map_cons, List.map_nil]); first | done | rfl | (simp only [List.length_drop, List.length_take]; rfl)) ?_; (with_reducible refine (translit_Valid.calls _ _ l0 true _ ?side1 ?side2 ?side3 A3.out).mono ?_); (case side1 => repeat (first | exact HR0.out | (with_reducible refine Kd.C_alloc ?_ _) | (with_reducible refine Kd.C_drewN ?_ _) | (with_reducible refine Kd.C_drew ?_))); (case side2 => exact HC0.out); (case side3 => exact GT1.below (HG.out) (by repeat (first | (with_reducible first | exact HB.out | apply below_alloc | apply pw_below_drewN | apply below_drew1) | exact HB.out))); rintro e w8 ⟨rfl, hb⟩; refine ⟨_, rfl, ?_⟩; have n0_ := Aside0.mk (below_step (by repeat (first | (with_reducible first | exact HB.out | apply below_alloc | apply pw_below_drewN | apply below_drew1) | exact HB.out)) hb); clear HB; have HB := n0_; clear n0_; (try clear hb); (try clear hb2); (try clear hk); (try clear hi)) | (go_at_call 56; (with_reducible refine (translit_encoded.calls k a1 true _ ?side1 A5.out).mono ?_); (case side1 => exact GT1.below (HG.out) (by repeat (first | (with_reducible first | exact HB.out | apply below_alloc | apply pw_below_drewN | apply below_drew1) | exact HB.out))); rintro e w9 ⟨rfl, hb⟩; have n0_ := Aside0.mk (below_step (by repeat (first | (with_reducible first | exact HB.out | apply below_alloc | apply pw_below_drewN | apply below_drew1) | exact HB.out)) hb); clear HB; have HB := n0_; clear n0_; (try clear hb); (try clear hb2); (try clear hk); (try clear hi)) | ((with_reducible refine gate_callee (f := 57) rfl ?_); refine goesL_ (some 18) rfl rfl Tryd.func57 (by kernel_rfl) rfl #[.slice A0 l0.length c0, .string a1] rfl (by (try simp only [List.map_toArray, List.map_cons, List.map_nil]); first | done | rfl | (simp only [List.length_drop, List.length_take]; rfl)) ?_; (with_reducible refine (translit_write.calls _ _ l0 a1 t435 t436 _ ?side1 ?side2 ?side3 A7.out).mono ?_); (case side1 => repeat (first | exact (Kd.C_below HR0.out HB.out) | (with_reducible refine Kd.C_alloc ?_ _) | (with_reducible refine Kd.C_drewN ?_ _) | (with_reducible refine Kd.C_drew ?_))); (case side2 => exact HC0.out); (case side3 => exact GT1.below (HG.out) (by repeat (first | (with_reducible first | exact HB.out | apply below_alloc | apply pw_below_drewN | apply below_drew1) | exact HB.out))); rintro e w10 ⟨rfl, hb⟩; refine ⟨_, rfl, ?_⟩; have n0_ := Aside0.mk (below_step (by repeat (first | (with_reducible first | exact HB.out | apply below_alloc | apply pw_below_drewN | apply below_drew1) | exact HB.out)) hb); clear HB; have HB := n0_; clear n0_; (try clear hb); (try clear hb2); (try clear hk); (try clear hi)))
      go_ret
      exact ⟨by first | rfl | (simp [errW_none, errW_some] <;> rfl) | (simp [*, errW_none, errW_some] <;> rfl), by repeat (first | (with_reducible first | exact HB.out | apply below_alloc | apply pw_below_drewN | apply below_drew1) | exact HB.out)⟩
    · replace c6 := Bool.eq_false_iff.mpr c6
      subst c6
      have H1 : (some (⟨#[]⟩ : ByteArray)) = some r := by rw [if_neg (show ¬ (false = true) by decide)] at H; exact H
      clear H
      have H := H1
      clear H1
      obtain rfl := Option.some.inj H
      go_enter Tryd.func24, Tryd.ntmps24
      go_wp2_with (first | ((with_reducible refine gate_callee (f := 20) rfl ?_); refine goesL_ (some 8) rfl rfl Tryd.func20 (by kernel_rfl) rfl #[.slice A0 l0.length c0] rfl (by (try simp only [List.map_toArray, List.map_cons, List.map_nil]); first | done | rfl | (simp only [List.length_drop, List.length_take]; rfl)) ?_; (with_reducible refine (translit_Valid.calls _ _ l0 true _ ?side1 ?side2 ?side3 A3.out).mono ?_); (case side1 => repeat (first | exact HR0.out | (with_reducible refine Kd.C_alloc ?_ _) | (with_reducible refine Kd.C_drewN ?_ _) | (with_reducible refine Kd.C_drew ?_))); (case side2 => exact HC0.out); (case side3 => exact GT1.below (HG.out) (by repeat (first | (with_reducible first | exact HB.out | apply below_alloc | apply pw_below_drewN | apply below_drew1) | exact HB.out))); rintro e w11 ⟨rfl, hb⟩; refine ⟨_, rfl, ?_⟩; have n0_ := Aside0.mk (below_step (by repeat (first | (with_reducible first | exact HB.out | apply below_alloc | apply pw_below_drewN | apply below_drew1) | exact HB.out)) hb); clear HB; have HB := n0_; clear n0_; (try clear hb); (try clear hb2); (try clear hk); (try clear hi)) | (go_at_call 56; (with_reducible refine (translit_encoded.calls k a1 false _ ?side1 A5.out).mono ?_); (case side1 => exact GT1.below (HG.out) (by repeat (first | (with_reducible first | exact HB.out | apply below_alloc | apply pw_below_drewN | apply below_drew1) | exact HB.out))); rintro e w12 ⟨rfl, hb⟩; have n0_ := Aside0.mk (below_step (by repeat (first | (with_reducible first | exact HB.out | apply below_alloc | apply pw_below_drewN | apply below_drew1) | exact HB.out)) hb); clear HB; have HB := n0_; clear n0_; (try clear hb); (try clear hb2); (try clear hk); (try clear hi)))
      go_ret
      exact ⟨by first | rfl | (simp [errW_none, errW_some] <;> rfl) | (simp [*, errW_none, errW_some] <;> rfl), by repeat (first | (with_reducible first | exact HB.out | apply below_alloc | apply pw_below_drewN | apply below_drew1) | exact HB.out)⟩
  · replace c4 := Bool.eq_false_iff.mpr c4
    subst c4
    have H1 : (some (⟨#[]⟩ : ByteArray)) = some r := by rw [if_neg (show ¬ (false = true) by decide)] at H; exact H
    clear H
    have H := H1
    clear H1
    obtain rfl := Option.some.inj H
    go_enter Tryd.func24, Tryd.ntmps24
    go_wp2_with (first | ((with_reducible refine gate_callee (f := 20) rfl ?_); refine goesL_ (some 8) rfl rfl Tryd.func20 (by kernel_rfl) rfl #[.slice A0 l0.length c0] rfl (by (try simp only [List.map_toArray, List.map_cons, List.map_nil]); first | done | rfl | (simp only [List.length_drop, List.length_take]; rfl)) ?_; (with_reducible refine (translit_Valid.calls _ _ l0 false _ ?side1 ?side2 ?side3 A3.out).mono ?_); (case side1 => repeat (first | exact HR0.out | (with_reducible refine Kd.C_alloc ?_ _) | (with_reducible refine Kd.C_drewN ?_ _) | (with_reducible refine Kd.C_drew ?_))); (case side2 => exact HC0.out); (case side3 => exact GT1.below (HG.out) (by repeat (first | (with_reducible first | exact HB.out | apply below_alloc | apply pw_below_drewN | apply below_drew1) | exact HB.out))); rintro e w13 ⟨rfl, hb⟩; refine ⟨_, rfl, ?_⟩; have n0_ := Aside0.mk (below_step (by repeat (first | (with_reducible first | exact HB.out | apply below_alloc | apply pw_below_drewN | apply below_drew1) | exact HB.out)) hb); clear HB; have HB := n0_; clear n0_; (try clear hb); (try clear hb2); (try clear hk); (try clear hi)))
    go_ret
    exact ⟨by first | rfl | (simp [errW_none, errW_some] <;> rfl) | (simp [*, errW_none, errW_some] <;> rfl), by repeat (first | (with_reducible first | exact HB.out | apply below_alloc | apply pw_below_drewN | apply below_drew1) | exact HB.out)⟩
mutual
def translit_Back.j0 : Nat → List (S41) → ByteArray → Bool → Option (ByteArray)
  | 0, _, _, _ => none
  | k + 1, x0, x1, x17 => if x17 = true then (some (⟨#[]⟩ : ByteArray)) else (translit_Back.l0 k x1 ([] : List (S41)) x0 (x0.length : Int) 0)
def translit_Back.l0 : Nat → ByteArray → List (S41) → List (S41) → Int → Int → Option (ByteArray)
  | 0, _, _, _, _, _ => none
  | k + 1, x1, x5, x18, x19, x20 => if x20 < x19 then (if 0 ≤ x20 then (if x20 < (x18.length : Int) then (if x5.length < 4398046511104 then (translit_Back.l0 k x1 (x5 ++ [(⟨(rd_T41 x18 x20).f1, (rd_T41 x18 x20).f0⟩ : S41)]) x18 x19 (wrap64 (x20 + 1))) else (none)) else (none)) else (none)) else ((translit_write.f x5 x1).bind fun bt444 => (some bt444.1))
end
def translit_Back.f (k : Nat) (l0 : List (S41)) (a1 : ByteArray) : Option (ByteArray) := (translit_Valid.f l0).bind fun t437 => (if t437 = true then ((translit_encoded.f k a1).bind fun t438 => (translit_Back.j0 k l0 a1 (!t438))) else (translit_Back.j0 k l0 a1 true))
set_option maxHeartbeats 8000000 in
set_option maxRecDepth 100000 in
theorem translit_Back.calls (k : Nat) (A0 : Option Addr) (c0 : Nat) (l0 : List (S41)) (a1 : ByteArray) (r : ByteArray) (w : World) (hr0 : Kd.C k41 w A0 l0.length l0) (hc0 : l0.length ≤ c0) (hG : GT1 w) (h : translit_Back.f k l0 a1 = some r) :
    Calls Tryd.prog 26 #[.slice A0 l0.length c0, .string a1] w fun e w' => e = .returned (.string r) ∧ Below w.heap.size w w' := by
  have HG := Aside0.mk hG
  clear hG
  have hu41 := Tryd.underlying41
  have HR0 := Aside0.mk hr0
  have HC0 := Aside0.mk hc0
  clear hr0 hc0
  have HB := Aside0.mk (Below.refl w.heap.size w)
  have H : ((translit_Valid.f l0).bind fun t437 => (if t437 = true then ((translit_encoded.f k a1).bind fun t438 => (translit_Back.j0 k l0 a1 (!t438))) else (translit_Back.j0 k l0 a1 true))) = some r := h
  clear h
  have HC3 := Aside0.mk H
  clear H
  go_enter Tryd.func26, Tryd.ntmps26
  go_upto_region 1 with (fail)
  go_cut [17] (fun v17 wc => ∃ (kq : Nat) (x17_2 : Bool), v17 = .bool x17_2 ∧ Aside0 (translit_Back.j0 kq l0 a1 x17_2 = some r) ∧ Aside0 (kq ≤ k) ∧ Aside0 (Below w.heap.size w wc))
  case first =>
    have H := HC3.out
    clear HC3
    replace H := Option.bind_eq_some_iff.mp H
    obtain ⟨t437, A40, H⟩ := H
    replace H : (if t437 = true then ((translit_encoded.f k a1).bind fun t438 => (translit_Back.j0 k l0 a1 (!t438))) else (translit_Back.j0 k l0 a1 true)) = some r := H
    have A4 := Aside0.mk A40
    clear A40
    by_cases c5 : t437 = true
    · subst c5
      have H1 : ((translit_encoded.f k a1).bind fun t438 => (translit_Back.j0 k l0 a1 (!t438))) = some r := by rw [if_pos rfl] at H; exact H
      clear H
      have H := H1
      clear H1
      replace H := Option.bind_eq_some_iff.mp H
      obtain ⟨t438, A60, H⟩ := H
      replace H : (translit_Back.j0 k l0 a1 (!t438)) = some r := H
      have A6 := Aside0.mk A60
      clear A60
      have H' := Aside0.mk H
      clear H
      go_wp2_with (first | ((with_reducible refine gate_callee (f := 20) rfl ?_); refine goesL_ (some 11) rfl rfl Tryd.func20 (by kernel_rfl) rfl #[.slice A0 l0.length c0] rfl (by (try simp only [List.map_toArray, List.map_cons, List.map_nil]); first | done | rfl | (simp only [List.length_drop, List.length_take]; rfl)) ?_; (with_reducible refine (translit_Valid.calls _ _ l0 true _ ?side1 ?side2 ?side3 A4.out).mono ?_); (case side1 => repeat (first | exact (Kd.C_below HR0.out HB.out) | (with_reducible refine Kd.C_alloc ?_ _) | (with_reducible refine Kd.C_drewN ?_ _) | (with_reducible refine Kd.C_drew ?_))); (case side2 => exact HC0.out); (case side3 => exact GT1.below (HG.out) (by repeat (first | (with_reducible first | exact HB.out | apply below_alloc | apply pw_below_drewN | apply below_drew1) | exact HB.out))); rintro e w7 ⟨rfl, hb⟩; refine ⟨_, rfl, ?_⟩; have n0_ := Aside0.mk (below_step (by repeat (first | (with_reducible first | exact HB.out | apply below_alloc | apply pw_below_drewN | apply below_drew1) | exact HB.out)) hb); clear HB; have HB := n0_; clear n0_; (try clear hb); (try clear hb2); (try clear hk); (try clear hi)) | (go_at_call 56; (with_reducible refine (translit_encoded.calls k a1 t438 _ ?side1 A6.out).mono ?_); (case side1 => exact GT1.below (HG.out) (by repeat (first | (with_reducible first | exact HB.out | apply below_alloc | apply pw_below_drewN | apply below_drew1) | exact HB.out))); rintro e w8 ⟨rfl, hb⟩; have n0_ := Aside0.mk (below_step (by repeat (first | (with_reducible first | exact HB.out | apply below_alloc | apply pw_below_drewN | apply below_drew1) | exact HB.out)) hb); clear HB; have HB := n0_; clear n0_; (try clear hb); (try clear hb2); (try clear hk); (try clear hi)))
      go_meet
      case rel => exact ⟨_, (!t438), (by first | rfl | (simp; done) | (simp [*]; done)), H', ⟨by first | omega | exact Nat.le_refl _⟩, ⟨by repeat (first | (with_reducible first | exact HB.out | apply below_alloc | apply pw_below_drewN | apply below_drew1) | exact HB.out)⟩⟩
    · replace c5 := Bool.eq_false_iff.mpr c5
      subst c5
      have H1 : (translit_Back.j0 k l0 a1 true) = some r := by rw [if_neg (show ¬ (false = true) by decide)] at H; exact H
      clear H
      have H := H1
      clear H1
      have H' := Aside0.mk H
      clear H
      go_wp2_with (first | ((with_reducible refine gate_callee (f := 20) rfl ?_); refine goesL_ (some 11) rfl rfl Tryd.func20 (by kernel_rfl) rfl #[.slice A0 l0.length c0] rfl (by (try simp only [List.map_toArray, List.map_cons, List.map_nil]); first | done | rfl | (simp only [List.length_drop, List.length_take]; rfl)) ?_; (with_reducible refine (translit_Valid.calls _ _ l0 false _ ?side1 ?side2 ?side3 A4.out).mono ?_); (case side1 => repeat (first | exact (Kd.C_below HR0.out HB.out) | (with_reducible refine Kd.C_alloc ?_ _) | (with_reducible refine Kd.C_drewN ?_ _) | (with_reducible refine Kd.C_drew ?_))); (case side2 => exact HC0.out); (case side3 => exact GT1.below (HG.out) (by repeat (first | (with_reducible first | exact HB.out | apply below_alloc | apply pw_below_drewN | apply below_drew1) | exact HB.out))); rintro e w9 ⟨rfl, hb⟩; refine ⟨_, rfl, ?_⟩; have n0_ := Aside0.mk (below_step (by repeat (first | (with_reducible first | exact HB.out | apply below_alloc | apply pw_below_drewN | apply below_drew1) | exact HB.out)) hb); clear HB; have HB := n0_; clear n0_; (try clear hb); (try clear hb2); (try clear hk); (try clear hi)))
      go_meet
      case rel => exact ⟨_, (true), (by first | rfl | (simp; done) | (simp [*]; done)), H', ⟨by first | omega | exact Nat.le_refl _⟩, ⟨by repeat (first | (with_reducible first | exact HB.out | apply below_alloc | apply pw_below_drewN | apply below_drew1) | exact HB.out)⟩⟩
  case rest =>
    clear HC3
    try clear c2
    try clear p2
    try clear c5
    obtain ⟨kq, x17_2, rfl, HA, HJ2, HB⟩ := hcut
    cases kq with
    | zero => exact absurd HA.out (by simp [translit_Back.j0])
    | succ kj2 =>
      have H := HA.out
      clear HA
      simp only [translit_Back.j0] at H
      by_cases c10 : x17_2 = true
      · subst c10
        have H1 : (some (⟨#[]⟩ : ByteArray)) = some r := by rw [if_pos rfl] at H; exact H
        clear H
        have H := H1
        clear H1
        obtain rfl := Option.some.inj H
        go_wp2
        go_ret
        exact ⟨by first | rfl | (simp [errW_none, errW_some] <;> rfl) | (simp [*, errW_none, errW_some] <;> rfl), by repeat (first | (with_reducible first | exact HB.out | apply below_alloc | apply pw_below_drewN | apply below_drew1) | exact HB.out)⟩
      · replace c10 := Bool.eq_false_iff.mpr c10
        subst c10
        have H1 : (translit_Back.l0 kj2 a1 ([] : List (S41)) l0 (l0.length : Int) 0) = some r := by rw [if_neg (show ¬ (false = true) by decide)] at H; exact H
        clear H
        have H := H1
        clear H1
        have H' := Aside0.mk H
        clear H
        go_wp2
        go_loopg [5, 20] kj2 (fun kq v5 v20 w' => ∃ (x5_2 : List (S41)) (x20_2 : Int), v20 = .int .i64 x20_2 ∧ Aside0 (translit_Back.l0 kq a1 x5_2 l0 (l0.length : Int) x20_2 = some r) ∧ Aside0 (kq ≤ kj2) ∧ Aside0 (Kd.R k41 41 w' w.heap.size (fun _ => True) v5 x5_2) ∧ Aside0 (Below w.heap.size w w'))
        case atStart => exact ⟨(([] : List (S41))), (0), (by first | rfl | (simp; done) | (simp [*]; done)), H', ⟨Nat.le_refl _⟩, ⟨by first | exact Kd.R_nil _ _ _ _ _ | exact Kd.N_nil _ _ _ _ _ | exact Kd.V_nil _ _ _ _ _ | exact Kd.Q_nil _ _ _ _ _ | exact Kd.S_nil _ _ _ _ _⟩, ⟨by repeat (first | (with_reducible first | exact HB.out | apply below_alloc | apply pw_below_drewN | apply below_drew1) | exact HB.out)⟩⟩
        case round =>
          clear H'
          try clear c1
          try clear c2
          try clear p2
          try clear c5
          try clear c10
          try clear p2
          obtain ⟨x5_2, x20_2, rfl, HA, HK2, HO_5, HB⟩ := hrel
          cases gk with
          | zero => exact absurd HA.out (by simp [translit_Back.l0])
          | succ k2 =>
            have H := HA.out
            clear HA
            simp only [translit_Back.l0] at H
            by_cases c11 : x20_2 < (l0.length : Int)
            · rw [if_pos c11] at H
              have c11b0 : decide (x20_2 < (l0.length : Int)) = true := decide_eq_true c11
              clear c11
              by_cases c12 : 0 ≤ x20_2
              · rw [if_pos c12] at H
                have c12b0 : decide (0 ≤ x20_2) = true := decide_eq_true c12
                clear c12
                by_cases c13 : x20_2 < (l0.length : Int)
                · rw [if_pos c13] at H
                  have c13b0 : decide (x20_2 < (l0.length : Int)) = true := decide_eq_true c13
                  clear c13
                  by_cases c14 : x5_2.length < 4398046511104
                  · rw [if_pos c14] at H
                    have LMc14 := Aside0.mk c14
                    clear c14
                    obtain ⟨y441, hy441⟩ : ∃ y_ : List (S41), y_ = (x5_2 ++ [(⟨(rd_T41 l0 x20_2).f1, (rd_T41 l0 x20_2).f0⟩ : S41)]) := ⟨_, rfl⟩
                    replace H : (translit_Back.l0 k2 a1 y441 l0 (l0.length : Int) (wrap64 (x20_2 + 1))) = some r := by first | (rw [hy441]; with_reducible exact H) | (have H2_ := (Option.bind_some _ _).symm.trans H; rw [hy441]; with_reducible exact H2_) | (have H2_ := (Option.bind_some _ _).symm.trans H; with_reducible exact H2_) | with_reducible exact H | (rw [hy441]; exact H) | exact H
                    have Ny441 := Aside0.mk hy441
                    clear hy441
                    have H' := Aside0.mk H
                    clear H
                    have p439 : 0 ≤ (x20_2 : Int) := of_decide_eq_true (by first | (with_reducible assumption) | assumption)
                    have q439 : x20_2 < (l0.length : Int) := of_decide_eq_true (by first | (with_reducible assumption) | assumption)
                    obtain ⟨ad439, e439, hx439_0, hx439_1⟩ := at_T41 HR0.out x20_2 p439 q439
                    cases e439
                    replace hx439_0 := (HB.out.cell (World.block_lt_of_cell? w _ hx439_0)).trans hx439_0
                    replace hx439_1 := (HB.out.cell (World.block_lt_of_cell? w _ hx439_1)).trans hx439_1
                    replace p439 := eq_true p439
                    replace q439 := eq_true q439
                    go_wp2_with (first | ((with_reducible refine gate_dst (N := 7) rfl ?_); refine box_event ?hg (N := 7) ?hd (cs := #[.string (⟨#[]⟩ : ByteArray), .string (⟨#[]⟩ : ByteArray)]) (t := 41) ?hr ?_; (case hd => rfl); (case hg => rfl); (case hr => first | (go_simp; done) | (go_simp; rfl)); intro gb440 hg w15 hbox hb; have n0_ := Aside0.mk (Kd.R_below (Kd.R_elderB (by (with_reducible repeat (first | apply Kd.R_alloc | apply Kd.R_drewN | apply Kd.R_drew)); exact HO_5.out) gb440 (Nat.le_of_eq hg.symm)) hb); have n1_ := Aside0.mk (below_step (by repeat (first | (with_reducible first | exact HB.out | apply below_alloc | apply pw_below_drewN | apply below_drew1) | exact HB.out)) hb); have n2_ := Aside0.mk (hbox); have n3_ := Aside0.mk ((by rw [hg]; exact (below_size (by repeat (first | (with_reducible first | exact HB.out | apply below_alloc | apply pw_below_drewN | apply below_drew1) | exact HB.out))) : w.heap.size ≤ gb440)); have n4_ := Aside0.mk ((by rw [hg]; exact (below_size (by repeat (first | (with_reducible first | exact HB.out | apply below_alloc | apply pw_below_drewN | apply below_drew1) | exact HB.out))) : w.heap.size ≤ gb440)); clear HO_5; clear HB; have HO_5 := n0_; have HB := n1_; have BK440 := n2_; have GW440 := n3_; have GE440 := n4_; clear n0_ n1_ n2_ n3_ n4_; clear hb hbox hg; have hcz16_0 : w15.cell? ⟨gb440, 0, none⟩ = some (.string (⟨#[]⟩ : ByteArray)) := (blk_cell BK440.out 0).trans rfl; have hcz16_1 : w15.cell? ⟨gb440, 1, none⟩ = some (.string (⟨#[]⟩ : ByteArray)) := (blk_cell BK440.out 1).trans rfl; have hfz16_0 := blk_frozen BK440.out 0; have hfz16_1 := blk_frozen BK440.out 1) | ((with_reducible refine gate_builtin (b := .append) (xs := #[.tmp 24, .tmp 30]) rfl ?_); at_builtin; refine Kd.R_append k41 (w0 := w) w.heap.size rfl (.tmp 24) (.tmp 30) 25 41 (.agg #[(.string ⟨#[]⟩), (.string ⟨#[]⟩)]) 32 rfl Tryd.underlying25 info41 rfl (by decide) (by omega) u5 x5_2 (⟨(rd_T41 l0 x20_2).f1, (rd_T41 l0 x20_2).f0⟩ : S41) [.string ((rd_T41 l0 x20_2).f1), .string ((rd_T41 l0 x20_2).f0)] (fun k_ => k_ ≠ gb440) (fun _ => False) rfl (by first | (go_simp; done) | (go_simp; rfl)) ?aP (fun _ hk => hk.elim) ?aF ?aO ?aB ?aS ?aL ?_; (case aP => exact k41_mkM _ _ _ (⟨(rd_T41 l0 x20_2).f1, (rd_T41 l0 x20_2).f0⟩ : S41)); (case aB => exact (by repeat (first | (with_reducible first | exact HB.out | apply below_alloc | apply pw_below_drewN | apply below_drew1 | refine below_set ?_ GE440.out) | exact HB.out))); (case aF => exact (fun k_ hk => Kd.freshB (g := gb440) (o := .cells #[.string ((rd_T41 l0 x20_2).f0), .string ((rd_T41 l0 x20_2).f1)] 41 (0, 0)) (by (with_reducible repeat (first | refine blk_drewN ?_ _ | refine blk_drew ?_ | refine blk_alloc ?_ _)); refine blk_put (cs := #[.string ((rd_T41 l0 x20_2).f0), .string (⟨#[]⟩ : ByteArray)]) ?_ 1 _ rfl; (with_reducible repeat (first | refine blk_drewN ?_ _ | refine blk_drew ?_ | refine blk_alloc ?_ _)); refine blk_put (cs := #[.string (⟨#[]⟩ : ByteArray), .string (⟨#[]⟩ : ByteArray)]) ?_ 0 _ rfl; (with_reducible repeat (first | refine blk_drewN ?_ _ | refine blk_drew ?_ | refine blk_alloc ?_ _)); exact BK440.out) k_ hk)); (case aO => exact (by (with_reducible repeat (first | apply Kd.R_alloc | apply Kd.R_drewN | apply Kd.R_drew)); exact Kd.R_mono (Kd.R_far (p := ⟨gb440, 1, none⟩) (Kd.R_far (p := ⟨gb440, 0, none⟩) (Kd.R_mono HO_5.out (fun k_ hk => (⟨hk, hk.2⟩ : _ ∧ k_ ≠ gb440))) (fun _ hk => hk.2) (.string ((rd_T41 l0 x20_2).f0))) (fun _ hk => hk.2) (.string ((rd_T41 l0 x20_2).f1))) (fun _ hk => hk.1.2))); (case aS => exact (below_size (by repeat (first | (with_reducible first | exact HB.out | apply below_alloc | apply pw_below_drewN | apply below_drew1 | refine below_set ?_ GE440.out) | exact HB.out)))); (case aL => have := LMc14.out; omega); intro v442 w17 ho hb hg hat; rw [← Ny441.out] at ho; have n0_ := Aside0.mk (blk_grown (g := gb440) (o := .cells #[.string ((rd_T41 l0 x20_2).f0), .string ((rd_T41 l0 x20_2).f1)] 41 (0, 0)) (by (with_reducible repeat (first | refine blk_drewN ?_ _ | refine blk_drew ?_ | refine blk_alloc ?_ _)); refine blk_put (cs := #[.string ((rd_T41 l0 x20_2).f0), .string (⟨#[]⟩ : ByteArray)]) ?_ 1 _ rfl; (with_reducible repeat (first | refine blk_drewN ?_ _ | refine blk_drew ?_ | refine blk_alloc ?_ _)); refine blk_put (cs := #[.string (⟨#[]⟩ : ByteArray), .string (⟨#[]⟩ : ByteArray)]) ?_ 0 _ rfl; (with_reducible repeat (first | refine blk_drewN ?_ _ | refine blk_drew ?_ | refine blk_alloc ?_ _)); exact BK440.out) hg (Kd.R_away HO_5.out (fun _ hk => hk.2))); have n1_ := Aside0.mk (hb); have n2_ := Aside0.mk (ho); clear BK440; clear HB; clear HO_5; have BK440 := n0_; have HB := n1_; have HO443 := n2_; clear n0_ n1_ n2_; clear ho hb hg hat))
                    go_roundg k2
                    case measure => have := HJ2.out; have := HK2.out; omega
                    case rel => exact ⟨(y441), (wrap64 (x20_2 + 1)), (by first | rfl | (simp; done) | (simp [*]; done)), H', ⟨by have := HJ2.out; have := HK2.out; omega⟩, ⟨by (with_reducible repeat (first | apply Kd.R_alloc | apply Kd.R_drewN | apply Kd.R_drew)); exact Kd.R_mono HO443.out (fun _ hk => trivial)⟩, ⟨by repeat (first | (with_reducible first | exact HB.out | apply below_alloc | apply pw_below_drewN | apply below_drew1 | refine below_set ?_ GE440.out) | exact HB.out)⟩⟩
                  · rw [if_neg c14] at H
                    exact absurd H (by simp)
                · rw [if_neg c13] at H
                  exact absurd H (by simp)
              · rw [if_neg c12] at H
                exact absurd H (by simp)
            · rw [if_neg c11] at H
              have c11b0 : decide (x20_2 < (l0.length : Int)) = false := decide_eq_false c11
              clear c11
              replace H := Option.bind_eq_some_iff.mp H
              obtain ⟨⟨t444, t445⟩, A180, H⟩ := H
              replace H : (some t444) = some r := H
              have A18 := Aside0.mk A180
              clear A180
              obtain rfl := Option.some.inj H
              obtain ⟨Ao19, co19, eo19⟩ := Kd.R_slice HO_5.out
              subst eo19
              go_wp2_with (first | ((with_reducible refine gate_callee (f := 57) rfl ?_); refine goesL_ (some 36) rfl rfl Tryd.func57 (by kernel_rfl) rfl #[.slice Ao19 x5_2.length co19, .string a1] rfl (by (try simp only [List.map_toArray, List.map_cons, List.map_nil]); first | done | rfl | (simp only [List.length_drop, List.length_take]; rfl)) ?_; (with_reducible refine (translit_write.calls _ _ x5_2 a1 t444 t445 _ ?side1 ?side2 ?side3 A18.out).mono ?_); (case side1 => repeat (first | exact (Kd.R_reads' HO_5.out).2.2 | (with_reducible refine Kd.C_alloc ?_ _) | (with_reducible refine Kd.C_drewN ?_ _) | (with_reducible refine Kd.C_drew ?_))); (case side2 => exact (Kd.R_reads' HO_5.out).2.1); (case side3 => exact GT1.below (HG.out) (by repeat (first | (with_reducible first | exact HB.out | apply below_alloc | apply pw_below_drewN | apply below_drew1) | exact HB.out))); rintro e w20 ⟨rfl, hb⟩; refine ⟨_, rfl, ?_⟩; have n0_ := Aside0.mk (Kd.R_below (by (with_reducible repeat (first | apply Kd.R_alloc | apply Kd.R_drewN | apply Kd.R_drew)); exact HO_5.out) hb); have n1_ := Aside0.mk (below_step (by repeat (first | (with_reducible first | exact HB.out | apply below_alloc | apply pw_below_drewN | apply below_drew1) | exact HB.out)) hb); clear HO_5; clear HB; have HO_5 := n0_; have HB := n1_; clear n0_ n1_; (try clear hb); (try clear hb2); (try clear hk); (try clear hi)))
              go_ret
              exact ⟨by first | rfl | (simp [errW_none, errW_some] <;> rfl) | (simp [*, errW_none, errW_some] <;> rfl), by repeat (first | (with_reducible first | exact HB.out | apply below_alloc | apply pw_below_drewN | apply below_drew1) | exact HB.out)⟩
def translit_Covers.f (k : Nat) (l0 : List (S41)) (a1 : ByteArray) : Option (Bool) := (translit_Valid.f l0).bind fun t446 => (if t446 = true then ((translit_encoded.f k a1).bind fun t447 => (if t447 = true then ((translit_write.f l0 a1).bind fun bt448 => (some (bt448.2 == 0))) else (some false))) else (some false))
set_option maxHeartbeats 8000000 in
set_option maxRecDepth 100000 in
theorem translit_Covers.calls (k : Nat) (A0 : Option Addr) (c0 : Nat) (l0 : List (S41)) (a1 : ByteArray) (r : Bool) (w : World) (hr0 : Kd.C k41 w A0 l0.length l0) (hc0 : l0.length ≤ c0) (hG : GT1 w) (h : translit_Covers.f k l0 a1 = some r) :
    Calls Tryd.prog 28 #[.slice A0 l0.length c0, .string a1] w fun e w' => e = .returned (.bool r) ∧ Below w.heap.size w w' := by
  have HG := Aside0.mk hG
  clear hG
  have HR0 := Aside0.mk hr0
  have HC0 := Aside0.mk hc0
  clear hr0 hc0
  have HB := Aside0.mk (Below.refl w.heap.size w)
  have H : ((translit_Valid.f l0).bind fun t446 => (if t446 = true then ((translit_encoded.f k a1).bind fun t447 => (if t447 = true then ((translit_write.f l0 a1).bind fun bt448 => (some (bt448.2 == 0))) else (some false))) else (some false))) = some r := h
  clear h
  replace H := Option.bind_eq_some_iff.mp H
  obtain ⟨t446, A30, H⟩ := H
  replace H : (if t446 = true then ((translit_encoded.f k a1).bind fun t447 => (if t447 = true then ((translit_write.f l0 a1).bind fun bt448 => (some (bt448.2 == 0))) else (some false))) else (some false)) = some r := H
  have A3 := Aside0.mk A30
  clear A30
  by_cases c4 : t446 = true
  · subst c4
    have H1 : ((translit_encoded.f k a1).bind fun t447 => (if t447 = true then ((translit_write.f l0 a1).bind fun bt448 => (some (bt448.2 == 0))) else (some false))) = some r := by rw [if_pos rfl] at H; exact H
    clear H
    have H := H1
    clear H1
    replace H := Option.bind_eq_some_iff.mp H
    obtain ⟨t447, A50, H⟩ := H
    replace H : (if t447 = true then ((translit_write.f l0 a1).bind fun bt448 => (some (bt448.2 == 0))) else (some false)) = some r := H
    have A5 := Aside0.mk A50
    clear A50
    by_cases c6 : t447 = true
    · subst c6
      have H1 : ((translit_write.f l0 a1).bind fun bt448 => (some (bt448.2 == 0))) = some r := by rw [if_pos rfl] at H; exact H
      clear H
      have H := H1
      clear H1
      replace H := Option.bind_eq_some_iff.mp H
      obtain ⟨⟨t448, t449⟩, A70, H⟩ := H
      replace H : (some (t449 == 0)) = some r := H
      have A7 := Aside0.mk A70
      clear A70
      obtain rfl := Option.some.inj H
      go_enter Tryd.func28, Tryd.ntmps28
      go_wp2_with (first | ((with_reducible refine gate_callee (f := 20) rfl ?_); refine goesL_ (some 8) rfl rfl Tryd.func20 (by kernel_rfl) rfl #[.slice A0 l0.length c0] rfl (by (try simp only [List.map_toArray, List.map_cons, List.map_nil]); first | done | rfl | (simp only [List.length_drop, List.length_take]; rfl)) ?_; (with_reducible refine (translit_Valid.calls _ _ l0 true _ ?side1 ?side2 ?side3 A3.out).mono ?_); (case side1 => repeat (first | exact HR0.out | (with_reducible refine Kd.C_alloc ?_ _) | (with_reducible refine Kd.C_drewN ?_ _) | (with_reducible refine Kd.C_drew ?_))); (case side2 => exact HC0.out); (case side3 => exact GT1.below (HG.out) (by repeat (first | (with_reducible first | exact HB.out | apply below_alloc | apply pw_below_drewN | apply below_drew1) | exact HB.out))); rintro e w8 ⟨rfl, hb⟩; refine ⟨_, rfl, ?_⟩; have n0_ := Aside0.mk (below_step (by repeat (first | (with_reducible first | exact HB.out | apply below_alloc | apply pw_below_drewN | apply below_drew1) | exact HB.out)) hb); clear HB; have HB := n0_; clear n0_; (try clear hb); (try clear hb2); (try clear hk); (try clear hi)) | (go_at_call 56; (with_reducible refine (translit_encoded.calls k a1 true _ ?side1 A5.out).mono ?_); (case side1 => exact GT1.below (HG.out) (by repeat (first | (with_reducible first | exact HB.out | apply below_alloc | apply pw_below_drewN | apply below_drew1) | exact HB.out))); rintro e w9 ⟨rfl, hb⟩; have n0_ := Aside0.mk (below_step (by repeat (first | (with_reducible first | exact HB.out | apply below_alloc | apply pw_below_drewN | apply below_drew1) | exact HB.out)) hb); clear HB; have HB := n0_; clear n0_; (try clear hb); (try clear hb2); (try clear hk); (try clear hi)) | ((with_reducible refine gate_callee (f := 57) rfl ?_); refine goesL_ (some 18) rfl rfl Tryd.func57 (by kernel_rfl) rfl #[.slice A0 l0.length c0, .string a1] rfl (by (try simp only [List.map_toArray, List.map_cons, List.map_nil]); first | done | rfl | (simp only [List.length_drop, List.length_take]; rfl)) ?_; (with_reducible refine (translit_write.calls _ _ l0 a1 t448 t449 _ ?side1 ?side2 ?side3 A7.out).mono ?_); (case side1 => repeat (first | exact (Kd.C_below HR0.out HB.out) | (with_reducible refine Kd.C_alloc ?_ _) | (with_reducible refine Kd.C_drewN ?_ _) | (with_reducible refine Kd.C_drew ?_))); (case side2 => exact HC0.out); (case side3 => exact GT1.below (HG.out) (by repeat (first | (with_reducible first | exact HB.out | apply below_alloc | apply pw_below_drewN | apply below_drew1) | exact HB.out))); rintro e w10 ⟨rfl, hb⟩; refine ⟨_, rfl, ?_⟩; have n0_ := Aside0.mk (below_step (by repeat (first | (with_reducible first | exact HB.out | apply below_alloc | apply pw_below_drewN | apply below_drew1) | exact HB.out)) hb); clear HB; have HB := n0_; clear n0_; (try clear hb); (try clear hb2); (try clear hk); (try clear hi)))
      go_ret
      exact ⟨by first | rfl | (simp [errW_none, errW_some] <;> rfl) | (simp [*, errW_none, errW_some] <;> rfl), by repeat (first | (with_reducible first | exact HB.out | apply below_alloc | apply pw_below_drewN | apply below_drew1) | exact HB.out)⟩
    · replace c6 := Bool.eq_false_iff.mpr c6
      subst c6
      have H1 : (some false) = some r := by rw [if_neg (show ¬ (false = true) by decide)] at H; exact H
      clear H
      have H := H1
      clear H1
      obtain rfl := Option.some.inj H
      go_enter Tryd.func28, Tryd.ntmps28
      go_wp2_with (first | ((with_reducible refine gate_callee (f := 20) rfl ?_); refine goesL_ (some 8) rfl rfl Tryd.func20 (by kernel_rfl) rfl #[.slice A0 l0.length c0] rfl (by (try simp only [List.map_toArray, List.map_cons, List.map_nil]); first | done | rfl | (simp only [List.length_drop, List.length_take]; rfl)) ?_; (with_reducible refine (translit_Valid.calls _ _ l0 true _ ?side1 ?side2 ?side3 A3.out).mono ?_); (case side1 => repeat (first | exact HR0.out | (with_reducible refine Kd.C_alloc ?_ _) | (with_reducible refine Kd.C_drewN ?_ _) | (with_reducible refine Kd.C_drew ?_))); (case side2 => exact HC0.out); (case side3 => exact GT1.below (HG.out) (by repeat (first | (with_reducible first | exact HB.out | apply below_alloc | apply pw_below_drewN | apply below_drew1) | exact HB.out))); rintro e w11 ⟨rfl, hb⟩; refine ⟨_, rfl, ?_⟩; have n0_ := Aside0.mk (below_step (by repeat (first | (with_reducible first | exact HB.out | apply below_alloc | apply pw_below_drewN | apply below_drew1) | exact HB.out)) hb); clear HB; have HB := n0_; clear n0_; (try clear hb); (try clear hb2); (try clear hk); (try clear hi)) | (go_at_call 56; (with_reducible refine (translit_encoded.calls k a1 false _ ?side1 A5.out).mono ?_); (case side1 => exact GT1.below (HG.out) (by repeat (first | (with_reducible first | exact HB.out | apply below_alloc | apply pw_below_drewN | apply below_drew1) | exact HB.out))); rintro e w12 ⟨rfl, hb⟩; have n0_ := Aside0.mk (below_step (by repeat (first | (with_reducible first | exact HB.out | apply below_alloc | apply pw_below_drewN | apply below_drew1) | exact HB.out)) hb); clear HB; have HB := n0_; clear n0_; (try clear hb); (try clear hb2); (try clear hk); (try clear hi)))
      go_ret
      exact ⟨by first | rfl | (simp [errW_none, errW_some] <;> rfl) | (simp [*, errW_none, errW_some] <;> rfl), by repeat (first | (with_reducible first | exact HB.out | apply below_alloc | apply pw_below_drewN | apply below_drew1) | exact HB.out)⟩
  · replace c4 := Bool.eq_false_iff.mpr c4
    subst c4
    have H1 : (some false) = some r := by rw [if_neg (show ¬ (false = true) by decide)] at H; exact H
    clear H
    have H := H1
    clear H1
    obtain rfl := Option.some.inj H
    go_enter Tryd.func28, Tryd.ntmps28
    go_wp2_with (first | ((with_reducible refine gate_callee (f := 20) rfl ?_); refine goesL_ (some 8) rfl rfl Tryd.func20 (by kernel_rfl) rfl #[.slice A0 l0.length c0] rfl (by (try simp only [List.map_toArray, List.map_cons, List.map_nil]); first | done | rfl | (simp only [List.length_drop, List.length_take]; rfl)) ?_; (with_reducible refine (translit_Valid.calls _ _ l0 false _ ?side1 ?side2 ?side3 A3.out).mono ?_); (case side1 => repeat (first | exact HR0.out | (with_reducible refine Kd.C_alloc ?_ _) | (with_reducible refine Kd.C_drewN ?_ _) | (with_reducible refine Kd.C_drew ?_))); (case side2 => exact HC0.out); (case side3 => exact GT1.below (HG.out) (by repeat (first | (with_reducible first | exact HB.out | apply below_alloc | apply pw_below_drewN | apply below_drew1) | exact HB.out))); rintro e w13 ⟨rfl, hb⟩; refine ⟨_, rfl, ?_⟩; have n0_ := Aside0.mk (below_step (by repeat (first | (with_reducible first | exact HB.out | apply below_alloc | apply pw_below_drewN | apply below_drew1) | exact HB.out)) hb); clear HB; have HB := n0_; clear n0_; (try clear hb); (try clear hb2); (try clear hk); (try clear hi)))
    go_ret
    exact ⟨by first | rfl | (simp [errW_none, errW_some] <;> rfl) | (simp [*, errW_none, errW_some] <;> rfl), by repeat (first | (with_reducible first | exact HB.out | apply below_alloc | apply pw_below_drewN | apply below_drew1) | exact HB.out)⟩
def bookplatelaw07_awake.f (k : Nat)  : Option (Bool) := (translit_Cyrillic.f k).bind fun t450 => ((translit_To.f k t450 (⟨#[208, 162, 208, 190, 208, 187, 209, 129, 209, 130, 208, 190, 208, 185]⟩ : ByteArray)).bind fun t453 => (if t453.toList = ([84, 111, 108, 115, 116, 111, 106] : List UInt8) then ((translit_Greek.f k).bind fun t454 => ((translit_To.f k t454 (⟨#[206, 191, 207, 133, 207, 129, 206, 177, 206, 189, 206, 191, 207, 130]⟩ : ByteArray)).bind fun t457 => (if t457.toList = ([111, 117, 114, 97, 110, 111, 115] : List UInt8) then ((translit_Cyrillic.f k).bind fun t458 => ((translit_Reversible.f k t458).bind fun t461 => (if t461 = true then ((translit_Cyrillic.f k).bind fun t462 => ((translit_Back.f k t462 (⟨#[84, 111, 108, 115, 116, 111, 106]⟩ : ByteArray)).bind fun t465 => (if t465.toList = ([208, 162, 208, 190, 208, 187, 209, 129, 209, 130, 208, 190, 208, 185] : List UInt8) then ((translit_Greek.f k).bind fun t466 => ((translit_Covers.f k t466 (⟨#[206, 191, 207, 133]⟩ : ByteArray)).bind fun t469 => (if t469 = true then ((translit_Greek.f k).bind fun t470 => ((translit_Valid.f t470).bind fun t473 => (some t473))) else (some false)))) else (some false)))) else (some false)))) else (some false)))) else (some false)))
set_option maxHeartbeats 8000000 in
set_option maxRecDepth 100000 in
theorem bookplatelaw07_awake.calls (k : Nat)  (r : Bool) (w : World) (hG : GT2 w) (h : bookplatelaw07_awake.f k  = some r) :
    Calls Tryd.prog 17 #[] w fun e w' => e = .returned (.bool r) ∧ Below w.heap.size w w' := by
  have HG := Aside0.mk hG
  clear hG
  have HB := Aside0.mk (Below.refl w.heap.size w)
  have H : ((translit_Cyrillic.f k).bind fun t450 => ((translit_To.f k t450 (⟨#[208, 162, 208, 190, 208, 187, 209, 129, 209, 130, 208, 190, 208, 185]⟩ : ByteArray)).bind fun t453 => (if t453.toList = ([84, 111, 108, 115, 116, 111, 106] : List UInt8) then ((translit_Greek.f k).bind fun t454 => ((translit_To.f k t454 (⟨#[206, 191, 207, 133, 207, 129, 206, 177, 206, 189, 206, 191, 207, 130]⟩ : ByteArray)).bind fun t457 => (if t457.toList = ([111, 117, 114, 97, 110, 111, 115] : List UInt8) then ((translit_Cyrillic.f k).bind fun t458 => ((translit_Reversible.f k t458).bind fun t461 => (if t461 = true then ((translit_Cyrillic.f k).bind fun t462 => ((translit_Back.f k t462 (⟨#[84, 111, 108, 115, 116, 111, 106]⟩ : ByteArray)).bind fun t465 => (if t465.toList = ([208, 162, 208, 190, 208, 187, 209, 129, 209, 130, 208, 190, 208, 185] : List UInt8) then ((translit_Greek.f k).bind fun t466 => ((translit_Covers.f k t466 (⟨#[206, 191, 207, 133]⟩ : ByteArray)).bind fun t469 => (if t469 = true then ((translit_Greek.f k).bind fun t470 => ((translit_Valid.f t470).bind fun t473 => (some t473))) else (some false)))) else (some false)))) else (some false)))) else (some false)))) else (some false)))) = some r := h
  clear h
  replace H := Option.bind_eq_some_iff.mp H
  obtain ⟨t450, A10, H⟩ := H
  replace H : ((translit_To.f k t450 (⟨#[208, 162, 208, 190, 208, 187, 209, 129, 209, 130, 208, 190, 208, 185]⟩ : ByteArray)).bind fun t453 => (if t453.toList = ([84, 111, 108, 115, 116, 111, 106] : List UInt8) then ((translit_Greek.f k).bind fun t454 => ((translit_To.f k t454 (⟨#[206, 191, 207, 133, 207, 129, 206, 177, 206, 189, 206, 191, 207, 130]⟩ : ByteArray)).bind fun t457 => (if t457.toList = ([111, 117, 114, 97, 110, 111, 115] : List UInt8) then ((translit_Cyrillic.f k).bind fun t458 => ((translit_Reversible.f k t458).bind fun t461 => (if t461 = true then ((translit_Cyrillic.f k).bind fun t462 => ((translit_Back.f k t462 (⟨#[84, 111, 108, 115, 116, 111, 106]⟩ : ByteArray)).bind fun t465 => (if t465.toList = ([208, 162, 208, 190, 208, 187, 209, 129, 209, 130, 208, 190, 208, 185] : List UInt8) then ((translit_Greek.f k).bind fun t466 => ((translit_Covers.f k t466 (⟨#[206, 191, 207, 133]⟩ : ByteArray)).bind fun t469 => (if t469 = true then ((translit_Greek.f k).bind fun t470 => ((translit_Valid.f t470).bind fun t473 => (some t473))) else (some false)))) else (some false)))) else (some false)))) else (some false)))) else (some false))) = some r := H
  have A1 := Aside0.mk A10
  clear A10
  replace H := Option.bind_eq_some_iff.mp H
  obtain ⟨t453, A20, H⟩ := H
  replace H : (if t453.toList = ([84, 111, 108, 115, 116, 111, 106] : List UInt8) then ((translit_Greek.f k).bind fun t454 => ((translit_To.f k t454 (⟨#[206, 191, 207, 133, 207, 129, 206, 177, 206, 189, 206, 191, 207, 130]⟩ : ByteArray)).bind fun t457 => (if t457.toList = ([111, 117, 114, 97, 110, 111, 115] : List UInt8) then ((translit_Cyrillic.f k).bind fun t458 => ((translit_Reversible.f k t458).bind fun t461 => (if t461 = true then ((translit_Cyrillic.f k).bind fun t462 => ((translit_Back.f k t462 (⟨#[84, 111, 108, 115, 116, 111, 106]⟩ : ByteArray)).bind fun t465 => (if t465.toList = ([208, 162, 208, 190, 208, 187, 209, 129, 209, 130, 208, 190, 208, 185] : List UInt8) then ((translit_Greek.f k).bind fun t466 => ((translit_Covers.f k t466 (⟨#[206, 191, 207, 133]⟩ : ByteArray)).bind fun t469 => (if t469 = true then ((translit_Greek.f k).bind fun t470 => ((translit_Valid.f t470).bind fun t473 => (some t473))) else (some false)))) else (some false)))) else (some false)))) else (some false)))) else (some false)) = some r := H
  have A2 := Aside0.mk A20
  clear A20
  by_cases c3 : t453.toList = ([84, 111, 108, 115, 116, 111, 106] : List UInt8)
  · rw [if_pos c3] at H
    have c3b0 : (t453.toList == ([84, 111, 108, 115, 116, 111, 106] : List UInt8)) = true := beq_iff_eq.mpr c3
    have c3b1 : (t453.toList != ([84, 111, 108, 115, 116, 111, 106] : List UInt8)) = false := bne_eq_false_iff_eq.mpr c3
    clear c3
    replace H := Option.bind_eq_some_iff.mp H
    obtain ⟨t454, A40, H⟩ := H
    replace H : ((translit_To.f k t454 (⟨#[206, 191, 207, 133, 207, 129, 206, 177, 206, 189, 206, 191, 207, 130]⟩ : ByteArray)).bind fun t457 => (if t457.toList = ([111, 117, 114, 97, 110, 111, 115] : List UInt8) then ((translit_Cyrillic.f k).bind fun t458 => ((translit_Reversible.f k t458).bind fun t461 => (if t461 = true then ((translit_Cyrillic.f k).bind fun t462 => ((translit_Back.f k t462 (⟨#[84, 111, 108, 115, 116, 111, 106]⟩ : ByteArray)).bind fun t465 => (if t465.toList = ([208, 162, 208, 190, 208, 187, 209, 129, 209, 130, 208, 190, 208, 185] : List UInt8) then ((translit_Greek.f k).bind fun t466 => ((translit_Covers.f k t466 (⟨#[206, 191, 207, 133]⟩ : ByteArray)).bind fun t469 => (if t469 = true then ((translit_Greek.f k).bind fun t470 => ((translit_Valid.f t470).bind fun t473 => (some t473))) else (some false)))) else (some false)))) else (some false)))) else (some false))) = some r := H
    have A4 := Aside0.mk A40
    clear A40
    replace H := Option.bind_eq_some_iff.mp H
    obtain ⟨t457, A50, H⟩ := H
    replace H : (if t457.toList = ([111, 117, 114, 97, 110, 111, 115] : List UInt8) then ((translit_Cyrillic.f k).bind fun t458 => ((translit_Reversible.f k t458).bind fun t461 => (if t461 = true then ((translit_Cyrillic.f k).bind fun t462 => ((translit_Back.f k t462 (⟨#[84, 111, 108, 115, 116, 111, 106]⟩ : ByteArray)).bind fun t465 => (if t465.toList = ([208, 162, 208, 190, 208, 187, 209, 129, 209, 130, 208, 190, 208, 185] : List UInt8) then ((translit_Greek.f k).bind fun t466 => ((translit_Covers.f k t466 (⟨#[206, 191, 207, 133]⟩ : ByteArray)).bind fun t469 => (if t469 = true then ((translit_Greek.f k).bind fun t470 => ((translit_Valid.f t470).bind fun t473 => (some t473))) else (some false)))) else (some false)))) else (some false)))) else (some false)) = some r := H
    have A5 := Aside0.mk A50
    clear A50
    by_cases c6 : t457.toList = ([111, 117, 114, 97, 110, 111, 115] : List UInt8)
    · rw [if_pos c6] at H
      have c6b0 : (t457.toList == ([111, 117, 114, 97, 110, 111, 115] : List UInt8)) = true := beq_iff_eq.mpr c6
      have c6b1 : (t457.toList != ([111, 117, 114, 97, 110, 111, 115] : List UInt8)) = false := bne_eq_false_iff_eq.mpr c6
      clear c6
      replace H := Option.bind_eq_some_iff.mp H
      obtain ⟨t458, A70, H⟩ := H
      replace H : ((translit_Reversible.f k t458).bind fun t461 => (if t461 = true then ((translit_Cyrillic.f k).bind fun t462 => ((translit_Back.f k t462 (⟨#[84, 111, 108, 115, 116, 111, 106]⟩ : ByteArray)).bind fun t465 => (if t465.toList = ([208, 162, 208, 190, 208, 187, 209, 129, 209, 130, 208, 190, 208, 185] : List UInt8) then ((translit_Greek.f k).bind fun t466 => ((translit_Covers.f k t466 (⟨#[206, 191, 207, 133]⟩ : ByteArray)).bind fun t469 => (if t469 = true then ((translit_Greek.f k).bind fun t470 => ((translit_Valid.f t470).bind fun t473 => (some t473))) else (some false)))) else (some false)))) else (some false))) = some r := H
      have A7 := Aside0.mk A70
      clear A70
      replace H := Option.bind_eq_some_iff.mp H
      obtain ⟨t461, A80, H⟩ := H
      replace H : (if t461 = true then ((translit_Cyrillic.f k).bind fun t462 => ((translit_Back.f k t462 (⟨#[84, 111, 108, 115, 116, 111, 106]⟩ : ByteArray)).bind fun t465 => (if t465.toList = ([208, 162, 208, 190, 208, 187, 209, 129, 209, 130, 208, 190, 208, 185] : List UInt8) then ((translit_Greek.f k).bind fun t466 => ((translit_Covers.f k t466 (⟨#[206, 191, 207, 133]⟩ : ByteArray)).bind fun t469 => (if t469 = true then ((translit_Greek.f k).bind fun t470 => ((translit_Valid.f t470).bind fun t473 => (some t473))) else (some false)))) else (some false)))) else (some false)) = some r := H
      have A8 := Aside0.mk A80
      clear A80
      by_cases c9 : t461 = true
      · subst c9
        have H1 : ((translit_Cyrillic.f k).bind fun t462 => ((translit_Back.f k t462 (⟨#[84, 111, 108, 115, 116, 111, 106]⟩ : ByteArray)).bind fun t465 => (if t465.toList = ([208, 162, 208, 190, 208, 187, 209, 129, 209, 130, 208, 190, 208, 185] : List UInt8) then ((translit_Greek.f k).bind fun t466 => ((translit_Covers.f k t466 (⟨#[206, 191, 207, 133]⟩ : ByteArray)).bind fun t469 => (if t469 = true then ((translit_Greek.f k).bind fun t470 => ((translit_Valid.f t470).bind fun t473 => (some t473))) else (some false)))) else (some false)))) = some r := by rw [if_pos rfl] at H; exact H
        clear H
        have H := H1
        clear H1
        replace H := Option.bind_eq_some_iff.mp H
        obtain ⟨t462, A100, H⟩ := H
        replace H : ((translit_Back.f k t462 (⟨#[84, 111, 108, 115, 116, 111, 106]⟩ : ByteArray)).bind fun t465 => (if t465.toList = ([208, 162, 208, 190, 208, 187, 209, 129, 209, 130, 208, 190, 208, 185] : List UInt8) then ((translit_Greek.f k).bind fun t466 => ((translit_Covers.f k t466 (⟨#[206, 191, 207, 133]⟩ : ByteArray)).bind fun t469 => (if t469 = true then ((translit_Greek.f k).bind fun t470 => ((translit_Valid.f t470).bind fun t473 => (some t473))) else (some false)))) else (some false))) = some r := H
        have A10 := Aside0.mk A100
        clear A100
        replace H := Option.bind_eq_some_iff.mp H
        obtain ⟨t465, A110, H⟩ := H
        replace H : (if t465.toList = ([208, 162, 208, 190, 208, 187, 209, 129, 209, 130, 208, 190, 208, 185] : List UInt8) then ((translit_Greek.f k).bind fun t466 => ((translit_Covers.f k t466 (⟨#[206, 191, 207, 133]⟩ : ByteArray)).bind fun t469 => (if t469 = true then ((translit_Greek.f k).bind fun t470 => ((translit_Valid.f t470).bind fun t473 => (some t473))) else (some false)))) else (some false)) = some r := H
        have A11 := Aside0.mk A110
        clear A110
        by_cases c12 : t465.toList = ([208, 162, 208, 190, 208, 187, 209, 129, 209, 130, 208, 190, 208, 185] : List UInt8)
        · rw [if_pos c12] at H
          have c12b0 : (t465.toList == ([208, 162, 208, 190, 208, 187, 209, 129, 209, 130, 208, 190, 208, 185] : List UInt8)) = true := beq_iff_eq.mpr c12
          have c12b1 : (t465.toList != ([208, 162, 208, 190, 208, 187, 209, 129, 209, 130, 208, 190, 208, 185] : List UInt8)) = false := bne_eq_false_iff_eq.mpr c12
          clear c12
          replace H := Option.bind_eq_some_iff.mp H
          obtain ⟨t466, A130, H⟩ := H
          replace H : ((translit_Covers.f k t466 (⟨#[206, 191, 207, 133]⟩ : ByteArray)).bind fun t469 => (if t469 = true then ((translit_Greek.f k).bind fun t470 => ((translit_Valid.f t470).bind fun t473 => (some t473))) else (some false))) = some r := H
          have A13 := Aside0.mk A130
          clear A130
          replace H := Option.bind_eq_some_iff.mp H
          obtain ⟨t469, A140, H⟩ := H
          replace H : (if t469 = true then ((translit_Greek.f k).bind fun t470 => ((translit_Valid.f t470).bind fun t473 => (some t473))) else (some false)) = some r := H
          have A14 := Aside0.mk A140
          clear A140
          by_cases c15 : t469 = true
          · subst c15
            have H1 : ((translit_Greek.f k).bind fun t470 => ((translit_Valid.f t470).bind fun t473 => (some t473))) = some r := by rw [if_pos rfl] at H; exact H
            clear H
            have H := H1
            clear H1
            replace H := Option.bind_eq_some_iff.mp H
            obtain ⟨t470, A160, H⟩ := H
            replace H : ((translit_Valid.f t470).bind fun t473 => (some t473)) = some r := H
            have A16 := Aside0.mk A160
            clear A160
            replace H := Option.bind_eq_some_iff.mp H
            obtain ⟨t473, A170, H⟩ := H
            replace H : (some t473) = some r := H
            have A17 := Aside0.mk A170
            clear A170
            obtain rfl := Option.some.inj H
            go_enter Tryd.func17, Tryd.ntmps17
            go_wp2_with (first | ((with_reducible refine gate_callee (f := 32) rfl ?_); refine goesL_ (some 1) rfl rfl Tryd.func32 (by kernel_rfl) rfl #[] rfl (by (try simp only [List.map_toArray, List.map_cons, List.map_nil]); first | done | rfl | (simp only [List.length_drop, List.length_take]; rfl)) ?_; (with_reducible refine (translit_Cyrillic.calls k  t450 _ ?side1 A1.out).mono ?_); (case side1 => exact GT2.below (HG.out) (by repeat (first | (with_reducible first | exact HB.out | apply below_alloc | apply pw_below_drewN | apply below_drew1) | exact HB.out))); rintro e w18 ⟨v451, rfl, ho0, hb⟩; refine ⟨_, rfl, ?_⟩; have n0_ := Aside0.mk (Kd.R_lower ho0 (below_size (by repeat (first | (with_reducible first | exact HB.out | apply below_alloc | apply pw_below_drewN | apply below_drew1) | exact HB.out)))); have n1_ := Aside0.mk (below_step (by repeat (first | (with_reducible first | exact HB.out | apply below_alloc | apply pw_below_drewN | apply below_drew1) | exact HB.out)) hb); clear HB; have HO452 := n0_; have HB := n1_; clear n0_ n1_; (try clear hb); (try clear hb2); (try clear hk); (try clear hi); (try clear ho0); obtain ⟨Ao19, co19, eo19⟩ := Kd.R_slice HO452.out; subst eo19) | ((with_reducible refine gate_callee (f := 24) rfl ?_); refine goesL_ (some 2) rfl rfl Tryd.func24 (by kernel_rfl) rfl #[.slice Ao19 t450.length co19, .string (⟨#[208, 162, 208, 190, 208, 187, 209, 129, 209, 130, 208, 190, 208, 185]⟩ : ByteArray)] rfl (by (try simp only [List.map_toArray, List.map_cons, List.map_nil]); first | done | rfl | (simp only [List.length_drop, List.length_take]; rfl)) ?_; (with_reducible refine (translit_To.calls k _ _ t450 (⟨#[208, 162, 208, 190, 208, 187, 209, 129, 209, 130, 208, 190, 208, 185]⟩ : ByteArray) t453 _ ?side1 ?side2 ?side3 A2.out).mono ?_); (case side1 => repeat (first | exact (Kd.R_reads' HO452.out).2.2 | (with_reducible refine Kd.C_alloc ?_ _) | (with_reducible refine Kd.C_drewN ?_ _) | (with_reducible refine Kd.C_drew ?_))); (case side2 => exact (Kd.R_reads' HO452.out).2.1); (case side3 => exact GT1.below (HG.out.one) (by repeat (first | (with_reducible first | exact HB.out | apply below_alloc | apply pw_below_drewN | apply below_drew1) | exact HB.out))); rintro e w20 ⟨rfl, hb⟩; refine ⟨_, rfl, ?_⟩; have n0_ := Aside0.mk (Kd.R_below (by (with_reducible repeat (first | apply Kd.R_alloc | apply Kd.R_drewN | apply Kd.R_drew)); exact HO452.out) hb); have n1_ := Aside0.mk (below_step (by repeat (first | (with_reducible first | exact HB.out | apply below_alloc | apply pw_below_drewN | apply below_drew1) | exact HB.out)) hb); clear HO452; clear HB; have HO452 := n0_; have HB := n1_; clear n0_ n1_; (try clear hb); (try clear hb2); (try clear hk); (try clear hi)) | (go_at_call 33; (fail_if_success (have := HO456)); (with_reducible refine (translit_Greek.calls k  t454 _ ?side1 A4.out).mono ?_); (case side1 => exact GT2.below (HG.out) (by repeat (first | (with_reducible first | exact HB.out | apply below_alloc | apply pw_below_drewN | apply below_drew1) | exact HB.out))); rintro e w21 ⟨v455, rfl, ho0, hb⟩; have n0_ := Aside0.mk (Kd.R_elder' (by (with_reducible repeat (first | apply Kd.R_alloc | apply Kd.R_drewN | apply Kd.R_drew)); exact HO452.out) (Kd.R_base ho0) hb); have n1_ := Aside0.mk (Kd.R_lower (Kd.R_new' ho0 (Kd.R_lt (by (with_reducible repeat (first | apply Kd.R_alloc | apply Kd.R_drewN | apply Kd.R_drew)); exact HO452.out))) (below_size (by repeat (first | (with_reducible first | exact HB.out | apply below_alloc | apply pw_below_drewN | apply below_drew1) | exact HB.out)))); have n2_ := Aside0.mk (below_step (by repeat (first | (with_reducible first | exact HB.out | apply below_alloc | apply pw_below_drewN | apply below_drew1) | exact HB.out)) hb); clear HO452; clear HB; have HO452 := n0_; have HO456 := n1_; have HB := n2_; clear n0_ n1_ n2_; (try clear hb); (try clear hb2); (try clear hk); (try clear hi); (try clear ho0); obtain ⟨Ao22, co22, eo22⟩ := Kd.R_slice HO456.out; subst eo22) | (go_at_call 24; (with_reducible refine (translit_To.calls k _ _ t454 (⟨#[206, 191, 207, 133, 207, 129, 206, 177, 206, 189, 206, 191, 207, 130]⟩ : ByteArray) t457 _ ?side1 ?side2 ?side3 A5.out).mono ?_); (case side1 => repeat (first | exact (Kd.R_reads' HO456.out).2.2 | (with_reducible refine Kd.C_alloc ?_ _) | (with_reducible refine Kd.C_drewN ?_ _) | (with_reducible refine Kd.C_drew ?_))); (case side2 => exact (Kd.R_reads' HO456.out).2.1); (case side3 => exact GT1.below (HG.out.one) (by repeat (first | (with_reducible first | exact HB.out | apply below_alloc | apply pw_below_drewN | apply below_drew1) | exact HB.out))); rintro e w23 ⟨rfl, hb⟩; have n0_ := Aside0.mk (Kd.R_below (by (with_reducible repeat (first | apply Kd.R_alloc | apply Kd.R_drewN | apply Kd.R_drew)); exact HO452.out) hb); have n1_ := Aside0.mk (Kd.R_below (by (with_reducible repeat (first | apply Kd.R_alloc | apply Kd.R_drewN | apply Kd.R_drew)); exact HO456.out) hb); have n2_ := Aside0.mk (below_step (by repeat (first | (with_reducible first | exact HB.out | apply below_alloc | apply pw_below_drewN | apply below_drew1) | exact HB.out)) hb); clear HO452; clear HO456; clear HB; have HO452 := n0_; have HO456 := n1_; have HB := n2_; clear n0_ n1_ n2_; (try clear hb); (try clear hb2); (try clear hk); (try clear hi)) | (go_at_call 32; (fail_if_success (have := HO460)); (with_reducible refine (translit_Cyrillic.calls k  t458 _ ?side1 A7.out).mono ?_); (case side1 => exact GT2.below (HG.out) (by repeat (first | (with_reducible first | exact HB.out | apply below_alloc | apply pw_below_drewN | apply below_drew1) | exact HB.out))); rintro e w24 ⟨v459, rfl, ho0, hb⟩; have n0_ := Aside0.mk (Kd.R_elder' (by (with_reducible repeat (first | apply Kd.R_alloc | apply Kd.R_drewN | apply Kd.R_drew)); exact HO452.out) (Kd.R_base ho0) hb); have n1_ := Aside0.mk (Kd.R_elder' (by (with_reducible repeat (first | apply Kd.R_alloc | apply Kd.R_drewN | apply Kd.R_drew)); exact HO456.out) (Kd.R_base ho0) hb); have n2_ := Aside0.mk (Kd.R_lower (Kd.R_new' (Kd.R_new' ho0 (Kd.R_lt (by (with_reducible repeat (first | apply Kd.R_alloc | apply Kd.R_drewN | apply Kd.R_drew)); exact HO452.out))) (Kd.R_lt (by (with_reducible repeat (first | apply Kd.R_alloc | apply Kd.R_drewN | apply Kd.R_drew)); exact HO456.out))) (below_size (by repeat (first | (with_reducible first | exact HB.out | apply below_alloc | apply pw_below_drewN | apply below_drew1) | exact HB.out)))); have n3_ := Aside0.mk (below_step (by repeat (first | (with_reducible first | exact HB.out | apply below_alloc | apply pw_below_drewN | apply below_drew1) | exact HB.out)) hb); clear HO452; clear HO456; clear HB; have HO452 := n0_; have HO456 := n1_; have HO460 := n2_; have HB := n3_; clear n0_ n1_ n2_ n3_; (try clear hb); (try clear hb2); (try clear hk); (try clear hi); (try clear ho0); obtain ⟨Ao25, co25, eo25⟩ := Kd.R_slice HO460.out; subst eo25) | (go_at_call 22; (with_reducible refine (translit_Reversible.calls k _ _ t458 true _ ?side1 ?side2 ?side3 A8.out).mono ?_); (case side1 => repeat (first | exact (Kd.R_reads' HO460.out).2.2 | (with_reducible refine Kd.C_alloc ?_ _) | (with_reducible refine Kd.C_drewN ?_ _) | (with_reducible refine Kd.C_drew ?_))); (case side2 => exact (Kd.R_reads' HO460.out).2.1); (case side3 => exact GT1.below (HG.out.one) (by repeat (first | (with_reducible first | exact HB.out | apply below_alloc | apply pw_below_drewN | apply below_drew1) | exact HB.out))); rintro e w26 ⟨rfl, hb⟩; have n0_ := Aside0.mk (Kd.R_below (by (with_reducible repeat (first | apply Kd.R_alloc | apply Kd.R_drewN | apply Kd.R_drew)); exact HO452.out) hb); have n1_ := Aside0.mk (Kd.R_below (by (with_reducible repeat (first | apply Kd.R_alloc | apply Kd.R_drewN | apply Kd.R_drew)); exact HO456.out) hb); have n2_ := Aside0.mk (Kd.R_below (by (with_reducible repeat (first | apply Kd.R_alloc | apply Kd.R_drewN | apply Kd.R_drew)); exact HO460.out) hb); have n3_ := Aside0.mk (below_step (by repeat (first | (with_reducible first | exact HB.out | apply below_alloc | apply pw_below_drewN | apply below_drew1) | exact HB.out)) hb); clear HO452; clear HO456; clear HO460; clear HB; have HO452 := n0_; have HO456 := n1_; have HO460 := n2_; have HB := n3_; clear n0_ n1_ n2_ n3_; (try clear hb); (try clear hb2); (try clear hk); (try clear hi)) | (go_at_call 32; (fail_if_success (have := HO464)); (with_reducible refine (translit_Cyrillic.calls k  t462 _ ?side1 A10.out).mono ?_); (case side1 => exact GT2.below (HG.out) (by repeat (first | (with_reducible first | exact HB.out | apply below_alloc | apply pw_below_drewN | apply below_drew1) | exact HB.out))); rintro e w27 ⟨v463, rfl, ho0, hb⟩; have n0_ := Aside0.mk (Kd.R_elder' (by (with_reducible repeat (first | apply Kd.R_alloc | apply Kd.R_drewN | apply Kd.R_drew)); exact HO452.out) (Kd.R_base ho0) hb); have n1_ := Aside0.mk (Kd.R_elder' (by (with_reducible repeat (first | apply Kd.R_alloc | apply Kd.R_drewN | apply Kd.R_drew)); exact HO456.out) (Kd.R_base ho0) hb); have n2_ := Aside0.mk (Kd.R_elder' (by (with_reducible repeat (first | apply Kd.R_alloc | apply Kd.R_drewN | apply Kd.R_drew)); exact HO460.out) (Kd.R_base ho0) hb); have n3_ := Aside0.mk (Kd.R_lower (Kd.R_new' (Kd.R_new' (Kd.R_new' ho0 (Kd.R_lt (by (with_reducible repeat (first | apply Kd.R_alloc | apply Kd.R_drewN | apply Kd.R_drew)); exact HO452.out))) (Kd.R_lt (by (with_reducible repeat (first | apply Kd.R_alloc | apply Kd.R_drewN | apply Kd.R_drew)); exact HO456.out))) (Kd.R_lt (by (with_reducible repeat (first | apply Kd.R_alloc | apply Kd.R_drewN | apply Kd.R_drew)); exact HO460.out))) (below_size (by repeat (first | (with_reducible first | exact HB.out | apply below_alloc | apply pw_below_drewN | apply below_drew1) | exact HB.out)))); have n4_ := Aside0.mk (below_step (by repeat (first | (with_reducible first | exact HB.out | apply below_alloc | apply pw_below_drewN | apply below_drew1) | exact HB.out)) hb); clear HO452; clear HO456; clear HO460; clear HB; have HO452 := n0_; have HO456 := n1_; have HO460 := n2_; have HO464 := n3_; have HB := n4_; clear n0_ n1_ n2_ n3_ n4_; (try clear hb); (try clear hb2); (try clear hk); (try clear hi); (try clear ho0); obtain ⟨Ao28, co28, eo28⟩ := Kd.R_slice HO464.out; subst eo28) | (go_at_call 26; (with_reducible refine (translit_Back.calls k _ _ t462 (⟨#[84, 111, 108, 115, 116, 111, 106]⟩ : ByteArray) t465 _ ?side1 ?side2 ?side3 A11.out).mono ?_); (case side1 => repeat (first | exact (Kd.R_reads' HO464.out).2.2 | (with_reducible refine Kd.C_alloc ?_ _) | (with_reducible refine Kd.C_drewN ?_ _) | (with_reducible refine Kd.C_drew ?_))); (case side2 => exact (Kd.R_reads' HO464.out).2.1); (case side3 => exact GT1.below (HG.out.one) (by repeat (first | (with_reducible first | exact HB.out | apply below_alloc | apply pw_below_drewN | apply below_drew1) | exact HB.out))); rintro e w29 ⟨rfl, hb⟩; have n0_ := Aside0.mk (Kd.R_below (by (with_reducible repeat (first | apply Kd.R_alloc | apply Kd.R_drewN | apply Kd.R_drew)); exact HO452.out) hb); have n1_ := Aside0.mk (Kd.R_below (by (with_reducible repeat (first | apply Kd.R_alloc | apply Kd.R_drewN | apply Kd.R_drew)); exact HO456.out) hb); have n2_ := Aside0.mk (Kd.R_below (by (with_reducible repeat (first | apply Kd.R_alloc | apply Kd.R_drewN | apply Kd.R_drew)); exact HO460.out) hb); have n3_ := Aside0.mk (Kd.R_below (by (with_reducible repeat (first | apply Kd.R_alloc | apply Kd.R_drewN | apply Kd.R_drew)); exact HO464.out) hb); have n4_ := Aside0.mk (below_step (by repeat (first | (with_reducible first | exact HB.out | apply below_alloc | apply pw_below_drewN | apply below_drew1) | exact HB.out)) hb); clear HO452; clear HO456; clear HO460; clear HO464; clear HB; have HO452 := n0_; have HO456 := n1_; have HO460 := n2_; have HO464 := n3_; have HB := n4_; clear n0_ n1_ n2_ n3_ n4_; (try clear hb); (try clear hb2); (try clear hk); (try clear hi)) | (go_at_call 33; (fail_if_success (have := HO468)); (with_reducible refine (translit_Greek.calls k  t466 _ ?side1 A13.out).mono ?_); (case side1 => exact GT2.below (HG.out) (by repeat (first | (with_reducible first | exact HB.out | apply below_alloc | apply pw_below_drewN | apply below_drew1) | exact HB.out))); rintro e w30 ⟨v467, rfl, ho0, hb⟩; have n0_ := Aside0.mk (Kd.R_elder' (by (with_reducible repeat (first | apply Kd.R_alloc | apply Kd.R_drewN | apply Kd.R_drew)); exact HO452.out) (Kd.R_base ho0) hb); have n1_ := Aside0.mk (Kd.R_elder' (by (with_reducible repeat (first | apply Kd.R_alloc | apply Kd.R_drewN | apply Kd.R_drew)); exact HO456.out) (Kd.R_base ho0) hb); have n2_ := Aside0.mk (Kd.R_elder' (by (with_reducible repeat (first | apply Kd.R_alloc | apply Kd.R_drewN | apply Kd.R_drew)); exact HO460.out) (Kd.R_base ho0) hb); have n3_ := Aside0.mk (Kd.R_elder' (by (with_reducible repeat (first | apply Kd.R_alloc | apply Kd.R_drewN | apply Kd.R_drew)); exact HO464.out) (Kd.R_base ho0) hb); have n4_ := Aside0.mk (Kd.R_lower (Kd.R_new' (Kd.R_new' (Kd.R_new' (Kd.R_new' ho0 (Kd.R_lt (by (with_reducible repeat (first | apply Kd.R_alloc | apply Kd.R_drewN | apply Kd.R_drew)); exact HO452.out))) (Kd.R_lt (by (with_reducible repeat (first | apply Kd.R_alloc | apply Kd.R_drewN | apply Kd.R_drew)); exact HO456.out))) (Kd.R_lt (by (with_reducible repeat (first | apply Kd.R_alloc | apply Kd.R_drewN | apply Kd.R_drew)); exact HO460.out))) (Kd.R_lt (by (with_reducible repeat (first | apply Kd.R_alloc | apply Kd.R_drewN | apply Kd.R_drew)); exact HO464.out))) (below_size (by repeat (first | (with_reducible first | exact HB.out | apply below_alloc | apply pw_below_drewN | apply below_drew1) | exact HB.out)))); have n5_ := Aside0.mk (below_step (by repeat (first | (with_reducible first | exact HB.out | apply below_alloc | apply pw_below_drewN | apply below_drew1) | exact HB.out)) hb); clear HO452; clear HO456; clear HO460; clear HO464; clear HB; have HO452 := n0_; have HO456 := n1_; have HO460 := n2_; have HO464 := n3_; have HO468 := n4_; have HB := n5_; clear n0_ n1_ n2_ n3_ n4_ n5_; (try clear hb); (try clear hb2); (try clear hk); (try clear hi); (try clear ho0); obtain ⟨Ao31, co31, eo31⟩ := Kd.R_slice HO468.out; subst eo31) | (go_at_call 28; (with_reducible refine (translit_Covers.calls k _ _ t466 (⟨#[206, 191, 207, 133]⟩ : ByteArray) true _ ?side1 ?side2 ?side3 A14.out).mono ?_); (case side1 => repeat (first | exact (Kd.R_reads' HO468.out).2.2 | (with_reducible refine Kd.C_alloc ?_ _) | (with_reducible refine Kd.C_drewN ?_ _) | (with_reducible refine Kd.C_drew ?_))); (case side2 => exact (Kd.R_reads' HO468.out).2.1); (case side3 => exact GT1.below (HG.out.one) (by repeat (first | (with_reducible first | exact HB.out | apply below_alloc | apply pw_below_drewN | apply below_drew1) | exact HB.out))); rintro e w32 ⟨rfl, hb⟩; have n0_ := Aside0.mk (Kd.R_below (by (with_reducible repeat (first | apply Kd.R_alloc | apply Kd.R_drewN | apply Kd.R_drew)); exact HO452.out) hb); have n1_ := Aside0.mk (Kd.R_below (by (with_reducible repeat (first | apply Kd.R_alloc | apply Kd.R_drewN | apply Kd.R_drew)); exact HO456.out) hb); have n2_ := Aside0.mk (Kd.R_below (by (with_reducible repeat (first | apply Kd.R_alloc | apply Kd.R_drewN | apply Kd.R_drew)); exact HO460.out) hb); have n3_ := Aside0.mk (Kd.R_below (by (with_reducible repeat (first | apply Kd.R_alloc | apply Kd.R_drewN | apply Kd.R_drew)); exact HO464.out) hb); have n4_ := Aside0.mk (Kd.R_below (by (with_reducible repeat (first | apply Kd.R_alloc | apply Kd.R_drewN | apply Kd.R_drew)); exact HO468.out) hb); have n5_ := Aside0.mk (below_step (by repeat (first | (with_reducible first | exact HB.out | apply below_alloc | apply pw_below_drewN | apply below_drew1) | exact HB.out)) hb); clear HO452; clear HO456; clear HO460; clear HO464; clear HO468; clear HB; have HO452 := n0_; have HO456 := n1_; have HO460 := n2_; have HO464 := n3_; have HO468 := n4_; have HB := n5_; clear n0_ n1_ n2_ n3_ n4_ n5_; (try clear hb); (try clear hb2); (try clear hk); (try clear hi)) | (go_at_call 33; (fail_if_success (have := HO472)); (with_reducible refine (translit_Greek.calls k  t470 _ ?side1 A16.out).mono ?_); (case side1 => exact GT2.below (HG.out) (by repeat (first | (with_reducible first | exact HB.out | apply below_alloc | apply pw_below_drewN | apply below_drew1) | exact HB.out))); rintro e w33 ⟨v471, rfl, ho0, hb⟩; have n0_ := Aside0.mk (Kd.R_elder' (by (with_reducible repeat (first | apply Kd.R_alloc | apply Kd.R_drewN | apply Kd.R_drew)); exact HO452.out) (Kd.R_base ho0) hb); have n1_ := Aside0.mk (Kd.R_elder' (by (with_reducible repeat (first | apply Kd.R_alloc | apply Kd.R_drewN | apply Kd.R_drew)); exact HO456.out) (Kd.R_base ho0) hb); have n2_ := Aside0.mk (Kd.R_elder' (by (with_reducible repeat (first | apply Kd.R_alloc | apply Kd.R_drewN | apply Kd.R_drew)); exact HO460.out) (Kd.R_base ho0) hb); have n3_ := Aside0.mk (Kd.R_elder' (by (with_reducible repeat (first | apply Kd.R_alloc | apply Kd.R_drewN | apply Kd.R_drew)); exact HO464.out) (Kd.R_base ho0) hb); have n4_ := Aside0.mk (Kd.R_elder' (by (with_reducible repeat (first | apply Kd.R_alloc | apply Kd.R_drewN | apply Kd.R_drew)); exact HO468.out) (Kd.R_base ho0) hb); have n5_ := Aside0.mk (Kd.R_lower (Kd.R_new' (Kd.R_new' (Kd.R_new' (Kd.R_new' (Kd.R_new' ho0 (Kd.R_lt (by (with_reducible repeat (first | apply Kd.R_alloc | apply Kd.R_drewN | apply Kd.R_drew)); exact HO452.out))) (Kd.R_lt (by (with_reducible repeat (first | apply Kd.R_alloc | apply Kd.R_drewN | apply Kd.R_drew)); exact HO456.out))) (Kd.R_lt (by (with_reducible repeat (first | apply Kd.R_alloc | apply Kd.R_drewN | apply Kd.R_drew)); exact HO460.out))) (Kd.R_lt (by (with_reducible repeat (first | apply Kd.R_alloc | apply Kd.R_drewN | apply Kd.R_drew)); exact HO464.out))) (Kd.R_lt (by (with_reducible repeat (first | apply Kd.R_alloc | apply Kd.R_drewN | apply Kd.R_drew)); exact HO468.out))) (below_size (by repeat (first | (with_reducible first | exact HB.out | apply below_alloc | apply pw_below_drewN | apply below_drew1) | exact HB.out)))); have n6_ := Aside0.mk (below_step (by repeat (first | (with_reducible first | exact HB.out | apply below_alloc | apply pw_below_drewN | apply below_drew1) | exact HB.out)) hb); clear HO452; clear HO456; clear HO460; clear HO464; clear HO468; clear HB; have HO452 := n0_; have HO456 := n1_; have HO460 := n2_; have HO464 := n3_; have HO468 := n4_; have HO472 := n5_; have HB := n6_; clear n0_ n1_ n2_ n3_ n4_ n5_ n6_; (try clear hb); (try clear hb2); (try clear hk); (try clear hi); (try clear ho0); obtain ⟨Ao34, co34, eo34⟩ := Kd.R_slice HO472.out; subst eo34) | (go_at_call 20; (with_reducible refine (translit_Valid.calls _ _ t470 t473 _ ?side1 ?side2 ?side3 A17.out).mono ?_); (case side1 => repeat (first | exact (Kd.R_reads' HO472.out).2.2 | (with_reducible refine Kd.C_alloc ?_ _) | (with_reducible refine Kd.C_drewN ?_ _) | (with_reducible refine Kd.C_drew ?_))); (case side2 => exact (Kd.R_reads' HO472.out).2.1); (case side3 => exact GT1.below (HG.out.one) (by repeat (first | (with_reducible first | exact HB.out | apply below_alloc | apply pw_below_drewN | apply below_drew1) | exact HB.out))); rintro e w35 ⟨rfl, hb⟩; have n0_ := Aside0.mk (Kd.R_below (by (with_reducible repeat (first | apply Kd.R_alloc | apply Kd.R_drewN | apply Kd.R_drew)); exact HO452.out) hb); have n1_ := Aside0.mk (Kd.R_below (by (with_reducible repeat (first | apply Kd.R_alloc | apply Kd.R_drewN | apply Kd.R_drew)); exact HO456.out) hb); have n2_ := Aside0.mk (Kd.R_below (by (with_reducible repeat (first | apply Kd.R_alloc | apply Kd.R_drewN | apply Kd.R_drew)); exact HO460.out) hb); have n3_ := Aside0.mk (Kd.R_below (by (with_reducible repeat (first | apply Kd.R_alloc | apply Kd.R_drewN | apply Kd.R_drew)); exact HO464.out) hb); have n4_ := Aside0.mk (Kd.R_below (by (with_reducible repeat (first | apply Kd.R_alloc | apply Kd.R_drewN | apply Kd.R_drew)); exact HO468.out) hb); have n5_ := Aside0.mk (Kd.R_below (by (with_reducible repeat (first | apply Kd.R_alloc | apply Kd.R_drewN | apply Kd.R_drew)); exact HO472.out) hb); have n6_ := Aside0.mk (below_step (by repeat (first | (with_reducible first | exact HB.out | apply below_alloc | apply pw_below_drewN | apply below_drew1) | exact HB.out)) hb); clear HO452; clear HO456; clear HO460; clear HO464; clear HO468; clear HO472; clear HB; have HO452 := n0_; have HO456 := n1_; have HO460 := n2_; have HO464 := n3_; have HO468 := n4_; have HO472 := n5_; have HB := n6_; clear n0_ n1_ n2_ n3_ n4_ n5_ n6_; (try clear hb); (try clear hb2); (try clear hk); (try clear hi)))
            go_ret
            exact ⟨by first | rfl | (simp [errW_none, errW_some] <;> rfl) | (simp [*, errW_none, errW_some] <;> rfl), by repeat (first | (with_reducible first | exact HB.out | apply below_alloc | apply pw_below_drewN | apply below_drew1) | exact HB.out)⟩
          · replace c15 := Bool.eq_false_iff.mpr c15
            subst c15
            have H1 : (some false) = some r := by rw [if_neg (show ¬ (false = true) by decide)] at H; exact H
            clear H
            have H := H1
            clear H1
            obtain rfl := Option.some.inj H
            go_enter Tryd.func17, Tryd.ntmps17
            go_wp2_with (first | ((with_reducible refine gate_callee (f := 32) rfl ?_); refine goesL_ (some 1) rfl rfl Tryd.func32 (by kernel_rfl) rfl #[] rfl (by (try simp only [List.map_toArray, List.map_cons, List.map_nil]); first | done | rfl | (simp only [List.length_drop, List.length_take]; rfl)) ?_; (with_reducible refine (translit_Cyrillic.calls k  t450 _ ?side1 A1.out).mono ?_); (case side1 => exact GT2.below (HG.out) (by repeat (first | (with_reducible first | exact HB.out | apply below_alloc | apply pw_below_drewN | apply below_drew1) | exact HB.out))); rintro e w36 ⟨v451, rfl, ho0, hb⟩; refine ⟨_, rfl, ?_⟩; have n0_ := Aside0.mk (Kd.R_lower ho0 (below_size (by repeat (first | (with_reducible first | exact HB.out | apply below_alloc | apply pw_below_drewN | apply below_drew1) | exact HB.out)))); have n1_ := Aside0.mk (below_step (by repeat (first | (with_reducible first | exact HB.out | apply below_alloc | apply pw_below_drewN | apply below_drew1) | exact HB.out)) hb); clear HB; have HO452 := n0_; have HB := n1_; clear n0_ n1_; (try clear hb); (try clear hb2); (try clear hk); (try clear hi); (try clear ho0); obtain ⟨Ao37, co37, eo37⟩ := Kd.R_slice HO452.out; subst eo37) | ((with_reducible refine gate_callee (f := 24) rfl ?_); refine goesL_ (some 2) rfl rfl Tryd.func24 (by kernel_rfl) rfl #[.slice Ao37 t450.length co37, .string (⟨#[208, 162, 208, 190, 208, 187, 209, 129, 209, 130, 208, 190, 208, 185]⟩ : ByteArray)] rfl (by (try simp only [List.map_toArray, List.map_cons, List.map_nil]); first | done | rfl | (simp only [List.length_drop, List.length_take]; rfl)) ?_; (with_reducible refine (translit_To.calls k _ _ t450 (⟨#[208, 162, 208, 190, 208, 187, 209, 129, 209, 130, 208, 190, 208, 185]⟩ : ByteArray) t453 _ ?side1 ?side2 ?side3 A2.out).mono ?_); (case side1 => repeat (first | exact (Kd.R_reads' HO452.out).2.2 | (with_reducible refine Kd.C_alloc ?_ _) | (with_reducible refine Kd.C_drewN ?_ _) | (with_reducible refine Kd.C_drew ?_))); (case side2 => exact (Kd.R_reads' HO452.out).2.1); (case side3 => exact GT1.below (HG.out.one) (by repeat (first | (with_reducible first | exact HB.out | apply below_alloc | apply pw_below_drewN | apply below_drew1) | exact HB.out))); rintro e w38 ⟨rfl, hb⟩; refine ⟨_, rfl, ?_⟩; have n0_ := Aside0.mk (Kd.R_below (by (with_reducible repeat (first | apply Kd.R_alloc | apply Kd.R_drewN | apply Kd.R_drew)); exact HO452.out) hb); have n1_ := Aside0.mk (below_step (by repeat (first | (with_reducible first | exact HB.out | apply below_alloc | apply pw_below_drewN | apply below_drew1) | exact HB.out)) hb); clear HO452; clear HB; have HO452 := n0_; have HB := n1_; clear n0_ n1_; (try clear hb); (try clear hb2); (try clear hk); (try clear hi)) | (go_at_call 33; (fail_if_success (have := HO456)); (with_reducible refine (translit_Greek.calls k  t454 _ ?side1 A4.out).mono ?_); (case side1 => exact GT2.below (HG.out) (by repeat (first | (with_reducible first | exact HB.out | apply below_alloc | apply pw_below_drewN | apply below_drew1) | exact HB.out))); rintro e w39 ⟨v455, rfl, ho0, hb⟩; have n0_ := Aside0.mk (Kd.R_elder' (by (with_reducible repeat (first | apply Kd.R_alloc | apply Kd.R_drewN | apply Kd.R_drew)); exact HO452.out) (Kd.R_base ho0) hb); have n1_ := Aside0.mk (Kd.R_lower (Kd.R_new' ho0 (Kd.R_lt (by (with_reducible repeat (first | apply Kd.R_alloc | apply Kd.R_drewN | apply Kd.R_drew)); exact HO452.out))) (below_size (by repeat (first | (with_reducible first | exact HB.out | apply below_alloc | apply pw_below_drewN | apply below_drew1) | exact HB.out)))); have n2_ := Aside0.mk (below_step (by repeat (first | (with_reducible first | exact HB.out | apply below_alloc | apply pw_below_drewN | apply below_drew1) | exact HB.out)) hb); clear HO452; clear HB; have HO452 := n0_; have HO456 := n1_; have HB := n2_; clear n0_ n1_ n2_; (try clear hb); (try clear hb2); (try clear hk); (try clear hi); (try clear ho0); obtain ⟨Ao40, co40, eo40⟩ := Kd.R_slice HO456.out; subst eo40) | (go_at_call 24; (with_reducible refine (translit_To.calls k _ _ t454 (⟨#[206, 191, 207, 133, 207, 129, 206, 177, 206, 189, 206, 191, 207, 130]⟩ : ByteArray) t457 _ ?side1 ?side2 ?side3 A5.out).mono ?_); (case side1 => repeat (first | exact (Kd.R_reads' HO456.out).2.2 | (with_reducible refine Kd.C_alloc ?_ _) | (with_reducible refine Kd.C_drewN ?_ _) | (with_reducible refine Kd.C_drew ?_))); (case side2 => exact (Kd.R_reads' HO456.out).2.1); (case side3 => exact GT1.below (HG.out.one) (by repeat (first | (with_reducible first | exact HB.out | apply below_alloc | apply pw_below_drewN | apply below_drew1) | exact HB.out))); rintro e w41 ⟨rfl, hb⟩; have n0_ := Aside0.mk (Kd.R_below (by (with_reducible repeat (first | apply Kd.R_alloc | apply Kd.R_drewN | apply Kd.R_drew)); exact HO452.out) hb); have n1_ := Aside0.mk (Kd.R_below (by (with_reducible repeat (first | apply Kd.R_alloc | apply Kd.R_drewN | apply Kd.R_drew)); exact HO456.out) hb); have n2_ := Aside0.mk (below_step (by repeat (first | (with_reducible first | exact HB.out | apply below_alloc | apply pw_below_drewN | apply below_drew1) | exact HB.out)) hb); clear HO452; clear HO456; clear HB; have HO452 := n0_; have HO456 := n1_; have HB := n2_; clear n0_ n1_ n2_; (try clear hb); (try clear hb2); (try clear hk); (try clear hi)) | (go_at_call 32; (fail_if_success (have := HO460)); (with_reducible refine (translit_Cyrillic.calls k  t458 _ ?side1 A7.out).mono ?_); (case side1 => exact GT2.below (HG.out) (by repeat (first | (with_reducible first | exact HB.out | apply below_alloc | apply pw_below_drewN | apply below_drew1) | exact HB.out))); rintro e w42 ⟨v459, rfl, ho0, hb⟩; have n0_ := Aside0.mk (Kd.R_elder' (by (with_reducible repeat (first | apply Kd.R_alloc | apply Kd.R_drewN | apply Kd.R_drew)); exact HO452.out) (Kd.R_base ho0) hb); have n1_ := Aside0.mk (Kd.R_elder' (by (with_reducible repeat (first | apply Kd.R_alloc | apply Kd.R_drewN | apply Kd.R_drew)); exact HO456.out) (Kd.R_base ho0) hb); have n2_ := Aside0.mk (Kd.R_lower (Kd.R_new' (Kd.R_new' ho0 (Kd.R_lt (by (with_reducible repeat (first | apply Kd.R_alloc | apply Kd.R_drewN | apply Kd.R_drew)); exact HO452.out))) (Kd.R_lt (by (with_reducible repeat (first | apply Kd.R_alloc | apply Kd.R_drewN | apply Kd.R_drew)); exact HO456.out))) (below_size (by repeat (first | (with_reducible first | exact HB.out | apply below_alloc | apply pw_below_drewN | apply below_drew1) | exact HB.out)))); have n3_ := Aside0.mk (below_step (by repeat (first | (with_reducible first | exact HB.out | apply below_alloc | apply pw_below_drewN | apply below_drew1) | exact HB.out)) hb); clear HO452; clear HO456; clear HB; have HO452 := n0_; have HO456 := n1_; have HO460 := n2_; have HB := n3_; clear n0_ n1_ n2_ n3_; (try clear hb); (try clear hb2); (try clear hk); (try clear hi); (try clear ho0); obtain ⟨Ao43, co43, eo43⟩ := Kd.R_slice HO460.out; subst eo43) | (go_at_call 22; (with_reducible refine (translit_Reversible.calls k _ _ t458 true _ ?side1 ?side2 ?side3 A8.out).mono ?_); (case side1 => repeat (first | exact (Kd.R_reads' HO460.out).2.2 | (with_reducible refine Kd.C_alloc ?_ _) | (with_reducible refine Kd.C_drewN ?_ _) | (with_reducible refine Kd.C_drew ?_))); (case side2 => exact (Kd.R_reads' HO460.out).2.1); (case side3 => exact GT1.below (HG.out.one) (by repeat (first | (with_reducible first | exact HB.out | apply below_alloc | apply pw_below_drewN | apply below_drew1) | exact HB.out))); rintro e w44 ⟨rfl, hb⟩; have n0_ := Aside0.mk (Kd.R_below (by (with_reducible repeat (first | apply Kd.R_alloc | apply Kd.R_drewN | apply Kd.R_drew)); exact HO452.out) hb); have n1_ := Aside0.mk (Kd.R_below (by (with_reducible repeat (first | apply Kd.R_alloc | apply Kd.R_drewN | apply Kd.R_drew)); exact HO456.out) hb); have n2_ := Aside0.mk (Kd.R_below (by (with_reducible repeat (first | apply Kd.R_alloc | apply Kd.R_drewN | apply Kd.R_drew)); exact HO460.out) hb); have n3_ := Aside0.mk (below_step (by repeat (first | (with_reducible first | exact HB.out | apply below_alloc | apply pw_below_drewN | apply below_drew1) | exact HB.out)) hb); clear HO452; clear HO456; clear HO460; clear HB; have HO452 := n0_; have HO456 := n1_; have HO460 := n2_; have HB := n3_; clear n0_ n1_ n2_ n3_; (try clear hb); (try clear hb2); (try clear hk); (try clear hi)) | (go_at_call 32; (fail_if_success (have := HO464)); (with_reducible refine (translit_Cyrillic.calls k  t462 _ ?side1 A10.out).mono ?_); (case side1 => exact GT2.below (HG.out) (by repeat (first | (with_reducible first | exact HB.out | apply below_alloc | apply pw_below_drewN | apply below_drew1) | exact HB.out))); rintro e w45 ⟨v463, rfl, ho0, hb⟩; have n0_ := Aside0.mk (Kd.R_elder' (by (with_reducible repeat (first | apply Kd.R_alloc | apply Kd.R_drewN | apply Kd.R_drew)); exact HO452.out) (Kd.R_base ho0) hb); have n1_ := Aside0.mk (Kd.R_elder' (by (with_reducible repeat (first | apply Kd.R_alloc | apply Kd.R_drewN | apply Kd.R_drew)); exact HO456.out) (Kd.R_base ho0) hb); have n2_ := Aside0.mk (Kd.R_elder' (by (with_reducible repeat (first | apply Kd.R_alloc | apply Kd.R_drewN | apply Kd.R_drew)); exact HO460.out) (Kd.R_base ho0) hb); have n3_ := Aside0.mk (Kd.R_lower (Kd.R_new' (Kd.R_new' (Kd.R_new' ho0 (Kd.R_lt (by (with_reducible repeat (first | apply Kd.R_alloc | apply Kd.R_drewN | apply Kd.R_drew)); exact HO452.out))) (Kd.R_lt (by (with_reducible repeat (first | apply Kd.R_alloc | apply Kd.R_drewN | apply Kd.R_drew)); exact HO456.out))) (Kd.R_lt (by (with_reducible repeat (first | apply Kd.R_alloc | apply Kd.R_drewN | apply Kd.R_drew)); exact HO460.out))) (below_size (by repeat (first | (with_reducible first | exact HB.out | apply below_alloc | apply pw_below_drewN | apply below_drew1) | exact HB.out)))); have n4_ := Aside0.mk (below_step (by repeat (first | (with_reducible first | exact HB.out | apply below_alloc | apply pw_below_drewN | apply below_drew1) | exact HB.out)) hb); clear HO452; clear HO456; clear HO460; clear HB; have HO452 := n0_; have HO456 := n1_; have HO460 := n2_; have HO464 := n3_; have HB := n4_; clear n0_ n1_ n2_ n3_ n4_; (try clear hb); (try clear hb2); (try clear hk); (try clear hi); (try clear ho0); obtain ⟨Ao46, co46, eo46⟩ := Kd.R_slice HO464.out; subst eo46) | (go_at_call 26; (with_reducible refine (translit_Back.calls k _ _ t462 (⟨#[84, 111, 108, 115, 116, 111, 106]⟩ : ByteArray) t465 _ ?side1 ?side2 ?side3 A11.out).mono ?_); (case side1 => repeat (first | exact (Kd.R_reads' HO464.out).2.2 | (with_reducible refine Kd.C_alloc ?_ _) | (with_reducible refine Kd.C_drewN ?_ _) | (with_reducible refine Kd.C_drew ?_))); (case side2 => exact (Kd.R_reads' HO464.out).2.1); (case side3 => exact GT1.below (HG.out.one) (by repeat (first | (with_reducible first | exact HB.out | apply below_alloc | apply pw_below_drewN | apply below_drew1) | exact HB.out))); rintro e w47 ⟨rfl, hb⟩; have n0_ := Aside0.mk (Kd.R_below (by (with_reducible repeat (first | apply Kd.R_alloc | apply Kd.R_drewN | apply Kd.R_drew)); exact HO452.out) hb); have n1_ := Aside0.mk (Kd.R_below (by (with_reducible repeat (first | apply Kd.R_alloc | apply Kd.R_drewN | apply Kd.R_drew)); exact HO456.out) hb); have n2_ := Aside0.mk (Kd.R_below (by (with_reducible repeat (first | apply Kd.R_alloc | apply Kd.R_drewN | apply Kd.R_drew)); exact HO460.out) hb); have n3_ := Aside0.mk (Kd.R_below (by (with_reducible repeat (first | apply Kd.R_alloc | apply Kd.R_drewN | apply Kd.R_drew)); exact HO464.out) hb); have n4_ := Aside0.mk (below_step (by repeat (first | (with_reducible first | exact HB.out | apply below_alloc | apply pw_below_drewN | apply below_drew1) | exact HB.out)) hb); clear HO452; clear HO456; clear HO460; clear HO464; clear HB; have HO452 := n0_; have HO456 := n1_; have HO460 := n2_; have HO464 := n3_; have HB := n4_; clear n0_ n1_ n2_ n3_ n4_; (try clear hb); (try clear hb2); (try clear hk); (try clear hi)) | (go_at_call 33; (fail_if_success (have := HO468)); (with_reducible refine (translit_Greek.calls k  t466 _ ?side1 A13.out).mono ?_); (case side1 => exact GT2.below (HG.out) (by repeat (first | (with_reducible first | exact HB.out | apply below_alloc | apply pw_below_drewN | apply below_drew1) | exact HB.out))); rintro e w48 ⟨v467, rfl, ho0, hb⟩; have n0_ := Aside0.mk (Kd.R_elder' (by (with_reducible repeat (first | apply Kd.R_alloc | apply Kd.R_drewN | apply Kd.R_drew)); exact HO452.out) (Kd.R_base ho0) hb); have n1_ := Aside0.mk (Kd.R_elder' (by (with_reducible repeat (first | apply Kd.R_alloc | apply Kd.R_drewN | apply Kd.R_drew)); exact HO456.out) (Kd.R_base ho0) hb); have n2_ := Aside0.mk (Kd.R_elder' (by (with_reducible repeat (first | apply Kd.R_alloc | apply Kd.R_drewN | apply Kd.R_drew)); exact HO460.out) (Kd.R_base ho0) hb); have n3_ := Aside0.mk (Kd.R_elder' (by (with_reducible repeat (first | apply Kd.R_alloc | apply Kd.R_drewN | apply Kd.R_drew)); exact HO464.out) (Kd.R_base ho0) hb); have n4_ := Aside0.mk (Kd.R_lower (Kd.R_new' (Kd.R_new' (Kd.R_new' (Kd.R_new' ho0 (Kd.R_lt (by (with_reducible repeat (first | apply Kd.R_alloc | apply Kd.R_drewN | apply Kd.R_drew)); exact HO452.out))) (Kd.R_lt (by (with_reducible repeat (first | apply Kd.R_alloc | apply Kd.R_drewN | apply Kd.R_drew)); exact HO456.out))) (Kd.R_lt (by (with_reducible repeat (first | apply Kd.R_alloc | apply Kd.R_drewN | apply Kd.R_drew)); exact HO460.out))) (Kd.R_lt (by (with_reducible repeat (first | apply Kd.R_alloc | apply Kd.R_drewN | apply Kd.R_drew)); exact HO464.out))) (below_size (by repeat (first | (with_reducible first | exact HB.out | apply below_alloc | apply pw_below_drewN | apply below_drew1) | exact HB.out)))); have n5_ := Aside0.mk (below_step (by repeat (first | (with_reducible first | exact HB.out | apply below_alloc | apply pw_below_drewN | apply below_drew1) | exact HB.out)) hb); clear HO452; clear HO456; clear HO460; clear HO464; clear HB; have HO452 := n0_; have HO456 := n1_; have HO460 := n2_; have HO464 := n3_; have HO468 := n4_; have HB := n5_; clear n0_ n1_ n2_ n3_ n4_ n5_; (try clear hb); (try clear hb2); (try clear hk); (try clear hi); (try clear ho0); obtain ⟨Ao49, co49, eo49⟩ := Kd.R_slice HO468.out; subst eo49) | (go_at_call 28; (with_reducible refine (translit_Covers.calls k _ _ t466 (⟨#[206, 191, 207, 133]⟩ : ByteArray) false _ ?side1 ?side2 ?side3 A14.out).mono ?_); (case side1 => repeat (first | exact (Kd.R_reads' HO468.out).2.2 | (with_reducible refine Kd.C_alloc ?_ _) | (with_reducible refine Kd.C_drewN ?_ _) | (with_reducible refine Kd.C_drew ?_))); (case side2 => exact (Kd.R_reads' HO468.out).2.1); (case side3 => exact GT1.below (HG.out.one) (by repeat (first | (with_reducible first | exact HB.out | apply below_alloc | apply pw_below_drewN | apply below_drew1) | exact HB.out))); rintro e w50 ⟨rfl, hb⟩; have n0_ := Aside0.mk (Kd.R_below (by (with_reducible repeat (first | apply Kd.R_alloc | apply Kd.R_drewN | apply Kd.R_drew)); exact HO452.out) hb); have n1_ := Aside0.mk (Kd.R_below (by (with_reducible repeat (first | apply Kd.R_alloc | apply Kd.R_drewN | apply Kd.R_drew)); exact HO456.out) hb); have n2_ := Aside0.mk (Kd.R_below (by (with_reducible repeat (first | apply Kd.R_alloc | apply Kd.R_drewN | apply Kd.R_drew)); exact HO460.out) hb); have n3_ := Aside0.mk (Kd.R_below (by (with_reducible repeat (first | apply Kd.R_alloc | apply Kd.R_drewN | apply Kd.R_drew)); exact HO464.out) hb); have n4_ := Aside0.mk (Kd.R_below (by (with_reducible repeat (first | apply Kd.R_alloc | apply Kd.R_drewN | apply Kd.R_drew)); exact HO468.out) hb); have n5_ := Aside0.mk (below_step (by repeat (first | (with_reducible first | exact HB.out | apply below_alloc | apply pw_below_drewN | apply below_drew1) | exact HB.out)) hb); clear HO452; clear HO456; clear HO460; clear HO464; clear HO468; clear HB; have HO452 := n0_; have HO456 := n1_; have HO460 := n2_; have HO464 := n3_; have HO468 := n4_; have HB := n5_; clear n0_ n1_ n2_ n3_ n4_ n5_; (try clear hb); (try clear hb2); (try clear hk); (try clear hi)))
            go_ret
            exact ⟨by first | rfl | (simp [errW_none, errW_some] <;> rfl) | (simp [*, errW_none, errW_some] <;> rfl), by repeat (first | (with_reducible first | exact HB.out | apply below_alloc | apply pw_below_drewN | apply below_drew1) | exact HB.out)⟩
        · rw [if_neg c12] at H
          have c12b0 : (t465.toList == ([208, 162, 208, 190, 208, 187, 209, 129, 209, 130, 208, 190, 208, 185] : List UInt8)) = false := beq_eq_false_iff_ne.mpr c12
          have c12b1 : (t465.toList != ([208, 162, 208, 190, 208, 187, 209, 129, 209, 130, 208, 190, 208, 185] : List UInt8)) = true := bne_iff_ne.mpr c12
          obtain rfl := Option.some.inj H
          go_enter Tryd.func17, Tryd.ntmps17
          go_wp2_with (first | ((with_reducible refine gate_callee (f := 32) rfl ?_); refine goesL_ (some 1) rfl rfl Tryd.func32 (by kernel_rfl) rfl #[] rfl (by (try simp only [List.map_toArray, List.map_cons, List.map_nil]); first | done | rfl | (simp only [List.length_drop, List.length_take]; rfl)) ?_; (with_reducible refine (translit_Cyrillic.calls k  t450 _ ?side1 A1.out).mono ?_); (case side1 => exact GT2.below (HG.out) (by repeat (first | (with_reducible first | exact HB.out | apply below_alloc | apply pw_below_drewN | apply below_drew1) | exact HB.out))); rintro e w51 ⟨v451, rfl, ho0, hb⟩; refine ⟨_, rfl, ?_⟩; have n0_ := Aside0.mk (Kd.R_lower ho0 (below_size (by repeat (first | (with_reducible first | exact HB.out | apply below_alloc | apply pw_below_drewN | apply below_drew1) | exact HB.out)))); have n1_ := Aside0.mk (below_step (by repeat (first | (with_reducible first | exact HB.out | apply below_alloc | apply pw_below_drewN | apply below_drew1) | exact HB.out)) hb); clear HB; have HO452 := n0_; have HB := n1_; clear n0_ n1_; (try clear hb); (try clear hb2); (try clear hk); (try clear hi); (try clear ho0); obtain ⟨Ao52, co52, eo52⟩ := Kd.R_slice HO452.out; subst eo52) | ((with_reducible refine gate_callee (f := 24) rfl ?_); refine goesL_ (some 2) rfl rfl Tryd.func24 (by kernel_rfl) rfl #[.slice Ao52 t450.length co52, .string (⟨#[208, 162, 208, 190, 208, 187, 209, 129, 209, 130, 208, 190, 208, 185]⟩ : ByteArray)] rfl (by (try simp only [List.map_toArray, List.map_cons, List.map_nil]); first | done | rfl | (simp only [List.length_drop, List.length_take]; rfl)) ?_; (with_reducible refine (translit_To.calls k _ _ t450 (⟨#[208, 162, 208, 190, 208, 187, 209, 129, 209, 130, 208, 190, 208, 185]⟩ : ByteArray) t453 _ ?side1 ?side2 ?side3 A2.out).mono ?_); (case side1 => repeat (first | exact (Kd.R_reads' HO452.out).2.2 | (with_reducible refine Kd.C_alloc ?_ _) | (with_reducible refine Kd.C_drewN ?_ _) | (with_reducible refine Kd.C_drew ?_))); (case side2 => exact (Kd.R_reads' HO452.out).2.1); (case side3 => exact GT1.below (HG.out.one) (by repeat (first | (with_reducible first | exact HB.out | apply below_alloc | apply pw_below_drewN | apply below_drew1) | exact HB.out))); rintro e w53 ⟨rfl, hb⟩; refine ⟨_, rfl, ?_⟩; have n0_ := Aside0.mk (Kd.R_below (by (with_reducible repeat (first | apply Kd.R_alloc | apply Kd.R_drewN | apply Kd.R_drew)); exact HO452.out) hb); have n1_ := Aside0.mk (below_step (by repeat (first | (with_reducible first | exact HB.out | apply below_alloc | apply pw_below_drewN | apply below_drew1) | exact HB.out)) hb); clear HO452; clear HB; have HO452 := n0_; have HB := n1_; clear n0_ n1_; (try clear hb); (try clear hb2); (try clear hk); (try clear hi)) | (go_at_call 33; (with_reducible refine (translit_Greek.calls k  t454 _ ?side1 A4.out).mono ?_); (case side1 => exact GT2.below (HG.out) (by repeat (first | (with_reducible first | exact HB.out | apply below_alloc | apply pw_below_drewN | apply below_drew1) | exact HB.out))); rintro e w54 ⟨v455, rfl, ho0, hb⟩; have n0_ := Aside0.mk (Kd.R_elder' (by (with_reducible repeat (first | apply Kd.R_alloc | apply Kd.R_drewN | apply Kd.R_drew)); exact HO452.out) (Kd.R_base ho0) hb); have n1_ := Aside0.mk (Kd.R_lower (Kd.R_new' ho0 (Kd.R_lt (by (with_reducible repeat (first | apply Kd.R_alloc | apply Kd.R_drewN | apply Kd.R_drew)); exact HO452.out))) (below_size (by repeat (first | (with_reducible first | exact HB.out | apply below_alloc | apply pw_below_drewN | apply below_drew1) | exact HB.out)))); have n2_ := Aside0.mk (below_step (by repeat (first | (with_reducible first | exact HB.out | apply below_alloc | apply pw_below_drewN | apply below_drew1) | exact HB.out)) hb); clear HO452; clear HB; have HO452 := n0_; have HO456 := n1_; have HB := n2_; clear n0_ n1_ n2_; (try clear hb); (try clear hb2); (try clear hk); (try clear hi); (try clear ho0); obtain ⟨Ao55, co55, eo55⟩ := Kd.R_slice HO456.out; subst eo55) | (go_at_call 24; (with_reducible refine (translit_To.calls k _ _ t454 (⟨#[206, 191, 207, 133, 207, 129, 206, 177, 206, 189, 206, 191, 207, 130]⟩ : ByteArray) t457 _ ?side1 ?side2 ?side3 A5.out).mono ?_); (case side1 => repeat (first | exact (Kd.R_reads' HO456.out).2.2 | (with_reducible refine Kd.C_alloc ?_ _) | (with_reducible refine Kd.C_drewN ?_ _) | (with_reducible refine Kd.C_drew ?_))); (case side2 => exact (Kd.R_reads' HO456.out).2.1); (case side3 => exact GT1.below (HG.out.one) (by repeat (first | (with_reducible first | exact HB.out | apply below_alloc | apply pw_below_drewN | apply below_drew1) | exact HB.out))); rintro e w56 ⟨rfl, hb⟩; have n0_ := Aside0.mk (Kd.R_below (by (with_reducible repeat (first | apply Kd.R_alloc | apply Kd.R_drewN | apply Kd.R_drew)); exact HO452.out) hb); have n1_ := Aside0.mk (Kd.R_below (by (with_reducible repeat (first | apply Kd.R_alloc | apply Kd.R_drewN | apply Kd.R_drew)); exact HO456.out) hb); have n2_ := Aside0.mk (below_step (by repeat (first | (with_reducible first | exact HB.out | apply below_alloc | apply pw_below_drewN | apply below_drew1) | exact HB.out)) hb); clear HO452; clear HO456; clear HB; have HO452 := n0_; have HO456 := n1_; have HB := n2_; clear n0_ n1_ n2_; (try clear hb); (try clear hb2); (try clear hk); (try clear hi)) | (go_at_call 32; (fail_if_success (have := HO460)); (with_reducible refine (translit_Cyrillic.calls k  t458 _ ?side1 A7.out).mono ?_); (case side1 => exact GT2.below (HG.out) (by repeat (first | (with_reducible first | exact HB.out | apply below_alloc | apply pw_below_drewN | apply below_drew1) | exact HB.out))); rintro e w57 ⟨v459, rfl, ho0, hb⟩; have n0_ := Aside0.mk (Kd.R_elder' (by (with_reducible repeat (first | apply Kd.R_alloc | apply Kd.R_drewN | apply Kd.R_drew)); exact HO452.out) (Kd.R_base ho0) hb); have n1_ := Aside0.mk (Kd.R_elder' (by (with_reducible repeat (first | apply Kd.R_alloc | apply Kd.R_drewN | apply Kd.R_drew)); exact HO456.out) (Kd.R_base ho0) hb); have n2_ := Aside0.mk (Kd.R_lower (Kd.R_new' (Kd.R_new' ho0 (Kd.R_lt (by (with_reducible repeat (first | apply Kd.R_alloc | apply Kd.R_drewN | apply Kd.R_drew)); exact HO452.out))) (Kd.R_lt (by (with_reducible repeat (first | apply Kd.R_alloc | apply Kd.R_drewN | apply Kd.R_drew)); exact HO456.out))) (below_size (by repeat (first | (with_reducible first | exact HB.out | apply below_alloc | apply pw_below_drewN | apply below_drew1) | exact HB.out)))); have n3_ := Aside0.mk (below_step (by repeat (first | (with_reducible first | exact HB.out | apply below_alloc | apply pw_below_drewN | apply below_drew1) | exact HB.out)) hb); clear HO452; clear HO456; clear HB; have HO452 := n0_; have HO456 := n1_; have HO460 := n2_; have HB := n3_; clear n0_ n1_ n2_ n3_; (try clear hb); (try clear hb2); (try clear hk); (try clear hi); (try clear ho0); obtain ⟨Ao58, co58, eo58⟩ := Kd.R_slice HO460.out; subst eo58) | (go_at_call 22; (with_reducible refine (translit_Reversible.calls k _ _ t458 true _ ?side1 ?side2 ?side3 A8.out).mono ?_); (case side1 => repeat (first | exact (Kd.R_reads' HO460.out).2.2 | (with_reducible refine Kd.C_alloc ?_ _) | (with_reducible refine Kd.C_drewN ?_ _) | (with_reducible refine Kd.C_drew ?_))); (case side2 => exact (Kd.R_reads' HO460.out).2.1); (case side3 => exact GT1.below (HG.out.one) (by repeat (first | (with_reducible first | exact HB.out | apply below_alloc | apply pw_below_drewN | apply below_drew1) | exact HB.out))); rintro e w59 ⟨rfl, hb⟩; have n0_ := Aside0.mk (Kd.R_below (by (with_reducible repeat (first | apply Kd.R_alloc | apply Kd.R_drewN | apply Kd.R_drew)); exact HO452.out) hb); have n1_ := Aside0.mk (Kd.R_below (by (with_reducible repeat (first | apply Kd.R_alloc | apply Kd.R_drewN | apply Kd.R_drew)); exact HO456.out) hb); have n2_ := Aside0.mk (Kd.R_below (by (with_reducible repeat (first | apply Kd.R_alloc | apply Kd.R_drewN | apply Kd.R_drew)); exact HO460.out) hb); have n3_ := Aside0.mk (below_step (by repeat (first | (with_reducible first | exact HB.out | apply below_alloc | apply pw_below_drewN | apply below_drew1) | exact HB.out)) hb); clear HO452; clear HO456; clear HO460; clear HB; have HO452 := n0_; have HO456 := n1_; have HO460 := n2_; have HB := n3_; clear n0_ n1_ n2_ n3_; (try clear hb); (try clear hb2); (try clear hk); (try clear hi)) | (go_at_call 32; (fail_if_success (have := HO464)); (with_reducible refine (translit_Cyrillic.calls k  t462 _ ?side1 A10.out).mono ?_); (case side1 => exact GT2.below (HG.out) (by repeat (first | (with_reducible first | exact HB.out | apply below_alloc | apply pw_below_drewN | apply below_drew1) | exact HB.out))); rintro e w60 ⟨v463, rfl, ho0, hb⟩; have n0_ := Aside0.mk (Kd.R_elder' (by (with_reducible repeat (first | apply Kd.R_alloc | apply Kd.R_drewN | apply Kd.R_drew)); exact HO452.out) (Kd.R_base ho0) hb); have n1_ := Aside0.mk (Kd.R_elder' (by (with_reducible repeat (first | apply Kd.R_alloc | apply Kd.R_drewN | apply Kd.R_drew)); exact HO456.out) (Kd.R_base ho0) hb); have n2_ := Aside0.mk (Kd.R_elder' (by (with_reducible repeat (first | apply Kd.R_alloc | apply Kd.R_drewN | apply Kd.R_drew)); exact HO460.out) (Kd.R_base ho0) hb); have n3_ := Aside0.mk (Kd.R_lower (Kd.R_new' (Kd.R_new' (Kd.R_new' ho0 (Kd.R_lt (by (with_reducible repeat (first | apply Kd.R_alloc | apply Kd.R_drewN | apply Kd.R_drew)); exact HO452.out))) (Kd.R_lt (by (with_reducible repeat (first | apply Kd.R_alloc | apply Kd.R_drewN | apply Kd.R_drew)); exact HO456.out))) (Kd.R_lt (by (with_reducible repeat (first | apply Kd.R_alloc | apply Kd.R_drewN | apply Kd.R_drew)); exact HO460.out))) (below_size (by repeat (first | (with_reducible first | exact HB.out | apply below_alloc | apply pw_below_drewN | apply below_drew1) | exact HB.out)))); have n4_ := Aside0.mk (below_step (by repeat (first | (with_reducible first | exact HB.out | apply below_alloc | apply pw_below_drewN | apply below_drew1) | exact HB.out)) hb); clear HO452; clear HO456; clear HO460; clear HB; have HO452 := n0_; have HO456 := n1_; have HO460 := n2_; have HO464 := n3_; have HB := n4_; clear n0_ n1_ n2_ n3_ n4_; (try clear hb); (try clear hb2); (try clear hk); (try clear hi); (try clear ho0); obtain ⟨Ao61, co61, eo61⟩ := Kd.R_slice HO464.out; subst eo61) | (go_at_call 26; (with_reducible refine (translit_Back.calls k _ _ t462 (⟨#[84, 111, 108, 115, 116, 111, 106]⟩ : ByteArray) t465 _ ?side1 ?side2 ?side3 A11.out).mono ?_); (case side1 => repeat (first | exact (Kd.R_reads' HO464.out).2.2 | (with_reducible refine Kd.C_alloc ?_ _) | (with_reducible refine Kd.C_drewN ?_ _) | (with_reducible refine Kd.C_drew ?_))); (case side2 => exact (Kd.R_reads' HO464.out).2.1); (case side3 => exact GT1.below (HG.out.one) (by repeat (first | (with_reducible first | exact HB.out | apply below_alloc | apply pw_below_drewN | apply below_drew1) | exact HB.out))); rintro e w62 ⟨rfl, hb⟩; have n0_ := Aside0.mk (Kd.R_below (by (with_reducible repeat (first | apply Kd.R_alloc | apply Kd.R_drewN | apply Kd.R_drew)); exact HO452.out) hb); have n1_ := Aside0.mk (Kd.R_below (by (with_reducible repeat (first | apply Kd.R_alloc | apply Kd.R_drewN | apply Kd.R_drew)); exact HO456.out) hb); have n2_ := Aside0.mk (Kd.R_below (by (with_reducible repeat (first | apply Kd.R_alloc | apply Kd.R_drewN | apply Kd.R_drew)); exact HO460.out) hb); have n3_ := Aside0.mk (Kd.R_below (by (with_reducible repeat (first | apply Kd.R_alloc | apply Kd.R_drewN | apply Kd.R_drew)); exact HO464.out) hb); have n4_ := Aside0.mk (below_step (by repeat (first | (with_reducible first | exact HB.out | apply below_alloc | apply pw_below_drewN | apply below_drew1) | exact HB.out)) hb); clear HO452; clear HO456; clear HO460; clear HO464; clear HB; have HO452 := n0_; have HO456 := n1_; have HO460 := n2_; have HO464 := n3_; have HB := n4_; clear n0_ n1_ n2_ n3_ n4_; (try clear hb); (try clear hb2); (try clear hk); (try clear hi)))
          go_ret
          exact ⟨by first | rfl | (simp [errW_none, errW_some] <;> rfl) | (simp [*, errW_none, errW_some] <;> rfl), by repeat (first | (with_reducible first | exact HB.out | apply below_alloc | apply pw_below_drewN | apply below_drew1) | exact HB.out)⟩
      · replace c9 := Bool.eq_false_iff.mpr c9
        subst c9
        have H1 : (some false) = some r := by rw [if_neg (show ¬ (false = true) by decide)] at H; exact H
        clear H
        have H := H1
        clear H1
        obtain rfl := Option.some.inj H
        go_enter Tryd.func17, Tryd.ntmps17
        go_wp2_with (first | ((with_reducible refine gate_callee (f := 32) rfl ?_); refine goesL_ (some 1) rfl rfl Tryd.func32 (by kernel_rfl) rfl #[] rfl (by (try simp only [List.map_toArray, List.map_cons, List.map_nil]); first | done | rfl | (simp only [List.length_drop, List.length_take]; rfl)) ?_; (with_reducible refine (translit_Cyrillic.calls k  t450 _ ?side1 A1.out).mono ?_); (case side1 => exact GT2.below (HG.out) (by repeat (first | (with_reducible first | exact HB.out | apply below_alloc | apply pw_below_drewN | apply below_drew1) | exact HB.out))); rintro e w63 ⟨v451, rfl, ho0, hb⟩; refine ⟨_, rfl, ?_⟩; have n0_ := Aside0.mk (Kd.R_lower ho0 (below_size (by repeat (first | (with_reducible first | exact HB.out | apply below_alloc | apply pw_below_drewN | apply below_drew1) | exact HB.out)))); have n1_ := Aside0.mk (below_step (by repeat (first | (with_reducible first | exact HB.out | apply below_alloc | apply pw_below_drewN | apply below_drew1) | exact HB.out)) hb); clear HB; have HO452 := n0_; have HB := n1_; clear n0_ n1_; (try clear hb); (try clear hb2); (try clear hk); (try clear hi); (try clear ho0); obtain ⟨Ao64, co64, eo64⟩ := Kd.R_slice HO452.out; subst eo64) | ((with_reducible refine gate_callee (f := 24) rfl ?_); refine goesL_ (some 2) rfl rfl Tryd.func24 (by kernel_rfl) rfl #[.slice Ao64 t450.length co64, .string (⟨#[208, 162, 208, 190, 208, 187, 209, 129, 209, 130, 208, 190, 208, 185]⟩ : ByteArray)] rfl (by (try simp only [List.map_toArray, List.map_cons, List.map_nil]); first | done | rfl | (simp only [List.length_drop, List.length_take]; rfl)) ?_; (with_reducible refine (translit_To.calls k _ _ t450 (⟨#[208, 162, 208, 190, 208, 187, 209, 129, 209, 130, 208, 190, 208, 185]⟩ : ByteArray) t453 _ ?side1 ?side2 ?side3 A2.out).mono ?_); (case side1 => repeat (first | exact (Kd.R_reads' HO452.out).2.2 | (with_reducible refine Kd.C_alloc ?_ _) | (with_reducible refine Kd.C_drewN ?_ _) | (with_reducible refine Kd.C_drew ?_))); (case side2 => exact (Kd.R_reads' HO452.out).2.1); (case side3 => exact GT1.below (HG.out.one) (by repeat (first | (with_reducible first | exact HB.out | apply below_alloc | apply pw_below_drewN | apply below_drew1) | exact HB.out))); rintro e w65 ⟨rfl, hb⟩; refine ⟨_, rfl, ?_⟩; have n0_ := Aside0.mk (Kd.R_below (by (with_reducible repeat (first | apply Kd.R_alloc | apply Kd.R_drewN | apply Kd.R_drew)); exact HO452.out) hb); have n1_ := Aside0.mk (below_step (by repeat (first | (with_reducible first | exact HB.out | apply below_alloc | apply pw_below_drewN | apply below_drew1) | exact HB.out)) hb); clear HO452; clear HB; have HO452 := n0_; have HB := n1_; clear n0_ n1_; (try clear hb); (try clear hb2); (try clear hk); (try clear hi)) | (go_at_call 33; (with_reducible refine (translit_Greek.calls k  t454 _ ?side1 A4.out).mono ?_); (case side1 => exact GT2.below (HG.out) (by repeat (first | (with_reducible first | exact HB.out | apply below_alloc | apply pw_below_drewN | apply below_drew1) | exact HB.out))); rintro e w66 ⟨v455, rfl, ho0, hb⟩; have n0_ := Aside0.mk (Kd.R_elder' (by (with_reducible repeat (first | apply Kd.R_alloc | apply Kd.R_drewN | apply Kd.R_drew)); exact HO452.out) (Kd.R_base ho0) hb); have n1_ := Aside0.mk (Kd.R_lower (Kd.R_new' ho0 (Kd.R_lt (by (with_reducible repeat (first | apply Kd.R_alloc | apply Kd.R_drewN | apply Kd.R_drew)); exact HO452.out))) (below_size (by repeat (first | (with_reducible first | exact HB.out | apply below_alloc | apply pw_below_drewN | apply below_drew1) | exact HB.out)))); have n2_ := Aside0.mk (below_step (by repeat (first | (with_reducible first | exact HB.out | apply below_alloc | apply pw_below_drewN | apply below_drew1) | exact HB.out)) hb); clear HO452; clear HB; have HO452 := n0_; have HO456 := n1_; have HB := n2_; clear n0_ n1_ n2_; (try clear hb); (try clear hb2); (try clear hk); (try clear hi); (try clear ho0); obtain ⟨Ao67, co67, eo67⟩ := Kd.R_slice HO456.out; subst eo67) | (go_at_call 24; (with_reducible refine (translit_To.calls k _ _ t454 (⟨#[206, 191, 207, 133, 207, 129, 206, 177, 206, 189, 206, 191, 207, 130]⟩ : ByteArray) t457 _ ?side1 ?side2 ?side3 A5.out).mono ?_); (case side1 => repeat (first | exact (Kd.R_reads' HO456.out).2.2 | (with_reducible refine Kd.C_alloc ?_ _) | (with_reducible refine Kd.C_drewN ?_ _) | (with_reducible refine Kd.C_drew ?_))); (case side2 => exact (Kd.R_reads' HO456.out).2.1); (case side3 => exact GT1.below (HG.out.one) (by repeat (first | (with_reducible first | exact HB.out | apply below_alloc | apply pw_below_drewN | apply below_drew1) | exact HB.out))); rintro e w68 ⟨rfl, hb⟩; have n0_ := Aside0.mk (Kd.R_below (by (with_reducible repeat (first | apply Kd.R_alloc | apply Kd.R_drewN | apply Kd.R_drew)); exact HO452.out) hb); have n1_ := Aside0.mk (Kd.R_below (by (with_reducible repeat (first | apply Kd.R_alloc | apply Kd.R_drewN | apply Kd.R_drew)); exact HO456.out) hb); have n2_ := Aside0.mk (below_step (by repeat (first | (with_reducible first | exact HB.out | apply below_alloc | apply pw_below_drewN | apply below_drew1) | exact HB.out)) hb); clear HO452; clear HO456; clear HB; have HO452 := n0_; have HO456 := n1_; have HB := n2_; clear n0_ n1_ n2_; (try clear hb); (try clear hb2); (try clear hk); (try clear hi)) | (go_at_call 32; (with_reducible refine (translit_Cyrillic.calls k  t458 _ ?side1 A7.out).mono ?_); (case side1 => exact GT2.below (HG.out) (by repeat (first | (with_reducible first | exact HB.out | apply below_alloc | apply pw_below_drewN | apply below_drew1) | exact HB.out))); rintro e w69 ⟨v459, rfl, ho0, hb⟩; have n0_ := Aside0.mk (Kd.R_elder' (by (with_reducible repeat (first | apply Kd.R_alloc | apply Kd.R_drewN | apply Kd.R_drew)); exact HO452.out) (Kd.R_base ho0) hb); have n1_ := Aside0.mk (Kd.R_elder' (by (with_reducible repeat (first | apply Kd.R_alloc | apply Kd.R_drewN | apply Kd.R_drew)); exact HO456.out) (Kd.R_base ho0) hb); have n2_ := Aside0.mk (Kd.R_lower (Kd.R_new' (Kd.R_new' ho0 (Kd.R_lt (by (with_reducible repeat (first | apply Kd.R_alloc | apply Kd.R_drewN | apply Kd.R_drew)); exact HO452.out))) (Kd.R_lt (by (with_reducible repeat (first | apply Kd.R_alloc | apply Kd.R_drewN | apply Kd.R_drew)); exact HO456.out))) (below_size (by repeat (first | (with_reducible first | exact HB.out | apply below_alloc | apply pw_below_drewN | apply below_drew1) | exact HB.out)))); have n3_ := Aside0.mk (below_step (by repeat (first | (with_reducible first | exact HB.out | apply below_alloc | apply pw_below_drewN | apply below_drew1) | exact HB.out)) hb); clear HO452; clear HO456; clear HB; have HO452 := n0_; have HO456 := n1_; have HO460 := n2_; have HB := n3_; clear n0_ n1_ n2_ n3_; (try clear hb); (try clear hb2); (try clear hk); (try clear hi); (try clear ho0); obtain ⟨Ao70, co70, eo70⟩ := Kd.R_slice HO460.out; subst eo70) | (go_at_call 22; (with_reducible refine (translit_Reversible.calls k _ _ t458 false _ ?side1 ?side2 ?side3 A8.out).mono ?_); (case side1 => repeat (first | exact (Kd.R_reads' HO460.out).2.2 | (with_reducible refine Kd.C_alloc ?_ _) | (with_reducible refine Kd.C_drewN ?_ _) | (with_reducible refine Kd.C_drew ?_))); (case side2 => exact (Kd.R_reads' HO460.out).2.1); (case side3 => exact GT1.below (HG.out.one) (by repeat (first | (with_reducible first | exact HB.out | apply below_alloc | apply pw_below_drewN | apply below_drew1) | exact HB.out))); rintro e w71 ⟨rfl, hb⟩; have n0_ := Aside0.mk (Kd.R_below (by (with_reducible repeat (first | apply Kd.R_alloc | apply Kd.R_drewN | apply Kd.R_drew)); exact HO452.out) hb); have n1_ := Aside0.mk (Kd.R_below (by (with_reducible repeat (first | apply Kd.R_alloc | apply Kd.R_drewN | apply Kd.R_drew)); exact HO456.out) hb); have n2_ := Aside0.mk (Kd.R_below (by (with_reducible repeat (first | apply Kd.R_alloc | apply Kd.R_drewN | apply Kd.R_drew)); exact HO460.out) hb); have n3_ := Aside0.mk (below_step (by repeat (first | (with_reducible first | exact HB.out | apply below_alloc | apply pw_below_drewN | apply below_drew1) | exact HB.out)) hb); clear HO452; clear HO456; clear HO460; clear HB; have HO452 := n0_; have HO456 := n1_; have HO460 := n2_; have HB := n3_; clear n0_ n1_ n2_ n3_; (try clear hb); (try clear hb2); (try clear hk); (try clear hi)))
        go_ret
        exact ⟨by first | rfl | (simp [errW_none, errW_some] <;> rfl) | (simp [*, errW_none, errW_some] <;> rfl), by repeat (first | (with_reducible first | exact HB.out | apply below_alloc | apply pw_below_drewN | apply below_drew1) | exact HB.out)⟩
    · rw [if_neg c6] at H
      have c6b0 : (t457.toList == ([111, 117, 114, 97, 110, 111, 115] : List UInt8)) = false := beq_eq_false_iff_ne.mpr c6
      have c6b1 : (t457.toList != ([111, 117, 114, 97, 110, 111, 115] : List UInt8)) = true := bne_iff_ne.mpr c6
      obtain rfl := Option.some.inj H
      go_enter Tryd.func17, Tryd.ntmps17
      go_wp2_with (first | ((with_reducible refine gate_callee (f := 32) rfl ?_); refine goesL_ (some 1) rfl rfl Tryd.func32 (by kernel_rfl) rfl #[] rfl (by (try simp only [List.map_toArray, List.map_cons, List.map_nil]); first | done | rfl | (simp only [List.length_drop, List.length_take]; rfl)) ?_; (with_reducible refine (translit_Cyrillic.calls k  t450 _ ?side1 A1.out).mono ?_); (case side1 => exact GT2.below (HG.out) (by repeat (first | (with_reducible first | exact HB.out | apply below_alloc | apply pw_below_drewN | apply below_drew1) | exact HB.out))); rintro e w72 ⟨v451, rfl, ho0, hb⟩; refine ⟨_, rfl, ?_⟩; have n0_ := Aside0.mk (Kd.R_lower ho0 (below_size (by repeat (first | (with_reducible first | exact HB.out | apply below_alloc | apply pw_below_drewN | apply below_drew1) | exact HB.out)))); have n1_ := Aside0.mk (below_step (by repeat (first | (with_reducible first | exact HB.out | apply below_alloc | apply pw_below_drewN | apply below_drew1) | exact HB.out)) hb); clear HB; have HO452 := n0_; have HB := n1_; clear n0_ n1_; (try clear hb); (try clear hb2); (try clear hk); (try clear hi); (try clear ho0); obtain ⟨Ao73, co73, eo73⟩ := Kd.R_slice HO452.out; subst eo73) | ((with_reducible refine gate_callee (f := 24) rfl ?_); refine goesL_ (some 2) rfl rfl Tryd.func24 (by kernel_rfl) rfl #[.slice Ao73 t450.length co73, .string (⟨#[208, 162, 208, 190, 208, 187, 209, 129, 209, 130, 208, 190, 208, 185]⟩ : ByteArray)] rfl (by (try simp only [List.map_toArray, List.map_cons, List.map_nil]); first | done | rfl | (simp only [List.length_drop, List.length_take]; rfl)) ?_; (with_reducible refine (translit_To.calls k _ _ t450 (⟨#[208, 162, 208, 190, 208, 187, 209, 129, 209, 130, 208, 190, 208, 185]⟩ : ByteArray) t453 _ ?side1 ?side2 ?side3 A2.out).mono ?_); (case side1 => repeat (first | exact (Kd.R_reads' HO452.out).2.2 | (with_reducible refine Kd.C_alloc ?_ _) | (with_reducible refine Kd.C_drewN ?_ _) | (with_reducible refine Kd.C_drew ?_))); (case side2 => exact (Kd.R_reads' HO452.out).2.1); (case side3 => exact GT1.below (HG.out.one) (by repeat (first | (with_reducible first | exact HB.out | apply below_alloc | apply pw_below_drewN | apply below_drew1) | exact HB.out))); rintro e w74 ⟨rfl, hb⟩; refine ⟨_, rfl, ?_⟩; have n0_ := Aside0.mk (Kd.R_below (by (with_reducible repeat (first | apply Kd.R_alloc | apply Kd.R_drewN | apply Kd.R_drew)); exact HO452.out) hb); have n1_ := Aside0.mk (below_step (by repeat (first | (with_reducible first | exact HB.out | apply below_alloc | apply pw_below_drewN | apply below_drew1) | exact HB.out)) hb); clear HO452; clear HB; have HO452 := n0_; have HB := n1_; clear n0_ n1_; (try clear hb); (try clear hb2); (try clear hk); (try clear hi)) | (go_at_call 33; (with_reducible refine (translit_Greek.calls k  t454 _ ?side1 A4.out).mono ?_); (case side1 => exact GT2.below (HG.out) (by repeat (first | (with_reducible first | exact HB.out | apply below_alloc | apply pw_below_drewN | apply below_drew1) | exact HB.out))); rintro e w75 ⟨v455, rfl, ho0, hb⟩; have n0_ := Aside0.mk (Kd.R_elder' (by (with_reducible repeat (first | apply Kd.R_alloc | apply Kd.R_drewN | apply Kd.R_drew)); exact HO452.out) (Kd.R_base ho0) hb); have n1_ := Aside0.mk (Kd.R_lower (Kd.R_new' ho0 (Kd.R_lt (by (with_reducible repeat (first | apply Kd.R_alloc | apply Kd.R_drewN | apply Kd.R_drew)); exact HO452.out))) (below_size (by repeat (first | (with_reducible first | exact HB.out | apply below_alloc | apply pw_below_drewN | apply below_drew1) | exact HB.out)))); have n2_ := Aside0.mk (below_step (by repeat (first | (with_reducible first | exact HB.out | apply below_alloc | apply pw_below_drewN | apply below_drew1) | exact HB.out)) hb); clear HO452; clear HB; have HO452 := n0_; have HO456 := n1_; have HB := n2_; clear n0_ n1_ n2_; (try clear hb); (try clear hb2); (try clear hk); (try clear hi); (try clear ho0); obtain ⟨Ao76, co76, eo76⟩ := Kd.R_slice HO456.out; subst eo76) | (go_at_call 24; (with_reducible refine (translit_To.calls k _ _ t454 (⟨#[206, 191, 207, 133, 207, 129, 206, 177, 206, 189, 206, 191, 207, 130]⟩ : ByteArray) t457 _ ?side1 ?side2 ?side3 A5.out).mono ?_); (case side1 => repeat (first | exact (Kd.R_reads' HO456.out).2.2 | (with_reducible refine Kd.C_alloc ?_ _) | (with_reducible refine Kd.C_drewN ?_ _) | (with_reducible refine Kd.C_drew ?_))); (case side2 => exact (Kd.R_reads' HO456.out).2.1); (case side3 => exact GT1.below (HG.out.one) (by repeat (first | (with_reducible first | exact HB.out | apply below_alloc | apply pw_below_drewN | apply below_drew1) | exact HB.out))); rintro e w77 ⟨rfl, hb⟩; have n0_ := Aside0.mk (Kd.R_below (by (with_reducible repeat (first | apply Kd.R_alloc | apply Kd.R_drewN | apply Kd.R_drew)); exact HO452.out) hb); have n1_ := Aside0.mk (Kd.R_below (by (with_reducible repeat (first | apply Kd.R_alloc | apply Kd.R_drewN | apply Kd.R_drew)); exact HO456.out) hb); have n2_ := Aside0.mk (below_step (by repeat (first | (with_reducible first | exact HB.out | apply below_alloc | apply pw_below_drewN | apply below_drew1) | exact HB.out)) hb); clear HO452; clear HO456; clear HB; have HO452 := n0_; have HO456 := n1_; have HB := n2_; clear n0_ n1_ n2_; (try clear hb); (try clear hb2); (try clear hk); (try clear hi)))
      go_ret
      exact ⟨by first | rfl | (simp [errW_none, errW_some] <;> rfl) | (simp [*, errW_none, errW_some] <;> rfl), by repeat (first | (with_reducible first | exact HB.out | apply below_alloc | apply pw_below_drewN | apply below_drew1) | exact HB.out)⟩
  · rw [if_neg c3] at H
    have c3b0 : (t453.toList == ([84, 111, 108, 115, 116, 111, 106] : List UInt8)) = false := beq_eq_false_iff_ne.mpr c3
    have c3b1 : (t453.toList != ([84, 111, 108, 115, 116, 111, 106] : List UInt8)) = true := bne_iff_ne.mpr c3
    obtain rfl := Option.some.inj H
    go_enter Tryd.func17, Tryd.ntmps17
    go_wp2_with (first | ((with_reducible refine gate_callee (f := 32) rfl ?_); refine goesL_ (some 1) rfl rfl Tryd.func32 (by kernel_rfl) rfl #[] rfl (by (try simp only [List.map_toArray, List.map_cons, List.map_nil]); first | done | rfl | (simp only [List.length_drop, List.length_take]; rfl)) ?_; (with_reducible refine (translit_Cyrillic.calls k  t450 _ ?side1 A1.out).mono ?_); (case side1 => exact GT2.below (HG.out) (by repeat (first | (with_reducible first | exact HB.out | apply below_alloc | apply pw_below_drewN | apply below_drew1) | exact HB.out))); rintro e w78 ⟨v451, rfl, ho0, hb⟩; refine ⟨_, rfl, ?_⟩; have n0_ := Aside0.mk (Kd.R_lower ho0 (below_size (by repeat (first | (with_reducible first | exact HB.out | apply below_alloc | apply pw_below_drewN | apply below_drew1) | exact HB.out)))); have n1_ := Aside0.mk (below_step (by repeat (first | (with_reducible first | exact HB.out | apply below_alloc | apply pw_below_drewN | apply below_drew1) | exact HB.out)) hb); clear HB; have HO452 := n0_; have HB := n1_; clear n0_ n1_; (try clear hb); (try clear hb2); (try clear hk); (try clear hi); (try clear ho0); obtain ⟨Ao79, co79, eo79⟩ := Kd.R_slice HO452.out; subst eo79) | ((with_reducible refine gate_callee (f := 24) rfl ?_); refine goesL_ (some 2) rfl rfl Tryd.func24 (by kernel_rfl) rfl #[.slice Ao79 t450.length co79, .string (⟨#[208, 162, 208, 190, 208, 187, 209, 129, 209, 130, 208, 190, 208, 185]⟩ : ByteArray)] rfl (by (try simp only [List.map_toArray, List.map_cons, List.map_nil]); first | done | rfl | (simp only [List.length_drop, List.length_take]; rfl)) ?_; (with_reducible refine (translit_To.calls k _ _ t450 (⟨#[208, 162, 208, 190, 208, 187, 209, 129, 209, 130, 208, 190, 208, 185]⟩ : ByteArray) t453 _ ?side1 ?side2 ?side3 A2.out).mono ?_); (case side1 => repeat (first | exact (Kd.R_reads' HO452.out).2.2 | (with_reducible refine Kd.C_alloc ?_ _) | (with_reducible refine Kd.C_drewN ?_ _) | (with_reducible refine Kd.C_drew ?_))); (case side2 => exact (Kd.R_reads' HO452.out).2.1); (case side3 => exact GT1.below (HG.out.one) (by repeat (first | (with_reducible first | exact HB.out | apply below_alloc | apply pw_below_drewN | apply below_drew1) | exact HB.out))); rintro e w80 ⟨rfl, hb⟩; refine ⟨_, rfl, ?_⟩; have n0_ := Aside0.mk (Kd.R_below (by (with_reducible repeat (first | apply Kd.R_alloc | apply Kd.R_drewN | apply Kd.R_drew)); exact HO452.out) hb); have n1_ := Aside0.mk (below_step (by repeat (first | (with_reducible first | exact HB.out | apply below_alloc | apply pw_below_drewN | apply below_drew1) | exact HB.out)) hb); clear HO452; clear HB; have HO452 := n0_; have HB := n1_; clear n0_ n1_; (try clear hb); (try clear hb2); (try clear hk); (try clear hi)))
    go_ret
    exact ⟨by first | rfl | (simp [errW_none, errW_some] <;> rfl) | (simp [*, errW_none, errW_some] <;> rfl), by repeat (first | (with_reducible first | exact HB.out | apply below_alloc | apply pw_below_drewN | apply below_drew1) | exact HB.out)⟩
end Go.Proofs.YthcpdhniakpbaaaDoor.X
end

section
namespace Go.Proofs.YthcpdhniakpbaaaDoor.X
set_option linter.unusedVariables false
set_option linter.unusedSimpArgs false
open Go.RowKit Go.Proofs.YthcpdhniakpbaaaDoorW.PrintWords
def Ans (o : Option Bool) (P : Prop) : Prop := ∃ b, o = some b ∧ (b = true ↔ P)
theorem Ans.congr {o : Option Bool} {P Q : Prop} (h : Ans o P) (e : P ↔ Q) : Ans o Q := ⟨h.choose, h.choose_spec.1, h.choose_spec.2.trans e⟩
theorem Ans.no {P : Prop} (h : ¬ P) : Ans (some false) P := ⟨false, rfl, by simp [h]⟩
theorem Ans.dec {P : Prop} [Decidable P] : Ans (some (decide P)) P := ⟨_, rfl, decide_eq_true_iff⟩
theorem Ans.of {o : Option Bool} {P : Prop} [Decidable P] (h : Ans o P) : o = some (decide P) := by
  obtain ⟨b, rfl, hb⟩ := h
  congr 1
  cases b with
  | true => rw [decide_eq_true (hb.1 rfl)]
  | false => rw [decide_eq_false (fun h => by have := hb.2 h; cases this)]
theorem ext_bytes {a b : ByteArray} (h : a.data.toList = b.data.toList) : a = b := ByteArray.ext (Array.ext' h)
theorem toList_eq_iff (a b : ByteArray) : a.toList = b.toList ↔ a = b := by
  rw [Lib.toList_data, Lib.toList_data]
  exact ⟨ext_bytes, fun h => by rw [h]⟩
theorem encL_ge (l : List Int) : l.length ≤ (encL l).length := by
  induction l with
  | nil => simp [encL_nil]
  | cons c l ih => have := (encC_length c).1; simp [encL_cons]; omega
theorem decS_len {p : Int → Bool} {l : List UInt8} {cs : List Int} (h : decS p l = some cs) : cs.length ≤ l.length := by
  rw [(decS_back h).1]; exact encL_ge cs
end Go.Proofs.YthcpdhniakpbaaaDoor.X
end

section
namespace Go.Proofs.YthcpdhniakpbaaaDoor.X
set_option linter.unusedVariables false
set_option linter.unusedSimpArgs false
open Go.RowKit Go.Proofs.YthcpdhniakpbaaaDoorW.PrintWords
def to41 (r : S34) : S41 := ⟨r.f0, r.f1⟩
def tab (x : List S34) : List S41 := x.map to41
theorem tab_length (x : List S34) : (tab x).length = x.length := by simp [tab]
theorem rd41 (x : List S34) (i : Int) : rd_T41 (tab x) i = to41 (rd_T34 x i) := by
  unfold rd_T41 rd_T34 tab
  rw [List.getD_eq_getElem?_getD, List.getD_eq_getElem?_getD, List.getElem?_map]
  cases x[i.toNat]? <;> rfl
theorem rd0 (x : List S34) (i : Int) : (rd_T34 x i).f0 = (rd_T41 (tab x) i).f0 := by rw [rd41]; rfl
theorem rd1 (x : List S34) (i : Int) : (rd_T34 x i).f1 = (rd_T41 (tab x) i).f1 := by rw [rd41]; rfl
def ru (y : List S41) (i : Nat) : S41 := y.getD i z41
theorem rd_ru (y : List S41) (i : Nat) : rd_T41 y (i : Int) = ru y i := rfl
theorem ru_mem {y : List S41} {i : Nat} (h : i < y.length) : ru y i ∈ y := by unfold ru; simp [h]
theorem ru_get {y : List S41} {i : Nat} (h : i < y.length) : ru y i = y[i] := by unfold ru; simp [h]
def FewS (y : List S41) : Prop := (∀ r ∈ y, r.f0.size ≤ 30 ∧ r.f1.size ≤ 30) ∧ y.length ≤ 90
instance (y : List S41) : Decidable (FewS y) := by unfold FewS; infer_instance
theorem mem_ru {y : List S41} {r : S41} (h : r ∈ y) : ∃ i, i < y.length ∧ ru y i = r := by
  obtain ⟨i, hi, rfl⟩ := List.mem_iff_getElem.1 h
  exact ⟨i, hi, ru_get hi⟩
theorem few_go (x : List S34) (hx : x.length ≤ 9223372036854775807) : ∀ n i k : Nat, x.length ≤ i + n → i ≤ x.length → n + 1 ≤ k →
    Ans (bookplatelaw07_few.l0 k x (x.length : Int) (i : Int)) ((∀ j, i ≤ j → j < x.length → (ru (tab x) j).f0.size ≤ 30 ∧ (ru (tab x) j).f1.size ≤ 30) ∧ x.length ≤ 90)
  | n, i, 0, hn, hi, hk => by omega
  | n, i, k + 1, hn, hi, hk => by
    rw [bookplatelaw07_few.l0]
    by_cases e : i = x.length
    · rw [if_neg (by omega)]
      refine Ans.dec.congr ⟨fun h => ⟨fun j h1 h2 => by omega, by omega⟩, fun h => by have := h.2; omega⟩
    · rw [if_pos (by omega), if_pos (by omega), if_pos (by omega), rd0, rd1, rd_ru]
      by_cases c0 : ((ru (tab x) i).f0.size : Int) > 30
      · rw [if_pos c0]
        exact Ans.no fun h => by have := (h.1 i (Nat.le_refl _) (by omega)).1; omega
      · rw [if_neg c0]
        by_cases c1 : ((ru (tab x) i).f1.size : Int) > 30
        · rw [if_pos c1]
          exact Ans.no fun h => by have := (h.1 i (Nat.le_refl _) (by omega)).2; omega
        · rw [if_neg c1, w64 (by omega) (by omega)]
          obtain ⟨n, rfl⟩ : ∃ n', n = n' + 1 := ⟨n - 1, by omega⟩
          refine (few_go x hx n (i + 1) k (by omega) (by omega) (by omega)).congr ⟨fun h => ⟨fun j h1 h2 => ?_, h.2⟩, fun h => ⟨fun j h1 h2 => h.1 j (by omega) h2, h.2⟩⟩
          rcases Nat.lt_or_eq_of_le h1 with h3 | rfl
          · exact h.1 j h3 h2
          · omega
theorem few_eq (x : List S34) (hx : x.length ≤ 9223372036854775807) (k : Nat) (hk : x.length + 1 ≤ k) : bookplatelaw07_few.f k x = some (decide (FewS (tab x))) := by
  refine Ans.of ((few_go x hx x.length 0 k (by omega) (by omega) hk).congr ⟨fun h => ⟨fun r hr => ?_, by rw [tab_length]; exact h.2⟩, fun h => ⟨fun j _ hj => h.1 _ (ru_mem (by rw [tab_length]; exact hj)), by have := h.2; rw [tab_length] at this; exact this⟩⟩)
  obtain ⟨i, hi, rfl⟩ := mem_ru hr
  exact h.1 i (by omega) (by rw [tab_length] at hi; exact hi)
theorem own_go (x : List S34) (hx : x.length ≤ 1000000) : ∀ n i k : Nat, x.length ≤ i + n → i ≤ x.length → n + 1 ≤ k →
    bookplatelaw07_own.l0 k ((tab x).take i) x (x.length : Int) (i : Int) = some (tab x)
  | n, i, 0, hn, hi, hk => by omega
  | n, i, k + 1, hn, hi, hk => by
    rw [bookplatelaw07_own.l0]
    by_cases e : i = x.length
    · rw [if_neg (by omega), e, ← tab_length, List.take_length]
    · have hlt : i < (tab x).length := by rw [tab_length]; omega
      rw [if_pos (by omega), if_pos (by omega), if_pos (by omega), if_pos (by rw [List.length_take]; omega), w64 (by omega) (by omega)]
      obtain ⟨n, rfl⟩ : ∃ n', n = n' + 1 := ⟨n - 1, by omega⟩
      have : (⟨(rd_T34 x (i : Int)).f0, (rd_T34 x (i : Int)).f1⟩ : S41) = (tab x)[i] := by rw [← ru_get hlt, ← rd_ru, rd41]; rfl
      rw [this, ← List.take_succ_eq_append_getElem hlt]
      exact own_go x hx n (i + 1) k (by omega) (by omega) (by omega)
theorem own_eq (x : List S34) (hx : x.length ≤ 1000000) (k : Nat) (hk : x.length + 1 ≤ k) : bookplatelaw07_own.f k x = some (tab x) := by
  have := own_go x hx x.length 0 k (by omega) (by omega) hk
  simpa [bookplatelaw07_own.f] using this
theorem refPart_eq (s : ByteArray) (hs : s.size ≤ 1000000) (k : Nat) (hk : s.size + 301 ≤ k) : bookplateref07_part.f k s = some (partS s.data.toList) := by
  unfold bookplateref07_part.f partS cntS
  rw [refDecode_eq s (by omega) k hk]
  unfold decR
  cases decS hasS s.data.toList with
  | none => simp
  | some cs =>
    simp only [Option.bind_some, if_true, List.nil_append]
    by_cases h : 1 ≤ cs.length
    · rw [if_pos (by omega)]
      congr 1
      apply decide_eq_decide.mpr
      omega
    · rw [if_neg (by omega), decide_eq_false (by omega)]
def ValidAt (y : List S41) (j : Nat) : Prop := partS (ru y j).f0.data.toList = true ∧ partS (ru y j).f1.data.toList = true ∧ ∀ q, q < j → (ru y q).f0 ≠ (ru y j).f0
def ValidP (y : List S41) : Prop := (∀ j, j < y.length → ValidAt y j) ∧ 1 ≤ y.length ∧ y.length ≤ 80
theorem validGo_iff : ∀ (l : List S41) (seen : List (List UInt8)), validGo seen l = true ↔ ∀ j, j < l.length → partS (ru l j).f0.data.toList = true ∧ partS (ru l j).f1.data.toList = true ∧ (ru l j).f0.data.toList ∉ seen ∧ ∀ q, q < j → (ru l q).f0 ≠ (ru l j).f0
  | [], seen => by simp [validGo]
  | r :: rs, seen => by
    rw [validGo]
    have h0 : ru (r :: rs) 0 = r := rfl
    have hs : ∀ j, ru (r :: rs) (j + 1) = ru rs j := fun j => rfl
    split
    · rename_i h
      rw [validGo_iff rs]
      constructor
      · intro g j hj
        cases j with
        | zero => rw [h0]; exact ⟨h.1, h.2.1, h.2.2, fun q hq => by omega⟩
        | succ j =>
          rw [hs]
          obtain ⟨g1, g2, g3, g4⟩ := g j (by simp at hj; omega)
          refine ⟨g1, g2, fun hm => g3 (by simp [hm]), fun q hq => ?_⟩
          cases q with
          | zero => rw [h0]; intro he; exact g3 (by simp [he])
          | succ q => rw [hs]; exact g4 q (by omega)
      · intro g j hj
        obtain ⟨g1, g2, g3, g4⟩ := g (j + 1) (by simp; omega)
        rw [hs] at g1 g2 g3
        refine ⟨g1, g2, fun hm => ?_, fun q hq => ?_⟩
        · rcases List.mem_append.1 hm with hm | hm
          · exact g3 hm
          · have he := List.mem_singleton.1 hm
            have := g4 0 (by omega)
            rw [hs, h0] at this
            exact this (ext_bytes he.symm)
        · have := g4 (q + 1) (by omega)
          rw [hs, hs] at this
          exact this
    · rename_i h
      constructor
      · intro g; cases g
      · intro g
        have := g 0 (by simp)
        rw [h0] at this
        exact absurd ⟨this.1, this.2.1, this.2.2.1⟩ h
theorem validS_iff (y : List S41) : validS y = true ↔ ValidP y := by
  unfold validS ValidP ValidAt
  rw [Bool.and_eq_true, decide_eq_true_iff, validGo_iff]
  simp only [List.not_mem_nil, not_false_eq_true, true_and]
  exact And.comm
theorem valid_mul (a c : Nat) : (a + 1) * c = a * c + c := Nat.succ_mul a c
theorem refValid_go (x : List S34) (hx : x.length ≤ 1000) (hsm : ∀ r ∈ tab x, r.f0.size ≤ 1000 ∧ r.f1.size ≤ 1000) : ∀ n i k : Nat, x.length ≤ i + n → i ≤ x.length → n * (x.length + 3) + 2000 ≤ k →
    Ans (bookplateref07_Valid.l0 k x (i : Int)) ((∀ j, i ≤ j → j < x.length → ValidAt (tab x) j) ∧ 1 ≤ x.length ∧ x.length ≤ 80)
  | n, i, 0, hn, hi, hk => by omega
  | n, i, k + 1, hn, hi, hk => by
    rw [bookplateref07_Valid.l0]
    by_cases e : i = x.length
    · rw [if_neg (by omega)]
      by_cases c : (x.length : Int) ≥ 1
      · rw [if_pos c]
        exact Ans.dec.congr ⟨fun h => ⟨fun j h1 h2 => by omega, by omega, by omega⟩, fun h => by have := h.2.2; omega⟩
      · rw [if_neg c]
        exact Ans.no fun h => by have := h.2.1; omega
    · have hlt : i < (tab x).length := by rw [tab_length]; omega
      obtain ⟨z0, z1⟩ := hsm _ (ru_mem hlt)
      rw [if_pos (by omega), if_pos (by omega), rd0, rd1, rd_ru, refPart_eq _ (by omega) k (by omega)]
      obtain ⟨n, rfl⟩ : ∃ n', n = n' + 1 := ⟨n - 1, by omega⟩
      rw [valid_mul] at hk
      have ih := fun k' h' => refValid_go x hx hsm n (i + 1) k' (by omega) (by omega) h'
      simp only [Option.bind_some]
      by_cases p0 : partS (ru (tab x) i).f0.data.toList = true
      · rw [if_pos p0, refPart_eq _ (by omega) k (by omega)]
        simp only [Option.bind_some]
        obtain ⟨k, rfl⟩ : ∃ k', k = k' + 1 := ⟨k - 1, by omega⟩
        rw [bookplateref07_Valid.j1]
        by_cases p1 : partS (ru (tab x) i).f1.data.toList = true
        · rw [p1, if_neg (by simp)]
          have inner : ∀ m j k', i ≤ j + m → j ≤ i → n * (x.length + 3) + 2000 + m + 1 ≤ k' → Ans (bookplateref07_Valid.l1 k' x (i : Int) (j : Int)) ((∀ q, j ≤ q → q < i → (ru (tab x) q).f0 ≠ (ru (tab x) i).f0) ∧ (∀ j, i + 1 ≤ j → j < x.length → ValidAt (tab x) j) ∧ 1 ≤ x.length ∧ x.length ≤ 80) := by
            intro m
            induction m with
            | zero =>
              intro j k' h1 h2 h3
              obtain rfl : j = i := by omega
              obtain ⟨k', rfl⟩ : ∃ k'', k' = k'' + 1 := ⟨k' - 1, by omega⟩
              rw [bookplateref07_Valid.l1, if_neg (by omega), w64 (by omega) (by omega)]
              exact (ih k' (by omega)).congr ⟨fun h => ⟨fun q h1 h2 => by omega, h⟩, fun h => h.2⟩
            | succ m ihm =>
              intro j k' h1 h2 h3
              obtain ⟨k', rfl⟩ : ∃ k'', k' = k'' + 1 := ⟨k' - 1, by omega⟩
              rw [bookplateref07_Valid.l1]
              by_cases e2 : j = i
              · subst e2
                rw [if_neg (by omega), w64 (by omega) (by omega)]
                exact (ih k' (by omega)).congr ⟨fun h => ⟨fun q h1 h2 => by omega, h⟩, fun h => h.2⟩
              · rw [if_pos (by omega), if_pos (by omega), if_pos (by omega), if_pos (by omega), if_pos (by omega), rd0, rd0, rd_ru, rd_ru]
                by_cases c : (ru (tab x) j).f0 = (ru (tab x) i).f0
                · rw [if_pos ((toList_eq_iff _ _).2 c)]
                  exact Ans.no fun h => h.1 j (Nat.le_refl _) (by omega) c
                · rw [if_neg (fun h => c ((toList_eq_iff _ _).1 h)), w64 (by omega) (by omega)]
                  refine (ihm (j + 1) k' (by omega) (by omega) (by omega)).congr ⟨fun h => ⟨fun q h4 h5 => ?_, h.2⟩, fun h => ⟨fun q h4 h5 => h.1 q (by omega) h5, h.2⟩⟩
                  rcases Nat.lt_or_eq_of_le h4 with h6 | rfl
                  · exact h.1 q h6 h5
                  · exact c
          have := inner i 0 k (by omega) (by omega) (by omega)
          refine this.congr ⟨fun h => ⟨fun j h1 h2 => ?_, h.2.2⟩, fun h => ⟨fun q _ h2 => (h.1 i (Nat.le_refl _) (by omega)).2.2 q h2, fun j h1 h2 => h.1 j (by omega) h2, h.2⟩⟩
          rcases Nat.lt_or_eq_of_le h1 with h3 | rfl
          · exact h.2.1 j h3 h2
          · exact ⟨p0, p1, fun q hq => h.1 q (by omega) hq⟩
        · rw [if_pos (by simpa using p1)]
          exact Ans.no fun h => p1 (h.1 i (Nat.le_refl _) (by omega)).2.1
      · rw [if_neg p0]
        obtain ⟨k, rfl⟩ : ∃ k', k = k' + 1 := ⟨k - 1, by omega⟩
        rw [bookplateref07_Valid.j1, if_pos rfl]
        exact Ans.no fun h => p0 (h.1 i (Nat.le_refl _) (by omega)).1
theorem few_small {y : List S41} (h : FewS y) : ∀ r ∈ y, r.f0.size ≤ 1000 ∧ r.f1.size ≤ 1000 := fun r hr => by have := h.1 r hr; omega
theorem refValid_eq (x : List S34) (hf : FewS (tab x)) (k : Nat) (hk : 15000 ≤ k) : bookplateref07_Valid.f k x = some (validS (tab x)) := by
  have h9 : x.length ≤ 90 := by have := hf.2; rw [tab_length] at this; exact this
  have hm : x.length * (x.length + 3) ≤ 90 * 93 := Nat.mul_le_mul h9 (by omega)
  obtain ⟨b, hb, hi⟩ := refValid_go x (by omega) (few_small hf) x.length 0 k (by omega) (by omega) (by omega)
  have he : bookplateref07_Valid.f k x = some b := hb
  rw [he]
  congr 1
  rw [Bool.eq_iff_iff, hi, validS_iff]
  unfold ValidP
  rw [tab_length]
  exact ⟨fun h => ⟨fun j hj => h.1 j (by omega) hj, h.2⟩, fun h => ⟨fun j _ hj => h.1 j hj, h.2⟩⟩
theorem few_Small {y : List S41} (h : FewS y) : Small y := fun r hr => by have := h.1 r hr; omega
theorem valid_eq (y : List S41) (hf : FewS y) : translit_Valid.f y = some (validS y) := by
  unfold translit_Valid.f
  rw [if_pos (few_Small hf)]
end Go.Proofs.YthcpdhniakpbaaaDoor.X
end

section
namespace Go.Proofs.YthcpdhniakpbaaaDoor.X
set_option linter.unusedVariables false
set_option linter.unusedSimpArgs false
open Go.RowKit Go.Proofs.YthcpdhniakpbaaaDoorW.PrintWords
theorem hasP_eq (s p : ByteArray) : hasP s p = p.data.toList.isPrefixOf s.data.toList := by
  unfold hasP
  rw [Lib.toList_data, Lib.toList_data]
  have hs := dlen s
  have hp := dlen p
  rw [Bool.eq_iff_iff, Bool.and_eq_true, decide_eq_true_iff, beq_iff_eq, List.isPrefixOf_iff_prefix]
  have he : (s.extract 0 p.size).data.toList = s.data.toList.take p.size := by simp
  rw [he]
  constructor
  · rintro ⟨_, h⟩
    rw [← h]
    exact List.take_prefix _ _
  · rintro ⟨r, h⟩
    rw [← h]
    have hl : s.data.toList.length = p.data.toList.length + r.length := by rw [← h]; simp
    refine ⟨by omega, ?_⟩
    rw [← hp, List.take_left']
    rfl
theorem hasPrefix_eq (s p : ByteArray) : strings_HasPrefix.f s p = some (hasP s p) := by
  unfold strings_HasPrefix.f stringslite_HasPrefix.f hasP
  by_cases h : p.size ≤ s.size
  · rw [if_pos (by omega), if_pos (by omega), if_pos (by omega)]
    simp [h]
  · rw [if_neg (by omega)]
    simp [h]
def NoPre (y : List S41) : Prop := ∀ i, i < y.length → ∀ k, k < y.length → i ≠ k → hasP (ru y i).f1 (ru y k).f1 = false
def RevP (y : List S41) : Prop := NoPre y ∧ validS y = true
instance (y : List S41) : Decidable (RevP y) := by unfold RevP NoPre; infer_instance
def revS (y : List S41) : Bool := decide (RevP y)
theorem rev_go (y : List S41) (hy : y.length ≤ 1000) (hv : translit_Valid.f y = some (validS y)) : ∀ n i k : Nat, y.length ≤ i + n → i ≤ y.length → n * (y.length + 3) + 2 ≤ k →
    Ans (translit_Reversible.l0 k y y (y.length : Int) (i : Int)) ((∀ i', i ≤ i' → i' < y.length → ∀ k, k < y.length → i' ≠ k → hasP (ru y i').f1 (ru y k).f1 = false) ∧ validS y = true)
  | n, i, 0, hn, hi, hk => by omega
  | n, i, k + 1, hn, hi, hk => by
    rw [translit_Reversible.l0]
    by_cases e : i = y.length
    · rw [if_neg (by omega), hv]
      exact ⟨_, rfl, fun h => ⟨fun i' h1 h2 => by omega, h⟩, fun h => h.2⟩
    · rw [if_pos (by omega), if_pos (by omega), if_pos (by omega), rd_ru]
      obtain ⟨n, rfl⟩ : ∃ n', n = n' + 1 := ⟨n - 1, by omega⟩
      rw [valid_mul] at hk
      have ih := fun k' h' => rev_go y hy hv n (i + 1) k' (by omega) (by omega) h'
      have inner : ∀ m j k', y.length ≤ j + m → j ≤ y.length → n * (y.length + 3) + 2 + m + 1 ≤ k' → Ans (translit_Reversible.l1 k' y (i : Int) y (y.length : Int) (i : Int) y (y.length : Int) (j : Int) (ru y i).f0 (ru y i).f1) ((∀ q, j ≤ q → q < y.length → i ≠ q → hasP (ru y i).f1 (ru y q).f1 = false) ∧ (∀ i', i + 1 ≤ i' → i' < y.length → ∀ k, k < y.length → i' ≠ k → hasP (ru y i').f1 (ru y k).f1 = false) ∧ validS y = true) := by
        intro m
        induction m with
        | zero =>
          intro j k' h1 h2 h3
          obtain rfl : j = y.length := by omega
          obtain ⟨k', rfl⟩ : ∃ k'', k' = k'' + 1 := ⟨k' - 1, by omega⟩
          rw [translit_Reversible.l1, if_neg (by omega), w64 (by omega) (by omega)]
          exact (ih k' (by omega)).congr ⟨fun h => ⟨fun q h1 h2 => by omega, h⟩, fun h => h.2⟩
        | succ m ihm =>
          intro j k' h1 h2 h3
          obtain ⟨k', rfl⟩ : ∃ k'', k' = k'' + 1 := ⟨k' - 1, by omega⟩
          rw [translit_Reversible.l1]
          by_cases e2 : j = y.length
          · rw [if_neg (by omega), w64 (by omega) (by omega)]
            exact (ih k' (by omega)).congr ⟨fun h => ⟨fun q h1 h2 => by omega, h⟩, fun h => h.2⟩
          · rw [if_pos (by omega), if_pos (by omega), if_pos (by omega), rd_ru, w64 (n := (j : Int) + 1) (by omega) (by omega)]
            have ihj := ihm (j + 1) k' (by omega) (by omega) (by omega)
            by_cases c : i = j
            · rw [if_pos (by omega)]
              refine ihj.congr ⟨fun h => ⟨fun q h4 h5 h6 => ?_, h.2⟩, fun h => ⟨fun q h4 h5 h6 => h.1 q (by omega) h5 h6, h.2⟩⟩
              exact h.1 q (by omega) h5 h6
            · rw [if_neg (by omega), hasPrefix_eq]
              simp only [Option.bind_some]
              by_cases c2 : hasP (ru y i).f1 (ru y j).f1 = true
              · rw [if_pos c2]
                exact Ans.no fun h => by have := h.1 j (Nat.le_refl _) (by omega) c; rw [c2] at this; cases this
              · rw [if_neg c2]
                refine ihj.congr ⟨fun h => ⟨fun q h4 h5 h6 => ?_, h.2⟩, fun h => ⟨fun q h4 h5 h6 => h.1 q (by omega) h5 h6, h.2⟩⟩
                rcases Nat.lt_or_eq_of_le h4 with h7 | rfl
                · exact h.1 q h7 h5 h6
                · simpa using c2
      refine (inner y.length 0 k (by omega) (by omega) (by omega)).congr ⟨fun h => ⟨fun i' h1 h2 => ?_, h.2.2⟩, fun h => ⟨fun q _ h2 h3 => h.1 i (Nat.le_refl _) (by omega) q h2 h3, fun i' h1 h2 => h.1 i' (by omega) h2, h.2⟩⟩
      rcases Nat.lt_or_eq_of_le h1 with h3 | rfl
      · exact h.2.1 i' h3 h2
      · exact fun q h4 h5 => h.1 q (by omega) h4 h5
theorem rev_eq (y : List S41) (hf : FewS y) (k : Nat) (hk : 10000 ≤ k) : translit_Reversible.f k y = some (revS y) := by
  have h9 := hf.2
  have hm : y.length * (y.length + 3) ≤ 90 * 93 := Nat.mul_le_mul h9 (by omega)
  refine Ans.of ((rev_go y (by omega) (valid_eq y hf) y.length 0 k (by omega) (by omega) (by omega)).congr ?_)
  exact ⟨fun h => ⟨fun i hi => h.1 i (by omega) hi, h.2⟩, fun h => ⟨fun i _ hi => h.1 i hi, h.2⟩⟩
end Go.Proofs.YthcpdhniakpbaaaDoor.X
end

section
namespace Go.Proofs.YthcpdhniakpbaaaDoor.X
set_option linter.unusedVariables false
set_option linter.unusedSimpArgs false
open Go.RowKit Go.Proofs.YthcpdhniakpbaaaDoorW.PrintWords
theorem ext_take (s : ByteArray) (a : Nat) : (s.extract 0 a).data.toList = s.data.toList.take a := by simp
theorem ext_drop (s : ByteArray) (a : Nat) : (s.extract a s.size).data.toList = s.data.toList.drop a := by
  have := dlen s
  simp
  rw [List.take_of_length_le (by simp)]
def bestL (l : List UInt8) : S41 → List S41 → S41
  | b, [] => b
  | b, r :: rs => bestL l (if b.f0.size < r.f0.size ∧ r.f0.data.toList.isPrefixOf l = true then r else b) rs
theorem bestB_eq (s : ByteArray) : ∀ (t : List S41) (b : S41), bestB s b t = bestL s.data.toList b t
  | [], b => rfl
  | r :: rs, b => by rw [bestB, bestL, hasP_eq, bestB_eq s rs]
theorem bestL_in (l : List UInt8) : ∀ (t : List S41) (b : S41), bestL l b t = b ∨ (bestL l b t ∈ t ∧ (bestL l b t).f0.data.toList.isPrefixOf l = true)
  | [], b => .inl rfl
  | r :: rs, b => by
    rw [bestL]
    split
    · rename_i h
      rcases bestL_in l rs r with e | ⟨e1, e2⟩
      · rw [e]; exact .inr ⟨by simp, h.2⟩
      · exact .inr ⟨by simp [e1], e2⟩
    · rcases bestL_in l rs b with e | ⟨e1, e2⟩
      · exact .inl e
      · exact .inr ⟨by simp [e1], e2⟩
def EncB (s : ByteArray) : Prop := ∃ fs : List Int, fs ≠ [] ∧ s.data.toList = encL fs ∧ ∀ c ∈ fs, hasS c = true
def EncF (t : List S41) : Prop := ∀ r ∈ t, EncB r.f0
theorem decS_of {l : List UInt8} {cs : List Int} (h : l = encL cs) (hh : ∀ c ∈ cs, hasS c = true) : decS hasS l = some cs := decS_iff.2 ⟨h, fun c hc => ⟨hasS_ok (hh c hc), hh c hc⟩⟩
theorem cntS_of {l : List UInt8} {cs : List Int} (h : l = encL cs) (hh : ∀ c ∈ cs, hasS c = true) : cntS l = cs.length := by
  unfold cntS decR
  rw [decS_of h hh]
  rfl
theorem part_enc {s : ByteArray} (h : partS s.data.toList = true) : EncB s := by
  unfold partS at h
  have h' := of_decide_eq_true h
  unfold cntS decR at h'
  cases hc : decS hasS s.data.toList with
  | none => rw [hc] at h'; simp at h'
  | some cs =>
    rw [hc] at h'
    obtain ⟨h1, h2⟩ := decS_iff.1 hc
    refine ⟨cs, ?_, h1, fun c hcs => (h2 c hcs).2⟩
    rintro rfl
    simp at h'
def tr (t : List S41) : Nat → List Int → List UInt8 × Int
  | 0, _ => ([], 0)
  | _ + 1, [] => ([], 0)
  | f + 1, c :: cs =>
    if (bestL (encL (c :: cs)) rule0 t).f0.size = 0 then (encC c ++ (tr t f cs).1, (tr t f cs).2 + 1)
    else ((bestL (encL (c :: cs)) rule0 t).f1.data.toList ++ (tr t f ((c :: cs).drop (cntS (bestL (encL (c :: cs)) rule0 t).f0.data.toList))).1, (tr t f ((c :: cs).drop (cntS (bestL (encL (c :: cs)) rule0 t).f0.data.toList))).2)
theorem ok_all {cs : List Int} (h : ∀ c ∈ cs, hasS c = true) : ∀ c ∈ cs, Ok c := fun c hc => hasS_ok (h c hc)
theorem best_split {t : List S41} (ht : EncF t) {cs : List Int} (hh : ∀ c ∈ cs, hasS c = true) (hb : (bestL (encL cs) rule0 t).f0.size ≠ 0) :
    bestL (encL cs) rule0 t ∈ t ∧ ∃ fs r, fs ≠ [] ∧ cs = fs ++ r ∧ (bestL (encL cs) rule0 t).f0.data.toList = encL fs ∧ cntS (bestL (encL cs) rule0 t).f0.data.toList = fs.length := by
  rcases bestL_in (encL cs) t rule0 with e | ⟨hm, hp⟩
  · rw [e] at hb; exact absurd rfl hb
  · refine ⟨hm, ?_⟩
    obtain ⟨fs, h1, h2, h3⟩ := ht _ hm
    obtain ⟨r0, hr⟩ := List.isPrefixOf_iff_prefix.1 hp
    rw [h2] at hr
    obtain ⟨r, hr1, hr2⟩ := encL_prefix (ok_all h3) (ok_all hh) hr
    exact ⟨fs, r, h1, hr1, h2, cntS_of h2 h3⟩
theorem dec_width (s : ByteArray) {c : Int} {cs : List Int} (h : s.data.toList = encL (c :: cs)) (hc : hasS c = true) : (Lib.decodeGo s).2 = (encC c).length := by
  have hok := hasS_ok hc
  have hr := hasS_range hc
  have hch : charS s.data.toList = some (c, (encC c).length) := by rw [h, encL_cons]; exact charS_enc c hok _
  have hne : s.size ≠ 0 := by rw [← dlen, h, encL_cons]; have := (encC_length c).1; rw [List.length_append]; omega
  unfold Lib.decodeGo
  rw [if_neg hne]
  rcases decode_some s hch with ⟨h1, _⟩ | ⟨_, h2⟩
  · omega
  · rw [h2]
theorem writeL_tr {t : List S41} (ht : EncF t) : ∀ (m : Nat) (cs : List Int) (s : ByteArray) (f : Nat) (out : List UInt8) (n : Int), cs.length ≤ m → s.data.toList = encL cs → (∀ c ∈ cs, hasS c = true) → cs.length < f →
    writeL t f s out n = some (out ++ (tr t m cs).1, n + (tr t m cs).2)
  | m, cs, s, 0, out, n, hm, hs, hh, hf => by omega
  | m, [], s, f + 1, out, n, hm, hs, hh, hf => by
    have : s.size = 0 := by rw [← dlen, hs]; rfl
    rw [writeL, if_pos this]
    cases m <;> simp [tr]
  | 0, c :: cs, s, f + 1, out, n, hm, hs, hh, hf => by simp at hm
  | m + 1, c :: cs, s, f + 1, out, n, hm, hs, hh, hf => by
    have hc := hh c (by simp)
    have hne : s.size ≠ 0 := by rw [← dlen, hs, encL_cons]; have := (encC_length c).1; rw [List.length_append]; omega
    rw [writeL, if_neg hne, bestB_eq, hs, tr]
    by_cases hb : (bestL (encL (c :: cs)) rule0 t).f0.size = 0
    · rw [if_pos hb, if_pos hb, dec_width s hs hc, ext_take, hs, encL_cons, List.take_left']
      · rw [writeL_tr ht m cs _ f _ _ (by simp at hm; omega) (by rw [ext_drop, hs, encL_cons, List.drop_left']; rfl) (fun x hx => hh x (by simp [hx])) (by simp at hf; omega)]
        simp only [List.append_assoc]
        congr 2
        omega
      · rfl
    · obtain ⟨_, fs, r, h1, h2, h3, h4⟩ := best_split ht hh hb
      have hl := congrArg List.length h2
      rw [List.length_append] at hl
      have hfl : fs.length ≠ 0 := fun h => h1 (List.length_eq_zero_iff.1 h)
      have hsz : (bestL (encL (c :: cs)) rule0 t).f0.size = (encL fs).length := by rw [← dlen, h3]
      rw [if_neg hb, if_neg hb, h4, hsz]
      have hdr : (c :: cs).drop fs.length = r := by rw [h2, List.drop_left']; rfl
      rw [hdr, writeL_tr ht m r _ f _ _ (by simp at hm hl; omega) (by rw [ext_drop, hs, h2, encL_append, List.drop_left']; rfl) (fun x hx => hh x (by rw [h2]; simp [hx])) (by simp at hf hl; omega)]
      simp only [List.append_assoc]
theorem write_eq {t : List S41} (ht : EncF t) (s : ByteArray) (cs : List Int) (hok : WriteOk t s) (hs : s.data.toList = encL cs) (hh : ∀ c ∈ cs, hasS c = true) (m : Nat) (hm : cs.length ≤ m) :
    translit_write.f t s = some (⟨(tr t m cs).1.toArray⟩, (tr t m cs).2) := by
  have hl : cs.length ≤ s.size := by rw [← dlen, hs]; exact encL_ge cs
  unfold translit_write.f
  rw [if_pos hok, writeL_tr ht m cs s _ _ _ hm hs hh (by omega)]
  simp
end Go.Proofs.YthcpdhniakpbaaaDoor.X
end

section
namespace Go.Proofs.YthcpdhniakpbaaaDoor.X
set_option linter.unusedVariables false
set_option linter.unusedSimpArgs false
open Go.RowKit Go.Proofs.YthcpdhniakpbaaaDoorW.PrintWords
def swap (r : S41) : S41 := ⟨r.f1, r.f0⟩
def bk (y : List S41) : List S41 := y.map swap
def trS (t : List S41) (s : ByteArray) : Option (List UInt8 × Int) := (decS hasS s.data.toList).map fun cs => tr t cs.length cs
def toS (y : List S41) (s : ByteArray) : ByteArray := if validS y = true then (match trS y s with | some r => ⟨r.1.toArray⟩ | none => ⟨#[]⟩) else ⟨#[]⟩
def backS (y : List S41) (s : ByteArray) : ByteArray := if validS y = true then (match trS (bk y) s with | some r => ⟨r.1.toArray⟩ | none => ⟨#[]⟩) else ⟨#[]⟩
def covS (y : List S41) (s : ByteArray) : Bool := if validS y = true then (match trS y s with | some r => r.2 == 0 | none => false) else false
theorem valid_enc {y : List S41} (h : validS y = true) : ∀ r ∈ y, EncB r.f0 ∧ EncB r.f1 := by
  intro r hr
  obtain ⟨i, hi, rfl⟩ := mem_ru hr
  have := ((validS_iff y).1 h).1 i hi
  exact ⟨part_enc this.1, part_enc this.2.1⟩
theorem valid_F {y : List S41} (h : validS y = true) : EncF y := fun r hr => (valid_enc h r hr).1
theorem valid_B {y : List S41} (h : validS y = true) : EncF (bk y) := fun r hr => by
  obtain ⟨q, hq, rfl⟩ := List.mem_map.1 hr
  exact (valid_enc h q hq).2
theorem small_bk {y : List S41} (h : FewS y) : FewS (bk y) := ⟨fun r hr => by
  obtain ⟨q, hq, rfl⟩ := List.mem_map.1 hr
  exact (h.1 q hq).symm, by have := h.2; simpa [bk] using this⟩
theorem few_ok {y : List S41} (h : FewS y) {s : ByteArray} (hs : s.size ≤ 1048576) : WriteOk y s := ⟨hs, few_Small h, by have := h.2; omega⟩
theorem encoded_eq (s : ByteArray) (hs : s.size ≤ 1048576) (k : Nat) (hk : s.size + 8 ≤ k) : translit_encoded.f k s = some (decS hasS s.data.toList).isSome := by
  unfold translit_encoded.f
  rw [decode_eq s (by omega) hk]
  unfold decR
  cases decS hasS s.data.toList <;> rfl
theorem write_trS {t : List S41} (ht : EncF t) (s : ByteArray) (hok : WriteOk t s) {cs : List Int} (hc : decS hasS s.data.toList = some cs) : translit_write.f t s = some (⟨(tr t cs.length cs).1.toArray⟩, (tr t cs.length cs).2) :=
  write_eq ht s cs hok (decS_iff.1 hc).1 (fun c h => ((decS_iff.1 hc).2 c h).2) _ (Nat.le_refl _)
theorem to_eq {y : List S41} (hf : FewS y) (s : ByteArray) (hs : s.size ≤ 1048576) (k : Nat) (hk : s.size + 8 ≤ k) : translit_To.f k y s = some (toS y s) := by
  unfold translit_To.f toS trS
  rw [valid_eq y hf]
  simp only [Option.bind_some]
  by_cases hv : validS y = true
  · rw [if_pos hv, if_pos hv, encoded_eq s hs k hk]
    simp only [Option.bind_some]
    cases hc : decS hasS s.data.toList with
    | none => rfl
    | some cs =>
      rw [if_pos (Option.isSome_some), write_trS (valid_F hv) s (few_ok hf hs) hc]
      rfl
  · rw [if_neg hv, if_neg hv]
theorem cov_eq {y : List S41} (hf : FewS y) (s : ByteArray) (hs : s.size ≤ 1048576) (k : Nat) (hk : s.size + 8 ≤ k) : translit_Covers.f k y s = some (covS y s) := by
  unfold translit_Covers.f covS trS
  rw [valid_eq y hf]
  simp only [Option.bind_some]
  by_cases hv : validS y = true
  · rw [if_pos hv, if_pos hv, encoded_eq s hs k hk]
    simp only [Option.bind_some]
    cases hc : decS hasS s.data.toList with
    | none => rfl
    | some cs =>
      rw [if_pos (Option.isSome_some), write_trS (valid_F hv) s (few_ok hf hs) hc]
      rfl
  · rw [if_neg hv, if_neg hv]
theorem bk_length (y : List S41) : (bk y).length = y.length := by simp [bk]
theorem back_go (y : List S41) (s : ByteArray) (hy : y.length ≤ 1000000) : ∀ n i k : Nat, y.length ≤ i + n → i ≤ y.length → n + 1 ≤ k →
    translit_Back.l0 k s ((bk y).take i) y (y.length : Int) (i : Int) = (translit_write.f (bk y) s).bind fun bt => some bt.1
  | n, i, 0, hn, hi, hk => by omega
  | n, i, k + 1, hn, hi, hk => by
    rw [translit_Back.l0]
    by_cases e : i = y.length
    · rw [if_neg (by omega), e, ← bk_length, List.take_length]
    · have hlt : i < (bk y).length := by rw [bk_length]; omega
      have hlt2 : i < y.length := by omega
      rw [if_pos (by omega), if_pos (by omega), if_pos (by omega), if_pos (by rw [List.length_take]; omega), w64 (by omega) (by omega)]
      obtain ⟨n, rfl⟩ : ∃ n', n = n' + 1 := ⟨n - 1, by omega⟩
      have : (⟨(rd_T41 y (i : Int)).f1, (rd_T41 y (i : Int)).f0⟩ : S41) = (bk y)[i] := by rw [rd_ru, ru_get hlt2]; simp [bk, swap]
      rw [this, ← List.take_succ_eq_append_getElem hlt]
      exact back_go y s hy n (i + 1) k (by omega) (by omega) (by omega)
theorem back_eq {y : List S41} (hf : FewS y) (s : ByteArray) (hs : s.size ≤ 1048576) (k : Nat) (hk : s.size + 200 ≤ k) : translit_Back.f k y s = some (backS y s) := by
  unfold translit_Back.f backS trS
  rw [valid_eq y hf]
  simp only [Option.bind_some]
  have h9 := hf.2
  obtain ⟨k, rfl⟩ : ∃ k', k = k' + 1 := ⟨k - 1, by omega⟩
  by_cases hv : validS y = true
  · rw [if_pos hv, if_pos hv, encoded_eq s hs _ (by omega)]
    simp only [Option.bind_some]
    rw [translit_Back.j0]
    cases hc : decS hasS s.data.toList with
    | none => rfl
    | some cs =>
      rw [if_neg (by simp)]
      have := back_go y s (by omega) y.length 0 k (by omega) (by omega) (by omega)
      rw [List.take_zero] at this
      refine Eq.trans this ?_
      rw [write_trS (valid_B hv) s (few_ok (small_bk hf) hs) hc]
      rfl
  · rw [if_neg hv, if_neg hv, translit_Back.j0, if_pos rfl]
end Go.Proofs.YthcpdhniakpbaaaDoor.X
end

section
namespace Go.Proofs.YthcpdhniakpbaaaDoor.X
open Go.RowKit Go.Proofs.YthcpdhniakpbaaaDoorW.PrintWords Go.Proofs.YthcpdhniakpbaaaDoorW.PrintLast Go.Proofs.YthcpdhniakpbaaaDoorW.PrintMore
set_option linter.unusedVariables false
set_option linter.unusedSimpArgs false
def cyrR : List S34 := [(⟨(⟨#[208, 176]⟩ : ByteArray), (⟨#[97]⟩ : ByteArray)⟩ : S34), (⟨(⟨#[208, 177]⟩ : ByteArray), (⟨#[98]⟩ : ByteArray)⟩ : S34), (⟨(⟨#[208, 178]⟩ : ByteArray), (⟨#[118]⟩ : ByteArray)⟩ : S34), (⟨(⟨#[208, 179]⟩ : ByteArray), (⟨#[103]⟩ : ByteArray)⟩ : S34), (⟨(⟨#[208, 180]⟩ : ByteArray), (⟨#[100]⟩ : ByteArray)⟩ : S34), (⟨(⟨#[208, 181]⟩ : ByteArray), (⟨#[101]⟩ : ByteArray)⟩ : S34), (⟨(⟨#[209, 145]⟩ : ByteArray), (⟨#[195, 171]⟩ : ByteArray)⟩ : S34), (⟨(⟨#[208, 182]⟩ : ByteArray), (⟨#[197, 190]⟩ : ByteArray)⟩ : S34), (⟨(⟨#[208, 183]⟩ : ByteArray), (⟨#[122]⟩ : ByteArray)⟩ : S34), (⟨(⟨#[208, 184]⟩ : ByteArray), (⟨#[105]⟩ : ByteArray)⟩ : S34), (⟨(⟨#[208, 185]⟩ : ByteArray), (⟨#[106]⟩ : ByteArray)⟩ : S34), (⟨(⟨#[208, 186]⟩ : ByteArray), (⟨#[107]⟩ : ByteArray)⟩ : S34), (⟨(⟨#[208, 187]⟩ : ByteArray), (⟨#[108]⟩ : ByteArray)⟩ : S34), (⟨(⟨#[208, 188]⟩ : ByteArray), (⟨#[109]⟩ : ByteArray)⟩ : S34), (⟨(⟨#[208, 189]⟩ : ByteArray), (⟨#[110]⟩ : ByteArray)⟩ : S34), (⟨(⟨#[208, 190]⟩ : ByteArray), (⟨#[111]⟩ : ByteArray)⟩ : S34), (⟨(⟨#[208, 191]⟩ : ByteArray), (⟨#[112]⟩ : ByteArray)⟩ : S34), (⟨(⟨#[209, 128]⟩ : ByteArray), (⟨#[114]⟩ : ByteArray)⟩ : S34), (⟨(⟨#[209, 129]⟩ : ByteArray), (⟨#[115]⟩ : ByteArray)⟩ : S34), (⟨(⟨#[209, 130]⟩ : ByteArray), (⟨#[116]⟩ : ByteArray)⟩ : S34), (⟨(⟨#[209, 131]⟩ : ByteArray), (⟨#[117]⟩ : ByteArray)⟩ : S34), (⟨(⟨#[209, 132]⟩ : ByteArray), (⟨#[102]⟩ : ByteArray)⟩ : S34), (⟨(⟨#[209, 133]⟩ : ByteArray), (⟨#[104]⟩ : ByteArray)⟩ : S34), (⟨(⟨#[209, 134]⟩ : ByteArray), (⟨#[99]⟩ : ByteArray)⟩ : S34), (⟨(⟨#[209, 135]⟩ : ByteArray), (⟨#[196, 141]⟩ : ByteArray)⟩ : S34), (⟨(⟨#[209, 136]⟩ : ByteArray), (⟨#[197, 161]⟩ : ByteArray)⟩ : S34), (⟨(⟨#[209, 137]⟩ : ByteArray), (⟨#[197, 157]⟩ : ByteArray)⟩ : S34), (⟨(⟨#[209, 138]⟩ : ByteArray), (⟨#[34]⟩ : ByteArray)⟩ : S34), (⟨(⟨#[209, 139]⟩ : ByteArray), (⟨#[121]⟩ : ByteArray)⟩ : S34), (⟨(⟨#[209, 140]⟩ : ByteArray), (⟨#[39]⟩ : ByteArray)⟩ : S34), (⟨(⟨#[209, 141]⟩ : ByteArray), (⟨#[195, 168]⟩ : ByteArray)⟩ : S34), (⟨(⟨#[209, 142]⟩ : ByteArray), (⟨#[195, 187]⟩ : ByteArray)⟩ : S34), (⟨(⟨#[209, 143]⟩ : ByteArray), (⟨#[195, 162]⟩ : ByteArray)⟩ : S34), (⟨(⟨#[208, 144]⟩ : ByteArray), (⟨#[65]⟩ : ByteArray)⟩ : S34), (⟨(⟨#[208, 145]⟩ : ByteArray), (⟨#[66]⟩ : ByteArray)⟩ : S34), (⟨(⟨#[208, 146]⟩ : ByteArray), (⟨#[86]⟩ : ByteArray)⟩ : S34), (⟨(⟨#[208, 147]⟩ : ByteArray), (⟨#[71]⟩ : ByteArray)⟩ : S34), (⟨(⟨#[208, 148]⟩ : ByteArray), (⟨#[68]⟩ : ByteArray)⟩ : S34), (⟨(⟨#[208, 149]⟩ : ByteArray), (⟨#[69]⟩ : ByteArray)⟩ : S34), (⟨(⟨#[208, 129]⟩ : ByteArray), (⟨#[195, 139]⟩ : ByteArray)⟩ : S34), (⟨(⟨#[208, 150]⟩ : ByteArray), (⟨#[197, 189]⟩ : ByteArray)⟩ : S34), (⟨(⟨#[208, 151]⟩ : ByteArray), (⟨#[90]⟩ : ByteArray)⟩ : S34), (⟨(⟨#[208, 152]⟩ : ByteArray), (⟨#[73]⟩ : ByteArray)⟩ : S34), (⟨(⟨#[208, 153]⟩ : ByteArray), (⟨#[74]⟩ : ByteArray)⟩ : S34), (⟨(⟨#[208, 154]⟩ : ByteArray), (⟨#[75]⟩ : ByteArray)⟩ : S34), (⟨(⟨#[208, 155]⟩ : ByteArray), (⟨#[76]⟩ : ByteArray)⟩ : S34), (⟨(⟨#[208, 156]⟩ : ByteArray), (⟨#[77]⟩ : ByteArray)⟩ : S34), (⟨(⟨#[208, 157]⟩ : ByteArray), (⟨#[78]⟩ : ByteArray)⟩ : S34), (⟨(⟨#[208, 158]⟩ : ByteArray), (⟨#[79]⟩ : ByteArray)⟩ : S34), (⟨(⟨#[208, 159]⟩ : ByteArray), (⟨#[80]⟩ : ByteArray)⟩ : S34), (⟨(⟨#[208, 160]⟩ : ByteArray), (⟨#[82]⟩ : ByteArray)⟩ : S34), (⟨(⟨#[208, 161]⟩ : ByteArray), (⟨#[83]⟩ : ByteArray)⟩ : S34), (⟨(⟨#[208, 162]⟩ : ByteArray), (⟨#[84]⟩ : ByteArray)⟩ : S34), (⟨(⟨#[208, 163]⟩ : ByteArray), (⟨#[85]⟩ : ByteArray)⟩ : S34), (⟨(⟨#[208, 164]⟩ : ByteArray), (⟨#[70]⟩ : ByteArray)⟩ : S34), (⟨(⟨#[208, 165]⟩ : ByteArray), (⟨#[72]⟩ : ByteArray)⟩ : S34), (⟨(⟨#[208, 166]⟩ : ByteArray), (⟨#[67]⟩ : ByteArray)⟩ : S34), (⟨(⟨#[208, 167]⟩ : ByteArray), (⟨#[196, 140]⟩ : ByteArray)⟩ : S34), (⟨(⟨#[208, 168]⟩ : ByteArray), (⟨#[197, 160]⟩ : ByteArray)⟩ : S34), (⟨(⟨#[208, 169]⟩ : ByteArray), (⟨#[197, 156]⟩ : ByteArray)⟩ : S34), (⟨(⟨#[208, 171]⟩ : ByteArray), (⟨#[89]⟩ : ByteArray)⟩ : S34), (⟨(⟨#[208, 173]⟩ : ByteArray), (⟨#[195, 136]⟩ : ByteArray)⟩ : S34), (⟨(⟨#[208, 174]⟩ : ByteArray), (⟨#[195, 155]⟩ : ByteArray)⟩ : S34), (⟨(⟨#[208, 175]⟩ : ByteArray), (⟨#[195, 130]⟩ : ByteArray)⟩ : S34)]
end Go.Proofs.YthcpdhniakpbaaaDoor.X
end

section
namespace Go.Proofs.YthcpdhniakpbaaaDoor.X
set_option linter.unusedVariables false
set_option linter.unusedSimpArgs false
open Go.RowKit Go.Proofs.YthcpdhniakpbaaaDoorW.PrintWords
theorem lift_le {α : Type} {f : Nat → Option α} (h : ∀ k, LeO (f k) (f (k + 1))) {n : Nat} {r : α} (hr : f n = some r) : ∀ k, n ≤ k → f k = some r := by
  intro k hk
  induction hk with
  | refl => exact hr
  | step _ ih => exact h _ r ih
def grR : List S34 := match bookplateref07_Greek.f with | some l => l | none => []
def cyrT : List S41 := tab cyrR
def grT : List S41 := tab grR
theorem cyr_table : translit_table.f 100 (⟨#[208, 176, 32, 97, 32, 208, 177, 32, 98, 32, 208, 178, 32, 118, 32, 208, 179, 32, 103, 32, 208, 180, 32, 100, 32, 208, 181, 32, 101, 32, 209, 145, 32, 195, 171, 32, 208, 182, 32, 197, 190, 32, 208, 183, 32, 122, 32, 208, 184, 32, 105, 32, 208, 185, 32, 106, 32, 208, 186, 32, 107, 32, 208, 187, 32, 108, 32, 208, 188, 32, 109, 32, 208, 189, 32, 110, 32, 208, 190, 32, 111, 32, 208, 191, 32, 112, 32, 209, 128, 32, 114, 32, 209, 129, 32, 115, 32, 209, 130, 32, 116, 32, 209, 131, 32, 117, 32, 209, 132, 32, 102, 32, 209, 133, 32, 104, 32, 209, 134, 32, 99, 32, 209, 135, 32, 196, 141, 32, 209, 136, 32, 197, 161, 32, 209, 137, 32, 197, 157, 32, 209, 138, 32, 34, 32, 209, 139, 32, 121, 32, 209, 140, 32, 39, 32, 209, 141, 32, 195, 168, 32, 209, 142, 32, 195, 187, 32, 209, 143, 32, 195, 162, 32, 208, 144, 32, 65, 32, 208, 145, 32, 66, 32, 208, 146, 32, 86, 32, 208, 147, 32, 71, 32, 208, 148, 32, 68, 32, 208, 149, 32, 69, 32, 208, 129, 32, 195, 139, 32, 208, 150, 32, 197, 189, 32, 208, 151, 32, 90, 32, 208, 152, 32, 73, 32, 208, 153, 32, 74, 32, 208, 154, 32, 75, 32, 208, 155, 32, 76, 32, 208, 156, 32, 77, 32, 208, 157, 32, 78, 32, 208, 158, 32, 79, 32, 208, 159, 32, 80, 32, 208, 160, 32, 82, 32, 208, 161, 32, 83, 32, 208, 162, 32, 84, 32, 208, 163, 32, 85, 32, 208, 164, 32, 70, 32, 208, 165, 32, 72, 32, 208, 166, 32, 67, 32, 208, 167, 32, 196, 140, 32, 208, 168, 32, 197, 160, 32, 208, 169, 32, 197, 156, 32, 208, 171, 32, 89, 32, 208, 173, 32, 195, 136, 32, 208, 174, 32, 195, 155, 32, 208, 175, 32, 195, 130]⟩ : ByteArray) = some cyrT := by kernel_rfl
theorem gr_table : translit_table.f 100 (⟨#[206, 177, 32, 97, 32, 206, 178, 32, 98, 32, 206, 179, 32, 103, 32, 206, 180, 32, 100, 32, 206, 181, 32, 101, 32, 206, 182, 32, 122, 32, 206, 183, 32, 196, 147, 32, 206, 184, 32, 116, 104, 32, 206, 185, 32, 105, 32, 206, 186, 32, 107, 32, 206, 187, 32, 108, 32, 206, 188, 32, 109, 32, 206, 189, 32, 110, 32, 206, 190, 32, 120, 32, 206, 191, 32, 111, 32, 207, 128, 32, 112, 32, 207, 129, 32, 114, 32, 207, 131, 32, 115, 32, 207, 130, 32, 115, 32, 207, 132, 32, 116, 32, 207, 133, 32, 121, 32, 207, 134, 32, 112, 104, 32, 207, 135, 32, 99, 104, 32, 207, 136, 32, 112, 115, 32, 207, 137, 32, 197, 141, 32, 206, 191, 207, 133, 32, 111, 117, 32, 206, 179, 206, 179, 32, 110, 103, 32, 206, 179, 206, 186, 32, 110, 107]⟩ : ByteArray) = some grT := by kernel_rfl
theorem cyr_eq (k : Nat) (hk : 100 ≤ k) : translit_Cyrillic.f k = some cyrT := by
  unfold translit_Cyrillic.f
  rw [lift_le (translit_table.mono _) cyr_table k hk]
  rfl
theorem gr_eq (k : Nat) (hk : 100 ≤ k) : translit_Greek.f k = some grT := by
  unfold translit_Greek.f
  rw [lift_le (translit_table.mono _) gr_table k hk]
  rfl
theorem cyr_few : FewS cyrT := by decide +kernel
theorem gr_few : FewS grT := by decide +kernel
theorem gr_valid : validS grT = true := by kernel_rfl
theorem cyr_rev : revS cyrT = true := by kernel_rfl
theorem aw1 : (toS cyrT (⟨#[208, 162, 208, 190, 208, 187, 209, 129, 209, 130, 208, 190, 208, 185]⟩ : ByteArray)).toList = ([84, 111, 108, 115, 116, 111, 106] : List UInt8) := by rw [Lib.toList_data]; kernel_rfl
theorem aw2 : (toS grT (⟨#[206, 191, 207, 133, 207, 129, 206, 177, 206, 189, 206, 191, 207, 130]⟩ : ByteArray)).toList = ([111, 117, 114, 97, 110, 111, 115] : List UInt8) := by rw [Lib.toList_data]; kernel_rfl
theorem aw3 : (backS cyrT (⟨#[84, 111, 108, 115, 116, 111, 106]⟩ : ByteArray)).toList = ([208, 162, 208, 190, 208, 187, 209, 129, 209, 130, 208, 190, 208, 185] : List UInt8) := by rw [Lib.toList_data]; kernel_rfl
theorem aw4 : covS grT (⟨#[206, 191, 207, 133]⟩ : ByteArray) = true := by kernel_rfl
theorem awake_eq (k : Nat) (hk : 10000 ≤ k) : bookplatelaw07_awake.f k = some true := by
  unfold bookplatelaw07_awake.f
  rw [cyr_eq k (by omega), gr_eq k (by omega)]
  simp only [Option.bind_some]
  rw [to_eq cyr_few _ (by decide +kernel) k (Nat.le_trans (by decide +kernel) hk)]
  simp only [Option.bind_some]
  rw [if_pos aw1, to_eq gr_few _ (by decide +kernel) k (Nat.le_trans (by decide +kernel) hk)]
  simp only [Option.bind_some]
  rw [if_pos aw2, rev_eq cyrT cyr_few k hk, cyr_rev]
  simp only [Option.bind_some]
  rw [if_pos trivial, back_eq cyr_few _ (by decide +kernel) k (Nat.le_trans (by decide +kernel) hk)]
  simp only [Option.bind_some]
  rw [if_pos aw3, cov_eq gr_few _ (by decide +kernel) k (Nat.le_trans (by decide +kernel) hk), aw4]
  simp only [Option.bind_some]
  rw [if_pos trivial, valid_eq grT gr_few, gr_valid]
  rfl
end Go.Proofs.YthcpdhniakpbaaaDoor.X
end

section
namespace Go.Proofs.YthcpdhniakpbaaaDoor.X
set_option linter.unusedVariables false
set_option linter.unusedSimpArgs false
open Go.RowKit Go.Proofs.YthcpdhniakpbaaaDoorW.PrintWords
theorem tr_nil (t : List S41) (m : Nat) : tr t m [] = ([], 0) := by cases m <;> rfl
end Go.Proofs.YthcpdhniakpbaaaDoor.X
end

section
namespace Go.Proofs.YthcpdhniakpbaaaDoor.X
open Go.RowKit Go.Proofs.YthcpdhniakpbaaaDoorW.PrintWords Go.Proofs.YthcpdhniakpbaaaDoorW.PrintLast Go.Proofs.YthcpdhniakpbaaaDoorW.PrintMore
attribute [local go_sem] max2_int min2_int max_two min_two max_three min_three max_four min_four
set_option linter.unusedVariables false
set_option linter.unusedSimpArgs false
mutual
def bookplatelaw07_TranslitStays.j0 : Nat → List (S34) → ByteArray → List Int → Bool → Option (Bool)
  | 0, _, _, _, _ => none
  | k + 1, x0, x1, x5, x39 => if x39 = true then (some true) else (bookplatelaw07_TranslitStays.l0 k x0 x1 x5 x0 (x0.length : Int) 0)
def bookplatelaw07_TranslitStays.l0 : Nat → List (S34) → ByteArray → List Int → List (S34) → Int → Int → Option (Bool)
  | 0, _, _, _, _, _, _ => none
  | k + 1, x0, x1, x5, x40, x41, x42 => if x42 < x41 then (if 0 ≤ x42 then (if x42 < (x40.length : Int) then ((bookplateref04_Decode.f k ((rd_T34 x40 x42).f0)).bind fun bt577 => (bookplatelaw07_TranslitStays.l1 k x0 x1 x5 x40 x41 x42 bt577.1 (bt577.1.length : Int) 0)) else (none)) else (none)) else ((bookplatelaw07_own.f k x0).bind fun t570 => ((translit_To.f k t570 x1).bind fun t573 => (if t573.toList = x1.toList then ((translit_Covers.f k t570 x1).bind fun t574 => (some (t574 == (x1.toList == ([] : List UInt8))))) else (some false))))
def bookplatelaw07_TranslitStays.l1 : Nat → List (S34) → ByteArray → List Int → List (S34) → Int → Int → List Int → Int → Int → Option (Bool)
  | 0, _, _, _, _, _, _, _, _, _ => none
  | k + 1, x0, x1, x5, x40, x41, x42, x52, x53, x54 => if x54 < x53 then (if 0 ≤ x54 then (if x54 < (x52.length : Int) then (bookplatelaw07_TranslitStays.l2 k x0 x1 x5 (rd x52 x54) x40 x41 x42 x52 x53 x54 x5 (x5.length : Int) 0) else (none)) else (none)) else (bookplatelaw07_TranslitStays.l0 k x0 x1 x5 x40 x41 (wrap64 (x42 + 1)))
def bookplatelaw07_TranslitStays.l2 : Nat → List (S34) → ByteArray → List Int → Int → List (S34) → Int → Int → List Int → Int → Int → List Int → Int → Int → Option (Bool)
  | 0, _, _, _, _, _, _, _, _, _, _, _, _, _ => none
  | k + 1, x0, x1, x5, x12, x40, x41, x42, x52, x53, x54, x58, x59, x60 => if x60 < x59 then (if 0 ≤ x60 then (if x60 < (x58.length : Int) then (if x12 = (rd x58 x60) then (some true) else (bookplatelaw07_TranslitStays.l2 k x0 x1 x5 x12 x40 x41 x42 x52 x53 x54 x58 x59 (wrap64 (x60 + 1)))) else (none)) else (none)) else (bookplatelaw07_TranslitStays.l1 k x0 x1 x5 x40 x41 x42 x52 x53 (wrap64 (x54 + 1)))
end
def bookplatelaw07_TranslitStays.f (k : Nat) (l0 : List (S34)) (a1 : ByteArray) : Option (Bool) := (bookplatelaw07_awake.f k).bind fun t563 => (if t563 = true then ((bookplateref04_Decode.f k a1).bind fun bt564 => ((bookplatelaw07_few.f k l0).bind fun t568 => (if t568 = true then (if (a1.size : Int) > 40 then (bookplatelaw07_TranslitStays.j0 k l0 a1 bt564.1 true) else (if bt564.2 = true then ((bookplateref07_Valid.f k l0).bind fun t569 => (bookplatelaw07_TranslitStays.j0 k l0 a1 bt564.1 (!t569))) else (bookplatelaw07_TranslitStays.j0 k l0 a1 bt564.1 true))) else (bookplatelaw07_TranslitStays.j0 k l0 a1 bt564.1 true)))) else (some false))
set_option maxHeartbeats 8000000 in
set_option maxRecDepth 100000 in
theorem bookplatelaw07_TranslitStays.calls (k : Nat) (A0 : Option Addr) (c0 : Nat) (l0 : List (S34)) (a1 : ByteArray) (r : Bool) (w : World) (hr0 : Kd.C k34 w A0 l0.length l0) (hc0 : l0.length ≤ c0) (hG : GT2 w) (h : bookplatelaw07_TranslitStays.f k l0 a1 = some r) :
    Calls Tryd.prog 9 #[.slice A0 l0.length c0, .string a1] w fun e w' => e = .returned (.bool r) ∧ Below w.heap.size w w' := by
  have HG := Aside0.mk hG
  clear hG
  have hu34 := Tryd.underlying34
  have HR0 := Aside0.mk hr0
  have HC0 := Aside0.mk hc0
  clear hr0 hc0
  have HB := Aside0.mk (Below.refl w.heap.size w)
  have H : ((bookplatelaw07_awake.f k).bind fun t563 => (if t563 = true then ((bookplateref04_Decode.f k a1).bind fun bt564 => ((bookplatelaw07_few.f k l0).bind fun t568 => (if t568 = true then (if (a1.size : Int) > 40 then (bookplatelaw07_TranslitStays.j0 k l0 a1 bt564.1 true) else (if bt564.2 = true then ((bookplateref07_Valid.f k l0).bind fun t569 => (bookplatelaw07_TranslitStays.j0 k l0 a1 bt564.1 (!t569))) else (bookplatelaw07_TranslitStays.j0 k l0 a1 bt564.1 true))) else (bookplatelaw07_TranslitStays.j0 k l0 a1 bt564.1 true)))) else (some false))) = some r := h
  clear h
  replace H := Option.bind_eq_some_iff.mp H
  obtain ⟨t563, A30, H⟩ := H
  replace H : (if t563 = true then ((bookplateref04_Decode.f k a1).bind fun bt564 => ((bookplatelaw07_few.f k l0).bind fun t568 => (if t568 = true then (if (a1.size : Int) > 40 then (bookplatelaw07_TranslitStays.j0 k l0 a1 bt564.1 true) else (if bt564.2 = true then ((bookplateref07_Valid.f k l0).bind fun t569 => (bookplatelaw07_TranslitStays.j0 k l0 a1 bt564.1 (!t569))) else (bookplatelaw07_TranslitStays.j0 k l0 a1 bt564.1 true))) else (bookplatelaw07_TranslitStays.j0 k l0 a1 bt564.1 true)))) else (some false)) = some r := H
  have A3 := Aside0.mk A30
  clear A30
  by_cases c4 : t563 = true
  · subst c4
    have H1 : ((bookplateref04_Decode.f k a1).bind fun bt564 => ((bookplatelaw07_few.f k l0).bind fun t568 => (if t568 = true then (if (a1.size : Int) > 40 then (bookplatelaw07_TranslitStays.j0 k l0 a1 bt564.1 true) else (if bt564.2 = true then ((bookplateref07_Valid.f k l0).bind fun t569 => (bookplatelaw07_TranslitStays.j0 k l0 a1 bt564.1 (!t569))) else (bookplatelaw07_TranslitStays.j0 k l0 a1 bt564.1 true))) else (bookplatelaw07_TranslitStays.j0 k l0 a1 bt564.1 true)))) = some r := by rw [if_pos rfl] at H; exact H
    clear H
    have H := H1
    clear H1
    replace H := Option.bind_eq_some_iff.mp H
    obtain ⟨⟨t564, t565⟩, A50, H⟩ := H
    replace H : ((bookplatelaw07_few.f k l0).bind fun t568 => (if t568 = true then (if (a1.size : Int) > 40 then (bookplatelaw07_TranslitStays.j0 k l0 a1 t564 true) else (if t565 = true then ((bookplateref07_Valid.f k l0).bind fun t569 => (bookplatelaw07_TranslitStays.j0 k l0 a1 t564 (!t569))) else (bookplatelaw07_TranslitStays.j0 k l0 a1 t564 true))) else (bookplatelaw07_TranslitStays.j0 k l0 a1 t564 true))) = some r := H
    have A5 := Aside0.mk A50
    clear A50
    have HC6 := Aside0.mk H
    clear H
    go_enter Tryd.func9, Tryd.ntmps9
    go_upto_region 4 with (first | ((with_reducible refine gate_callee (f := 17) rfl ?_); refine goesL_ (some 16) rfl rfl Tryd.func17 (by kernel_rfl) rfl #[] rfl (by (try simp only [List.map_toArray, List.map_cons, List.map_nil]); first | done | rfl | (simp only [List.length_drop, List.length_take]; rfl)) ?_; (with_reducible refine (bookplatelaw07_awake.calls k  true _ ?side1 A3.out).mono ?_); (case side1 => exact GT2.below (HG.out) (by repeat (first | (with_reducible first | exact HB.out | apply below_alloc | apply pw_below_drewN | apply below_drew1) | exact HB.out))); rintro e w7 ⟨rfl, hb⟩; refine ⟨_, rfl, ?_⟩; have n0_ := Aside0.mk (below_step (by repeat (first | (with_reducible first | exact HB.out | apply below_alloc | apply pw_below_drewN | apply below_drew1) | exact HB.out)) hb); clear HB; have HB := n0_; clear n0_; (try clear hb); (try clear hb2); (try clear hk); (try clear hi)) | ((with_reducible refine gate_callee (f := 31) rfl ?_); refine goesL_ (some 20) rfl rfl Tryd.func31 (by kernel_rfl) rfl #[.string a1] rfl (by (try simp only [List.map_toArray, List.map_cons, List.map_nil]); first | done | rfl | (simp only [List.length_drop, List.length_take]; rfl)) ?_; (with_reducible refine (bookplateref04_Decode.calls k a1 t564 t565 _ A5.out).mono ?_); rintro e w8 ⟨v566, rfl, ho0, hb⟩; refine ⟨_, rfl, ?_⟩; have n0_ := Aside0.mk (Kd.R_lower ho0 (below_size (by repeat (first | (with_reducible first | exact HB.out | apply below_alloc | apply pw_below_drewN | apply below_drew1) | exact HB.out)))); have n1_ := Aside0.mk (below_step (by repeat (first | (with_reducible first | exact HB.out | apply below_alloc | apply pw_below_drewN | apply below_drew1) | exact HB.out)) hb); clear HB; have HO567 := n0_; have HB := n1_; clear n0_ n1_; (try clear hb); (try clear hb2); (try clear hk); (try clear hi); (try clear ho0)))
    (try simp only [Act.put, List.setIfInBounds_toArray, List.set_cons_zero, List.set_cons_succ])
    go_cut [39] (fun v39 wc => ∃ (kq : Nat) (x39_5 : Bool), v39 = .bool x39_5 ∧ Aside0 (bookplatelaw07_TranslitStays.j0 kq l0 a1 t564 x39_5 = some r) ∧ Aside0 (kq ≤ k) ∧ Aside0 (Kd.R (Kd.int .i64) 3 wc w.heap.size (fun _ => True) v566 t564) ∧ Aside0 (Below w.heap.size w wc))
    case first =>
      have H := HC6.out
      clear HC6
      replace H := Option.bind_eq_some_iff.mp H
      obtain ⟨t568, A90, H⟩ := H
      replace H : (if t568 = true then (if (a1.size : Int) > 40 then (bookplatelaw07_TranslitStays.j0 k l0 a1 t564 true) else (if t565 = true then ((bookplateref07_Valid.f k l0).bind fun t569 => (bookplatelaw07_TranslitStays.j0 k l0 a1 t564 (!t569))) else (bookplatelaw07_TranslitStays.j0 k l0 a1 t564 true))) else (bookplatelaw07_TranslitStays.j0 k l0 a1 t564 true)) = some r := H
      have A9 := Aside0.mk A90
      clear A90
      by_cases c10 : t568 = true
      · subst c10
        have H1 : (if (a1.size : Int) > 40 then (bookplatelaw07_TranslitStays.j0 k l0 a1 t564 true) else (if t565 = true then ((bookplateref07_Valid.f k l0).bind fun t569 => (bookplatelaw07_TranslitStays.j0 k l0 a1 t564 (!t569))) else (bookplatelaw07_TranslitStays.j0 k l0 a1 t564 true))) = some r := by rw [if_pos rfl] at H; exact H
        clear H
        have H := H1
        clear H1
        by_cases c11 : (a1.size : Int) > 40
        · rw [if_pos c11] at H
          have c11b0 : decide (40 < (a1.size : Int)) = true := decide_eq_true c11
          have c11b1 : decide (40 < a1.size) = true := decide_eq_true (by omega)
          clear c11
          (first | rw [c11b0] | (simp only [i64_w, i32_w]; rw [c11b0]) | skip)
          have H' := Aside0.mk H
          clear H
          go_wp2_with (first | ((with_reducible refine gate_callee (f := 18) rfl ?_); refine goesL_ (some 24) rfl rfl Tryd.func18 (by kernel_rfl) rfl #[.slice A0 l0.length c0] rfl (by (try simp only [List.map_toArray, List.map_cons, List.map_nil]); first | done | rfl | (simp only [List.length_drop, List.length_take]; rfl)) ?_; (with_reducible refine (bookplatelaw07_few.calls k _ _ l0 true _ ?side1 ?side2 A9.out).mono ?_); (case side1 => repeat (first | exact (Kd.C_below HR0.out HB.out) | (with_reducible refine Kd.C_alloc ?_ _) | (with_reducible refine Kd.C_drewN ?_ _) | (with_reducible refine Kd.C_drew ?_))); (case side2 => exact HC0.out); rintro e w' ⟨rfl, ⟨nd, rfl⟩⟩; refine ⟨_, rfl, ?_⟩))
          go_meet
          case rel => exact ⟨_, (true), (by first | rfl | (simp; done) | (simp [*]; done)), H', ⟨by first | omega | exact Nat.le_refl _⟩, ⟨by (with_reducible repeat (first | apply Kd.R_alloc | apply Kd.R_drewN | apply Kd.R_drew)); exact HO567.out⟩, ⟨by repeat (first | (with_reducible first | exact HB.out | apply below_alloc | apply pw_below_drewN | apply below_drew1) | exact HB.out)⟩⟩
        · rw [if_neg c11] at H
          have c11b0 : decide (40 < (a1.size : Int)) = false := decide_eq_false c11
          have c11b1 : decide (40 < a1.size) = false := decide_eq_false (by omega)
          clear c11
          (first | rw [c11b0] | (simp only [i64_w, i32_w]; rw [c11b0]) | skip)
          by_cases c12 : t565 = true
          · subst c12
            have H1 : ((bookplateref07_Valid.f k l0).bind fun t569 => (bookplatelaw07_TranslitStays.j0 k l0 a1 t564 (!t569))) = some r := by rw [if_pos rfl] at H; exact H
            clear H
            have H := H1
            clear H1
            replace H := Option.bind_eq_some_iff.mp H
            obtain ⟨t569, A130, H⟩ := H
            replace H : (bookplatelaw07_TranslitStays.j0 k l0 a1 t564 (!t569)) = some r := H
            have A13 := Aside0.mk A130
            clear A130
            have H' := Aside0.mk H
            clear H
            go_wp2_with (first | ((with_reducible refine gate_callee (f := 18) rfl ?_); refine goesL_ (some 24) rfl rfl Tryd.func18 (by kernel_rfl) rfl #[.slice A0 l0.length c0] rfl (by (try simp only [List.map_toArray, List.map_cons, List.map_nil]); first | done | rfl | (simp only [List.length_drop, List.length_take]; rfl)) ?_; (with_reducible refine (bookplatelaw07_few.calls k _ _ l0 true _ ?side1 ?side2 A9.out).mono ?_); (case side1 => repeat (first | exact (Kd.C_below HR0.out HB.out) | (with_reducible refine Kd.C_alloc ?_ _) | (with_reducible refine Kd.C_drewN ?_ _) | (with_reducible refine Kd.C_drew ?_))); (case side2 => exact HC0.out); rintro e w' ⟨rfl, ⟨nd, rfl⟩⟩; refine ⟨_, rfl, ?_⟩) | (go_at_call 21; (with_reducible refine (bookplateref07_Valid.calls k _ _ l0 t569 _ ?side1 ?side2 A13.out).mono ?_); (case side1 => repeat (first | exact (Kd.C_below HR0.out (by repeat (first | (with_reducible first | exact HB.out | apply below_alloc | apply pw_below_drewN | apply below_drew1) | exact HB.out))) | (with_reducible refine Kd.C_alloc ?_ _) | (with_reducible refine Kd.C_drewN ?_ _) | (with_reducible refine Kd.C_drew ?_))); (case side2 => exact HC0.out); rintro e w14 ⟨rfl, hb⟩; have n0_ := Aside0.mk (Kd.R_below (by (with_reducible repeat (first | apply Kd.R_alloc | apply Kd.R_drewN | apply Kd.R_drew)); exact HO567.out) hb); have n1_ := Aside0.mk (below_step (by repeat (first | (with_reducible first | exact HB.out | apply below_alloc | apply pw_below_drewN | apply below_drew1) | exact HB.out)) hb); clear HO567; clear HB; have HO567 := n0_; have HB := n1_; clear n0_ n1_; (try clear hb); (try clear hb2); (try clear hk); (try clear hi)))
            go_meet
            case rel => exact ⟨_, (!t569), (by first | rfl | (simp; done) | (simp [*]; done)), H', ⟨by first | omega | exact Nat.le_refl _⟩, ⟨by (with_reducible repeat (first | apply Kd.R_alloc | apply Kd.R_drewN | apply Kd.R_drew)); exact HO567.out⟩, ⟨by repeat (first | (with_reducible first | exact HB.out | apply below_alloc | apply pw_below_drewN | apply below_drew1) | exact HB.out)⟩⟩
          · replace c12 := Bool.eq_false_iff.mpr c12
            subst c12
            have H1 : (bookplatelaw07_TranslitStays.j0 k l0 a1 t564 true) = some r := by rw [if_neg (show ¬ (false = true) by decide)] at H; exact H
            clear H
            have H := H1
            clear H1
            have H' := Aside0.mk H
            clear H
            go_wp2_with (first | ((with_reducible refine gate_callee (f := 18) rfl ?_); refine goesL_ (some 24) rfl rfl Tryd.func18 (by kernel_rfl) rfl #[.slice A0 l0.length c0] rfl (by (try simp only [List.map_toArray, List.map_cons, List.map_nil]); first | done | rfl | (simp only [List.length_drop, List.length_take]; rfl)) ?_; (with_reducible refine (bookplatelaw07_few.calls k _ _ l0 true _ ?side1 ?side2 A9.out).mono ?_); (case side1 => repeat (first | exact (Kd.C_below HR0.out HB.out) | (with_reducible refine Kd.C_alloc ?_ _) | (with_reducible refine Kd.C_drewN ?_ _) | (with_reducible refine Kd.C_drew ?_))); (case side2 => exact HC0.out); rintro e w' ⟨rfl, ⟨nd, rfl⟩⟩; refine ⟨_, rfl, ?_⟩))
            go_meet
            case rel => exact ⟨_, (true), (by first | rfl | (simp; done) | (simp [*]; done)), H', ⟨by first | omega | exact Nat.le_refl _⟩, ⟨by (with_reducible repeat (first | apply Kd.R_alloc | apply Kd.R_drewN | apply Kd.R_drew)); exact HO567.out⟩, ⟨by repeat (first | (with_reducible first | exact HB.out | apply below_alloc | apply pw_below_drewN | apply below_drew1) | exact HB.out)⟩⟩
      · replace c10 := Bool.eq_false_iff.mpr c10
        subst c10
        have H1 : (bookplatelaw07_TranslitStays.j0 k l0 a1 t564 true) = some r := by rw [if_neg (show ¬ (false = true) by decide)] at H; exact H
        clear H
        have H := H1
        clear H1
        have H' := Aside0.mk H
        clear H
        go_wp2_with (first | ((with_reducible refine gate_callee (f := 18) rfl ?_); refine goesL_ (some 24) rfl rfl Tryd.func18 (by kernel_rfl) rfl #[.slice A0 l0.length c0] rfl (by (try simp only [List.map_toArray, List.map_cons, List.map_nil]); first | done | rfl | (simp only [List.length_drop, List.length_take]; rfl)) ?_; (with_reducible refine (bookplatelaw07_few.calls k _ _ l0 false _ ?side1 ?side2 A9.out).mono ?_); (case side1 => repeat (first | exact (Kd.C_below HR0.out HB.out) | (with_reducible refine Kd.C_alloc ?_ _) | (with_reducible refine Kd.C_drewN ?_ _) | (with_reducible refine Kd.C_drew ?_))); (case side2 => exact HC0.out); rintro e w' ⟨rfl, ⟨nd, rfl⟩⟩; refine ⟨_, rfl, ?_⟩))
        go_meet
        case rel => exact ⟨_, (true), (by first | rfl | (simp; done) | (simp [*]; done)), H', ⟨by first | omega | exact Nat.le_refl _⟩, ⟨by (with_reducible repeat (first | apply Kd.R_alloc | apply Kd.R_drewN | apply Kd.R_drew)); exact HO567.out⟩, ⟨by repeat (first | (with_reducible first | exact HB.out | apply below_alloc | apply pw_below_drewN | apply below_drew1) | exact HB.out)⟩⟩
    case rest =>
      clear HC6
      try clear c1
      try clear p2
      try clear c3
      try clear c4
      try clear c9
      try clear c10
      try clear c11
      try clear c11b0
      try clear c11b1
      try clear c12
      obtain ⟨kq, x39_5, rfl, HA, HJ5, HO_5, HB⟩ := hcut
      cases kq with
      | zero => exact absurd HA.out (by simp [bookplatelaw07_TranslitStays.j0])
      | succ kj5 =>
        have H := HA.out
        clear HA
        simp only [bookplatelaw07_TranslitStays.j0] at H
        by_cases c15 : x39_5 = true
        · subst c15
          have H1 : (some true) = some r := by rw [if_pos rfl] at H; exact H
          clear H
          have H := H1
          clear H1
          obtain rfl := Option.some.inj H
          go_wp2
          go_ret
          exact ⟨by first | rfl | (simp [errW_none, errW_some] <;> rfl) | (simp [*, errW_none, errW_some] <;> rfl), by repeat (first | (with_reducible first | exact HB.out | apply below_alloc | apply pw_below_drewN | apply below_drew1) | exact HB.out)⟩
        · replace c15 := Bool.eq_false_iff.mpr c15
          subst c15
          have H1 : (bookplatelaw07_TranslitStays.l0 kj5 l0 a1 t564 l0 (l0.length : Int) 0) = some r := by rw [if_neg (show ¬ (false = true) by decide)] at H; exact H
          clear H
          have H := H1
          clear H1
          have H' := Aside0.mk H
          clear H
          go_wp2
          go_loopg [42] kj5 (fun kq v42 w' => ∃ (x42_2 : Int), v42 = .int .i64 x42_2 ∧ Aside0 (bookplatelaw07_TranslitStays.l0 kq l0 a1 t564 l0 (l0.length : Int) x42_2 = some r) ∧ Aside0 (kq ≤ kj5) ∧ Aside0 (Kd.R (Kd.int .i64) 3 w' w.heap.size (fun _ => True) v566 t564) ∧ Aside0 (Below w.heap.size w w'))
          case atStart => exact ⟨(0), (by first | rfl | (simp; done) | (simp [*]; done)), H', ⟨Nat.le_refl _⟩, ⟨by (with_reducible repeat (first | apply Kd.R_alloc | apply Kd.R_drewN | apply Kd.R_drew)); exact HO_5.out⟩, ⟨by repeat (first | (with_reducible first | exact HB.out | apply below_alloc | apply pw_below_drewN | apply below_drew1) | exact HB.out)⟩⟩
          case round =>
            clear H'
            try clear c1
            try clear p2
            try clear c3
            try clear c4
            try clear c9
            try clear c10
            try clear c11
            try clear c11b0
            try clear c11b1
            try clear c12
            try clear c15
            try clear p2
            obtain ⟨x42_2, rfl, HA, HK2, HO_5, HB⟩ := hrel
            cases gk with
            | zero => exact absurd HA.out (by simp [bookplatelaw07_TranslitStays.l0])
            | succ k2 =>
              have H := HA.out
              clear HA
              simp only [bookplatelaw07_TranslitStays.l0] at H
              by_cases c16 : x42_2 < (l0.length : Int)
              · rw [if_pos c16] at H
                have c16b0 : decide (x42_2 < (l0.length : Int)) = true := decide_eq_true c16
                clear c16
                by_cases c17 : 0 ≤ x42_2
                · rw [if_pos c17] at H
                  have c17b0 : decide (0 ≤ x42_2) = true := decide_eq_true c17
                  clear c17
                  by_cases c18 : x42_2 < (l0.length : Int)
                  · rw [if_pos c18] at H
                    have c18b0 : decide (x42_2 < (l0.length : Int)) = true := decide_eq_true c18
                    clear c18
                    replace H := Option.bind_eq_some_iff.mp H
                    obtain ⟨⟨t577, t578⟩, A190, H⟩ := H
                    replace H : (bookplatelaw07_TranslitStays.l1 k2 l0 a1 t564 l0 (l0.length : Int) x42_2 t577 (t577.length : Int) 0) = some r := H
                    have A19 := Aside0.mk A190
                    clear A190
                    have H' := Aside0.mk H
                    clear H
                    have p575 : 0 ≤ (x42_2 : Int) := of_decide_eq_true (by first | (with_reducible assumption) | assumption)
                    have q575 : x42_2 < (l0.length : Int) := of_decide_eq_true (by first | (with_reducible assumption) | assumption)
                    obtain ⟨ad575, e575, hx575_0, hx575_1⟩ := at_T34 HR0.out x42_2 p575 q575
                    cases e575
                    replace hx575_0 := (HB.out.cell (World.block_lt_of_cell? w _ hx575_0)).trans hx575_0
                    replace hx575_1 := (HB.out.cell (World.block_lt_of_cell? w _ hx575_1)).trans hx575_1
                    replace p575 := eq_true p575
                    replace q575 := eq_true q575
                    go_wp2_with (first | ((with_reducible refine gate_dst (N := 8) rfl ?_); (try (refine gate_guard (by rfl) ?_; dsimp only)); refine box_event ?hg (N := 8) ?hd (cs := #[.string (⟨#[]⟩ : ByteArray), .string (⟨#[]⟩ : ByteArray)]) (t := 34) ?hr ?_; (case hd => rfl); (case hg => rfl); (case hr => first | (go_simp; done) | (go_simp; rfl)); intro gb576 hg w20 hbox hb; have n0_ := Aside0.mk (Kd.R_below (by (with_reducible repeat (first | apply Kd.R_alloc | apply Kd.R_drewN | apply Kd.R_drew)); exact HO_5.out) hb); have n1_ := Aside0.mk (below_step (by repeat (first | (with_reducible first | exact HB.out | apply below_alloc | apply pw_below_drewN | apply below_drew1) | exact HB.out)) hb); have n2_ := Aside0.mk (hbox); have n3_ := Aside0.mk ((by rw [hg]; exact (below_size (by repeat (first | (with_reducible first | exact HB.out | apply below_alloc | apply pw_below_drewN | apply below_drew1) | exact HB.out))) : w.heap.size ≤ gb576)); have n4_ := Aside0.mk ((by rw [hg]; exact (below_size (by repeat (first | (with_reducible first | exact HB.out | apply below_alloc | apply pw_below_drewN | apply below_drew1) | exact HB.out))) : w.heap.size ≤ gb576)); clear HO_5; clear HB; have HO_5 := n0_; have HB := n1_; have BK576 := n2_; have GW576 := n3_; have GE576 := n4_; clear n0_ n1_ n2_ n3_ n4_; clear hb hbox hg; have hcz21_0 : w20.cell? ⟨gb576, 0, none⟩ = some (.string (⟨#[]⟩ : ByteArray)) := (blk_cell BK576.out 0).trans rfl; have hcz21_1 : w20.cell? ⟨gb576, 1, none⟩ = some (.string (⟨#[]⟩ : ByteArray)) := (blk_cell BK576.out 1).trans rfl; have hfz21_0 := blk_frozen BK576.out 0; have hfz21_1 := blk_frozen BK576.out 1) | ((with_reducible refine gate_callee (f := 31) rfl ?_); refine goesL_ (some 49) rfl rfl Tryd.func31 (by kernel_rfl) rfl #[.string ((rd_T34 l0 x42_2).f0)] rfl (by (try simp only [List.map_toArray, List.map_cons, List.map_nil]); first | done | rfl | (simp only [List.length_drop, List.length_take]; rfl)) ?_; (with_reducible refine (bookplateref04_Decode.calls k2 ((rd_T34 l0 x42_2).f0) t577 t578 _ A19.out).mono ?_); rintro e w22 ⟨v579, rfl, ho0, hb⟩; refine ⟨_, rfl, ?_⟩; have n0_ := Aside0.mk (Kd.R_elder' (by (with_reducible repeat (first | apply Kd.R_alloc | apply Kd.R_drewN | apply Kd.R_drew)); exact (Kd.R_mono (Kd.R_far (p := ⟨gb576, 1, none⟩) (Kd.R_far (p := ⟨gb576, 0, none⟩) (Kd.R_types HO_5.out BK576.out (by decide)) (fun _ hk => hk.2) (.string ((rd_T34 l0 x42_2).f0))) (fun _ hk => hk.2) (.string ((rd_T34 l0 x42_2).f1))) (fun _ h_ => h_.1))) (Kd.R_base ho0) hb); have n1_ := Aside0.mk (Kd.R_lower (Kd.R_new' ho0 (Kd.R_lt (by (with_reducible repeat (first | apply Kd.R_alloc | apply Kd.R_drewN | apply Kd.R_drew)); exact (Kd.R_mono (Kd.R_far (p := ⟨gb576, 1, none⟩) (Kd.R_far (p := ⟨gb576, 0, none⟩) (Kd.R_types HO_5.out BK576.out (by decide)) (fun _ hk => hk.2) (.string ((rd_T34 l0 x42_2).f0))) (fun _ hk => hk.2) (.string ((rd_T34 l0 x42_2).f1))) (fun _ h_ => h_.1))))) (below_size (by repeat (first | (with_reducible first | exact HB.out | apply below_alloc | apply pw_below_drewN | apply below_drew1 | refine below_set ?_ GE576.out) | exact HB.out)))); have n2_ := Aside0.mk (blk_below (g := gb576) (o := .cells #[.string ((rd_T34 l0 x42_2).f0), .string ((rd_T34 l0 x42_2).f1)] 34 (0, 0)) (by (with_reducible repeat (first | refine blk_drewN ?_ _ | refine blk_drew ?_ | refine blk_alloc ?_ _)); refine blk_put (cs := #[.string ((rd_T34 l0 x42_2).f0), .string (⟨#[]⟩ : ByteArray)]) ?_ 1 _ rfl; (with_reducible repeat (first | refine blk_drewN ?_ _ | refine blk_drew ?_ | refine blk_alloc ?_ _)); refine blk_put (cs := #[.string (⟨#[]⟩ : ByteArray), .string (⟨#[]⟩ : ByteArray)]) ?_ 0 _ rfl; (with_reducible repeat (first | refine blk_drewN ?_ _ | refine blk_drew ?_ | refine blk_alloc ?_ _)); exact BK576.out) hb); have n3_ := Aside0.mk (below_step (by repeat (first | (with_reducible first | exact HB.out | apply below_alloc | apply pw_below_drewN | apply below_drew1 | refine below_set ?_ GE576.out) | exact HB.out)) hb); clear HO_5; clear BK576; clear HB; have HO_5 := n0_; have HO580 := n1_; have BK576 := n2_; have HB := n3_; clear n0_ n1_ n2_ n3_; (try clear hb); (try clear hb2); (try clear hk); (try clear hi); (try clear ho0); obtain ⟨Ao23, co23, eo23⟩ := Kd.R_slice HO580.out; subst eo23))
                    go_loopg [54] k2 (fun kq v54 w' => ∃ (x54_3 : Int), v54 = .int .i64 x54_3 ∧ Aside0 (bookplatelaw07_TranslitStays.l1 kq l0 a1 t564 l0 (l0.length : Int) x42_2 t577 (t577.length : Int) x54_3 = some r) ∧ Aside0 (kq ≤ k2) ∧ Aside0 (Kd.R (Kd.int .i64) 3 w' w.heap.size (fun k_ => some k_ ≠ ((.slice Ao23 t577.length co23) : Value).ownBlock) v566 t564) ∧ Aside0 (Kd.R (Kd.int .i64) 3 w' w.heap.size (fun k_ => some k_ ≠ (v566 : Value).ownBlock) (.slice Ao23 t577.length co23) t577) ∧ Aside0 (w'.heap[gb576]? = some (.cells #[.string ((rd_T34 l0 x42_2).f0), .string ((rd_T34 l0 x42_2).f1)] 34 (0, 0))) ∧ Aside0 (Below w.heap.size w w'))
                    case atStart => exact ⟨(0), (by first | rfl | (simp; done) | (simp [*]; done)), H', ⟨Nat.le_refl _⟩, ⟨by (with_reducible repeat (first | apply Kd.R_alloc | apply Kd.R_drewN | apply Kd.R_drew)); exact Kd.R_mono HO_5.out (fun _ hk => hk.2)⟩, ⟨by (with_reducible repeat (first | apply Kd.R_alloc | apply Kd.R_drewN | apply Kd.R_drew)); exact Kd.R_mono HO580.out (fun _ hk => hk.2)⟩, ⟨by (with_reducible repeat (first | refine blk_drewN ?_ _ | refine blk_drew ?_ | refine blk_alloc ?_ _)); exact BK576.out⟩, ⟨by repeat (first | (with_reducible first | exact HB.out | apply below_alloc | apply pw_below_drewN | apply below_drew1 | refine below_set ?_ GE576.out) | exact HB.out)⟩⟩
                    case round =>
                      clear H'
                      try clear c1
                      try clear p2
                      try clear c3
                      try clear c4
                      try clear p5
                      try clear q5
                      try clear hx5
                      try clear c9
                      try clear c10
                      try clear c11
                      try clear c11b0
                      try clear c11b1
                      try clear c12
                      try clear c15
                      try clear c16
                      try clear c16b0
                      try clear c17
                      try clear c17b0
                      try clear c18
                      try clear c18b0
                      try clear hcz21_0
                      try clear hcz21_1
                      try clear hfz21_0
                      try clear hfz21_1
                      try clear hx575_0
                      try clear hx575_1
                      try clear p2
                      try clear p575
                      try clear q575
                      obtain ⟨x54_3, rfl, HA, HK3, HO_5, HO_52, BK576, HB⟩ := hrel
                      cases gk with
                      | zero => exact absurd HA.out (by simp [bookplatelaw07_TranslitStays.l1])
                      | succ k3 =>
                        have H := HA.out
                        clear HA
                        simp only [bookplatelaw07_TranslitStays.l1] at H
                        by_cases c24 : x54_3 < (t577.length : Int)
                        · rw [if_pos c24] at H
                          have c24b0 : decide (x54_3 < (t577.length : Int)) = true := decide_eq_true c24
                          clear c24
                          by_cases c25 : 0 ≤ x54_3
                          · rw [if_pos c25] at H
                            have c25b0 : decide (0 ≤ x54_3) = true := decide_eq_true c25
                            clear c25
                            by_cases c26 : x54_3 < (t577.length : Int)
                            · rw [if_pos c26] at H
                              have c26b0 : decide (x54_3 < (t577.length : Int)) = true := decide_eq_true c26
                              clear c26
                              have H' := Aside0.mk H
                              clear H
                              have p581 : 0 ≤ (x54_3 : Int) := of_decide_eq_true (by first | (with_reducible assumption) | assumption)
                              have q581 : x54_3 < (t577.length : Int) := of_decide_eq_true (by first | (with_reducible assumption) | assumption)
                              obtain ⟨ad581, e581, hx581_0⟩ := Kd.at_int (Kd.R_reads' HO_52.out).2.2 x54_3 p581 q581
                              cases e581
                              replace p581 := eq_true p581
                              replace q581 := eq_true q581
                              obtain ⟨Ao27, co27, eo27⟩ := Kd.R_slice HO_5.out
                              subst eo27
                              go_wp2
                              go_loopg [60] k3 (fun kq v60 w' => ∃ (x60_4 : Int), v60 = .int .i64 x60_4 ∧ Aside0 (bookplatelaw07_TranslitStays.l2 kq l0 a1 t564 (rd t577 x54_3) l0 (l0.length : Int) x42_2 t577 (t577.length : Int) x54_3 t564 (t564.length : Int) x60_4 = some r) ∧ Aside0 (kq ≤ k3) ∧ Aside0 (Kd.R (Kd.int .i64) 3 w' w.heap.size (fun k_ => some k_ ≠ ((.slice (some ad581) t577.length co23) : Value).ownBlock) (.slice Ao27 t564.length co27) t564) ∧ Aside0 (Kd.R (Kd.int .i64) 3 w' w.heap.size (fun k_ => some k_ ≠ ((.slice Ao27 t564.length co27) : Value).ownBlock ∧ some k_ ≠ ((.slice Ao27 t564.length co27) : Value).ownBlock) (.slice (some ad581) t577.length co23) t577) ∧ Aside0 (Kd.R (Kd.int .i64) 3 w' w.heap.size (fun k_ => some k_ ≠ ((.slice (some ad581) t577.length co23) : Value).ownBlock) (.slice Ao27 t564.length co27) t564) ∧ Aside0 (w'.heap[gb576]? = some (.cells #[.string ((rd_T34 l0 x42_2).f0), .string ((rd_T34 l0 x42_2).f1)] 34 (0, 0))) ∧ Aside0 (Below w.heap.size w w'))
                              case atStart => exact ⟨(0), (by first | rfl | (simp; done) | (simp [*]; done)), H', ⟨Nat.le_refl _⟩, ⟨by (with_reducible repeat (first | apply Kd.R_alloc | apply Kd.R_drewN | apply Kd.R_drew)); exact HO_5.out⟩, ⟨by (with_reducible repeat (first | apply Kd.R_alloc | apply Kd.R_drewN | apply Kd.R_drew)); exact Kd.R_mono HO_52.out (fun _ hk => ⟨hk, hk⟩)⟩, ⟨by (with_reducible repeat (first | apply Kd.R_alloc | apply Kd.R_drewN | apply Kd.R_drew)); exact HO_5.out⟩, ⟨by (with_reducible repeat (first | refine blk_drewN ?_ _ | refine blk_drew ?_ | refine blk_alloc ?_ _)); exact BK576.out⟩, ⟨by repeat (first | (with_reducible first | exact HB.out | apply below_alloc | apply pw_below_drewN | apply below_drew1 | refine below_set ?_ GE576.out) | exact HB.out)⟩⟩
                              case round =>
                                clear H'
                                try clear c1
                                try clear c2
                                try clear p2
                                try clear c3
                                try clear c4
                                try clear p5
                                try clear q5
                                try clear hx5
                                try clear c9
                                try clear c10
                                try clear c11
                                try clear c11b0
                                try clear c11b1
                                try clear c12
                                try clear c15
                                try clear c16
                                try clear c16b0
                                try clear c17
                                try clear c17b0
                                try clear c18
                                try clear c18b0
                                try clear c24
                                try clear c24b0
                                try clear c25
                                try clear c25b0
                                try clear c26
                                try clear c26b0
                                try clear hcz21_0
                                try clear hcz21_1
                                try clear hfz21_0
                                try clear hfz21_1
                                try clear hx575_0
                                try clear hx575_1
                                try clear hx581_0
                                try clear p2
                                try clear p5
                                try clear p575
                                try clear p581
                                try clear q5
                                try clear q575
                                try clear q581
                                obtain ⟨x60_4, rfl, HA, HK4, HO_5, HO_52, HO_58, BK576, HB⟩ := hrel
                                cases gk with
                                | zero => exact absurd HA.out (by simp [bookplatelaw07_TranslitStays.l2])
                                | succ k4 =>
                                  have H := HA.out
                                  clear HA
                                  simp only [bookplatelaw07_TranslitStays.l2] at H
                                  by_cases c28 : x60_4 < (t564.length : Int)
                                  · rw [if_pos c28] at H
                                    have c28b0 : decide (x60_4 < (t564.length : Int)) = true := decide_eq_true c28
                                    clear c28
                                    by_cases c29 : 0 ≤ x60_4
                                    · rw [if_pos c29] at H
                                      have c29b0 : decide (0 ≤ x60_4) = true := decide_eq_true c29
                                      clear c29
                                      by_cases c30 : x60_4 < (t564.length : Int)
                                      · rw [if_pos c30] at H
                                        have c30b0 : decide (x60_4 < (t564.length : Int)) = true := decide_eq_true c30
                                        clear c30
                                        by_cases c31 : (rd t577 x54_3) = (rd t564 x60_4)
                                        · rw [if_pos c31] at H
                                          have c31b0 : ((rd t577 x54_3) == (rd t564 x60_4)) = true := beq_iff_eq.mpr c31
                                          have c31b1 : ((rd t577 x54_3) != (rd t564 x60_4)) = false := bne_eq_false_iff_eq.mpr c31
                                          clear c31
                                          obtain rfl := Option.some.inj H
                                          have p582 : 0 ≤ (x60_4 : Int) := of_decide_eq_true (by first | (with_reducible assumption) | assumption)
                                          have q582 : x60_4 < (t564.length : Int) := of_decide_eq_true (by first | (with_reducible assumption) | assumption)
                                          obtain ⟨ad582, e582, hx582_0⟩ := Kd.at_int (Kd.R_reads' HO_58.out).2.2 x60_4 p582 q582
                                          cases e582
                                          replace p582 := eq_true p582
                                          replace q582 := eq_true q582
                                          go_wp2
                                          go_ret
                                          exact ⟨by first | rfl | (simp [errW_none, errW_some] <;> rfl) | (simp [*, errW_none, errW_some] <;> rfl), by repeat (first | (with_reducible first | exact HB.out | apply below_alloc | apply pw_below_drewN | apply below_drew1 | refine below_set ?_ GE576.out) | exact HB.out)⟩
                                        · rw [if_neg c31] at H
                                          have c31b0 : ((rd t577 x54_3) == (rd t564 x60_4)) = false := beq_eq_false_iff_ne.mpr c31
                                          have c31b1 : ((rd t577 x54_3) != (rd t564 x60_4)) = true := bne_iff_ne.mpr c31
                                          have H' := Aside0.mk H
                                          clear H
                                          have p582 : 0 ≤ (x60_4 : Int) := of_decide_eq_true (by first | (with_reducible assumption) | assumption)
                                          have q582 : x60_4 < (t564.length : Int) := of_decide_eq_true (by first | (with_reducible assumption) | assumption)
                                          obtain ⟨ad582, e582, hx582_0⟩ := Kd.at_int (Kd.R_reads' HO_58.out).2.2 x60_4 p582 q582
                                          cases e582
                                          replace p582 := eq_true p582
                                          replace q582 := eq_true q582
                                          go_wp2
                                          go_roundg k4
                                          case measure => have := HJ5.out; have := HK2.out; have := HK3.out; have := HK4.out; omega
                                          case rel => exact ⟨(wrap64 (x60_4 + 1)), (by first | rfl | (simp; done) | (simp [*]; done)), H', ⟨by have := HJ5.out; have := HK2.out; have := HK3.out; have := HK4.out; omega⟩, ⟨by (with_reducible repeat (first | apply Kd.R_alloc | apply Kd.R_drewN | apply Kd.R_drew)); exact HO_5.out⟩, ⟨by (with_reducible repeat (first | apply Kd.R_alloc | apply Kd.R_drewN | apply Kd.R_drew)); exact HO_52.out⟩, ⟨by (with_reducible repeat (first | apply Kd.R_alloc | apply Kd.R_drewN | apply Kd.R_drew)); exact HO_58.out⟩, ⟨by (with_reducible repeat (first | refine blk_drewN ?_ _ | refine blk_drew ?_ | refine blk_alloc ?_ _)); exact BK576.out⟩, ⟨by repeat (first | (with_reducible first | exact HB.out | apply below_alloc | apply pw_below_drewN | apply below_drew1 | refine below_set ?_ GE576.out) | exact HB.out)⟩⟩
                                      · rw [if_neg c30] at H
                                        exact absurd H (by simp)
                                    · rw [if_neg c29] at H
                                      exact absurd H (by simp)
                                  · rw [if_neg c28] at H
                                    have c28b0 : decide (x60_4 < (t564.length : Int)) = false := decide_eq_false c28
                                    clear c28
                                    have H' := Aside0.mk H
                                    clear H
                                    go_wp2
                                    go_roundg k4
                                    case measure => have := HJ5.out; have := HK2.out; have := HK3.out; have := HK4.out; omega
                                    case rel => exact ⟨(wrap64 (x54_3 + 1)), (by first | rfl | (simp; done) | (simp [*]; done)), H', ⟨by have := HJ5.out; have := HK2.out; have := HK3.out; have := HK4.out; omega⟩, ⟨by (with_reducible repeat (first | apply Kd.R_alloc | apply Kd.R_drewN | apply Kd.R_drew)); exact HO_5.out⟩, ⟨by (with_reducible repeat (first | apply Kd.R_alloc | apply Kd.R_drewN | apply Kd.R_drew)); exact Kd.R_mono HO_52.out (fun _ hk => hk.1)⟩, ⟨by (with_reducible repeat (first | refine blk_drewN ?_ _ | refine blk_drew ?_ | refine blk_alloc ?_ _)); exact BK576.out⟩, ⟨by repeat (first | (with_reducible first | exact HB.out | apply below_alloc | apply pw_below_drewN | apply below_drew1 | refine below_set ?_ GE576.out) | exact HB.out)⟩⟩
                            · rw [if_neg c26] at H
                              exact absurd H (by simp)
                          · rw [if_neg c25] at H
                            exact absurd H (by simp)
                        · rw [if_neg c24] at H
                          have c24b0 : decide (x54_3 < (t577.length : Int)) = false := decide_eq_false c24
                          clear c24
                          have H' := Aside0.mk H
                          clear H
                          go_wp2
                          go_roundg k3
                          case measure => have := HJ5.out; have := HK2.out; have := HK3.out; omega
                          case rel => exact ⟨(wrap64 (x42_2 + 1)), (by first | rfl | (simp; done) | (simp [*]; done)), H', ⟨by have := HJ5.out; have := HK2.out; have := HK3.out; omega⟩, ⟨by (with_reducible repeat (first | apply Kd.R_alloc | apply Kd.R_drewN | apply Kd.R_drew)); exact Kd.R_mono HO_5.out (fun _ hk => trivial)⟩, ⟨by repeat (first | (with_reducible first | exact HB.out | apply below_alloc | apply pw_below_drewN | apply below_drew1 | refine below_set ?_ GE576.out) | exact HB.out)⟩⟩
                  · rw [if_neg c18] at H
                    exact absurd H (by simp)
                · rw [if_neg c17] at H
                  exact absurd H (by simp)
              · rw [if_neg c16] at H
                have c16b0 : decide (x42_2 < (l0.length : Int)) = false := decide_eq_false c16
                clear c16
                replace H := Option.bind_eq_some_iff.mp H
                obtain ⟨t570, A320, H⟩ := H
                replace H : ((translit_To.f k2 t570 a1).bind fun t573 => (if t573.toList = a1.toList then ((translit_Covers.f k2 t570 a1).bind fun t574 => (some (t574 == (a1.toList == ([] : List UInt8))))) else (some false))) = some r := H
                have A32 := Aside0.mk A320
                clear A320
                replace H := Option.bind_eq_some_iff.mp H
                obtain ⟨t573, A330, H⟩ := H
                replace H : (if t573.toList = a1.toList then ((translit_Covers.f k2 t570 a1).bind fun t574 => (some (t574 == (a1.toList == ([] : List UInt8))))) else (some false)) = some r := H
                have A33 := Aside0.mk A330
                clear A330
                by_cases c34 : t573.toList = a1.toList
                · rw [if_pos c34] at H
                  have c34b0 : (t573.toList == a1.toList) = true := beq_iff_eq.mpr c34
                  have c34b1 : (t573.toList != a1.toList) = false := bne_eq_false_iff_eq.mpr c34
                  clear c34
                  replace H := Option.bind_eq_some_iff.mp H
                  obtain ⟨t574, A350, H⟩ := H
                  replace H : (some (t574 == (a1.toList == ([] : List UInt8)))) = some r := H
                  have A35 := Aside0.mk A350
                  clear A350
                  obtain rfl := Option.some.inj H
                  go_wp2_with (first | ((with_reducible refine gate_callee (f := 19) rfl ?_); refine goesL_ (some 71) rfl rfl Tryd.func19 (by kernel_rfl) rfl #[.slice A0 l0.length c0] rfl (by (try simp only [List.map_toArray, List.map_cons, List.map_nil]); first | done | rfl | (simp only [List.length_drop, List.length_take]; rfl)) ?_; (with_reducible refine (bookplatelaw07_own.calls k2 _ _ l0 t570 _ ?side1 ?side2 A32.out).mono ?_); (case side1 => repeat (first | exact (Kd.C_below HR0.out HB.out) | (with_reducible refine Kd.C_alloc ?_ _) | (with_reducible refine Kd.C_drewN ?_ _) | (with_reducible refine Kd.C_drew ?_))); (case side2 => exact HC0.out); rintro e w36 ⟨v571, rfl, ho0, hb⟩; refine ⟨_, rfl, ?_⟩; have n0_ := Aside0.mk (Kd.R_below (by (with_reducible repeat (first | apply Kd.R_alloc | apply Kd.R_drewN | apply Kd.R_drew)); exact HO_5.out) hb); have n1_ := Aside0.mk (Kd.R_lower ho0 (below_size (by repeat (first | (with_reducible first | exact HB.out | apply below_alloc | apply pw_below_drewN | apply below_drew1) | exact HB.out)))); have n2_ := Aside0.mk (below_step (by repeat (first | (with_reducible first | exact HB.out | apply below_alloc | apply pw_below_drewN | apply below_drew1) | exact HB.out)) hb); clear HO_5; clear HB; have HO_5 := n0_; have HO572 := n1_; have HB := n2_; clear n0_ n1_ n2_; (try clear hb); (try clear hb2); (try clear hk); (try clear hi); (try clear ho0); obtain ⟨Ao37, co37, eo37⟩ := Kd.R_slice HO572.out; subst eo37) | ((with_reducible refine gate_callee (f := 24) rfl ?_); refine goesL_ (some 74) rfl rfl Tryd.func24 (by kernel_rfl) rfl #[.slice Ao37 t570.length co37, .string a1] rfl (by (try simp only [List.map_toArray, List.map_cons, List.map_nil]); first | done | rfl | (simp only [List.length_drop, List.length_take]; rfl)) ?_; (with_reducible refine (translit_To.calls k2 _ _ t570 a1 t573 _ ?side1 ?side2 ?side3 A33.out).mono ?_); (case side1 => repeat (first | exact (Kd.R_reads' HO572.out).2.2 | (with_reducible refine Kd.C_alloc ?_ _) | (with_reducible refine Kd.C_drewN ?_ _) | (with_reducible refine Kd.C_drew ?_))); (case side2 => exact (Kd.R_reads' HO572.out).2.1); (case side3 => exact GT1.below (HG.out.one) (by repeat (first | (with_reducible first | exact HB.out | apply below_alloc | apply pw_below_drewN | apply below_drew1) | exact HB.out))); rintro e w38 ⟨rfl, hb⟩; refine ⟨_, rfl, ?_⟩; have n0_ := Aside0.mk (Kd.R_below (by (with_reducible repeat (first | apply Kd.R_alloc | apply Kd.R_drewN | apply Kd.R_drew)); exact HO_5.out) hb); have n1_ := Aside0.mk (Kd.R_below (by (with_reducible repeat (first | apply Kd.R_alloc | apply Kd.R_drewN | apply Kd.R_drew)); exact HO572.out) hb); have n2_ := Aside0.mk (below_step (by repeat (first | (with_reducible first | exact HB.out | apply below_alloc | apply pw_below_drewN | apply below_drew1) | exact HB.out)) hb); clear HO_5; clear HO572; clear HB; have HO_5 := n0_; have HO572 := n1_; have HB := n2_; clear n0_ n1_ n2_; (try clear hb); (try clear hb2); (try clear hk); (try clear hi)) | (go_at_call 28; (with_reducible refine (translit_Covers.calls k2 _ _ t570 a1 t574 _ ?side1 ?side2 ?side3 A35.out).mono ?_); (case side1 => repeat (first | exact (Kd.R_reads' HO572.out).2.2 | (with_reducible refine Kd.C_alloc ?_ _) | (with_reducible refine Kd.C_drewN ?_ _) | (with_reducible refine Kd.C_drew ?_))); (case side2 => exact (Kd.R_reads' HO572.out).2.1); (case side3 => exact GT1.below (HG.out.one) (by repeat (first | (with_reducible first | exact HB.out | apply below_alloc | apply pw_below_drewN | apply below_drew1) | exact HB.out))); rintro e w39 ⟨rfl, hb⟩; have n0_ := Aside0.mk (Kd.R_below (by (with_reducible repeat (first | apply Kd.R_alloc | apply Kd.R_drewN | apply Kd.R_drew)); exact HO_5.out) hb); have n1_ := Aside0.mk (Kd.R_below (by (with_reducible repeat (first | apply Kd.R_alloc | apply Kd.R_drewN | apply Kd.R_drew)); exact HO572.out) hb); have n2_ := Aside0.mk (below_step (by repeat (first | (with_reducible first | exact HB.out | apply below_alloc | apply pw_below_drewN | apply below_drew1) | exact HB.out)) hb); clear HO_5; clear HO572; clear HB; have HO_5 := n0_; have HO572 := n1_; have HB := n2_; clear n0_ n1_ n2_; (try clear hb); (try clear hb2); (try clear hk); (try clear hi)))
                  go_ret
                  exact ⟨by first | rfl | (simp [errW_none, errW_some] <;> rfl) | (simp [*, errW_none, errW_some] <;> rfl), by repeat (first | (with_reducible first | exact HB.out | apply below_alloc | apply pw_below_drewN | apply below_drew1) | exact HB.out)⟩
                · rw [if_neg c34] at H
                  have c34b0 : (t573.toList == a1.toList) = false := beq_eq_false_iff_ne.mpr c34
                  have c34b1 : (t573.toList != a1.toList) = true := bne_iff_ne.mpr c34
                  obtain rfl := Option.some.inj H
                  go_wp2_with (first | ((with_reducible refine gate_callee (f := 19) rfl ?_); refine goesL_ (some 71) rfl rfl Tryd.func19 (by kernel_rfl) rfl #[.slice A0 l0.length c0] rfl (by (try simp only [List.map_toArray, List.map_cons, List.map_nil]); first | done | rfl | (simp only [List.length_drop, List.length_take]; rfl)) ?_; (with_reducible refine (bookplatelaw07_own.calls k2 _ _ l0 t570 _ ?side1 ?side2 A32.out).mono ?_); (case side1 => repeat (first | exact (Kd.C_below HR0.out HB.out) | (with_reducible refine Kd.C_alloc ?_ _) | (with_reducible refine Kd.C_drewN ?_ _) | (with_reducible refine Kd.C_drew ?_))); (case side2 => exact HC0.out); rintro e w40 ⟨v571, rfl, ho0, hb⟩; refine ⟨_, rfl, ?_⟩; have n0_ := Aside0.mk (Kd.R_below (by (with_reducible repeat (first | apply Kd.R_alloc | apply Kd.R_drewN | apply Kd.R_drew)); exact HO_5.out) hb); have n1_ := Aside0.mk (Kd.R_lower ho0 (below_size (by repeat (first | (with_reducible first | exact HB.out | apply below_alloc | apply pw_below_drewN | apply below_drew1) | exact HB.out)))); have n2_ := Aside0.mk (below_step (by repeat (first | (with_reducible first | exact HB.out | apply below_alloc | apply pw_below_drewN | apply below_drew1) | exact HB.out)) hb); clear HO_5; clear HB; have HO_5 := n0_; have HO572 := n1_; have HB := n2_; clear n0_ n1_ n2_; (try clear hb); (try clear hb2); (try clear hk); (try clear hi); (try clear ho0); obtain ⟨Ao41, co41, eo41⟩ := Kd.R_slice HO572.out; subst eo41) | ((with_reducible refine gate_callee (f := 24) rfl ?_); refine goesL_ (some 74) rfl rfl Tryd.func24 (by kernel_rfl) rfl #[.slice Ao41 t570.length co41, .string a1] rfl (by (try simp only [List.map_toArray, List.map_cons, List.map_nil]); first | done | rfl | (simp only [List.length_drop, List.length_take]; rfl)) ?_; (with_reducible refine (translit_To.calls k2 _ _ t570 a1 t573 _ ?side1 ?side2 ?side3 A33.out).mono ?_); (case side1 => repeat (first | exact (Kd.R_reads' HO572.out).2.2 | (with_reducible refine Kd.C_alloc ?_ _) | (with_reducible refine Kd.C_drewN ?_ _) | (with_reducible refine Kd.C_drew ?_))); (case side2 => exact (Kd.R_reads' HO572.out).2.1); (case side3 => exact GT1.below (HG.out.one) (by repeat (first | (with_reducible first | exact HB.out | apply below_alloc | apply pw_below_drewN | apply below_drew1) | exact HB.out))); rintro e w42 ⟨rfl, hb⟩; refine ⟨_, rfl, ?_⟩; have n0_ := Aside0.mk (Kd.R_below (by (with_reducible repeat (first | apply Kd.R_alloc | apply Kd.R_drewN | apply Kd.R_drew)); exact HO_5.out) hb); have n1_ := Aside0.mk (Kd.R_below (by (with_reducible repeat (first | apply Kd.R_alloc | apply Kd.R_drewN | apply Kd.R_drew)); exact HO572.out) hb); have n2_ := Aside0.mk (below_step (by repeat (first | (with_reducible first | exact HB.out | apply below_alloc | apply pw_below_drewN | apply below_drew1) | exact HB.out)) hb); clear HO_5; clear HO572; clear HB; have HO_5 := n0_; have HO572 := n1_; have HB := n2_; clear n0_ n1_ n2_; (try clear hb); (try clear hb2); (try clear hk); (try clear hi)))
                  go_ret
                  exact ⟨by first | rfl | (simp [errW_none, errW_some] <;> rfl) | (simp [*, errW_none, errW_some] <;> rfl), by repeat (first | (with_reducible first | exact HB.out | apply below_alloc | apply pw_below_drewN | apply below_drew1) | exact HB.out)⟩
  · replace c4 := Bool.eq_false_iff.mpr c4
    subst c4
    have H1 : (some false) = some r := by rw [if_neg (show ¬ (false = true) by decide)] at H; exact H
    clear H
    have H := H1
    clear H1
    obtain rfl := Option.some.inj H
    go_enter Tryd.func9, Tryd.ntmps9
    go_wp2_with (first | ((with_reducible refine gate_callee (f := 17) rfl ?_); refine goesL_ (some 16) rfl rfl Tryd.func17 (by kernel_rfl) rfl #[] rfl (by (try simp only [List.map_toArray, List.map_cons, List.map_nil]); first | done | rfl | (simp only [List.length_drop, List.length_take]; rfl)) ?_; (with_reducible refine (bookplatelaw07_awake.calls k  false _ ?side1 A3.out).mono ?_); (case side1 => exact GT2.below (HG.out) (by repeat (first | (with_reducible first | exact HB.out | apply below_alloc | apply pw_below_drewN | apply below_drew1) | exact HB.out))); rintro e w43 ⟨rfl, hb⟩; refine ⟨_, rfl, ?_⟩; have n0_ := Aside0.mk (below_step (by repeat (first | (with_reducible first | exact HB.out | apply below_alloc | apply pw_below_drewN | apply below_drew1) | exact HB.out)) hb); clear HB; have HB := n0_; clear n0_; (try clear hb); (try clear hb2); (try clear hk); (try clear hi)))
    go_ret
    exact ⟨by first | rfl | (simp [errW_none, errW_some] <;> rfl) | (simp [*, errW_none, errW_some] <;> rfl), by repeat (first | (with_reducible first | exact HB.out | apply below_alloc | apply pw_below_drewN | apply below_drew1) | exact HB.out)⟩
end Go.Proofs.YthcpdhniakpbaaaDoor.X
end

section
namespace Go.Proofs.YthcpdhniakpbaaaDoor.X
set_option linter.unusedVariables false
set_option linter.unusedSimpArgs false
open Go.RowKit Go.Proofs.YthcpdhniakpbaaaDoorW.PrintWords
theorem stays_law {t : List S41} (ht : EncF t) : ∀ (m : Nat) (cs : List Int), cs.length ≤ m → (∀ c ∈ cs, hasS c = true) → (∀ r ∈ t, ∀ c ∈ (decR [] r.f0.data.toList).1, c ∉ cs) → tr t m cs = (encL cs, (cs.length : Int))
  | m, [], hm, hh, hd => by rw [tr_nil]; rfl
  | 0, c :: cs, hm, hh, hd => by simp at hm
  | m + 1, c :: cs, hm, hh, hd => by
    have hb : (bestL (encL (c :: cs)) rule0 t).f0.size = 0 := by
      by_cases h : (bestL (encL (c :: cs)) rule0 t).f0.size = 0
      · exact h
      · exfalso
        obtain ⟨hmem, fs, r, h1, h2, h3, h4⟩ := best_split ht hh h
        cases fs with
        | nil => exact h1 rfl
        | cons d fs =>
          have hf : ∀ z ∈ d :: fs, hasS z = true := fun z hz => hh z (by rw [h2]; exact List.mem_append_left _ hz)
          have hdec : (decR [] (bestL (encL (c :: cs)) rule0 t).f0.data.toList).1 = d :: fs := by unfold decR; rw [decS_of h3 hf]; rfl
          have hcd : c = d := by have := congrArg (fun l => l.head?) h2; simpa using this
          exact hd _ hmem d (by rw [hdec]; simp) (by rw [hcd]; simp)
    have ih := stays_law ht m cs (by simp at hm; omega) (fun x hx => hh x (by simp [hx])) (fun r hr c hc hcs => hd r hr c hc (by simp [hcs]))
    rw [tr, if_pos hb, ih, encL_cons]
    simp
section
variable (x : List S34) (s : ByteArray) (l : List Int)
theorem stays_l2 (hl : l.length ≤ 1000) (m : List Int) (i p : Int) (c : Int) (F : Nat)
    (next : c ∉ l → ∀ k, F ≤ k → bookplatelaw07_TranslitStays.l1 k x s l x (x.length : Int) i m (m.length : Int) (wrap64 (p + 1)) = some true) :
    ∀ (n j k : Nat), l.length ≤ j + n → j ≤ l.length → (∀ q, q < j → l.getD q 0 ≠ c) → n + 1 + F ≤ k →
      bookplatelaw07_TranslitStays.l2 k x s l c x (x.length : Int) i m (m.length : Int) p l (l.length : Int) (j : Int) = some true := by
  intro n
  have done : ∀ (j k : Nat), j = l.length → (∀ q, q < j → l.getD q 0 ≠ c) → 1 + F ≤ k → bookplatelaw07_TranslitStays.l2 k x s l c x (x.length : Int) i m (m.length : Int) p l (l.length : Int) (j : Int) = some true := by
    rintro j k rfl hq hk
    obtain ⟨k, rfl⟩ : ∃ k', k = k' + 1 := ⟨k - 1, by omega⟩
    rw [bookplatelaw07_TranslitStays.l2, if_neg (by omega)]
    refine next (fun hc => ?_) k (by omega)
    obtain ⟨q, hql, rfl⟩ := List.mem_iff_getElem.1 hc
    exact hq q hql (by simp [hql])
  induction n with
  | zero => intro j k h1 h2 hq hk; exact done j k (by omega) hq (by omega)
  | succ n ih =>
    intro j k h1 h2 hq hk
    by_cases e : j = l.length
    · exact done j k e hq (by omega)
    · obtain ⟨k, rfl⟩ : ∃ k', k = k' + 1 := ⟨k - 1, by omega⟩
      rw [bookplatelaw07_TranslitStays.l2, if_pos (by omega), if_pos (by omega), if_pos (by omega), w64 (n := (j : Int) + 1) (by omega) (by omega)]
      have hrd : rd l (j : Int) = l.getD j 0 := by simp [rd]
      by_cases hc : c = rd l (j : Int)
      · rw [if_pos hc]
      · rw [if_neg hc, show ((j : Int) + 1) = ((j + 1 : Nat) : Int) by omega]
        refine ih (j + 1) k (by omega) (by omega) (fun q hql => ?_) (by omega)
        rcases Nat.lt_or_eq_of_le (Nat.le_of_lt_succ hql) with h | rfl
        · exact hq q h
        · exact fun h => hc (by rw [hrd, h])
theorem stays_l1 (hl : l.length ≤ 1000) (m : List Int) (hm : m.length ≤ 1000) (i : Int) (F : Nat)
    (next : (∀ c ∈ m, c ∉ l) → ∀ k, F ≤ k → bookplatelaw07_TranslitStays.l0 k x s l x (x.length : Int) (wrap64 (i + 1)) = some true) :
    ∀ (n p k : Nat), m.length ≤ p + n → p ≤ m.length → (∀ q, q < p → m.getD q 0 ∉ l) → n * (l.length + 2) + 1 + F ≤ k →
      bookplatelaw07_TranslitStays.l1 k x s l x (x.length : Int) i m (m.length : Int) (p : Int) = some true := by
  intro n
  have done : ∀ (p k : Nat), p = m.length → (∀ q, q < p → m.getD q 0 ∉ l) → 1 + F ≤ k → bookplatelaw07_TranslitStays.l1 k x s l x (x.length : Int) i m (m.length : Int) (p : Int) = some true := by
    rintro p k rfl hq hk
    obtain ⟨k, rfl⟩ : ∃ k', k = k' + 1 := ⟨k - 1, by omega⟩
    rw [bookplatelaw07_TranslitStays.l1, if_neg (by omega)]
    refine next (fun c hc => ?_) k (by omega)
    obtain ⟨q, hql, rfl⟩ := List.mem_iff_getElem.1 hc
    have := hq q hql
    simpa [hql] using this
  induction n with
  | zero => intro p k h1 h2 hq hk; exact done p k (by omega) hq (by omega)
  | succ n ih =>
    intro p k h1 h2 hq hk
    rw [valid_mul] at hk
    by_cases e : p = m.length
    · exact done p k e hq (by omega)
    · obtain ⟨k, rfl⟩ : ∃ k', k = k' + 1 := ⟨k - 1, by omega⟩
      rw [bookplatelaw07_TranslitStays.l1, if_pos (by omega), if_pos (by omega), if_pos (by omega)]
      have hrd : rd m (p : Int) = m.getD p 0 := by simp [rd]
      refine stays_l2 x s l hl m i (p : Int) (rd m (p : Int)) (n * (l.length + 2) + 1 + F) (fun hc k hk => ?_) l.length 0 k (by omega) (by omega) (fun q hq => by omega) (by omega)
      rw [w64 (by omega) (by omega), show ((p : Int) + 1) = ((p + 1 : Nat) : Int) by omega]
      refine ih (p + 1) k (by omega) (by omega) (fun q hql => ?_) (by omega)
      rcases Nat.lt_or_eq_of_le (Nat.le_of_lt_succ hql) with h | rfl
      · exact hq q h
      · rw [← hrd]; exact hc
theorem stays_l0 (hl : l.length ≤ 40) (hx : x.length ≤ 90) (hf : FewS (tab x)) (F : Nat) (hF : 2000 ≤ F)
    (fin : (∀ r ∈ tab x, ∀ c ∈ (decR [] r.f0.data.toList).1, c ∉ l) → ∀ k, F ≤ k → bookplatelaw07_TranslitStays.l0 k x s l x (x.length : Int) (x.length : Int) = some true) :
    ∀ (n i k : Nat), x.length ≤ i + n → i ≤ x.length → (∀ q, q < i → ∀ c ∈ (decR [] (ru (tab x) q).f0.data.toList).1, c ∉ l) → n * 1300 + F ≤ k →
      bookplatelaw07_TranslitStays.l0 k x s l x (x.length : Int) (i : Int) = some true := by
  intro n
  have done : ∀ (i k : Nat), i = x.length → (∀ q, q < i → ∀ c ∈ (decR [] (ru (tab x) q).f0.data.toList).1, c ∉ l) → F ≤ k → bookplatelaw07_TranslitStays.l0 k x s l x (x.length : Int) (i : Int) = some true := by
    rintro i k rfl hq hk
    refine fin (fun r hr => ?_) k hk
    obtain ⟨q, hql, rfl⟩ := mem_ru hr
    exact hq q (by rw [tab_length] at hql; exact hql)
  induction n with
  | zero => intro i k h1 h2 hq hk; exact done i k (by omega) hq (by omega)
  | succ n ih =>
    intro i k h1 h2 hq hk
    by_cases e : i = x.length
    · exact done i k e hq (by omega)
    · obtain ⟨k, rfl⟩ : ∃ k', k = k' + 1 := ⟨k - 1, by omega⟩
      have hlt : i < (tab x).length := by rw [tab_length]; omega
      have hz := (hf.1 _ (ru_mem hlt)).1
      have hml : (decR [] (ru (tab x) i).f0.data.toList).1.length ≤ 30 := by
        unfold decR
        cases hd : decS hasS (ru (tab x) i).f0.data.toList with
        | none => simp
        | some cs => have := decS_len hd; rw [dlen] at this; simp; omega
      rw [bookplatelaw07_TranslitStays.l0, if_pos (by omega), if_pos (by omega), if_pos (by omega), rd0, rd_ru, refDecode_eq _ (by omega) k (by omega)]
      simp only [Option.bind_some]
      generalize hm : (decR [] (ru (tab x) i).f0.data.toList).1 = m at hml
      have hmul : m.length * (l.length + 2) ≤ 30 * 42 := Nat.mul_le_mul hml (by omega)
      refine stays_l1 x s l (by omega) m (by omega) (i : Int) (n * 1300 + F) (fun hc k hk => ?_) m.length 0 k (by omega) (by omega) (fun q hq => by omega) (by omega)
      rw [w64 (by omega) (by omega), show ((i : Int) + 1) = ((i + 1 : Nat) : Int) by omega]
      refine ih (i + 1) k (by omega) (by omega) (fun q hql => ?_) (by omega)
      rcases Nat.lt_or_eq_of_le (Nat.le_of_lt_succ hql) with h | rfl
      · exact hq q h
      · rw [hm]; exact hc
end
theorem transStays_true (x : List S34) (s : ByteArray) (hx : x.length ≤ 9223372036854775807) (hs : s.size ≤ 1048576) : ∃ k, bookplatelaw07_TranslitStays.f k x s = some true := by
  obtain ⟨k, hk⟩ : ∃ k, x.length + 2400000 ≤ k := ⟨_, Nat.le_refl _⟩
  refine ⟨k, ?_⟩
  obtain ⟨k, rfl⟩ : ∃ k', k = k' + 1 := ⟨k - 1, by omega⟩
  unfold bookplatelaw07_TranslitStays.f
  rw [awake_eq _ (by omega), refDecode_eq s (by omega) _ (by omega), few_eq x hx _ (by omega)]
  simp only [Option.bind_some, if_true, bookplatelaw07_TranslitStays.j0]
  by_cases hf : FewS (tab x)
  · rw [decide_eq_true hf, if_pos rfl]
    by_cases hs4 : (s.size : Int) > 40
    · rw [if_pos hs4]
    · rw [if_neg hs4]
      have h9 : x.length ≤ 90 := by have := hf.2; rw [tab_length] at this; exact this
      unfold decR
      cases hd : decS hasS s.data.toList with
      | none => simp
      | some cs =>
        simp only [if_true, List.nil_append]
        rw [refValid_eq x hf _ (by omega)]
        simp only [Option.bind_some]
        by_cases hv : validS (tab x) = true
        · rw [hv]
          simp only [Bool.not_true, Bool.false_eq_true, if_false]
          have hl := decS_len hd
          rw [dlen] at hl
          obtain ⟨h1, h2⟩ := decS_iff.1 hd
          refine stays_l0 x s cs (by omega) h9 hf 100000 (by omega) (fun hno k hk => ?_) x.length 0 k (by omega) (by omega) (fun q hq => by omega) (by omega)
          obtain ⟨k, rfl⟩ : ∃ k', k = k' + 1 := ⟨k - 1, by omega⟩
          rw [bookplatelaw07_TranslitStays.l0, if_neg (by omega), own_eq x (by omega) k (by omega)]
          simp only [Option.bind_some]
          rw [to_eq hf s (by omega) k (by omega)]
          simp only [Option.bind_some]
          have hlaw := stays_law (valid_F hv) cs.length cs (Nat.le_refl _) (fun c hc => (h2 c hc).2) hno
          have e1 : toS (tab x) s = s := by
            unfold toS trS
            rw [if_pos hv, hd]
            simp only [Option.map_some]
            rw [hlaw, ← h1]
          have e2 : covS (tab x) s = (s.toList == ([] : List UInt8)) := by
            unfold covS trS
            rw [if_pos hv, hd]
            simp only [Option.map_some]
            rw [hlaw, Lib.toList_data, h1, Bool.eq_iff_iff, beq_iff_eq, beq_iff_eq]
            have := encL_ge cs
            constructor
            · intro h
              have : cs = [] := List.length_eq_zero_iff.1 (by omega)
              rw [this]; rfl
            · intro h
              rw [h] at this
              simp at this
              simp [this]
          rw [e1, if_pos rfl, cov_eq hf s (by omega) k (by omega), e2]
          simp
        · rw [Bool.eq_false_iff.mpr hv]
          rfl
  · rw [decide_eq_false hf, if_neg (by decide)]
end Go.Proofs.YthcpdhniakpbaaaDoor.X
end
