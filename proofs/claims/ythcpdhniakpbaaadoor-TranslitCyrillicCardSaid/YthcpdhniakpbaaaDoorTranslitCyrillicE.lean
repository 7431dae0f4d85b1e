/- The law TranslitCyrillic returns true for every input, the package variables that it reads holding what the row lists. Part 5 of the texts that its proof stands on; put together by a program. -/
import Derived.Test.YthcpdhniakpbaaaDoorTranslitCyrillicD
import Derived.KernelRfl
section
namespace Go.Proofs.YthcpdhniakpbaaaDoor.X
open Go.RowKit Go.Proofs.YthcpdhniakpbaaaDoorW.PrintWords Go.Proofs.YthcpdhniakpbaaaDoorW.PrintLast Go.Proofs.YthcpdhniakpbaaaDoorW.PrintMore
attribute [local go_sem] max2_int min2_int max_two min_two max_three min_three max_four min_four
set_option linter.unusedVariables false
set_option linter.unusedSimpArgs false
mutual
def translit_Reversible.l0 : Nat → List (S41) → List (S41) → Int → Int → Option (Bool)
  | 0, _, _, _, _ => none
  | k + 1, x0, x7, x8, x9 => if x9 < x8 then (if 0 ≤ x9 then (if x9 < (x7.length : Int) then (translit_Reversible.l1 k x0 x9 x7 x8 x9 x0 (x0.length : Int) 0 ((rd_T41 x7 x9).f0) ((rd_T41 x7 x9).f1)) else (none)) else (none)) else ((translit_Valid.f x0).bind fun t427 => (some t427))
def translit_Reversible.l1 : Nat → List (S41) → Int → List (S41) → Int → Int → List (S41) → Int → Int → ByteArray → ByteArray → Option (Bool)
  | 0, _, _, _, _, _, _, _, _, _, _ => none
  | k + 1, x0, x3, x7, x8, x9, x14, x15, x16, x430000, x430001 => if x16 < x15 then (if 0 ≤ x16 then (if x16 < (x14.length : Int) then (if x3 = x16 then (translit_Reversible.l1 k x0 x3 x7 x8 x9 x14 x15 (wrap64 (x16 + 1)) x430000 x430001) else ((strings_HasPrefix.f x430001 ((rd_T41 x14 x16).f1)).bind fun t432 => (if t432 = true then (some false) else (translit_Reversible.l1 k x0 x3 x7 x8 x9 x14 x15 (wrap64 (x16 + 1)) x430000 x430001)))) else (none)) else (none)) else (translit_Reversible.l0 k x0 x7 x8 (wrap64 (x9 + 1)))
end
def translit_Reversible.f (k : Nat) (l0 : List (S41)) : Option (Bool) := translit_Reversible.l0 k l0 l0 (l0.length : Int) 0
set_option maxHeartbeats 8000000 in
set_option maxRecDepth 100000 in
theorem translit_Reversible.calls (k : Nat) (A0 : Option Addr) (c0 : Nat) (l0 : List (S41)) (r : Bool) (w : World) (hr0 : Kd.C k41 w A0 l0.length l0) (hc0 : l0.length ≤ c0) (hG : GT1 w) (h : translit_Reversible.f k l0 = some r) :
    Calls Tryd.prog 22 #[.slice A0 l0.length c0] w fun e w' => e = .returned (.bool r) ∧ Below w.heap.size w w' := by
  have HG := Aside0.mk hG
  clear hG
  have hu41 := Tryd.underlying41
  have HR0 := Aside0.mk hr0
  have HC0 := Aside0.mk hc0
  clear hr0 hc0
  have HB := Aside0.mk (Below.refl w.heap.size w)
  have H : (translit_Reversible.l0 k l0 l0 (l0.length : Int) 0) = some r := h
  clear h
  have H' := Aside0.mk H
  clear H
  go_enter Tryd.func22, Tryd.ntmps22
  go_wp2
  go_loopg [9] k (fun kq v9 w' => ∃ (x9_1 : Int), v9 = .int .i64 x9_1 ∧ Aside0 (translit_Reversible.l0 kq l0 l0 (l0.length : Int) x9_1 = some r) ∧ Aside0 (kq ≤ k) ∧ Aside0 (Below w.heap.size w w'))
  case atStart => exact ⟨(0), (by first | rfl | (simp; done) | (simp [*]; done)), H', ⟨Nat.le_refl _⟩, ⟨by repeat (first | (with_reducible first | exact HB.out | apply below_alloc | apply pw_below_drewN | apply below_drew1) | exact HB.out)⟩⟩
  case round =>
    clear H'
    obtain ⟨x9_1, rfl, HA, HK1, HB⟩ := hrel
    cases gk with
    | zero => exact absurd HA.out (by simp [translit_Reversible.l0])
    | succ k1 =>
      have H := HA.out
      clear HA
      simp only [translit_Reversible.l0] at H
      by_cases c2 : x9_1 < (l0.length : Int)
      · rw [if_pos c2] at H
        have c2b0 : decide (x9_1 < (l0.length : Int)) = true := decide_eq_true c2
        clear c2
        by_cases c3 : 0 ≤ x9_1
        · rw [if_pos c3] at H
          have c3b0 : decide (0 ≤ x9_1) = true := decide_eq_true c3
          clear c3
          by_cases c4 : x9_1 < (l0.length : Int)
          · rw [if_pos c4] at H
            have c4b0 : decide (x9_1 < (l0.length : Int)) = true := decide_eq_true c4
            clear c4
            have H' := Aside0.mk H
            clear H
            have p428 : 0 ≤ (x9_1 : Int) := of_decide_eq_true (by first | (with_reducible assumption) | assumption)
            have q428 : x9_1 < (l0.length : Int) := of_decide_eq_true (by first | (with_reducible assumption) | assumption)
            obtain ⟨ad428, e428, hx428_0, hx428_1⟩ := at_T41 HR0.out x9_1 p428 q428
            cases e428
            replace hx428_0 := (HB.out.cell (World.block_lt_of_cell? w _ hx428_0)).trans hx428_0
            replace hx428_1 := (HB.out.cell (World.block_lt_of_cell? w _ hx428_1)).trans hx428_1
            replace p428 := eq_true p428
            replace q428 := eq_true q428
            go_wp2_with (first | ((with_reducible refine gate_dst (N := 4) rfl ?_); refine box_event ?hg (N := 4) ?hd (cs := #[.string (⟨#[]⟩ : ByteArray), .string (⟨#[]⟩ : ByteArray)]) (t := 41) ?hr ?_; (case hd => rfl); (case hg => rfl); (case hr => first | (go_simp; done) | (go_simp; rfl)); intro gb429 hg w5 hbox hb; have n0_ := Aside0.mk (below_step (by repeat (first | (with_reducible first | exact HB.out | apply below_alloc | apply pw_below_drewN | apply below_drew1) | exact HB.out)) hb); have n1_ := Aside0.mk (hbox); have n2_ := Aside0.mk ((by rw [hg]; exact (below_size (by repeat (first | (with_reducible first | exact HB.out | apply below_alloc | apply pw_below_drewN | apply below_drew1) | exact HB.out))) : w.heap.size ≤ gb429)); have n3_ := Aside0.mk ((by rw [hg]; exact (below_size (by repeat (first | (with_reducible first | exact HB.out | apply below_alloc | apply pw_below_drewN | apply below_drew1) | exact HB.out))) : w.heap.size ≤ gb429)); clear HB; have HB := n0_; have BK429 := n1_; have GW429 := n2_; have GE429 := n3_; clear n0_ n1_ n2_ n3_; clear hb hbox hg; have hcz6_0 : w5.cell? ⟨gb429, 0, none⟩ = some (.string (⟨#[]⟩ : ByteArray)) := (blk_cell BK429.out 0).trans rfl; have hcz6_1 : w5.cell? ⟨gb429, 1, none⟩ = some (.string (⟨#[]⟩ : ByteArray)) := (blk_cell BK429.out 1).trans rfl; have hfz6_0 := blk_frozen BK429.out 0; have hfz6_1 := blk_frozen BK429.out 1))
            go_loopg [16] k1 (fun kq v16 w' => ∃ (x16_2 : Int), v16 = .int .i64 x16_2 ∧ Aside0 (translit_Reversible.l1 kq l0 x9_1 l0 (l0.length : Int) x9_1 l0 (l0.length : Int) x16_2 ((rd_T41 l0 x9_1).f0) ((rd_T41 l0 x9_1).f1) = some r) ∧ Aside0 (kq ≤ k1) ∧ Aside0 (w'.heap[gb429]? = some (.cells #[.string ((rd_T41 l0 x9_1).f0), .string ((rd_T41 l0 x9_1).f1)] 41 (0, 0))) ∧ Aside0 (Below w.heap.size w w'))
            case atStart => exact ⟨(0), (by first | rfl | (simp; done) | (simp [*]; done)), H', ⟨Nat.le_refl _⟩, ⟨by (with_reducible repeat (first | refine blk_drewN ?_ _ | refine blk_drew ?_ | refine blk_alloc ?_ _)); refine blk_put (cs := #[.string ((rd_T41 l0 x9_1).f0), .string (⟨#[]⟩ : ByteArray)]) ?_ 1 _ rfl; (with_reducible repeat (first | refine blk_drewN ?_ _ | refine blk_drew ?_ | refine blk_alloc ?_ _)); refine blk_put (cs := #[.string (⟨#[]⟩ : ByteArray), .string (⟨#[]⟩ : ByteArray)]) ?_ 0 _ rfl; (with_reducible repeat (first | refine blk_drewN ?_ _ | refine blk_drew ?_ | refine blk_alloc ?_ _)); exact BK429.out⟩, ⟨by repeat (first | (with_reducible first | exact HB.out | apply below_alloc | apply pw_below_drewN | apply below_drew1 | refine below_set ?_ GE429.out) | exact HB.out)⟩⟩
            case round =>
              clear H'
              try clear c2
              try clear c2b0
              try clear p2
              try clear c3
              try clear c3b0
              try clear c4
              try clear c4b0
              try clear p4
              try clear q4
              try clear hx4
              try clear hcz6_0
              try clear hcz6_1
              try clear hfz6_0
              try clear hfz6_1
              try clear hx428_0
              try clear hx428_1
              try clear p428
              try clear q428
              obtain ⟨x16_2, rfl, HA, HK2, BK429, HB⟩ := hrel
              cases gk with
              | zero => exact absurd HA.out (by simp [translit_Reversible.l1])
              | succ k2 =>
                have H := HA.out
                clear HA
                simp only [translit_Reversible.l1] at H
                by_cases c7 : x16_2 < (l0.length : Int)
                · rw [if_pos c7] at H
                  have c7b0 : decide (x16_2 < (l0.length : Int)) = true := decide_eq_true c7
                  clear c7
                  by_cases c8 : 0 ≤ x16_2
                  · rw [if_pos c8] at H
                    have c8b0 : decide (0 ≤ x16_2) = true := decide_eq_true c8
                    clear c8
                    by_cases c9 : x16_2 < (l0.length : Int)
                    · rw [if_pos c9] at H
                      have c9b0 : decide (x16_2 < (l0.length : Int)) = true := decide_eq_true c9
                      clear c9
                      by_cases c10 : x9_1 = x16_2
                      · rw [if_pos c10] at H
                        have c10b0 : (x9_1 == x16_2) = true := beq_iff_eq.mpr c10
                        have c10b1 : (x9_1 != x16_2) = false := bne_eq_false_iff_eq.mpr c10
                        clear c10
                        have H' := Aside0.mk H
                        clear H
                        have p430 : 0 ≤ (x16_2 : Int) := of_decide_eq_true (by first | (with_reducible assumption) | assumption)
                        have q430 : x16_2 < (l0.length : Int) := of_decide_eq_true (by first | (with_reducible assumption) | assumption)
                        obtain ⟨ad430, e430, hx430_0, hx430_1⟩ := at_T41 HR0.out x16_2 p430 q430
                        obtain rfl : ad428 = ad430 := (by injection e430)
                        replace hx430_0 := (HB.out.cell (World.block_lt_of_cell? w _ hx430_0)).trans hx430_0
                        replace hx430_1 := (HB.out.cell (World.block_lt_of_cell? w _ hx430_1)).trans hx430_1
                        replace p430 := eq_true p430
                        replace q430 := eq_true q430
                        go_wp2_with (first | ((with_reducible refine gate_dst (N := 6) rfl ?_); refine box_event ?hg (N := 6) ?hd (cs := #[.string (⟨#[]⟩ : ByteArray), .string (⟨#[]⟩ : ByteArray)]) (t := 41) ?hr ?_; (case hd => rfl); (case hg => rfl); (case hr => first | (go_simp; done) | (go_simp; rfl)); intro gb431 hg w11 hbox hb; have n0_ := Aside0.mk (blk_below (g := gb429) (o := .cells #[.string ((rd_T41 l0 x9_1).f0), .string ((rd_T41 l0 x9_1).f1)] 41 (0, 0)) (by (with_reducible repeat (first | refine blk_drewN ?_ _ | refine blk_drew ?_ | refine blk_alloc ?_ _)); exact BK429.out) hb); have n1_ := Aside0.mk (below_step (by repeat (first | (with_reducible first | exact HB.out | apply below_alloc | apply pw_below_drewN | apply below_drew1 | refine below_set ?_ GE429.out) | exact HB.out)) hb); have n2_ := Aside0.mk (hbox); have n3_ := Aside0.mk ((by rw [hg]; exact (below_size (by repeat (first | (with_reducible first | exact HB.out | apply below_alloc | apply pw_below_drewN | apply below_drew1 | refine below_set ?_ GE429.out) | exact HB.out))) : w.heap.size ≤ gb431)); have n4_ := Aside0.mk ((by rw [hg]; exact (below_size (by repeat (first | (with_reducible first | exact HB.out | apply below_alloc | apply pw_below_drewN | apply below_drew1 | refine below_set ?_ GE429.out) | exact HB.out))) : w.heap.size ≤ gb431)); have n5_ := Aside0.mk ((by rw [hg]; exact Nat.ne_of_lt (blk_lt (g := gb429) (o := .cells #[.string ((rd_T41 l0 x9_1).f0), .string ((rd_T41 l0 x9_1).f1)] 41 (0, 0)) (by (with_reducible repeat (first | refine blk_drewN ?_ _ | refine blk_drew ?_ | refine blk_alloc ?_ _)); exact BK429.out)) : gb429 ≠ gb431)); have n6_ := Aside0.mk ((by rw [hg]; exact Nat.ne_of_gt (blk_lt (g := gb429) (o := .cells #[.string ((rd_T41 l0 x9_1).f0), .string ((rd_T41 l0 x9_1).f1)] 41 (0, 0)) (by (with_reducible repeat (first | refine blk_drewN ?_ _ | refine blk_drew ?_ | refine blk_alloc ?_ _)); exact BK429.out)) : gb431 ≠ gb429)); clear BK429; clear HB; have BK429 := n0_; have HB := n1_; have BK431 := n2_; have GW431 := n3_; have GE431 := n4_; have NB429_431 := n5_; have NB431_429 := n6_; clear n0_ n1_ n2_ n3_ n4_ n5_ n6_; clear hb hbox hg; have hnb12 := NB431_429.out; have hnc12 := NB429_431.out; have hcz13_0 : w11.cell? ⟨gb431, 0, none⟩ = some (.string (⟨#[]⟩ : ByteArray)) := (blk_cell BK431.out 0).trans rfl; have hcz13_1 : w11.cell? ⟨gb431, 1, none⟩ = some (.string (⟨#[]⟩ : ByteArray)) := (blk_cell BK431.out 1).trans rfl; have hfz13_0 := blk_frozen BK431.out 0; have hfz13_1 := blk_frozen BK431.out 1))
                        go_roundg k2
                        case measure => have := HK1.out; have := HK2.out; omega
                        case rel => exact ⟨(wrap64 (x16_2 + 1)), (by first | rfl | (simp; done) | (simp [*]; done)), H', ⟨by have := HK1.out; have := HK2.out; omega⟩, ⟨by (with_reducible repeat (first | refine blk_drewN ?_ _ | refine blk_drew ?_ | refine blk_alloc ?_ _)); refine blk_far ?_ NB429_431.out _; (with_reducible repeat (first | refine blk_drewN ?_ _ | refine blk_drew ?_ | refine blk_alloc ?_ _)); refine blk_far ?_ NB429_431.out _; (with_reducible repeat (first | refine blk_drewN ?_ _ | refine blk_drew ?_ | refine blk_alloc ?_ _)); exact BK429.out⟩, ⟨by repeat (first | (with_reducible first | exact HB.out | apply below_alloc | apply pw_below_drewN | apply below_drew1 | refine below_set ?_ GE429.out | refine below_set ?_ GE431.out) | exact HB.out)⟩⟩
                      · rw [if_neg c10] at H
                        have c10b0 : (x9_1 == x16_2) = false := beq_eq_false_iff_ne.mpr c10
                        have c10b1 : (x9_1 != x16_2) = true := bne_iff_ne.mpr c10
                        replace H := Option.bind_eq_some_iff.mp H
                        obtain ⟨t432, A140, H⟩ := H
                        replace H : (if t432 = true then (some false) else (translit_Reversible.l1 k2 l0 x9_1 l0 (l0.length : Int) x9_1 l0 (l0.length : Int) (wrap64 (x16_2 + 1)) ((rd_T41 l0 x9_1).f0) ((rd_T41 l0 x9_1).f1))) = some r := H
                        have A14 := Aside0.mk A140
                        clear A140
                        by_cases c15 : t432 = true
                        · subst c15
                          have H1 : (some false) = some r := by rw [if_pos rfl] at H; exact H
                          clear H
                          have H := H1
                          clear H1
                          obtain rfl := Option.some.inj H
                          have p430 : 0 ≤ (x16_2 : Int) := of_decide_eq_true (by first | (with_reducible assumption) | assumption)
                          have q430 : x16_2 < (l0.length : Int) := of_decide_eq_true (by first | (with_reducible assumption) | assumption)
                          obtain ⟨ad430, e430, hx430_0, hx430_1⟩ := at_T41 HR0.out x16_2 p430 q430
                          obtain rfl : ad428 = ad430 := (by injection e430)
                          replace hx430_0 := (HB.out.cell (World.block_lt_of_cell? w _ hx430_0)).trans hx430_0
                          replace hx430_1 := (HB.out.cell (World.block_lt_of_cell? w _ hx430_1)).trans hx430_1
                          replace p430 := eq_true p430
                          replace q430 := eq_true q430
                          go_wp2_with (first | ((with_reducible refine gate_dst (N := 6) rfl ?_); refine box_event ?hg (N := 6) ?hd (cs := #[.string (⟨#[]⟩ : ByteArray), .string (⟨#[]⟩ : ByteArray)]) (t := 41) ?hr ?_; (case hd => rfl); (case hg => rfl); (case hr => first | (go_simp; done) | (go_simp; rfl)); intro gb431 hg w16 hbox hb; have n0_ := Aside0.mk (blk_below (g := gb429) (o := .cells #[.string ((rd_T41 l0 x9_1).f0), .string ((rd_T41 l0 x9_1).f1)] 41 (0, 0)) (by (with_reducible repeat (first | refine blk_drewN ?_ _ | refine blk_drew ?_ | refine blk_alloc ?_ _)); exact BK429.out) hb); have n1_ := Aside0.mk (below_step (by repeat (first | (with_reducible first | exact HB.out | apply below_alloc | apply pw_below_drewN | apply below_drew1 | refine below_set ?_ GE429.out) | exact HB.out)) hb); have n2_ := Aside0.mk (hbox); have n3_ := Aside0.mk ((by rw [hg]; exact (below_size (by repeat (first | (with_reducible first | exact HB.out | apply below_alloc | apply pw_below_drewN | apply below_drew1 | refine below_set ?_ GE429.out) | exact HB.out))) : w.heap.size ≤ gb431)); have n4_ := Aside0.mk ((by rw [hg]; exact (below_size (by repeat (first | (with_reducible first | exact HB.out | apply below_alloc | apply pw_below_drewN | apply below_drew1 | refine below_set ?_ GE429.out) | exact HB.out))) : w.heap.size ≤ gb431)); have n5_ := Aside0.mk ((by rw [hg]; exact Nat.ne_of_lt (blk_lt (g := gb429) (o := .cells #[.string ((rd_T41 l0 x9_1).f0), .string ((rd_T41 l0 x9_1).f1)] 41 (0, 0)) (by (with_reducible repeat (first | refine blk_drewN ?_ _ | refine blk_drew ?_ | refine blk_alloc ?_ _)); exact BK429.out)) : gb429 ≠ gb431)); have n6_ := Aside0.mk ((by rw [hg]; exact Nat.ne_of_gt (blk_lt (g := gb429) (o := .cells #[.string ((rd_T41 l0 x9_1).f0), .string ((rd_T41 l0 x9_1).f1)] 41 (0, 0)) (by (with_reducible repeat (first | refine blk_drewN ?_ _ | refine blk_drew ?_ | refine blk_alloc ?_ _)); exact BK429.out)) : gb431 ≠ gb429)); clear BK429; clear HB; have BK429 := n0_; have HB := n1_; have BK431 := n2_; have GW431 := n3_; have GE431 := n4_; have NB429_431 := n5_; have NB431_429 := n6_; clear n0_ n1_ n2_ n3_ n4_ n5_ n6_; clear hb hbox hg; have hnb17 := NB431_429.out; have hnc17 := NB429_431.out; have hcz18_0 : w16.cell? ⟨gb431, 0, none⟩ = some (.string (⟨#[]⟩ : ByteArray)) := (blk_cell BK431.out 0).trans rfl; have hcz18_1 : w16.cell? ⟨gb431, 1, none⟩ = some (.string (⟨#[]⟩ : ByteArray)) := (blk_cell BK431.out 1).trans rfl; have hfz18_0 := blk_frozen BK431.out 0; have hfz18_1 := blk_frozen BK431.out 1; have hcz19_0 : w16.cell? ⟨gb429, 0, none⟩ = some (.string ((rd_T41 l0 x9_1).f0)) := (blk_cell BK429.out 0).trans rfl; have hcz19_1 : w16.cell? ⟨gb429, 1, none⟩ = some (.string ((rd_T41 l0 x9_1).f1)) := (blk_cell BK429.out 1).trans rfl; have hfz19_0 := blk_frozen BK429.out 0; have hfz19_1 := blk_frozen BK429.out 1) | (go_at_call 54; (with_reducible refine (strings_HasPrefix.calls ((rd_T41 l0 x9_1).f1) ((rd_T41 l0 x16_2).f1) true _ A14.out).mono ?_); rintro e w' ⟨rfl, ⟨nd, rfl⟩⟩))
                          go_ret
                          exact ⟨by first | rfl | (simp [errW_none, errW_some] <;> rfl) | (simp [*, errW_none, errW_some] <;> rfl), by repeat (first | (with_reducible first | exact HB.out | apply below_alloc | apply pw_below_drewN | apply below_drew1 | refine below_set ?_ GE429.out | refine below_set ?_ GE431.out) | exact HB.out)⟩
                        · replace c15 := Bool.eq_false_iff.mpr c15
                          subst c15
                          have H1 : (translit_Reversible.l1 k2 l0 x9_1 l0 (l0.length : Int) x9_1 l0 (l0.length : Int) (wrap64 (x16_2 + 1)) ((rd_T41 l0 x9_1).f0) ((rd_T41 l0 x9_1).f1)) = some r := by rw [if_neg (show ¬ (false = true) by decide)] at H; exact H
                          clear H
                          have H := H1
                          clear H1
                          have H' := Aside0.mk H
                          clear H
                          have p430 : 0 ≤ (x16_2 : Int) := of_decide_eq_true (by first | (with_reducible assumption) | assumption)
                          have q430 : x16_2 < (l0.length : Int) := of_decide_eq_true (by first | (with_reducible assumption) | assumption)
                          obtain ⟨ad430, e430, hx430_0, hx430_1⟩ := at_T41 HR0.out x16_2 p430 q430
                          obtain rfl : ad428 = ad430 := (by injection e430)
                          replace hx430_0 := (HB.out.cell (World.block_lt_of_cell? w _ hx430_0)).trans hx430_0
                          replace hx430_1 := (HB.out.cell (World.block_lt_of_cell? w _ hx430_1)).trans hx430_1
                          replace p430 := eq_true p430
                          replace q430 := eq_true q430
                          go_wp2_with (first | ((with_reducible refine gate_dst (N := 6) rfl ?_); refine box_event ?hg (N := 6) ?hd (cs := #[.string (⟨#[]⟩ : ByteArray), .string (⟨#[]⟩ : ByteArray)]) (t := 41) ?hr ?_; (case hd => rfl); (case hg => rfl); (case hr => first | (go_simp; done) | (go_simp; rfl)); intro gb431 hg w20 hbox hb; have n0_ := Aside0.mk (blk_below (g := gb429) (o := .cells #[.string ((rd_T41 l0 x9_1).f0), .string ((rd_T41 l0 x9_1).f1)] 41 (0, 0)) (by (with_reducible repeat (first | refine blk_drewN ?_ _ | refine blk_drew ?_ | refine blk_alloc ?_ _)); exact BK429.out) hb); have n1_ := Aside0.mk (below_step (by repeat (first | (with_reducible first | exact HB.out | apply below_alloc | apply pw_below_drewN | apply below_drew1 | refine below_set ?_ GE429.out) | exact HB.out)) hb); have n2_ := Aside0.mk (hbox); have n3_ := Aside0.mk ((by rw [hg]; exact (below_size (by repeat (first | (with_reducible first | exact HB.out | apply below_alloc | apply pw_below_drewN | apply below_drew1 | refine below_set ?_ GE429.out) | exact HB.out))) : w.heap.size ≤ gb431)); have n4_ := Aside0.mk ((by rw [hg]; exact (below_size (by repeat (first | (with_reducible first | exact HB.out | apply below_alloc | apply pw_below_drewN | apply below_drew1 | refine below_set ?_ GE429.out) | exact HB.out))) : w.heap.size ≤ gb431)); have n5_ := Aside0.mk ((by rw [hg]; exact Nat.ne_of_lt (blk_lt (g := gb429) (o := .cells #[.string ((rd_T41 l0 x9_1).f0), .string ((rd_T41 l0 x9_1).f1)] 41 (0, 0)) (by (with_reducible repeat (first | refine blk_drewN ?_ _ | refine blk_drew ?_ | refine blk_alloc ?_ _)); exact BK429.out)) : gb429 ≠ gb431)); have n6_ := Aside0.mk ((by rw [hg]; exact Nat.ne_of_gt (blk_lt (g := gb429) (o := .cells #[.string ((rd_T41 l0 x9_1).f0), .string ((rd_T41 l0 x9_1).f1)] 41 (0, 0)) (by (with_reducible repeat (first | refine blk_drewN ?_ _ | refine blk_drew ?_ | refine blk_alloc ?_ _)); exact BK429.out)) : gb431 ≠ gb429)); clear BK429; clear HB; have BK429 := n0_; have HB := n1_; have BK431 := n2_; have GW431 := n3_; have GE431 := n4_; have NB429_431 := n5_; have NB431_429 := n6_; clear n0_ n1_ n2_ n3_ n4_ n5_ n6_; clear hb hbox hg; have hnb21 := NB431_429.out; have hnc21 := NB429_431.out; have hcz22_0 : w20.cell? ⟨gb431, 0, none⟩ = some (.string (⟨#[]⟩ : ByteArray)) := (blk_cell BK431.out 0).trans rfl; have hcz22_1 : w20.cell? ⟨gb431, 1, none⟩ = some (.string (⟨#[]⟩ : ByteArray)) := (blk_cell BK431.out 1).trans rfl; have hfz22_0 := blk_frozen BK431.out 0; have hfz22_1 := blk_frozen BK431.out 1; have hcz23_0 : w20.cell? ⟨gb429, 0, none⟩ = some (.string ((rd_T41 l0 x9_1).f0)) := (blk_cell BK429.out 0).trans rfl; have hcz23_1 : w20.cell? ⟨gb429, 1, none⟩ = some (.string ((rd_T41 l0 x9_1).f1)) := (blk_cell BK429.out 1).trans rfl; have hfz23_0 := blk_frozen BK429.out 0; have hfz23_1 := blk_frozen BK429.out 1) | (go_at_call 54; (with_reducible refine (strings_HasPrefix.calls ((rd_T41 l0 x9_1).f1) ((rd_T41 l0 x16_2).f1) false _ A14.out).mono ?_); rintro e w' ⟨rfl, ⟨nd, rfl⟩⟩))
                          go_roundg k2
                          case measure => have := HK1.out; have := HK2.out; omega
                          case rel => exact ⟨(wrap64 (x16_2 + 1)), (by first | rfl | (simp; done) | (simp [*]; done)), H', ⟨by have := HK1.out; have := HK2.out; omega⟩, ⟨by (with_reducible repeat (first | refine blk_drewN ?_ _ | refine blk_drew ?_ | refine blk_alloc ?_ _)); refine blk_far ?_ NB429_431.out _; (with_reducible repeat (first | refine blk_drewN ?_ _ | refine blk_drew ?_ | refine blk_alloc ?_ _)); refine blk_far ?_ NB429_431.out _; (with_reducible repeat (first | refine blk_drewN ?_ _ | refine blk_drew ?_ | refine blk_alloc ?_ _)); exact BK429.out⟩, ⟨by repeat (first | (with_reducible first | exact HB.out | apply below_alloc | apply pw_below_drewN | apply below_drew1 | refine below_set ?_ GE429.out | refine below_set ?_ GE431.out) | exact HB.out)⟩⟩
                    · rw [if_neg c9] at H
                      exact absurd H (by simp)
                  · rw [if_neg c8] at H
                    exact absurd H (by simp)
                · rw [if_neg c7] at H
                  have c7b0 : decide (x16_2 < (l0.length : Int)) = false := decide_eq_false c7
                  clear c7
                  have H' := Aside0.mk H
                  clear H
                  go_wp2
                  go_roundg k2
                  case measure => have := HK1.out; have := HK2.out; omega
                  case rel => exact ⟨(wrap64 (x9_1 + 1)), (by first | rfl | (simp; done) | (simp [*]; done)), H', ⟨by have := HK1.out; have := HK2.out; omega⟩, ⟨by repeat (first | (with_reducible first | exact HB.out | apply below_alloc | apply pw_below_drewN | apply below_drew1 | refine below_set ?_ GE429.out) | exact HB.out)⟩⟩
          · rw [if_neg c4] at H
            exact absurd H (by simp)
        · rw [if_neg c3] at H
          exact absurd H (by simp)
      · rw [if_neg c2] at H
        have c2b0 : decide (x9_1 < (l0.length : Int)) = false := decide_eq_false c2
        clear c2
        replace H := Option.bind_eq_some_iff.mp H
        obtain ⟨t427, A240, H⟩ := H
        replace H : (some t427) = some r := H
        have A24 := Aside0.mk A240
        clear A240
        obtain rfl := Option.some.inj H
        go_wp2_with (first | ((with_reducible refine gate_callee (f := 20) rfl ?_); refine goesL_ (some 34) rfl rfl Tryd.func20 (by kernel_rfl) rfl #[.slice A0 l0.length c0] rfl (by (try simp only [List.map_toArray, List.map_cons, List.map_nil]); first | done | rfl | (simp only [List.length_drop, List.length_take]; rfl)) ?_; (with_reducible refine (translit_Valid.calls _ _ l0 t427 _ ?side1 ?side2 ?side3 A24.out).mono ?_); (case side1 => repeat (first | exact (Kd.C_below HR0.out HB.out) | (with_reducible refine Kd.C_alloc ?_ _) | (with_reducible refine Kd.C_drewN ?_ _) | (with_reducible refine Kd.C_drew ?_))); (case side2 => exact HC0.out); (case side3 => exact GT1.below (HG.out) (by repeat (first | (with_reducible first | exact HB.out | apply below_alloc | apply pw_below_drewN | apply below_drew1) | exact HB.out))); rintro e w25 ⟨rfl, hb⟩; refine ⟨_, rfl, ?_⟩; have n0_ := Aside0.mk (below_step (by repeat (first | (with_reducible first | exact HB.out | apply below_alloc | apply pw_below_drewN | apply below_drew1) | exact HB.out)) hb); clear HB; have HB := n0_; clear n0_; (try clear hb); (try clear hb2); (try clear hk); (try clear hi)))
        go_ret
        exact ⟨by first | rfl | (simp [errW_none, errW_some] <;> rfl) | (simp [*, errW_none, errW_some] <;> rfl), by repeat (first | (with_reducible first | exact HB.out | apply below_alloc | apply pw_below_drewN | apply below_drew1) | exact HB.out)⟩
def translit_To.f (k : Nat) (l0 : List (S41)) (a1 : ByteArray) : Option (ByteArray) := (translit_Valid.f l0).bind fun t433 => (if t433 = true then ((translit_encoded.f k a1).bind fun t434 => (if t434 = true then ((translit_write.f l0 a1).bind fun bt435 => (some bt435.1)) else (some (⟨#[]⟩ : ByteArray)))) else (some (⟨#[]⟩ : ByteArray)))
set_option maxHeartbeats 8000000 in
set_option maxRecDepth 100000 in
theorem translit_To.calls (k : Nat) (A0 : Option Addr) (c0 : Nat) (l0 : List (S41)) (a1 : ByteArray) (r : ByteArray) (w : World) (hr0 : Kd.C k41 w A0 l0.length l0) (hc0 : l0.length ≤ c0) (hG : GT1 w) (h : translit_To.f k l0 a1 = some r) :
    Calls Tryd.prog 24 #[.slice A0 l0.length c0, .string a1] w fun e w' => e = .returned (.string r) ∧ Below w.heap.size w w' := by
  have HG := Aside0.mk hG
  clear hG
  have HR0 := Aside0.mk hr0
  have HC0 := Aside0.mk hc0
  clear hr0 hc0
  have HB := Aside0.mk (Below.refl w.heap.size w)
  have H : ((translit_Valid.f l0).bind fun t433 => (if t433 = true then ((translit_encoded.f k a1).bind fun t434 => (if t434 = true then ((translit_write.f l0 a1).bind fun bt435 => (some bt435.1)) else (some (⟨#[]⟩ : ByteArray)))) else (some (⟨#[]⟩ : ByteArray)))) = some r := h
  clear h
  replace H := Option.bind_eq_some_iff.mp H
  obtain ⟨t433, A30, H⟩ := H
  replace H : (if t433 = true then ((translit_encoded.f k a1).bind fun t434 => (if t434 = true then ((translit_write.f l0 a1).bind fun bt435 => (some bt435.1)) else (some (⟨#[]⟩ : ByteArray)))) else (some (⟨#[]⟩ : ByteArray))) = some r := H
  have A3 := Aside0.mk A30
  clear A30
  by_cases c4 : t433 = true
  · subst c4
    have H1 : ((translit_encoded.f k a1).bind fun t434 => (if t434 = true then ((translit_write.f l0 a1).bind fun bt435 => (some bt435.1)) else (some (⟨#[]⟩ : ByteArray)))) = some r := by rw [if_pos rfl] at H; exact H
    clear H
    have H := H1
    clear H1
    replace H := Option.bind_eq_some_iff.mp H
    obtain ⟨t434, A50, H⟩ := H
    replace H : (if t434 = true then ((translit_write.f l0 a1).bind fun bt435 => (some bt435.1)) else (some (⟨#[]⟩ : ByteArray))) = some r := H
    have A5 := Aside0.mk A50
    clear A50
    by_cases c6 : t434 = true
    · subst c6
      have H1 : ((translit_write.f l0 a1).bind fun bt435 => (some bt435.1)) = some r := by rw [if_pos rfl] at H; exact H
      clear H
      have H := H1
      clear H1
      replace H := Option.bind_eq_some_iff.mp H
      obtain ⟨⟨t435, t436⟩, A70, H⟩ := H
      replace H : (some t435) = some r := H
      have A7 := Aside0.mk A70
      clear A70
      obtain rfl := Option.some.inj H
      go_enter Tryd.func24, Tryd.ntmps24
      go_wp2_with (first | ((with_reducible refine gate_callee (f := 20) rfl ?_); refine goesL_ (some 8) rfl rfl Tryd.func20 (by kernel_rfl) rfl #[.slice A0 l0.length c0] rfl (by (try simp only [List.map_toArray, List.map_cons, List.map_nil]); first | done | rfl | (simp only [List.length_drop, List.length_take]; rfl)) ?_; (with_reducible refine (translit_Valid.calls _ _ l0 true _ ?side1 ?side2 ?side3 A3.out).mono ?_); (case side1 => repeat (first | exact HR0.out | (with_reducible refine Kd.C_alloc ?_ _) | (with_reducible refine Kd.C_drewN ?_ _) | (with_reducible refine Kd.C_drew ?_))); (case side2 => exact HC0.out); (case side3 => exact GT1.below (HG.out) (by repeat (first | (with_reducible first | exact HB.out | apply below_alloc | apply pw_below_drewN | apply below_drew1) | exact HB.out))); rintro e w8 ⟨rfl, hb⟩; refine ⟨_, rfl, ?_⟩; have n0_ := Aside0.mk (below_step (by repeat (first | (with_reducible first | exact HB.out | apply below_alloc | apply pw_below_drewN | apply below_drew1) | exact HB.out)) hb); clear HB; have HB := n0_; clear n0_; (try clear hb); (try clear hb2); (try clear hk); (try clear hi)) | (go_at_call 56; (with_reducible refine (translit_encoded.calls k a1 true _ ?side1 A5.out).mono ?_); (case side1 => exact GT1.below (HG.out) (by repeat (first | (with_reducible first | exact HB.out | apply below_alloc | apply pw_below_drewN | apply below_drew1) | exact HB.out))); rintro e w9 ⟨rfl, hb⟩; have n0_ := Aside0.mk (below_step (by repeat (first | (with_reducible first | exact HB.out | apply below_alloc | apply pw_below_drewN | apply below_drew1) | exact HB.out)) hb); clear HB; have HB := n0_; clear n0_; (try clear hb); (try clear hb2); (try clear hk); (try clear hi)) | ((with_reducible refine gate_callee (f := 57) rfl ?_); refine goesL_ (some 18) rfl rfl Tryd.func57 (by kernel_rfl) rfl #[.slice A0 l0.length c0, .string a1] rfl (by (try simp only [List.map_toArray, List.map_cons, List.map_nil]); first | done | rfl | (simp only [List.length_drop, List.length_take]; rfl)) ?_; (with_reducible refine (translit_write.calls _ _ l0 a1 t435 t436 _ ?side1 ?side2 ?side3 A7.out).mono ?_); (case side1 => repeat (first | exact (Kd.C_below HR0.out HB.out) | (with_reducible refine Kd.C_alloc ?_ _) | (with_reducible refine Kd.C_drewN ?_ _) | (with_reducible refine Kd.C_drew ?_))); (case side2 => exact HC0.out); (case side3 => exact GT1.below (HG.out) (by repeat (first | (with_reducible first | exact HB.out | apply below_alloc | apply pw_below_drewN | apply below_drew1) | exact HB.out))); rintro e w10 ⟨rfl, hb⟩; refine ⟨_, rfl, ?_⟩; have n0_ := Aside0.mk (below_step (by repeat (first | (with_reducible first | exact HB.out | apply below_alloc | apply pw_below_drewN | apply below_drew1) | exact HB.out)) hb); clear HB; have HB := n0_; clear n0_; (try clear hb); (try clear hb2); (try clear hk); (try clear hi)))
      go_ret
      exact ⟨by first | rfl | (simp [errW_none, errW_some] <;> rfl) | (simp [*, errW_none, errW_some] <;> rfl), by repeat (first | (with_reducible first | exact HB.out | apply below_alloc | apply pw_below_drewN | apply below_drew1) | exact HB.out)⟩
    · replace c6 := Bool.eq_false_iff.mpr c6
      subst c6
      have H1 : (some (⟨#[]⟩ : ByteArray)) = some r := by rw [if_neg (show ¬ (false = true) by decide)] at H; exact H
      clear H
      have H := H1
      clear H1
      obtain rfl := Option.some.inj H
      go_enter Tryd.func24, Tryd.ntmps24
      go_wp2_with (first | ((with_reducible refine gate_callee (f := 20) rfl ?_); refine goesL_ (some 8) rfl rfl Tryd.func20 (by kernel_rfl) rfl #[.slice A0 l0.length c0] rfl (by (try simp only [List.map_toArray, List.map_cons, List.map_nil]); first | done | rfl | (simp only [List.length_drop, List.length_take]; rfl)) ?_; (with_reducible refine (translit_Valid.calls _ _ l0 true _ ?side1 ?side2 ?side3 A3.out).mono ?_); (case side1 => repeat (first | exact HR0.out | (with_reducible refine Kd.C_alloc ?_ _) | (with_reducible refine Kd.C_drewN ?_ _) | (with_reducible refine Kd.C_drew ?_))); (case side2 => exact HC0.out); (case side3 => exact GT1.below (HG.out) (by repeat (first | (with_reducible first | exact HB.out | apply below_alloc | apply pw_below_drewN | apply below_drew1) | exact HB.out))); rintro e w11 ⟨rfl, hb⟩; refine ⟨_, rfl, ?_⟩; have n0_ := Aside0.mk (below_step (by repeat (first | (with_reducible first | exact HB.out | apply below_alloc | apply pw_below_drewN | apply below_drew1) | exact HB.out)) hb); clear HB; have HB := n0_; clear n0_; (try clear hb); (try clear hb2); (try clear hk); (try clear hi)) | (go_at_call 56; (with_reducible refine (translit_encoded.calls k a1 false _ ?side1 A5.out).mono ?_); (case side1 => exact GT1.below (HG.out) (by repeat (first | (with_reducible first | exact HB.out | apply below_alloc | apply pw_below_drewN | apply below_drew1) | exact HB.out))); rintro e w12 ⟨rfl, hb⟩; have n0_ := Aside0.mk (below_step (by repeat (first | (with_reducible first | exact HB.out | apply below_alloc | apply pw_below_drewN | apply below_drew1) | exact HB.out)) hb); clear HB; have HB := n0_; clear n0_; (try clear hb); (try clear hb2); (try clear hk); (try clear hi)))
      go_ret
      exact ⟨by first | rfl | (simp [errW_none, errW_some] <;> rfl) | (simp [*, errW_none, errW_some] <;> rfl), by repeat (first | (with_reducible first | exact HB.out | apply below_alloc | apply pw_below_drewN | apply below_drew1) | exact HB.out)⟩
  · replace c4 := Bool.eq_false_iff.mpr c4
    subst c4
    have H1 : (some (⟨#[]⟩ : ByteArray)) = some r := by rw [if_neg (show ¬ (false = true) by decide)] at H; exact H
    clear H
    have H := H1
    clear H1
    obtain rfl := Option.some.inj H
    go_enter Tryd.func24, Tryd.ntmps24
    go_wp2_with (first | ((with_reducible refine gate_callee (f := 20) rfl ?_); refine goesL_ (some 8) rfl rfl Tryd.func20 (by kernel_rfl) rfl #[.slice A0 l0.length c0] rfl (by (try simp only [List.map_toArray, List.map_cons, List.map_nil]); first | done | rfl | (simp only [List.length_drop, List.length_take]; rfl)) ?_; (with_reducible refine (translit_Valid.calls _ _ l0 false _ ?side1 ?side2 ?side3 A3.out).mono ?_); (case side1 => repeat (first | exact HR0.out | (with_reducible refine Kd.C_alloc ?_ _) | (with_reducible refine Kd.C_drewN ?_ _) | (with_reducible refine Kd.C_drew ?_))); (case side2 => exact HC0.out); (case side3 => exact GT1.below (HG.out) (by repeat (first | (with_reducible first | exact HB.out | apply below_alloc | apply pw_below_drewN | apply below_drew1) | exact HB.out))); rintro e w13 ⟨rfl, hb⟩; refine ⟨_, rfl, ?_⟩; have n0_ := Aside0.mk (below_step (by repeat (first | (with_reducible first | exact HB.out | apply below_alloc | apply pw_below_drewN | apply below_drew1) | exact HB.out)) hb); clear HB; have HB := n0_; clear n0_; (try clear hb); (try clear hb2); (try clear hk); (try clear hi)))
    go_ret
    exact ⟨by first | rfl | (simp [errW_none, errW_some] <;> rfl) | (simp [*, errW_none, errW_some] <;> rfl), by repeat (first | (with_reducible first | exact HB.out | apply below_alloc | apply pw_below_drewN | apply below_drew1) | exact HB.out)⟩
mutual
def translit_Back.j0 : Nat → List (S41) → ByteArray → Bool → Option (ByteArray)
  | 0, _, _, _ => none
  | k + 1, x0, x1, x17 => if x17 = true then (some (⟨#[]⟩ : ByteArray)) else (translit_Back.l0 k x1 ([] : List (S41)) x0 (x0.length : Int) 0)
def translit_Back.l0 : Nat → ByteArray → List (S41) → List (S41) → Int → Int → Option (ByteArray)
  | 0, _, _, _, _, _ => none
  | k + 1, x1, x5, x18, x19, x20 => if x20 < x19 then (if 0 ≤ x20 then (if x20 < (x18.length : Int) then (if x5.length < 4398046511104 then (translit_Back.l0 k x1 (x5 ++ [(⟨(rd_T41 x18 x20).f1, (rd_T41 x18 x20).f0⟩ : S41)]) x18 x19 (wrap64 (x20 + 1))) else (none)) else (none)) else (none)) else ((translit_write.f x5 x1).bind fun bt444 => (some bt444.1))
end
def translit_Back.f (k : Nat) (l0 : List (S41)) (a1 : ByteArray) : Option (ByteArray) := (translit_Valid.f l0).bind fun t437 => (if t437 = true then ((translit_encoded.f k a1).bind fun t438 => (translit_Back.j0 k l0 a1 (!t438))) else (translit_Back.j0 k l0 a1 true))
set_option maxHeartbeats 8000000 in
set_option maxRecDepth 100000 in
theorem translit_Back.calls (k : Nat) (A0 : Option Addr) (c0 : Nat) (l0 : List (S41)) (a1 : ByteArray) (r : ByteArray) (w : World) (hr0 : Kd.C k41 w A0 l0.length l0) (hc0 : l0.length ≤ c0) (hG : GT1 w) (h : translit_Back.f k l0 a1 = some r) :
    Calls Tryd.prog 26 #[.slice A0 l0.length c0, .string a1] w fun e w' => e = .returned (.string r) ∧ Below w.heap.size w w' := by
  have HG := Aside0.mk hG
  clear hG
  have hu41 := Tryd.underlying41
  have HR0 := Aside0.mk hr0
  have HC0 := Aside0.mk hc0
  clear hr0 hc0
  have HB := Aside0.mk (Below.refl w.heap.size w)
  have H : ((translit_Valid.f l0).bind fun t437 => (if t437 = true then ((translit_encoded.f k a1).bind fun t438 => (translit_Back.j0 k l0 a1 (!t438))) else (translit_Back.j0 k l0 a1 true))) = some r := h
  clear h
  have HC3 := Aside0.mk H
  clear H
  go_enter Tryd.func26, Tryd.ntmps26
  go_upto_region 1 with (fail)
  go_cut [17] (fun v17 wc => ∃ (kq : Nat) (x17_2 : Bool), v17 = .bool x17_2 ∧ Aside0 (translit_Back.j0 kq l0 a1 x17_2 = some r) ∧ Aside0 (kq ≤ k) ∧ Aside0 (Below w.heap.size w wc))
  case first =>
    have H := HC3.out
    clear HC3
    replace H := Option.bind_eq_some_iff.mp H
    obtain ⟨t437, A40, H⟩ := H
    replace H : (if t437 = true then ((translit_encoded.f k a1).bind fun t438 => (translit_Back.j0 k l0 a1 (!t438))) else (translit_Back.j0 k l0 a1 true)) = some r := H
    have A4 := Aside0.mk A40
    clear A40
    by_cases c5 : t437 = true
    · subst c5
      have H1 : ((translit_encoded.f k a1).bind fun t438 => (translit_Back.j0 k l0 a1 (!t438))) = some r := by rw [if_pos rfl] at H; exact H
      clear H
      have H := H1
      clear H1
      replace H := Option.bind_eq_some_iff.mp H
      obtain ⟨t438, A60, H⟩ := H
      replace H : (translit_Back.j0 k l0 a1 (!t438)) = some r := H
      have A6 := Aside0.mk A60
      clear A60
      have H' := Aside0.mk H
      clear H
      go_wp2_with (first | ((with_reducible refine gate_callee (f := 20) rfl ?_); refine goesL_ (some 11) rfl rfl Tryd.func20 (by kernel_rfl) rfl #[.slice A0 l0.length c0] rfl (by (try simp only [List.map_toArray, List.map_cons, List.map_nil]); first | done | rfl | (simp only [List.length_drop, List.length_take]; rfl)) ?_; (with_reducible refine (translit_Valid.calls _ _ l0 true _ ?side1 ?side2 ?side3 A4.out).mono ?_); (case side1 => repeat (first | exact (Kd.C_below HR0.out HB.out) | (with_reducible refine Kd.C_alloc ?_ _) | (with_reducible refine Kd.C_drewN ?_ _) | (with_reducible refine Kd.C_drew ?_))); (case side2 => exact HC0.out); (case side3 => exact GT1.below (HG.out) (by repeat (first | (with_reducible first | exact HB.out | apply below_alloc | apply pw_below_drewN | apply below_drew1) | exact HB.out))); rintro e w7 ⟨rfl, hb⟩; refine ⟨_, rfl, ?_⟩; have n0_ := Aside0.mk (below_step (by repeat (first | (with_reducible first | exact HB.out | apply below_alloc | apply pw_below_drewN | apply below_drew1) | exact HB.out)) hb); clear HB; have HB := n0_; clear n0_; (try clear hb); (try clear hb2); (try clear hk); (try clear hi)) | (go_at_call 56; (with_reducible refine (translit_encoded.calls k a1 t438 _ ?side1 A6.out).mono ?_); (case side1 => exact GT1.below (HG.out) (by repeat (first | (with_reducible first | exact HB.out | apply below_alloc | apply pw_below_drewN | apply below_drew1) | exact HB.out))); rintro e w8 ⟨rfl, hb⟩; have n0_ := Aside0.mk (below_step (by repeat (first | (with_reducible first | exact HB.out | apply below_alloc | apply pw_below_drewN | apply below_drew1) | exact HB.out)) hb); clear HB; have HB := n0_; clear n0_; (try clear hb); (try clear hb2); (try clear hk); (try clear hi)))
      go_meet
      case rel => exact ⟨_, (!t438), (by first | rfl | (simp; done) | (simp [*]; done)), H', ⟨by first | omega | exact Nat.le_refl _⟩, ⟨by repeat (first | (with_reducible first | exact HB.out | apply below_alloc | apply pw_below_drewN | apply below_drew1) | exact HB.out)⟩⟩
    · replace c5 := Bool.eq_false_iff.mpr c5
      subst c5
      have H1 : (translit_Back.j0 k l0 a1 true) = some r := by rw [if_neg (show ¬ (false = true) by decide)] at H; exact H
      clear H
      have H := H1
      clear H1
      have H' := Aside0.mk H
      clear H
      go_wp2_with (first | ((with_reducible refine gate_callee (f := 20) rfl ?_); refine goesL_ (some 11) rfl rfl Tryd.func20 (by kernel_rfl) rfl #[.slice A0 l0.length c0] rfl (by (try simp only [List.map_toArray, List.map_cons, List.map_nil]); first | done | rfl | (simp only [List.length_drop, List.length_take]; rfl)) ?_; (with_reducible refine (translit_Valid.calls _ _ l0 false _ ?side1 ?side2 ?side3 A4.out).mono ?_); (case side1 => repeat (first | exact (Kd.C_below HR0.out HB.out) | (with_reducible refine Kd.C_alloc ?_ _) | (with_reducible refine Kd.C_drewN ?_ _) | (with_reducible refine Kd.C_drew ?_))); (case side2 => exact HC0.out); (case side3 => exact GT1.below (HG.out) (by repeat (first | (with_reducible first | exact HB.out | apply below_alloc | apply pw_below_drewN | apply below_drew1) | exact HB.out))); rintro e w9 ⟨rfl, hb⟩; refine ⟨_, rfl, ?_⟩; have n0_ := Aside0.mk (below_step (by repeat (first | (with_reducible first | exact HB.out | apply below_alloc | apply pw_below_drewN | apply below_drew1) | exact HB.out)) hb); clear HB; have HB := n0_; clear n0_; (try clear hb); (try clear hb2); (try clear hk); (try clear hi)))
      go_meet
      case rel => exact ⟨_, (true), (by first | rfl | (simp; done) | (simp [*]; done)), H', ⟨by first | omega | exact Nat.le_refl _⟩, ⟨by repeat (first | (with_reducible first | exact HB.out | apply below_alloc | apply pw_below_drewN | apply below_drew1) | exact HB.out)⟩⟩
  case rest =>
    clear HC3
    try clear c2
    try clear p2
    try clear c5
    obtain ⟨kq, x17_2, rfl, HA, HJ2, HB⟩ := hcut
    cases kq with
    | zero => exact absurd HA.out (by simp [translit_Back.j0])
    | succ kj2 =>
      have H := HA.out
      clear HA
      simp only [translit_Back.j0] at H
      by_cases c10 : x17_2 = true
      · subst c10
        have H1 : (some (⟨#[]⟩ : ByteArray)) = some r := by rw [if_pos rfl] at H; exact H
        clear H
        have H := H1
        clear H1
        obtain rfl := Option.some.inj H
        go_wp2
        go_ret
        exact ⟨by first | rfl | (simp [errW_none, errW_some] <;> rfl) | (simp [*, errW_none, errW_some] <;> rfl), by repeat (first | (with_reducible first | exact HB.out | apply below_alloc | apply pw_below_drewN | apply below_drew1) | exact HB.out)⟩
      · replace c10 := Bool.eq_false_iff.mpr c10
        subst c10
        have H1 : (translit_Back.l0 kj2 a1 ([] : List (S41)) l0 (l0.length : Int) 0) = some r := by rw [if_neg (show ¬ (false = true) by decide)] at H; exact H
        clear H
        have H := H1
        clear H1
        have H' := Aside0.mk H
        clear H
        go_wp2
        go_loopg [5, 20] kj2 (fun kq v5 v20 w' => ∃ (x5_2 : List (S41)) (x20_2 : Int), v20 = .int .i64 x20_2 ∧ Aside0 (translit_Back.l0 kq a1 x5_2 l0 (l0.length : Int) x20_2 = some r) ∧ Aside0 (kq ≤ kj2) ∧ Aside0 (Kd.R k41 41 w' w.heap.size (fun _ => True) v5 x5_2) ∧ Aside0 (Below w.heap.size w w'))
        case atStart => exact ⟨(([] : List (S41))), (0), (by first | rfl | (simp; done) | (simp [*]; done)), H', ⟨Nat.le_refl _⟩, ⟨by first | exact Kd.R_nil _ _ _ _ _ | exact Kd.N_nil _ _ _ _ _ | exact Kd.V_nil _ _ _ _ _ | exact Kd.Q_nil _ _ _ _ _ | exact Kd.S_nil _ _ _ _ _⟩, ⟨by repeat (first | (with_reducible first | exact HB.out | apply below_alloc | apply pw_below_drewN | apply below_drew1) | exact HB.out)⟩⟩
        case round =>
          clear H'
          try clear c1
          try clear c2
          try clear p2
          try clear c5
          try clear c10
          try clear p2
          obtain ⟨x5_2, x20_2, rfl, HA, HK2, HO_5, HB⟩ := hrel
          cases gk with
          | zero => exact absurd HA.out (by simp [translit_Back.l0])
          | succ k2 =>
            have H := HA.out
            clear HA
            simp only [translit_Back.l0] at H
            by_cases c11 : x20_2 < (l0.length : Int)
            · rw [if_pos c11] at H
              have c11b0 : decide (x20_2 < (l0.length : Int)) = true := decide_eq_true c11
              clear c11
              by_cases c12 : 0 ≤ x20_2
              · rw [if_pos c12] at H
                have c12b0 : decide (0 ≤ x20_2) = true := decide_eq_true c12
                clear c12
                by_cases c13 : x20_2 < (l0.length : Int)
                · rw [if_pos c13] at H
                  have c13b0 : decide (x20_2 < (l0.length : Int)) = true := decide_eq_true c13
                  clear c13
                  by_cases c14 : x5_2.length < 4398046511104
                  · rw [if_pos c14] at H
                    have LMc14 := Aside0.mk c14
                    clear c14
                    obtain ⟨y441, hy441⟩ : ∃ y_ : List (S41), y_ = (x5_2 ++ [(⟨(rd_T41 l0 x20_2).f1, (rd_T41 l0 x20_2).f0⟩ : S41)]) := ⟨_, rfl⟩
                    replace H : (translit_Back.l0 k2 a1 y441 l0 (l0.length : Int) (wrap64 (x20_2 + 1))) = some r := by first | (rw [hy441]; with_reducible exact H) | (have H2_ := (Option.bind_some _ _).symm.trans H; rw [hy441]; with_reducible exact H2_) | (have H2_ := (Option.bind_some _ _).symm.trans H; with_reducible exact H2_) | with_reducible exact H | (rw [hy441]; exact H) | exact H
                    have Ny441 := Aside0.mk hy441
                    clear hy441
                    have H' := Aside0.mk H
                    clear H
                    have p439 : 0 ≤ (x20_2 : Int) := of_decide_eq_true (by first | (with_reducible assumption) | assumption)
                    have q439 : x20_2 < (l0.length : Int) := of_decide_eq_true (by first | (with_reducible assumption) | assumption)
                    obtain ⟨ad439, e439, hx439_0, hx439_1⟩ := at_T41 HR0.out x20_2 p439 q439
                    cases e439
                    replace hx439_0 := (HB.out.cell (World.block_lt_of_cell? w _ hx439_0)).trans hx439_0
                    replace hx439_1 := (HB.out.cell (World.block_lt_of_cell? w _ hx439_1)).trans hx439_1
                    replace p439 := eq_true p439
                    replace q439 := eq_true q439
                    go_wp2_with (first | ((with_reducible refine gate_dst (N := 7) rfl ?_); refine box_event ?hg (N := 7) ?hd (cs := #[.string (⟨#[]⟩ : ByteArray), .string (⟨#[]⟩ : ByteArray)]) (t := 41) ?hr ?_; (case hd => rfl); (case hg => rfl); (case hr => first | (go_simp; done) | (go_simp; rfl)); intro gb440 hg w15 hbox hb; have n0_ := Aside0.mk (Kd.R_below (Kd.R_elderB (by (with_reducible repeat (first | apply Kd.R_alloc | apply Kd.R_drewN | apply Kd.R_drew)); exact HO_5.out) gb440 (Nat.le_of_eq hg.symm)) hb); have n1_ := Aside0.mk (below_step (by repeat (first | (with_reducible first | exact HB.out | apply below_alloc | apply pw_below_drewN | apply below_drew1) | exact HB.out)) hb); have n2_ := Aside0.mk (hbox); have n3_ := Aside0.mk ((by rw [hg]; exact (below_size (by repeat (first | (with_reducible first | exact HB.out | apply below_alloc | apply pw_below_drewN | apply below_drew1) | exact HB.out))) : w.heap.size ≤ gb440)); have n4_ := Aside0.mk ((by rw [hg]; exact (below_size (by repeat (first | (with_reducible first | exact HB.out | apply below_alloc | apply pw_below_drewN | apply below_drew1) | exact HB.out))) : w.heap.size ≤ gb440)); clear HO_5; clear HB; have HO_5 := n0_; have HB := n1_; have BK440 := n2_; have GW440 := n3_; have GE440 := n4_; clear n0_ n1_ n2_ n3_ n4_; clear hb hbox hg; have hcz16_0 : w15.cell? ⟨gb440, 0, none⟩ = some (.string (⟨#[]⟩ : ByteArray)) := (blk_cell BK440.out 0).trans rfl; have hcz16_1 : w15.cell? ⟨gb440, 1, none⟩ = some (.string (⟨#[]⟩ : ByteArray)) := (blk_cell BK440.out 1).trans rfl; have hfz16_0 := blk_frozen BK440.out 0; have hfz16_1 := blk_frozen BK440.out 1) | ((with_reducible refine gate_builtin (b := .append) (xs := #[.tmp 24, .tmp 30]) rfl ?_); at_builtin; refine Kd.R_append k41 (w0 := w) w.heap.size rfl (.tmp 24) (.tmp 30) 25 41 (.agg #[(.string ⟨#[]⟩), (.string ⟨#[]⟩)]) 32 rfl Tryd.underlying25 info41 rfl (by decide) (by omega) u5 x5_2 (⟨(rd_T41 l0 x20_2).f1, (rd_T41 l0 x20_2).f0⟩ : S41) [.string ((rd_T41 l0 x20_2).f1), .string ((rd_T41 l0 x20_2).f0)] (fun k_ => k_ ≠ gb440) (fun _ => False) rfl (by first | (go_simp; done) | (go_simp; rfl)) ?aP (fun _ hk => hk.elim) ?aF ?aO ?aB ?aS ?aL ?_; (case aP => exact k41_mkM _ _ _ (⟨(rd_T41 l0 x20_2).f1, (rd_T41 l0 x20_2).f0⟩ : S41)); (case aB => exact (by repeat (first | (with_reducible first | exact HB.out | apply below_alloc | apply pw_below_drewN | apply below_drew1 | refine below_set ?_ GE440.out) | exact HB.out))); (case aF => exact (fun k_ hk => Kd.freshB (g := gb440) (o := .cells #[.string ((rd_T41 l0 x20_2).f0), .string ((rd_T41 l0 x20_2).f1)] 41 (0, 0)) (by (with_reducible repeat (first | refine blk_drewN ?_ _ | refine blk_drew ?_ | refine blk_alloc ?_ _)); refine blk_put (cs := #[.string ((rd_T41 l0 x20_2).f0), .string (⟨#[]⟩ : ByteArray)]) ?_ 1 _ rfl; (with_reducible repeat (first | refine blk_drewN ?_ _ | refine blk_drew ?_ | refine blk_alloc ?_ _)); refine blk_put (cs := #[.string (⟨#[]⟩ : ByteArray), .string (⟨#[]⟩ : ByteArray)]) ?_ 0 _ rfl; (with_reducible repeat (first | refine blk_drewN ?_ _ | refine blk_drew ?_ | refine blk_alloc ?_ _)); exact BK440.out) k_ hk)); (case aO => exact (by (with_reducible repeat (first | apply Kd.R_alloc | apply Kd.R_drewN | apply Kd.R_drew)); exact Kd.R_mono (Kd.R_far (p := ⟨gb440, 1, none⟩) (Kd.R_far (p := ⟨gb440, 0, none⟩) (Kd.R_mono HO_5.out (fun k_ hk => (⟨hk, hk.2⟩ : _ ∧ k_ ≠ gb440))) (fun _ hk => hk.2) (.string ((rd_T41 l0 x20_2).f0))) (fun _ hk => hk.2) (.string ((rd_T41 l0 x20_2).f1))) (fun _ hk => hk.1.2))); (case aS => exact (below_size (by repeat (first | (with_reducible first | exact HB.out | apply below_alloc | apply pw_below_drewN | apply below_drew1 | refine below_set ?_ GE440.out) | exact HB.out)))); (case aL => have := LMc14.out; omega); intro v442 w17 ho hb hg hat; rw [← Ny441.out] at ho; have n0_ := Aside0.mk (blk_grown (g := gb440) (o := .cells #[.string ((rd_T41 l0 x20_2).f0), .string ((rd_T41 l0 x20_2).f1)] 41 (0, 0)) (by (with_reducible repeat (first | refine blk_drewN ?_ _ | refine blk_drew ?_ | refine blk_alloc ?_ _)); refine blk_put (cs := #[.string ((rd_T41 l0 x20_2).f0), .string (⟨#[]⟩ : ByteArray)]) ?_ 1 _ rfl; (with_reducible repeat (first | refine blk_drewN ?_ _ | refine blk_drew ?_ | refine blk_alloc ?_ _)); refine blk_put (cs := #[.string (⟨#[]⟩ : ByteArray), .string (⟨#[]⟩ : ByteArray)]) ?_ 0 _ rfl; (with_reducible repeat (first | refine blk_drewN ?_ _ | refine blk_drew ?_ | refine blk_alloc ?_ _)); exact BK440.out) hg (Kd.R_away HO_5.out (fun _ hk => hk.2))); have n1_ := Aside0.mk (hb); have n2_ := Aside0.mk (ho); clear BK440; clear HB; clear HO_5; have BK440 := n0_; have HB := n1_; have HO443 := n2_; clear n0_ n1_ n2_; clear ho hb hg hat))
                    go_roundg k2
                    case measure => have := HJ2.out; have := HK2.out; omega
                    case rel => exact ⟨(y441), (wrap64 (x20_2 + 1)), (by first | rfl | (simp; done) | (simp [*]; done)), H', ⟨by have := HJ2.out; have := HK2.out; omega⟩, ⟨by (with_reducible repeat (first | apply Kd.R_alloc | apply Kd.R_drewN | apply Kd.R_drew)); exact Kd.R_mono HO443.out (fun _ hk => trivial)⟩, ⟨by repeat (first | (with_reducible first | exact HB.out | apply below_alloc | apply pw_below_drewN | apply below_drew1 | refine below_set ?_ GE440.out) | exact HB.out)⟩⟩
                  · rw [if_neg c14] at H
                    exact absurd H (by simp)
                · rw [if_neg c13] at H
                  exact absurd H (by simp)
              · rw [if_neg c12] at H
                exact absurd H (by simp)
            · rw [if_neg c11] at H
              have c11b0 : decide (x20_2 < (l0.length : Int)) = false := decide_eq_false c11
              clear c11
              replace H := Option.bind_eq_some_iff.mp H
              obtain ⟨⟨t444, t445⟩, A180, H⟩ := H
              replace H : (some t444) = some r := H
              have A18 := Aside0.mk A180
              clear A180
              obtain rfl := Option.some.inj H
              obtain ⟨Ao19, co19, eo19⟩ := Kd.R_slice HO_5.out
              subst eo19
              go_wp2_with (first | ((with_reducible refine gate_callee (f := 57) rfl ?_); refine goesL_ (some 36) rfl rfl Tryd.func57 (by kernel_rfl) rfl #[.slice Ao19 x5_2.length co19, .string a1] rfl (by (try simp only [List.map_toArray, List.map_cons, List.map_nil]); first | done | rfl | (simp only [List.length_drop, List.length_take]; rfl)) ?_; (with_reducible refine (translit_write.calls _ _ x5_2 a1 t444 t445 _ ?side1 ?side2 ?side3 A18.out).mono ?_); (case side1 => repeat (first | exact (Kd.R_reads' HO_5.out).2.2 | (with_reducible refine Kd.C_alloc ?_ _) | (with_reducible refine Kd.C_drewN ?_ _) | (with_reducible refine Kd.C_drew ?_))); (case side2 => exact (Kd.R_reads' HO_5.out).2.1); (case side3 => exact GT1.below (HG.out) (by repeat (first | (with_reducible first | exact HB.out | apply below_alloc | apply pw_below_drewN | apply below_drew1) | exact HB.out))); rintro e w20 ⟨rfl, hb⟩; refine ⟨_, rfl, ?_⟩; have n0_ := Aside0.mk (Kd.R_below (by (with_reducible repeat (first | apply Kd.R_alloc | apply Kd.R_drewN | apply Kd.R_drew)); exact HO_5.out) hb); have n1_ := Aside0.mk (below_step (by repeat (first | (with_reducible first | exact HB.out | apply below_alloc | apply pw_below_drewN | apply below_drew1) | exact HB.out)) hb); clear HO_5; clear HB; have HO_5 := n0_; have HB := n1_; clear n0_ n1_; (try clear hb); (try clear hb2); (try clear hk); (try clear hi)))
              go_ret
              exact ⟨by first | rfl | (simp [errW_none, errW_some] <;> rfl) | (simp [*, errW_none, errW_some] <;> rfl), by repeat (first | (with_reducible first | exact HB.out | apply below_alloc | apply pw_below_drewN | apply below_drew1) | exact HB.out)⟩
def translit_Covers.f (k : Nat) (l0 : List (S41)) (a1 : ByteArray) : Option (Bool) := (translit_Valid.f l0).bind fun t446 => (if t446 = true then ((translit_encoded.f k a1).bind fun t447 => (if t447 = true then ((translit_write.f l0 a1).bind fun bt448 => (some (bt448.2 == 0))) else (some false))) else (some false))
set_option maxHeartbeats 8000000 in
set_option maxRecDepth 100000 in
theorem translit_Covers.calls (k : Nat) (A0 : Option Addr) (c0 : Nat) (l0 : List (S41)) (a1 : ByteArray) (r : Bool) (w : World) (hr0 : Kd.C k41 w A0 l0.length l0) (hc0 : l0.length ≤ c0) (hG : GT1 w) (h : translit_Covers.f k l0 a1 = some r) :
    Calls Tryd.prog 28 #[.slice A0 l0.length c0, .string a1] w fun e w' => e = .returned (.bool r) ∧ Below w.heap.size w w' := by
  have HG := Aside0.mk hG
  clear hG
  have HR0 := Aside0.mk hr0
  have HC0 := Aside0.mk hc0
  clear hr0 hc0
  have HB := Aside0.mk (Below.refl w.heap.size w)
  have H : ((translit_Valid.f l0).bind fun t446 => (if t446 = true then ((translit_encoded.f k a1).bind fun t447 => (if t447 = true then ((translit_write.f l0 a1).bind fun bt448 => (some (bt448.2 == 0))) else (some false))) else (some false))) = some r := h
  clear h
  replace H := Option.bind_eq_some_iff.mp H
  obtain ⟨t446, A30, H⟩ := H
  replace H : (if t446 = true then ((translit_encoded.f k a1).bind fun t447 => (if t447 = true then ((translit_write.f l0 a1).bind fun bt448 => (some (bt448.2 == 0))) else (some false))) else (some false)) = some r := H
  have A3 := Aside0.mk A30
  clear A30
  by_cases c4 : t446 = true
  · subst c4
    have H1 : ((translit_encoded.f k a1).bind fun t447 => (if t447 = true then ((translit_write.f l0 a1).bind fun bt448 => (some (bt448.2 == 0))) else (some false))) = some r := by rw [if_pos rfl] at H; exact H
    clear H
    have H := H1
    clear H1
    replace H := Option.bind_eq_some_iff.mp H
    obtain ⟨t447, A50, H⟩ := H
    replace H : (if t447 = true then ((translit_write.f l0 a1).bind fun bt448 => (some (bt448.2 == 0))) else (some false)) = some r := H
    have A5 := Aside0.mk A50
    clear A50
    by_cases c6 : t447 = true
    · subst c6
      have H1 : ((translit_write.f l0 a1).bind fun bt448 => (some (bt448.2 == 0))) = some r := by rw [if_pos rfl] at H; exact H
      clear H
      have H := H1
      clear H1
      replace H := Option.bind_eq_some_iff.mp H
      obtain ⟨⟨t448, t449⟩, A70, H⟩ := H
      replace H : (some (t449 == 0)) = some r := H
      have A7 := Aside0.mk A70
      clear A70
      obtain rfl := Option.some.inj H
      go_enter Tryd.func28, Tryd.ntmps28
      go_wp2_with (first | ((with_reducible refine gate_callee (f := 20) rfl ?_); refine goesL_ (some 8) rfl rfl Tryd.func20 (by kernel_rfl) rfl #[.slice A0 l0.length c0] rfl (by (try simp only [List.map_toArray, List.map_cons, List.map_nil]); first | done | rfl | (simp only [List.length_drop, List.length_take]; rfl)) ?_; (with_reducible refine (translit_Valid.calls _ _ l0 true _ ?side1 ?side2 ?side3 A3.out).mono ?_); (case side1 => repeat (first | exact HR0.out | (with_reducible refine Kd.C_alloc ?_ _) | (with_reducible refine Kd.C_drewN ?_ _) | (with_reducible refine Kd.C_drew ?_))); (case side2 => exact HC0.out); (case side3 => exact GT1.below (HG.out) (by repeat (first | (with_reducible first | exact HB.out | apply below_alloc | apply pw_below_drewN | apply below_drew1) | exact HB.out))); rintro e w8 ⟨rfl, hb⟩; refine ⟨_, rfl, ?_⟩; have n0_ := Aside0.mk (below_step (by repeat (first | (with_reducible first | exact HB.out | apply below_alloc | apply pw_below_drewN | apply below_drew1) | exact HB.out)) hb); clear HB; have HB := n0_; clear n0_; (try clear hb); (try clear hb2); (try clear hk); (try clear hi)) | (go_at_call 56; (with_reducible refine (translit_encoded.calls k a1 true _ ?side1 A5.out).mono ?_); (case side1 => exact GT1.below (HG.out) (by repeat (first | (with_reducible first | exact HB.out | apply below_alloc | apply pw_below_drewN | apply below_drew1) | exact HB.out))); rintro e w9 ⟨rfl, hb⟩; have n0_ := Aside0.mk (below_step (by repeat (first | (with_reducible first | exact HB.out | apply below_alloc | apply pw_below_drewN | apply below_drew1) | exact HB.out)) hb); clear HB; have HB := n0_; clear n0_; (try clear hb); (try clear hb2); (try clear hk); (try clear hi)) | ((with_reducible refine gate_callee (f := 57) rfl ?_); refine goesL_ (some 18) rfl rfl Tryd.func57 (by kernel_rfl) rfl #[.slice A0 l0.length c0, .string a1] rfl (by (try simp only [List.map_toArray, List.map_cons, List.map_nil]); first | done | rfl | (simp only [List.length_drop, List.length_take]; rfl)) ?_; (with_reducible refine (translit_write.calls _ _ l0 a1 t448 t449 _ ?side1 ?side2 ?side3 A7.out).mono ?_); (case side1 => repeat (first | exact (Kd.C_below HR0.out HB.out) | (with_reducible refine Kd.C_alloc ?_ _) | (with_reducible refine Kd.C_drewN ?_ _) | (with_reducible refine Kd.C_drew ?_))); (case side2 => exact HC0.out); (case side3 => exact GT1.below (HG.out) (by repeat (first | (with_reducible first | exact HB.out | apply below_alloc | apply pw_below_drewN | apply below_drew1) | exact HB.out))); rintro e w10 ⟨rfl, hb⟩; refine ⟨_, rfl, ?_⟩; have n0_ := Aside0.mk (below_step (by repeat (first | (with_reducible first | exact HB.out | apply below_alloc | apply pw_below_drewN | apply below_drew1) | exact HB.out)) hb); clear HB; have HB := n0_; clear n0_; (try clear hb); (try clear hb2); (try clear hk); (try clear hi)))
      go_ret
      exact ⟨by first | rfl | (simp [errW_none, errW_some] <;> rfl) | (simp [*, errW_none, errW_some] <;> rfl), by repeat (first | (with_reducible first | exact HB.out | apply below_alloc | apply pw_below_drewN | apply below_drew1) | exact HB.out)⟩
    · replace c6 := Bool.eq_false_iff.mpr c6
      subst c6
      have H1 : (some false) = some r := by rw [if_neg (show ¬ (false = true) by decide)] at H; exact H
      clear H
      have H := H1
      clear H1
      obtain rfl := Option.some.inj H
      go_enter Tryd.func28, Tryd.ntmps28
      go_wp2_with (first | ((with_reducible refine gate_callee (f := 20) rfl ?_); refine goesL_ (some 8) rfl rfl Tryd.func20 (by kernel_rfl) rfl #[.slice A0 l0.length c0] rfl (by (try simp only [List.map_toArray, List.map_cons, List.map_nil]); first | done | rfl | (simp only [List.length_drop, List.length_take]; rfl)) ?_; (with_reducible refine (translit_Valid.calls _ _ l0 true _ ?side1 ?side2 ?side3 A3.out).mono ?_); (case side1 => repeat (first | exact HR0.out | (with_reducible refine Kd.C_alloc ?_ _) | (with_reducible refine Kd.C_drewN ?_ _) | (with_reducible refine Kd.C_drew ?_))); (case side2 => exact HC0.out); (case side3 => exact GT1.below (HG.out) (by repeat (first | (with_reducible first | exact HB.out | apply below_alloc | apply pw_below_drewN | apply below_drew1) | exact HB.out))); rintro e w11 ⟨rfl, hb⟩; refine ⟨_, rfl, ?_⟩; have n0_ := Aside0.mk (below_step (by repeat (first | (with_reducible first | exact HB.out | apply below_alloc | apply pw_below_drewN | apply below_drew1) | exact HB.out)) hb); clear HB; have HB := n0_; clear n0_; (try clear hb); (try clear hb2); (try clear hk); (try clear hi)) | (go_at_call 56; (with_reducible refine (translit_encoded.calls k a1 false _ ?side1 A5.out).mono ?_); (case side1 => exact GT1.below (HG.out) (by repeat (first | (with_reducible first | exact HB.out | apply below_alloc | apply pw_below_drewN | apply below_drew1) | exact HB.out))); rintro e w12 ⟨rfl, hb⟩; have n0_ := Aside0.mk (below_step (by repeat (first | (with_reducible first | exact HB.out | apply below_alloc | apply pw_below_drewN | apply below_drew1) | exact HB.out)) hb); clear HB; have HB := n0_; clear n0_; (try clear hb); (try clear hb2); (try clear hk); (try clear hi)))
      go_ret
      exact ⟨by first | rfl | (simp [errW_none, errW_some] <;> rfl) | (simp [*, errW_none, errW_some] <;> rfl), by repeat (first | (with_reducible first | exact HB.out | apply below_alloc | apply pw_below_drewN | apply below_drew1) | exact HB.out)⟩
  · replace c4 := Bool.eq_false_iff.mpr c4
    subst c4
    have H1 : (some false) = some r := by rw [if_neg (show ¬ (false = true) by decide)] at H; exact H
    clear H
    have H := H1
    clear H1
    obtain rfl := Option.some.inj H
    go_enter Tryd.func28, Tryd.ntmps28
    go_wp2_with (first | ((with_reducible refine gate_callee (f := 20) rfl ?_); refine goesL_ (some 8) rfl rfl Tryd.func20 (by kernel_rfl) rfl #[.slice A0 l0.length c0] rfl (by (try simp only [List.map_toArray, List.map_cons, List.map_nil]); first | done | rfl | (simp only [List.length_drop, List.length_take]; rfl)) ?_; (with_reducible refine (translit_Valid.calls _ _ l0 false _ ?side1 ?side2 ?side3 A3.out).mono ?_); (case side1 => repeat (first | exact HR0.out | (with_reducible refine Kd.C_alloc ?_ _) | (with_reducible refine Kd.C_drewN ?_ _) | (with_reducible refine Kd.C_drew ?_))); (case side2 => exact HC0.out); (case side3 => exact GT1.below (HG.out) (by repeat (first | (with_reducible first | exact HB.out | apply below_alloc | apply pw_below_drewN | apply below_drew1) | exact HB.out))); rintro e w13 ⟨rfl, hb⟩; refine ⟨_, rfl, ?_⟩; have n0_ := Aside0.mk (below_step (by repeat (first | (with_reducible first | exact HB.out | apply below_alloc | apply pw_below_drewN | apply below_drew1) | exact HB.out)) hb); clear HB; have HB := n0_; clear n0_; (try clear hb); (try clear hb2); (try clear hk); (try clear hi)))
    go_ret
    exact ⟨by first | rfl | (simp [errW_none, errW_some] <;> rfl) | (simp [*, errW_none, errW_some] <;> rfl), by repeat (first | (with_reducible first | exact HB.out | apply below_alloc | apply pw_below_drewN | apply below_drew1) | exact HB.out)⟩
def bookplatelaw07_awake.f (k : Nat)  : Option (Bool) := (translit_Cyrillic.f k).bind fun t450 => ((translit_To.f k t450 (⟨#[208, 162, 208, 190, 208, 187, 209, 129, 209, 130, 208, 190, 208, 185]⟩ : ByteArray)).bind fun t453 => (if t453.toList = ([84, 111, 108, 115, 116, 111, 106] : List UInt8) then ((translit_Greek.f k).bind fun t454 => ((translit_To.f k t454 (⟨#[206, 191, 207, 133, 207, 129, 206, 177, 206, 189, 206, 191, 207, 130]⟩ : ByteArray)).bind fun t457 => (if t457.toList = ([111, 117, 114, 97, 110, 111, 115] : List UInt8) then ((translit_Cyrillic.f k).bind fun t458 => ((translit_Reversible.f k t458).bind fun t461 => (if t461 = true then ((translit_Cyrillic.f k).bind fun t462 => ((translit_Back.f k t462 (⟨#[84, 111, 108, 115, 116, 111, 106]⟩ : ByteArray)).bind fun t465 => (if t465.toList = ([208, 162, 208, 190, 208, 187, 209, 129, 209, 130, 208, 190, 208, 185] : List UInt8) then ((translit_Greek.f k).bind fun t466 => ((translit_Covers.f k t466 (⟨#[206, 191, 207, 133]⟩ : ByteArray)).bind fun t469 => (if t469 = true then ((translit_Greek.f k).bind fun t470 => ((translit_Valid.f t470).bind fun t473 => (some t473))) else (some false)))) else (some false)))) else (some false)))) else (some false)))) else (some false)))
set_option maxHeartbeats 8000000 in
set_option maxRecDepth 100000 in
theorem bookplatelaw07_awake.calls (k : Nat)  (r : Bool) (w : World) (hG : GT2 w) (h : bookplatelaw07_awake.f k  = some r) :
    Calls Tryd.prog 17 #[] w fun e w' => e = .returned (.bool r) ∧ Below w.heap.size w w' := by
  have HG := Aside0.mk hG
  clear hG
  have HB := Aside0.mk (Below.refl w.heap.size w)
  have H : ((translit_Cyrillic.f k).bind fun t450 => ((translit_To.f k t450 (⟨#[208, 162, 208, 190, 208, 187, 209, 129, 209, 130, 208, 190, 208, 185]⟩ : ByteArray)).bind fun t453 => (if t453.toList = ([84, 111, 108, 115, 116, 111, 106] : List UInt8) then ((translit_Greek.f k).bind fun t454 => ((translit_To.f k t454 (⟨#[206, 191, 207, 133, 207, 129, 206, 177, 206, 189, 206, 191, 207, 130]⟩ : ByteArray)).bind fun t457 => (if t457.toList = ([111, 117, 114, 97, 110, 111, 115] : List UInt8) then ((translit_Cyrillic.f k).bind fun t458 => ((translit_Reversible.f k t458).bind fun t461 => (if t461 = true then ((translit_Cyrillic.f k).bind fun t462 => ((translit_Back.f k t462 (⟨#[84, 111, 108, 115, 116, 111, 106]⟩ : ByteArray)).bind fun t465 => (if t465.toList = ([208, 162, 208, 190, 208, 187, 209, 129, 209, 130, 208, 190, 208, 185] : List UInt8) then ((translit_Greek.f k).bind fun t466 => ((translit_Covers.f k t466 (⟨#[206, 191, 207, 133]⟩ : ByteArray)).bind fun t469 => (if t469 = true then ((translit_Greek.f k).bind fun t470 => ((translit_Valid.f t470).bind fun t473 => (some t473))) else (some false)))) else (some false)))) else (some false)))) else (some false)))) else (some false)))) = some r := h
  clear h
  replace H := Option.bind_eq_some_iff.mp H
  obtain ⟨t450, A10, H⟩ := H
  replace H : ((translit_To.f k t450 (⟨#[208, 162, 208, 190, 208, 187, 209, 129, 209, 130, 208, 190, 208, 185]⟩ : ByteArray)).bind fun t453 => (if t453.toList = ([84, 111, 108, 115, 116, 111, 106] : List UInt8) then ((translit_Greek.f k).bind fun t454 => ((translit_To.f k t454 (⟨#[206, 191, 207, 133, 207, 129, 206, 177, 206, 189, 206, 191, 207, 130]⟩ : ByteArray)).bind fun t457 => (if t457.toList = ([111, 117, 114, 97, 110, 111, 115] : List UInt8) then ((translit_Cyrillic.f k).bind fun t458 => ((translit_Reversible.f k t458).bind fun t461 => (if t461 = true then ((translit_Cyrillic.f k).bind fun t462 => ((translit_Back.f k t462 (⟨#[84, 111, 108, 115, 116, 111, 106]⟩ : ByteArray)).bind fun t465 => (if t465.toList = ([208, 162, 208, 190, 208, 187, 209, 129, 209, 130, 208, 190, 208, 185] : List UInt8) then ((translit_Greek.f k).bind fun t466 => ((translit_Covers.f k t466 (⟨#[206, 191, 207, 133]⟩ : ByteArray)).bind fun t469 => (if t469 = true then ((translit_Greek.f k).bind fun t470 => ((translit_Valid.f t470).bind fun t473 => (some t473))) else (some false)))) else (some false)))) else (some false)))) else (some false)))) else (some false))) = some r := H
  have A1 := Aside0.mk A10
  clear A10
  replace H := Option.bind_eq_some_iff.mp H
  obtain ⟨t453, A20, H⟩ := H
  replace H : (if t453.toList = ([84, 111, 108, 115, 116, 111, 106] : List UInt8) then ((translit_Greek.f k).bind fun t454 => ((translit_To.f k t454 (⟨#[206, 191, 207, 133, 207, 129, 206, 177, 206, 189, 206, 191, 207, 130]⟩ : ByteArray)).bind fun t457 => (if t457.toList = ([111, 117, 114, 97, 110, 111, 115] : List UInt8) then ((translit_Cyrillic.f k).bind fun t458 => ((translit_Reversible.f k t458).bind fun t461 => (if t461 = true then ((translit_Cyrillic.f k).bind fun t462 => ((translit_Back.f k t462 (⟨#[84, 111, 108, 115, 116, 111, 106]⟩ : ByteArray)).bind fun t465 => (if t465.toList = ([208, 162, 208, 190, 208, 187, 209, 129, 209, 130, 208, 190, 208, 185] : List UInt8) then ((translit_Greek.f k).bind fun t466 => ((translit_Covers.f k t466 (⟨#[206, 191, 207, 133]⟩ : ByteArray)).bind fun t469 => (if t469 = true then ((translit_Greek.f k).bind fun t470 => ((translit_Valid.f t470).bind fun t473 => (some t473))) else (some false)))) else (some false)))) else (some false)))) else (some false)))) else (some false)) = some r := H
  have A2 := Aside0.mk A20
  clear A20
  by_cases c3 : t453.toList = ([84, 111, 108, 115, 116, 111, 106] : List UInt8)
  · rw [if_pos c3] at H
    have c3b0 : (t453.toList == ([84, 111, 108, 115, 116, 111, 106] : List UInt8)) = true := beq_iff_eq.mpr c3
    have c3b1 : (t453.toList != ([84, 111, 108, 115, 116, 111, 106] : List UInt8)) = false := bne_eq_false_iff_eq.mpr c3
    clear c3
    replace H := Option.bind_eq_some_iff.mp H
    obtain ⟨t454, A40, H⟩ := H
    replace H : ((translit_To.f k t454 (⟨#[206, 191, 207, 133, 207, 129, 206, 177, 206, 189, 206, 191, 207, 130]⟩ : ByteArray)).bind fun t457 => (if t457.toList = ([111, 117, 114, 97, 110, 111, 115] : List UInt8) then ((translit_Cyrillic.f k).bind fun t458 => ((translit_Reversible.f k t458).bind fun t461 => (if t461 = true then ((translit_Cyrillic.f k).bind fun t462 => ((translit_Back.f k t462 (⟨#[84, 111, 108, 115, 116, 111, 106]⟩ : ByteArray)).bind fun t465 => (if t465.toList = ([208, 162, 208, 190, 208, 187, 209, 129, 209, 130, 208, 190, 208, 185] : List UInt8) then ((translit_Greek.f k).bind fun t466 => ((translit_Covers.f k t466 (⟨#[206, 191, 207, 133]⟩ : ByteArray)).bind fun t469 => (if t469 = true then ((translit_Greek.f k).bind fun t470 => ((translit_Valid.f t470).bind fun t473 => (some t473))) else (some false)))) else (some false)))) else (some false)))) else (some false))) = some r := H
    have A4 := Aside0.mk A40
    clear A40
    replace H := Option.bind_eq_some_iff.mp H
    obtain ⟨t457, A50, H⟩ := H
    replace H : (if t457.toList = ([111, 117, 114, 97, 110, 111, 115] : List UInt8) then ((translit_Cyrillic.f k).bind fun t458 => ((translit_Reversible.f k t458).bind fun t461 => (if t461 = true then ((translit_Cyrillic.f k).bind fun t462 => ((translit_Back.f k t462 (⟨#[84, 111, 108, 115, 116, 111, 106]⟩ : ByteArray)).bind fun t465 => (if t465.toList = ([208, 162, 208, 190, 208, 187, 209, 129, 209, 130, 208, 190, 208, 185] : List UInt8) then ((translit_Greek.f k).bind fun t466 => ((translit_Covers.f k t466 (⟨#[206, 191, 207, 133]⟩ : ByteArray)).bind fun t469 => (if t469 = true then ((translit_Greek.f k).bind fun t470 => ((translit_Valid.f t470).bind fun t473 => (some t473))) else (some false)))) else (some false)))) else (some false)))) else (some false)) = some r := H
    have A5 := Aside0.mk A50
    clear A50
    by_cases c6 : t457.toList = ([111, 117, 114, 97, 110, 111, 115] : List UInt8)
    · rw [if_pos c6] at H
      have c6b0 : (t457.toList == ([111, 117, 114, 97, 110, 111, 115] : List UInt8)) = true := beq_iff_eq.mpr c6
      have c6b1 : (t457.toList != ([111, 117, 114, 97, 110, 111, 115] : List UInt8)) = false := bne_eq_false_iff_eq.mpr c6
      clear c6
      replace H := Option.bind_eq_some_iff.mp H
      obtain ⟨t458, A70, H⟩ := H
      replace H : ((translit_Reversible.f k t458).bind fun t461 => (if t461 = true then ((translit_Cyrillic.f k).bind fun t462 => ((translit_Back.f k t462 (⟨#[84, 111, 108, 115, 116, 111, 106]⟩ : ByteArray)).bind fun t465 => (if t465.toList = ([208, 162, 208, 190, 208, 187, 209, 129, 209, 130, 208, 190, 208, 185] : List UInt8) then ((translit_Greek.f k).bind fun t466 => ((translit_Covers.f k t466 (⟨#[206, 191, 207, 133]⟩ : ByteArray)).bind fun t469 => (if t469 = true then ((translit_Greek.f k).bind fun t470 => ((translit_Valid.f t470).bind fun t473 => (some t473))) else (some false)))) else (some false)))) else (some false))) = some r := H
      have A7 := Aside0.mk A70
      clear A70
      replace H := Option.bind_eq_some_iff.mp H
      obtain ⟨t461, A80, H⟩ := H
      replace H : (if t461 = true then ((translit_Cyrillic.f k).bind fun t462 => ((translit_Back.f k t462 (⟨#[84, 111, 108, 115, 116, 111, 106]⟩ : ByteArray)).bind fun t465 => (if t465.toList = ([208, 162, 208, 190, 208, 187, 209, 129, 209, 130, 208, 190, 208, 185] : List UInt8) then ((translit_Greek.f k).bind fun t466 => ((translit_Covers.f k t466 (⟨#[206, 191, 207, 133]⟩ : ByteArray)).bind fun t469 => (if t469 = true then ((translit_Greek.f k).bind fun t470 => ((translit_Valid.f t470).bind fun t473 => (some t473))) else (some false)))) else (some false)))) else (some false)) = some r := H
      have A8 := Aside0.mk A80
      clear A80
      by_cases c9 : t461 = true
      · subst c9
        have H1 : ((translit_Cyrillic.f k).bind fun t462 => ((translit_Back.f k t462 (⟨#[84, 111, 108, 115, 116, 111, 106]⟩ : ByteArray)).bind fun t465 => (if t465.toList = ([208, 162, 208, 190, 208, 187, 209, 129, 209, 130, 208, 190, 208, 185] : List UInt8) then ((translit_Greek.f k).bind fun t466 => ((translit_Covers.f k t466 (⟨#[206, 191, 207, 133]⟩ : ByteArray)).bind fun t469 => (if t469 = true then ((translit_Greek.f k).bind fun t470 => ((translit_Valid.f t470).bind fun t473 => (some t473))) else (some false)))) else (some false)))) = some r := by rw [if_pos rfl] at H; exact H
        clear H
        have H := H1
        clear H1
        replace H := Option.bind_eq_some_iff.mp H
        obtain ⟨t462, A100, H⟩ := H
        replace H : ((translit_Back.f k t462 (⟨#[84, 111, 108, 115, 116, 111, 106]⟩ : ByteArray)).bind fun t465 => (if t465.toList = ([208, 162, 208, 190, 208, 187, 209, 129, 209, 130, 208, 190, 208, 185] : List UInt8) then ((translit_Greek.f k).bind fun t466 => ((translit_Covers.f k t466 (⟨#[206, 191, 207, 133]⟩ : ByteArray)).bind fun t469 => (if t469 = true then ((translit_Greek.f k).bind fun t470 => ((translit_Valid.f t470).bind fun t473 => (some t473))) else (some false)))) else (some false))) = some r := H
        have A10 := Aside0.mk A100
        clear A100
        replace H := Option.bind_eq_some_iff.mp H
        obtain ⟨t465, A110, H⟩ := H
        replace H : (if t465.toList = ([208, 162, 208, 190, 208, 187, 209, 129, 209, 130, 208, 190, 208, 185] : List UInt8) then ((translit_Greek.f k).bind fun t466 => ((translit_Covers.f k t466 (⟨#[206, 191, 207, 133]⟩ : ByteArray)).bind fun t469 => (if t469 = true then ((translit_Greek.f k).bind fun t470 => ((translit_Valid.f t470).bind fun t473 => (some t473))) else (some false)))) else (some false)) = some r := H
        have A11 := Aside0.mk A110
        clear A110
        by_cases c12 : t465.toList = ([208, 162, 208, 190, 208, 187, 209, 129, 209, 130, 208, 190, 208, 185] : List UInt8)
        · rw [if_pos c12] at H
          have c12b0 : (t465.toList == ([208, 162, 208, 190, 208, 187, 209, 129, 209, 130, 208, 190, 208, 185] : List UInt8)) = true := beq_iff_eq.mpr c12
          have c12b1 : (t465.toList != ([208, 162, 208, 190, 208, 187, 209, 129, 209, 130, 208, 190, 208, 185] : List UInt8)) = false := bne_eq_false_iff_eq.mpr c12
          clear c12
          replace H := Option.bind_eq_some_iff.mp H
          obtain ⟨t466, A130, H⟩ := H
          replace H : ((translit_Covers.f k t466 (⟨#[206, 191, 207, 133]⟩ : ByteArray)).bind fun t469 => (if t469 = true then ((translit_Greek.f k).bind fun t470 => ((translit_Valid.f t470).bind fun t473 => (some t473))) else (some false))) = some r := H
          have A13 := Aside0.mk A130
          clear A130
          replace H := Option.bind_eq_some_iff.mp H
          obtain ⟨t469, A140, H⟩ := H
          replace H : (if t469 = true then ((translit_Greek.f k).bind fun t470 => ((translit_Valid.f t470).bind fun t473 => (some t473))) else (some false)) = some r := H
          have A14 := Aside0.mk A140
          clear A140
          by_cases c15 : t469 = true
          · subst c15
            have H1 : ((translit_Greek.f k).bind fun t470 => ((translit_Valid.f t470).bind fun t473 => (some t473))) = some r := by rw [if_pos rfl] at H; exact H
            clear H
            have H := H1
            clear H1
            replace H := Option.bind_eq_some_iff.mp H
            obtain ⟨t470, A160, H⟩ := H
            replace H : ((translit_Valid.f t470).bind fun t473 => (some t473)) = some r := H
            have A16 := Aside0.mk A160
            clear A160
            replace H := Option.bind_eq_some_iff.mp H
            obtain ⟨t473, A170, H⟩ := H
            replace H : (some t473) = some r := H
            have A17 := Aside0.mk A170
            clear A170
            obtain rfl := Option.some.inj H
            go_enter Tryd.func17, Tryd.ntmps17
            go_wp2_with (first | ((with_reducible refine gate_callee (f := 32) rfl ?_); refine goesL_ (some 1) rfl rfl Tryd.func32 (by kernel_rfl) rfl #[] rfl (by (try simp only [List.map_toArray, List.map_cons, List.map_nil]); first | done | rfl | (simp only [List.length_drop, List.length_take]; rfl)) ?_; (with_reducible refine (translit_Cyrillic.calls k  t450 _ ?side1 A1.out).mono ?_); (case side1 => exact GT2.below (HG.out) (by repeat (first | (with_reducible first | exact HB.out | apply below_alloc | apply pw_below_drewN | apply below_drew1) | exact HB.out))); rintro e w18 ⟨v451, rfl, ho0, hb⟩; refine ⟨_, rfl, ?_⟩; have n0_ := Aside0.mk (Kd.R_lower ho0 (below_size (by repeat (first | (with_reducible first | exact HB.out | apply below_alloc | apply pw_below_drewN | apply below_drew1) | exact HB.out)))); have n1_ := Aside0.mk (below_step (by repeat (first | (with_reducible first | exact HB.out | apply below_alloc | apply pw_below_drewN | apply below_drew1) | exact HB.out)) hb); clear HB; have HO452 := n0_; have HB := n1_; clear n0_ n1_; (try clear hb); (try clear hb2); (try clear hk); (try clear hi); (try clear ho0); obtain ⟨Ao19, co19, eo19⟩ := Kd.R_slice HO452.out; subst eo19) | ((with_reducible refine gate_callee (f := 24) rfl ?_); refine goesL_ (some 2) rfl rfl Tryd.func24 (by kernel_rfl) rfl #[.slice Ao19 t450.length co19, .string (⟨#[208, 162, 208, 190, 208, 187, 209, 129, 209, 130, 208, 190, 208, 185]⟩ : ByteArray)] rfl (by (try simp only [List.map_toArray, List.map_cons, List.map_nil]); first | done | rfl | (simp only [List.length_drop, List.length_take]; rfl)) ?_; (with_reducible refine (translit_To.calls k _ _ t450 (⟨#[208, 162, 208, 190, 208, 187, 209, 129, 209, 130, 208, 190, 208, 185]⟩ : ByteArray) t453 _ ?side1 ?side2 ?side3 A2.out).mono ?_); (case side1 => repeat (first | exact (Kd.R_reads' HO452.out).2.2 | (with_reducible refine Kd.C_alloc ?_ _) | (with_reducible refine Kd.C_drewN ?_ _) | (with_reducible refine Kd.C_drew ?_))); (case side2 => exact (Kd.R_reads' HO452.out).2.1); (case side3 => exact GT1.below (HG.out.one) (by repeat (first | (with_reducible first | exact HB.out | apply below_alloc | apply pw_below_drewN | apply below_drew1) | exact HB.out))); rintro e w20 ⟨rfl, hb⟩; refine ⟨_, rfl, ?_⟩; have n0_ := Aside0.mk (Kd.R_below (by (with_reducible repeat (first | apply Kd.R_alloc | apply Kd.R_drewN | apply Kd.R_drew)); exact HO452.out) hb); have n1_ := Aside0.mk (below_step (by repeat (first | (with_reducible first | exact HB.out | apply below_alloc | apply pw_below_drewN | apply below_drew1) | exact HB.out)) hb); clear HO452; clear HB; have HO452 := n0_; have HB := n1_; clear n0_ n1_; (try clear hb); (try clear hb2); (try clear hk); (try clear hi)) | (go_at_call 33; (fail_if_success (have := HO456)); (with_reducible refine (translit_Greek.calls k  t454 _ ?side1 A4.out).mono ?_); (case side1 => exact GT2.below (HG.out) (by repeat (first | (with_reducible first | exact HB.out | apply below_alloc | apply pw_below_drewN | apply below_drew1) | exact HB.out))); rintro e w21 ⟨v455, rfl, ho0, hb⟩; have n0_ := Aside0.mk (Kd.R_elder' (by (with_reducible repeat (first | apply Kd.R_alloc | apply Kd.R_drewN | apply Kd.R_drew)); exact HO452.out) (Kd.R_base ho0) hb); have n1_ := Aside0.mk (Kd.R_lower (Kd.R_new' ho0 (Kd.R_lt (by (with_reducible repeat (first | apply Kd.R_alloc | apply Kd.R_drewN | apply Kd.R_drew)); exact HO452.out))) (below_size (by repeat (first | (with_reducible first | exact HB.out | apply below_alloc | apply pw_below_drewN | apply below_drew1) | exact HB.out)))); have n2_ := Aside0.mk (below_step (by repeat (first | (with_reducible first | exact HB.out | apply below_alloc | apply pw_below_drewN | apply below_drew1) | exact HB.out)) hb); clear HO452; clear HB; have HO452 := n0_; have HO456 := n1_; have HB := n2_; clear n0_ n1_ n2_; (try clear hb); (try clear hb2); (try clear hk); (try clear hi); (try clear ho0); obtain ⟨Ao22, co22, eo22⟩ := Kd.R_slice HO456.out; subst eo22) | (go_at_call 24; (with_reducible refine (translit_To.calls k _ _ t454 (⟨#[206, 191, 207, 133, 207, 129, 206, 177, 206, 189, 206, 191, 207, 130]⟩ : ByteArray) t457 _ ?side1 ?side2 ?side3 A5.out).mono ?_); (case side1 => repeat (first | exact (Kd.R_reads' HO456.out).2.2 | (with_reducible refine Kd.C_alloc ?_ _) | (with_reducible refine Kd.C_drewN ?_ _) | (with_reducible refine Kd.C_drew ?_))); (case side2 => exact (Kd.R_reads' HO456.out).2.1); (case side3 => exact GT1.below (HG.out.one) (by repeat (first | (with_reducible first | exact HB.out | apply below_alloc | apply pw_below_drewN | apply below_drew1) | exact HB.out))); rintro e w23 ⟨rfl, hb⟩; have n0_ := Aside0.mk (Kd.R_below (by (with_reducible repeat (first | apply Kd.R_alloc | apply Kd.R_drewN | apply Kd.R_drew)); exact HO452.out) hb); have n1_ := Aside0.mk (Kd.R_below (by (with_reducible repeat (first | apply Kd.R_alloc | apply Kd.R_drewN | apply Kd.R_drew)); exact HO456.out) hb); have n2_ := Aside0.mk (below_step (by repeat (first | (with_reducible first | exact HB.out | apply below_alloc | apply pw_below_drewN | apply below_drew1) | exact HB.out)) hb); clear HO452; clear HO456; clear HB; have HO452 := n0_; have HO456 := n1_; have HB := n2_; clear n0_ n1_ n2_; (try clear hb); (try clear hb2); (try clear hk); (try clear hi)) | (go_at_call 32; (fail_if_success (have := HO460)); (with_reducible refine (translit_Cyrillic.calls k  t458 _ ?side1 A7.out).mono ?_); (case side1 => exact GT2.below (HG.out) (by repeat (first | (with_reducible first | exact HB.out | apply below_alloc | apply pw_below_drewN | apply below_drew1) | exact HB.out))); rintro e w24 ⟨v459, rfl, ho0, hb⟩; have n0_ := Aside0.mk (Kd.R_elder' (by (with_reducible repeat (first | apply Kd.R_alloc | apply Kd.R_drewN | apply Kd.R_drew)); exact HO452.out) (Kd.R_base ho0) hb); have n1_ := Aside0.mk (Kd.R_elder' (by (with_reducible repeat (first | apply Kd.R_alloc | apply Kd.R_drewN | apply Kd.R_drew)); exact HO456.out) (Kd.R_base ho0) hb); have n2_ := Aside0.mk (Kd.R_lower (Kd.R_new' (Kd.R_new' ho0 (Kd.R_lt (by (with_reducible repeat (first | apply Kd.R_alloc | apply Kd.R_drewN | apply Kd.R_drew)); exact HO452.out))) (Kd.R_lt (by (with_reducible repeat (first | apply Kd.R_alloc | apply Kd.R_drewN | apply Kd.R_drew)); exact HO456.out))) (below_size (by repeat (first | (with_reducible first | exact HB.out | apply below_alloc | apply pw_below_drewN | apply below_drew1) | exact HB.out)))); have n3_ := Aside0.mk (below_step (by repeat (first | (with_reducible first | exact HB.out | apply below_alloc | apply pw_below_drewN | apply below_drew1) | exact HB.out)) hb); clear HO452; clear HO456; clear HB; have HO452 := n0_; have HO456 := n1_; have HO460 := n2_; have HB := n3_; clear n0_ n1_ n2_ n3_; (try clear hb); (try clear hb2); (try clear hk); (try clear hi); (try clear ho0); obtain ⟨Ao25, co25, eo25⟩ := Kd.R_slice HO460.out; subst eo25) | (go_at_call 22; (with_reducible refine (translit_Reversible.calls k _ _ t458 true _ ?side1 ?side2 ?side3 A8.out).mono ?_); (case side1 => repeat (first | exact (Kd.R_reads' HO460.out).2.2 | (with_reducible refine Kd.C_alloc ?_ _) | (with_reducible refine Kd.C_drewN ?_ _) | (with_reducible refine Kd.C_drew ?_))); (case side2 => exact (Kd.R_reads' HO460.out).2.1); (case side3 => exact GT1.below (HG.out.one) (by repeat (first | (with_reducible first | exact HB.out | apply below_alloc | apply pw_below_drewN | apply below_drew1) | exact HB.out))); rintro e w26 ⟨rfl, hb⟩; have n0_ := Aside0.mk (Kd.R_below (by (with_reducible repeat (first | apply Kd.R_alloc | apply Kd.R_drewN | apply Kd.R_drew)); exact HO452.out) hb); have n1_ := Aside0.mk (Kd.R_below (by (with_reducible repeat (first | apply Kd.R_alloc | apply Kd.R_drewN | apply Kd.R_drew)); exact HO456.out) hb); have n2_ := Aside0.mk (Kd.R_below (by (with_reducible repeat (first | apply Kd.R_alloc | apply Kd.R_drewN | apply Kd.R_drew)); exact HO460.out) hb); have n3_ := Aside0.mk (below_step (by repeat (first | (with_reducible first | exact HB.out | apply below_alloc | apply pw_below_drewN | apply below_drew1) | exact HB.out)) hb); clear HO452; clear HO456; clear HO460; clear HB; have HO452 := n0_; have HO456 := n1_; have HO460 := n2_; have HB := n3_; clear n0_ n1_ n2_ n3_; (try clear hb); (try clear hb2); (try clear hk); (try clear hi)) | (go_at_call 32; (fail_if_success (have := HO464)); (with_reducible refine (translit_Cyrillic.calls k  t462 _ ?side1 A10.out).mono ?_); (case side1 => exact GT2.below (HG.out) (by repeat (first | (with_reducible first | exact HB.out | apply below_alloc | apply pw_below_drewN | apply below_drew1) | exact HB.out))); rintro e w27 ⟨v463, rfl, ho0, hb⟩; have n0_ := Aside0.mk (Kd.R_elder' (by (with_reducible repeat (first | apply Kd.R_alloc | apply Kd.R_drewN | apply Kd.R_drew)); exact HO452.out) (Kd.R_base ho0) hb); have n1_ := Aside0.mk (Kd.R_elder' (by (with_reducible repeat (first | apply Kd.R_alloc | apply Kd.R_drewN | apply Kd.R_drew)); exact HO456.out) (Kd.R_base ho0) hb); have n2_ := Aside0.mk (Kd.R_elder' (by (with_reducible repeat (first | apply Kd.R_alloc | apply Kd.R_drewN | apply Kd.R_drew)); exact HO460.out) (Kd.R_base ho0) hb); have n3_ := Aside0.mk (Kd.R_lower (Kd.R_new' (Kd.R_new' (Kd.R_new' ho0 (Kd.R_lt (by (with_reducible repeat (first | apply Kd.R_alloc | apply Kd.R_drewN | apply Kd.R_drew)); exact HO452.out))) (Kd.R_lt (by (with_reducible repeat (first | apply Kd.R_alloc | apply Kd.R_drewN | apply Kd.R_drew)); exact HO456.out))) (Kd.R_lt (by (with_reducible repeat (first | apply Kd.R_alloc | apply Kd.R_drewN | apply Kd.R_drew)); exact HO460.out))) (below_size (by repeat (first | (with_reducible first | exact HB.out | apply below_alloc | apply pw_below_drewN | apply below_drew1) | exact HB.out)))); have n4_ := Aside0.mk (below_step (by repeat (first | (with_reducible first | exact HB.out | apply below_alloc | apply pw_below_drewN | apply below_drew1) | exact HB.out)) hb); clear HO452; clear HO456; clear HO460; clear HB; have HO452 := n0_; have HO456 := n1_; have HO460 := n2_; have HO464 := n3_; have HB := n4_; clear n0_ n1_ n2_ n3_ n4_; (try clear hb); (try clear hb2); (try clear hk); (try clear hi); (try clear ho0); obtain ⟨Ao28, co28, eo28⟩ := Kd.R_slice HO464.out; subst eo28) | (go_at_call 26; (with_reducible refine (translit_Back.calls k _ _ t462 (⟨#[84, 111, 108, 115, 116, 111, 106]⟩ : ByteArray) t465 _ ?side1 ?side2 ?side3 A11.out).mono ?_); (case side1 => repeat (first | exact (Kd.R_reads' HO464.out).2.2 | (with_reducible refine Kd.C_alloc ?_ _) | (with_reducible refine Kd.C_drewN ?_ _) | (with_reducible refine Kd.C_drew ?_))); (case side2 => exact (Kd.R_reads' HO464.out).2.1); (case side3 => exact GT1.below (HG.out.one) (by repeat (first | (with_reducible first | exact HB.out | apply below_alloc | apply pw_below_drewN | apply below_drew1) | exact HB.out))); rintro e w29 ⟨rfl, hb⟩; have n0_ := Aside0.mk (Kd.R_below (by (with_reducible repeat (first | apply Kd.R_alloc | apply Kd.R_drewN | apply Kd.R_drew)); exact HO452.out) hb); have n1_ := Aside0.mk (Kd.R_below (by (with_reducible repeat (first | apply Kd.R_alloc | apply Kd.R_drewN | apply Kd.R_drew)); exact HO456.out) hb); have n2_ := Aside0.mk (Kd.R_below (by (with_reducible repeat (first | apply Kd.R_alloc | apply Kd.R_drewN | apply Kd.R_drew)); exact HO460.out) hb); have n3_ := Aside0.mk (Kd.R_below (by (with_reducible repeat (first | apply Kd.R_alloc | apply Kd.R_drewN | apply Kd.R_drew)); exact HO464.out) hb); have n4_ := Aside0.mk (below_step (by repeat (first | (with_reducible first | exact HB.out | apply below_alloc | apply pw_below_drewN | apply below_drew1) | exact HB.out)) hb); clear HO452; clear HO456; clear HO460; clear HO464; clear HB; have HO452 := n0_; have HO456 := n1_; have HO460 := n2_; have HO464 := n3_; have HB := n4_; clear n0_ n1_ n2_ n3_ n4_; (try clear hb); (try clear hb2); (try clear hk); (try clear hi)) | (go_at_call 33; (fail_if_success (have := HO468)); (with_reducible refine (translit_Greek.calls k  t466 _ ?side1 A13.out).mono ?_); (case side1 => exact GT2.below (HG.out) (by repeat (first | (with_reducible first | exact HB.out | apply below_alloc | apply pw_below_drewN | apply below_drew1) | exact HB.out))); rintro e w30 ⟨v467, rfl, ho0, hb⟩; have n0_ := Aside0.mk (Kd.R_elder' (by (with_reducible repeat (first | apply Kd.R_alloc | apply Kd.R_drewN | apply Kd.R_drew)); exact HO452.out) (Kd.R_base ho0) hb); have n1_ := Aside0.mk (Kd.R_elder' (by (with_reducible repeat (first | apply Kd.R_alloc | apply Kd.R_drewN | apply Kd.R_drew)); exact HO456.out) (Kd.R_base ho0) hb); have n2_ := Aside0.mk (Kd.R_elder' (by (with_reducible repeat (first | apply Kd.R_alloc | apply Kd.R_drewN | apply Kd.R_drew)); exact HO460.out) (Kd.R_base ho0) hb); have n3_ := Aside0.mk (Kd.R_elder' (by (with_reducible repeat (first | apply Kd.R_alloc | apply Kd.R_drewN | apply Kd.R_drew)); exact HO464.out) (Kd.R_base ho0) hb); have n4_ := Aside0.mk (Kd.R_lower (Kd.R_new' (Kd.R_new' (Kd.R_new' (Kd.R_new' ho0 (Kd.R_lt (by (with_reducible repeat (first | apply Kd.R_alloc | apply Kd.R_drewN | apply Kd.R_drew)); exact HO452.out))) (Kd.R_lt (by (with_reducible repeat (first | apply Kd.R_alloc | apply Kd.R_drewN | apply Kd.R_drew)); exact HO456.out))) (Kd.R_lt (by (with_reducible repeat (first | apply Kd.R_alloc | apply Kd.R_drewN | apply Kd.R_drew)); exact HO460.out))) (Kd.R_lt (by (with_reducible repeat (first | apply Kd.R_alloc | apply Kd.R_drewN | apply Kd.R_drew)); exact HO464.out))) (below_size (by repeat (first | (with_reducible first | exact HB.out | apply below_alloc | apply pw_below_drewN | apply below_drew1) | exact HB.out)))); have n5_ := Aside0.mk (below_step (by repeat (first | (with_reducible first | exact HB.out | apply below_alloc | apply pw_below_drewN | apply below_drew1) | exact HB.out)) hb); clear HO452; clear HO456; clear HO460; clear HO464; clear HB; have HO452 := n0_; have HO456 := n1_; have HO460 := n2_; have HO464 := n3_; have HO468 := n4_; have HB := n5_; clear n0_ n1_ n2_ n3_ n4_ n5_; (try clear hb); (try clear hb2); (try clear hk); (try clear hi); (try clear ho0); obtain ⟨Ao31, co31, eo31⟩ := Kd.R_slice HO468.out; subst eo31) | (go_at_call 28; (with_reducible refine (translit_Covers.calls k _ _ t466 (⟨#[206, 191, 207, 133]⟩ : ByteArray) true _ ?side1 ?side2 ?side3 A14.out).mono ?_); (case side1 => repeat (first | exact (Kd.R_reads' HO468.out).2.2 | (with_reducible refine Kd.C_alloc ?_ _) | (with_reducible refine Kd.C_drewN ?_ _) | (with_reducible refine Kd.C_drew ?_))); (case side2 => exact (Kd.R_reads' HO468.out).2.1); (case side3 => exact GT1.below (HG.out.one) (by repeat (first | (with_reducible first | exact HB.out | apply below_alloc | apply pw_below_drewN | apply below_drew1) | exact HB.out))); rintro e w32 ⟨rfl, hb⟩; have n0_ := Aside0.mk (Kd.R_below (by (with_reducible repeat (first | apply Kd.R_alloc | apply Kd.R_drewN | apply Kd.R_drew)); exact HO452.out) hb); have n1_ := Aside0.mk (Kd.R_below (by (with_reducible repeat (first | apply Kd.R_alloc | apply Kd.R_drewN | apply Kd.R_drew)); exact HO456.out) hb); have n2_ := Aside0.mk (Kd.R_below (by (with_reducible repeat (first | apply Kd.R_alloc | apply Kd.R_drewN | apply Kd.R_drew)); exact HO460.out) hb); have n3_ := Aside0.mk (Kd.R_below (by (with_reducible repeat (first | apply Kd.R_alloc | apply Kd.R_drewN | apply Kd.R_drew)); exact HO464.out) hb); have n4_ := Aside0.mk (Kd.R_below (by (with_reducible repeat (first | apply Kd.R_alloc | apply Kd.R_drewN | apply Kd.R_drew)); exact HO468.out) hb); have n5_ := Aside0.mk (below_step (by repeat (first | (with_reducible first | exact HB.out | apply below_alloc | apply pw_below_drewN | apply below_drew1) | exact HB.out)) hb); clear HO452; clear HO456; clear HO460; clear HO464; clear HO468; clear HB; have HO452 := n0_; have HO456 := n1_; have HO460 := n2_; have HO464 := n3_; have HO468 := n4_; have HB := n5_; clear n0_ n1_ n2_ n3_ n4_ n5_; (try clear hb); (try clear hb2); (try clear hk); (try clear hi)) | (go_at_call 33; (fail_if_success (have := HO472)); (with_reducible refine (translit_Greek.calls k  t470 _ ?side1 A16.out).mono ?_); (case side1 => exact GT2.below (HG.out) (by repeat (first | (with_reducible first | exact HB.out | apply below_alloc | apply pw_below_drewN | apply below_drew1) | exact HB.out))); rintro e w33 ⟨v471, rfl, ho0, hb⟩; have n0_ := Aside0.mk (Kd.R_elder' (by (with_reducible repeat (first | apply Kd.R_alloc | apply Kd.R_drewN | apply Kd.R_drew)); exact HO452.out) (Kd.R_base ho0) hb); have n1_ := Aside0.mk (Kd.R_elder' (by (with_reducible repeat (first | apply Kd.R_alloc | apply Kd.R_drewN | apply Kd.R_drew)); exact HO456.out) (Kd.R_base ho0) hb); have n2_ := Aside0.mk (Kd.R_elder' (by (with_reducible repeat (first | apply Kd.R_alloc | apply Kd.R_drewN | apply Kd.R_drew)); exact HO460.out) (Kd.R_base ho0) hb); have n3_ := Aside0.mk (Kd.R_elder' (by (with_reducible repeat (first | apply Kd.R_alloc | apply Kd.R_drewN | apply Kd.R_drew)); exact HO464.out) (Kd.R_base ho0) hb); have n4_ := Aside0.mk (Kd.R_elder' (by (with_reducible repeat (first | apply Kd.R_alloc | apply Kd.R_drewN | apply Kd.R_drew)); exact HO468.out) (Kd.R_base ho0) hb); have n5_ := Aside0.mk (Kd.R_lower (Kd.R_new' (Kd.R_new' (Kd.R_new' (Kd.R_new' (Kd.R_new' ho0 (Kd.R_lt (by (with_reducible repeat (first | apply Kd.R_alloc | apply Kd.R_drewN | apply Kd.R_drew)); exact HO452.out))) (Kd.R_lt (by (with_reducible repeat (first | apply Kd.R_alloc | apply Kd.R_drewN | apply Kd.R_drew)); exact HO456.out))) (Kd.R_lt (by (with_reducible repeat (first | apply Kd.R_alloc | apply Kd.R_drewN | apply Kd.R_drew)); exact HO460.out))) (Kd.R_lt (by (with_reducible repeat (first | apply Kd.R_alloc | apply Kd.R_drewN | apply Kd.R_drew)); exact HO464.out))) (Kd.R_lt (by (with_reducible repeat (first | apply Kd.R_alloc | apply Kd.R_drewN | apply Kd.R_drew)); exact HO468.out))) (below_size (by repeat (first | (with_reducible first | exact HB.out | apply below_alloc | apply pw_below_drewN | apply below_drew1) | exact HB.out)))); have n6_ := Aside0.mk (below_step (by repeat (first | (with_reducible first | exact HB.out | apply below_alloc | apply pw_below_drewN | apply below_drew1) | exact HB.out)) hb); clear HO452; clear HO456; clear HO460; clear HO464; clear HO468; clear HB; have HO452 := n0_; have HO456 := n1_; have HO460 := n2_; have HO464 := n3_; have HO468 := n4_; have HO472 := n5_; have HB := n6_; clear n0_ n1_ n2_ n3_ n4_ n5_ n6_; (try clear hb); (try clear hb2); (try clear hk); (try clear hi); (try clear ho0); obtain ⟨Ao34, co34, eo34⟩ := Kd.R_slice HO472.out; subst eo34) | (go_at_call 20; (with_reducible refine (translit_Valid.calls _ _ t470 t473 _ ?side1 ?side2 ?side3 A17.out).mono ?_); (case side1 => repeat (first | exact (Kd.R_reads' HO472.out).2.2 | (with_reducible refine Kd.C_alloc ?_ _) | (with_reducible refine Kd.C_drewN ?_ _) | (with_reducible refine Kd.C_drew ?_))); (case side2 => exact (Kd.R_reads' HO472.out).2.1); (case side3 => exact GT1.below (HG.out.one) (by repeat (first | (with_reducible first | exact HB.out | apply below_alloc | apply pw_below_drewN | apply below_drew1) | exact HB.out))); rintro e w35 ⟨rfl, hb⟩; have n0_ := Aside0.mk (Kd.R_below (by (with_reducible repeat (first | apply Kd.R_alloc | apply Kd.R_drewN | apply Kd.R_drew)); exact HO452.out) hb); have n1_ := Aside0.mk (Kd.R_below (by (with_reducible repeat (first | apply Kd.R_alloc | apply Kd.R_drewN | apply Kd.R_drew)); exact HO456.out) hb); have n2_ := Aside0.mk (Kd.R_below (by (with_reducible repeat (first | apply Kd.R_alloc | apply Kd.R_drewN | apply Kd.R_drew)); exact HO460.out) hb); have n3_ := Aside0.mk (Kd.R_below (by (with_reducible repeat (first | apply Kd.R_alloc | apply Kd.R_drewN | apply Kd.R_drew)); exact HO464.out) hb); have n4_ := Aside0.mk (Kd.R_below (by (with_reducible repeat (first | apply Kd.R_alloc | apply Kd.R_drewN | apply Kd.R_drew)); exact HO468.out) hb); have n5_ := Aside0.mk (Kd.R_below (by (with_reducible repeat (first | apply Kd.R_alloc | apply Kd.R_drewN | apply Kd.R_drew)); exact HO472.out) hb); have n6_ := Aside0.mk (below_step (by repeat (first | (with_reducible first | exact HB.out | apply below_alloc | apply pw_below_drewN | apply below_drew1) | exact HB.out)) hb); clear HO452; clear HO456; clear HO460; clear HO464; clear HO468; clear HO472; clear HB; have HO452 := n0_; have HO456 := n1_; have HO460 := n2_; have HO464 := n3_; have HO468 := n4_; have HO472 := n5_; have HB := n6_; clear n0_ n1_ n2_ n3_ n4_ n5_ n6_; (try clear hb); (try clear hb2); (try clear hk); (try clear hi)))
            go_ret
            exact ⟨by first | rfl | (simp [errW_none, errW_some] <;> rfl) | (simp [*, errW_none, errW_some] <;> rfl), by repeat (first | (with_reducible first | exact HB.out | apply below_alloc | apply pw_below_drewN | apply below_drew1) | exact HB.out)⟩
          · replace c15 := Bool.eq_false_iff.mpr c15
            subst c15
            have H1 : (some false) = some r := by rw [if_neg (show ¬ (false = true) by decide)] at H; exact H
            clear H
            have H := H1
            clear H1
            obtain rfl := Option.some.inj H
            go_enter Tryd.func17, Tryd.ntmps17
            go_wp2_with (first | ((with_reducible refine gate_callee (f := 32) rfl ?_); refine goesL_ (some 1) rfl rfl Tryd.func32 (by kernel_rfl) rfl #[] rfl (by (try simp only [List.map_toArray, List.map_cons, List.map_nil]); first | done | rfl | (simp only [List.length_drop, List.length_take]; rfl)) ?_; (with_reducible refine (translit_Cyrillic.calls k  t450 _ ?side1 A1.out).mono ?_); (case side1 => exact GT2.below (HG.out) (by repeat (first | (with_reducible first | exact HB.out | apply below_alloc | apply pw_below_drewN | apply below_drew1) | exact HB.out))); rintro e w36 ⟨v451, rfl, ho0, hb⟩; refine ⟨_, rfl, ?_⟩; have n0_ := Aside0.mk (Kd.R_lower ho0 (below_size (by repeat (first | (with_reducible first | exact HB.out | apply below_alloc | apply pw_below_drewN | apply below_drew1) | exact HB.out)))); have n1_ := Aside0.mk (below_step (by repeat (first | (with_reducible first | exact HB.out | apply below_alloc | apply pw_below_drewN | apply below_drew1) | exact HB.out)) hb); clear HB; have HO452 := n0_; have HB := n1_; clear n0_ n1_; (try clear hb); (try clear hb2); (try clear hk); (try clear hi); (try clear ho0); obtain ⟨Ao37, co37, eo37⟩ := Kd.R_slice HO452.out; subst eo37) | ((with_reducible refine gate_callee (f := 24) rfl ?_); refine goesL_ (some 2) rfl rfl Tryd.func24 (by kernel_rfl) rfl #[.slice Ao37 t450.length co37, .string (⟨#[208, 162, 208, 190, 208, 187, 209, 129, 209, 130, 208, 190, 208, 185]⟩ : ByteArray)] rfl (by (try simp only [List.map_toArray, List.map_cons, List.map_nil]); first | done | rfl | (simp only [List.length_drop, List.length_take]; rfl)) ?_; (with_reducible refine (translit_To.calls k _ _ t450 (⟨#[208, 162, 208, 190, 208, 187, 209, 129, 209, 130, 208, 190, 208, 185]⟩ : ByteArray) t453 _ ?side1 ?side2 ?side3 A2.out).mono ?_); (case side1 => repeat (first | exact (Kd.R_reads' HO452.out).2.2 | (with_reducible refine Kd.C_alloc ?_ _) | (with_reducible refine Kd.C_drewN ?_ _) | (with_reducible refine Kd.C_drew ?_))); (case side2 => exact (Kd.R_reads' HO452.out).2.1); (case side3 => exact GT1.below (HG.out.one) (by repeat (first | (with_reducible first | exact HB.out | apply below_alloc | apply pw_below_drewN | apply below_drew1) | exact HB.out))); rintro e w38 ⟨rfl, hb⟩; refine ⟨_, rfl, ?_⟩; have n0_ := Aside0.mk (Kd.R_below (by (with_reducible repeat (first | apply Kd.R_alloc | apply Kd.R_drewN | apply Kd.R_drew)); exact HO452.out) hb); have n1_ := Aside0.mk (below_step (by repeat (first | (with_reducible first | exact HB.out | apply below_alloc | apply pw_below_drewN | apply below_drew1) | exact HB.out)) hb); clear HO452; clear HB; have HO452 := n0_; have HB := n1_; clear n0_ n1_; (try clear hb); (try clear hb2); (try clear hk); (try clear hi)) | (go_at_call 33; (fail_if_success (have := HO456)); (with_reducible refine (translit_Greek.calls k  t454 _ ?side1 A4.out).mono ?_); (case side1 => exact GT2.below (HG.out) (by repeat (first | (with_reducible first | exact HB.out | apply below_alloc | apply pw_below_drewN | apply below_drew1) | exact HB.out))); rintro e w39 ⟨v455, rfl, ho0, hb⟩; have n0_ := Aside0.mk (Kd.R_elder' (by (with_reducible repeat (first | apply Kd.R_alloc | apply Kd.R_drewN | apply Kd.R_drew)); exact HO452.out) (Kd.R_base ho0) hb); have n1_ := Aside0.mk (Kd.R_lower (Kd.R_new' ho0 (Kd.R_lt (by (with_reducible repeat (first | apply Kd.R_alloc | apply Kd.R_drewN | apply Kd.R_drew)); exact HO452.out))) (below_size (by repeat (first | (with_reducible first | exact HB.out | apply below_alloc | apply pw_below_drewN | apply below_drew1) | exact HB.out)))); have n2_ := Aside0.mk (below_step (by repeat (first | (with_reducible first | exact HB.out | apply below_alloc | apply pw_below_drewN | apply below_drew1) | exact HB.out)) hb); clear HO452; clear HB; have HO452 := n0_; have HO456 := n1_; have HB := n2_; clear n0_ n1_ n2_; (try clear hb); (try clear hb2); (try clear hk); (try clear hi); (try clear ho0); obtain ⟨Ao40, co40, eo40⟩ := Kd.R_slice HO456.out; subst eo40) | (go_at_call 24; (with_reducible refine (translit_To.calls k _ _ t454 (⟨#[206, 191, 207, 133, 207, 129, 206, 177, 206, 189, 206, 191, 207, 130]⟩ : ByteArray) t457 _ ?side1 ?side2 ?side3 A5.out).mono ?_); (case side1 => repeat (first | exact (Kd.R_reads' HO456.out).2.2 | (with_reducible refine Kd.C_alloc ?_ _) | (with_reducible refine Kd.C_drewN ?_ _) | (with_reducible refine Kd.C_drew ?_))); (case side2 => exact (Kd.R_reads' HO456.out).2.1); (case side3 => exact GT1.below (HG.out.one) (by repeat (first | (with_reducible first | exact HB.out | apply below_alloc | apply pw_below_drewN | apply below_drew1) | exact HB.out))); rintro e w41 ⟨rfl, hb⟩; have n0_ := Aside0.mk (Kd.R_below (by (with_reducible repeat (first | apply Kd.R_alloc | apply Kd.R_drewN | apply Kd.R_drew)); exact HO452.out) hb); have n1_ := Aside0.mk (Kd.R_below (by (with_reducible repeat (first | apply Kd.R_alloc | apply Kd.R_drewN | apply Kd.R_drew)); exact HO456.out) hb); have n2_ := Aside0.mk (below_step (by repeat (first | (with_reducible first | exact HB.out | apply below_alloc | apply pw_below_drewN | apply below_drew1) | exact HB.out)) hb); clear HO452; clear HO456; clear HB; have HO452 := n0_; have HO456 := n1_; have HB := n2_; clear n0_ n1_ n2_; (try clear hb); (try clear hb2); (try clear hk); (try clear hi)) | (go_at_call 32; (fail_if_success (have := HO460)); (with_reducible refine (translit_Cyrillic.calls k  t458 _ ?side1 A7.out).mono ?_); (case side1 => exact GT2.below (HG.out) (by repeat (first | (with_reducible first | exact HB.out | apply below_alloc | apply pw_below_drewN | apply below_drew1) | exact HB.out))); rintro e w42 ⟨v459, rfl, ho0, hb⟩; have n0_ := Aside0.mk (Kd.R_elder' (by (with_reducible repeat (first | apply Kd.R_alloc | apply Kd.R_drewN | apply Kd.R_drew)); exact HO452.out) (Kd.R_base ho0) hb); have n1_ := Aside0.mk (Kd.R_elder' (by (with_reducible repeat (first | apply Kd.R_alloc | apply Kd.R_drewN | apply Kd.R_drew)); exact HO456.out) (Kd.R_base ho0) hb); have n2_ := Aside0.mk (Kd.R_lower (Kd.R_new' (Kd.R_new' ho0 (Kd.R_lt (by (with_reducible repeat (first | apply Kd.R_alloc | apply Kd.R_drewN | apply Kd.R_drew)); exact HO452.out))) (Kd.R_lt (by (with_reducible repeat (first | apply Kd.R_alloc | apply Kd.R_drewN | apply Kd.R_drew)); exact HO456.out))) (below_size (by repeat (first | (with_reducible first | exact HB.out | apply below_alloc | apply pw_below_drewN | apply below_drew1) | exact HB.out)))); have n3_ := Aside0.mk (below_step (by repeat (first | (with_reducible first | exact HB.out | apply below_alloc | apply pw_below_drewN | apply below_drew1) | exact HB.out)) hb); clear HO452; clear HO456; clear HB; have HO452 := n0_; have HO456 := n1_; have HO460 := n2_; have HB := n3_; clear n0_ n1_ n2_ n3_; (try clear hb); (try clear hb2); (try clear hk); (try clear hi); (try clear ho0); obtain ⟨Ao43, co43, eo43⟩ := Kd.R_slice HO460.out; subst eo43) | (go_at_call 22; (with_reducible refine (translit_Reversible.calls k _ _ t458 true _ ?side1 ?side2 ?side3 A8.out).mono ?_); (case side1 => repeat (first | exact (Kd.R_reads' HO460.out).2.2 | (with_reducible refine Kd.C_alloc ?_ _) | (with_reducible refine Kd.C_drewN ?_ _) | (with_reducible refine Kd.C_drew ?_))); (case side2 => exact (Kd.R_reads' HO460.out).2.1); (case side3 => exact GT1.below (HG.out.one) (by repeat (first | (with_reducible first | exact HB.out | apply below_alloc | apply pw_below_drewN | apply below_drew1) | exact HB.out))); rintro e w44 ⟨rfl, hb⟩; have n0_ := Aside0.mk (Kd.R_below (by (with_reducible repeat (first | apply Kd.R_alloc | apply Kd.R_drewN | apply Kd.R_drew)); exact HO452.out) hb); have n1_ := Aside0.mk (Kd.R_below (by (with_reducible repeat (first | apply Kd.R_alloc | apply Kd.R_drewN | apply Kd.R_drew)); exact HO456.out) hb); have n2_ := Aside0.mk (Kd.R_below (by (with_reducible repeat (first | apply Kd.R_alloc | apply Kd.R_drewN | apply Kd.R_drew)); exact HO460.out) hb); have n3_ := Aside0.mk (below_step (by repeat (first | (with_reducible first | exact HB.out | apply below_alloc | apply pw_below_drewN | apply below_drew1) | exact HB.out)) hb); clear HO452; clear HO456; clear HO460; clear HB; have HO452 := n0_; have HO456 := n1_; have HO460 := n2_; have HB := n3_; clear n0_ n1_ n2_ n3_; (try clear hb); (try clear hb2); (try clear hk); (try clear hi)) | (go_at_call 32; (fail_if_success (have := HO464)); (with_reducible refine (translit_Cyrillic.calls k  t462 _ ?side1 A10.out).mono ?_); (case side1 => exact GT2.below (HG.out) (by repeat (first | (with_reducible first | exact HB.out | apply below_alloc | apply pw_below_drewN | apply below_drew1) | exact HB.out))); rintro e w45 ⟨v463, rfl, ho0, hb⟩; have n0_ := Aside0.mk (Kd.R_elder' (by (with_reducible repeat (first | apply Kd.R_alloc | apply Kd.R_drewN | apply Kd.R_drew)); exact HO452.out) (Kd.R_base ho0) hb); have n1_ := Aside0.mk (Kd.R_elder' (by (with_reducible repeat (first | apply Kd.R_alloc | apply Kd.R_drewN | apply Kd.R_drew)); exact HO456.out) (Kd.R_base ho0) hb); have n2_ := Aside0.mk (Kd.R_elder' (by (with_reducible repeat (first | apply Kd.R_alloc | apply Kd.R_drewN | apply Kd.R_drew)); exact HO460.out) (Kd.R_base ho0) hb); have n3_ := Aside0.mk (Kd.R_lower (Kd.R_new' (Kd.R_new' (Kd.R_new' ho0 (Kd.R_lt (by (with_reducible repeat (first | apply Kd.R_alloc | apply Kd.R_drewN | apply Kd.R_drew)); exact HO452.out))) (Kd.R_lt (by (with_reducible repeat (first | apply Kd.R_alloc | apply Kd.R_drewN | apply Kd.R_drew)); exact HO456.out))) (Kd.R_lt (by (with_reducible repeat (first | apply Kd.R_alloc | apply Kd.R_drewN | apply Kd.R_drew)); exact HO460.out))) (below_size (by repeat (first | (with_reducible first | exact HB.out | apply below_alloc | apply pw_below_drewN | apply below_drew1) | exact HB.out)))); have n4_ := Aside0.mk (below_step (by repeat (first | (with_reducible first | exact HB.out | apply below_alloc | apply pw_below_drewN | apply below_drew1) | exact HB.out)) hb); clear HO452; clear HO456; clear HO460; clear HB; have HO452 := n0_; have HO456 := n1_; have HO460 := n2_; have HO464 := n3_; have HB := n4_; clear n0_ n1_ n2_ n3_ n4_; (try clear hb); (try clear hb2); (try clear hk); (try clear hi); (try clear ho0); obtain ⟨Ao46, co46, eo46⟩ := Kd.R_slice HO464.out; subst eo46) | (go_at_call 26; (with_reducible refine (translit_Back.calls k _ _ t462 (⟨#[84, 111, 108, 115, 116, 111, 106]⟩ : ByteArray) t465 _ ?side1 ?side2 ?side3 A11.out).mono ?_); (case side1 => repeat (first | exact (Kd.R_reads' HO464.out).2.2 | (with_reducible refine Kd.C_alloc ?_ _) | (with_reducible refine Kd.C_drewN ?_ _) | (with_reducible refine Kd.C_drew ?_))); (case side2 => exact (Kd.R_reads' HO464.out).2.1); (case side3 => exact GT1.below (HG.out.one) (by repeat (first | (with_reducible first | exact HB.out | apply below_alloc | apply pw_below_drewN | apply below_drew1) | exact HB.out))); rintro e w47 ⟨rfl, hb⟩; have n0_ := Aside0.mk (Kd.R_below (by (with_reducible repeat (first | apply Kd.R_alloc | apply Kd.R_drewN | apply Kd.R_drew)); exact HO452.out) hb); have n1_ := Aside0.mk (Kd.R_below (by (with_reducible repeat (first | apply Kd.R_alloc | apply Kd.R_drewN | apply Kd.R_drew)); exact HO456.out) hb); have n2_ := Aside0.mk (Kd.R_below (by (with_reducible repeat (first | apply Kd.R_alloc | apply Kd.R_drewN | apply Kd.R_drew)); exact HO460.out) hb); have n3_ := Aside0.mk (Kd.R_below (by (with_reducible repeat (first | apply Kd.R_alloc | apply Kd.R_drewN | apply Kd.R_drew)); exact HO464.out) hb); have n4_ := Aside0.mk (below_step (by repeat (first | (with_reducible first | exact HB.out | apply below_alloc | apply pw_below_drewN | apply below_drew1) | exact HB.out)) hb); clear HO452; clear HO456; clear HO460; clear HO464; clear HB; have HO452 := n0_; have HO456 := n1_; have HO460 := n2_; have HO464 := n3_; have HB := n4_; clear n0_ n1_ n2_ n3_ n4_; (try clear hb); (try clear hb2); (try clear hk); (try clear hi)) | (go_at_call 33; (fail_if_success (have := HO468)); (with_reducible refine (translit_Greek.calls k  t466 _ ?side1 A13.out).mono ?_); (case side1 => exact GT2.below (HG.out) (by repeat (first | (with_reducible first | exact HB.out | apply below_alloc | apply pw_below_drewN | apply below_drew1) | exact HB.out))); rintro e w48 ⟨v467, rfl, ho0, hb⟩; have n0_ := Aside0.mk (Kd.R_elder' (by (with_reducible repeat (first | apply Kd.R_alloc | apply Kd.R_drewN | apply Kd.R_drew)); exact HO452.out) (Kd.R_base ho0) hb); have n1_ := Aside0.mk (Kd.R_elder' (by (with_reducible repeat (first | apply Kd.R_alloc | apply Kd.R_drewN | apply Kd.R_drew)); exact HO456.out) (Kd.R_base ho0) hb); have n2_ := Aside0.mk (Kd.R_elder' (by (with_reducible repeat (first | apply Kd.R_alloc | apply Kd.R_drewN | apply Kd.R_drew)); exact HO460.out) (Kd.R_base ho0) hb); have n3_ := Aside0.mk (Kd.R_elder' (by (with_reducible repeat (first | apply Kd.R_alloc | apply Kd.R_drewN | apply Kd.R_drew)); exact HO464.out) (Kd.R_base ho0) hb); have n4_ := Aside0.mk (Kd.R_lower (Kd.R_new' (Kd.R_new' (Kd.R_new' (Kd.R_new' ho0 (Kd.R_lt (by (with_reducible repeat (first | apply Kd.R_alloc | apply Kd.R_drewN | apply Kd.R_drew)); exact HO452.out))) (Kd.R_lt (by (with_reducible repeat (first | apply Kd.R_alloc | apply Kd.R_drewN | apply Kd.R_drew)); exact HO456.out))) (Kd.R_lt (by (with_reducible repeat (first | apply Kd.R_alloc | apply Kd.R_drewN | apply Kd.R_drew)); exact HO460.out))) (Kd.R_lt (by (with_reducible repeat (first | apply Kd.R_alloc | apply Kd.R_drewN | apply Kd.R_drew)); exact HO464.out))) (below_size (by repeat (first | (with_reducible first | exact HB.out | apply below_alloc | apply pw_below_drewN | apply below_drew1) | exact HB.out)))); have n5_ := Aside0.mk (below_step (by repeat (first | (with_reducible first | exact HB.out | apply below_alloc | apply pw_below_drewN | apply below_drew1) | exact HB.out)) hb); clear HO452; clear HO456; clear HO460; clear HO464; clear HB; have HO452 := n0_; have HO456 := n1_; have HO460 := n2_; have HO464 := n3_; have HO468 := n4_; have HB := n5_; clear n0_ n1_ n2_ n3_ n4_ n5_; (try clear hb); (try clear hb2); (try clear hk); (try clear hi); (try clear ho0); obtain ⟨Ao49, co49, eo49⟩ := Kd.R_slice HO468.out; subst eo49) | (go_at_call 28; (with_reducible refine (translit_Covers.calls k _ _ t466 (⟨#[206, 191, 207, 133]⟩ : ByteArray) false _ ?side1 ?side2 ?side3 A14.out).mono ?_); (case side1 => repeat (first | exact (Kd.R_reads' HO468.out).2.2 | (with_reducible refine Kd.C_alloc ?_ _) | (with_reducible refine Kd.C_drewN ?_ _) | (with_reducible refine Kd.C_drew ?_))); (case side2 => exact (Kd.R_reads' HO468.out).2.1); (case side3 => exact GT1.below (HG.out.one) (by repeat (first | (with_reducible first | exact HB.out | apply below_alloc | apply pw_below_drewN | apply below_drew1) | exact HB.out))); rintro e w50 ⟨rfl, hb⟩; have n0_ := Aside0.mk (Kd.R_below (by (with_reducible repeat (first | apply Kd.R_alloc | apply Kd.R_drewN | apply Kd.R_drew)); exact HO452.out) hb); have n1_ := Aside0.mk (Kd.R_below (by (with_reducible repeat (first | apply Kd.R_alloc | apply Kd.R_drewN | apply Kd.R_drew)); exact HO456.out) hb); have n2_ := Aside0.mk (Kd.R_below (by (with_reducible repeat (first | apply Kd.R_alloc | apply Kd.R_drewN | apply Kd.R_drew)); exact HO460.out) hb); have n3_ := Aside0.mk (Kd.R_below (by (with_reducible repeat (first | apply Kd.R_alloc | apply Kd.R_drewN | apply Kd.R_drew)); exact HO464.out) hb); have n4_ := Aside0.mk (Kd.R_below (by (with_reducible repeat (first | apply Kd.R_alloc | apply Kd.R_drewN | apply Kd.R_drew)); exact HO468.out) hb); have n5_ := Aside0.mk (below_step (by repeat (first | (with_reducible first | exact HB.out | apply below_alloc | apply pw_below_drewN | apply below_drew1) | exact HB.out)) hb); clear HO452; clear HO456; clear HO460; clear HO464; clear HO468; clear HB; have HO452 := n0_; have HO456 := n1_; have HO460 := n2_; have HO464 := n3_; have HO468 := n4_; have HB := n5_; clear n0_ n1_ n2_ n3_ n4_ n5_; (try clear hb); (try clear hb2); (try clear hk); (try clear hi)))
            go_ret
            exact ⟨by first | rfl | (simp [errW_none, errW_some] <;> rfl) | (simp [*, errW_none, errW_some] <;> rfl), by repeat (first | (with_reducible first | exact HB.out | apply below_alloc | apply pw_below_drewN | apply below_drew1) | exact HB.out)⟩
        · rw [if_neg c12] at H
          have c12b0 : (t465.toList == ([208, 162, 208, 190, 208, 187, 209, 129, 209, 130, 208, 190, 208, 185] : List UInt8)) = false := beq_eq_false_iff_ne.mpr c12
          have c12b1 : (t465.toList != ([208, 162, 208, 190, 208, 187, 209, 129, 209, 130, 208, 190, 208, 185] : List UInt8)) = true := bne_iff_ne.mpr c12
          obtain rfl := Option.some.inj H
          go_enter Tryd.func17, Tryd.ntmps17
          go_wp2_with (first | ((with_reducible refine gate_callee (f := 32) rfl ?_); refine goesL_ (some 1) rfl rfl Tryd.func32 (by kernel_rfl) rfl #[] rfl (by (try simp only [List.map_toArray, List.map_cons, List.map_nil]); first | done | rfl | (simp only [List.length_drop, List.length_take]; rfl)) ?_; (with_reducible refine (translit_Cyrillic.calls k  t450 _ ?side1 A1.out).mono ?_); (case side1 => exact GT2.below (HG.out) (by repeat (first | (with_reducible first | exact HB.out | apply below_alloc | apply pw_below_drewN | apply below_drew1) | exact HB.out))); rintro e w51 ⟨v451, rfl, ho0, hb⟩; refine ⟨_, rfl, ?_⟩; have n0_ := Aside0.mk (Kd.R_lower ho0 (below_size (by repeat (first | (with_reducible first | exact HB.out | apply below_alloc | apply pw_below_drewN | apply below_drew1) | exact HB.out)))); have n1_ := Aside0.mk (below_step (by repeat (first | (with_reducible first | exact HB.out | apply below_alloc | apply pw_below_drewN | apply below_drew1) | exact HB.out)) hb); clear HB; have HO452 := n0_; have HB := n1_; clear n0_ n1_; (try clear hb); (try clear hb2); (try clear hk); (try clear hi); (try clear ho0); obtain ⟨Ao52, co52, eo52⟩ := Kd.R_slice HO452.out; subst eo52) | ((with_reducible refine gate_callee (f := 24) rfl ?_); refine goesL_ (some 2) rfl rfl Tryd.func24 (by kernel_rfl) rfl #[.slice Ao52 t450.length co52, .string (⟨#[208, 162, 208, 190, 208, 187, 209, 129, 209, 130, 208, 190, 208, 185]⟩ : ByteArray)] rfl (by (try simp only [List.map_toArray, List.map_cons, List.map_nil]); first | done | rfl | (simp only [List.length_drop, List.length_take]; rfl)) ?_; (with_reducible refine (translit_To.calls k _ _ t450 (⟨#[208, 162, 208, 190, 208, 187, 209, 129, 209, 130, 208, 190, 208, 185]⟩ : ByteArray) t453 _ ?side1 ?side2 ?side3 A2.out).mono ?_); (case side1 => repeat (first | exact (Kd.R_reads' HO452.out).2.2 | (with_reducible refine Kd.C_alloc ?_ _) | (with_reducible refine Kd.C_drewN ?_ _) | (with_reducible refine Kd.C_drew ?_))); (case side2 => exact (Kd.R_reads' HO452.out).2.1); (case side3 => exact GT1.below (HG.out.one) (by repeat (first | (with_reducible first | exact HB.out | apply below_alloc | apply pw_below_drewN | apply below_drew1) | exact HB.out))); rintro e w53 ⟨rfl, hb⟩; refine ⟨_, rfl, ?_⟩; have n0_ := Aside0.mk (Kd.R_below (by (with_reducible repeat (first | apply Kd.R_alloc | apply Kd.R_drewN | apply Kd.R_drew)); exact HO452.out) hb); have n1_ := Aside0.mk (below_step (by repeat (first | (with_reducible first | exact HB.out | apply below_alloc | apply pw_below_drewN | apply below_drew1) | exact HB.out)) hb); clear HO452; clear HB; have HO452 := n0_; have HB := n1_; clear n0_ n1_; (try clear hb); (try clear hb2); (try clear hk); (try clear hi)) | (go_at_call 33; (with_reducible refine (translit_Greek.calls k  t454 _ ?side1 A4.out).mono ?_); (case side1 => exact GT2.below (HG.out) (by repeat (first | (with_reducible first | exact HB.out | apply below_alloc | apply pw_below_drewN | apply below_drew1) | exact HB.out))); rintro e w54 ⟨v455, rfl, ho0, hb⟩; have n0_ := Aside0.mk (Kd.R_elder' (by (with_reducible repeat (first | apply Kd.R_alloc | apply Kd.R_drewN | apply Kd.R_drew)); exact HO452.out) (Kd.R_base ho0) hb); have n1_ := Aside0.mk (Kd.R_lower (Kd.R_new' ho0 (Kd.R_lt (by (with_reducible repeat (first | apply Kd.R_alloc | apply Kd.R_drewN | apply Kd.R_drew)); exact HO452.out))) (below_size (by repeat (first | (with_reducible first | exact HB.out | apply below_alloc | apply pw_below_drewN | apply below_drew1) | exact HB.out)))); have n2_ := Aside0.mk (below_step (by repeat (first | (with_reducible first | exact HB.out | apply below_alloc | apply pw_below_drewN | apply below_drew1) | exact HB.out)) hb); clear HO452; clear HB; have HO452 := n0_; have HO456 := n1_; have HB := n2_; clear n0_ n1_ n2_; (try clear hb); (try clear hb2); (try clear hk); (try clear hi); (try clear ho0); obtain ⟨Ao55, co55, eo55⟩ := Kd.R_slice HO456.out; subst eo55) | (go_at_call 24; (with_reducible refine (translit_To.calls k _ _ t454 (⟨#[206, 191, 207, 133, 207, 129, 206, 177, 206, 189, 206, 191, 207, 130]⟩ : ByteArray) t457 _ ?side1 ?side2 ?side3 A5.out).mono ?_); (case side1 => repeat (first | exact (Kd.R_reads' HO456.out).2.2 | (with_reducible refine Kd.C_alloc ?_ _) | (with_reducible refine Kd.C_drewN ?_ _) | (with_reducible refine Kd.C_drew ?_))); (case side2 => exact (Kd.R_reads' HO456.out).2.1); (case side3 => exact GT1.below (HG.out.one) (by repeat (first | (with_reducible first | exact HB.out | apply below_alloc | apply pw_below_drewN | apply below_drew1) | exact HB.out))); rintro e w56 ⟨rfl, hb⟩; have n0_ := Aside0.mk (Kd.R_below (by (with_reducible repeat (first | apply Kd.R_alloc | apply Kd.R_drewN | apply Kd.R_drew)); exact HO452.out) hb); have n1_ := Aside0.mk (Kd.R_below (by (with_reducible repeat (first | apply Kd.R_alloc | apply Kd.R_drewN | apply Kd.R_drew)); exact HO456.out) hb); have n2_ := Aside0.mk (below_step (by repeat (first | (with_reducible first | exact HB.out | apply below_alloc | apply pw_below_drewN | apply below_drew1) | exact HB.out)) hb); clear HO452; clear HO456; clear HB; have HO452 := n0_; have HO456 := n1_; have HB := n2_; clear n0_ n1_ n2_; (try clear hb); (try clear hb2); (try clear hk); (try clear hi)) | (go_at_call 32; (fail_if_success (have := HO460)); (with_reducible refine (translit_Cyrillic.calls k  t458 _ ?side1 A7.out).mono ?_); (case side1 => exact GT2.below (HG.out) (by repeat (first | (with_reducible first | exact HB.out | apply below_alloc | apply pw_below_drewN | apply below_drew1) | exact HB.out))); rintro e w57 ⟨v459, rfl, ho0, hb⟩; have n0_ := Aside0.mk (Kd.R_elder' (by (with_reducible repeat (first | apply Kd.R_alloc | apply Kd.R_drewN | apply Kd.R_drew)); exact HO452.out) (Kd.R_base ho0) hb); have n1_ := Aside0.mk (Kd.R_elder' (by (with_reducible repeat (first | apply Kd.R_alloc | apply Kd.R_drewN | apply Kd.R_drew)); exact HO456.out) (Kd.R_base ho0) hb); have n2_ := Aside0.mk (Kd.R_lower (Kd.R_new' (Kd.R_new' ho0 (Kd.R_lt (by (with_reducible repeat (first | apply Kd.R_alloc | apply Kd.R_drewN | apply Kd.R_drew)); exact HO452.out))) (Kd.R_lt (by (with_reducible repeat (first | apply Kd.R_alloc | apply Kd.R_drewN | apply Kd.R_drew)); exact HO456.out))) (below_size (by repeat (first | (with_reducible first | exact HB.out | apply below_alloc | apply pw_below_drewN | apply below_drew1) | exact HB.out)))); have n3_ := Aside0.mk (below_step (by repeat (first | (with_reducible first | exact HB.out | apply below_alloc | apply pw_below_drewN | apply below_drew1) | exact HB.out)) hb); clear HO452; clear HO456; clear HB; have HO452 := n0_; have HO456 := n1_; have HO460 := n2_; have HB := n3_; clear n0_ n1_ n2_ n3_; (try clear hb); (try clear hb2); (try clear hk); (try clear hi); (try clear ho0); obtain ⟨Ao58, co58, eo58⟩ := Kd.R_slice HO460.out; subst eo58) | (go_at_call 22; (with_reducible refine (translit_Reversible.calls k _ _ t458 true _ ?side1 ?side2 ?side3 A8.out).mono ?_); (case side1 => repeat (first | exact (Kd.R_reads' HO460.out).2.2 | (with_reducible refine Kd.C_alloc ?_ _) | (with_reducible refine Kd.C_drewN ?_ _) | (with_reducible refine Kd.C_drew ?_))); (case side2 => exact (Kd.R_reads' HO460.out).2.1); (case side3 => exact GT1.below (HG.out.one) (by repeat (first | (with_reducible first | exact HB.out | apply below_alloc | apply pw_below_drewN | apply below_drew1) | exact HB.out))); rintro e w59 ⟨rfl, hb⟩; have n0_ := Aside0.mk (Kd.R_below (by (with_reducible repeat (first | apply Kd.R_alloc | apply Kd.R_drewN | apply Kd.R_drew)); exact HO452.out) hb); have n1_ := Aside0.mk (Kd.R_below (by (with_reducible repeat (first | apply Kd.R_alloc | apply Kd.R_drewN | apply Kd.R_drew)); exact HO456.out) hb); have n2_ := Aside0.mk (Kd.R_below (by (with_reducible repeat (first | apply Kd.R_alloc | apply Kd.R_drewN | apply Kd.R_drew)); exact HO460.out) hb); have n3_ := Aside0.mk (below_step (by repeat (first | (with_reducible first | exact HB.out | apply below_alloc | apply pw_below_drewN | apply below_drew1) | exact HB.out)) hb); clear HO452; clear HO456; clear HO460; clear HB; have HO452 := n0_; have HO456 := n1_; have HO460 := n2_; have HB := n3_; clear n0_ n1_ n2_ n3_; (try clear hb); (try clear hb2); (try clear hk); (try clear hi)) | (go_at_call 32; (fail_if_success (have := HO464)); (with_reducible refine (translit_Cyrillic.calls k  t462 _ ?side1 A10.out).mono ?_); (case side1 => exact GT2.below (HG.out) (by repeat (first | (with_reducible first | exact HB.out | apply below_alloc | apply pw_below_drewN | apply below_drew1) | exact HB.out))); rintro e w60 ⟨v463, rfl, ho0, hb⟩; have n0_ := Aside0.mk (Kd.R_elder' (by (with_reducible repeat (first | apply Kd.R_alloc | apply Kd.R_drewN | apply Kd.R_drew)); exact HO452.out) (Kd.R_base ho0) hb); have n1_ := Aside0.mk (Kd.R_elder' (by (with_reducible repeat (first | apply Kd.R_alloc | apply Kd.R_drewN | apply Kd.R_drew)); exact HO456.out) (Kd.R_base ho0) hb); have n2_ := Aside0.mk (Kd.R_elder' (by (with_reducible repeat (first | apply Kd.R_alloc | apply Kd.R_drewN | apply Kd.R_drew)); exact HO460.out) (Kd.R_base ho0) hb); have n3_ := Aside0.mk (Kd.R_lower (Kd.R_new' (Kd.R_new' (Kd.R_new' ho0 (Kd.R_lt (by (with_reducible repeat (first | apply Kd.R_alloc | apply Kd.R_drewN | apply Kd.R_drew)); exact HO452.out))) (Kd.R_lt (by (with_reducible repeat (first | apply Kd.R_alloc | apply Kd.R_drewN | apply Kd.R_drew)); exact HO456.out))) (Kd.R_lt (by (with_reducible repeat (first | apply Kd.R_alloc | apply Kd.R_drewN | apply Kd.R_drew)); exact HO460.out))) (below_size (by repeat (first | (with_reducible first | exact HB.out | apply below_alloc | apply pw_below_drewN | apply below_drew1) | exact HB.out)))); have n4_ := Aside0.mk (below_step (by repeat (first | (with_reducible first | exact HB.out | apply below_alloc | apply pw_below_drewN | apply below_drew1) | exact HB.out)) hb); clear HO452; clear HO456; clear HO460; clear HB; have HO452 := n0_; have HO456 := n1_; have HO460 := n2_; have HO464 := n3_; have HB := n4_; clear n0_ n1_ n2_ n3_ n4_; (try clear hb); (try clear hb2); (try clear hk); (try clear hi); (try clear ho0); obtain ⟨Ao61, co61, eo61⟩ := Kd.R_slice HO464.out; subst eo61) | (go_at_call 26; (with_reducible refine (translit_Back.calls k _ _ t462 (⟨#[84, 111, 108, 115, 116, 111, 106]⟩ : ByteArray) t465 _ ?side1 ?side2 ?side3 A11.out).mono ?_); (case side1 => repeat (first | exact (Kd.R_reads' HO464.out).2.2 | (with_reducible refine Kd.C_alloc ?_ _) | (with_reducible refine Kd.C_drewN ?_ _) | (with_reducible refine Kd.C_drew ?_))); (case side2 => exact (Kd.R_reads' HO464.out).2.1); (case side3 => exact GT1.below (HG.out.one) (by repeat (first | (with_reducible first | exact HB.out | apply below_alloc | apply pw_below_drewN | apply below_drew1) | exact HB.out))); rintro e w62 ⟨rfl, hb⟩; have n0_ := Aside0.mk (Kd.R_below (by (with_reducible repeat (first | apply Kd.R_alloc | apply Kd.R_drewN | apply Kd.R_drew)); exact HO452.out) hb); have n1_ := Aside0.mk (Kd.R_below (by (with_reducible repeat (first | apply Kd.R_alloc | apply Kd.R_drewN | apply Kd.R_drew)); exact HO456.out) hb); have n2_ := Aside0.mk (Kd.R_below (by (with_reducible repeat (first | apply Kd.R_alloc | apply Kd.R_drewN | apply Kd.R_drew)); exact HO460.out) hb); have n3_ := Aside0.mk (Kd.R_below (by (with_reducible repeat (first | apply Kd.R_alloc | apply Kd.R_drewN | apply Kd.R_drew)); exact HO464.out) hb); have n4_ := Aside0.mk (below_step (by repeat (first | (with_reducible first | exact HB.out | apply below_alloc | apply pw_below_drewN | apply below_drew1) | exact HB.out)) hb); clear HO452; clear HO456; clear HO460; clear HO464; clear HB; have HO452 := n0_; have HO456 := n1_; have HO460 := n2_; have HO464 := n3_; have HB := n4_; clear n0_ n1_ n2_ n3_ n4_; (try clear hb); (try clear hb2); (try clear hk); (try clear hi)))
          go_ret
          exact ⟨by first | rfl | (simp [errW_none, errW_some] <;> rfl) | (simp [*, errW_none, errW_some] <;> rfl), by repeat (first | (with_reducible first | exact HB.out | apply below_alloc | apply pw_below_drewN | apply below_drew1) | exact HB.out)⟩
      · replace c9 := Bool.eq_false_iff.mpr c9
        subst c9
        have H1 : (some false) = some r := by rw [if_neg (show ¬ (false = true) by decide)] at H; exact H
        clear H
        have H := H1
        clear H1
        obtain rfl := Option.some.inj H
        go_enter Tryd.func17, Tryd.ntmps17
        go_wp2_with (first | ((with_reducible refine gate_callee (f := 32) rfl ?_); refine goesL_ (some 1) rfl rfl Tryd.func32 (by kernel_rfl) rfl #[] rfl (by (try simp only [List.map_toArray, List.map_cons, List.map_nil]); first | done | rfl | (simp only [List.length_drop, List.length_take]; rfl)) ?_; (with_reducible refine (translit_Cyrillic.calls k  t450 _ ?side1 A1.out).mono ?_); (case side1 => exact GT2.below (HG.out) (by repeat (first | (with_reducible first | exact HB.out | apply below_alloc | apply pw_below_drewN | apply below_drew1) | exact HB.out))); rintro e w63 ⟨v451, rfl, ho0, hb⟩; refine ⟨_, rfl, ?_⟩; have n0_ := Aside0.mk (Kd.R_lower ho0 (below_size (by repeat (first | (with_reducible first | exact HB.out | apply below_alloc | apply pw_below_drewN | apply below_drew1) | exact HB.out)))); have n1_ := Aside0.mk (below_step (by repeat (first | (with_reducible first | exact HB.out | apply below_alloc | apply pw_below_drewN | apply below_drew1) | exact HB.out)) hb); clear HB; have HO452 := n0_; have HB := n1_; clear n0_ n1_; (try clear hb); (try clear hb2); (try clear hk); (try clear hi); (try clear ho0); obtain ⟨Ao64, co64, eo64⟩ := Kd.R_slice HO452.out; subst eo64) | ((with_reducible refine gate_callee (f := 24) rfl ?_); refine goesL_ (some 2) rfl rfl Tryd.func24 (by kernel_rfl) rfl #[.slice Ao64 t450.length co64, .string (⟨#[208, 162, 208, 190, 208, 187, 209, 129, 209, 130, 208, 190, 208, 185]⟩ : ByteArray)] rfl (by (try simp only [List.map_toArray, List.map_cons, List.map_nil]); first | done | rfl | (simp only [List.length_drop, List.length_take]; rfl)) ?_; (with_reducible refine (translit_To.calls k _ _ t450 (⟨#[208, 162, 208, 190, 208, 187, 209, 129, 209, 130, 208, 190, 208, 185]⟩ : ByteArray) t453 _ ?side1 ?side2 ?side3 A2.out).mono ?_); (case side1 => repeat (first | exact (Kd.R_reads' HO452.out).2.2 | (with_reducible refine Kd.C_alloc ?_ _) | (with_reducible refine Kd.C_drewN ?_ _) | (with_reducible refine Kd.C_drew ?_))); (case side2 => exact (Kd.R_reads' HO452.out).2.1); (case side3 => exact GT1.below (HG.out.one) (by repeat (first | (with_reducible first | exact HB.out | apply below_alloc | apply pw_below_drewN | apply below_drew1) | exact HB.out))); rintro e w65 ⟨rfl, hb⟩; refine ⟨_, rfl, ?_⟩; have n0_ := Aside0.mk (Kd.R_below (by (with_reducible repeat (first | apply Kd.R_alloc | apply Kd.R_drewN | apply Kd.R_drew)); exact HO452.out) hb); have n1_ := Aside0.mk (below_step (by repeat (first | (with_reducible first | exact HB.out | apply below_alloc | apply pw_below_drewN | apply below_drew1) | exact HB.out)) hb); clear HO452; clear HB; have HO452 := n0_; have HB := n1_; clear n0_ n1_; (try clear hb); (try clear hb2); (try clear hk); (try clear hi)) | (go_at_call 33; (with_reducible refine (translit_Greek.calls k  t454 _ ?side1 A4.out).mono ?_); (case side1 => exact GT2.below (HG.out) (by repeat (first | (with_reducible first | exact HB.out | apply below_alloc | apply pw_below_drewN | apply below_drew1) | exact HB.out))); rintro e w66 ⟨v455, rfl, ho0, hb⟩; have n0_ := Aside0.mk (Kd.R_elder' (by (with_reducible repeat (first | apply Kd.R_alloc | apply Kd.R_drewN | apply Kd.R_drew)); exact HO452.out) (Kd.R_base ho0) hb); have n1_ := Aside0.mk (Kd.R_lower (Kd.R_new' ho0 (Kd.R_lt (by (with_reducible repeat (first | apply Kd.R_alloc | apply Kd.R_drewN | apply Kd.R_drew)); exact HO452.out))) (below_size (by repeat (first | (with_reducible first | exact HB.out | apply below_alloc | apply pw_below_drewN | apply below_drew1) | exact HB.out)))); have n2_ := Aside0.mk (below_step (by repeat (first | (with_reducible first | exact HB.out | apply below_alloc | apply pw_below_drewN | apply below_drew1) | exact HB.out)) hb); clear HO452; clear HB; have HO452 := n0_; have HO456 := n1_; have HB := n2_; clear n0_ n1_ n2_; (try clear hb); (try clear hb2); (try clear hk); (try clear hi); (try clear ho0); obtain ⟨Ao67, co67, eo67⟩ := Kd.R_slice HO456.out; subst eo67) | (go_at_call 24; (with_reducible refine (translit_To.calls k _ _ t454 (⟨#[206, 191, 207, 133, 207, 129, 206, 177, 206, 189, 206, 191, 207, 130]⟩ : ByteArray) t457 _ ?side1 ?side2 ?side3 A5.out).mono ?_); (case side1 => repeat (first | exact (Kd.R_reads' HO456.out).2.2 | (with_reducible refine Kd.C_alloc ?_ _) | (with_reducible refine Kd.C_drewN ?_ _) | (with_reducible refine Kd.C_drew ?_))); (case side2 => exact (Kd.R_reads' HO456.out).2.1); (case side3 => exact GT1.below (HG.out.one) (by repeat (first | (with_reducible first | exact HB.out | apply below_alloc | apply pw_below_drewN | apply below_drew1) | exact HB.out))); rintro e w68 ⟨rfl, hb⟩; have n0_ := Aside0.mk (Kd.R_below (by (with_reducible repeat (first | apply Kd.R_alloc | apply Kd.R_drewN | apply Kd.R_drew)); exact HO452.out) hb); have n1_ := Aside0.mk (Kd.R_below (by (with_reducible repeat (first | apply Kd.R_alloc | apply Kd.R_drewN | apply Kd.R_drew)); exact HO456.out) hb); have n2_ := Aside0.mk (below_step (by repeat (first | (with_reducible first | exact HB.out | apply below_alloc | apply pw_below_drewN | apply below_drew1) | exact HB.out)) hb); clear HO452; clear HO456; clear HB; have HO452 := n0_; have HO456 := n1_; have HB := n2_; clear n0_ n1_ n2_; (try clear hb); (try clear hb2); (try clear hk); (try clear hi)) | (go_at_call 32; (with_reducible refine (translit_Cyrillic.calls k  t458 _ ?side1 A7.out).mono ?_); (case side1 => exact GT2.below (HG.out) (by repeat (first | (with_reducible first | exact HB.out | apply below_alloc | apply pw_below_drewN | apply below_drew1) | exact HB.out))); rintro e w69 ⟨v459, rfl, ho0, hb⟩; have n0_ := Aside0.mk (Kd.R_elder' (by (with_reducible repeat (first | apply Kd.R_alloc | apply Kd.R_drewN | apply Kd.R_drew)); exact HO452.out) (Kd.R_base ho0) hb); have n1_ := Aside0.mk (Kd.R_elder' (by (with_reducible repeat (first | apply Kd.R_alloc | apply Kd.R_drewN | apply Kd.R_drew)); exact HO456.out) (Kd.R_base ho0) hb); have n2_ := Aside0.mk (Kd.R_lower (Kd.R_new' (Kd.R_new' ho0 (Kd.R_lt (by (with_reducible repeat (first | apply Kd.R_alloc | apply Kd.R_drewN | apply Kd.R_drew)); exact HO452.out))) (Kd.R_lt (by (with_reducible repeat (first | apply Kd.R_alloc | apply Kd.R_drewN | apply Kd.R_drew)); exact HO456.out))) (below_size (by repeat (first | (with_reducible first | exact HB.out | apply below_alloc | apply pw_below_drewN | apply below_drew1) | exact HB.out)))); have n3_ := Aside0.mk (below_step (by repeat (first | (with_reducible first | exact HB.out | apply below_alloc | apply pw_below_drewN | apply below_drew1) | exact HB.out)) hb); clear HO452; clear HO456; clear HB; have HO452 := n0_; have HO456 := n1_; have HO460 := n2_; have HB := n3_; clear n0_ n1_ n2_ n3_; (try clear hb); (try clear hb2); (try clear hk); (try clear hi); (try clear ho0); obtain ⟨Ao70, co70, eo70⟩ := Kd.R_slice HO460.out; subst eo70) | (go_at_call 22; (with_reducible refine (translit_Reversible.calls k _ _ t458 false _ ?side1 ?side2 ?side3 A8.out).mono ?_); (case side1 => repeat (first | exact (Kd.R_reads' HO460.out).2.2 | (with_reducible refine Kd.C_alloc ?_ _) | (with_reducible refine Kd.C_drewN ?_ _) | (with_reducible refine Kd.C_drew ?_))); (case side2 => exact (Kd.R_reads' HO460.out).2.1); (case side3 => exact GT1.below (HG.out.one) (by repeat (first | (with_reducible first | exact HB.out | apply below_alloc | apply pw_below_drewN | apply below_drew1) | exact HB.out))); rintro e w71 ⟨rfl, hb⟩; have n0_ := Aside0.mk (Kd.R_below (by (with_reducible repeat (first | apply Kd.R_alloc | apply Kd.R_drewN | apply Kd.R_drew)); exact HO452.out) hb); have n1_ := Aside0.mk (Kd.R_below (by (with_reducible repeat (first | apply Kd.R_alloc | apply Kd.R_drewN | apply Kd.R_drew)); exact HO456.out) hb); have n2_ := Aside0.mk (Kd.R_below (by (with_reducible repeat (first | apply Kd.R_alloc | apply Kd.R_drewN | apply Kd.R_drew)); exact HO460.out) hb); have n3_ := Aside0.mk (below_step (by repeat (first | (with_reducible first | exact HB.out | apply below_alloc | apply pw_below_drewN | apply below_drew1) | exact HB.out)) hb); clear HO452; clear HO456; clear HO460; clear HB; have HO452 := n0_; have HO456 := n1_; have HO460 := n2_; have HB := n3_; clear n0_ n1_ n2_ n3_; (try clear hb); (try clear hb2); (try clear hk); (try clear hi)))
        go_ret
        exact ⟨by first | rfl | (simp [errW_none, errW_some] <;> rfl) | (simp [*, errW_none, errW_some] <;> rfl), by repeat (first | (with_reducible first | exact HB.out | apply below_alloc | apply pw_below_drewN | apply below_drew1) | exact HB.out)⟩
    · rw [if_neg c6] at H
      have c6b0 : (t457.toList == ([111, 117, 114, 97, 110, 111, 115] : List UInt8)) = false := beq_eq_false_iff_ne.mpr c6
      have c6b1 : (t457.toList != ([111, 117, 114, 97, 110, 111, 115] : List UInt8)) = true := bne_iff_ne.mpr c6
      obtain rfl := Option.some.inj H
      go_enter Tryd.func17, Tryd.ntmps17
      go_wp2_with (first | ((with_reducible refine gate_callee (f := 32) rfl ?_); refine goesL_ (some 1) rfl rfl Tryd.func32 (by kernel_rfl) rfl #[] rfl (by (try simp only [List.map_toArray, List.map_cons, List.map_nil]); first | done | rfl | (simp only [List.length_drop, List.length_take]; rfl)) ?_; (with_reducible refine (translit_Cyrillic.calls k  t450 _ ?side1 A1.out).mono ?_); (case side1 => exact GT2.below (HG.out) (by repeat (first | (with_reducible first | exact HB.out | apply below_alloc | apply pw_below_drewN | apply below_drew1) | exact HB.out))); rintro e w72 ⟨v451, rfl, ho0, hb⟩; refine ⟨_, rfl, ?_⟩; have n0_ := Aside0.mk (Kd.R_lower ho0 (below_size (by repeat (first | (with_reducible first | exact HB.out | apply below_alloc | apply pw_below_drewN | apply below_drew1) | exact HB.out)))); have n1_ := Aside0.mk (below_step (by repeat (first | (with_reducible first | exact HB.out | apply below_alloc | apply pw_below_drewN | apply below_drew1) | exact HB.out)) hb); clear HB; have HO452 := n0_; have HB := n1_; clear n0_ n1_; (try clear hb); (try clear hb2); (try clear hk); (try clear hi); (try clear ho0); obtain ⟨Ao73, co73, eo73⟩ := Kd.R_slice HO452.out; subst eo73) | ((with_reducible refine gate_callee (f := 24) rfl ?_); refine goesL_ (some 2) rfl rfl Tryd.func24 (by kernel_rfl) rfl #[.slice Ao73 t450.length co73, .string (⟨#[208, 162, 208, 190, 208, 187, 209, 129, 209, 130, 208, 190, 208, 185]⟩ : ByteArray)] rfl (by (try simp only [List.map_toArray, List.map_cons, List.map_nil]); first | done | rfl | (simp only [List.length_drop, List.length_take]; rfl)) ?_; (with_reducible refine (translit_To.calls k _ _ t450 (⟨#[208, 162, 208, 190, 208, 187, 209, 129, 209, 130, 208, 190, 208, 185]⟩ : ByteArray) t453 _ ?side1 ?side2 ?side3 A2.out).mono ?_); (case side1 => repeat (first | exact (Kd.R_reads' HO452.out).2.2 | (with_reducible refine Kd.C_alloc ?_ _) | (with_reducible refine Kd.C_drewN ?_ _) | (with_reducible refine Kd.C_drew ?_))); (case side2 => exact (Kd.R_reads' HO452.out).2.1); (case side3 => exact GT1.below (HG.out.one) (by repeat (first | (with_reducible first | exact HB.out | apply below_alloc | apply pw_below_drewN | apply below_drew1) | exact HB.out))); rintro e w74 ⟨rfl, hb⟩; refine ⟨_, rfl, ?_⟩; have n0_ := Aside0.mk (Kd.R_below (by (with_reducible repeat (first | apply Kd.R_alloc | apply Kd.R_drewN | apply Kd.R_drew)); exact HO452.out) hb); have n1_ := Aside0.mk (below_step (by repeat (first | (with_reducible first | exact HB.out | apply below_alloc | apply pw_below_drewN | apply below_drew1) | exact HB.out)) hb); clear HO452; clear HB; have HO452 := n0_; have HB := n1_; clear n0_ n1_; (try clear hb); (try clear hb2); (try clear hk); (try clear hi)) | (go_at_call 33; (with_reducible refine (translit_Greek.calls k  t454 _ ?side1 A4.out).mono ?_); (case side1 => exact GT2.below (HG.out) (by repeat (first | (with_reducible first | exact HB.out | apply below_alloc | apply pw_below_drewN | apply below_drew1) | exact HB.out))); rintro e w75 ⟨v455, rfl, ho0, hb⟩; have n0_ := Aside0.mk (Kd.R_elder' (by (with_reducible repeat (first | apply Kd.R_alloc | apply Kd.R_drewN | apply Kd.R_drew)); exact HO452.out) (Kd.R_base ho0) hb); have n1_ := Aside0.mk (Kd.R_lower (Kd.R_new' ho0 (Kd.R_lt (by (with_reducible repeat (first | apply Kd.R_alloc | apply Kd.R_drewN | apply Kd.R_drew)); exact HO452.out))) (below_size (by repeat (first | (with_reducible first | exact HB.out | apply below_alloc | apply pw_below_drewN | apply below_drew1) | exact HB.out)))); have n2_ := Aside0.mk (below_step (by repeat (first | (with_reducible first | exact HB.out | apply below_alloc | apply pw_below_drewN | apply below_drew1) | exact HB.out)) hb); clear HO452; clear HB; have HO452 := n0_; have HO456 := n1_; have HB := n2_; clear n0_ n1_ n2_; (try clear hb); (try clear hb2); (try clear hk); (try clear hi); (try clear ho0); obtain ⟨Ao76, co76, eo76⟩ := Kd.R_slice HO456.out; subst eo76) | (go_at_call 24; (with_reducible refine (translit_To.calls k _ _ t454 (⟨#[206, 191, 207, 133, 207, 129, 206, 177, 206, 189, 206, 191, 207, 130]⟩ : ByteArray) t457 _ ?side1 ?side2 ?side3 A5.out).mono ?_); (case side1 => repeat (first | exact (Kd.R_reads' HO456.out).2.2 | (with_reducible refine Kd.C_alloc ?_ _) | (with_reducible refine Kd.C_drewN ?_ _) | (with_reducible refine Kd.C_drew ?_))); (case side2 => exact (Kd.R_reads' HO456.out).2.1); (case side3 => exact GT1.below (HG.out.one) (by repeat (first | (with_reducible first | exact HB.out | apply below_alloc | apply pw_below_drewN | apply below_drew1) | exact HB.out))); rintro e w77 ⟨rfl, hb⟩; have n0_ := Aside0.mk (Kd.R_below (by (with_reducible repeat (first | apply Kd.R_alloc | apply Kd.R_drewN | apply Kd.R_drew)); exact HO452.out) hb); have n1_ := Aside0.mk (Kd.R_below (by (with_reducible repeat (first | apply Kd.R_alloc | apply Kd.R_drewN | apply Kd.R_drew)); exact HO456.out) hb); have n2_ := Aside0.mk (below_step (by repeat (first | (with_reducible first | exact HB.out | apply below_alloc | apply pw_below_drewN | apply below_drew1) | exact HB.out)) hb); clear HO452; clear HO456; clear HB; have HO452 := n0_; have HO456 := n1_; have HB := n2_; clear n0_ n1_ n2_; (try clear hb); (try clear hb2); (try clear hk); (try clear hi)))
      go_ret
      exact ⟨by first | rfl | (simp [errW_none, errW_some] <;> rfl) | (simp [*, errW_none, errW_some] <;> rfl), by repeat (first | (with_reducible first | exact HB.out | apply below_alloc | apply pw_below_drewN | apply below_drew1) | exact HB.out)⟩
  · rw [if_neg c3] at H
    have c3b0 : (t453.toList == ([84, 111, 108, 115, 116, 111, 106] : List UInt8)) = false := beq_eq_false_iff_ne.mpr c3
    have c3b1 : (t453.toList != ([84, 111, 108, 115, 116, 111, 106] : List UInt8)) = true := bne_iff_ne.mpr c3
    obtain rfl := Option.some.inj H
    go_enter Tryd.func17, Tryd.ntmps17
    go_wp2_with (first | ((with_reducible refine gate_callee (f := 32) rfl ?_); refine goesL_ (some 1) rfl rfl Tryd.func32 (by kernel_rfl) rfl #[] rfl (by (try simp only [List.map_toArray, List.map_cons, List.map_nil]); first | done | rfl | (simp only [List.length_drop, List.length_take]; rfl)) ?_; (with_reducible refine (translit_Cyrillic.calls k  t450 _ ?side1 A1.out).mono ?_); (case side1 => exact GT2.below (HG.out) (by repeat (first | (with_reducible first | exact HB.out | apply below_alloc | apply pw_below_drewN | apply below_drew1) | exact HB.out))); rintro e w78 ⟨v451, rfl, ho0, hb⟩; refine ⟨_, rfl, ?_⟩; have n0_ := Aside0.mk (Kd.R_lower ho0 (below_size (by repeat (first | (with_reducible first | exact HB.out | apply below_alloc | apply pw_below_drewN | apply below_drew1) | exact HB.out)))); have n1_ := Aside0.mk (below_step (by repeat (first | (with_reducible first | exact HB.out | apply below_alloc | apply pw_below_drewN | apply below_drew1) | exact HB.out)) hb); clear HB; have HO452 := n0_; have HB := n1_; clear n0_ n1_; (try clear hb); (try clear hb2); (try clear hk); (try clear hi); (try clear ho0); obtain ⟨Ao79, co79, eo79⟩ := Kd.R_slice HO452.out; subst eo79) | ((with_reducible refine gate_callee (f := 24) rfl ?_); refine goesL_ (some 2) rfl rfl Tryd.func24 (by kernel_rfl) rfl #[.slice Ao79 t450.length co79, .string (⟨#[208, 162, 208, 190, 208, 187, 209, 129, 209, 130, 208, 190, 208, 185]⟩ : ByteArray)] rfl (by (try simp only [List.map_toArray, List.map_cons, List.map_nil]); first | done | rfl | (simp only [List.length_drop, List.length_take]; rfl)) ?_; (with_reducible refine (translit_To.calls k _ _ t450 (⟨#[208, 162, 208, 190, 208, 187, 209, 129, 209, 130, 208, 190, 208, 185]⟩ : ByteArray) t453 _ ?side1 ?side2 ?side3 A2.out).mono ?_); (case side1 => repeat (first | exact (Kd.R_reads' HO452.out).2.2 | (with_reducible refine Kd.C_alloc ?_ _) | (with_reducible refine Kd.C_drewN ?_ _) | (with_reducible refine Kd.C_drew ?_))); (case side2 => exact (Kd.R_reads' HO452.out).2.1); (case side3 => exact GT1.below (HG.out.one) (by repeat (first | (with_reducible first | exact HB.out | apply below_alloc | apply pw_below_drewN | apply below_drew1) | exact HB.out))); rintro e w80 ⟨rfl, hb⟩; refine ⟨_, rfl, ?_⟩; have n0_ := Aside0.mk (Kd.R_below (by (with_reducible repeat (first | apply Kd.R_alloc | apply Kd.R_drewN | apply Kd.R_drew)); exact HO452.out) hb); have n1_ := Aside0.mk (below_step (by repeat (first | (with_reducible first | exact HB.out | apply below_alloc | apply pw_below_drewN | apply below_drew1) | exact HB.out)) hb); clear HO452; clear HB; have HO452 := n0_; have HB := n1_; clear n0_ n1_; (try clear hb); (try clear hb2); (try clear hk); (try clear hi)))
    go_ret
    exact ⟨by first | rfl | (simp [errW_none, errW_some] <;> rfl) | (simp [*, errW_none, errW_some] <;> rfl), by repeat (first | (with_reducible first | exact HB.out | apply below_alloc | apply pw_below_drewN | apply below_drew1) | exact HB.out)⟩
end Go.Proofs.YthcpdhniakpbaaaDoor.X
end

section
namespace Go.Proofs.YthcpdhniakpbaaaDoor.X
set_option linter.unusedVariables false
set_option linter.unusedSimpArgs false
open Go.RowKit Go.Proofs.YthcpdhniakpbaaaDoorW.PrintWords
def Ans (o : Option Bool) (P : Prop) : Prop := ∃ b, o = some b ∧ (b = true ↔ P)
theorem Ans.congr {o : Option Bool} {P Q : Prop} (h : Ans o P) (e : P ↔ Q) : Ans o Q := ⟨h.choose, h.choose_spec.1, h.choose_spec.2.trans e⟩
theorem Ans.no {P : Prop} (h : ¬ P) : Ans (some false) P := ⟨false, rfl, by simp [h]⟩
theorem Ans.of {o : Option Bool} {P : Prop} [Decidable P] (h : Ans o P) : o = some (decide P) := by
  obtain ⟨b, rfl, hb⟩ := h
  congr 1
  cases b with
  | true => rw [decide_eq_true (hb.1 rfl)]
  | false => rw [decide_eq_false (fun h => by have := hb.2 h; cases this)]
theorem ext_bytes {a b : ByteArray} (h : a.data.toList = b.data.toList) : a = b := ByteArray.ext (Array.ext' h)
theorem size_arr (a : List UInt8) : (⟨a.toArray⟩ : ByteArray).size = a.length := by simp [ByteArray.size]
theorem encL_ge (l : List Int) : l.length ≤ (encL l).length := by
  induction l with
  | nil => simp [encL_nil]
  | cons c l ih => have := (encC_length c).1; simp [encL_cons]; omega
theorem decS_len {p : Int → Bool} {l : List UInt8} {cs : List Int} (h : decS p l = some cs) : cs.length ≤ l.length := by
  rw [(decS_back h).1]; exact encL_ge cs
end Go.Proofs.YthcpdhniakpbaaaDoor.X
end

section
namespace Go.Proofs.YthcpdhniakpbaaaDoor.X
set_option linter.unusedVariables false
set_option linter.unusedSimpArgs false
open Go.RowKit Go.Proofs.YthcpdhniakpbaaaDoorW.PrintWords
def to41 (r : S34) : S41 := ⟨r.f0, r.f1⟩
def tab (x : List S34) : List S41 := x.map to41
theorem tab_length (x : List S34) : (tab x).length = x.length := by simp [tab]
def ru (y : List S41) (i : Nat) : S41 := y.getD i z41
theorem rd_ru (y : List S41) (i : Nat) : rd_T41 y (i : Int) = ru y i := rfl
theorem ru_mem {y : List S41} {i : Nat} (h : i < y.length) : ru y i ∈ y := by unfold ru; simp [h]
theorem ru_get {y : List S41} {i : Nat} (h : i < y.length) : ru y i = y[i] := by unfold ru; simp [h]
def FewS (y : List S41) : Prop := (∀ r ∈ y, r.f0.size ≤ 30 ∧ r.f1.size ≤ 30) ∧ y.length ≤ 90
instance (y : List S41) : Decidable (FewS y) := by unfold FewS; infer_instance
theorem mem_ru {y : List S41} {r : S41} (h : r ∈ y) : ∃ i, i < y.length ∧ ru y i = r := by
  obtain ⟨i, hi, rfl⟩ := List.mem_iff_getElem.1 h
  exact ⟨i, hi, ru_get hi⟩
def ValidAt (y : List S41) (j : Nat) : Prop := partS (ru y j).f0.data.toList = true ∧ partS (ru y j).f1.data.toList = true ∧ ∀ q, q < j → (ru y q).f0 ≠ (ru y j).f0
def ValidP (y : List S41) : Prop := (∀ j, j < y.length → ValidAt y j) ∧ 1 ≤ y.length ∧ y.length ≤ 80
theorem validGo_iff : ∀ (l : List S41) (seen : List (List UInt8)), validGo seen l = true ↔ ∀ j, j < l.length → partS (ru l j).f0.data.toList = true ∧ partS (ru l j).f1.data.toList = true ∧ (ru l j).f0.data.toList ∉ seen ∧ ∀ q, q < j → (ru l q).f0 ≠ (ru l j).f0
  | [], seen => by simp [validGo]
  | r :: rs, seen => by
    rw [validGo]
    have h0 : ru (r :: rs) 0 = r := rfl
    have hs : ∀ j, ru (r :: rs) (j + 1) = ru rs j := fun j => rfl
    split
    · rename_i h
      rw [validGo_iff rs]
      constructor
      · intro g j hj
        cases j with
        | zero => rw [h0]; exact ⟨h.1, h.2.1, h.2.2, fun q hq => by omega⟩
        | succ j =>
          rw [hs]
          obtain ⟨g1, g2, g3, g4⟩ := g j (by simp at hj; omega)
          refine ⟨g1, g2, fun hm => g3 (by simp [hm]), fun q hq => ?_⟩
          cases q with
          | zero => rw [h0]; intro he; exact g3 (by simp [he])
          | succ q => rw [hs]; exact g4 q (by omega)
      · intro g j hj
        obtain ⟨g1, g2, g3, g4⟩ := g (j + 1) (by simp; omega)
        rw [hs] at g1 g2 g3
        refine ⟨g1, g2, fun hm => ?_, fun q hq => ?_⟩
        · rcases List.mem_append.1 hm with hm | hm
          · exact g3 hm
          · have he := List.mem_singleton.1 hm
            have := g4 0 (by omega)
            rw [hs, h0] at this
            exact this (ext_bytes he.symm)
        · have := g4 (q + 1) (by omega)
          rw [hs, hs] at this
          exact this
    · rename_i h
      constructor
      · intro g; cases g
      · intro g
        have := g 0 (by simp)
        rw [h0] at this
        exact absurd ⟨this.1, this.2.1, this.2.2.1⟩ h
theorem validS_iff (y : List S41) : validS y = true ↔ ValidP y := by
  unfold validS ValidP ValidAt
  rw [Bool.and_eq_true, decide_eq_true_iff, validGo_iff]
  simp only [List.not_mem_nil, not_false_eq_true, true_and]
  exact And.comm
theorem valid_mul (a c : Nat) : (a + 1) * c = a * c + c := Nat.succ_mul a c
theorem few_Small {y : List S41} (h : FewS y) : Small y := fun r hr => by have := h.1 r hr; omega
theorem valid_eq (y : List S41) (hf : FewS y) : translit_Valid.f y = some (validS y) := by
  unfold translit_Valid.f
  rw [if_pos (few_Small hf)]
end Go.Proofs.YthcpdhniakpbaaaDoor.X
end

section
namespace Go.Proofs.YthcpdhniakpbaaaDoor.X
set_option linter.unusedVariables false
set_option linter.unusedSimpArgs false
open Go.RowKit Go.Proofs.YthcpdhniakpbaaaDoorW.PrintWords
theorem hasP_eq (s p : ByteArray) : hasP s p = p.data.toList.isPrefixOf s.data.toList := by
  unfold hasP
  rw [Lib.toList_data, Lib.toList_data]
  have hs := dlen s
  have hp := dlen p
  rw [Bool.eq_iff_iff, Bool.and_eq_true, decide_eq_true_iff, beq_iff_eq, List.isPrefixOf_iff_prefix]
  have he : (s.extract 0 p.size).data.toList = s.data.toList.take p.size := by simp
  rw [he]
  constructor
  · rintro ⟨_, h⟩
    rw [← h]
    exact List.take_prefix _ _
  · rintro ⟨r, h⟩
    rw [← h]
    have hl : s.data.toList.length = p.data.toList.length + r.length := by rw [← h]; simp
    refine ⟨by omega, ?_⟩
    rw [← hp, List.take_left']
    rfl
theorem hasPrefix_eq (s p : ByteArray) : strings_HasPrefix.f s p = some (hasP s p) := by
  unfold strings_HasPrefix.f stringslite_HasPrefix.f hasP
  by_cases h : p.size ≤ s.size
  · rw [if_pos (by omega), if_pos (by omega), if_pos (by omega)]
    simp [h]
  · rw [if_neg (by omega)]
    simp [h]
def NoPre (y : List S41) : Prop := ∀ i, i < y.length → ∀ k, k < y.length → i ≠ k → hasP (ru y i).f1 (ru y k).f1 = false
def RevP (y : List S41) : Prop := NoPre y ∧ validS y = true
instance (y : List S41) : Decidable (RevP y) := by unfold RevP NoPre; infer_instance
def revS (y : List S41) : Bool := decide (RevP y)
theorem rev_go (y : List S41) (hy : y.length ≤ 1000) (hv : translit_Valid.f y = some (validS y)) : ∀ n i k : Nat, y.length ≤ i + n → i ≤ y.length → n * (y.length + 3) + 2 ≤ k →
    Ans (translit_Reversible.l0 k y y (y.length : Int) (i : Int)) ((∀ i', i ≤ i' → i' < y.length → ∀ k, k < y.length → i' ≠ k → hasP (ru y i').f1 (ru y k).f1 = false) ∧ validS y = true)
  | n, i, 0, hn, hi, hk => by omega
  | n, i, k + 1, hn, hi, hk => by
    rw [translit_Reversible.l0]
    by_cases e : i = y.length
    · rw [if_neg (by omega), hv]
      exact ⟨_, rfl, fun h => ⟨fun i' h1 h2 => by omega, h⟩, fun h => h.2⟩
    · rw [if_pos (by omega), if_pos (by omega), if_pos (by omega), rd_ru]
      obtain ⟨n, rfl⟩ : ∃ n', n = n' + 1 := ⟨n - 1, by omega⟩
      rw [valid_mul] at hk
      have ih := fun k' h' => rev_go y hy hv n (i + 1) k' (by omega) (by omega) h'
      have inner : ∀ m j k', y.length ≤ j + m → j ≤ y.length → n * (y.length + 3) + 2 + m + 1 ≤ k' → Ans (translit_Reversible.l1 k' y (i : Int) y (y.length : Int) (i : Int) y (y.length : Int) (j : Int) (ru y i).f0 (ru y i).f1) ((∀ q, j ≤ q → q < y.length → i ≠ q → hasP (ru y i).f1 (ru y q).f1 = false) ∧ (∀ i', i + 1 ≤ i' → i' < y.length → ∀ k, k < y.length → i' ≠ k → hasP (ru y i').f1 (ru y k).f1 = false) ∧ validS y = true) := by
        intro m
        induction m with
        | zero =>
          intro j k' h1 h2 h3
          obtain rfl : j = y.length := by omega
          obtain ⟨k', rfl⟩ : ∃ k'', k' = k'' + 1 := ⟨k' - 1, by omega⟩
          rw [translit_Reversible.l1, if_neg (by omega), w64 (by omega) (by omega)]
          exact (ih k' (by omega)).congr ⟨fun h => ⟨fun q h1 h2 => by omega, h⟩, fun h => h.2⟩
        | succ m ihm =>
          intro j k' h1 h2 h3
          obtain ⟨k', rfl⟩ : ∃ k'', k' = k'' + 1 := ⟨k' - 1, by omega⟩
          rw [translit_Reversible.l1]
          by_cases e2 : j = y.length
          · rw [if_neg (by omega), w64 (by omega) (by omega)]
            exact (ih k' (by omega)).congr ⟨fun h => ⟨fun q h1 h2 => by omega, h⟩, fun h => h.2⟩
          · rw [if_pos (by omega), if_pos (by omega), if_pos (by omega), rd_ru, w64 (n := (j : Int) + 1) (by omega) (by omega)]
            have ihj := ihm (j + 1) k' (by omega) (by omega) (by omega)
            by_cases c : i = j
            · rw [if_pos (by omega)]
              refine ihj.congr ⟨fun h => ⟨fun q h4 h5 h6 => ?_, h.2⟩, fun h => ⟨fun q h4 h5 h6 => h.1 q (by omega) h5 h6, h.2⟩⟩
              exact h.1 q (by omega) h5 h6
            · rw [if_neg (by omega), hasPrefix_eq]
              simp only [Option.bind_some]
              by_cases c2 : hasP (ru y i).f1 (ru y j).f1 = true
              · rw [if_pos c2]
                exact Ans.no fun h => by have := h.1 j (Nat.le_refl _) (by omega) c; rw [c2] at this; cases this
              · rw [if_neg c2]
                refine ihj.congr ⟨fun h => ⟨fun q h4 h5 h6 => ?_, h.2⟩, fun h => ⟨fun q h4 h5 h6 => h.1 q (by omega) h5 h6, h.2⟩⟩
                rcases Nat.lt_or_eq_of_le h4 with h7 | rfl
                · exact h.1 q h7 h5 h6
                · simpa using c2
      refine (inner y.length 0 k (by omega) (by omega) (by omega)).congr ⟨fun h => ⟨fun i' h1 h2 => ?_, h.2.2⟩, fun h => ⟨fun q _ h2 h3 => h.1 i (Nat.le_refl _) (by omega) q h2 h3, fun i' h1 h2 => h.1 i' (by omega) h2, h.2⟩⟩
      rcases Nat.lt_or_eq_of_le h1 with h3 | rfl
      · exact h.2.1 i' h3 h2
      · exact fun q h4 h5 => h.1 q (by omega) h4 h5
theorem rev_eq (y : List S41) (hf : FewS y) (k : Nat) (hk : 10000 ≤ k) : translit_Reversible.f k y = some (revS y) := by
  have h9 := hf.2
  have hm : y.length * (y.length + 3) ≤ 90 * 93 := Nat.mul_le_mul h9 (by omega)
  refine Ans.of ((rev_go y (by omega) (valid_eq y hf) y.length 0 k (by omega) (by omega) (by omega)).congr ?_)
  exact ⟨fun h => ⟨fun i hi => h.1 i (by omega) hi, h.2⟩, fun h => ⟨fun i _ hi => h.1 i hi, h.2⟩⟩
end Go.Proofs.YthcpdhniakpbaaaDoor.X
end

section
namespace Go.Proofs.YthcpdhniakpbaaaDoor.X
set_option linter.unusedVariables false
set_option linter.unusedSimpArgs false
open Go.RowKit Go.Proofs.YthcpdhniakpbaaaDoorW.PrintWords
theorem ext_take (s : ByteArray) (a : Nat) : (s.extract 0 a).data.toList = s.data.toList.take a := by simp
theorem ext_drop (s : ByteArray) (a : Nat) : (s.extract a s.size).data.toList = s.data.toList.drop a := by
  have := dlen s
  simp
  rw [List.take_of_length_le (by simp)]
def bestL (l : List UInt8) : S41 → List S41 → S41
  | b, [] => b
  | b, r :: rs => bestL l (if b.f0.size < r.f0.size ∧ r.f0.data.toList.isPrefixOf l = true then r else b) rs
theorem bestB_eq (s : ByteArray) : ∀ (t : List S41) (b : S41), bestB s b t = bestL s.data.toList b t
  | [], b => rfl
  | r :: rs, b => by rw [bestB, bestL, hasP_eq, bestB_eq s rs]
theorem bestL_in (l : List UInt8) : ∀ (t : List S41) (b : S41), bestL l b t = b ∨ (bestL l b t ∈ t ∧ (bestL l b t).f0.data.toList.isPrefixOf l = true)
  | [], b => .inl rfl
  | r :: rs, b => by
    rw [bestL]
    split
    · rename_i h
      rcases bestL_in l rs r with e | ⟨e1, e2⟩
      · rw [e]; exact .inr ⟨by simp, h.2⟩
      · exact .inr ⟨by simp [e1], e2⟩
    · rcases bestL_in l rs b with e | ⟨e1, e2⟩
      · exact .inl e
      · exact .inr ⟨by simp [e1], e2⟩
theorem bestL_ge (l : List UInt8) : ∀ (t : List S41) (b : S41), b.f0.size ≤ (bestL l b t).f0.size
  | [], b => Nat.le_refl _
  | r :: rs, b => by
    rw [bestL]
    split
    · rename_i h
      have := bestL_ge l rs r
      omega
    · exact bestL_ge l rs b
theorem bestL_max (l : List UInt8) : ∀ (t : List S41) (b : S41), ∀ r ∈ t, r.f0.data.toList.isPrefixOf l = true → r.f0.size ≤ (bestL l b t).f0.size
  | [], b, r, hr, _ => by simp at hr
  | q :: rs, b, r, hr, hp => by
    rw [bestL]
    rcases List.mem_cons.1 hr with rfl | hr
    · split
      · exact bestL_ge l rs r
      · rename_i h
        have := bestL_ge l rs b
        by_cases hb : b.f0.size < r.f0.size
        · exact absurd ⟨hb, hp⟩ h
        · omega
    · exact bestL_max l rs _ r hr hp
def EncB (s : ByteArray) : Prop := ∃ fs : List Int, fs ≠ [] ∧ s.data.toList = encL fs ∧ ∀ c ∈ fs, hasS c = true
def EncF (t : List S41) : Prop := ∀ r ∈ t, EncB r.f0
theorem decS_of {l : List UInt8} {cs : List Int} (h : l = encL cs) (hh : ∀ c ∈ cs, hasS c = true) : decS hasS l = some cs := decS_iff.2 ⟨h, fun c hc => ⟨hasS_ok (hh c hc), hh c hc⟩⟩
theorem cntS_of {l : List UInt8} {cs : List Int} (h : l = encL cs) (hh : ∀ c ∈ cs, hasS c = true) : cntS l = cs.length := by
  unfold cntS decR
  rw [decS_of h hh]
  rfl
theorem part_enc {s : ByteArray} (h : partS s.data.toList = true) : EncB s := by
  unfold partS at h
  have h' := of_decide_eq_true h
  unfold cntS decR at h'
  cases hc : decS hasS s.data.toList with
  | none => rw [hc] at h'; simp at h'
  | some cs =>
    rw [hc] at h'
    obtain ⟨h1, h2⟩ := decS_iff.1 hc
    refine ⟨cs, ?_, h1, fun c hcs => (h2 c hcs).2⟩
    rintro rfl
    simp at h'
theorem encB_size {s : ByteArray} (h : EncB s) : s.size ≠ 0 := by
  obtain ⟨fs, h1, h2, _⟩ := h
  rw [← dlen, h2]
  have := encL_ge fs
  cases fs with
  | nil => exact absurd rfl h1
  | cons a l => simp at this; omega
def tr (t : List S41) : Nat → List Int → List UInt8 × Int
  | 0, _ => ([], 0)
  | _ + 1, [] => ([], 0)
  | f + 1, c :: cs =>
    if (bestL (encL (c :: cs)) rule0 t).f0.size = 0 then (encC c ++ (tr t f cs).1, (tr t f cs).2 + 1)
    else ((bestL (encL (c :: cs)) rule0 t).f1.data.toList ++ (tr t f ((c :: cs).drop (cntS (bestL (encL (c :: cs)) rule0 t).f0.data.toList))).1, (tr t f ((c :: cs).drop (cntS (bestL (encL (c :: cs)) rule0 t).f0.data.toList))).2)
theorem ok_all {cs : List Int} (h : ∀ c ∈ cs, hasS c = true) : ∀ c ∈ cs, Ok c := fun c hc => hasS_ok (h c hc)
theorem best_split {t : List S41} (ht : EncF t) {cs : List Int} (hh : ∀ c ∈ cs, hasS c = true) (hb : (bestL (encL cs) rule0 t).f0.size ≠ 0) :
    bestL (encL cs) rule0 t ∈ t ∧ ∃ fs r, fs ≠ [] ∧ cs = fs ++ r ∧ (bestL (encL cs) rule0 t).f0.data.toList = encL fs ∧ cntS (bestL (encL cs) rule0 t).f0.data.toList = fs.length := by
  rcases bestL_in (encL cs) t rule0 with e | ⟨hm, hp⟩
  · rw [e] at hb; exact absurd rfl hb
  · refine ⟨hm, ?_⟩
    obtain ⟨fs, h1, h2, h3⟩ := ht _ hm
    obtain ⟨r0, hr⟩ := List.isPrefixOf_iff_prefix.1 hp
    rw [h2] at hr
    obtain ⟨r, hr1, hr2⟩ := encL_prefix (ok_all h3) (ok_all hh) hr
    exact ⟨fs, r, h1, hr1, h2, cntS_of h2 h3⟩
theorem dec_width (s : ByteArray) {c : Int} {cs : List Int} (h : s.data.toList = encL (c :: cs)) (hc : hasS c = true) : (Lib.decodeGo s).2 = (encC c).length := by
  have hok := hasS_ok hc
  have hr := hasS_range hc
  have hch : charS s.data.toList = some (c, (encC c).length) := by rw [h, encL_cons]; exact charS_enc c hok _
  have hne : s.size ≠ 0 := by rw [← dlen, h, encL_cons]; have := (encC_length c).1; rw [List.length_append]; omega
  unfold Lib.decodeGo
  rw [if_neg hne]
  rcases decode_some s hch with ⟨h1, _⟩ | ⟨_, h2⟩
  · omega
  · rw [h2]
theorem writeL_tr {t : List S41} (ht : EncF t) : ∀ (m : Nat) (cs : List Int) (s : ByteArray) (f : Nat) (out : List UInt8) (n : Int), cs.length ≤ m → s.data.toList = encL cs → (∀ c ∈ cs, hasS c = true) → cs.length < f →
    writeL t f s out n = some (out ++ (tr t m cs).1, n + (tr t m cs).2)
  | m, cs, s, 0, out, n, hm, hs, hh, hf => by omega
  | m, [], s, f + 1, out, n, hm, hs, hh, hf => by
    have : s.size = 0 := by rw [← dlen, hs]; rfl
    rw [writeL, if_pos this]
    cases m <;> simp [tr]
  | 0, c :: cs, s, f + 1, out, n, hm, hs, hh, hf => by simp at hm
  | m + 1, c :: cs, s, f + 1, out, n, hm, hs, hh, hf => by
    have hc := hh c (by simp)
    have hne : s.size ≠ 0 := by rw [← dlen, hs, encL_cons]; have := (encC_length c).1; rw [List.length_append]; omega
    rw [writeL, if_neg hne, bestB_eq, hs, tr]
    by_cases hb : (bestL (encL (c :: cs)) rule0 t).f0.size = 0
    · rw [if_pos hb, if_pos hb, dec_width s hs hc, ext_take, hs, encL_cons, List.take_left']
      · rw [writeL_tr ht m cs _ f _ _ (by simp at hm; omega) (by rw [ext_drop, hs, encL_cons, List.drop_left']; rfl) (fun x hx => hh x (by simp [hx])) (by simp at hf; omega)]
        simp only [List.append_assoc]
        congr 2
        omega
      · rfl
    · obtain ⟨_, fs, r, h1, h2, h3, h4⟩ := best_split ht hh hb
      have hl := congrArg List.length h2
      rw [List.length_append] at hl
      have hfl : fs.length ≠ 0 := fun h => h1 (List.length_eq_zero_iff.1 h)
      have hsz : (bestL (encL (c :: cs)) rule0 t).f0.size = (encL fs).length := by rw [← dlen, h3]
      rw [if_neg hb, if_neg hb, h4, hsz]
      have hdr : (c :: cs).drop fs.length = r := by rw [h2, List.drop_left']; rfl
      rw [hdr, writeL_tr ht m r _ f _ _ (by simp at hm hl; omega) (by rw [ext_drop, hs, h2, encL_append, List.drop_left']; rfl) (fun x hx => hh x (by rw [h2]; simp [hx])) (by simp at hf hl; omega)]
      simp only [List.append_assoc]
theorem write_eq {t : List S41} (ht : EncF t) (s : ByteArray) (cs : List Int) (hok : WriteOk t s) (hs : s.data.toList = encL cs) (hh : ∀ c ∈ cs, hasS c = true) (m : Nat) (hm : cs.length ≤ m) :
    translit_write.f t s = some (⟨(tr t m cs).1.toArray⟩, (tr t m cs).2) := by
  have hl : cs.length ≤ s.size := by rw [← dlen, hs]; exact encL_ge cs
  unfold translit_write.f
  rw [if_pos hok, writeL_tr ht m cs s _ _ _ hm hs hh (by omega)]
  simp
end Go.Proofs.YthcpdhniakpbaaaDoor.X
end

section
namespace Go.Proofs.YthcpdhniakpbaaaDoor.X
set_option linter.unusedVariables false
set_option linter.unusedSimpArgs false
open Go.RowKit Go.Proofs.YthcpdhniakpbaaaDoorW.PrintWords
def swap (r : S41) : S41 := ⟨r.f1, r.f0⟩
def bk (y : List S41) : List S41 := y.map swap
def trS (t : List S41) (s : ByteArray) : Option (List UInt8 × Int) := (decS hasS s.data.toList).map fun cs => tr t cs.length cs
def toS (y : List S41) (s : ByteArray) : ByteArray := if validS y = true then (match trS y s with | some r => ⟨r.1.toArray⟩ | none => ⟨#[]⟩) else ⟨#[]⟩
def backS (y : List S41) (s : ByteArray) : ByteArray := if validS y = true then (match trS (bk y) s with | some r => ⟨r.1.toArray⟩ | none => ⟨#[]⟩) else ⟨#[]⟩
def covS (y : List S41) (s : ByteArray) : Bool := if validS y = true then (match trS y s with | some r => r.2 == 0 | none => false) else false
theorem valid_enc {y : List S41} (h : validS y = true) : ∀ r ∈ y, EncB r.f0 ∧ EncB r.f1 := by
  intro r hr
  obtain ⟨i, hi, rfl⟩ := mem_ru hr
  have := ((validS_iff y).1 h).1 i hi
  exact ⟨part_enc this.1, part_enc this.2.1⟩
theorem valid_F {y : List S41} (h : validS y = true) : EncF y := fun r hr => (valid_enc h r hr).1
theorem valid_B {y : List S41} (h : validS y = true) : EncF (bk y) := fun r hr => by
  obtain ⟨q, hq, rfl⟩ := List.mem_map.1 hr
  exact (valid_enc h q hq).2
theorem small_bk {y : List S41} (h : FewS y) : FewS (bk y) := ⟨fun r hr => by
  obtain ⟨q, hq, rfl⟩ := List.mem_map.1 hr
  exact (h.1 q hq).symm, by have := h.2; simpa [bk] using this⟩
theorem few_ok {y : List S41} (h : FewS y) {s : ByteArray} (hs : s.size ≤ 1048576) : WriteOk y s := ⟨hs, few_Small h, by have := h.2; omega⟩
theorem encoded_eq (s : ByteArray) (hs : s.size ≤ 1048576) (k : Nat) (hk : s.size + 8 ≤ k) : translit_encoded.f k s = some (decS hasS s.data.toList).isSome := by
  unfold translit_encoded.f
  rw [decode_eq s (by omega) hk]
  unfold decR
  cases decS hasS s.data.toList <;> rfl
theorem write_trS {t : List S41} (ht : EncF t) (s : ByteArray) (hok : WriteOk t s) {cs : List Int} (hc : decS hasS s.data.toList = some cs) : translit_write.f t s = some (⟨(tr t cs.length cs).1.toArray⟩, (tr t cs.length cs).2) :=
  write_eq ht s cs hok (decS_iff.1 hc).1 (fun c h => ((decS_iff.1 hc).2 c h).2) _ (Nat.le_refl _)
theorem to_eq {y : List S41} (hf : FewS y) (s : ByteArray) (hs : s.size ≤ 1048576) (k : Nat) (hk : s.size + 8 ≤ k) : translit_To.f k y s = some (toS y s) := by
  unfold translit_To.f toS trS
  rw [valid_eq y hf]
  simp only [Option.bind_some]
  by_cases hv : validS y = true
  · rw [if_pos hv, if_pos hv, encoded_eq s hs k hk]
    simp only [Option.bind_some]
    cases hc : decS hasS s.data.toList with
    | none => rfl
    | some cs =>
      rw [if_pos (Option.isSome_some), write_trS (valid_F hv) s (few_ok hf hs) hc]
      rfl
  · rw [if_neg hv, if_neg hv]
theorem cov_eq {y : List S41} (hf : FewS y) (s : ByteArray) (hs : s.size ≤ 1048576) (k : Nat) (hk : s.size + 8 ≤ k) : translit_Covers.f k y s = some (covS y s) := by
  unfold translit_Covers.f covS trS
  rw [valid_eq y hf]
  simp only [Option.bind_some]
  by_cases hv : validS y = true
  · rw [if_pos hv, if_pos hv, encoded_eq s hs k hk]
    simp only [Option.bind_some]
    cases hc : decS hasS s.data.toList with
    | none => rfl
    | some cs =>
      rw [if_pos (Option.isSome_some), write_trS (valid_F hv) s (few_ok hf hs) hc]
      rfl
  · rw [if_neg hv, if_neg hv]
theorem bk_length (y : List S41) : (bk y).length = y.length := by simp [bk]
theorem back_go (y : List S41) (s : ByteArray) (hy : y.length ≤ 1000000) : ∀ n i k : Nat, y.length ≤ i + n → i ≤ y.length → n + 1 ≤ k →
    translit_Back.l0 k s ((bk y).take i) y (y.length : Int) (i : Int) = (translit_write.f (bk y) s).bind fun bt => some bt.1
  | n, i, 0, hn, hi, hk => by omega
  | n, i, k + 1, hn, hi, hk => by
    rw [translit_Back.l0]
    by_cases e : i = y.length
    · rw [if_neg (by omega), e, ← bk_length, List.take_length]
    · have hlt : i < (bk y).length := by rw [bk_length]; omega
      have hlt2 : i < y.length := by omega
      rw [if_pos (by omega), if_pos (by omega), if_pos (by omega), if_pos (by rw [List.length_take]; omega), w64 (by omega) (by omega)]
      obtain ⟨n, rfl⟩ : ∃ n', n = n' + 1 := ⟨n - 1, by omega⟩
      have : (⟨(rd_T41 y (i : Int)).f1, (rd_T41 y (i : Int)).f0⟩ : S41) = (bk y)[i] := by rw [rd_ru, ru_get hlt2]; simp [bk, swap]
      rw [this, ← List.take_succ_eq_append_getElem hlt]
      exact back_go y s hy n (i + 1) k (by omega) (by omega) (by omega)
theorem back_eq {y : List S41} (hf : FewS y) (s : ByteArray) (hs : s.size ≤ 1048576) (k : Nat) (hk : s.size + 200 ≤ k) : translit_Back.f k y s = some (backS y s) := by
  unfold translit_Back.f backS trS
  rw [valid_eq y hf]
  simp only [Option.bind_some]
  have h9 := hf.2
  obtain ⟨k, rfl⟩ : ∃ k', k = k' + 1 := ⟨k - 1, by omega⟩
  by_cases hv : validS y = true
  · rw [if_pos hv, if_pos hv, encoded_eq s hs _ (by omega)]
    simp only [Option.bind_some]
    rw [translit_Back.j0]
    cases hc : decS hasS s.data.toList with
    | none => rfl
    | some cs =>
      rw [if_neg (by simp)]
      have := back_go y s (by omega) y.length 0 k (by omega) (by omega) (by omega)
      rw [List.take_zero] at this
      refine Eq.trans this ?_
      rw [write_trS (valid_B hv) s (few_ok (small_bk hf) hs) hc]
      rfl
  · rw [if_neg hv, if_neg hv, translit_Back.j0, if_pos rfl]
end Go.Proofs.YthcpdhniakpbaaaDoor.X
end

section
namespace Go.Proofs.YthcpdhniakpbaaaDoor.X
open Go.RowKit Go.Proofs.YthcpdhniakpbaaaDoorW.PrintWords Go.Proofs.YthcpdhniakpbaaaDoorW.PrintLast Go.Proofs.YthcpdhniakpbaaaDoorW.PrintMore
set_option linter.unusedVariables false
set_option linter.unusedSimpArgs false
def cyrR : List S34 := [(⟨(⟨#[208, 176]⟩ : ByteArray), (⟨#[97]⟩ : ByteArray)⟩ : S34), (⟨(⟨#[208, 177]⟩ : ByteArray), (⟨#[98]⟩ : ByteArray)⟩ : S34), (⟨(⟨#[208, 178]⟩ : ByteArray), (⟨#[118]⟩ : ByteArray)⟩ : S34), (⟨(⟨#[208, 179]⟩ : ByteArray), (⟨#[103]⟩ : ByteArray)⟩ : S34), (⟨(⟨#[208, 180]⟩ : ByteArray), (⟨#[100]⟩ : ByteArray)⟩ : S34), (⟨(⟨#[208, 181]⟩ : ByteArray), (⟨#[101]⟩ : ByteArray)⟩ : S34), (⟨(⟨#[209, 145]⟩ : ByteArray), (⟨#[195, 171]⟩ : ByteArray)⟩ : S34), (⟨(⟨#[208, 182]⟩ : ByteArray), (⟨#[197, 190]⟩ : ByteArray)⟩ : S34), (⟨(⟨#[208, 183]⟩ : ByteArray), (⟨#[122]⟩ : ByteArray)⟩ : S34), (⟨(⟨#[208, 184]⟩ : ByteArray), (⟨#[105]⟩ : ByteArray)⟩ : S34), (⟨(⟨#[208, 185]⟩ : ByteArray), (⟨#[106]⟩ : ByteArray)⟩ : S34), (⟨(⟨#[208, 186]⟩ : ByteArray), (⟨#[107]⟩ : ByteArray)⟩ : S34), (⟨(⟨#[208, 187]⟩ : ByteArray), (⟨#[108]⟩ : ByteArray)⟩ : S34), (⟨(⟨#[208, 188]⟩ : ByteArray), (⟨#[109]⟩ : ByteArray)⟩ : S34), (⟨(⟨#[208, 189]⟩ : ByteArray), (⟨#[110]⟩ : ByteArray)⟩ : S34), (⟨(⟨#[208, 190]⟩ : ByteArray), (⟨#[111]⟩ : ByteArray)⟩ : S34), (⟨(⟨#[208, 191]⟩ : ByteArray), (⟨#[112]⟩ : ByteArray)⟩ : S34), (⟨(⟨#[209, 128]⟩ : ByteArray), (⟨#[114]⟩ : ByteArray)⟩ : S34), (⟨(⟨#[209, 129]⟩ : ByteArray), (⟨#[115]⟩ : ByteArray)⟩ : S34), (⟨(⟨#[209, 130]⟩ : ByteArray), (⟨#[116]⟩ : ByteArray)⟩ : S34), (⟨(⟨#[209, 131]⟩ : ByteArray), (⟨#[117]⟩ : ByteArray)⟩ : S34), (⟨(⟨#[209, 132]⟩ : ByteArray), (⟨#[102]⟩ : ByteArray)⟩ : S34), (⟨(⟨#[209, 133]⟩ : ByteArray), (⟨#[104]⟩ : ByteArray)⟩ : S34), (⟨(⟨#[209, 134]⟩ : ByteArray), (⟨#[99]⟩ : ByteArray)⟩ : S34), (⟨(⟨#[209, 135]⟩ : ByteArray), (⟨#[196, 141]⟩ : ByteArray)⟩ : S34), (⟨(⟨#[209, 136]⟩ : ByteArray), (⟨#[197, 161]⟩ : ByteArray)⟩ : S34), (⟨(⟨#[209, 137]⟩ : ByteArray), (⟨#[197, 157]⟩ : ByteArray)⟩ : S34), (⟨(⟨#[209, 138]⟩ : ByteArray), (⟨#[34]⟩ : ByteArray)⟩ : S34), (⟨(⟨#[209, 139]⟩ : ByteArray), (⟨#[121]⟩ : ByteArray)⟩ : S34), (⟨(⟨#[209, 140]⟩ : ByteArray), (⟨#[39]⟩ : ByteArray)⟩ : S34), (⟨(⟨#[209, 141]⟩ : ByteArray), (⟨#[195, 168]⟩ : ByteArray)⟩ : S34), (⟨(⟨#[209, 142]⟩ : ByteArray), (⟨#[195, 187]⟩ : ByteArray)⟩ : S34), (⟨(⟨#[209, 143]⟩ : ByteArray), (⟨#[195, 162]⟩ : ByteArray)⟩ : S34), (⟨(⟨#[208, 144]⟩ : ByteArray), (⟨#[65]⟩ : ByteArray)⟩ : S34), (⟨(⟨#[208, 145]⟩ : ByteArray), (⟨#[66]⟩ : ByteArray)⟩ : S34), (⟨(⟨#[208, 146]⟩ : ByteArray), (⟨#[86]⟩ : ByteArray)⟩ : S34), (⟨(⟨#[208, 147]⟩ : ByteArray), (⟨#[71]⟩ : ByteArray)⟩ : S34), (⟨(⟨#[208, 148]⟩ : ByteArray), (⟨#[68]⟩ : ByteArray)⟩ : S34), (⟨(⟨#[208, 149]⟩ : ByteArray), (⟨#[69]⟩ : ByteArray)⟩ : S34), (⟨(⟨#[208, 129]⟩ : ByteArray), (⟨#[195, 139]⟩ : ByteArray)⟩ : S34), (⟨(⟨#[208, 150]⟩ : ByteArray), (⟨#[197, 189]⟩ : ByteArray)⟩ : S34), (⟨(⟨#[208, 151]⟩ : ByteArray), (⟨#[90]⟩ : ByteArray)⟩ : S34), (⟨(⟨#[208, 152]⟩ : ByteArray), (⟨#[73]⟩ : ByteArray)⟩ : S34), (⟨(⟨#[208, 153]⟩ : ByteArray), (⟨#[74]⟩ : ByteArray)⟩ : S34), (⟨(⟨#[208, 154]⟩ : ByteArray), (⟨#[75]⟩ : ByteArray)⟩ : S34), (⟨(⟨#[208, 155]⟩ : ByteArray), (⟨#[76]⟩ : ByteArray)⟩ : S34), (⟨(⟨#[208, 156]⟩ : ByteArray), (⟨#[77]⟩ : ByteArray)⟩ : S34), (⟨(⟨#[208, 157]⟩ : ByteArray), (⟨#[78]⟩ : ByteArray)⟩ : S34), (⟨(⟨#[208, 158]⟩ : ByteArray), (⟨#[79]⟩ : ByteArray)⟩ : S34), (⟨(⟨#[208, 159]⟩ : ByteArray), (⟨#[80]⟩ : ByteArray)⟩ : S34), (⟨(⟨#[208, 160]⟩ : ByteArray), (⟨#[82]⟩ : ByteArray)⟩ : S34), (⟨(⟨#[208, 161]⟩ : ByteArray), (⟨#[83]⟩ : ByteArray)⟩ : S34), (⟨(⟨#[208, 162]⟩ : ByteArray), (⟨#[84]⟩ : ByteArray)⟩ : S34), (⟨(⟨#[208, 163]⟩ : ByteArray), (⟨#[85]⟩ : ByteArray)⟩ : S34), (⟨(⟨#[208, 164]⟩ : ByteArray), (⟨#[70]⟩ : ByteArray)⟩ : S34), (⟨(⟨#[208, 165]⟩ : ByteArray), (⟨#[72]⟩ : ByteArray)⟩ : S34), (⟨(⟨#[208, 166]⟩ : ByteArray), (⟨#[67]⟩ : ByteArray)⟩ : S34), (⟨(⟨#[208, 167]⟩ : ByteArray), (⟨#[196, 140]⟩ : ByteArray)⟩ : S34), (⟨(⟨#[208, 168]⟩ : ByteArray), (⟨#[197, 160]⟩ : ByteArray)⟩ : S34), (⟨(⟨#[208, 169]⟩ : ByteArray), (⟨#[197, 156]⟩ : ByteArray)⟩ : S34), (⟨(⟨#[208, 171]⟩ : ByteArray), (⟨#[89]⟩ : ByteArray)⟩ : S34), (⟨(⟨#[208, 173]⟩ : ByteArray), (⟨#[195, 136]⟩ : ByteArray)⟩ : S34), (⟨(⟨#[208, 174]⟩ : ByteArray), (⟨#[195, 155]⟩ : ByteArray)⟩ : S34), (⟨(⟨#[208, 175]⟩ : ByteArray), (⟨#[195, 130]⟩ : ByteArray)⟩ : S34)]
end Go.Proofs.YthcpdhniakpbaaaDoor.X
end

section
namespace Go.Proofs.YthcpdhniakpbaaaDoor.X
set_option linter.unusedVariables false
set_option linter.unusedSimpArgs false
open Go.RowKit Go.Proofs.YthcpdhniakpbaaaDoorW.PrintWords
theorem lift_le {α : Type} {f : Nat → Option α} (h : ∀ k, LeO (f k) (f (k + 1))) {n : Nat} {r : α} (hr : f n = some r) : ∀ k, n ≤ k → f k = some r := by
  intro k hk
  induction hk with
  | refl => exact hr
  | step _ ih => exact h _ r ih
def grR : List S34 := match bookplateref07_Greek.f with | some l => l | none => []
def cyrT : List S41 := tab cyrR
def grT : List S41 := tab grR
theorem cyr_table : translit_table.f 100 (⟨#[208, 176, 32, 97, 32, 208, 177, 32, 98, 32, 208, 178, 32, 118, 32, 208, 179, 32, 103, 32, 208, 180, 32, 100, 32, 208, 181, 32, 101, 32, 209, 145, 32, 195, 171, 32, 208, 182, 32, 197, 190, 32, 208, 183, 32, 122, 32, 208, 184, 32, 105, 32, 208, 185, 32, 106, 32, 208, 186, 32, 107, 32, 208, 187, 32, 108, 32, 208, 188, 32, 109, 32, 208, 189, 32, 110, 32, 208, 190, 32, 111, 32, 208, 191, 32, 112, 32, 209, 128, 32, 114, 32, 209, 129, 32, 115, 32, 209, 130, 32, 116, 32, 209, 131, 32, 117, 32, 209, 132, 32, 102, 32, 209, 133, 32, 104, 32, 209, 134, 32, 99, 32, 209, 135, 32, 196, 141, 32, 209, 136, 32, 197, 161, 32, 209, 137, 32, 197, 157, 32, 209, 138, 32, 34, 32, 209, 139, 32, 121, 32, 209, 140, 32, 39, 32, 209, 141, 32, 195, 168, 32, 209, 142, 32, 195, 187, 32, 209, 143, 32, 195, 162, 32, 208, 144, 32, 65, 32, 208, 145, 32, 66, 32, 208, 146, 32, 86, 32, 208, 147, 32, 71, 32, 208, 148, 32, 68, 32, 208, 149, 32, 69, 32, 208, 129, 32, 195, 139, 32, 208, 150, 32, 197, 189, 32, 208, 151, 32, 90, 32, 208, 152, 32, 73, 32, 208, 153, 32, 74, 32, 208, 154, 32, 75, 32, 208, 155, 32, 76, 32, 208, 156, 32, 77, 32, 208, 157, 32, 78, 32, 208, 158, 32, 79, 32, 208, 159, 32, 80, 32, 208, 160, 32, 82, 32, 208, 161, 32, 83, 32, 208, 162, 32, 84, 32, 208, 163, 32, 85, 32, 208, 164, 32, 70, 32, 208, 165, 32, 72, 32, 208, 166, 32, 67, 32, 208, 167, 32, 196, 140, 32, 208, 168, 32, 197, 160, 32, 208, 169, 32, 197, 156, 32, 208, 171, 32, 89, 32, 208, 173, 32, 195, 136, 32, 208, 174, 32, 195, 155, 32, 208, 175, 32, 195, 130]⟩ : ByteArray) = some cyrT := by kernel_rfl
theorem gr_table : translit_table.f 100 (⟨#[206, 177, 32, 97, 32, 206, 178, 32, 98, 32, 206, 179, 32, 103, 32, 206, 180, 32, 100, 32, 206, 181, 32, 101, 32, 206, 182, 32, 122, 32, 206, 183, 32, 196, 147, 32, 206, 184, 32, 116, 104, 32, 206, 185, 32, 105, 32, 206, 186, 32, 107, 32, 206, 187, 32, 108, 32, 206, 188, 32, 109, 32, 206, 189, 32, 110, 32, 206, 190, 32, 120, 32, 206, 191, 32, 111, 32, 207, 128, 32, 112, 32, 207, 129, 32, 114, 32, 207, 131, 32, 115, 32, 207, 130, 32, 115, 32, 207, 132, 32, 116, 32, 207, 133, 32, 121, 32, 207, 134, 32, 112, 104, 32, 207, 135, 32, 99, 104, 32, 207, 136, 32, 112, 115, 32, 207, 137, 32, 197, 141, 32, 206, 191, 207, 133, 32, 111, 117, 32, 206, 179, 206, 179, 32, 110, 103, 32, 206, 179, 206, 186, 32, 110, 107]⟩ : ByteArray) = some grT := by kernel_rfl
theorem cyr_eq (k : Nat) (hk : 100 ≤ k) : translit_Cyrillic.f k = some cyrT := by
  unfold translit_Cyrillic.f
  rw [lift_le (translit_table.mono _) cyr_table k hk]
  rfl
theorem gr_eq (k : Nat) (hk : 100 ≤ k) : translit_Greek.f k = some grT := by
  unfold translit_Greek.f
  rw [lift_le (translit_table.mono _) gr_table k hk]
  rfl
theorem cyr_few : FewS cyrT := by decide +kernel
theorem gr_few : FewS grT := by decide +kernel
theorem gr_valid : validS grT = true := by kernel_rfl
theorem cyr_rev : revS cyrT = true := by kernel_rfl
theorem aw1 : (toS cyrT (⟨#[208, 162, 208, 190, 208, 187, 209, 129, 209, 130, 208, 190, 208, 185]⟩ : ByteArray)).toList = ([84, 111, 108, 115, 116, 111, 106] : List UInt8) := by rw [Lib.toList_data]; kernel_rfl
theorem aw2 : (toS grT (⟨#[206, 191, 207, 133, 207, 129, 206, 177, 206, 189, 206, 191, 207, 130]⟩ : ByteArray)).toList = ([111, 117, 114, 97, 110, 111, 115] : List UInt8) := by rw [Lib.toList_data]; kernel_rfl
theorem aw3 : (backS cyrT (⟨#[84, 111, 108, 115, 116, 111, 106]⟩ : ByteArray)).toList = ([208, 162, 208, 190, 208, 187, 209, 129, 209, 130, 208, 190, 208, 185] : List UInt8) := by rw [Lib.toList_data]; kernel_rfl
theorem aw4 : covS grT (⟨#[206, 191, 207, 133]⟩ : ByteArray) = true := by kernel_rfl
theorem awake_eq (k : Nat) (hk : 10000 ≤ k) : bookplatelaw07_awake.f k = some true := by
  unfold bookplatelaw07_awake.f
  rw [cyr_eq k (by omega), gr_eq k (by omega)]
  simp only [Option.bind_some]
  rw [to_eq cyr_few _ (by decide +kernel) k (Nat.le_trans (by decide +kernel) hk)]
  simp only [Option.bind_some]
  rw [if_pos aw1, to_eq gr_few _ (by decide +kernel) k (Nat.le_trans (by decide +kernel) hk)]
  simp only [Option.bind_some]
  rw [if_pos aw2, rev_eq cyrT cyr_few k hk, cyr_rev]
  simp only [Option.bind_some]
  rw [if_pos trivial, back_eq cyr_few _ (by decide +kernel) k (Nat.le_trans (by decide +kernel) hk)]
  simp only [Option.bind_some]
  rw [if_pos aw3, cov_eq gr_few _ (by decide +kernel) k (Nat.le_trans (by decide +kernel) hk), aw4]
  simp only [Option.bind_some]
  rw [if_pos trivial, valid_eq grT gr_few, gr_valid]
  rfl
end Go.Proofs.YthcpdhniakpbaaaDoor.X
end

section
namespace Go.Proofs.YthcpdhniakpbaaaDoor.X
set_option linter.unusedVariables false
set_option linter.unusedSimpArgs false
open Go.RowKit Go.Proofs.YthcpdhniakpbaaaDoorW.PrintWords
theorem tr_nil (t : List S41) (m : Nat) : tr t m [] = ([], 0) := by cases m <;> rfl
theorem tr_nonneg (t : List S41) : ∀ (m : Nat) (cs : List Int), 0 ≤ (tr t m cs).2
  | 0, cs => Int.le_refl 0
  | m + 1, [] => Int.le_refl 0
  | m + 1, c :: cs => by
    rw [tr]
    split
    · have := tr_nonneg t m cs
      simp only
      omega
    · exact tr_nonneg t m _
theorem tr_len {t : List S41} (hf : FewS t) (ht : EncF t) : ∀ (m : Nat) (cs : List Int), (∀ c ∈ cs, hasS c = true) → (tr t m cs).1.length ≤ 30 * cs.length
  | 0, cs, hh => by simp [tr]
  | m + 1, [], hh => by simp [tr]
  | m + 1, c :: cs, hh => by
    rw [tr]
    split
    · have := tr_len hf ht m cs (fun x hx => hh x (by simp [hx]))
      have := (encC_length c).2
      simp only [List.length_append, List.length_cons]
      omega
    · rename_i hb
      obtain ⟨hm, fs, r, h1, h2, h3, h4⟩ := best_split ht hh hb
      have hfl : fs.length ≠ 0 := fun h => h1 (List.length_eq_zero_iff.1 h)
      have hdr : (c :: cs).drop fs.length = r := by rw [h2, List.drop_left']; rfl
      have hl := congrArg List.length h2
      rw [List.length_append] at hl
      have := tr_len hf ht m r (fun x hx => hh x (by rw [h2]; simp [hx]))
      have hz := (hf.1 _ hm).2
      rw [← dlen] at hz
      rw [h4, hdr]
      simp only [List.length_append]
      omega
theorem toS_size {t : List S41} (hf : FewS t) (s : ByteArray) : (toS t s).size ≤ 30 * s.size := by
  unfold toS trS
  split
  · rename_i hv
    cases hc : decS hasS s.data.toList with
    | none => exact Nat.zero_le _
    | some cs =>
      have h1 := tr_len hf (valid_F hv) cs.length cs (fun c h => ((decS_iff.1 hc).2 c h).2)
      have h2 := decS_len hc
      rw [dlen] at h2
      simp only [Option.map_some]
      rw [size_arr (tr t cs.length cs).1]
      omega
  · exact Nat.zero_le _
theorem nopre_same {y : List S41} (hn : NoPre y) {a b : S41} (ha : a ∈ y) (hb : b ∈ y) {l : List UInt8} (h1 : a.f1.data.toList <+: l) (h2 : b.f1.data.toList <+: l) : a = b := by
  obtain ⟨i, hi, rfl⟩ := mem_ru ha
  obtain ⟨j, hj, rfl⟩ := mem_ru hb
  by_cases e : i = j
  · rw [e]
  · rcases List.prefix_or_prefix_of_prefix h1 h2 with h | h
    · have := hn j hj i hi (fun h => e h.symm)
      rw [hasP_eq, List.isPrefixOf_iff_prefix.2 h] at this
      cases this
    · have := hn i hi j hj e
      rw [hasP_eq, List.isPrefixOf_iff_prefix.2 h] at this
      cases this
theorem encL_bytes {s : ByteArray} (h : EncB s) : ∃ gs, gs ≠ [] ∧ s.data.toList = encL gs ∧ (∀ c ∈ gs, hasS c = true) ∧ cntS s.data.toList = gs.length := by
  obtain ⟨gs, h1, h2, h3⟩ := h
  exact ⟨gs, h1, h2, h3, cntS_of h2 h3⟩
theorem round_go {y : List S41} (hn : NoPre y) (hv : validS y = true) : ∀ (m : Nat) (cs : List Int), cs.length ≤ m → (∀ c ∈ cs, hasS c = true) → (tr y m cs).2 = 0 →
    ∃ ds, (tr y m cs).1 = encL ds ∧ (∀ d ∈ ds, hasS d = true ∧ ∃ r ∈ y, ∃ gs, decS hasS r.f1.data.toList = some gs ∧ d ∈ gs) ∧ ∀ m', ds.length ≤ m' → (tr (bk y) m' ds).1 = encL cs
  | m, [], hm, hh, h0 => ⟨[], by rw [tr_nil]; rfl, by simp, fun m' _ => by rw [tr_nil]; rfl⟩
  | 0, c :: cs, hm, hh, h0 => by simp at hm
  | m + 1, c :: cs, hm, hh, h0 => by
    rw [tr] at h0
    by_cases hb : (bestL (encL (c :: cs)) rule0 y).f0.size = 0
    · rw [if_pos hb] at h0
      have := tr_nonneg y m cs
      simp only at h0
      omega
    · rw [if_neg hb] at h0
      obtain ⟨hmem, fs, r, h1, h2, h3, h4⟩ := best_split (valid_F hv) hh hb
      have hfl : fs.length ≠ 0 := fun h => h1 (List.length_eq_zero_iff.1 h)
      have hdr : (c :: cs).drop fs.length = r := by rw [h2, List.drop_left']; rfl
      have hl := congrArg List.length h2
      rw [List.length_append, List.length_cons] at hl
      rw [tr, if_neg hb]
      rw [h4, hdr] at h0 ⊢
      simp only at h0 ⊢
      generalize hB : bestL (encL (c :: cs)) rule0 y = B at *
      obtain ⟨ds, g1, g2, g3⟩ := round_go hn hv m r (by simp at hm; omega) (fun x hx => hh x (by rw [h2]; simp [hx])) h0
      obtain ⟨gs, e1, e2, e3, e4⟩ := encL_bytes (valid_enc hv B hmem).2
      refine ⟨gs ++ ds, by rw [g1, e2, encL_append], ?_, ?_⟩
      · intro d hd
        rcases List.mem_append.1 hd with hd | hd
        · exact ⟨e3 d hd, B, hmem, gs, decS_of e2 e3, hd⟩
        · exact g2 d hd
      · intro m' hm'
        have hgl : gs.length ≠ 0 := fun h => e1 (List.length_eq_zero_iff.1 h)
        rw [List.length_append] at hm'
        obtain ⟨m', rfl⟩ : ∃ q, m' = q + 1 := ⟨m' - 1, by omega⟩
        have hpre : (swap B).f0.data.toList <+: encL (gs ++ ds) := by
          show B.f1.data.toList <+: _
          rw [e2, encL_append]
          exact List.prefix_append _ _
        have hsw : swap B ∈ bk y := List.mem_map.2 ⟨B, hmem, rfl⟩
        have hmax := bestL_max (encL (gs ++ ds)) (bk y) rule0 _ hsw (List.isPrefixOf_iff_prefix.2 hpre)
        have hsz : (swap B).f0.size ≠ 0 := encB_size (valid_enc hv B hmem).2
        have hbe : bestL (encL (gs ++ ds)) rule0 (bk y) = swap B := by
          rcases bestL_in (encL (gs ++ ds)) (bk y) rule0 with e | ⟨k1, k2⟩
          · rw [e] at hmax
            exact absurd (Nat.eq_zero_of_le_zero hmax) hsz
          · obtain ⟨q, hq, hqe⟩ := List.mem_map.1 k1
            rw [← hqe] at k2 ⊢
            rw [nopre_same hn hq hmem (List.isPrefixOf_iff_prefix.1 k2) hpre]
        cases hgs : gs ++ ds with
        | nil => exact absurd (List.append_eq_nil_iff.1 hgs).1 e1
        | cons g rest =>
          rw [tr, ← hgs, hbe, if_neg hsz]
          have hcn : cntS (swap B).f0.data.toList = gs.length := e4
          have hd2 : (gs ++ ds).drop gs.length = ds := List.drop_left' rfl
          rw [hcn, hd2]
          simp only
          rw [g3 m' (by omega), h2, encL_append]
          show B.f0.data.toList ++ _ = _
          rw [h3]
theorem round_law {y : List S41} (hr : revS y = true) {s : ByteArray} (hc : covS y s = true) : backS y (toS y s) = s := by
  obtain ⟨hn, hv⟩ := of_decide_eq_true hr
  unfold covS trS at hc
  rw [if_pos hv] at hc
  unfold backS toS trS
  rw [if_pos hv, if_pos hv]
  cases hd : decS hasS s.data.toList with
  | none => rw [hd] at hc; simp at hc
  | some cs =>
    rw [hd] at hc
    simp only [Option.map_some, beq_iff_eq] at hc
    obtain ⟨h1, h2⟩ := decS_iff.1 hd
    obtain ⟨ds, g1, g2, g3⟩ := round_go hn hv cs.length cs (Nat.le_refl _) (fun c h => (h2 c h).2) hc
    simp only [Option.map_some]
    rw [g1, decS_of rfl (fun d hd => (g2 d hd).1)]
    simp only [Option.map_some]
    rw [g3 ds.length (Nat.le_refl _), ← h1]
theorem round_chars {y : List S41} (hr : revS y = true) {s : ByteArray} (hc : covS y s = true) : ∃ ds, decS hasS (toS y s).data.toList = some ds ∧ ∀ d ∈ ds, ∃ r ∈ y, ∃ gs, decS hasS r.f1.data.toList = some gs ∧ d ∈ gs := by
  obtain ⟨hn, hv⟩ := of_decide_eq_true hr
  unfold covS trS at hc
  rw [if_pos hv] at hc
  unfold toS trS
  rw [if_pos hv]
  cases hd : decS hasS s.data.toList with
  | none => rw [hd] at hc; simp at hc
  | some cs =>
    rw [hd] at hc
    simp only [Option.map_some, beq_iff_eq] at hc
    obtain ⟨h1, h2⟩ := decS_iff.1 hd
    obtain ⟨ds, g1, g2, g3⟩ := round_go hn hv cs.length cs (Nat.le_refl _) (fun c h => (h2 c h).2) hc
    simp only [Option.map_some]
    rw [g1]
    exact ⟨ds, decS_of rfl (fun d hd => (g2 d hd).1), fun d hd => (g2 d hd).2⟩
end Go.Proofs.YthcpdhniakpbaaaDoor.X
end

section
namespace Go.Proofs.YthcpdhniakpbaaaDoor.X
open Go.RowKit Go.Proofs.YthcpdhniakpbaaaDoorW.PrintWords Go.Proofs.YthcpdhniakpbaaaDoorW.PrintLast Go.Proofs.YthcpdhniakpbaaaDoorW.PrintMore
attribute [local go_sem] max2_int min2_int max_two min_two max_three min_three max_four min_four
set_option linter.unusedVariables false
set_option linter.unusedSimpArgs false
theorem eqA41 (d : Nat) (w : World) (x0 y0 : ByteArray) (x1 y1 : ByteArray) :
    (Op.equalIn (d + 2) 41 (.agg #[.string x0, .string x1]) (.agg #[.string y0, .string y1])).run Tryd.prog w = .ok (x0.toList == y0.toList && (x1.toList == y1.toList)) w := by
  refine eqA_of Tryd.underlying41 (by kernel_rfl) ?_
  refine eqf_cons (by rfl) (by go_simp; rfl) (by go_simp; rfl) (by go_simp) ?_
  exact eqf_last (by rfl) (by go_simp; rfl) (by go_simp; rfl) (by go_simp)
end Go.Proofs.YthcpdhniakpbaaaDoor.X
end

section
namespace Go.Proofs.YthcpdhniakpbaaaDoor.X
open Go.RowKit Go.Proofs.YthcpdhniakpbaaaDoorW.PrintWords Go.Proofs.YthcpdhniakpbaaaDoorW.PrintLast Go.Proofs.YthcpdhniakpbaaaDoorW.PrintMore
attribute [local go_sem] max2_int min2_int max_two min_two max_three min_three max_four min_four
set_option linter.unusedVariables false
set_option linter.unusedSimpArgs false
attribute [local go_sem high] eqA41
def bookplatelaw07_TranslitCyrillic.l0 : Nat → List (S41) → ByteArray → List Int → Int → Int → Option (Bool)
  | 0, _, _, _, _, _ => none
  | k + 1, x3, x4, x18, x19, x20 => if x20 < x19 then (if 0 ≤ x20 then (if x20 < (x18.length : Int) then (if (x3.length : Int) = 0 then (none) else (if 0 ≤ (Int.tmod (wrap64 (rd x18 x20)) (x3.length : Int)) then (if (Int.tmod (wrap64 (rd x18 x20)) (x3.length : Int)) < (x3.length : Int) then (if x4.size + ((rd_T41 x3 (Int.tmod (wrap64 (rd x18 x20)) (x3.length : Int))).f0).size ≤ 9223372036854775807 then (bookplatelaw07_TranslitCyrillic.l0 k x3 (x4 ++ ((rd_T41 x3 (Int.tmod (wrap64 (rd x18 x20)) (x3.length : Int))).f0)) x18 x19 (wrap64 (x20 + 1))) else (none)) else (none)) else (none))) else (none)) else (none)) else ((translit_To.f k x3 x4).bind fun t559 => ((bookplateref04_Script.f k t559).bind fun t560 => ((translit_Covers.f k x3 x4).bind fun t561 => (if t561 = true then ((translit_Back.f k x3 t559).bind fun t562 => (if t562.toList = x4.toList then (if t560 = 1 then (some true) else (some (t560 == 0))) else (some false))) else (some false)))))
def bookplatelaw07_TranslitCyrillic.f (k : Nat) (l0 : List Int) : Option (Bool) := (bookplatelaw07_awake.f k).bind fun t553 => (if t553 = true then (if (l0.length : Int) > 30 then (some true) else ((translit_Cyrillic.f k).bind fun t554 => (if (t554.length : Int) = 0 then (some false) else (bookplatelaw07_TranslitCyrillic.l0 k t554 (⟨#[]⟩ : ByteArray) l0 (l0.length : Int) 0)))) else (some false))
set_option maxHeartbeats 8000000 in
set_option maxRecDepth 100000 in
theorem bookplatelaw07_TranslitCyrillic.calls (k : Nat) (A0 : Option Addr) (c0 : Nat) (l0 : List Int) (r : Bool) (w : World) (hr0 : Kd.C (Kd.int .u8) w A0 l0.length l0) (hc0 : l0.length ≤ c0) (hG : GT2 w) (h : bookplatelaw07_TranslitCyrillic.f k l0 = some r) :
    Calls Tryd.prog 8 #[.slice A0 l0.length c0] w fun e w' => e = .returned (.bool r) ∧ Below w.heap.size w w' := by
  have HG := Aside0.mk hG
  clear hG
  have HR0 := Aside0.mk hr0
  have HC0 := Aside0.mk hc0
  clear hr0 hc0
  have HB := Aside0.mk (Below.refl w.heap.size w)
  have H : ((bookplatelaw07_awake.f k).bind fun t553 => (if t553 = true then (if (l0.length : Int) > 30 then (some true) else ((translit_Cyrillic.f k).bind fun t554 => (if (t554.length : Int) = 0 then (some false) else (bookplatelaw07_TranslitCyrillic.l0 k t554 (⟨#[]⟩ : ByteArray) l0 (l0.length : Int) 0)))) else (some false))) = some r := h
  clear h
  replace H := Option.bind_eq_some_iff.mp H
  obtain ⟨t553, A20, H⟩ := H
  replace H : (if t553 = true then (if (l0.length : Int) > 30 then (some true) else ((translit_Cyrillic.f k).bind fun t554 => (if (t554.length : Int) = 0 then (some false) else (bookplatelaw07_TranslitCyrillic.l0 k t554 (⟨#[]⟩ : ByteArray) l0 (l0.length : Int) 0)))) else (some false)) = some r := H
  have A2 := Aside0.mk A20
  clear A20
  by_cases c3 : t553 = true
  · subst c3
    have H1 : (if (l0.length : Int) > 30 then (some true) else ((translit_Cyrillic.f k).bind fun t554 => (if (t554.length : Int) = 0 then (some false) else (bookplatelaw07_TranslitCyrillic.l0 k t554 (⟨#[]⟩ : ByteArray) l0 (l0.length : Int) 0)))) = some r := by rw [if_pos rfl] at H; exact H
    clear H
    have H := H1
    clear H1
    by_cases c4 : (l0.length : Int) > 30
    · rw [if_pos c4] at H
      have c4b0 : decide (30 < (l0.length : Int)) = true := decide_eq_true c4
      have c4b1 : decide (30 < l0.length) = true := decide_eq_true (by omega)
      clear c4
      obtain rfl := Option.some.inj H
      go_enter Tryd.func8, Tryd.ntmps8
      go_wp2_with (first | ((with_reducible refine gate_callee (f := 17) rfl ?_); refine goesL_ (some 9) rfl rfl Tryd.func17 (by kernel_rfl) rfl #[] rfl (by (try simp only [List.map_toArray, List.map_cons, List.map_nil]); first | done | rfl | (simp only [List.length_drop, List.length_take]; rfl)) ?_; (with_reducible refine (bookplatelaw07_awake.calls k  true _ ?side1 A2.out).mono ?_); (case side1 => exact GT2.below (HG.out) (by repeat (first | (with_reducible first | exact HB.out | apply below_alloc | apply pw_below_drewN | apply below_drew1) | exact HB.out))); rintro e w5 ⟨rfl, hb⟩; refine ⟨_, rfl, ?_⟩; have n0_ := Aside0.mk (below_step (by repeat (first | (with_reducible first | exact HB.out | apply below_alloc | apply pw_below_drewN | apply below_drew1) | exact HB.out)) hb); clear HB; have HB := n0_; clear n0_; (try clear hb); (try clear hb2); (try clear hk); (try clear hi)))
      go_ret
      exact ⟨by first | rfl | (simp [errW_none, errW_some] <;> rfl) | (simp [*, errW_none, errW_some] <;> rfl), by repeat (first | (with_reducible first | exact HB.out | apply below_alloc | apply pw_below_drewN | apply below_drew1) | exact HB.out)⟩
    · rw [if_neg c4] at H
      have c4b0 : decide (30 < (l0.length : Int)) = false := decide_eq_false c4
      have c4b1 : decide (30 < l0.length) = false := decide_eq_false (by omega)
      clear c4
      replace H := Option.bind_eq_some_iff.mp H
      obtain ⟨t554, A60, H⟩ := H
      replace H : (if (t554.length : Int) = 0 then (some false) else (bookplatelaw07_TranslitCyrillic.l0 k t554 (⟨#[]⟩ : ByteArray) l0 (l0.length : Int) 0)) = some r := H
      have A6 := Aside0.mk A60
      clear A60
      by_cases c7 : (t554.length : Int) = 0
      · rw [if_pos c7] at H
        have c7b0 : ((t554.length : Int) == 0) = true := beq_iff_eq.mpr c7
        have c7b1 : ((t554.length : Int) != 0) = false := bne_eq_false_iff_eq.mpr c7
        clear c7
        obtain rfl := Option.some.inj H
        go_enter Tryd.func8, Tryd.ntmps8
        go_wp2_with (first | ((with_reducible refine gate_callee (f := 17) rfl ?_); refine goesL_ (some 9) rfl rfl Tryd.func17 (by kernel_rfl) rfl #[] rfl (by (try simp only [List.map_toArray, List.map_cons, List.map_nil]); first | done | rfl | (simp only [List.length_drop, List.length_take]; rfl)) ?_; (with_reducible refine (bookplatelaw07_awake.calls k  true _ ?side1 A2.out).mono ?_); (case side1 => exact GT2.below (HG.out) (by repeat (first | (with_reducible first | exact HB.out | apply below_alloc | apply pw_below_drewN | apply below_drew1) | exact HB.out))); rintro e w8 ⟨rfl, hb⟩; refine ⟨_, rfl, ?_⟩; have n0_ := Aside0.mk (below_step (by repeat (first | (with_reducible first | exact HB.out | apply below_alloc | apply pw_below_drewN | apply below_drew1) | exact HB.out)) hb); clear HB; have HB := n0_; clear n0_; (try clear hb); (try clear hb2); (try clear hk); (try clear hi)) | ((with_reducible refine gate_callee (f := 32) rfl ?_); refine goesL_ (some 14) rfl rfl Tryd.func32 (by kernel_rfl) rfl #[] rfl (by (try simp only [List.map_toArray, List.map_cons, List.map_nil]); first | done | rfl | (simp only [List.length_drop, List.length_take]; rfl)) ?_; (with_reducible refine (translit_Cyrillic.calls k  t554 _ ?side1 A6.out).mono ?_); (case side1 => exact GT2.below (HG.out) (by repeat (first | (with_reducible first | exact HB.out | apply below_alloc | apply pw_below_drewN | apply below_drew1) | exact HB.out))); rintro e w9 ⟨v555, rfl, ho0, hb⟩; refine ⟨_, rfl, ?_⟩; have n0_ := Aside0.mk (Kd.R_lower ho0 (below_size (by repeat (first | (with_reducible first | exact HB.out | apply below_alloc | apply pw_below_drewN | apply below_drew1) | exact HB.out)))); have n1_ := Aside0.mk (below_step (by repeat (first | (with_reducible first | exact HB.out | apply below_alloc | apply pw_below_drewN | apply below_drew1) | exact HB.out)) hb); clear HB; have HO556 := n0_; have HB := n1_; clear n0_ n1_; (try clear hb); (try clear hb2); (try clear hk); (try clear hi); (try clear ho0); obtain ⟨Ao10, co10, eo10⟩ := Kd.R_slice HO556.out; subst eo10))
        go_ret
        exact ⟨by first | rfl | (simp [errW_none, errW_some] <;> rfl) | (simp [*, errW_none, errW_some] <;> rfl), by repeat (first | (with_reducible first | exact HB.out | apply below_alloc | apply pw_below_drewN | apply below_drew1) | exact HB.out)⟩
      · rw [if_neg c7] at H
        have c7b0 : ((t554.length : Int) == 0) = false := beq_eq_false_iff_ne.mpr c7
        have c7b1 : ((t554.length : Int) != 0) = true := bne_iff_ne.mpr c7
        have c7b2 : ¬ (t554 = []) := fun h_ => c7 (by rw [h_]; rfl)
        have H' := Aside0.mk H
        clear H
        go_enter Tryd.func8, Tryd.ntmps8
        go_wp2_with (first | ((with_reducible refine gate_callee (f := 17) rfl ?_); refine goesL_ (some 9) rfl rfl Tryd.func17 (by kernel_rfl) rfl #[] rfl (by (try simp only [List.map_toArray, List.map_cons, List.map_nil]); first | done | rfl | (simp only [List.length_drop, List.length_take]; rfl)) ?_; (with_reducible refine (bookplatelaw07_awake.calls k  true _ ?side1 A2.out).mono ?_); (case side1 => exact GT2.below (HG.out) (by repeat (first | (with_reducible first | exact HB.out | apply below_alloc | apply pw_below_drewN | apply below_drew1) | exact HB.out))); rintro e w11 ⟨rfl, hb⟩; refine ⟨_, rfl, ?_⟩; have n0_ := Aside0.mk (below_step (by repeat (first | (with_reducible first | exact HB.out | apply below_alloc | apply pw_below_drewN | apply below_drew1) | exact HB.out)) hb); clear HB; have HB := n0_; clear n0_; (try clear hb); (try clear hb2); (try clear hk); (try clear hi)) | ((with_reducible refine gate_callee (f := 32) rfl ?_); refine goesL_ (some 14) rfl rfl Tryd.func32 (by kernel_rfl) rfl #[] rfl (by (try simp only [List.map_toArray, List.map_cons, List.map_nil]); first | done | rfl | (simp only [List.length_drop, List.length_take]; rfl)) ?_; (with_reducible refine (translit_Cyrillic.calls k  t554 _ ?side1 A6.out).mono ?_); (case side1 => exact GT2.below (HG.out) (by repeat (first | (with_reducible first | exact HB.out | apply below_alloc | apply pw_below_drewN | apply below_drew1) | exact HB.out))); rintro e w12 ⟨v555, rfl, ho0, hb⟩; refine ⟨_, rfl, ?_⟩; have n0_ := Aside0.mk (Kd.R_lower ho0 (below_size (by repeat (first | (with_reducible first | exact HB.out | apply below_alloc | apply pw_below_drewN | apply below_drew1) | exact HB.out)))); have n1_ := Aside0.mk (below_step (by repeat (first | (with_reducible first | exact HB.out | apply below_alloc | apply pw_below_drewN | apply below_drew1) | exact HB.out)) hb); clear HB; have HO556 := n0_; have HB := n1_; clear n0_ n1_; (try clear hb); (try clear hb2); (try clear hk); (try clear hi); (try clear ho0); obtain ⟨Ao13, co13, eo13⟩ := Kd.R_slice HO556.out; subst eo13))
        go_loopg [4, 20] k (fun kq v4 v20 w' => ∃ (x4_1 : ByteArray) (x20_1 : Int), v4 = .string x4_1 ∧ v20 = .int .i64 x20_1 ∧ Aside0 (bookplatelaw07_TranslitCyrillic.l0 kq t554 x4_1 l0 (l0.length : Int) x20_1 = some r) ∧ Aside0 (kq ≤ k) ∧ Aside0 (Kd.R k41 41 w' w.heap.size (fun _ => True) (.slice Ao13 t554.length co13) t554) ∧ Aside0 (Below w.heap.size w w'))
        case atStart => exact ⟨((⟨#[]⟩ : ByteArray)), (0), (by first | rfl | (simp; done) | (simp [*]; done)), (by first | rfl | (simp; done) | (simp [*]; done)), H', ⟨Nat.le_refl _⟩, ⟨by (with_reducible repeat (first | apply Kd.R_alloc | apply Kd.R_drewN | apply Kd.R_drew)); exact HO556.out⟩, ⟨by repeat (first | (with_reducible first | exact HB.out | apply below_alloc | apply pw_below_drewN | apply below_drew1) | exact HB.out)⟩⟩
        case round =>
          clear H'
          try clear c1
          try clear p2
          try clear c3
          try clear c4
          try clear c4b0
          try clear c4b1
          try clear c7
          try clear c7b0
          try clear c7b1
          try clear c7b2
          try clear c8
          obtain ⟨x4_1, x20_1, rfl, rfl, HA, HK1, HO_3, HB⟩ := hrel
          cases gk with
          | zero => exact absurd HA.out (by simp [bookplatelaw07_TranslitCyrillic.l0])
          | succ k1 =>
            have H := HA.out
            clear HA
            simp only [bookplatelaw07_TranslitCyrillic.l0] at H
            by_cases c14 : x20_1 < (l0.length : Int)
            · rw [if_pos c14] at H
              have c14b0 : decide (x20_1 < (l0.length : Int)) = true := decide_eq_true c14
              clear c14
              by_cases c15 : 0 ≤ x20_1
              · rw [if_pos c15] at H
                have c15b0 : decide (0 ≤ x20_1) = true := decide_eq_true c15
                clear c15
                by_cases c16 : x20_1 < (l0.length : Int)
                · rw [if_pos c16] at H
                  have c16b0 : decide (x20_1 < (l0.length : Int)) = true := decide_eq_true c16
                  clear c16
                  by_cases c17 : (t554.length : Int) = 0
                  · rw [if_pos c17] at H
                    exact absurd H (by simp)
                  · rw [if_neg c17] at H
                    have c17b0 : ((t554.length : Int) == 0) = false := beq_eq_false_iff_ne.mpr c17
                    have c17b1 : ((t554.length : Int) != 0) = true := bne_iff_ne.mpr c17
                    have c17b2 : ¬ (t554 = []) := fun h_ => c17 (by rw [h_]; rfl)
                    obtain ⟨ji18, hji18⟩ : ∃ j_ : Int, (Int.tmod (wrap64 (rd l0 x20_1)) (t554.length : Int)) = j_ := ⟨_, rfl⟩
                    replace H : (if 0 ≤ (ji18) then (if (ji18) < (t554.length : Int) then (if x4_1.size + ((rd_T41 t554 (ji18)).f0).size ≤ 9223372036854775807 then (bookplatelaw07_TranslitCyrillic.l0 k1 t554 (x4_1 ++ ((rd_T41 t554 (ji18)).f0)) l0 (l0.length : Int) (wrap64 (x20_1 + 1))) else (none)) else (none)) else (none)) = some r := by first | (rw [hji18] at H; exact H) | (simp only [hji18] at H ⊢; exact H)
                    by_cases c19 : 0 ≤ (ji18)
                    · rw [if_pos c19] at H
                      have c19b0 : decide (0 ≤ (ji18)) = true := decide_eq_true c19
                      clear c19
                      by_cases c20 : (ji18) < (t554.length : Int)
                      · rw [if_pos c20] at H
                        have c20b0 : decide ((ji18) < (t554.length : Int)) = true := decide_eq_true c20
                        clear c20
                        by_cases c21 : x4_1.size + ((rd_T41 t554 (ji18)).f0).size ≤ 9223372036854775807
                        · rw [if_pos c21] at H
                          have c21b0 := eq_true c21
                          have c21b1 : decide (x4_1.size + ((rd_T41 t554 (ji18)).f0).size ≤ 9223372036854775807) = true := decide_eq_true c21
                          try have c21b2 : (9223372036854775807 < x4_1.size + ((rd_T41 t554 (ji18)).f0).size) = False := eq_false (Nat.not_lt.2 c21)
                          have H' := Aside0.mk H
                          clear H
                          have p557 : 0 ≤ (x20_1 : Int) := of_decide_eq_true (by first | (with_reducible assumption) | assumption)
                          have q557 : x20_1 < (l0.length : Int) := of_decide_eq_true (by first | (with_reducible assumption) | assumption)
                          obtain ⟨ad557, e557, hx557_0⟩ := Kd.at_int HR0.out x20_1 p557 q557
                          cases e557
                          replace hx557_0 := (HB.out.cell (World.block_lt_of_cell? w _ hx557_0)).trans hx557_0
                          replace p557 := eq_true p557
                          replace q557 := eq_true q557
                          have p558 : 0 ≤ ((ji18) : Int) := of_decide_eq_true (by first | (with_reducible assumption) | assumption)
                          have q558 : (ji18) < (t554.length : Int) := of_decide_eq_true (by first | (with_reducible assumption) | assumption)
                          obtain ⟨ad558, e558, hx558_0, hx558_1⟩ := at_T41 (Kd.R_reads' HO_3.out).2.2 (ji18) p558 q558
                          cases e558
                          replace p558 := eq_true p558
                          replace q558 := eq_true q558
                          go_wp2
                          go_roundg k1
                          case measure => have := HK1.out; omega
                          case rel => exact ⟨(x4_1 ++ ((rd_T41 t554 (ji18)).f0)), (wrap64 (x20_1 + 1)), (by first | rfl | (simp; done) | (simp only [← hji18] <;> (first | rfl | simp)) | (simp [*]; done)), (by first | rfl | (simp; done) | (simp [*]; done)), H', ⟨by have := HK1.out; omega⟩, ⟨by (with_reducible repeat (first | apply Kd.R_alloc | apply Kd.R_drewN | apply Kd.R_drew)); exact HO_3.out⟩, ⟨by repeat (first | (with_reducible first | exact HB.out | apply below_alloc | apply pw_below_drewN | apply below_drew1) | exact HB.out)⟩⟩
                        · rw [if_neg c21] at H
                          exact absurd H (by simp)
                      · rw [if_neg c20] at H
                        exact absurd H (by simp)
                    · rw [if_neg c19] at H
                      exact absurd H (by simp)
                · rw [if_neg c16] at H
                  exact absurd H (by simp)
              · rw [if_neg c15] at H
                exact absurd H (by simp)
            · rw [if_neg c14] at H
              have c14b0 : decide (x20_1 < (l0.length : Int)) = false := decide_eq_false c14
              clear c14
              replace H := Option.bind_eq_some_iff.mp H
              obtain ⟨t559, A220, H⟩ := H
              replace H : ((bookplateref04_Script.f k1 t559).bind fun t560 => ((translit_Covers.f k1 t554 x4_1).bind fun t561 => (if t561 = true then ((translit_Back.f k1 t554 t559).bind fun t562 => (if t562.toList = x4_1.toList then (if t560 = 1 then (some true) else (some (t560 == 0))) else (some false))) else (some false)))) = some r := H
              have A22 := Aside0.mk A220
              clear A220
              replace H := Option.bind_eq_some_iff.mp H
              obtain ⟨t560, A230, H⟩ := H
              replace H : ((translit_Covers.f k1 t554 x4_1).bind fun t561 => (if t561 = true then ((translit_Back.f k1 t554 t559).bind fun t562 => (if t562.toList = x4_1.toList then (if t560 = 1 then (some true) else (some (t560 == 0))) else (some false))) else (some false))) = some r := H
              have A23 := Aside0.mk A230
              clear A230
              replace H := Option.bind_eq_some_iff.mp H
              obtain ⟨t561, A240, H⟩ := H
              replace H : (if t561 = true then ((translit_Back.f k1 t554 t559).bind fun t562 => (if t562.toList = x4_1.toList then (if t560 = 1 then (some true) else (some (t560 == 0))) else (some false))) else (some false)) = some r := H
              have A24 := Aside0.mk A240
              clear A240
              by_cases c25 : t561 = true
              · subst c25
                have H1 : ((translit_Back.f k1 t554 t559).bind fun t562 => (if t562.toList = x4_1.toList then (if t560 = 1 then (some true) else (some (t560 == 0))) else (some false))) = some r := by rw [if_pos rfl] at H; exact H
                clear H
                have H := H1
                clear H1
                replace H := Option.bind_eq_some_iff.mp H
                obtain ⟨t562, A260, H⟩ := H
                replace H : (if t562.toList = x4_1.toList then (if t560 = 1 then (some true) else (some (t560 == 0))) else (some false)) = some r := H
                have A26 := Aside0.mk A260
                clear A260
                by_cases c27 : t562.toList = x4_1.toList
                · rw [if_pos c27] at H
                  have c27b0 : (t562.toList == x4_1.toList) = true := beq_iff_eq.mpr c27
                  have c27b1 : (t562.toList != x4_1.toList) = false := bne_eq_false_iff_eq.mpr c27
                  clear c27
                  by_cases c28 : t560 = 1
                  · rw [if_pos c28] at H
                    have c28b0 : (t560 == 1) = true := beq_iff_eq.mpr c28
                    have c28b1 : (t560 != 1) = false := bne_eq_false_iff_eq.mpr c28
                    clear c28
                    obtain rfl := Option.some.inj H
                    go_wp2_with (first | ((with_reducible refine gate_callee (f := 24) rfl ?_); refine goesL_ (some 38) rfl rfl Tryd.func24 (by kernel_rfl) rfl #[.slice Ao13 t554.length co13, .string x4_1] rfl (by (try simp only [List.map_toArray, List.map_cons, List.map_nil]); first | done | rfl | (simp only [List.length_drop, List.length_take]; rfl)) ?_; (with_reducible refine (translit_To.calls k1 _ _ t554 x4_1 t559 _ ?side1 ?side2 ?side3 A22.out).mono ?_); (case side1 => repeat (first | exact (Kd.R_reads' HO_3.out).2.2 | (with_reducible refine Kd.C_alloc ?_ _) | (with_reducible refine Kd.C_drewN ?_ _) | (with_reducible refine Kd.C_drew ?_))); (case side2 => exact (Kd.R_reads' HO_3.out).2.1); (case side3 => exact GT1.below (HG.out.one) (by repeat (first | (with_reducible first | exact HB.out | apply below_alloc | apply pw_below_drewN | apply below_drew1) | exact HB.out))); rintro e w29 ⟨rfl, hb⟩; refine ⟨_, rfl, ?_⟩; have n0_ := Aside0.mk (Kd.R_below (by (with_reducible repeat (first | apply Kd.R_alloc | apply Kd.R_drewN | apply Kd.R_drew)); exact HO_3.out) hb); have n1_ := Aside0.mk (below_step (by repeat (first | (with_reducible first | exact HB.out | apply below_alloc | apply pw_below_drewN | apply below_drew1) | exact HB.out)) hb); clear HO_3; clear HB; have HO_3 := n0_; have HB := n1_; clear n0_ n1_; (try clear hb); (try clear hb2); (try clear hk); (try clear hi)) | ((with_reducible refine gate_callee (f := 36) rfl ?_); refine goesL_ (some 40) rfl rfl Tryd.func36 (by kernel_rfl) rfl #[.string t559] rfl (by (try simp only [List.map_toArray, List.map_cons, List.map_nil]); first | done | rfl | (simp only [List.length_drop, List.length_take]; rfl)) ?_; (with_reducible refine (bookplateref04_Script.calls k1 t559 t560 _ A23.out).mono ?_); rintro e w30 ⟨rfl, hb⟩; refine ⟨_, rfl, ?_⟩; have n0_ := Aside0.mk (Kd.R_below (by (with_reducible repeat (first | apply Kd.R_alloc | apply Kd.R_drewN | apply Kd.R_drew)); exact HO_3.out) hb); have n1_ := Aside0.mk (below_step (by repeat (first | (with_reducible first | exact HB.out | apply below_alloc | apply pw_below_drewN | apply below_drew1) | exact HB.out)) hb); clear HO_3; clear HB; have HO_3 := n0_; have HB := n1_; clear n0_ n1_; (try clear hb); (try clear hb2); (try clear hk); (try clear hi)) | ((with_reducible refine gate_callee (f := 28) rfl ?_); refine goesL_ (some 43) rfl rfl Tryd.func28 (by kernel_rfl) rfl #[.slice Ao13 t554.length co13, .string x4_1] rfl (by (try simp only [List.map_toArray, List.map_cons, List.map_nil]); first | done | rfl | (simp only [List.length_drop, List.length_take]; rfl)) ?_; (with_reducible refine (translit_Covers.calls k1 _ _ t554 x4_1 true _ ?side1 ?side2 ?side3 A24.out).mono ?_); (case side1 => repeat (first | exact (Kd.R_reads' HO_3.out).2.2 | (with_reducible refine Kd.C_alloc ?_ _) | (with_reducible refine Kd.C_drewN ?_ _) | (with_reducible refine Kd.C_drew ?_))); (case side2 => exact (Kd.R_reads' HO_3.out).2.1); (case side3 => exact GT1.below (HG.out.one) (by repeat (first | (with_reducible first | exact HB.out | apply below_alloc | apply pw_below_drewN | apply below_drew1) | exact HB.out))); rintro e w31 ⟨rfl, hb⟩; refine ⟨_, rfl, ?_⟩; have n0_ := Aside0.mk (Kd.R_below (by (with_reducible repeat (first | apply Kd.R_alloc | apply Kd.R_drewN | apply Kd.R_drew)); exact HO_3.out) hb); have n1_ := Aside0.mk (below_step (by repeat (first | (with_reducible first | exact HB.out | apply below_alloc | apply pw_below_drewN | apply below_drew1) | exact HB.out)) hb); clear HO_3; clear HB; have HO_3 := n0_; have HB := n1_; clear n0_ n1_; (try clear hb); (try clear hb2); (try clear hk); (try clear hi)) | (go_at_call 26; (with_reducible refine (translit_Back.calls k1 _ _ t554 t559 t562 _ ?side1 ?side2 ?side3 A26.out).mono ?_); (case side1 => repeat (first | exact (Kd.R_reads' HO_3.out).2.2 | (with_reducible refine Kd.C_alloc ?_ _) | (with_reducible refine Kd.C_drewN ?_ _) | (with_reducible refine Kd.C_drew ?_))); (case side2 => exact (Kd.R_reads' HO_3.out).2.1); (case side3 => exact GT1.below (HG.out.one) (by repeat (first | (with_reducible first | exact HB.out | apply below_alloc | apply pw_below_drewN | apply below_drew1) | exact HB.out))); rintro e w32 ⟨rfl, hb⟩; have n0_ := Aside0.mk (Kd.R_below (by (with_reducible repeat (first | apply Kd.R_alloc | apply Kd.R_drewN | apply Kd.R_drew)); exact HO_3.out) hb); have n1_ := Aside0.mk (below_step (by repeat (first | (with_reducible first | exact HB.out | apply below_alloc | apply pw_below_drewN | apply below_drew1) | exact HB.out)) hb); clear HO_3; clear HB; have HO_3 := n0_; have HB := n1_; clear n0_ n1_; (try clear hb); (try clear hb2); (try clear hk); (try clear hi)))
                    go_ret
                    exact ⟨by first | rfl | (simp [errW_none, errW_some] <;> rfl) | (simp [*, errW_none, errW_some] <;> rfl), by repeat (first | (with_reducible first | exact HB.out | apply below_alloc | apply pw_below_drewN | apply below_drew1) | exact HB.out)⟩
                  · rw [if_neg c28] at H
                    have c28b0 : (t560 == 1) = false := beq_eq_false_iff_ne.mpr c28
                    have c28b1 : (t560 != 1) = true := bne_iff_ne.mpr c28
                    obtain rfl := Option.some.inj H
                    go_wp2_with (first | ((with_reducible refine gate_callee (f := 24) rfl ?_); refine goesL_ (some 38) rfl rfl Tryd.func24 (by kernel_rfl) rfl #[.slice Ao13 t554.length co13, .string x4_1] rfl (by (try simp only [List.map_toArray, List.map_cons, List.map_nil]); first | done | rfl | (simp only [List.length_drop, List.length_take]; rfl)) ?_; (with_reducible refine (translit_To.calls k1 _ _ t554 x4_1 t559 _ ?side1 ?side2 ?side3 A22.out).mono ?_); (case side1 => repeat (first | exact (Kd.R_reads' HO_3.out).2.2 | (with_reducible refine Kd.C_alloc ?_ _) | (with_reducible refine Kd.C_drewN ?_ _) | (with_reducible refine Kd.C_drew ?_))); (case side2 => exact (Kd.R_reads' HO_3.out).2.1); (case side3 => exact GT1.below (HG.out.one) (by repeat (first | (with_reducible first | exact HB.out | apply below_alloc | apply pw_below_drewN | apply below_drew1) | exact HB.out))); rintro e w33 ⟨rfl, hb⟩; refine ⟨_, rfl, ?_⟩; have n0_ := Aside0.mk (Kd.R_below (by (with_reducible repeat (first | apply Kd.R_alloc | apply Kd.R_drewN | apply Kd.R_drew)); exact HO_3.out) hb); have n1_ := Aside0.mk (below_step (by repeat (first | (with_reducible first | exact HB.out | apply below_alloc | apply pw_below_drewN | apply below_drew1) | exact HB.out)) hb); clear HO_3; clear HB; have HO_3 := n0_; have HB := n1_; clear n0_ n1_; (try clear hb); (try clear hb2); (try clear hk); (try clear hi)) | ((with_reducible refine gate_callee (f := 36) rfl ?_); refine goesL_ (some 40) rfl rfl Tryd.func36 (by kernel_rfl) rfl #[.string t559] rfl (by (try simp only [List.map_toArray, List.map_cons, List.map_nil]); first | done | rfl | (simp only [List.length_drop, List.length_take]; rfl)) ?_; (with_reducible refine (bookplateref04_Script.calls k1 t559 t560 _ A23.out).mono ?_); rintro e w34 ⟨rfl, hb⟩; refine ⟨_, rfl, ?_⟩; have n0_ := Aside0.mk (Kd.R_below (by (with_reducible repeat (first | apply Kd.R_alloc | apply Kd.R_drewN | apply Kd.R_drew)); exact HO_3.out) hb); have n1_ := Aside0.mk (below_step (by repeat (first | (with_reducible first | exact HB.out | apply below_alloc | apply pw_below_drewN | apply below_drew1) | exact HB.out)) hb); clear HO_3; clear HB; have HO_3 := n0_; have HB := n1_; clear n0_ n1_; (try clear hb); (try clear hb2); (try clear hk); (try clear hi)) | ((with_reducible refine gate_callee (f := 28) rfl ?_); refine goesL_ (some 43) rfl rfl Tryd.func28 (by kernel_rfl) rfl #[.slice Ao13 t554.length co13, .string x4_1] rfl (by (try simp only [List.map_toArray, List.map_cons, List.map_nil]); first | done | rfl | (simp only [List.length_drop, List.length_take]; rfl)) ?_; (with_reducible refine (translit_Covers.calls k1 _ _ t554 x4_1 true _ ?side1 ?side2 ?side3 A24.out).mono ?_); (case side1 => repeat (first | exact (Kd.R_reads' HO_3.out).2.2 | (with_reducible refine Kd.C_alloc ?_ _) | (with_reducible refine Kd.C_drewN ?_ _) | (with_reducible refine Kd.C_drew ?_))); (case side2 => exact (Kd.R_reads' HO_3.out).2.1); (case side3 => exact GT1.below (HG.out.one) (by repeat (first | (with_reducible first | exact HB.out | apply below_alloc | apply pw_below_drewN | apply below_drew1) | exact HB.out))); rintro e w35 ⟨rfl, hb⟩; refine ⟨_, rfl, ?_⟩; have n0_ := Aside0.mk (Kd.R_below (by (with_reducible repeat (first | apply Kd.R_alloc | apply Kd.R_drewN | apply Kd.R_drew)); exact HO_3.out) hb); have n1_ := Aside0.mk (below_step (by repeat (first | (with_reducible first | exact HB.out | apply below_alloc | apply pw_below_drewN | apply below_drew1) | exact HB.out)) hb); clear HO_3; clear HB; have HO_3 := n0_; have HB := n1_; clear n0_ n1_; (try clear hb); (try clear hb2); (try clear hk); (try clear hi)) | (go_at_call 26; (with_reducible refine (translit_Back.calls k1 _ _ t554 t559 t562 _ ?side1 ?side2 ?side3 A26.out).mono ?_); (case side1 => repeat (first | exact (Kd.R_reads' HO_3.out).2.2 | (with_reducible refine Kd.C_alloc ?_ _) | (with_reducible refine Kd.C_drewN ?_ _) | (with_reducible refine Kd.C_drew ?_))); (case side2 => exact (Kd.R_reads' HO_3.out).2.1); (case side3 => exact GT1.below (HG.out.one) (by repeat (first | (with_reducible first | exact HB.out | apply below_alloc | apply pw_below_drewN | apply below_drew1) | exact HB.out))); rintro e w36 ⟨rfl, hb⟩; have n0_ := Aside0.mk (Kd.R_below (by (with_reducible repeat (first | apply Kd.R_alloc | apply Kd.R_drewN | apply Kd.R_drew)); exact HO_3.out) hb); have n1_ := Aside0.mk (below_step (by repeat (first | (with_reducible first | exact HB.out | apply below_alloc | apply pw_below_drewN | apply below_drew1) | exact HB.out)) hb); clear HO_3; clear HB; have HO_3 := n0_; have HB := n1_; clear n0_ n1_; (try clear hb); (try clear hb2); (try clear hk); (try clear hi)))
                    go_ret
                    exact ⟨by first | rfl | (simp [errW_none, errW_some] <;> rfl) | (simp [*, errW_none, errW_some] <;> rfl), by repeat (first | (with_reducible first | exact HB.out | apply below_alloc | apply pw_below_drewN | apply below_drew1) | exact HB.out)⟩
                · rw [if_neg c27] at H
                  have c27b0 : (t562.toList == x4_1.toList) = false := beq_eq_false_iff_ne.mpr c27
                  have c27b1 : (t562.toList != x4_1.toList) = true := bne_iff_ne.mpr c27
                  obtain rfl := Option.some.inj H
                  go_wp2_with (first | ((with_reducible refine gate_callee (f := 24) rfl ?_); refine goesL_ (some 38) rfl rfl Tryd.func24 (by kernel_rfl) rfl #[.slice Ao13 t554.length co13, .string x4_1] rfl (by (try simp only [List.map_toArray, List.map_cons, List.map_nil]); first | done | rfl | (simp only [List.length_drop, List.length_take]; rfl)) ?_; (with_reducible refine (translit_To.calls k1 _ _ t554 x4_1 t559 _ ?side1 ?side2 ?side3 A22.out).mono ?_); (case side1 => repeat (first | exact (Kd.R_reads' HO_3.out).2.2 | (with_reducible refine Kd.C_alloc ?_ _) | (with_reducible refine Kd.C_drewN ?_ _) | (with_reducible refine Kd.C_drew ?_))); (case side2 => exact (Kd.R_reads' HO_3.out).2.1); (case side3 => exact GT1.below (HG.out.one) (by repeat (first | (with_reducible first | exact HB.out | apply below_alloc | apply pw_below_drewN | apply below_drew1) | exact HB.out))); rintro e w37 ⟨rfl, hb⟩; refine ⟨_, rfl, ?_⟩; have n0_ := Aside0.mk (Kd.R_below (by (with_reducible repeat (first | apply Kd.R_alloc | apply Kd.R_drewN | apply Kd.R_drew)); exact HO_3.out) hb); have n1_ := Aside0.mk (below_step (by repeat (first | (with_reducible first | exact HB.out | apply below_alloc | apply pw_below_drewN | apply below_drew1) | exact HB.out)) hb); clear HO_3; clear HB; have HO_3 := n0_; have HB := n1_; clear n0_ n1_; (try clear hb); (try clear hb2); (try clear hk); (try clear hi)) | ((with_reducible refine gate_callee (f := 36) rfl ?_); refine goesL_ (some 40) rfl rfl Tryd.func36 (by kernel_rfl) rfl #[.string t559] rfl (by (try simp only [List.map_toArray, List.map_cons, List.map_nil]); first | done | rfl | (simp only [List.length_drop, List.length_take]; rfl)) ?_; (with_reducible refine (bookplateref04_Script.calls k1 t559 t560 _ A23.out).mono ?_); rintro e w38 ⟨rfl, hb⟩; refine ⟨_, rfl, ?_⟩; have n0_ := Aside0.mk (Kd.R_below (by (with_reducible repeat (first | apply Kd.R_alloc | apply Kd.R_drewN | apply Kd.R_drew)); exact HO_3.out) hb); have n1_ := Aside0.mk (below_step (by repeat (first | (with_reducible first | exact HB.out | apply below_alloc | apply pw_below_drewN | apply below_drew1) | exact HB.out)) hb); clear HO_3; clear HB; have HO_3 := n0_; have HB := n1_; clear n0_ n1_; (try clear hb); (try clear hb2); (try clear hk); (try clear hi)) | ((with_reducible refine gate_callee (f := 28) rfl ?_); refine goesL_ (some 43) rfl rfl Tryd.func28 (by kernel_rfl) rfl #[.slice Ao13 t554.length co13, .string x4_1] rfl (by (try simp only [List.map_toArray, List.map_cons, List.map_nil]); first | done | rfl | (simp only [List.length_drop, List.length_take]; rfl)) ?_; (with_reducible refine (translit_Covers.calls k1 _ _ t554 x4_1 true _ ?side1 ?side2 ?side3 A24.out).mono ?_); (case side1 => repeat (first | exact (Kd.R_reads' HO_3.out).2.2 | (with_reducible refine Kd.C_alloc ?_ _) | (with_reducible refine Kd.C_drewN ?_ _) | (with_reducible refine Kd.C_drew ?_))); (case side2 => exact (Kd.R_reads' HO_3.out).2.1); (case side3 => exact GT1.below (HG.out.one) (by repeat (first | (with_reducible first | exact HB.out | apply below_alloc | apply pw_below_drewN | apply below_drew1) | exact HB.out))); rintro e w39 ⟨rfl, hb⟩; refine ⟨_, rfl, ?_⟩; have n0_ := Aside0.mk (Kd.R_below (by (with_reducible repeat (first | apply Kd.R_alloc | apply Kd.R_drewN | apply Kd.R_drew)); exact HO_3.out) hb); have n1_ := Aside0.mk (below_step (by repeat (first | (with_reducible first | exact HB.out | apply below_alloc | apply pw_below_drewN | apply below_drew1) | exact HB.out)) hb); clear HO_3; clear HB; have HO_3 := n0_; have HB := n1_; clear n0_ n1_; (try clear hb); (try clear hb2); (try clear hk); (try clear hi)) | (go_at_call 26; (with_reducible refine (translit_Back.calls k1 _ _ t554 t559 t562 _ ?side1 ?side2 ?side3 A26.out).mono ?_); (case side1 => repeat (first | exact (Kd.R_reads' HO_3.out).2.2 | (with_reducible refine Kd.C_alloc ?_ _) | (with_reducible refine Kd.C_drewN ?_ _) | (with_reducible refine Kd.C_drew ?_))); (case side2 => exact (Kd.R_reads' HO_3.out).2.1); (case side3 => exact GT1.below (HG.out.one) (by repeat (first | (with_reducible first | exact HB.out | apply below_alloc | apply pw_below_drewN | apply below_drew1) | exact HB.out))); rintro e w40 ⟨rfl, hb⟩; have n0_ := Aside0.mk (Kd.R_below (by (with_reducible repeat (first | apply Kd.R_alloc | apply Kd.R_drewN | apply Kd.R_drew)); exact HO_3.out) hb); have n1_ := Aside0.mk (below_step (by repeat (first | (with_reducible first | exact HB.out | apply below_alloc | apply pw_below_drewN | apply below_drew1) | exact HB.out)) hb); clear HO_3; clear HB; have HO_3 := n0_; have HB := n1_; clear n0_ n1_; (try clear hb); (try clear hb2); (try clear hk); (try clear hi)))
                  go_ret
                  exact ⟨by first | rfl | (simp [errW_none, errW_some] <;> rfl) | (simp [*, errW_none, errW_some] <;> rfl), by repeat (first | (with_reducible first | exact HB.out | apply below_alloc | apply pw_below_drewN | apply below_drew1) | exact HB.out)⟩
              · replace c25 := Bool.eq_false_iff.mpr c25
                subst c25
                have H1 : (some false) = some r := by rw [if_neg (show ¬ (false = true) by decide)] at H; exact H
                clear H
                have H := H1
                clear H1
                obtain rfl := Option.some.inj H
                go_wp2_with (first | ((with_reducible refine gate_callee (f := 24) rfl ?_); refine goesL_ (some 38) rfl rfl Tryd.func24 (by kernel_rfl) rfl #[.slice Ao13 t554.length co13, .string x4_1] rfl (by (try simp only [List.map_toArray, List.map_cons, List.map_nil]); first | done | rfl | (simp only [List.length_drop, List.length_take]; rfl)) ?_; (with_reducible refine (translit_To.calls k1 _ _ t554 x4_1 t559 _ ?side1 ?side2 ?side3 A22.out).mono ?_); (case side1 => repeat (first | exact (Kd.R_reads' HO_3.out).2.2 | (with_reducible refine Kd.C_alloc ?_ _) | (with_reducible refine Kd.C_drewN ?_ _) | (with_reducible refine Kd.C_drew ?_))); (case side2 => exact (Kd.R_reads' HO_3.out).2.1); (case side3 => exact GT1.below (HG.out.one) (by repeat (first | (with_reducible first | exact HB.out | apply below_alloc | apply pw_below_drewN | apply below_drew1) | exact HB.out))); rintro e w41 ⟨rfl, hb⟩; refine ⟨_, rfl, ?_⟩; have n0_ := Aside0.mk (Kd.R_below (by (with_reducible repeat (first | apply Kd.R_alloc | apply Kd.R_drewN | apply Kd.R_drew)); exact HO_3.out) hb); have n1_ := Aside0.mk (below_step (by repeat (first | (with_reducible first | exact HB.out | apply below_alloc | apply pw_below_drewN | apply below_drew1) | exact HB.out)) hb); clear HO_3; clear HB; have HO_3 := n0_; have HB := n1_; clear n0_ n1_; (try clear hb); (try clear hb2); (try clear hk); (try clear hi)) | ((with_reducible refine gate_callee (f := 36) rfl ?_); refine goesL_ (some 40) rfl rfl Tryd.func36 (by kernel_rfl) rfl #[.string t559] rfl (by (try simp only [List.map_toArray, List.map_cons, List.map_nil]); first | done | rfl | (simp only [List.length_drop, List.length_take]; rfl)) ?_; (with_reducible refine (bookplateref04_Script.calls k1 t559 t560 _ A23.out).mono ?_); rintro e w42 ⟨rfl, hb⟩; refine ⟨_, rfl, ?_⟩; have n0_ := Aside0.mk (Kd.R_below (by (with_reducible repeat (first | apply Kd.R_alloc | apply Kd.R_drewN | apply Kd.R_drew)); exact HO_3.out) hb); have n1_ := Aside0.mk (below_step (by repeat (first | (with_reducible first | exact HB.out | apply below_alloc | apply pw_below_drewN | apply below_drew1) | exact HB.out)) hb); clear HO_3; clear HB; have HO_3 := n0_; have HB := n1_; clear n0_ n1_; (try clear hb); (try clear hb2); (try clear hk); (try clear hi)) | ((with_reducible refine gate_callee (f := 28) rfl ?_); refine goesL_ (some 43) rfl rfl Tryd.func28 (by kernel_rfl) rfl #[.slice Ao13 t554.length co13, .string x4_1] rfl (by (try simp only [List.map_toArray, List.map_cons, List.map_nil]); first | done | rfl | (simp only [List.length_drop, List.length_take]; rfl)) ?_; (with_reducible refine (translit_Covers.calls k1 _ _ t554 x4_1 false _ ?side1 ?side2 ?side3 A24.out).mono ?_); (case side1 => repeat (first | exact (Kd.R_reads' HO_3.out).2.2 | (with_reducible refine Kd.C_alloc ?_ _) | (with_reducible refine Kd.C_drewN ?_ _) | (with_reducible refine Kd.C_drew ?_))); (case side2 => exact (Kd.R_reads' HO_3.out).2.1); (case side3 => exact GT1.below (HG.out.one) (by repeat (first | (with_reducible first | exact HB.out | apply below_alloc | apply pw_below_drewN | apply below_drew1) | exact HB.out))); rintro e w43 ⟨rfl, hb⟩; refine ⟨_, rfl, ?_⟩; have n0_ := Aside0.mk (Kd.R_below (by (with_reducible repeat (first | apply Kd.R_alloc | apply Kd.R_drewN | apply Kd.R_drew)); exact HO_3.out) hb); have n1_ := Aside0.mk (below_step (by repeat (first | (with_reducible first | exact HB.out | apply below_alloc | apply pw_below_drewN | apply below_drew1) | exact HB.out)) hb); clear HO_3; clear HB; have HO_3 := n0_; have HB := n1_; clear n0_ n1_; (try clear hb); (try clear hb2); (try clear hk); (try clear hi)))
                go_ret
                exact ⟨by first | rfl | (simp [errW_none, errW_some] <;> rfl) | (simp [*, errW_none, errW_some] <;> rfl), by repeat (first | (with_reducible first | exact HB.out | apply below_alloc | apply pw_below_drewN | apply below_drew1) | exact HB.out)⟩
  · replace c3 := Bool.eq_false_iff.mpr c3
    subst c3
    have H1 : (some false) = some r := by rw [if_neg (show ¬ (false = true) by decide)] at H; exact H
    clear H
    have H := H1
    clear H1
    obtain rfl := Option.some.inj H
    go_enter Tryd.func8, Tryd.ntmps8
    go_wp2_with (first | ((with_reducible refine gate_callee (f := 17) rfl ?_); refine goesL_ (some 9) rfl rfl Tryd.func17 (by kernel_rfl) rfl #[] rfl (by (try simp only [List.map_toArray, List.map_cons, List.map_nil]); first | done | rfl | (simp only [List.length_drop, List.length_take]; rfl)) ?_; (with_reducible refine (bookplatelaw07_awake.calls k  false _ ?side1 A2.out).mono ?_); (case side1 => exact GT2.below (HG.out) (by repeat (first | (with_reducible first | exact HB.out | apply below_alloc | apply pw_below_drewN | apply below_drew1) | exact HB.out))); rintro e w44 ⟨rfl, hb⟩; refine ⟨_, rfl, ?_⟩; have n0_ := Aside0.mk (below_step (by repeat (first | (with_reducible first | exact HB.out | apply below_alloc | apply pw_below_drewN | apply below_drew1) | exact HB.out)) hb); clear HB; have HB := n0_; clear n0_; (try clear hb); (try clear hb2); (try clear hk); (try clear hi)))
    go_ret
    exact ⟨by first | rfl | (simp [errW_none, errW_some] <;> rfl) | (simp [*, errW_none, errW_some] <;> rfl), by repeat (first | (with_reducible first | exact HB.out | apply below_alloc | apply pw_below_drewN | apply below_drew1) | exact HB.out)⟩
end Go.Proofs.YthcpdhniakpbaaaDoor.X
end

section
namespace Go.Proofs.YthcpdhniakpbaaaDoor.X
set_option linter.unusedVariables false
set_option linter.unusedSimpArgs false
open Go.RowKit Go.Proofs.YthcpdhniakpbaaaDoorW.PrintWords
theorem cov_all {t : List S41} (ht : EncF t) : ∀ (m : Nat) (cs : List Int), cs.length ≤ m → (∀ c ∈ cs, hasS c = true ∧ ∃ r ∈ t, r.f0.data.toList = encC c) → (tr t m cs).2 = 0
  | m, [], hm, hh => by rw [tr_nil]
  | 0, c :: cs, hm, hh => by simp at hm
  | m + 1, c :: cs, hm, hh => by
    obtain ⟨hc, r, hr, hrc⟩ := hh c (by simp)
    have hp : r.f0.data.toList.isPrefixOf (encL (c :: cs)) = true := by rw [hrc, encL_cons, List.isPrefixOf_iff_prefix]; exact List.prefix_append _ _
    have hmax := bestL_max (encL (c :: cs)) t rule0 r hr hp
    have hz : r.f0.size ≠ 0 := encB_size (ht r hr)
    have hb : (bestL (encL (c :: cs)) rule0 t).f0.size ≠ 0 := by omega
    obtain ⟨_, fs, q, h1, h2, h3, h4⟩ := best_split ht (fun x hx => (hh x hx).1) hb
    have hfl : fs.length ≠ 0 := fun e => h1 (List.length_eq_zero_iff.1 e)
    have hdr : (c :: cs).drop fs.length = q := by rw [h2, List.drop_left']; rfl
    have hl := congrArg List.length h2
    rw [List.length_append, List.length_cons] at hl
    rw [tr, if_neg hb, h4, hdr]
    exact cov_all ht m q (by simp at hm; omega) (fun x hx => hh x (by rw [h2]; simp [hx]))
theorem script_go (l : List Int) (hl : l.length ≤ 1000000) (hc : ∀ d ∈ l, (classS d).1 = 0 ∨ (classS d).1 = 1) (hr : ∀ d ∈ l, hasS d = true) : ∀ (n i : Nat) (o : Int) (k : Nat), l.length ≤ i + n → i ≤ l.length → (o = 0 ∨ o = 1) → 2 * n + 400 ≤ k →
    ∃ v, bookplateref04_Script.l0 k l o (i : Int) = some v ∧ (v = 0 ∨ v = 1)
  | n, i, o, 0, h1, h2, ho, hk => by omega
  | n, i, o, k + 1, h1, h2, ho, hk => by
    rw [bookplateref04_Script.l0]
    by_cases e : i = l.length
    · rw [if_neg (by omega)]
      exact ⟨o, rfl, ho⟩
    · have hlt : i < l.length := by omega
      obtain ⟨n, rfl⟩ : ∃ n', n = n' + 1 := ⟨n - 1, by omega⟩
      obtain ⟨k, rfl⟩ : ∃ k', k = k' + 1 := ⟨k - 1, by omega⟩
      have hrd : rd l (i : Int) = l[i] := by simp [rd, hlt]
      have hd := hc _ (List.getElem_mem hlt)
      have hok := hasS_ok (hr _ (List.getElem_mem hlt))
      unfold Ok at hok
      rw [if_pos (by omega), if_pos (by omega), hrd, refClass_eq _ (k + 1) (by omega) (by omega)]
      have hwr : wrap64 ((i : Int) + 1) = ((i + 1 : Nat) : Int) := by rw [w64 (by omega) (by omega)]; omega
      simp only [Option.bind_some, bookplateref04_Script.j1, hwr]
      have ih := fun o ho => script_go l hl hc hr n (i + 1) o k (by omega) (by omega) ho (by omega)
      rcases hd with hd | hd
      · rw [hd, if_pos rfl]
        simp only [Bool.false_eq_true, if_false, if_true]
        exact ih o ho
      · rw [hd, if_neg (by decide)]
        rcases ho with rfl | rfl
        · simpa using ih 1 (.inr rfl)
        · simpa using ih 1 (.inr rfl)
theorem refScript_eq (s : ByteArray) (hs : s.size ≤ 1000000) {ds : List Int} (hd : decS hasS s.data.toList = some ds) (hc : ∀ d ∈ ds, (classS d).1 = 0 ∨ (classS d).1 = 1) (k : Nat) (hk : 2 * s.size + 400 ≤ k) :
    ∃ v, bookplateref04_Script.f k s = some v ∧ (v = 0 ∨ v = 1) := by
  unfold bookplateref04_Script.f
  rw [refDecode_eq s (by omega) k (by omega)]
  unfold decR
  rw [hd]
  have hl := decS_len hd
  rw [dlen] at hl
  exact script_go ds (by omega) hc (fun d h => ((decS_iff.1 hd).2 d h).2) ds.length 0 0 k (by omega) (by omega) (.inl rfl) (by omega)
def oneB (r : S41) : Bool := match decS hasS r.f0.data.toList with | some [_] => true | _ => false
def latB (r : S41) : Bool := match decS hasS r.f1.data.toList with | some gs => gs.all fun d => (classS d).1 == 0 || (classS d).1 == 1 | none => false
theorem cyr_one : cyrT.all oneB = true := by kernel_rfl
theorem cyr_lat : cyrT.all latB = true := by kernel_rfl
theorem one_of {r : S41} (h : oneB r = true) : ∃ d, r.f0.data.toList = encC d ∧ hasS d = true := by
  unfold oneB at h
  split at h
  · rename_i d hd
    obtain ⟨h1, h2⟩ := decS_iff.1 hd
    exact ⟨d, by rw [h1]; simp [encL_cons, encL_nil], (h2 d (by simp)).2⟩
  · cases h
theorem lat_of {r : S41} (h : latB r = true) {gs : List Int} (hg : decS hasS r.f1.data.toList = some gs) : ∀ d ∈ gs, (classS d).1 = 0 ∨ (classS d).1 = 1 := by
  unfold latB at h
  rw [hg] at h
  intro d hd
  have := List.all_eq_true.1 h d hd
  simpa using this
theorem cyr_go (y : List S41) (hf : FewS y) (hone : y.all oneB = true) (l : List Int) (hl : l.length ≤ 30) (hw : ∀ z ∈ l, 0 ≤ z ∧ z < 256) (hy : 1 ≤ y.length) (F : Nat)
    (fin : ∀ (s : ByteArray) (cs : List Int) (k : Nat), s.data.toList = encL cs → s.size ≤ 90 → (∀ c ∈ cs, hasS c = true ∧ ∃ r ∈ y, r.f0.data.toList = encC c) → F ≤ k → bookplatelaw07_TranslitCyrillic.l0 k y s l (l.length : Int) (l.length : Int) = some true) :
    ∀ (n i : Nat) (s : ByteArray) (cs : List Int) (k : Nat), l.length ≤ i + n → i ≤ l.length → s.data.toList = encL cs → s.size ≤ 3 * i → (∀ c ∈ cs, hasS c = true ∧ ∃ r ∈ y, r.f0.data.toList = encC c) → n + F ≤ k →
      bookplatelaw07_TranslitCyrillic.l0 k y s l (l.length : Int) (i : Int) = some true
  | 0, i, s, cs, k, h1, h2, hs, hz, hh, hk => by
    obtain rfl : i = l.length := by omega
    exact fin s cs k hs (by omega) hh (by omega)
  | n + 1, i, s, cs, k, h1, h2, hs, hz, hh, hk => by
    by_cases e : i = l.length
    · subst e; exact fin s cs k hs (by omega) hh (by omega)
    · obtain ⟨k, rfl⟩ : ∃ k', k = k' + 1 := ⟨k - 1, by omega⟩
      have hlt : i < l.length := by omega
      have hrd : rd l (i : Int) = l[i] := by simp [rd, hlt]
      obtain ⟨g0, g1⟩ := hw _ (List.getElem_mem hlt)
      have h9 := hf.2
      rw [bookplatelaw07_TranslitCyrillic.l0, if_pos (by omega), if_pos (by omega), if_pos (by omega), if_neg (by omega), hrd, w64 (n := l[i]) (by omega) (by omega), Int.tmod_eq_emod_of_nonneg g0, w64 (n := (i : Int) + 1) (by omega) (by omega)]
      have hm0 := Int.emod_nonneg l[i] (show (y.length : Int) ≠ 0 by omega)
      have hm1 := Int.emod_lt_of_pos l[i] (show (0 : Int) < y.length by omega)
      obtain ⟨q, hq⟩ : ∃ q : Nat, l[i] % (y.length : Int) = (q : Int) := ⟨(l[i] % (y.length : Int)).toNat, by omega⟩
      rw [hq, rd_ru]
      rw [hq] at hm1
      have hql : q < y.length := by omega
      have hmem := ru_mem hql
      obtain ⟨d, hd1, hd2⟩ := one_of (List.all_eq_true.1 hone _ hmem)
      have hd3 := (encC_length d).2
      have hfz : (ru y q).f0.size = (encC d).length := by rw [← dlen, hd1]
      rw [if_pos (by omega), if_pos (by omega), if_pos (by omega), show ((i : Int) + 1) = ((i + 1 : Nat) : Int) by omega]
      refine cyr_go y hf hone l hl hw hy F fin n (i + 1) (s ++ (ru y q).f0) (cs ++ [d]) k (by omega) (by omega) ?_ ?_ ?_ (by omega)
      · rw [show (s ++ (ru y q).f0).data.toList = s.data.toList ++ (ru y q).f0.data.toList by simp, hs, hd1, encL_append]
        simp [encL_cons, encL_nil]
      · rw [ByteArray.size_append]; omega
      · intro c hc
        rcases List.mem_append.1 hc with hc | hc
        · exact hh c hc
        · obtain rfl := List.mem_singleton.1 hc
          exact ⟨hd2, _, hmem, hd1⟩
theorem cyr_gen (y : List S41) (hf : FewS y) (hr : revS y = true) (hone : y.all oneB = true) (hlat : y.all latB = true) (l : List Int) (hl : l.length ≤ 30) (hw : ∀ z ∈ l, 0 ≤ z ∧ z < 256) (hy : 1 ≤ y.length) (k : Nat) (hk : 300000 ≤ k) :
    bookplatelaw07_TranslitCyrillic.l0 k y ⟨#[]⟩ l (l.length : Int) 0 = some true := by
  refine cyr_go y hf hone l hl hw hy 200000 ?_ l.length 0 ⟨#[]⟩ [] k (by omega) (by omega) rfl (by simp [ByteArray.size]) (by simp) (by omega)
  intro s cs k hs hz hh hk
  obtain ⟨k, rfl⟩ : ∃ k', k = k' + 1 := ⟨k - 1, by omega⟩
  have hv := (of_decide_eq_true hr).2
  have hd : decS hasS s.data.toList = some cs := decS_of hs (fun c hc => (hh c hc).1)
  have hcov : covS y s = true := by
    unfold covS trS
    rw [if_pos hv, hd]
    simp only [Option.map_some]
    rw [cov_all (valid_F hv) cs.length cs (Nat.le_refl _) hh]
    rfl
  have hts := toS_size hf s
  obtain ⟨ds, hds, hcl⟩ := round_chars hr hcov
  obtain ⟨v, hv1, hv2⟩ := refScript_eq (toS y s) (by omega) hds (fun d hd => by
    obtain ⟨r, hrm, gs, hg, hdg⟩ := hcl d hd
    exact lat_of (List.all_eq_true.1 hlat _ hrm) hg d hdg) k (by omega)
  rw [bookplatelaw07_TranslitCyrillic.l0, if_neg (by omega), to_eq hf s (by omega) k (by omega)]
  simp only [Option.bind_some]
  rw [hv1, cov_eq hf s (by omega) k (by omega), hcov]
  simp only [Option.bind_some, if_true]
  rw [back_eq hf _ (by omega) k (by omega), round_law hr hcov]
  simp only [Option.bind_some, if_true]
  rcases hv2 with rfl | rfl
  · rfl
  · rfl
theorem transCyrillic_true (l : List Int) (hx : l.length ≤ 9223372036854775807) (hw : ∀ z ∈ l, 0 ≤ z ∧ z < 256) : ∃ k, bookplatelaw07_TranslitCyrillic.f k l = some true := by
  obtain ⟨k, hk⟩ : ∃ k, 400000 ≤ k := ⟨_, Nat.le_refl _⟩
  refine ⟨k, ?_⟩
  unfold bookplatelaw07_TranslitCyrillic.f
  rw [awake_eq _ (by omega)]
  simp only [Option.bind_some, if_true]
  by_cases hl : (l.length : Int) > 30
  · rw [if_pos hl]
  · rw [if_neg hl, cyr_eq k (by omega)]
    simp only [Option.bind_some]
    have hy : 1 ≤ cyrT.length := by unfold cyrT; rw [tab_length]; decide +kernel
    rw [if_neg (by omega)]
    exact cyr_gen cyrT cyr_few cyr_rev cyr_one cyr_lat l (by omega) hw hy k (by omega)
end Go.Proofs.YthcpdhniakpbaaaDoor.X
end
