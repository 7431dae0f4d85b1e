/- The law NormalStrips returns true for every input, the package variables that it reads holding what the row lists. Part 4 of the texts that its proof stands on; put together by a program. -/
import Derived.Test.YthcpdhniakpbaaaDoorNormalStripsC
import Derived.Outline
import Derived.Lib.FrozenHead
import Derived.Lib.FrozenHead2
import Derived.Lib.OthersKept
import Derived.Maps.Own
import Derived.Maps.OwnOps
import Derived.Maps.OwnSet
import Derived.Maps.Views
import Derived.Deep.Cut
import Derived.Deep.CutRange
import Derived.Deep.CutBlock
import Derived.Deep.DeepCutAuto
import Derived.Deep.RegionHeld3
import Derived.Deep.AppendLies
section
namespace Go.Proofs.YthcpdhniakpbaaaDoor.X
open Go.RowKit Go.Proofs.YthcpdhniakpbaaaDoorW.PrintWords Go.Proofs.YthcpdhniakpbaaaDoorW.PrintLast Go.Proofs.YthcpdhniakpbaaaDoorW.PrintMore
set_option linter.unusedVariables false
set_option linter.unusedSimpArgs false
def nr (i : Nat) : NRow := nrows.getD i ⟨0, ⟨#[]⟩, ⟨#[]⟩, [], []⟩
theorem nr_mem {i : Nat} (h : i < 13) : nr i ∈ nrows := by
  have : i < nrows.length := h
  unfold nr
  simp [this]
theorem nr_drop {i : Nat} (h : i < 13) : nrows.drop i = nr i :: nrows.drop (i + 1) := by
  have hl : i < nrows.length := h
  have : nr i = nrows[i] := by unfold nr; simp [hl]
  rw [this, List.drop_eq_getElem_cons hl]
set_option maxRecDepth 100000 in
theorem idx_run {i : Nat} (h : i < 13) (W : World) : (Instr.index 89 (.agg rowsC) (.int .i64 (i : Int))).run Tryd.prog W = .ok (.agg #[.int .i64 (nr i).mark, .string (nr i).lb, .string (nr i).bb]) W := by
  match i, h with
  | 0, _ => exact (show Sem.run Tryd.prog (Instr.index 89 (.agg rowsC) (.int .i64 0)) W = .ok (.agg #[.int .i64 (nr 0).mark, .string (nr 0).lb, .string (nr 0).bb]) W by kernel_rfl)
  | 1, _ => exact (show Sem.run Tryd.prog (Instr.index 89 (.agg rowsC) (.int .i64 1)) W = .ok (.agg #[.int .i64 (nr 1).mark, .string (nr 1).lb, .string (nr 1).bb]) W by kernel_rfl)
  | 2, _ => exact (show Sem.run Tryd.prog (Instr.index 89 (.agg rowsC) (.int .i64 2)) W = .ok (.agg #[.int .i64 (nr 2).mark, .string (nr 2).lb, .string (nr 2).bb]) W by kernel_rfl)
  | 3, _ => exact (show Sem.run Tryd.prog (Instr.index 89 (.agg rowsC) (.int .i64 3)) W = .ok (.agg #[.int .i64 (nr 3).mark, .string (nr 3).lb, .string (nr 3).bb]) W by kernel_rfl)
  | 4, _ => exact (show Sem.run Tryd.prog (Instr.index 89 (.agg rowsC) (.int .i64 4)) W = .ok (.agg #[.int .i64 (nr 4).mark, .string (nr 4).lb, .string (nr 4).bb]) W by kernel_rfl)
  | 5, _ => exact (show Sem.run Tryd.prog (Instr.index 89 (.agg rowsC) (.int .i64 5)) W = .ok (.agg #[.int .i64 (nr 5).mark, .string (nr 5).lb, .string (nr 5).bb]) W by kernel_rfl)
  | 6, _ => exact (show Sem.run Tryd.prog (Instr.index 89 (.agg rowsC) (.int .i64 6)) W = .ok (.agg #[.int .i64 (nr 6).mark, .string (nr 6).lb, .string (nr 6).bb]) W by kernel_rfl)
  | 7, _ => exact (show Sem.run Tryd.prog (Instr.index 89 (.agg rowsC) (.int .i64 7)) W = .ok (.agg #[.int .i64 (nr 7).mark, .string (nr 7).lb, .string (nr 7).bb]) W by kernel_rfl)
  | 8, _ => exact (show Sem.run Tryd.prog (Instr.index 89 (.agg rowsC) (.int .i64 8)) W = .ok (.agg #[.int .i64 (nr 8).mark, .string (nr 8).lb, .string (nr 8).bb]) W by kernel_rfl)
  | 9, _ => exact (show Sem.run Tryd.prog (Instr.index 89 (.agg rowsC) (.int .i64 9)) W = .ok (.agg #[.int .i64 (nr 9).mark, .string (nr 9).lb, .string (nr 9).bb]) W by kernel_rfl)
  | 10, _ => exact (show Sem.run Tryd.prog (Instr.index 89 (.agg rowsC) (.int .i64 10)) W = .ok (.agg #[.int .i64 (nr 10).mark, .string (nr 10).lb, .string (nr 10).bb]) W by kernel_rfl)
  | 11, _ => exact (show Sem.run Tryd.prog (Instr.index 89 (.agg rowsC) (.int .i64 11)) W = .ok (.agg #[.int .i64 (nr 11).mark, .string (nr 11).lb, .string (nr 11).bb]) W by kernel_rfl)
  | 12, _ => exact (show Sem.run Tryd.prog (Instr.index 89 (.agg rowsC) (.int .i64 12)) W = .ok (.agg #[.int .i64 (nr 12).mark, .string (nr 12).lb, .string (nr 12).bb]) W by kernel_rfl)
def at0 (xs : List Int) (p : Int) : Int := xs.getD p.toNat 0
def joinR (c m : Int) : List NRow → Option Int
  | [] => none
  | r :: rs => if r.mark = m ∧ c ∈ r.b then some (at0 r.l (plc r.b c)) else joinR c m rs
def joinS (c m : Int) : Option Int := joinR c m nrows
def joinV (o : Option Int) : Value := match o with | some x => .tuple #[.int .i64 x, .bool true] | none => .tuple #[.int .i64 0, .bool false]
theorem joinV_some (x : Int) : joinV (some x) = .tuple #[.int .i64 x, .bool true] := rfl
theorem joinV_none : joinV none = .tuple #[.int .i64 0, .bool false] := rfl
theorem row_small : nrows.all (fun r => decide (r.l.length ≤ 1000) && decide (r.b.length ≤ 1000) && (r.l.all fun x => decide (0 ≤ x ∧ x < 2048)) && (r.b.all fun x => decide (0 ≤ x ∧ x < 2048)) && decide (0 ≤ r.mark ∧ r.mark < 2048)) = true := by decide +kernel
theorem row_bounds {r : NRow} (h : r ∈ nrows) : r.l.length ≤ 1000 ∧ r.b.length ≤ 1000 ∧ (∀ x ∈ r.l, 0 ≤ x ∧ x < 2048) ∧ (∀ x ∈ r.b, 0 ≤ x ∧ x < 2048) ∧ 0 ≤ r.mark ∧ r.mark < 2048 := by
  have := List.all_eq_true.1 row_small r h
  simpa [and_assoc] using this
theorem at0_get {xs : List Int} {p : Int} (h0 : 0 ≤ p) (h1 : p < xs.length) : ∃ hj : p.toNat < xs.length, xs[p.toNat] = at0 xs p := ⟨by omega, by unfold at0; simp [show p.toNat < xs.length by omega]⟩
theorem place_any {r : NRow} (h : r ∈ nrows) {c : Int} (h0 : 0 ≤ c) (h1 : c ≤ 65535) (hne : c ≠ 65533) (W : World) :
    (Calls Tryd.prog 92 #[.string r.lb, .int .i64 c] W fun e w' => e = .returned (.int .i64 (plc r.l c)) ∧ Below W.heap.size W w') ∧ (Calls Tryd.prog 92 #[.string r.bb, .int .i64 c] W fun e w' => e = .returned (.int .i64 (plc r.b c)) ∧ Below W.heap.size W w') :=
  ⟨normal_place.calls _ _ _ W (place_eq (row_str h).1 h0 h1 hne), normal_place.calls _ _ _ W (place_eq (row_str h).2.1 h0 h1 hne)⟩
set_option maxHeartbeats 4000000 in
set_option maxRecDepth 100000 in
theorem join_walk (c m : Int) (hc0 : 0 ≤ c) (hc1 : c ≤ 65535) (hc2 : c ≠ 65533) (w : World) :
    Calls Tryd.prog 69 #[.int .i64 c, .int .i64 m] w fun e w' => e = .returned (joinV (joinS c m)) ∧ Below w.heap.size w w' := by
  obtain ⟨J, hJ⟩ : ∃ J, J = joinS c m := ⟨_, rfl⟩
  have HJ : Hid (joinR c m (nrows.drop 0) = J) := hJ.symm
  rw [← hJ]
  clear hJ
  have HP : Hid (∀ r ∈ nrows, ∀ W, Calls Tryd.prog 92 #[.string r.bb, .int .i64 c] W fun e w' => e = .returned (.int .i64 (plc r.b c)) ∧ Below W.heap.size W w') := fun r hr W => (place_any hr hc0 hc1 hc2 W).2
  have HI : Hid (∀ i : Nat, i < 13 → ∀ W, (Instr.index 89 (.agg rowsC) (.int .i64 (i : Int))).run Tryd.prog W = .ok (.agg #[.int .i64 (nr i).mark, .string (nr i).lb, .string (nr i).bb]) W) := fun i hi W => idx_run hi W
  have HR : Hid (∀ W : World, Calls Tryd.prog 91 #[] W fun e w' => e = .returned (.agg rowsC) ∧ Below W.heap.size W w') := rows_calls
  generalize rowsC = C at HI HR
  clear hc0 hc1 hc2
  go_enter Tryd.func69, Tryd.ntmps69
  go_wp2_with (go_at_call 91; refine (HR.out _).mono ?_; rintro e w1 ⟨rfl, hb1⟩)
  clear HR
  go_loopg [10] 13 (fun g1 v10 wr => ∃ i : Nat, v10 = .int .i64 (i : Int) ∧ i ≤ 13 ∧ 13 - i ≤ g1 ∧ Aside0 (Below w.heap.size w wr) ∧ Hid (joinR c m (nrows.drop i) = J))
  case atStart => exact ⟨0, rfl, by omega, by omega, ⟨hb1⟩, HJ⟩
  case round =>
    clear HJ hb1
    obtain ⟨i, rfl, hi, hg1, HB, HJ⟩ := hrel
    by_cases hlt : i < 13
    · have hltz : (i : Int) < 13 := by omega
      have hrun := HI.out i hlt
      have hmem := nr_mem hlt
      have hj := HJ.out
      rw [nr_drop hlt, joinR] at hj
      have HPr := Lib.hid (HP.out _ hmem)
      have hbd := row_bounds hmem
      have hst := row_str hmem
      have hrn := row_runes hmem
      generalize nr i = r at hrun hmem hj HPr hbd hst hrn
      obtain ⟨mk, L, B, ls, bs⟩ := r
      simp only at hrun hmem hj HPr hbd hst hrn
      obtain ⟨p, hp⟩ : ∃ p, p = plc bs c := ⟨_, rfl⟩
      rw [← hp] at hj HPr
      have hge : 0 ≤ p ↔ c ∈ bs := by rw [hp]; exact plc_ge
      have hlt2 : c ∈ bs → p < ls.length := fun h => by rw [hp, hst.2.2]; exact plc_lt h
      have HRN := Lib.hid hrn.1
      have hl1000 := hbd.1
      have hls := hbd.2.2.1
      clear hp hmem hst hrn hbd
      have hsz := HB.out.size
      by_cases hit : mk = m ∧ c ∈ bs
      · rw [if_pos hit] at hj
        have h0p : 0 ≤ p := hge.2 hit.2
        have hpl := hlt2 hit.2
        obtain ⟨hjx, hat⟩ := at0_get h0p hpl
        have hrng := hls _ (List.getElem_mem hjx)
        rw [hat] at hrng
        have HAT : Hid (∀ (w1 : World) (b : Nat), (∀ j (hj : j < ls.length), w1.cell? ⟨b, j, none⟩ = some (.int .i32 ls[j])) → w1.cell? ⟨b, p.toNat, none⟩ = some (.int .i32 (at0 ls p))) := fun w1 b h => by rw [h _ hjx, hat]
        have HJ2 : Hid (some (at0 ls p) = J) := hj
        generalize at0 ls p = x at hrng HAT HJ2
        have hmk : (mk == m) = true := by rw [beq_iff_eq]; exact hit.1
        have hpd : decide (p ≥ 0) = true := decide_eq_true h0p
        clear hj hge hlt2 hls hat hjx hit
        go_wp2_with fail
        refine (HPr.out _).mono ?_
        rintro e w2 ⟨rfl, hb2⟩
        have hB2 : Below w.heap.size w w2 := (HB.out.alloc hsz _).trans (hb2.mono (by simp; omega))
        have c0 : w2.cell? ⟨wr.heap.size, 0, none⟩ = some (.int .i64 mk) := (hb2.cell (p := ⟨wr.heap.size, 0, none⟩) (by simp)).trans (by simp)
        have c1 : w2.cell? ⟨wr.heap.size, 1, none⟩ = some (.string L) := (hb2.cell (p := ⟨wr.heap.size, 1, none⟩) (by simp)).trans (by simp)
        have c2 : w2.cell? ⟨wr.heap.size, 2, none⟩ = some (.string B) := (hb2.cell (p := ⟨wr.heap.size, 2, none⟩) (by simp)).trans (by simp)
        obtain ⟨cap, w3, hconv, hb3, hsz3, hcell⟩ := runes_run HRN.out hl1000 w2
        have hx := HAT.out w3 _ hcell
        have HB3 := Lib.hid (hB2.trans (hb3.mono hB2.size))
        clear hB2 hb2 hb3 hcell HAT HRN
        go_wp2_with fail
        go_ret2
        exact ⟨by rw [← HJ2.out]; rfl, HB3.out⟩
      · rw [if_neg hit] at hj
        have HJ2 : Hid (joinR c m (nrows.drop (i + 1)) = J) := hj
        clear hj hlt2 hls
        have key : (mk == m) = false ∨ ((mk == m) = true ∧ decide (p ≥ 0) = false) := by
          by_cases h1 : mk = m
          · exact .inr ⟨by rw [beq_iff_eq]; exact h1, decide_eq_false fun h => hit ⟨h1, hge.1 h⟩⟩
          · exact .inl (by rw [beq_eq_false_iff_ne]; exact h1)
        clear hit hge
        go_wp2_with fail
        refine (HPr.out _).mono ?_
        rintro e w2 ⟨rfl, hb2⟩
        have hB2 : Below w.heap.size w w2 := (HB.out.alloc hsz _).trans (hb2.mono (by simp; omega))
        have c0 : w2.cell? ⟨wr.heap.size, 0, none⟩ = some (.int .i64 mk) := (hb2.cell (p := ⟨wr.heap.size, 0, none⟩) (by simp)).trans (by simp)
        have c1 : w2.cell? ⟨wr.heap.size, 1, none⟩ = some (.string L) := (hb2.cell (p := ⟨wr.heap.size, 1, none⟩) (by simp)).trans (by simp)
        have c2 : w2.cell? ⟨wr.heap.size, 2, none⟩ = some (.string B) := (hb2.cell (p := ⟨wr.heap.size, 2, none⟩) (by simp)).trans (by simp)
        have HB2 := Lib.hid hB2
        clear hB2 hb2
        rcases key with hmk | ⟨hmk, hpd⟩
        · go_wp2_with fail
          go_roundg (13 - (i + 1))
          case measure => omega
          case rel => exact ⟨i + 1, by go_num, by omega, by omega, ⟨HB2.out⟩, HJ2⟩
        · go_wp2_with fail
          go_roundg (13 - (i + 1))
          case measure => omega
          case rel => exact ⟨i + 1, by go_num, by omega, by omega, ⟨HB2.out⟩, HJ2⟩
    · have hltz : ¬ (i : Int) < 13 := by omega
      obtain rfl : i = 13 := by omega
      have HJ2 : Hid (none = J) := HJ.out
      clear HJ
      go_wp2_with fail
      go_ret2
      exact ⟨by rw [← HJ2.out]; rfl, HB.out⟩
end Go.Proofs.YthcpdhniakpbaaaDoor.X
end

section
namespace Go.Proofs.YthcpdhniakpbaaaDoor.X
open Go.RowKit Go.Proofs.YthcpdhniakpbaaaDoorW.PrintWords Go.Proofs.YthcpdhniakpbaaaDoorW.PrintLast Go.Proofs.YthcpdhniakpbaaaDoorW.PrintMore
set_option linter.unusedVariables false
set_option linter.unusedSimpArgs false
def splitR (c : Int) : List NRow → List Int
  | [] => [c]
  | r :: rs => if c ∈ r.l then [at0 r.b (plc r.l c), r.mark] else splitR c rs
def splitS (c : Int) : List Int :=
  if c = 160 then [32] else if c = 185 then [49] else if c = 178 ∨ c = 179 then [c - 176 + 48] else if c = 383 then [115] else if c = 64257 then [102, 105] else if c = 64258 then [102, 108]
  else if 65281 ≤ c then [c - 65248] else if c < 128 then [c] else splitR c nrows
theorem R_lits (W : World) (g base : Nat) (xs : List Int) (hW : g = W.heap.size) (hb : base ≤ W.heap.size) (hl : xs.length ≤ 1000) :
    Kd.R (Kd.int .i64) 3 (W.alloc (.cells (xs.map (Value.int .i64)).toArray 3)) base (fun _ => True) (.slice (some ⟨g, 0, none⟩) xs.length xs.length) xs := by
  rw [hW]
  refine Kd.R_of_own ?_ (fun _ _ => trivial)
  have h2 := World.ownsRow_lit (base := base) (e := 3) (size := 1) W (xs.map (Value.int .i64)).toArray xs.length hb (by unfold maxLen; omega) (by simp)
  simpa [encs] using h2
def SplitGoal (w : World) (xs : List Int) (e : Ending) (w' : World) : Prop := ∃ v, e = .returned v ∧ Kd.R (Kd.int .i64) 3 w' w.heap.size (fun _ => True) v xs ∧ Below w.heap.size w w'
theorem runes_all {B : ByteArray} {xs : List Int} (h : strR B xs) (hl : xs.length ≤ 1000) : ∃ (K : World → Nat) (D : World → Array Value), (∀ W, (convert 9 92 (.string B)).run Tryd.prog W = .ok (.slice (some ⟨W.heap.size, 0, none⟩) xs.length (K W)) (W.drew.alloc (.cells (D W) 21))) ∧ ∀ W j (hj : j < xs.length), (D W)[j]? = some (.int .i32 xs[j]) := by
  have hsz : (Conv.runesFrom B B.size 0 #[]).size = xs.length := by rw [h]; simp [runeCellsL]
  refine ⟨fun W => grownCap W xs.length 0 21, fun W => runeCellsL xs ++ Array.replicate (grownCap W xs.length 0 21 - xs.length) (Value.int .i32 0), fun W => ?_, fun W j hj => ?_⟩
  · have hrun := run_runes_of_string (P := Tryd.prog) W 9 92 21 B Tryd.underlying9 Tryd.underlying92 Tryd.underlying21 (by omega)
    rw [hsz, h] at hrun
    exact hrun
  · rw [Array.getElem?_append_left (by simp [runeCellsL]; exact hj)]
    simp [runeCellsL, hj]
set_option maxHeartbeats 4000000 in
set_option maxRecDepth 100000 in
theorem split_rows (c : Int) (hc0 : 128 ≤ c) (hc1 : c < 65281) (hc2 : c ≠ 65533) (e1 : (c == 160) = false) (e2 : (c == 185) = false) (e3 : (c == 178) = false) (e4 : (c == 179) = false) (e5 : (c == 383) = false) (e6 : (c == 64257) = false) (e7 : (c == 64258) = false) (w : World) :
    Calls Tryd.prog 85 #[.int .i64 c] w (SplitGoal w (splitR c nrows)) := by
  obtain ⟨J, hJ⟩ : ∃ J, J = splitR c nrows := ⟨_, rfl⟩
  have HJ : Hid (splitR c (nrows.drop 0) = J) := hJ.symm
  rw [← hJ]
  clear hJ
  have HP : Hid (∀ r ∈ nrows, ∀ W, Calls Tryd.prog 92 #[.string r.lb, .int .i64 c] W fun e w' => e = .returned (.int .i64 (plc r.l c)) ∧ Below W.heap.size W w') := fun r hr W => (place_any hr (by omega) (by omega) hc2 W).1
  have HI : Hid (∀ i : Nat, i < 13 → ∀ W, (Instr.index 89 (.agg rowsC) (.int .i64 (i : Int))).run Tryd.prog W = .ok (.agg #[.int .i64 (nr i).mark, .string (nr i).lb, .string (nr i).bb]) W) := fun i hi W => idx_run hi W
  have HR : Hid (∀ W : World, Calls Tryd.prog 91 #[] W fun e w' => e = .returned (.agg rowsC) ∧ Below W.heap.size W w') := rows_calls
  generalize rowsC = C at HI HR
  have g1 : decide (c ≥ 65281) = false := decide_eq_false (by omega)
  have g2 : decide (c < 128) = false := decide_eq_false (by omega)
  clear hc0 hc1 hc2
  go_enter Tryd.func85, Tryd.ntmps85
  go_wp2_with (go_at_call 91; refine (HR.out _).mono ?_; rintro e w1 ⟨rfl, hb1⟩)
  clear HR
  go_loopg [49] 13 (fun g1 v10 wr => ∃ i : Nat, v10 = .int .i64 (i : Int) ∧ i ≤ 13 ∧ 13 - i ≤ g1 ∧ Aside0 (Below w.heap.size w wr) ∧ Hid (splitR c (nrows.drop i) = J))
  case atStart => exact ⟨0, rfl, by omega, by omega, ⟨hb1⟩, HJ⟩
  case round =>
    clear HJ hb1
    obtain ⟨i, rfl, hi, hg1, HB, HJ⟩ := hrel
    by_cases hlt : i < 13
    · have hltz : (i : Int) < 13 := by omega
      have hrun := HI.out i hlt
      have hmem := nr_mem hlt
      have hj := HJ.out
      rw [nr_drop hlt, splitR] at hj
      have HPr := Lib.hid (HP.out _ hmem)
      have hbd := row_bounds hmem
      have hst := row_str hmem
      have hrn := row_runes hmem
      generalize nr i = r at hrun hmem hj HPr hbd hst hrn
      obtain ⟨mk, L, B, ls, bs⟩ := r
      simp only at hrun hmem hj HPr hbd hst hrn
      obtain ⟨p, hp⟩ : ∃ p, p = plc ls c := ⟨_, rfl⟩
      rw [← hp] at hj HPr
      have hge : 0 ≤ p ↔ c ∈ ls := by rw [hp]; exact plc_ge
      have hlt2 : c ∈ ls → p < bs.length := fun h => by rw [hp, ← hst.2.2]; exact plc_lt h
      obtain ⟨K, D, hconv, hD⟩ := runes_all hrn.2 hbd.2.1
      have hls := hbd.2.2.2.1
      have hb1000 := hbd.2.1
      clear hp hmem hst hrn hbd
      have hsz := HB.out.size
      by_cases hit : c ∈ ls
      · rw [if_pos hit] at hj
        have h0p : 0 ≤ p := hge.2 hit
        have hpl := hlt2 hit
        obtain ⟨hjx, hat⟩ := at0_get h0p hpl
        have hrng := hls _ (List.getElem_mem hjx)
        rw [hat] at hrng
        have hDp : ∀ W, (D W)[p.toNat]? = some (.int .i32 (at0 bs p)) := fun W => by rw [hD W _ hjx, hat]
        have HJ2 : Hid ([at0 bs p, mk] = J) := hj
        generalize at0 bs p = x at hrng hDp HJ2
        have hpd : decide (p ≥ 0) = true := decide_eq_true h0p
        clear hj hge hlt2 hls hat hjx hit hD
        go_wp2_with fail
        refine (HPr.out _).mono ?_
        rintro e w2 ⟨rfl, hb2⟩
        have hB2 : Below w.heap.size w w2 := (HB.out.alloc hsz _).trans (hb2.mono (by simp; omega))
        have c0 : w2.cell? ⟨wr.heap.size, 0, none⟩ = some (.int .i64 mk) := (hb2.cell (p := ⟨wr.heap.size, 0, none⟩) (by simp)).trans (by simp)
        have c1 : w2.cell? ⟨wr.heap.size, 1, none⟩ = some (.string L) := (hb2.cell (p := ⟨wr.heap.size, 1, none⟩) (by simp)).trans (by simp)
        have c2 : w2.cell? ⟨wr.heap.size, 2, none⟩ = some (.string B) := (hb2.cell (p := ⟨wr.heap.size, 2, none⟩) (by simp)).trans (by simp)
        have hlt2 : wr.heap.size < w2.heap.size := by have := hb2.size; simp at this; omega
        have HB2 := Lib.hid hB2
        clear hB2 hb2
        go_wp2_with fail
        go_region
        go_wp2_with fail
        go_ret
        have hs2 := HB2.out.size
        refine ⟨_, rfl, ?_, ((((HB2.out.alloc hs2 _).alloc (by simp; omega) _).drew).drew)⟩
        rw [← HJ2.out]
        exact Kd.R_drew (Kd.R_drew (R_lits (w2.alloc _) _ _ [x, mk] (by simp) (by simp; omega) (by simp)))
      · rw [if_neg hit] at hj
        have HJ2 : Hid (splitR c (nrows.drop (i + 1)) = J) := hj
        have hpd : decide (p ≥ 0) = false := decide_eq_false fun h => hit (hge.1 h)
        clear hj hlt2 hls hit hge hconv hD
        go_wp2_with fail
        refine (HPr.out _).mono ?_
        rintro e w2 ⟨rfl, hb2⟩
        have HB2 := Lib.hid ((HB.out.alloc hsz (.cells #[.int .i64 mk, .string L, .string B] 88)).trans (hb2.mono (by simp; omega)))
        clear hb2
        go_wp2_with fail
        go_roundg (13 - (i + 1))
        case measure => omega
        case rel => exact ⟨i + 1, by go_num, by omega, by omega, ⟨HB2.out⟩, HJ2⟩
    · have hltz : ¬ (i : Int) < 13 := by omega
      obtain rfl : i = 13 := by omega
      have HJ2 : Hid ([c] = J) := HJ.out
      clear HJ
      have hs := HB.out.size
      go_wp2_with fail
      go_ret
      refine ⟨_, rfl, ?_, HB.out.alloc hs _⟩
      rw [← HJ2.out]
      exact R_lits wr _ _ [c] rfl hs (by simp)
set_option maxHeartbeats 4000000 in
set_option maxRecDepth 100000 in
theorem split_walk (c : Int) (hc0 : 0 ≤ c) (hc1 : c ≤ 65374) (hc2 : c ≠ 65533) (w : World) : Calls Tryd.prog 85 #[.int .i64 c] w (SplitGoal w (splitS c)) := by
  have fin : ∀ (xs : List Int) (hx : xs.length ≤ 1000) (v : Value), v = .slice (some ⟨w.heap.size, 0, none⟩) xs.length xs.length → SplitGoal w xs (.returned v) (w.alloc (.cells (xs.map (Value.int .i64)).toArray 3)) := fun xs hx v hv => ⟨v, rfl, by rw [hv]; exact R_lits w _ _ xs rfl (Nat.le_refl _) hx, (Below.refl _ _).alloc (Nat.le_refl _) _⟩
  have FIN := Lib.hid fin
  clear fin
  have hf := fun (a : Int) (h : c ≠ a) => (show (c == a) = false by rw [beq_eq_false_iff_ne]; exact h)
  have ht := fun (a : Int) (h : c = a) => (show (c == a) = true by rw [beq_iff_eq]; exact h)
  unfold splitS
  by_cases h1 : c = 160
  · rw [if_pos h1]
    subst h1
    clear hf ht hc0 hc1 hc2
    go_enter Tryd.func85, Tryd.ntmps85
    go_wp2
    go_ret
    exact FIN.out [32] (by simp) _ rfl
  rw [if_neg h1]
  have e1 := hf _ h1
  by_cases h2 : c = 185
  · rw [if_pos h2]
    subst h2
    clear hf ht hc0 hc1 hc2 e1 h1
    go_enter Tryd.func85, Tryd.ntmps85
    go_wp2
    go_ret
    exact FIN.out [49] (by simp) _ rfl
  rw [if_neg h2]
  have e2 := hf _ h2
  by_cases h3 : c = 178
  · rw [if_pos (.inl h3)]
    subst h3
    clear hf ht hc0 hc1 hc2 e1 h1 e2 h2
    go_enter Tryd.func85, Tryd.ntmps85
    go_wp2
    go_ret
    exact FIN.out [50] (by simp) _ rfl
  by_cases h4 : c = 179
  · rw [if_pos (.inr h4)]
    subst h4
    clear hf ht hc0 hc1 hc2 e1 h1 e2 h2 h3
    go_enter Tryd.func85, Tryd.ntmps85
    go_wp2
    go_ret
    exact FIN.out [51] (by simp) _ rfl
  rw [if_neg (by rintro (h | h); exact h3 h; exact h4 h)]
  have e3 := hf _ h3
  have e4 := hf _ h4
  by_cases h5 : c = 383
  · rw [if_pos h5]
    subst h5
    clear hf ht hc0 hc1 hc2 e1 h1 e2 h2 e3 h3 e4 h4
    go_enter Tryd.func85, Tryd.ntmps85
    go_wp2
    go_ret
    exact FIN.out [115] (by simp) _ rfl
  rw [if_neg h5]
  have e5 := hf _ h5
  by_cases h6 : c = 64257
  · rw [if_pos h6]
    subst h6
    clear hf ht hc0 hc1 hc2 e1 h1 e2 h2 e3 h3 e4 h4 e5 h5
    go_enter Tryd.func85, Tryd.ntmps85
    go_wp2
    go_ret
    exact FIN.out [102, 105] (by simp) _ rfl
  rw [if_neg h6]
  have e6 := hf _ h6
  by_cases h7 : c = 64258
  · rw [if_pos h7]
    subst h7
    clear hf ht hc0 hc1 hc2 e1 h1 e2 h2 e3 h3 e4 h4 e5 h5 e6 h6
    go_enter Tryd.func85, Tryd.ntmps85
    go_wp2
    go_ret
    exact FIN.out [102, 108] (by simp) _ rfl
  rw [if_neg h7]
  have e7 := hf _ h7
  by_cases h8 : 65281 ≤ c
  · rw [if_pos h8]
    have g1 : decide (c ≥ 65281) = true := decide_eq_true h8
    clear hf ht h1 h2 h3 h4 h5 h6 h7 hc2
    go_enter Tryd.func85, Tryd.ntmps85
    go_wp2
    go_ret
    exact FIN.out [c - 65248] (by simp) _ rfl
  rw [if_neg h8]
  have g1 : decide (c ≥ 65281) = false := decide_eq_false (by omega)
  by_cases h9 : c < 128
  · rw [if_pos h9]
    have g2 : decide (c < 128) = true := decide_eq_true h9
    clear hf ht h1 h2 h3 h4 h5 h6 h7 h8 hc2
    go_enter Tryd.func85, Tryd.ntmps85
    go_wp2
    go_ret
    exact FIN.out [c] (by simp) _ rfl
  rw [if_neg h9]
  exact split_rows c (by omega) (by omega) hc2 e1 e2 e3 e4 e5 e6 e7 w
end Go.Proofs.YthcpdhniakpbaaaDoor.X
end

section
namespace Go.Proofs.YthcpdhniakpbaaaDoor.X
open Go.RowKit
set_option linter.unusedVariables false
set_option linter.unusedSimpArgs false
theorem size72 : (Tryd.prog.info? 72).map (·.size) = some 2 := by kernel_rfl
theorem lies72 : liesAt Tryd.prog Tryd.prog.depth 72 (2 / Tryd.prog.cellsOf 72) 0 72 1 = true := by kernel_rfl
theorem infoByte : (Tryd.prog.info? 5).map (fun i => (i.zero, i.size, i.bytes)) = some (some (.int .u8 0), 1, 1) := by kernel_rfl
set_option maxHeartbeats 1000000 in
set_option maxRecDepth 100000 in
theorem copyCheck_used (b : Nat) (w : World) (h0 : w.cell? ⟨b, 0, none⟩ = some (.pointer (some ⟨b, 0, none⟩))) :
    Calls Tryd.prog 97 #[.pointer (some ⟨b, 0, none⟩)] w fun e w' => e = .returned (.tuple #[]) ∧ w = w' := by
  obtain ⟨j, hj, _⟩ := Option.map_eq_some_iff.1 size72
  go_enter Tryd.func97, Tryd.ntmps97
  go_wp2
  rw [Lib.run_neq_ptr_same w _ Tryd.underlying70 hj]
  go_wp2
  go_end0
  exact ⟨rfl, rfl⟩
set_option maxHeartbeats 1000000 in
set_option maxRecDepth 100000 in
theorem copyCheck_fresh (b : Nat) (w : World) (h0 : w.cell? ⟨b, 0, none⟩ = some (.pointer none)) (hsh : w.shape? b = some (72, 2)) (hfz : w.frozen? ⟨b, 0, none⟩ = false) :
    Calls Tryd.prog 97 #[.pointer (some ⟨b, 0, none⟩)] w fun e w' => e = .returned (.tuple #[]) ∧ w.setCell ⟨b, 0, none⟩ (.pointer (some ⟨b, 0, none⟩)) = w' := by
  obtain ⟨j, hj, hjs⟩ := Option.map_eq_some_iff.1 size72
  go_enter Tryd.func97, Tryd.ntmps97
  go_wp2
  rw [Lib.run_to_unsafe w ⟨b, 0, none⟩ Tryd.underlying70 Tryd.underlying108 hj (by rw [hjs]; decide) hsh (Nat.zero_lt_succ 1)]
  simp only [Result.andThen]
  rw [Oper.upon_value]
  go_wp2
  rw [run_callFunc_extern Tryd.func108 (by kernel_rfl) (by kernel_rfl) (by kernel_rfl) (e := Extern.AbiNoEscape.same) (by kernel_rfl)]
  rw [Lib.run_noEscape]
  simp only [Result.andThen]
  rw [Oper.upon_value]
  go_wp2
  rw [Lib.run_from_unsafe w ⟨b, 0, none⟩ Tryd.underlying108 Tryd.underlying70 hj hsh lies72]
  simp only [Result.andThen]
  rw [Oper.upon_value]
  go_wp2
  go_end0
  exact ⟨rfl, rfl⟩
theorem copyCheck (B b : Nat) (bs : List Value) (w : World) (h : Lib.IsBuilderF 72 5 B b bs w) :
    Calls Tryd.prog 97 #[.pointer (some ⟨b, 0, none⟩)] w fun e w' => e = .returned (.tuple #[]) ∧ (Lib.BuilderAtF 72 5 B b (.pointer (some ⟨b, 0, none⟩)) bs w' ∧ Below B w w' ∧ Lib.OthersKept 5 (some b) w w') := by
  rcases h with h | h
  · refine (copyCheck_fresh b w h.cell0 h.shape h.frozen0).mono ?_
    rintro e w' ⟨rfl, rfl⟩
    exact ⟨rfl, h.used _, (Below.refl B w).setCell (p := ⟨b, 0, none⟩) h.1 _, (Lib.OthersKept.refl _ _ w).setCell ⟨b, 0, none⟩ rfl _⟩
  · refine (copyCheck_used b w h.cell0).mono ?_
    rintro e w' ⟨rfl, rfl⟩
    exact ⟨rfl, h, Below.refl B _, Lib.OthersKept.refl _ _ _⟩
set_option maxHeartbeats 4000000 in
set_option maxRecDepth 100000 in
theorem writeRune (B b : Nat) (bs : List Value) (r : Int) (hr0 : -2147483648 ≤ r) (hr1 : r ≤ 2147483647) (w : World) (h : Lib.IsBuilderF 72 5 B b bs w) (hlen : bs.length + 4 ≤ 140737488355328) (hBw : B ≤ w.heap.size) :
    Calls Tryd.prog 101 #[.pointer (some ⟨b, 0, none⟩), .int .i32 r] w fun e w' => e = .returned (.tuple #[.int .i64 (Lib.runeCells r).length, .nilIface]) ∧ (Lib.BuilderAtF 72 5 B b (.pointer (some ⟨b, 0, none⟩)) (bs ++ Lib.runeCells r) w' ∧ Below B w w' ∧ Lib.OthersKept 5 (some b) w w') := by
  have hk4 := Lib.runeCells_le r
  go_enter Tryd.func101, Tryd.ntmps101
  go_wp2_with (go_at_call 97; refine (copyCheck B b bs _ h).mono ?_)
  rintro e w1 ⟨rfl, h1, hb1, hk1⟩
  obtain ⟨hB, v, hbk, hown, hne⟩ := h1
  obtain ⟨ao, cap, rfl⟩ : ∃ ao cap, v = .slice ao bs.length cap := by
    rcases hown.2 with ⟨hv, h0⟩ | ⟨g, cap, cur, fz, hv, _⟩
    · exact ⟨none, 0, by rw [hv, h0]⟩
    · exact ⟨_, _, hv⟩
  have c0 : w1.cell? ⟨b, 0, none⟩ = some (.pointer (some ⟨b, 0, none⟩)) := by rw [Lib.cell_of_heap hbk]; rfl
  have c1 : w1.cell? ⟨b, 1, none⟩ = some (.slice ao bs.length cap) := by rw [Lib.cell_of_heap hbk]; rfl
  go_wp2_with (go_at_call 112; refine (Tryd.utf8_AppendRune_row B _ bs.length bs r hr0 hr1 _ hown hlen (by have := hb1.size; omega)).mono ?_)
  rintro e w2 ⟨v', rfl, hown', o, hgrow⟩
  have hlt : b < w1.heap.size := by
    rcases Nat.lt_or_ge b w1.heap.size with h' | h'
    · exact h'
    · simp [Array.getElem?_eq_none h'] at hbk
  have hb2 : w2.heap[b]? = some (.cells #[.pointer (some ⟨b, 0, none⟩), .slice ao bs.length cap] 72 (0, 0)) := by
    rw [hgrow.block b (by simp; omega) (fun e => hne e.symm), Lib.alloc_old w1 _ b hlt]
    exact hbk
  have d0 : w2.cell? ⟨b, 0, none⟩ = some (.pointer (some ⟨b, 0, none⟩)) := by rw [Lib.cell_of_heap hb2]; rfl
  have d1 : w2.cell? ⟨b, 1, none⟩ = some (.slice ao bs.length cap) := by rw [Lib.cell_of_heap hb2]; rfl
  have f1 : w2.frozen? ⟨b, 1, none⟩ = false := Lib.frozen_of_heap hb2 1
  obtain ⟨g, cap', rfl⟩ : ∃ g cap', v' = .slice (some ⟨g, 0, none⟩) (bs.length + (Lib.runeCells r).length) cap' := by
    rcases hown'.2 with ⟨_, h0⟩ | ⟨g, cap', cur, fz, hv, _⟩
    · omega
    · exact ⟨g, cap', hv⟩
  go_wp2
  go_ret2
  refine ⟨?_, ?_, ?_, ((hk1.alloc _).grown hgrow (Lib.ownsRowF_kind (hown.alloc _))).setCell ⟨b, 1, none⟩ rfl _⟩
  · have e : ((bs.length : Int) + ((Lib.runeCells r).length : Int) - (bs.length : Int)) = ((Lib.runeCells r).length : Int) := by omega
    simp [e]
  · exact Lib.BuilderAtF.put (T := 72) (e := 5) hB hb2 (bs' := bs ++ Lib.runeCells r) (by simpa using hown') (by decide)
  · exact ((hb1.alloc (by have := hb1.size; omega) _).grown hgrow (by have := hb1.size; simp; omega) (fun k hk => (hown.lt k hk).1)).setCell (p := ⟨b, 1, none⟩) hB _
end Go.Proofs.YthcpdhniakpbaaaDoor.X
end

section
namespace Go.Proofs.YthcpdhniakpbaaaDoor.X
open Go.RowKit Go.Maps Go.WideMaps Go.Proofs.YthcpdhniakpbaaaDoorW.PrintWords Go.Proofs.YthcpdhniakpbaaaDoorW.PrintLast Go.Proofs.YthcpdhniakpbaaaDoorW.PrintMore
set_option linter.unusedVariables false
set_option linter.unusedSimpArgs false
def Small (l : List S41) : Prop := ∀ r ∈ l, r.f0.size ≤ 1048576 ∧ r.f1.size ≤ 1048576
instance (l : List S41) : Decidable (Small l) := by unfold Small; infer_instance
end Go.Proofs.YthcpdhniakpbaaaDoor.X
end

section
namespace Go.Proofs.YthcpdhniakpbaaaDoor.X
open Go.RowKit Go.Proofs.YthcpdhniakpbaaaDoorW.PrintWords Go.Proofs.YthcpdhniakpbaaaDoorW.PrintLast Go.Proofs.YthcpdhniakpbaaaDoorW.PrintMore
set_option linter.unusedVariables false
set_option linter.unusedSimpArgs false
theorem builder_drewN {w : World} {B b : Nat} {bs : List Value} (h : Lib.IsBuilderF 72 5 B b bs w) (n : Nat) : Lib.IsBuilderF 72 5 B b bs (w.drewN n) := h
theorem cell_alloc_old (w : World) (o : Obj) (a : Addr) (h : a.block < w.heap.size) : (w.alloc o).cell? a = w.cell? a := by
  exact World.cell?_alloc_old w o a (by omega)
def WriteOk (t : List S41) (s : ByteArray) : Prop := s.size ≤ 1048576 ∧ Small t ∧ t.length ≤ 1048576
instance (t : List S41) (s : ByteArray) : Decidable (WriteOk t s) := by unfold WriteOk; infer_instance
end Go.Proofs.YthcpdhniakpbaaaDoor.X
end

section
namespace Go.Proofs.YthcpdhniakpbaaaDoor.X
set_option linter.unusedVariables false
set_option linter.unusedSimpArgs false
open Go.RowKit Go.Proofs.YthcpdhniakpbaaaDoorW.PrintWords
def Ans (o : Option Bool) (P : Prop) : Prop := ∃ b, o = some b ∧ (b = true ↔ P)
theorem Ans.congr {o : Option Bool} {P Q : Prop} (h : Ans o P) (e : P ↔ Q) : Ans o Q := ⟨h.choose, h.choose_spec.1, h.choose_spec.2.trans e⟩
theorem Ans.of {o : Option Bool} {P : Prop} [Decidable P] (h : Ans o P) : o = some (decide P) := by
  obtain ⟨b, rfl, hb⟩ := h
  congr 1
  cases b with
  | true => rw [decide_eq_true (hb.1 rfl)]
  | false => rw [decide_eq_false (fun h => by have := hb.2 h; cases this)]
theorem size_arr (a : List UInt8) : (⟨a.toArray⟩ : ByteArray).size = a.length := by simp [ByteArray.size]
theorem encL_len (l : List Int) : (encL l).length ≤ 3 * l.length := by
  induction l with
  | nil => simp [encL_nil]
  | cons c l ih => have := (encC_length c).2; simp [encL_cons]; omega
theorem encL_ge (l : List Int) : l.length ≤ (encL l).length := by
  induction l with
  | nil => simp [encL_nil]
  | cons c l ih => have := (encC_length c).1; simp [encL_cons]; omega
end Go.Proofs.YthcpdhniakpbaaaDoor.X
end

section
namespace Go.Proofs.YthcpdhniakpbaaaDoor.X
open Go.RowKit Go.Proofs.YthcpdhniakpbaaaDoorW.PrintWords Go.Proofs.YthcpdhniakpbaaaDoorW.PrintLast Go.Proofs.YthcpdhniakpbaaaDoorW.PrintMore
set_option linter.unusedVariables false
set_option linter.unusedSimpArgs false
theorem has_any (c : Int) (h : hasS c = true) (w : World) : Calls Tryd.prog 95 #[.int .i64 c] w fun e w' => e = .returned (.bool true) ∧ Drawn0 w w' := by
  have hne : c ≠ 65533 := fun e => by rw [e, hasS_65533] at h; exact absurd h (by decide)
  exact repertoire_Has.calls 7 c true w (by rw [has_eq hne, h])
theorem rune_bytes {c : Int} (h : hasS c = true) : Lib.runeCells c = Lib.byteCells (encC c) := by
  have hr := hasS_range h
  have he : Lib.encodeRune c = encC c := by
    unfold Lib.encodeRune
    by_cases h1 : c < 128
    · rw [Lib.encodeRuneZ_one (by omega) (by omega), encC_one h1]; rfl
    · by_cases h2 : c < 2048
      · rw [Lib.encodeRuneZ_two (by omega) (by omega), encC_two (by omega) h2]; rfl
      · rw [Lib.encodeRuneZ_three (by omega), encC_three (by omega)]; rfl
  rw [← he, Lib.byteCells_encodeRune]
def EncOk (l : List Int) : Prop := l.length ≤ 1048576 ∧ ∀ c ∈ l, hasS c = true
instance (l : List Int) : Decidable (EncOk l) := by unfold EncOk; infer_instance
set_option maxHeartbeats 4000000 in
set_option maxRecDepth 100000 in
theorem encode_walk (A0 : Option Addr) (c0 : Nat) (l0 : List Int) (w : World) (hr0 : Kd.C (Kd.int .i64) w A0 l0.length l0) (hl : l0.length ≤ 1048576) (hh : ∀ c ∈ l0, hasS c = true) :
    Calls Tryd.prog 88 #[.slice A0 l0.length c0] w fun e w' => e = .returned (.tuple #[.string ⟨(encL l0).toArray⟩, .bool true]) ∧ Below w.heap.size w w' := by
  have HR0 := Aside0.mk hr0
  have HH := Aside0.mk hh
  clear hr0 hh
  go_enter Tryd.func88, Tryd.ntmps88
  go_wp2
  go_loopw [9] (fun v9 wr => ∃ i : Nat, v9 = .int .i64 (i : Int) ∧ i ≤ l0.length ∧ Aside0 (Lib.IsBuilderF 72 5 w.heap.size w.heap.size (Lib.byteCells (encL (l0.take i))) wr) ∧ Aside0 (Below w.heap.size w wr))
    (fun v9 _ => l0.length - (intOf v9).toNat)
  case atStart => exact ⟨0, rfl, Nat.zero_le _, ⟨Lib.IsBuilderF.of (Lib.fresh_isBuilder 72 5 w)⟩, ⟨(Below.refl _ _).alloc (Nat.le_refl _) _⟩⟩
  case round =>
    obtain ⟨i, rfl, hi, HBu, HB⟩ := hrel
    by_cases hlt : i < l0.length
    · obtain ⟨ad, rfl, hx⟩ := Kd.at_int HR0.out (i : Int) (by omega) (by omega)
      simp only [Int.toNat_natCast] at hx
      replace hx := (HB.out.cell (World.block_lt_of_cell? w _ hx)).trans hx
      have hrd : rd l0 (i : Int) = l0[i] := by unfold rd; simp [hlt]
      have hc := HH.out _ (List.getElem_mem hlt)
      have hstep : encL (l0.take (i + 1)) = encL (l0.take i) ++ encC l0[i] := by rw [List.take_succ_eq_append_getElem hlt, encL_append, encL_cons, encL_nil, List.append_nil]
      have hlen := encL_len (l0.take (i + 1))
      have hlen1 : (encL (l0.take i)).length ≤ 3 * 1048576 := by have := encL_len (l0.take i); simp at this; omega
      rw [hrd] at hx
      generalize l0[i] = c at hx hc hstep
      have hrg := hasS_range hc
      have HST : RowKit.Hid (Lib.byteCells (encL (l0.take (i + 1))) = Lib.byteCells (encL (l0.take i)) ++ Lib.runeCells c) := by
        show _ = _
        rw [hstep, rune_bytes hc]
        simp [Lib.byteCells]
      have HC := Lib.hid (fun W => has_any c hc W)
      have hbl : (Lib.byteCells (encL (l0.take i))).length = (encL (l0.take i)).length := by simp [Lib.byteCells]
      have hc1 : -2147483648 ≤ c := by omega
      have hc2 : c ≤ 2147483647 := by omega
      have hsz := HB.out.size
      have HW : RowKit.Hid (∀ q, ∀ w', w' = wr.drewN q → Calls Tryd.prog 101 #[.pointer (some ⟨w.heap.size, 0, none⟩), .int .i32 c] w' fun e w'' => e = .returned (.tuple #[.int .i64 (Lib.runeCells c).length, .nilIface]) ∧ (Lib.BuilderAtF 72 5 w.heap.size w.heap.size (.pointer (some ⟨w.heap.size, 0, none⟩)) (Lib.byteCells (encL (l0.take i)) ++ Lib.runeCells c) w'' ∧ Below w.heap.size w' w'' ∧ Lib.OthersKept 5 (some w.heap.size) w' w'')) :=
        fun q w' hw => by rw [hw]; exact writeRune w.heap.size w.heap.size _ c hc1 hc2 _ (builder_drewN HBu.out q) (by omega) hsz
      clear hrd hc hstep hlen hlen1 hbl hrg
      go_wp2_with (first | (go_at_call 95; refine (HC.out _).mono ?_; rintro e w' ⟨rfl, ⟨nd, rfl⟩⟩))
      refine (HW.out nd _ rfl).mono ?_
      rintro e w' ⟨rfl, hbu, hbb, hkk⟩
      go_wp2
      go_roundw
      case rel => exact ⟨i + 1, by go_num, by omega, ⟨by rw [HST.out]; exact .inr hbu⟩, ⟨(pw_below_drewN HB.out nd).trans hbb⟩⟩
      case measure => simp [intOf]; omega
    · obtain rfl : i = l0.length := by omega
      have hbu := HBu.out
      rw [List.take_length] at hbu
      go_wp2_with fail
      refine (Tryd.Builder_String_any_k _ _ _ _ hbu HB.out.size).mono ?_
      rintro e w6 ⟨rfl, _, hb6, _⟩
      have HB6 := Lib.hid (HB.out.trans hb6)
      clear hb6 hbu
      go_wp2
      go_ret2
      exact ⟨rfl, HB6.out⟩
def repertoire_Encode.f (l0 : List Int) : Option (ByteArray × Bool) := if EncOk l0 then some (⟨(encL l0).toArray⟩, true) else none
theorem repertoire_Encode.calls (A0 : Option Addr) (c0 : Nat) (l0 : List Int) (r1 : ByteArray) (r2 : Bool) (w : World) (hr0 : Kd.C (Kd.int .i64) w A0 l0.length l0) (hc0 : l0.length ≤ c0) (h : repertoire_Encode.f l0 = some (r1, r2)) :
    Calls Tryd.prog 88 #[.slice A0 l0.length c0] w fun e w' => e = .returned (.tuple #[.string r1, .bool r2]) ∧ Below w.heap.size w w' := by
  unfold repertoire_Encode.f at h
  split at h
  · rename_i ho
    obtain ⟨rfl, rfl⟩ := Prod.mk.inj (Option.some.inj h)
    exact encode_walk A0 c0 l0 w hr0 ho.1 ho.2
  · exact absurd h (by simp)
end Go.Proofs.YthcpdhniakpbaaaDoor.X
end

section
namespace Go.Proofs.YthcpdhniakpbaaaDoor.X
open Go.RowKit Go.Sort Go.Proofs.YthcpdhniakpbaaaDoorW.PrintWords Go.Proofs.YthcpdhniakpbaaaDoorW.PrintLast Go.Proofs.YthcpdhniakpbaaaDoorW.PrintMore
set_option linter.unusedVariables false
set_option linter.unusedSimpArgs false
def isMk (c : Int) : Bool := (classS c).2 == 2
def runF : Nat → List Int → List Int
  | 0, l => l
  | f + 1, l => sortS (l.takeWhile isMk) ++ (match l.dropWhile isMk with | [] => [] | c :: r => c :: runF f r)
def runS (l : List Int) : List Int := runF l.length l
def decD (cs : List Int) : List Int := runS (cs.flatMap splitS)
theorem has_ascii : (List.range 94).all (fun n => hasS (33 + n)) = true := by decide +kernel
theorem has_rows : nrows.all (fun r => r.b.all hasS && r.l.all hasS && hasS r.mark) = true := by decide +kernel
theorem row_has {r : NRow} (h : r ∈ nrows) : (∀ x ∈ r.b, hasS x = true) ∧ (∀ x ∈ r.l, hasS x = true) ∧ hasS r.mark = true := by
  have := List.all_eq_true.1 has_rows r h
  simpa [and_assoc] using this
theorem at0_mem {xs : List Int} {p : Int} (h0 : 0 ≤ p) (h1 : p < xs.length) : at0 xs p ∈ xs := by
  obtain ⟨hj, e⟩ := at0_get h0 h1
  rw [← e]
  exact List.getElem_mem hj
theorem splitR_has {c : Int} (h : hasS c = true) : ∀ rs : List NRow, (∀ r ∈ rs, r ∈ nrows) → ∀ x ∈ splitR c rs, hasS x = true
  | [], _, x, hx => by
    rw [splitR] at hx
    obtain rfl := List.mem_singleton.1 hx
    exact h
  | r :: rs, hr, x, hx => by
    rw [splitR] at hx
    split at hx
    · rename_i hm
      have hrn := hr r (by simp)
      have hl := (row_str hrn).2.2
      rcases List.mem_cons.1 hx with rfl | hx
      · exact (row_has hrn).1 _ (at0_mem (plc_ge.2 hm) (by have := plc_lt hm; omega))
      · obtain rfl := List.mem_singleton.1 hx
        exact (row_has hrn).2.2
    · exact splitR_has h rs (fun r' h' => hr r' (by simp [h'])) x hx
theorem split_has {c : Int} (h : hasS c = true) : ∀ x ∈ splitS c, hasS x = true := by
  intro x hx
  have hr := hasS_range h
  unfold splitS at hx
  split at hx
  · obtain rfl := List.mem_singleton.1 hx; decide +kernel
  split at hx
  · obtain rfl := List.mem_singleton.1 hx; decide +kernel
  split at hx
  · rename_i hc
    obtain rfl := List.mem_singleton.1 hx
    rcases hc with rfl | rfl <;> decide +kernel
  split at hx
  · obtain rfl := List.mem_singleton.1 hx; decide +kernel
  split at hx
  · rcases List.mem_cons.1 hx with rfl | hx
    · decide +kernel
    · obtain rfl := List.mem_singleton.1 hx; decide +kernel
  split at hx
  · rcases List.mem_cons.1 hx with rfl | hx
    · decide +kernel
    · obtain rfl := List.mem_singleton.1 hx; decide +kernel
  split at hx
  · obtain rfl := List.mem_singleton.1 hx
    have := List.all_eq_true.1 has_ascii (c - 65281).toNat (List.mem_range.2 (by omega))
    rw [show (33 : Int) + ((c - 65281).toNat : Int) = c - 65248 by omega] at this
    exact this
  split at hx
  · obtain rfl := List.mem_singleton.1 hx
    exact h
  · exact splitR_has h nrows (fun _ hr => hr) x hx
theorem splitR_len (c : Int) : ∀ rs, (splitR c rs).length ≤ 2
  | [] => by simp [splitR]
  | r :: rs => by
    rw [splitR]
    split
    · simp
    · exact splitR_len c rs
theorem split_len (c : Int) : (splitS c).length ≤ 2 := by
  unfold splitS
  repeat' split
  all_goals first | simp | exact splitR_len _ _
theorem flat_len (cs : List Int) : (cs.flatMap splitS).length ≤ 2 * cs.length := by
  induction cs with
  | nil => simp
  | cons c cs ih => rw [List.flatMap_cons, List.length_append, List.length_cons]; have := split_len c; omega
theorem flat_has {cs : List Int} (h : ∀ c ∈ cs, hasS c = true) : ∀ x ∈ cs.flatMap splitS, hasS x = true := by
  intro x hx
  obtain ⟨c, hc, hx⟩ := List.mem_flatMap.1 hx
  exact split_has (h c hc) x hx
theorem R_sorted {w0 w' : World} {g i base n cap : Nat} {ok : Nat → Prop} {cur : List Int} {d' : Array Int} (h : (Kd.int .i64).R 3 w0 base ok (.slice (some ⟨g, 0, none⟩) n cap) cur) (hs : SWI w0 g i d' w') (hsz : i + d'.size ≤ cur.length) (hg : g < w0.heap.size) :
    (Kd.int .i64).R 3 w' base ok (.slice (some ⟨g, 0, none⟩) n cap) (cur.take i ++ d'.toList ++ cur.drop (i + d'.size)) ∧ w0.grownBy w' (some g) := by
  obtain ⟨m, os, rfl⟩ := hs
  have hn : n = cur.length := (Kd.R_reads' h).1
  have hlen : (cur.take i ++ d'.toList ++ cur.drop (i + d'.size)).length = cur.length := by simp; omega
  have hheap : ∀ k, k < w0.heap.size → (sortWorld encI w0 g i m d' os).heap[k]? = (w0.heap.modify g (onCells (putCells encI i d')))[k]? := by
    intro k hk
    unfold sortWorld grow putRow mapBlock Sort.ahead
    simp only
    rw [Array.getElem?_append_left (by simpa using hk)]
  have hsize : w0.heap.size ≤ (sortWorld encI w0 g i m d' os).heap.size := by
    unfold sortWorld
    rw [size_grow, size_putRow]
    show w0.heap.size ≤ w0.heap.size + _
    omega
  refine ⟨?_, rfl, rfl, rfl, hsize, fun k hk hne => ?_⟩
  · have hok := h.1
    have hown := Kd.own_of_R h
    refine Kd.R_of_own ?_ hok
    obtain ⟨h1, h2⟩ := hown
    refine ⟨by simp [encs], .inr ?_⟩
    rcases h2 with ⟨hv, _⟩ | ⟨g', cap', cur', hv, hb, hh, hc1, hc2, hc3, hc4⟩
    · cases hv
    · injection hv with ha hnn hcc
      injection ha with ha
      injection ha with hg'
      subst hg' hcc
      refine ⟨g, cap, putCells encI i d' cur', by rw [hlen, hn], hb, ?_, by rw [hlen]; omega, hc2, by simp [putCells]; omega, ?_⟩
      · rw [hheap g hg, Array.getElem?_modify, if_pos rfl, hh]
        rfl
      · apply List.ext_getElem?
        intro j
        rw [List.getElem?_take]
        have hcur : ∀ j, j < cur.length → cur'[j]? = some (encI cur[j]!) := by
          intro j hj
          have : (cur'.toList.take (cur.length * 1))[j]? = (encs (Value.int .i64) cur)[j]? := by rw [hc4]
          rw [List.getElem?_take, if_pos (by omega)] at this
          rw [Array.getElem?_toList] at this
          rw [this]
          simp [encs, hj]
        rw [hlen]
        by_cases hj : j < cur.length
        · rw [if_pos (by omega), Array.getElem?_toList]
          simp only [putCells, Array.getElem?_mapIdx, hcur j hj, Option.map_some]
          simp only [encs, List.getElem?_map]
          by_cases c1 : j < i
          · rw [if_neg (by omega), List.append_assoc, List.getElem?_append_left (by simp; omega), List.getElem?_take, if_pos c1]
            simp [hj]
          · by_cases c2 : j < i + d'.size
            · rw [if_pos ⟨by omega, c2⟩, List.append_assoc, List.getElem?_append_right (by simp; omega), List.getElem?_append_left (by simp; omega)]
              have e : j - (cur.take i).length = j - i := by simp; omega
              rw [e, Array.getElem?_toList]
              have : j - i < d'.size := by omega
              simp [this]
            · rw [if_neg (by omega), List.getElem?_append_right (by simp; omega), List.getElem?_drop]
              have e : i + d'.size + (j - (cur.take i ++ d'.toList).length) = j := by simp; omega
              rw [e]
              simp [hj]
        · rw [if_neg (by omega)]
          symm
          rw [List.getElem?_eq_none_iff]
          simp [encs]
          omega
  · rw [hheap k hk, Array.getElem?_modify, if_neg (fun e => hne (by rw [e]))]
end Go.Proofs.YthcpdhniakpbaaaDoor.X
end

section
namespace Go.Proofs.YthcpdhniakpbaaaDoor.X
open Go.RowKit Go.Sort Go.Proofs.YthcpdhniakpbaaaDoorW.PrintWords Go.Proofs.YthcpdhniakpbaaaDoorW.PrintLast Go.Proofs.YthcpdhniakpbaaaDoorW.PrintMore
set_option linter.unusedVariables false
set_option linter.unusedSimpArgs false
theorem mark_any (c : Int) (h : hasS c = true) (W : World) : Calls Tryd.prog 67 #[.int .i64 c] W fun e w' => e = .returned (.bool (isMk c)) ∧ Drawn0 W w' := by
  have hne : c ≠ 65533 := fun e => by rw [e, hasS_65533] at h; exact absurd h (by decide)
  exact normal_mark.calls 7 c _ W (isMark_eq hne 0)
theorem split_any (c : Int) (h : hasS c = true) (W : World) : Calls Tryd.prog 85 #[.int .i64 c] W (SplitGoal W (splitS c)) := by
  have hne : c ≠ 65533 := fun e => by rw [e, hasS_65533] at h; exact absurd h (by decide)
  have hr := hasS_range h
  exact split_walk c (by omega) (by omega) hne W
def RunInv (T : List Int) (i : Nat) (cur : List Int) : Prop := (∃ A B f, cur = A ++ B ∧ A.length = i ∧ B.length ≤ f ∧ A ++ runF f B = T) ∨ (cur.length < i ∧ cur = T)
theorem runF_nil : ∀ f, runF f [] = []
  | 0 => rfl
  | f + 1 => rfl
theorem RunInv.stop {T cur : List Int} {i : Nat} (h : RunInv T i cur) (hi : cur.length ≤ i) : cur = T := by
  rcases h with ⟨A, B, f, rfl, h1, h2, h3⟩ | h
  · have : B = [] := by rw [List.length_append] at hi; exact List.length_eq_zero_iff.1 (by omega)
    subst this
    rw [← h3, runF_nil]
  · exact h.2
theorem RunInv.step {T cur : List Int} {i k : Nat} (h : RunInv T i cur) (hi : i < cur.length) (hik : i ≤ k) (hk : k ≤ cur.length) (hm : ∀ j (hj : j < cur.length), i ≤ j → j < k → isMk cur[j] = true) (he : ∀ hj : k < cur.length, isMk cur[k] = false) :
    RunInv T (k + 1) (cur.take i ++ sortS ((cur.drop i).take (k - i)) ++ cur.drop k) := by
  rcases h with ⟨A, B, f, rfl, rfl, h2, h3⟩ | h
  · have hA : (A ++ B).take A.length = A := by simp
    have hB : (A ++ B).drop A.length = B := by simp
    have hD : (A ++ B).drop k = B.drop (k - A.length) := by rw [List.drop_append]; simp [List.drop_of_length_le hik]
    rw [hA, hB, hD]
    rw [List.length_append] at hi hk
    obtain ⟨f, rfl⟩ : ∃ g, f = g + 1 := ⟨f - 1, by omega⟩
    have hB1 : ∀ j (hj : j < B.length), j < k - A.length → isMk B[j] = true := fun j hj hjk => by
      have := hm (A.length + j) (by rw [List.length_append]; omega) (by omega) (by omega)
      rw [List.getElem_append_right (by omega)] at this
      simpa using this
    have htw : B.takeWhile isMk = B.take (k - A.length) ∧ B.dropWhile isMk = B.drop (k - A.length) := by
      have e1 : ∀ x ∈ B.take (k - A.length), isMk x = true := by
        intro x hx
        obtain ⟨j, hj, rfl⟩ := List.mem_iff_getElem.1 hx
        rw [List.getElem_take]
        have hj' : j < k - A.length ∧ j < B.length := by have := hj; simp at this; omega
        exact hB1 j hj'.2 hj'.1
      have hsp : B = B.take (k - A.length) ++ B.drop (k - A.length) := (List.take_append_drop _ _).symm
      rcases Nat.lt_or_ge (k - A.length) B.length with hlt | hge
      · have hx := he (by rw [List.length_append]; omega)
        rw [List.getElem_append_right (by omega)] at hx
        have hd := List.drop_eq_getElem_cons hlt
        constructor
        · conv => lhs; rw [hsp, List.takeWhile_append_of_pos e1, hd, List.takeWhile_cons, if_neg (by rw [hx]; decide), List.append_nil]
        · conv => lhs; rw [hsp, List.dropWhile_append_of_pos e1, hd, List.dropWhile_cons, if_neg (by rw [hx]; decide)]
          rw [hd]
      · have hd : B.drop (k - A.length) = [] := List.drop_of_length_le hge
        have ht : B.take (k - A.length) = B := List.take_of_length_le hge
        rw [ht] at e1
        rw [hd, ht]
        exact ⟨by have := List.takeWhile_append_of_pos (l₂ := []) e1; simpa using this, by have := List.dropWhile_append_of_pos (l₂ := []) e1; simpa using this⟩
    rw [runF, htw.1, htw.2] at h3
    rcases Nat.lt_or_ge (k - A.length) B.length with hlt | hge
    · rw [List.drop_eq_getElem_cons hlt] at h3 ⊢
      refine .inl ⟨A ++ sortS (B.take (k - A.length)) ++ [B[k - A.length]], B.drop (k - A.length + 1), f, by simp, by simp [sortS_length]; omega, by simp; omega, by rw [← h3]; simp⟩
    · rw [List.drop_of_length_le hge] at h3 ⊢
      refine .inr ⟨by simp [sortS_length]; omega, by rw [← h3]; simp⟩
  · omega
theorem row_holds {w : World} {g base n cap i k : Nat} {ok : Nat → Prop} {cur : List Int} (h : (Kd.int .i64).R 3 w base ok (.slice (some ⟨g, 0, none⟩) n cap) cur) (hk : k ≤ cur.length) (hik : i ≤ k) : Row1 encI w g i ((cur.drop i).take (k - i)).toArray := by
  refine ⟨encI_one, fun j hj => ?_, Kd.R_lt h g (by simp [Value.ownBlock])⟩
  have hj' : j < k - i := by have := hj; simp at this; omega
  have hn : n = cur.length := (Kd.R_reads' h).1
  have hc := Kd.R_celln 0 h ((i + j : Nat) : Int) (by omega) (by omega)
  rw [Int.toNat_natCast] at hc
  have e : rdOf 0 cur ((i + j : Nat) : Int) = ((cur.drop i).take (k - i)).toArray[j]! := by
    have : i + j < cur.length := by omega
    unfold rdOf
    rw [Int.toNat_natCast]
    simp [hj', this]
  rw [e] at hc
  exact hc
set_option maxHeartbeats 8000000 in
set_option maxRecDepth 100000 in
theorem decomposed_walk (s : ByteArray) (hs : s.size ≤ 100000) (w : World) (hG : GT1 w) :
    Calls Tryd.prog 64 #[.string s] w fun e w' => ∃ v0 : Value, e = .returned (.tuple #[v0, .bool (decR [] s.data.toList).2]) ∧ Kd.R (Kd.int .i64) 3 w' w.heap.size (fun _ => True) v0 (decD (decR [] s.data.toList).1) ∧ Below w.heap.size w w' := by
  have HDC : Hid (∀ W, GT1 W → Calls Tryd.prog 78 #[.string s] W fun e w' => ∃ v0 : Value, e = .returned (.tuple #[v0, .bool (decR [] s.data.toList).2]) ∧ Kd.R (Kd.int .i64) 3 w' W.heap.size (fun _ => True) v0 (decR [] s.data.toList).1 ∧ Below W.heap.size W w') :=
    fun W hW => repertoire_Decode.calls (s.size + 8) s _ _ W hW (decode_eq s (by omega) (Nat.le_refl _))
  have hlen : (decR [] s.data.toList).1.length ≤ 100000 := by
    unfold decR
    cases hd : decS hasS s.data.toList with
    | none => simp
    | some cs =>
      have h1 := (decS_back hd).1
      have h2 := encL_ge cs
      rw [← h1] at h2
      have h3 : s.data.toList.length = s.size := Array.length_toList
      simp
      omega
  have hhas : ∀ c ∈ (decR [] s.data.toList).1, hasS c = true := by
    unfold decR
    cases hd : decS hasS s.data.toList with
    | none => simp
    | some cs => simpa using fun c hc => ((decS_back hd).2 c hc).2
  generalize (decR [] s.data.toList).2 = okb at HDC ⊢
  generalize (decR [] s.data.toList).1 = cs at HDC hlen hhas ⊢
  have HH := Aside0.mk hhas
  have HG := Aside0.mk hG
  have HFL := Lib.hid (flat_len cs)
  have HFH := Lib.hid (flat_has hhas)
  obtain ⟨T, hT⟩ : ∃ T, T = decD cs := ⟨_, rfl⟩
  have HT : Hid (T = runS (cs.flatMap splitS)) := hT
  rw [← hT]
  clear hT hhas hG hs
  have hi3 := @info3
  go_enter Tryd.func64, Tryd.ntmps64
  go_wp2_with fail
  refine (HDC.out _ HG.out).mono ?_
  rintro e w1 ⟨v4, rfl, hr4, hb1⟩
  clear HDC HG
  obtain ⟨A4, c4, rfl⟩ := Kd.R_slice hr4
  have hC4 := Aside0.mk (Kd.R_reads' hr4).2.2
  have HB1 := Aside0.mk hb1
  clear hr4 hb1
  go_wp2_with fail
  go_loopg [6, 8, 18] cs.length (fun g1 v6 v8 v18 wr => ∃ (i : Nat) (vo : Value), v18 = .int .i64 (i : Int) ∧ vo = v6 ∧ i ≤ cs.length ∧ cs.length - i ≤ g1 ∧ Aside0 (Kd.R (Kd.int .i64) 3 wr w1.heap.size (fun _ => True) vo ((cs.take i).flatMap splitS)) ∧ Aside0 (Below w1.heap.size w1 wr))
  case atStart => exact ⟨0, _, rfl, rfl, by omega, by omega, ⟨Kd.R_nil _ _ _ _ _⟩, ⟨Below.refl _ _⟩⟩
  case round =>
    obtain ⟨i, vo, rfl, rfl, hi, hg1, HO, HB⟩ := hrel
    by_cases hlt : i < cs.length
    · obtain ⟨ad, rfl, hx⟩ := Kd.at_int hC4.out (i : Int) (by omega) (by omega)
      simp only [Int.toNat_natCast] at hx
      replace hx := (HB.out.cell (World.block_lt_of_cell? w1 _ hx)).trans hx
      have hrd : rd cs (i : Int) = cs[i] := by unfold rd; simp [hlt]
      have hc := HH.out _ (List.getElem_mem hlt)
      have hstep : (cs.take (i + 1)).flatMap splitS = (cs.take i).flatMap splitS ++ splitS cs[i] := by rw [List.take_succ_eq_append_getElem hlt, List.flatMap_append, List.flatMap_cons, List.flatMap_nil, List.append_nil]
      have hl1 := flat_len (cs.take i)
      have hl2 : (cs.take i).length = i := by simp; omega
      rw [hrd] at hx
      generalize cs[i] = c at hx hc hstep
      have HST : RowKit.Hid ((cs.take (i + 1)).flatMap splitS = (cs.take i).flatMap splitS ++ splitS c) := hstep
      have HSA := Lib.hid (split_any c hc wr)
      have hl3 := split_len c
      obtain ⟨cur, hcur⟩ : ∃ cur, cur = (cs.take i).flatMap splitS := ⟨_, rfl⟩
      rw [← hcur] at HST HO hl1
      have hl4 : cur.length ≤ 200000 := by omega
      clear hrd hstep hc hcur hl1 hl2
      have hsz := HB.out.size
      go_wp2_with fail
      refine HSA.out.mono ?_
      rintro e w2 ⟨v, rfl, hrv, hb2⟩
      obtain ⟨A, c', rfl⟩ := Kd.R_slice hrv
      have HC2 := Aside0.mk (Kd.R_reads' hrv).2.2
      have HO2 := Aside0.mk (Kd.R_below HO.out hb2)
      have HB2 := Aside0.mk (below_step HB.out hb2)
      have hsz2 := HB2.out.size
      clear hrv hb2 HO HSA
      go_wp2_with ((with_reducible refine gate_dst (N := 25) rfl ?_); refine Kd.R_append_row (Value.int .i64) 0 (w0 := w1) w1.heap.size rfl (.tmp 22) (.tmp 24) 35 3 (.int .i64 0) 8 rfl Tryd.underlying35 info3 rfl (by decide) vo cur (splitS c) A _ c' (fun _ => True) rfl rfl (fun _ _ => trivial) HO2.out HC2.out HB2.out hsz2 (by omega) ?_; intro v1 w3 hr3 hb3 hg3 hat3; clear hg3 hat3)
      go_roundg (cs.length - (i + 1))
      case measure => omega
      case rel => exact ⟨i + 1, v1, by go_num, rfl, by omega, by omega, ⟨by rw [HST.out]; exact hr3⟩, ⟨hb3⟩⟩
    · obtain rfl : i = cs.length := by omega
      have HO1 := HO.out
      rw [List.take_length] at HO1
      obtain ⟨cur, hcur⟩ : ∃ cur, cur = cs.flatMap splitS := ⟨_, rfl⟩
      rw [← hcur] at HO1 HFL HFH HT
      have hcl : cur.length ≤ 200000 := by have := HFL.out; omega
      have HOc := Aside0.mk HO1
      have HR0 : Hid (RunInv T 0 cur) := .inl ⟨[], cur, cur.length, rfl, rfl, Nat.le_refl _, by rw [HT.out]; rfl⟩
      clear HO HO1 hcur HT HFL
      obtain ⟨Ao, co, rfl⟩ := Kd.R_slice HOc.out
      obtain ⟨n, hn⟩ : ∃ n, n = cur.length := ⟨_, rfl⟩
      have HN : Hid (cur.length = n) := hn.symm
      rw [← hn] at hcl HOc ⊢
      clear hn
      go_wp2_with fail
      go_loopg [9, 10] n (fun g1 v9 v10 wr => ∃ (i : Nat) (cu : List Int), v9 = .int .i64 (i : Int) ∧ i ≤ n + 1 ∧ n - i ≤ g1 ∧ Hid (cu.length = n) ∧ Aside0 (Kd.R (Kd.int .i64) 3 wr w1.heap.size (fun _ => True) (.slice Ao n co) cu) ∧ Aside0 (Below w1.heap.size w1 wr) ∧ Hid (RunInv T i cu) ∧ Hid (∀ x ∈ cu, hasS x = true))
      case atStart => exact ⟨0, cur, rfl, by omega, by omega, HN, HOc, HB, HR0, HFH⟩
      case round =>
        clear HOc HB HR0 HFH HN
        obtain ⟨i, cu, rfl, hin, hg1, HN, HO, HB, HR, HF⟩ := hrel
        by_cases hlt : i < n
        · have hltz : (i : Int) < (n : Int) := by omega
          obtain ⟨g, cap, he, hbg, hgs, _⟩ := Kd.R_form HO.out (by have := HN.out; omega)
          have he' := he
          rw [HN.out] at he'
          injection he' with e1 e2 e3
          subst e1
          subst e3
          clear he e2
          go_upto_block 4 with fail
          go_cut [10] from 34 to 46 (fun v10 wc => ∃ k : Nat, v10 = .int .i64 (k : Int) ∧ i ≤ k ∧ k ≤ n ∧ Aside0 (Kd.R (Kd.int .i64) 3 wc w1.heap.size (fun _ => True) (.slice (some ⟨g, 0, none⟩) n co) cu) ∧ Aside0 (Below w1.heap.size w1 wc) ∧ Hid (∀ j (hj : j < cu.length), i ≤ j → j < k → isMk cu[j] = true) ∧ Hid (∀ hj : k < cu.length, isMk cu[k] = false))
          case first =>
            go_wp2_with fail
            go_loopg [10] (n - i) (fun g2 v10 wx => ∃ k : Nat, v10 = .int .i64 (k : Int) ∧ i ≤ k ∧ k ≤ n ∧ n - k ≤ g2 ∧ Aside0 (Kd.R (Kd.int .i64) 3 wx w1.heap.size (fun _ => True) (.slice (some ⟨g, 0, none⟩) n co) cu) ∧ Aside0 (Below w1.heap.size w1 wx) ∧ Hid (∀ j (hj : j < cu.length), i ≤ j → j < k → isMk cu[j] = true))
            case atStart => exact ⟨i, rfl, by omega, by omega, by omega, HO, HB, fun j hj h1 h2 => by omega⟩
            case round =>
              clear HO HB
              obtain ⟨k, rfl, hik, hkn, hg2, HO, HB, HM⟩ := hrel
              by_cases hk : k < n
              · have hkz : (k : Int) < (n : Int) := by omega
                have hkl : k < cu.length := by have := HN.out; omega
                have hce := (Kd.R_celln 0 HO.out (k : Int) (by omega) (by omega)).1
                have hrd : rdOf 0 cu (k : Int) = cu[k] := by unfold rdOf; simp [hkl]
                rw [hrd, Int.toNat_natCast] at hce
                have hhc := HF.out _ (List.getElem_mem hkl)
                have HMK := Lib.hid (mark_any cu[k] hhc)
                obtain ⟨mb, hmb⟩ : ∃ b, isMk cu[k] = b := ⟨_, rfl⟩
                have HMB : Hid (isMk cu[k] = mb) := hmb
                rw [hmb] at HMK
                clear hmb hrd
                generalize cu[k] = c at hce HMK hhc
                cases mb with
                | true =>
                  go_wp2_with (go_at_call 67; refine (HMK.out _).mono ?_; rintro e w' ⟨rfl, ⟨nd, rfl⟩⟩)
                  go_roundg (n - (k + 1))
                  case measure => omega
                  case rel => exact ⟨k + 1, by go_num, by omega, by omega, by omega, ⟨Kd.R_drewN HO.out nd⟩, ⟨pw_below_drewN HB.out nd⟩, fun j hj h1 h2 => by
                    by_cases e : j = k
                    · subst e; exact HMB.out
                    · exact HM.out j hj h1 (by omega)⟩
                | false =>
                  go_wp2_with (go_at_call 67; refine (HMK.out _).mono ?_; rintro e w' ⟨rfl, ⟨nd, rfl⟩⟩)
                  go_meet
                  exact ⟨k, rfl, hik, hkn, ⟨Kd.R_drewN HO.out nd⟩, ⟨pw_below_drewN HB.out nd⟩, HM, fun _ => HMB.out⟩
              · have hkz : ¬ (k : Int) < (n : Int) := by omega
                obtain rfl : k = n := by omega
                go_wp2_with fail
                go_meet
                exact ⟨k, rfl, hik, hkn, HO, HB, HM, fun hj => absurd hj (by have := HN.out; omega)⟩
          case rest =>
            clear HO HB
            obtain ⟨k, rfl, hik, hkn, HO, HB, HM, HE⟩ := hcut
            have HS := Lib.hid (HR.out.step (by have := HN.out; omega) hik (by have := HN.out; omega) HM.out HE.out)
            clear HR HM HE
            by_cases hki : i < k
            · have hkz : (k : Int) > (i : Int) := by omega
              have hnc : n ≤ co := (Kd.R_reads' HO.out).2.1
              have hkc : k ≤ co := by omega
              have hdn : ((cu.drop i).take (k - i)).toArray.size = k - i := by have := HN.out; simp; omega
              have C := sortStable_calls g i (co - i) ((cu.drop i).take (k - i)).toArray wc (row_holds HO.out (by have := HN.out; omega) hik) (by omega)
              rw [hdn] at C
              have CC := Lib.hid C
              have HDN := Lib.hid hdn
              clear C hdn
              go_wp2_with fail
              refine CC.out.mono ?_
              rintro e w' ⟨rfl, d', hs', hd', S'⟩
              have hd2 : d'.toList = sortS ((cu.drop i).take (k - i)) := hd'
              obtain ⟨HR3, HG3⟩ := R_sorted HO.out S' (by have := HN.out; omega) (Kd.R_lt HO.out g (by simp [Value.ownBlock]))
              rw [hd2, hs', show i + (k - i) = k by omega] at HR3
              have HO3 := Aside0.mk HR3
              have HB3 : Aside0 (Below w1.heap.size w1 w') := ⟨HB.out.trans ⟨HG3.os, HG3.tape, HG3.output, HG3.size, fun q hq => HG3.block q (by have := HB.out.size; omega) (by intro e; injection e with e; omega)⟩⟩
              have HN3 : Hid ((cu.take i ++ sortS ((cu.drop i).take (k - i)) ++ cu.drop k).length = n) := by show _ = _; have := HN.out; rw [List.length_append, List.length_append, sortS_length]; simp; omega
              have HF3 : Hid (∀ x ∈ cu.take i ++ sortS ((cu.drop i).take (k - i)) ++ cu.drop k, hasS x = true) := fun x hx => by
                rcases List.mem_append.1 hx with hx | hx
                · rcases List.mem_append.1 hx with hx | hx
                  · exact HF.out x (List.mem_of_mem_take hx)
                  · exact HF.out x (List.mem_of_mem_drop (List.mem_of_mem_take (sortS_mem.1 hx)))
                · exact HF.out x (List.mem_of_mem_drop hx)
              generalize cu.take i ++ sortS ((cu.drop i).take (k - i)) ++ cu.drop k = cu2 at HO3 HN3 HF3 HS
              clear CC HDN hs' hd' hd2 S' HR3 HG3 HF HN HO HB
              go_wp2_with fail
              go_roundg (n - (k + 1))
              case measure => omega
              case rel => exact ⟨k + 1, cu2, by go_num, by omega, by omega, HN3, HO3, HB3, HS, HF3⟩
            · have hkz : ¬ (k : Int) > (i : Int) := by omega
              obtain rfl : k = i := by omega
              have HS2 : Hid (RunInv T (k + 1) cu) := by
                have := HS.out
                rw [Nat.sub_self, List.take_zero, sortS_nil, List.append_nil, List.take_append_drop] at this
                exact this
              go_wp2_with fail
              go_roundg (n - (k + 1))
              case measure => omega
              case rel => exact ⟨k + 1, cu, by go_num, by omega, by omega, HN, HO, HB, HS2, HF⟩
        · have hltz : ¬ (i : Int) < (n : Int) := by omega
          have hfin := HR.out.stop (by have := HN.out; omega)
          subst hfin
          go_wp2_with fail
          go_ret2
          have hle := HB1.out.size
          refine ⟨_, rfl, ?_, below_step HB1.out (HB.out)⟩
          exact Kd.R_lower HO.out hle
def DecOk (s : ByteArray) : Prop := s.size ≤ 100000
instance (s : ByteArray) : Decidable (DecOk s) := by unfold DecOk; infer_instance
def normal_decomposed.f (a0 : ByteArray) : Option (List Int × Bool) := if DecOk a0 then some (decD (decR [] a0.data.toList).1, (decR [] a0.data.toList).2) else none
theorem normal_decomposed.calls (a0 : ByteArray) (r1 : List Int) (r2 : Bool) (w : World) (hG : GT1 w) (h : normal_decomposed.f a0 = some (r1, r2)) :
    Calls Tryd.prog 64 #[.string a0] w fun e w' => ∃ v0_ : Value, e = .returned (.tuple #[v0_, .bool r2]) ∧ Kd.R (Kd.int .i64) 3 w' w.heap.size (fun _ => True) v0_ r1 ∧ Below w.heap.size w w' := by
  unfold normal_decomposed.f at h
  split at h
  · rename_i ho
    obtain ⟨rfl, rfl⟩ := Prod.mk.inj (Option.some.inj h)
    exact decomposed_walk a0 ho w hG
  · exact absurd h (by simp)
end Go.Proofs.YthcpdhniakpbaaaDoor.X
end

section
namespace Go.Proofs.YthcpdhniakpbaaaDoor.X
open Go.RowKit Go.Proofs.YthcpdhniakpbaaaDoorW.PrintWords Go.Proofs.YthcpdhniakpbaaaDoorW.PrintLast Go.Proofs.YthcpdhniakpbaaaDoorW.PrintMore
attribute [local go_sem] max2_int min2_int max_two min_two max_three min_three max_four min_four
set_option linter.unusedVariables false
set_option linter.unusedSimpArgs false
def normal_text.f (l0 : List Int) : Option (ByteArray) := (repertoire_Encode.f l0).bind fun bt583 => (some bt583.1)
set_option maxHeartbeats 8000000 in
set_option maxRecDepth 100000 in
theorem normal_text.calls (A0 : Option Addr) (c0 : Nat) (l0 : List Int) (r : ByteArray) (w : World) (hr0 : Kd.C (Kd.int .i64) w A0 l0.length l0) (hc0 : l0.length ≤ c0) (h : normal_text.f l0 = some r) :
    Calls Tryd.prog 65 #[.slice A0 l0.length c0] w fun e w' => e = .returned (.string r) ∧ Below w.heap.size w w' := by
  have HR0 := Aside0.mk hr0
  have HC0 := Aside0.mk hc0
  clear hr0 hc0
  have HB := Aside0.mk (Below.refl w.heap.size w)
  have H : ((repertoire_Encode.f l0).bind fun bt583 => (some bt583.1)) = some r := h
  clear h
  replace H := Option.bind_eq_some_iff.mp H
  obtain ⟨⟨t583, t584⟩, A20, H⟩ := H
  replace H : (some t583) = some r := H
  have A2 := Aside0.mk A20
  clear A20
  obtain rfl := Option.some.inj H
  go_enter Tryd.func65, Tryd.ntmps65
  go_wp2_with (first | ((with_reducible refine gate_callee (f := 88) rfl ?_); refine goesL_ (some 7) rfl rfl Tryd.func88 (by kernel_rfl) rfl #[.slice A0 l0.length c0] rfl (by (try simp only [List.map_toArray, List.map_cons, List.map_nil]); first | done | rfl | (simp only [List.length_drop, List.length_take]; rfl)) ?_; (with_reducible refine (repertoire_Encode.calls _ _ l0 t583 t584 _ ?side1 ?side2 A2.out).mono ?_); (case side1 => repeat (first | exact HR0.out | (with_reducible refine Kd.C_alloc ?_ _) | (with_reducible refine Kd.C_drewN ?_ _) | (with_reducible refine Kd.C_drew ?_))); (case side2 => exact HC0.out); rintro e w3 ⟨rfl, hb⟩; refine ⟨_, rfl, ?_⟩; have n0_ := Aside0.mk (below_step (by repeat (first | (with_reducible first | exact HB.out | apply below_alloc | apply pw_below_drewN | apply below_drew1) | exact HB.out)) hb); clear HB; have HB := n0_; clear n0_; (try clear hb); (try clear hb2); (try clear hk); (try clear hi)))
  go_ret
  exact ⟨by first | rfl | (simp [errW_none, errW_some] <;> rfl) | (simp [*, errW_none, errW_some] <;> rfl), by repeat (first | (with_reducible first | exact HB.out | apply below_alloc | apply pw_below_drewN | apply below_drew1) | exact HB.out)⟩
end Go.Proofs.YthcpdhniakpbaaaDoor.X
end

section
namespace Go.Proofs.YthcpdhniakpbaaaDoor.X
open Go.RowKit Go.Sort Go.Lib Go.Proofs.YthcpdhniakpbaaaDoorW.PrintWords Go.Proofs.YthcpdhniakpbaaaDoorW.PrintLast Go.Proofs.YthcpdhniakpbaaaDoorW.PrintMore
set_option linter.unusedVariables false
set_option linter.unusedSimpArgs false
def stripS (l : List Int) : List Int := l.filter fun c => !isMk c
theorem isMk_has {c : Int} (h : isMk c = true) : hasS c = true := by
  unfold isMk at h
  unfold hasS
  have : (classS c).2 = 2 := by simpa using h
  rw [this]; rfl
theorem strip_has {l : List Int} (h : ∀ c ∈ stripS l, hasS c = true) : ∀ c ∈ l, hasS c = true := fun c hc => by
  cases hm : isMk c with
  | true => exact isMk_has hm
  | false => exact h c (List.mem_filter.2 ⟨hc, by rw [hm]; rfl⟩)
abbrev Ch := {c : Int // c ≠ 65533}
instance : Inhabited Ch := ⟨⟨0, by decide⟩⟩
def encCh (c : Ch) : Value := .int .i64 c.val
def mkCh (l : List Int) (h : ∀ c ∈ l, c ≠ 65533) : List Ch := l.attach.map fun x => ⟨x.1, h x.1 x.2⟩
theorem mkCh_val (l : List Int) (h : ∀ c ∈ l, c ≠ 65533) : (mkCh l h).map Subtype.val = l := by
  unfold mkCh
  rw [List.map_map]
  exact List.attach_map_subtype_val l
theorem mkCh_len (l : List Int) (h : ∀ c ∈ l, c ≠ 65533) : (mkCh l h).length = l.length := by simp [mkCh]
theorem mkCh_get (l : List Int) (h : ∀ c ∈ l, c ≠ 65533) (j : Nat) (hj : j < l.length) : ((mkCh l h).toArray[j]!).val = l[j] := by
  have : j < (mkCh l h).length := by rw [mkCh_len]; exact hj
  simp [this, mkCh, hj]
theorem markCh (c : Ch) (W : World) : Calls Tryd.prog 67 #[.int .i64 c.val] W fun e w' => e = .returned (.bool (isMk c.val)) ∧ Drawn0 W w' := normal_mark.calls 7 c.val _ W (isMark_eq c.2 0)
theorem eg67 : ∀ args w, (callFunc 67 args).run Tryd.prog w = .ok (.enter 67 args) w := enters_of Tryd.func67 (by kernel_rfl) rfl
theorem givesCh (c : Ch) (W : World) : FnGives Tryd.prog 67 #[] #[encCh c] (.bool (isMk c.val)) W := (markCh c W).mono fun e w' ⟨he, n, hn⟩ => ⟨he, n, hn⟩
theorem delete_none (A : Option Addr) (c : Nat) (w : World) : Calls Tryd.prog 73 #[.slice A 0 c, .func (.func 67) #[] #[]] w fun e w' => e = .returned (.slice A 0 c) ∧ w' = w := by
  have HI := Lib.hid (Tryd.slices_IndexFunc_empty (α := Int) A c (.func (.func 67) #[] #[]) w)
  go_enter Tryd.func73, Tryd.ntmps73
  go_wp2_with fail
  refine HI.out.mono ?_
  rintro e w' ⟨rfl, rfl⟩
  go_wp2_with fail
  go_ret
  exact ⟨rfl, rfl⟩
theorem delete_some {g base n cap : Nat} {ok : Nat → Prop} {cur : List Int} {w : World} (h : (Kd.int .i64).R 3 w base ok (.slice (some ⟨g, 0, none⟩) n cap) cur) (hne : ∀ c ∈ cur, c ≠ 65533) :
    Calls Tryd.prog 73 #[.slice (some ⟨g, 0, none⟩) n cap, .func (.func 67) #[] #[]] w fun e w' => e = .returned (.slice (some ⟨g, 0, none⟩) (stripS cur).length cap) ∧ Kd.C (Kd.int .i64) w' (some ⟨g, 0, none⟩) (stripS cur).length (stripS cur) ∧ w.grownBy w' (some g) := by
  obtain rfl : n = cur.length := (Kd.R_reads' h).1
  have hcap := (Kd.R_reads' h).2.1
  have hmax := Kd.C_max (Kd.R_reads' h).2.2
  have hds : (mkCh cur hne).toArray.size = cur.length := by simp [mkCh_len]
  have hH : Holds encCh w g 0 (mkCh cur hne).toArray := by
    intro j hj
    have hj' : j < cur.length := by omega
    have hc := Kd.R_celln 0 h (j : Int) (by omega) (by omega)
    rw [Int.toNat_natCast] at hc
    have e : rdOf 0 cur (j : Int) = cur[j] := by unfold rdOf; rw [Int.toNat_natCast]; simp [hj']
    rw [e] at hc
    rw [Nat.zero_add]
    unfold encCh
    rw [mkCh_get cur hne j hj']
    exact hc
  have hfl : (((mkCh cur hne).toArray.toList.filter fun x => !isMk x.val).map Subtype.val) = stripS cur := by
    unfold stripS
    conv => rhs; rw [← mkCh_val cur hne, List.filter_map]
    rfl
  have hfl2 : ((mkCh cur hne).toArray.toList.filter fun x => !isMk x.val).length = (stripS cur).length := by rw [← hfl, List.length_map]
  have hle : (stripS cur).length ≤ cur.length := List.length_filter_le _ _
  have C := Tryd.slices_DeleteFunc encCh (fun _ => rfl) (fun x => isMk x.val) 67 #[] eg67 ⟨0, by decide⟩ Tryd.zeroValue3 g 0 cap (mkCh cur hne).toArray w (fun W x _ => givesCh x W) (fun n os dk x _ => givesCh x _) hH (by omega) (by omega)
  rw [hds, hfl2] at C
  refine C.mono ?_
  rintro e w' ⟨he, q, rfl⟩
  refine ⟨he, Kd.C_of_reads (d := (0 : Int)) ⟨rfl, by omega, fun hp => ⟨_, rfl, fun j hj => ?_⟩⟩, rfl, rfl, rfl, by rw [size_putRow]; exact Nat.le_refl _, fun k hk hk2 => ?_⟩
  · have hadd : (⟨g, 0, none⟩ : Addr).add j = ⟨g, 0 + j, none⟩ := by unfold Addr.add; split <;> simp_all
    rw [hadd]
    have hsz : (((mkCh cur hne).toArray.toList.filter fun x => !isMk x.val) ++ List.replicate (cur.length - (stripS cur).length) (⟨0, by decide⟩ : Ch)).toArray.size = (mkCh cur hne).toArray.size := by
      rw [hds]
      simp only [List.size_toArray, List.length_append, List.length_replicate, hfl2]
      omega
    have hc := cell?_putRow encCh (Sort.ahead w q) g 0 (mkCh cur hne).toArray _ (fun i hi => hH i hi) hsz j (by rw [hsz, hds]; omega)
    rw [hc]
    have hjf : j < ((mkCh cur hne).toArray.toList.filter fun x => !isMk x.val).length := by rw [hfl2]; exact hj
    have : ((((mkCh cur hne).toArray.toList.filter fun x => !isMk x.val) ++ List.replicate (cur.length - (stripS cur).length) (⟨0, by decide⟩ : Ch)).toArray[j]!) = ((mkCh cur hne).toArray.toList.filter fun x => !isMk x.val)[j] := by
      rw [getElem!_pos _ j (by rw [hsz, hds]; omega)]
      simp only [List.getElem_toArray]
      rw [List.getElem_append_left hjf]
    rw [this]
    have h2 : (stripS cur)[j]'hj = (((mkCh cur hne).toArray.toList.filter fun x => !isMk x.val)[j]).val := by
      have h3 : (((mkCh cur hne).toArray.toList.filter fun x => !isMk x.val).map Subtype.val)[j]? = (stripS cur)[j]? := by rw [hfl]
      rw [List.getElem?_map, List.getElem?_eq_getElem hjf, List.getElem?_eq_getElem hj] at h3
      simpa using h3.symm
    have h4 : (stripS cur).getD j 0 = (stripS cur)[j] := by simp [hj]
    rw [h4, h2]
    rfl
  · unfold putRow mapBlock Sort.ahead
    simp only
    rw [Array.getElem?_modify, if_neg (fun e => hk2 (by rw [e]))]
def normal_Strip.f (a0 : ByteArray) : Option ByteArray := (normal_decomposed.f a0).bind fun b => normal_text.f (stripS b.1)
theorem normal_Strip.calls (a0 : ByteArray) (r : ByteArray) (w : World) (hG : GT1 w) (h : normal_Strip.f a0 = some r) :
    Calls Tryd.prog 44 #[.string a0] w fun e w' => e = .returned (.string r) ∧ Below w.heap.size w w' := by
  unfold normal_Strip.f at h
  obtain ⟨⟨l, okb⟩, h1, h2⟩ := Option.bind_eq_some_iff.1 h
  have hh : ∀ c ∈ l, c ≠ 65533 := by
    have h3 := h2
    unfold normal_text.f repertoire_Encode.f at h3
    split at h3
    · rename_i ho
      intro c hc e
      have := strip_has ho.2 c hc
      rw [e, hasS_65533] at this
      exact absurd this (by decide)
    · exact absurd h3 (by simp)
  have HD := Lib.hid (normal_decomposed.calls a0 l okb w hG h1)
  have HT : Hid (∀ (A : Option Addr) (c : Nat) W, Kd.C (Kd.int .i64) W A (stripS l).length (stripS l) → (stripS l).length ≤ c → Calls Tryd.prog 65 #[.slice A (stripS l).length c] W fun e w' => e = .returned (.string r) ∧ Below W.heap.size W w') := fun A c W hC hc => normal_text.calls A c (stripS l) r W hC hc h2
  have HH := Lib.hid hh
  clear h h1 h2 hG hh
  go_enter Tryd.func44, Tryd.ntmps44
  go_wp2_with fail
  refine HD.out.mono ?_
  rintro e w1 ⟨v, rfl, hr, hb⟩
  obtain ⟨A, c, rfl⟩ := Kd.R_slice hr
  have HR := Aside0.mk hr
  have HB := Aside0.mk hb
  clear hr hb HD
  by_cases hn : l.length = 0
  · have hl : l = [] := List.length_eq_zero_iff.1 hn
    subst hl
    have hC := (Kd.R_reads' HR.out).2.2
    have HC := Lib.hid (HT.out A c w1 hC (Nat.zero_le _))
    have HDN := Lib.hid (delete_none A c w1)
    clear HT hC hn
    go_wp2_with fail
    refine HDN.out.mono ?_
    rintro e w2 ⟨rfl, rfl⟩
    go_wp2_with fail
    refine HC.out.mono ?_
    rintro e w3 ⟨rfl, hb3⟩
    have HB3 := Lib.hid (below_step HB.out hb3)
    clear hb3
    go_wp2_with fail
    go_ret
    exact ⟨rfl, HB3.out⟩
  · obtain ⟨g, cap, he, hbg, hgs, _⟩ := Kd.R_form HR.out (by omega)
    injection he with e1 e2 e3
    subst e1
    subst e3
    have HDS := Lib.hid (delete_some HR.out HH.out)
    have hcap := (Kd.R_reads' HR.out).2.1
    have hle : (stripS l).length ≤ l.length := List.length_filter_le _ _
    clear hn e2
    go_wp2_with fail
    refine HDS.out.mono ?_
    rintro e w2 ⟨rfl, hC2, hg2⟩
    have HC := Lib.hid (HT.out _ c w2 hC2 (by omega))
    have HB2 : Aside0 (Below w.heap.size w w2) := ⟨HB.out.trans ⟨hg2.os, hg2.tape, hg2.output, hg2.size, fun q hq => hg2.block q (by have := HB.out.size; omega) (by intro e; injection e with e; omega)⟩⟩
    clear hC2 hg2 HT HDS
    go_wp2_with fail
    refine HC.out.mono ?_
    rintro e w3 ⟨rfl, hb3⟩
    have HB3 := Lib.hid (below_step HB2.out hb3)
    clear hb3
    go_wp2_with fail
    go_ret
    exact ⟨rfl, HB3.out⟩
end Go.Proofs.YthcpdhniakpbaaaDoor.X
end

section
namespace Go.Proofs.YthcpdhniakpbaaaDoor.X
open Go.RowKit Go.Sort Go.Lib Go.Proofs.YthcpdhniakpbaaaDoorW.PrintWords Go.Proofs.YthcpdhniakpbaaaDoorW.PrintLast Go.Proofs.YthcpdhniakpbaaaDoorW.PrintMore
set_option linter.unusedVariables false
set_option linter.unusedSimpArgs false
def taken (kept : List Int) (m : Int) : Bool := kept.any fun x => clsN x == clsN m
def compM : List Int → Int → List Int → Int × List Int
  | [], c, kept => (c, kept)
  | m :: ms, c, kept => match joinS c m with
    | some x => if taken kept m = true then compM ms c (kept ++ [m]) else compM ms x kept
    | none => compM ms c (kept ++ [m])
def compF : Nat → List Int → List Int
  | 0, _ => []
  | _ + 1, [] => []
  | f + 1, c :: r => if isMk c = true then c :: compF f r else
    ((compM (r.takeWhile isMk) c []).1 :: (compM (r.takeWhile isMk) c []).2) ++ compF f (r.dropWhile isMk)
def compS (l : List Int) : List Int := compF l.length l
theorem compF_nil : ∀ f, compF f [] = []
  | 0 => rfl
  | f + 1 => rfl
theorem joinR_has {c m x : Int} : ∀ rs : List NRow, (∀ r ∈ rs, r ∈ nrows) → joinR c m rs = some x → hasS x = true
  | [], _, h => by simp [joinR] at h
  | r :: rs, hr, h => by
    rw [joinR] at h
    split at h
    · rename_i hc
      obtain rfl := Option.some.inj h
      have hrn := hr r (by simp)
      have hl := (row_str hrn).2.2
      exact (row_has hrn).2.1 _ (at0_mem (plc_ge.2 hc.2) (by have := plc_lt hc.2; omega))
    · exact joinR_has rs (fun r' h' => hr r' (by simp [h'])) h
theorem join_has {c m x : Int} (h : joinS c m = some x) : hasS x = true := joinR_has nrows (fun _ h => h) h
theorem compM_has : ∀ (ms : List Int) (c : Int) (kept : List Int), (∀ x ∈ ms, hasS x = true) → hasS c = true → (∀ x ∈ kept, hasS x = true) → hasS (compM ms c kept).1 = true ∧ ∀ x ∈ (compM ms c kept).2, hasS x = true
  | [], c, kept, _, hc, hk => ⟨hc, hk⟩
  | m :: ms, c, kept, hm, hc, hk => by
    have hm1 := hm m (by simp)
    have hm2 : ∀ x ∈ ms, hasS x = true := fun x hx => hm x (by simp [hx])
    have hk2 : ∀ x ∈ kept ++ [m], hasS x = true := fun x hx => by
      rcases List.mem_append.1 hx with hx | hx
      · exact hk x hx
      · obtain rfl := List.mem_singleton.1 hx; exact hm1
    rw [compM]
    split
    · rename_i x hx
      split
      · exact compM_has ms c _ hm2 hc hk2
      · exact compM_has ms x kept hm2 (join_has hx) hk
    · exact compM_has ms c _ hm2 hc hk2
theorem compM_len : ∀ (ms : List Int) (c : Int) (kept : List Int), (compM ms c kept).2.length ≤ kept.length + ms.length
  | [], c, kept => by simp [compM]
  | m :: ms, c, kept => by
    rw [compM]
    split
    · split
      · have := compM_len ms c (kept ++ [m]); simp at this ⊢; omega
      · have := compM_len ms (by assumption) kept; simp at this ⊢; omega
    · have := compM_len ms c (kept ++ [m]); simp at this ⊢; omega
theorem compF_has : ∀ (f : Nat) (l : List Int), (∀ x ∈ l, hasS x = true) → ∀ x ∈ compF f l, hasS x = true
  | 0, l, _, x, hx => by simp [compF] at hx
  | f + 1, [], _, x, hx => by simp [compF] at hx
  | f + 1, c :: r, h, x, hx => by
    rw [compF] at hx
    have hr : ∀ x ∈ r, hasS x = true := fun x hx => h x (by simp [hx])
    split at hx
    · rcases List.mem_cons.1 hx with rfl | hx
      · exact h _ (by simp)
      · exact compF_has f r hr x hx
    · have hm := compM_has (r.takeWhile isMk) c [] (fun y hy => hr y ((List.takeWhile_sublist _).subset hy)) (h c (by simp)) (by simp)
      rcases List.mem_append.1 hx with hx | hx
      · rcases List.mem_cons.1 hx with rfl | hx
        · exact hm.1
        · exact hm.2 x hx
      · exact compF_has f _ (fun y hy => hr y ((List.dropWhile_sublist _).subset hy)) x hx
theorem takeDrop_len (r : List Int) : (r.takeWhile isMk).length + (r.dropWhile isMk).length = r.length := by
  rw [← List.length_append, List.takeWhile_append_dropWhile]
theorem compF_len : ∀ (f : Nat) (l : List Int), (compF f l).length ≤ l.length
  | 0, l => by simp [compF]
  | f + 1, [] => by simp [compF]
  | f + 1, c :: r => by
    rw [compF]
    split
    · have := compF_len f r; simp; omega
    · have h1 := compM_len (r.takeWhile isMk) c []
      have h2 := compF_len f (r.dropWhile isMk)
      have h3 := takeDrop_len r
      simp at h1 ⊢
      omega
end Go.Proofs.YthcpdhniakpbaaaDoor.X
end

section
namespace Go.Proofs.YthcpdhniakpbaaaDoor.X
open Go.RowKit Go.Sort Go.Lib Go.Proofs.YthcpdhniakpbaaaDoorW.PrintWords Go.Proofs.YthcpdhniakpbaaaDoorW.PrintLast Go.Proofs.YthcpdhniakpbaaaDoorW.PrintMore
set_option linter.unusedVariables false
set_option linter.unusedSimpArgs false
theorem join_any (c m : Int) (h : hasS c = true) (W : World) : Calls Tryd.prog 69 #[.int .i64 c, .int .i64 m] W fun e w' => e = .returned (joinV (joinS c m)) ∧ Below W.heap.size W w' := by
  have hne : c ≠ 65533 := fun e => by rw [e, hasS_65533] at h; exact absurd h (by decide)
  have hr := hasS_range h
  exact join_walk c m (by omega) (by omega) hne W
def ComposeOk (l : List Int) : Prop := l.length ≤ 200000 ∧ ∀ c ∈ l, hasS c = true
instance (l : List Int) : Decidable (ComposeOk l) := by unfold ComposeOk; infer_instance
def leftB (kept : List Int) : Array Value := #[.bool false, .bool (kept.any fun x => clsN x == 1), .bool (kept.any fun x => clsN x == 2), .bool (kept.any fun x => clsN x == 3)]
theorem cl_alloc {w : World} {a : Addr} {v : Value} (o : Obj) (h : w.cell? a = some v) : (w.alloc o).drew.cell? a = some v := by
  have := World.block_lt_of_cell? w _ h
  show (w.alloc o).cell? a = some v
  rw [cell_alloc_old _ _ _ this]
  exact h
theorem st_other {w : World} {b k : Nat} {a : Addr} {v : Value} (u : Value) (h : w.cell? a = some v) (hne : a.block ≠ b) : (w.setCell ⟨b, k, none⟩ u).cell? a = some v := by
  rw [World.cell?_setCell_other _ _ _ _ (fun e => hne (by rw [← e]))]
  exact h
theorem st_same {w : World} {b k : Nat} {v : Value} (u : Value) (h : w.cell? ⟨b, k, none⟩ = some v) : (w.setCell ⟨b, k, none⟩ u).cell? ⟨b, k, none⟩ = some u := World.cell?_setCell_same _ _ _ h
theorem st_frozen {w : World} {a p : Addr} (u : Value) (h : w.frozen? a = false) : (w.setCell p u).frozen? a = false := by
  rw [World.frozen?_setCell]
  exact h
theorem fz_alloc {w : World} {a : Addr} (o : Obj) (h : w.frozen? a = false) (hb : a.block < w.heap.size) : (w.alloc o).drew.frozen? a = false := by
  show (w.alloc o).frozen? a = false
  rw [World.frozen?_of_block (w := w) (Lib.alloc_old w o _ hb)]
  exact h
set_option maxHeartbeats 8000000 in
set_option maxRecDepth 100000 in
theorem compose_walk (s : ByteArray) (w : World) (hG : GT1 w) (l : List Int) (okb : Bool) (hd : normal_decomposed.f s = some (l, okb)) (ho : ComposeOk l) (r : ByteArray) (ht : normal_text.f (compS l) = some r) :
    Calls Tryd.prog 40 #[.string s] w fun e w' => e = .returned (.string r) ∧ Below w.heap.size w w' := by
  have HD := Lib.hid (normal_decomposed.calls s l okb w hG hd)
  obtain ⟨hl, hh⟩ := ho
  have HH := Lib.hid hh
  obtain ⟨T, hT⟩ : ∃ T, T = compS l := ⟨_, rfl⟩
  rw [← hT] at ht
  have HT : Hid (compF l.length l = T) := hT.symm
  have HX : Hid (∀ (A : Option Addr) (c : Nat) W, Kd.C (Kd.int .i64) W A T.length T → T.length ≤ c → Calls Tryd.prog 65 #[.slice A T.length c] W fun e w' => e = .returned (.string r) ∧ Below W.heap.size W w') := fun A c W hC hc => normal_text.calls A c T r W hC hc ht
  clear hG hd hh hT ht
  have hi3 := @info3
  go_enter Tryd.func40, Tryd.ntmps40
  go_wp2_with fail
  refine HD.out.mono ?_
  rintro e w1 ⟨v3, rfl, hr3, hb1⟩
  obtain ⟨A, c3, rfl⟩ := Kd.R_slice hr3
  have hC := Aside0.mk (Kd.R_reads' hr3).2.2
  have HB1 := Aside0.mk hb1
  clear hr3 hb1 HD
  obtain ⟨n, hn⟩ : ∃ n, n = l.length := ⟨_, rfl⟩
  have HN : Hid (l.length = n) := hn.symm
  rw [← hn] at hC hl ⊢
  clear hn
  go_wp2_with fail
  go_loopg [5, 6, 7, 8, 9, 10, 11, 12] n (fun g1 v5 v6 v7 v8 v9 v10 v11 v12 wr => ∃ (i : Nat) (out : List Int) (vo : Value) (f : Nat), v6 = .int .i64 (i : Int) ∧ vo = v5 ∧ i ≤ n ∧ n - i ≤ g1 ∧ n - i ≤ f ∧ out.length ≤ i ∧ Aside0 (Kd.R (Kd.int .i64) 3 wr w1.heap.size (fun _ => True) vo out) ∧ Aside0 (Below w1.heap.size w1 wr) ∧ Hid (out ++ compF f (l.drop i) = T))
  case atStart => exact ⟨0, [], _, n, rfl, rfl, by omega, by omega, by omega, by simp, ⟨Kd.R_nil _ _ _ _ _⟩, ⟨Below.refl _ _⟩, by show _ = _; rw [← HT.out, HN.out]; rfl⟩
  case round =>
    clear HT
    obtain ⟨i, out, vo, f, rfl, rfl, hin, hg1, hf, hol, HO, HB, HT⟩ := hrel
    obtain ⟨wo, rfl⟩ : ∃ wo : World, wo = wr := ⟨_, rfl⟩
    by_cases hlt : i < n
    · have hltz : (i : Int) < (n : Int) := by omega
      have hil : i < l.length := by have := HN.out; omega
      obtain ⟨ad, rfl, hx⟩ := Kd.at_int hC.out (i : Int) (by omega) (by omega)
      simp only [Int.toNat_natCast] at hx
      replace hx := (HB.out.cell (World.block_lt_of_cell? w1 _ hx)).trans hx
      have hrd : rd l (i : Int) = l[i] := by unfold rd; simp [hil]
      have hhc := HH.out _ (List.getElem_mem hil)
      rw [hrd] at hx
      have hT := HT.out
      rw [List.drop_eq_getElem_cons hil] at hT
      obtain ⟨f, rfl⟩ : ∃ q, f = q + 1 := ⟨f - 1, by omega⟩
      rw [compF] at hT
      have HMK := Lib.hid (mark_any l[i] hhc)
      obtain ⟨mb, hmb⟩ : ∃ b, isMk l[i] = b := ⟨_, rfl⟩
      rw [hmb] at hT HMK
      clear HT hmb hrd
      generalize l[i] = c at hx HMK hhc hT
      have hsz := HB.out.size
      cases mb with
      | true =>
        rw [if_pos rfl] at hT
        have HT2 : Hid ((out ++ [c]) ++ compF f (l.drop (i + 1)) = T) := by show _ = _; rw [← hT]; simp
        clear hT
        go_wp2_with (first | (go_at_call 67; refine (HMK.out _).mono ?_; rintro e w' ⟨rfl, ⟨nd, rfl⟩⟩) | ((with_reducible refine gate_dst (N := 33) rfl ?_); refine Kd.R_append_row (Value.int .i64) 0 (w0 := w1) w1.heap.size rfl (.tmp 30) (.tmp 32) 35 3 (.int .i64 0) 8 rfl Tryd.underlying35 info3 rfl (by decide) vo out [c] (some ⟨wo.heap.size, 0, none⟩) 1 1 (fun _ => True) rfl rfl (fun _ _ => trivial) (Kd.R_alloc (Kd.R_drewN HO.out nd) _) (Kd.R_reads' (R_lits (wo.drewN nd) wo.heap.size w1.heap.size [c] rfl hsz (by simp))).2.2 (below_alloc (pw_below_drewN HB.out nd) _) (by simp; omega) (by omega) ?_; intro v1 w3 hr3 hb3 hg3 hat3; clear hg3 hat3))
        go_roundg (n - (i + 1))
        case measure => omega
        case rel => exact ⟨i + 1, out ++ [c], v1, f, by go_num, rfl, by omega, by omega, by omega, by simp; omega, ⟨hr3⟩, ⟨hb3⟩, HT2⟩
      | false =>
        rw [if_neg (by decide)] at hT
        have HT2 : Hid (out ++ (((compM ((l.drop (i + 1)).takeWhile isMk) c []).1 :: (compM ((l.drop (i + 1)).takeWhile isMk) c []).2) ++ compF f ((l.drop (i + 1)).dropWhile isMk)) = T) := hT
        clear hT
        go_upto_block 2 with (first | (go_at_call 67; refine (HMK.out _).mono ?_; rintro e w' ⟨rfl, ⟨nd, rfl⟩⟩))
        have HBW : Aside0 (Below wo.heap.size wo ((wo.drewN nd).alloc (.cells (leftB []) 63))) := ⟨below_alloc (pw_below_drewN (Below.refl _ _) nd) _⟩
        have HLB : Aside0 (((wo.drewN nd).alloc (.cells (leftB []) 63)).heap[wo.heap.size]? = some (.cells (leftB []) 63 (0, 0))) := ⟨heap_alloc_last (wo.drewN nd) _⟩
        clear HMK hx
        go_cut [6, 7, 8, 10, 11, 12] from 34 to 77 (fun v6 v7 v8 v10 v11 v12 wx => ∃ (j : Nat) (c' : Int) (kept : List Int) (vk : Value), v6 = .int .i64 (j : Int) ∧ v7 = .int .i64 c' ∧ vk = v8 ∧ i + 1 ≤ j ∧ j ≤ n ∧ kept.length + i + 1 ≤ j ∧ Aside0 (Kd.R (Kd.int .i64) 3 wx wo.heap.size (fun _ => True) vk kept) ∧ Aside0 (Below wo.heap.size wo wx) ∧ Hid (compM ((l.drop (i + 1)).takeWhile isMk) c [] = (c', kept)) ∧ Hid ((l.drop (i + 1)).dropWhile isMk = l.drop j))
        case first =>
          go_wp2_with fail
          go_loopg [6, 7, 8, 10, 11, 12] n (fun g2 v6 v7 v8 v10 v11 v12 wx => ∃ (j : Nat) (c' : Int) (kept : List Int) (vk : Value), v6 = .int .i64 (j : Int) ∧ v7 = .int .i64 c' ∧ vk = v8 ∧ i + 1 ≤ j ∧ j ≤ n ∧ n - j ≤ g2 ∧ kept.length + i + 1 ≤ j ∧ Aside0 (Kd.R (Kd.int .i64) 3 wx wo.heap.size (fun _ => True) vk kept) ∧ Aside0 (Below wo.heap.size wo wx) ∧ Aside0 (wx.heap[wo.heap.size]? = some (.cells (leftB kept) 63 (0, 0))) ∧ Hid (hasS c' = true) ∧ Hid (compM ((l.drop (i + 1)).takeWhile isMk) c [] = compM ((l.drop j).takeWhile isMk) c' kept) ∧ Hid ((l.drop (i + 1)).dropWhile isMk = (l.drop j).dropWhile isMk))
          case atStart => exact ⟨i + 1, c, [], _, by go_num, rfl, rfl, by omega, by omega, by omega, by simp, ⟨Kd.R_nil _ _ _ _ _⟩, HBW, HLB, hhc, rfl, rfl⟩
          case round =>
            clear HBW HLB
            obtain ⟨j, c', kept, vk, rfl, rfl, rfl, hij, hjn, hg2, hkl, HK, HBW, HLB, HC, HE, HDr⟩ := hrel
            by_cases hjlt : j < n
            · have hjz : (j : Int) < (n : Int) := by omega
              have hjl : j < l.length := by have := HN.out; omega
              obtain ⟨ad', he, hx2⟩ := Kd.at_int hC.out (j : Int) (by omega) (by omega)
              obtain rfl := Option.some.inj he
              clear he
              simp only [Int.toNat_natCast] at hx2
              have had1 : (ad.add j).block < w1.heap.size := World.block_lt_of_cell? w1 _ hx2
              have HBX := Aside0.mk (below_step HB.out HBW.out)
              replace hx2 := (HBX.out.cell (World.block_lt_of_cell? w1 _ hx2)).trans hx2
              have hadb : (ad.add j).block < wr.heap.size := World.block_lt_of_cell? wr _ hx2
              have hrd2 : rd l (j : Int) = l[j] := by unfold rd; simp [hjl]
              rw [hrd2] at hx2
              have hhc2 := HH.out _ (List.getElem_mem hjl)
              have hE := HE.out
              have hDr := HDr.out
              rw [List.drop_eq_getElem_cons hjl] at hE hDr
              have HMK2 := Lib.hid (mark_any l[j] hhc2)
              have HDj : Hid (l.drop j = l[j] :: l.drop (j + 1)) := List.drop_eq_getElem_cons hjl
              obtain ⟨mb, hmb⟩ : ∃ b, isMk l[j] = b := ⟨_, rfl⟩
              rw [hmb] at HMK2
              rw [List.takeWhile_cons, hmb] at hE
              rw [List.dropWhile_cons, hmb] at hDr
              clear hmb hrd2 HE HDr
              generalize l[j] = c2 at hx2 HMK2 hhc2 hE hDr HDj
              have hszx := HBW.out.size
              cases mb with
              | false =>
                rw [if_neg (by decide)] at hE hDr
                have HE2 : Hid (compM ((l.drop (i + 1)).takeWhile isMk) c [] = (c', kept)) := hE
                have HD2 : Hid ((l.drop (i + 1)).dropWhile isMk = l.drop j) := by show _ = _; rw [hDr, HDj.out]
                clear hE hDr
                go_wp2_with (go_at_call 67; refine (HMK2.out _).mono ?_; rintro e w' ⟨rfl, ⟨nq, rfl⟩⟩)
                go_meet
                exact ⟨j, c', kept, vk, rfl, rfl, rfl, hij, hjn, hkl, ⟨Kd.R_drewN HK.out nq⟩, ⟨pw_below_drewN HBW.out nq⟩, HE2, HD2⟩
              | true =>
                rw [if_pos rfl, compM] at hE
                rw [if_pos rfl] at hDr
                have HD2 : Hid ((l.drop (i + 1)).dropWhile isMk = (l.drop (j + 1)).dropWhile isMk) := hDr
                have HCL := Lib.hid (nclass_any c2)
                have HJA := Lib.hid (join_any c' c2 HC.out)
                have hkr := clsN_range c2
                obtain ⟨kN, hkN⟩ : ∃ q : Nat, (q : Int) = clsN c2 := ⟨(clsN c2).toNat, by omega⟩
                have HKN : Hid ((kN : Int) = clsN c2) := hkN
                have hcl : ∀ W : World, W.heap[wo.heap.size]? = some (.cells (leftB kept) 63 (0, 0)) → W.cell? ⟨wo.heap.size, kN, none⟩ = some (.bool (taken kept c2)) := fun W hW => by
                  rw [blk_cell hW]
                  unfold leftB taken
                  rcases hkr with e | e | e
                  · have : kN = 1 := by omega
                    subst this; rw [e]; rfl
                  · have : kN = 2 := by omega
                    subst this; rw [e]; rfl
                  · have : kN = 3 := by omega
                    subst this; rw [e]; rfl
                have HCELL := Lib.hid hcl
                have hkb1 : 1 ≤ kN := by omega
                have hkb2 : kN ≤ 3 := by omega
                have HSET : Hid ((leftB kept).setIfInBounds kN (.bool true) = leftB (kept ++ [c2])) := by
                  show _ = _
                  unfold leftB
                  rcases hkr with e | e | e
                  · have : kN = 1 := by omega
                    subst this; simp [e]
                  · have : kN = 2 := by omega
                    subst this; simp [e]
                  · have : kN = 3 := by omega
                    subst this; simp [e]
                rw [← hkN] at HCL
                obtain ⟨tk, htk⟩ : ∃ b, b = taken kept c2 := ⟨_, rfl⟩
                rw [← htk] at hE HCELL
                clear hDr hkr hkN hcl htk
                cases hJ : joinS c' c2 with
                | none =>
                  rw [hJ] at hE HJA
                  rw [joinV_none] at HJA
                  have HE2 : Hid (compM ((l.drop (i + 1)).takeWhile isMk) c [] = compM ((l.drop (j + 1)).takeWhile isMk) c' (kept ++ [c2])) := hE
                  clear hE hJ
                  go_wp2_with (first | (go_at_call 67; refine (HMK2.out _).mono ?_; rintro e w' ⟨rfl, ⟨nq, rfl⟩⟩) | (go_at_call 68; refine (HCL.out _).mono ?_; rintro e w' ⟨rfl, ⟨nk, rfl⟩⟩))
                  refine (HJA.out _).mono ?_
                  rintro e w3 ⟨rfl, hb3⟩
                  have hx3 := (hb3.cell hadb).trans hx2
                  have HLB3 := Aside0.mk ((hb3.block _ (blk_lt HLB.out)).trans HLB.out)
                  have HK3 := Aside0.mk (Kd.R_below (Kd.R_drewN HK.out (nq + nk)) hb3)
                  have HBW3 : Aside0 (Below wo.heap.size wo w3) := ⟨HBW.out.trans ((pw_below_drewN (Below.refl _ _) (nq + nk)).trans (hb3.mono hszx))⟩
                  have hk3 := HCELL.out w3 HLB3.out
                  have hf3 : w3.frozen? ⟨wo.heap.size, kN, none⟩ = false := blk_frozen HLB3.out kN
                  clear HK HLB HBW HMK2 HCL HJA hb3 hx2
                  have hszy := HBW3.out.size
                  obtain ⟨Ak, ck, rfl⟩ := Kd.R_slice HK3.out
                  have hown := Kd.own_of_R HK3.out
                  obtain ⟨i0, hi0, hz0, hz1, hz2⟩ := info_parts info3
                  have hne3 := Kd.R_ne HK3.out HLB3.out (by decide)
                  have hj0 : (0 : Int) ≤ (j : Int) := Int.natCast_nonneg _
                  have hk0 : (0 : Int) ≤ (kN : Int) := Int.natCast_nonneg _
                  have hk4 : (kN : Int) < 4 := by omega
                  have hkl2 : kept.length + 1 ≤ 200001 := by omega
                  have hwo : wo.heap.size < w3.heap.size := blk_lt HLB3.out
                  have hfar : ∀ a : Addr, a.block < w1.heap.size → some a.block ≠ (Value.slice Ak kept.length ck).ownBlock := fun a ha e => by have := Kd.R_base HK3.out _ e.symm; omega
                  have had3 : (ad.add j).block < w3.heap.size := by omega
                  obtain ⟨cv, hcv⟩ : ∃ cv : World → Value, ∀ (w' : World) (v : Value), w'.cell? ⟨wo.heap.size, kN, none⟩ = some v → w'.cell? ⟨wo.heap.size, kN, none⟩ = some (cv w') := ⟨fun w' => (w'.cell? ⟨wo.heap.size, kN, none⟩).getD undef, fun w' v h => by simp [h]⟩
                  have HCV := Lib.hid hcv
                  have hadw : ad.block < w1.heap.size := by have := had1; unfold Addr.add at this; split at this <;> exact this
                  have hadne : (ad.add j).block ≠ wo.heap.size := by omega
                  clear hcv
                  go_wp2_with fail
                  go_region_held3 (fun w' => w'.cell? (ad.add j) = some (.int .i64 c2) ∧ w'.cell? ⟨wo.heap.size, kN, none⟩ = some (cv w') ∧ w'.frozen? ⟨wo.heap.size, kN, none⟩ = false) (first | exact ⟨cl_alloc _ hx3, HCV.out _ _ (cl_alloc _ hk3), fz_alloc _ hf3 hwo⟩ | exact ⟨(hgrow.cell_far _ (by simp; omega) (hfar _ had1)).trans (cl_alloc _ hx3), HCV.out _ _ ((hgrow.cell_far _ (by simp; omega) hne3).trans (cl_alloc _ hk3)), (hgrow.frozen_far _ (by simp; omega) hne3).trans (fz_alloc _ hf3 hwo)⟩ | exact ⟨st_other _ ((hgrow.cell_far _ (by simp; omega) (hfar _ had1)).trans (cl_alloc _ hx3)) hadne, HCV.out _ (.bool true) (st_same _ ((hgrow.cell_far _ (by simp; omega) hne3).trans (cl_alloc _ hk3))), st_frozen _ ((hgrow.frozen_far _ (by simp; omega) hne3).trans (fz_alloc _ hf3 hwo))⟩ | exact ⟨hx3, HCV.out _ _ hk3, hf3⟩ | go_keep) ((refine step_append_lies _ (by rfl) _ _ _ (by rfl) wo.heap.size 3 i0 _ 1 8 Tryd.underlying35 hi0 hz0 hz1 hz2 rfl (by omega) (.slice Ak kept.length ck) kept.length (encs (Value.int .i64) kept) (by rfl) ((hown.alloc _).drew) ⟨w3.heap.size, 0, none⟩ 1 1 [.int .i64 c2] (by rfl) (by rfl) (World.news_of_block (cs := #[.int .i64 c2]) (t := 3) (fr := (0, 0)) (heap_alloc_new w3 _)) (by simp [Value.oneCell']) (by omega) (by unfold maxLen; omega) (by omega) (by simp; omega) (w3.heap.size + 1) (by simp) ?_; intro gg cap w5 hown1 hgrow hat hlt))
                  have HLB5 : w5.heap[wo.heap.size]? = some (.cells (leftB kept) 63 (0, 0)) := blk_grown (g := wo.heap.size) (w := (w3.alloc (.cells #[.int .i64 c2] 3)).drew) ((Lib.alloc_old w3 _ _ hwo).trans HLB3.out) hgrow hne3
                  have HR5 : Kd.R (Kd.int .i64) 3 w5 wo.heap.size (fun _ => True) (.slice (some ⟨gg, 0, none⟩) (kept.length + 1) cap) (kept ++ [c2]) := Kd.R_of_own (by simpa [encs] using hown1) (fun _ _ => trivial)
                  have HR6 := Aside0.mk (Kd.R_set HR5 HLB5 (by intro q hq; simp [Kd.int, Kd.scalar] at hq; omega) kN (.bool true))
                  have HLB6 := Aside0.mk (blk_put HLB5 kN (.bool true) HSET.out)
                  have HBW6 := Aside0.mk ((((HBW3.out.alloc hszy (.cells #[.int .i64 c2] 3)).drew).grown hgrow (by simp; omega) (fun k hk => Kd.R_base HK3.out k hk)).setCell (p := ⟨wo.heap.size, kN, none⟩) (Nat.le_refl _) (.bool true))
                  clear hgrow hat hlt hown1 HLB5 HR5 HK3 HLB3 HBW3 hown hx3 hk3 hf3 hne3
                  go_wp2_with fail
                  go_roundg (n - (j + 1))
                  case measure => omega
                  case rel => exact ⟨j + 1, c', kept ++ [c2], _, by go_num, rfl, rfl, by omega, by omega, by omega, by simp; omega, HR6, HBW6, HLB6, HC, HE2, HD2⟩
                | some x =>
                  rw [hJ] at hE HJA
                  rw [joinV_some] at HJA
                  cases tk with
                  | false =>
                    have HE2 : Hid (compM ((l.drop (i + 1)).takeWhile isMk) c [] = compM ((l.drop (j + 1)).takeWhile isMk) x kept) := hE.trans (if_neg Bool.false_ne_true)
                    have hxx : Hid (hasS x = true) := join_has hJ
                    clear hE hJ
                    go_wp2_with (first | (go_at_call 67; refine (HMK2.out _).mono ?_; rintro e w' ⟨rfl, ⟨nq, rfl⟩⟩) | (go_at_call 68; refine (HCL.out _).mono ?_; rintro e w' ⟨rfl, ⟨nk, rfl⟩⟩))
                    refine (HJA.out _).mono ?_
                    rintro e w3 ⟨rfl, hb3⟩
                    have HLB3 := Aside0.mk ((hb3.block _ (blk_lt HLB.out)).trans HLB.out)
                    have HK3 := Aside0.mk (Kd.R_below (Kd.R_drewN HK.out (nq + nk)) hb3)
                    have HBW3 : Aside0 (Below wo.heap.size wo w3) := ⟨HBW.out.trans ((pw_below_drewN (Below.refl _ _) (nq + nk)).trans (hb3.mono hszx))⟩
                    have hk3 := HCELL.out w3 HLB3.out
                    clear HK HLB HBW HMK2 HCL HJA hb3 hx2
                    go_wp2_with fail
                    go_roundg (n - (j + 1))
                    case measure => omega
                    case rel => exact ⟨j + 1, x, kept, vk, by go_num, rfl, rfl, by omega, by omega, by omega, by omega, HK3, HBW3, HLB3, hxx, HE2, HD2⟩
                  | true =>
                    have HE2 : Hid (compM ((l.drop (i + 1)).takeWhile isMk) c [] = compM ((l.drop (j + 1)).takeWhile isMk) c' (kept ++ [c2])) := hE.trans (if_pos rfl)
                    clear hE hJ
                    go_wp2_with (first | (go_at_call 67; refine (HMK2.out _).mono ?_; rintro e w' ⟨rfl, ⟨nq, rfl⟩⟩) | (go_at_call 68; refine (HCL.out _).mono ?_; rintro e w' ⟨rfl, ⟨nk, rfl⟩⟩))
                    refine (HJA.out _).mono ?_
                    rintro e w3 ⟨rfl, hb3⟩
                    have hx3 := (hb3.cell hadb).trans hx2
                    have HLB3 := Aside0.mk ((hb3.block _ (blk_lt HLB.out)).trans HLB.out)
                    have HK3 := Aside0.mk (Kd.R_below (Kd.R_drewN HK.out (nq + nk)) hb3)
                    have HBW3 : Aside0 (Below wo.heap.size wo w3) := ⟨HBW.out.trans ((pw_below_drewN (Below.refl _ _) (nq + nk)).trans (hb3.mono hszx))⟩
                    have hk3 := HCELL.out w3 HLB3.out
                    have hf3 : w3.frozen? ⟨wo.heap.size, kN, none⟩ = false := blk_frozen HLB3.out kN
                    clear HK HLB HBW HMK2 HCL HJA hb3 hx2
                    have hszy := HBW3.out.size
                    obtain ⟨Ak, ck, rfl⟩ := Kd.R_slice HK3.out
                    have hown := Kd.own_of_R HK3.out
                    obtain ⟨i0, hi0, hz0, hz1, hz2⟩ := info_parts info3
                    have hne3 := Kd.R_ne HK3.out HLB3.out (by decide)
                    have hj0 : (0 : Int) ≤ (j : Int) := Int.natCast_nonneg _
                    have hk0 : (0 : Int) ≤ (kN : Int) := Int.natCast_nonneg _
                    have hk4 : (kN : Int) < 4 := by omega
                    have hkl2 : kept.length + 1 ≤ 200001 := by omega
                    have hwo : wo.heap.size < w3.heap.size := blk_lt HLB3.out
                    have hfar : ∀ a : Addr, a.block < w1.heap.size → some a.block ≠ (Value.slice Ak kept.length ck).ownBlock := fun a ha e => by have := Kd.R_base HK3.out _ e.symm; omega
                    have had3 : (ad.add j).block < w3.heap.size := by omega
                    obtain ⟨cv, hcv⟩ : ∃ cv : World → Value, ∀ (w' : World) (v : Value), w'.cell? ⟨wo.heap.size, kN, none⟩ = some v → w'.cell? ⟨wo.heap.size, kN, none⟩ = some (cv w') := ⟨fun w' => (w'.cell? ⟨wo.heap.size, kN, none⟩).getD undef, fun w' v h => by simp [h]⟩
                    have HCV := Lib.hid hcv
                    have hadw : ad.block < w1.heap.size := by have := had1; unfold Addr.add at this; split at this <;> exact this
                    have hadne : (ad.add j).block ≠ wo.heap.size := by omega
                    clear hcv
                    go_wp2_with fail
                    go_region_held3 (fun w' => w'.cell? (ad.add j) = some (.int .i64 c2) ∧ w'.cell? ⟨wo.heap.size, kN, none⟩ = some (cv w') ∧ w'.frozen? ⟨wo.heap.size, kN, none⟩ = false) (first | exact ⟨cl_alloc _ hx3, HCV.out _ _ (cl_alloc _ hk3), fz_alloc _ hf3 hwo⟩ | exact ⟨(hgrow.cell_far _ (by simp; omega) (hfar _ had1)).trans (cl_alloc _ hx3), HCV.out _ _ ((hgrow.cell_far _ (by simp; omega) hne3).trans (cl_alloc _ hk3)), (hgrow.frozen_far _ (by simp; omega) hne3).trans (fz_alloc _ hf3 hwo)⟩ | exact ⟨st_other _ ((hgrow.cell_far _ (by simp; omega) (hfar _ had1)).trans (cl_alloc _ hx3)) hadne, HCV.out _ (.bool true) (st_same _ ((hgrow.cell_far _ (by simp; omega) hne3).trans (cl_alloc _ hk3))), st_frozen _ ((hgrow.frozen_far _ (by simp; omega) hne3).trans (fz_alloc _ hf3 hwo))⟩ | exact ⟨hx3, HCV.out _ _ hk3, hf3⟩ | go_keep) ((refine step_append_lies _ (by rfl) _ _ _ (by rfl) wo.heap.size 3 i0 _ 1 8 Tryd.underlying35 hi0 hz0 hz1 hz2 rfl (by omega) (.slice Ak kept.length ck) kept.length (encs (Value.int .i64) kept) (by rfl) ((hown.alloc _).drew) ⟨w3.heap.size, 0, none⟩ 1 1 [.int .i64 c2] (by rfl) (by rfl) (World.news_of_block (cs := #[.int .i64 c2]) (t := 3) (fr := (0, 0)) (heap_alloc_new w3 _)) (by simp [Value.oneCell']) (by omega) (by unfold maxLen; omega) (by omega) (by simp; omega) (w3.heap.size + 1) (by simp) ?_; intro gg cap w5 hown1 hgrow hat hlt))
                    have HLB5 : w5.heap[wo.heap.size]? = some (.cells (leftB kept) 63 (0, 0)) := blk_grown (g := wo.heap.size) (w := (w3.alloc (.cells #[.int .i64 c2] 3)).drew) ((Lib.alloc_old w3 _ _ hwo).trans HLB3.out) hgrow hne3
                    have HR5 : Kd.R (Kd.int .i64) 3 w5 wo.heap.size (fun _ => True) (.slice (some ⟨gg, 0, none⟩) (kept.length + 1) cap) (kept ++ [c2]) := Kd.R_of_own (by simpa [encs] using hown1) (fun _ _ => trivial)
                    have HR6 := Aside0.mk (Kd.R_set HR5 HLB5 (by intro q hq; simp [Kd.int, Kd.scalar] at hq; omega) kN (.bool true))
                    have HLB6 := Aside0.mk (blk_put HLB5 kN (.bool true) HSET.out)
                    have HBW6 := Aside0.mk ((((HBW3.out.alloc hszy (.cells #[.int .i64 c2] 3)).drew).grown hgrow (by simp; omega) (fun k hk => Kd.R_base HK3.out k hk)).setCell (p := ⟨wo.heap.size, kN, none⟩) (Nat.le_refl _) (.bool true))
                    clear hgrow hat hlt hown1 HLB5 HR5 HK3 HLB3 HBW3 hown hx3 hk3 hf3 hne3
                    go_wp2_with fail
                    go_roundg (n - (j + 1))
                    case measure => omega
                    case rel => exact ⟨j + 1, c', kept ++ [c2], _, by go_num, rfl, rfl, by omega, by omega, by omega, by simp; omega, HR6, HBW6, HLB6, HC, HE2, HD2⟩
            · have hjz : ¬ (j : Int) < (n : Int) := by omega
              have hjd : l.drop j = [] := List.drop_of_length_le (by have := HN.out; omega)
              have HE2 : Hid (compM ((l.drop (i + 1)).takeWhile isMk) c [] = (c', kept)) := by have := HE.out; rw [hjd] at this; exact this
              have HD2 : Hid ((l.drop (i + 1)).dropWhile isMk = l.drop j) := by have := HDr.out; rw [hjd] at this ⊢; exact this
              clear HE HDr hjd
              go_wp2_with fail
              go_meet
              exact ⟨j, c', kept, vk, rfl, rfl, rfl, hij, hjn, hkl, HK, HBW, HE2, HD2⟩
        case rest =>
          clear HBW HLB
          obtain ⟨j, c', kept, vk, rfl, rfl, rfl, hij, hjn, hkl, HK, HBW, HE, HDr⟩ := hcut
          have HT3 : Hid ((out ++ [c'] ++ kept) ++ compF f (l.drop j) = T) := by
            have := HT2.out
            rw [HE.out, HDr.out] at this
            show _ = _
            rw [← this]
            simp
          clear HT2 HE HDr
          have hszx := HBW.out.size
          have HO2 := Aside0.mk (Kd.R_below HO.out HBW.out)
          have HB2 := Aside0.mk (below_step HB.out HBW.out)
          obtain ⟨Ak, ck, rfl⟩ := Kd.R_slice HK.out
          have HKB := Aside0.mk (Kd.R_mono (ok' := fun k => wo.heap.size ≤ k) (Kd.R_bound HK.out) (fun _ hk => hk.2.1))
          have HVB : Hid (∀ k, vo.ownBlock = some k → k < wo.heap.size) := fun k hk => Kd.R_lt HO.out k hk
          have hsz2 := HB2.out.size
          clear HO HB HK HBW
          go_wp2_with (first | ((with_reducible refine gate_dst (N := 81) rfl ?_); refine Kd.R_append_row (Value.int .i64) 0 (w0 := w1) w1.heap.size rfl (.tmp 78) (.tmp 80) 35 3 (.int .i64 0) 8 rfl Tryd.underlying35 info3 rfl (by decide) vo out [c'] (some ⟨wc.heap.size, 0, none⟩) 1 1 (fun _ => True) rfl rfl (fun _ _ => trivial) (Kd.R_alloc HO2.out _) (Kd.R_reads' (R_lits wc wc.heap.size w1.heap.size [c'] rfl hsz2 (by simp))).2.2 (below_alloc HB2.out _) (by simp; omega) (by omega) ?_; intro v1 w3 hr3 hb3 hg3 hat3; clear hat3; (try dsimp only [Act.put]); (try simp only [List.set_toArray, List.setIfInBounds_toArray, List.set_cons_succ, List.set_cons_zero])) | ((with_reducible refine gate_dst (N := 83) rfl ?_); refine Kd.R_append_row (Value.int .i64) 0 (w0 := w1) w1.heap.size rfl (.tmp 81) (.tmp 82) 35 3 (.int .i64 0) 8 rfl Tryd.underlying35 info3 rfl (by decide) v1 (out ++ [c']) kept Ak kept.length ck (fun _ => True) rfl rfl (fun _ _ => trivial) hr3 ?kc hb3 hb3.size (by simp; omega) ?_; (case kc => exact (Kd.R_reads' (Kd.R_grown (Kd.R_alloc HKB.out _) hg3 (fun k hk e => by have := HVB.out k e.symm; omega))).2.2); intro v2 w4 hr4 hb4 hg4 hat4; clear hg4 hat4; (try dsimp only [Act.put]); (try simp only [List.set_toArray, List.setIfInBounds_toArray, List.set_cons_succ, List.set_cons_zero])))
          go_roundg (n - j)
          case measure => omega
          case rel => exact ⟨j, out ++ [c'] ++ kept, v2, f, by go_num, rfl, by omega, by omega, by omega, by simp; omega, ⟨hr4⟩, ⟨hb4⟩, HT3⟩
    · have hltz : ¬ (i : Int) < (n : Int) := by omega
      have hfin : out = T := by have := HT.out; rw [List.drop_of_length_le (by have := HN.out; omega), compF_nil, List.append_nil] at this; exact this
      subst hfin
      obtain ⟨Ao, co, rfl⟩ := Kd.R_slice HO.out
      have HF := Lib.hid (HX.out Ao co wo (Kd.R_reads' HO.out).2.2 (Kd.R_reads' HO.out).2.1)
      go_wp2_with fail
      refine HF.out.mono ?_
      rintro e w3 ⟨rfl, hb3⟩
      have HB3 := Lib.hid (below_step (below_step HB1.out HB.out) hb3)
      clear hb3
      go_wp2_with fail
      go_ret
      exact ⟨rfl, HB3.out⟩
def normal_Compose.f (a0 : ByteArray) : Option ByteArray := (normal_decomposed.f a0).bind fun b => if ComposeOk b.1 then normal_text.f (compS b.1) else none
theorem normal_Compose.calls (a0 : ByteArray) (r : ByteArray) (w : World) (hG : GT1 w) (h : normal_Compose.f a0 = some r) :
    Calls Tryd.prog 40 #[.string a0] w fun e w' => e = .returned (.string r) ∧ Below w.heap.size w w' := by
  unfold normal_Compose.f at h
  obtain ⟨⟨l, okb⟩, h1, h2⟩ := Option.bind_eq_some_iff.1 h
  simp only at h2
  split at h2
  · rename_i ho
    exact compose_walk a0 w hG l okb h1 ho r h2
  · exact absurd h2 (by simp)
end Go.Proofs.YthcpdhniakpbaaaDoor.X
end

section
namespace Go.Proofs.YthcpdhniakpbaaaDoor.X
open Go.RowKit Go.Sort Go.Lib
set_option linter.unusedVariables false
set_option linter.unusedSimpArgs false
def NoHead (l : List Int) : Prop := ∀ c r, l = c :: r → isMk c = false
theorem NoHead.nil : NoHead [] := fun _ _ h => by cases h
theorem NoHead.cons {c : Int} {r : List Int} (h : isMk c = false) : NoHead (c :: r) := fun _ _ e => by injection e with e _; rw [← e]; exact h
theorem NoHead.take {l : List Int} (h : NoHead l) : l.takeWhile isMk = [] := by
  cases l with
  | nil => rfl
  | cons c r => rw [List.takeWhile_cons, h c r rfl]; rfl
theorem NoHead.drop {l : List Int} (h : NoHead l) : l.dropWhile isMk = l := by
  cases l with
  | nil => rfl
  | cons c r => rw [List.dropWhile_cons, h c r rfl]; rfl
theorem runF_more : ∀ (f : Nat) (l : List Int), l.length ≤ f → runF f l = runF l.length l
  | f, [], h => by rw [runF_nil, runF_nil]
  | 0, c :: r, h => by simp at h
  | f + 1, c :: r, h => by
    rw [List.length_cons, runF, runF]
    have hl : ((c :: r).dropWhile isMk).length ≤ r.length + 1 := by have := takeDrop_len (c :: r); simp at this ⊢; omega
    congr 1
    cases hd : (c :: r).dropWhile isMk with
    | nil => rfl
    | cons x y =>
      rw [hd] at hl
      simp only
      rw [runF_more f y (by simp at hl h; omega), runF_more r.length y (by simp at hl; omega)]
theorem runS_eq (l : List Int) : runS l = sortS (l.takeWhile isMk) ++ (match l.dropWhile isMk with | [] => [] | c :: r => c :: runS r) := by
  unfold runS
  rw [← runF_more (l.length + 1) l (by omega), runF]
  have hl := takeDrop_len l
  congr 1
  cases hd : l.dropWhile isMk with
  | nil => rfl
  | cons x y =>
    rw [hd] at hl
    simp only
    rw [runF_more l.length y (by simp at hl; omega)]
theorem runS_cons {c : Int} (h : isMk c = false) (r : List Int) : runS (c :: r) = c :: runS r := by
  rw [runS_eq, List.takeWhile_cons, List.dropWhile_cons, h]
  rfl
theorem runS_length : ∀ (n : Nat) (l : List Int), l.length ≤ n → (runS l).length = l.length
  | 0, l, h => by
    have : l = [] := List.length_eq_zero_iff.1 (by omega)
    subst this; rfl
  | n + 1, l, h => by
    have hl := takeDrop_len l
    rw [runS_eq, List.length_append, sortS_length]
    cases hd : l.dropWhile isMk with
    | nil => rw [hd] at hl; simpa using hl
    | cons c r =>
      rw [hd] at hl
      simp only [List.length_cons] at hl ⊢
      rw [runS_length n r (by omega)]
      omega
theorem runS_mem : ∀ (n : Nat) (l : List Int), l.length ≤ n → ∀ x, x ∈ runS l ↔ x ∈ l
  | 0, l, h, x => by
    have : l = [] := List.length_eq_zero_iff.1 (by omega)
    subst this; rfl
  | n + 1, l, h, x => by
    have hl := takeDrop_len l
    have e : x ∈ l ↔ x ∈ l.takeWhile isMk ∨ x ∈ l.dropWhile isMk := by rw [← List.mem_append, List.takeWhile_append_dropWhile]
    rw [runS_eq, List.mem_append, sortS_mem, e]
    cases hd : l.dropWhile isMk with
    | nil => rfl
    | cons c r =>
      rw [hd] at hl
      simp only [List.mem_cons, List.length_cons] at hl ⊢
      rw [runS_mem n r (by omega)]
theorem runS_noMarks : ∀ l : List Int, (∀ x ∈ l, isMk x = false) → runS l = l
  | [], _ => rfl
  | c :: r, h => by rw [runS_cons (h c (by simp)), runS_noMarks r (fun x hx => h x (by simp [hx]))]
def Atom (c : Int) : Prop := splitS c = [c] ∧ hasS c = true
theorem flat_atoms : ∀ l : List Int, (∀ x ∈ l, Atom x) → l.flatMap splitS = l
  | [], _ => rfl
  | c :: r, h => by rw [List.flatMap_cons, (h c (by simp)).1, flat_atoms r (fun x hx => h x (by simp [hx]))]; rfl
def nrowsB : Bool := nrows.all fun r => (r.b.all fun x => splitS x == [x] && !isMk x) && splitS r.mark == [r.mark] && isMk r.mark && (r.l.all fun x => !isMk x && nrows.all fun q => !q.b.contains x)
  && ((List.range r.l.length).all fun i => splitS (r.l.getD i 0) == [r.b.getD i 0, r.mark] && joinS (r.b.getD i 0) r.mark == some (r.l.getD i 0) && plc r.l (r.l.getD i 0) == i && plc r.b (r.b.getD i 0) == i)
theorem nrowsB_true : nrowsB = true := by decide +kernel
structure RowFacts (r : NRow) : Prop where
  base : ∀ x ∈ r.b, splitS x = [x] ∧ isMk x = false
  mark : splitS r.mark = [r.mark] ∧ isMk r.mark = true
  letter : ∀ x ∈ r.l, isMk x = false ∧ ∀ q ∈ nrows, x ∉ q.b
  pair : ∀ i, i < r.l.length → splitS (r.l.getD i 0) = [r.b.getD i 0, r.mark] ∧ joinS (r.b.getD i 0) r.mark = some (r.l.getD i 0) ∧ plc r.l (r.l.getD i 0) = i ∧ plc r.b (r.b.getD i 0) = i
theorem row_facts {r : NRow} (h : r ∈ nrows) : RowFacts r := by
  have h0 := List.all_eq_true.1 nrowsB_true r h
  simp only [Bool.and_eq_true, List.all_eq_true, beq_iff_eq, Bool.not_eq_true', List.mem_range] at h0
  obtain ⟨⟨⟨⟨h1, h2⟩, h3⟩, h4⟩, h5⟩ := h0
  exact ⟨fun x hx => h1 x hx, ⟨h2, h3⟩, fun x hx => ⟨(h4 x hx).1, fun q hq hm => by have := (h4 x hx).2 q hq; simp at this; exact this hm⟩, fun i hi => by have := h5 i hi; exact ⟨this.1.1.1, this.1.1.2, this.1.2, this.2⟩⟩
theorem marks_atoms : ((List.range 64).all fun n => !isMk (768 + n) || splitS (768 + n) == [(768 + n : Int)]) = true := by decide +kernel
theorem isMk_range {c : Int} (h : isMk c = true) : 768 ≤ c ∧ c ≤ 808 := by
  have h2 : (classS c).2 = 2 := by unfold isMk at h; simpa using h
  unfold classS classN at h2
  have hn : narrow c = c ∨ (65281 ≤ c ∧ c ≤ 65374 ∧ narrow c = c - 65248) := by unfold narrow; split <;> omega
  split at h2
  · simp at h2
  · split at h2
    · simp at h2
    · split at h2
      · simp at h2
      · split at h2
        · simp at h2
        · split at h2
          · rename_i hm
            unfold markS at hm
            have hm := of_decide_eq_true hm
            omega
          · split at h2 <;> simp at h2
theorem mark_atom {c : Int} (h : isMk c = true) : Atom c := by
  have hr := isMk_range h
  have := List.all_eq_true.1 marks_atoms (c - 768).toNat (List.mem_range.2 (by omega))
  rw [show (768 : Int) + ((c - 768).toNat : Int) = c by omega, h] at this
  exact ⟨by simpa using this, isMk_has h⟩
end Go.Proofs.YthcpdhniakpbaaaDoor.X
end

section
namespace Go.Proofs.YthcpdhniakpbaaaDoor.X
open Go.RowKit Go.Proofs.YthcpdhniakpbaaaDoorW.PrintWords Go.Proofs.YthcpdhniakpbaaaDoorW.PrintLast Go.Proofs.YthcpdhniakpbaaaDoorW.PrintMore
attribute [local go_sem] max2_int min2_int max_two min_two max_three min_three max_four min_four
set_option linter.unusedVariables false
set_option linter.unusedSimpArgs false
def slices_Equal_int_int.l0 : Nat → List Int → List Int → Int → Int → Option (Bool)
  | 0, _, _, _, _ => none
  | k + 1, x0, x1, x12, x13 => if x13 < x12 then (if 0 ≤ x13 then (if x13 < (x0.length : Int) then (if x13 < (x1.length : Int) then (if (rd x0 x13) = (rd x1 x13) then (slices_Equal_int_int.l0 k x0 x1 x12 (wrap64 (x13 + 1))) else (some false)) else (none)) else (none)) else (none)) else (some true)
def slices_Equal_int_int.f (k : Nat) (l0 : List Int) (l1 : List Int) : Option (Bool) := if (l0.length : Int) = (l1.length : Int) then (slices_Equal_int_int.l0 k l0 l1 (l0.length : Int) 0) else (some false)
set_option maxHeartbeats 8000000 in
set_option maxRecDepth 100000 in
theorem slices_Equal_int_int.calls (k : Nat) (A0 : Option Addr) (c0 : Nat) (l0 : List Int) (A1 : Option Addr) (c1 : Nat) (l1 : List Int) (r : Bool) (w : World) (hr0 : Kd.C (Kd.int .i64) w A0 l0.length l0) (hc0 : l0.length ≤ c0) (hr1 : Kd.C (Kd.int .i64) w A1 l1.length l1) (hc1 : l1.length ≤ c1) (h : slices_Equal_int_int.f k l0 l1 = some r) :
    Calls Tryd.prog 74 #[.slice A0 l0.length c0, .slice A1 l1.length c1] w fun e w' => e = .returned (.bool r) ∧ Drawn0 w w' := by
  have HR0 := Aside0.mk hr0
  have HC0 := Aside0.mk hc0
  clear hr0 hc0
  have HR1 := Aside0.mk hr1
  have HC1 := Aside0.mk hc1
  clear hr1 hc1
  have H : (if (l0.length : Int) = (l1.length : Int) then (slices_Equal_int_int.l0 k l0 l1 (l0.length : Int) 0) else (some false)) = some r := h
  clear h
  by_cases c3 : (l0.length : Int) = (l1.length : Int)
  · rw [if_pos c3] at H
    have c3b0 : ((l0.length : Int) == (l1.length : Int)) = true := beq_iff_eq.mpr c3
    have c3b1 : ((l0.length : Int) != (l1.length : Int)) = false := bne_eq_false_iff_eq.mpr c3
    have c3b2 : (l0.length == l1.length) = true := by first | simpa using c3 | (simp at c3 ⊢; omega)
    clear c3
    have H' := Aside0.mk H
    clear H
    go_enter Tryd.func74, Tryd.ntmps74
    go_wp2
    repeat (go_quiet (fail); try go_wp2)
    go_loopg [13] k (fun kq v13 w' => ∃ (x13_1 : Int), v13 = .int .i64 x13_1 ∧ Aside0 (slices_Equal_int_int.l0 kq l0 l1 (l0.length : Int) x13_1 = some r) ∧ Aside0 (kq ≤ k) ∧ Drawn0 w w')
    case atStart => exact ⟨(0), (by first | rfl | (simp; done) | (simp [*]; done)), H', ⟨Nat.le_refl _⟩, by repeat (first | exact Drawn0.refl _ | apply Drawn0.step)⟩
    case round =>
      clear H'
      try clear c1
      try clear p2
      try clear c3
      try clear c3b0
      try clear c3b1
      try clear c3b2
      obtain ⟨x13_1, rfl, HA, HK1, ⟨m1, rfl⟩⟩ := hrel
      cases gk with
      | zero => exact absurd HA.out (by simp [slices_Equal_int_int.l0])
      | succ k1 =>
        have H := HA.out
        clear HA
        simp only [slices_Equal_int_int.l0] at H
        by_cases c4 : x13_1 < (l0.length : Int)
        · rw [if_pos c4] at H
          have c4b0 : decide (x13_1 < (l0.length : Int)) = true := decide_eq_true c4
          clear c4
          by_cases c5 : 0 ≤ x13_1
          · rw [if_pos c5] at H
            have c5b0 : decide (0 ≤ x13_1) = true := decide_eq_true c5
            clear c5
            by_cases c6 : x13_1 < (l0.length : Int)
            · rw [if_pos c6] at H
              have c6b0 : decide (x13_1 < (l0.length : Int)) = true := decide_eq_true c6
              clear c6
              by_cases c7 : x13_1 < (l1.length : Int)
              · rw [if_pos c7] at H
                have c7b0 : decide (x13_1 < (l1.length : Int)) = true := decide_eq_true c7
                clear c7
                by_cases c8 : (rd l0 x13_1) = (rd l1 x13_1)
                · rw [if_pos c8] at H
                  have c8b0 : ((rd l0 x13_1) == (rd l1 x13_1)) = true := beq_iff_eq.mpr c8
                  have c8b1 : ((rd l0 x13_1) != (rd l1 x13_1)) = false := bne_eq_false_iff_eq.mpr c8
                  clear c8
                  have H' := Aside0.mk H
                  clear H
                  have p213 : 0 ≤ (x13_1 : Int) := of_decide_eq_true (by first | (with_reducible assumption) | assumption)
                  have q213 : x13_1 < (l0.length : Int) := of_decide_eq_true (by first | (with_reducible assumption) | assumption)
                  obtain ⟨ad213, e213, hx213_0⟩ := Kd.at_int HR0.out x13_1 p213 q213
                  cases e213
                  replace p213 := eq_true p213
                  replace q213 := eq_true q213
                  have p214 : 0 ≤ (x13_1 : Int) := of_decide_eq_true (by first | (with_reducible assumption) | assumption)
                  have q214 : x13_1 < (l1.length : Int) := of_decide_eq_true (by first | (with_reducible assumption) | assumption)
                  obtain ⟨ad214, e214, hx214_0⟩ := Kd.at_int HR1.out x13_1 p214 q214
                  cases e214
                  replace p214 := eq_true p214
                  replace q214 := eq_true q214
                  go_wp2
                  repeat (go_quiet (fail); try go_wp2)
                  go_roundg k1
                  case measure => have := HK1.out; omega
                  case rel => exact ⟨(wrap64 (x13_1 + 1)), (by first | rfl | (simp; done) | (simp [*]; done)), H', ⟨by have := HK1.out; omega⟩, by repeat (first | exact Drawn0.refl _ | apply Drawn0.step)⟩
                · rw [if_neg c8] at H
                  have c8b0 : ((rd l0 x13_1) == (rd l1 x13_1)) = false := beq_eq_false_iff_ne.mpr c8
                  have c8b1 : ((rd l0 x13_1) != (rd l1 x13_1)) = true := bne_iff_ne.mpr c8
                  obtain rfl := Option.some.inj H
                  have p213 : 0 ≤ (x13_1 : Int) := of_decide_eq_true (by first | (with_reducible assumption) | assumption)
                  have q213 : x13_1 < (l0.length : Int) := of_decide_eq_true (by first | (with_reducible assumption) | assumption)
                  obtain ⟨ad213, e213, hx213_0⟩ := Kd.at_int HR0.out x13_1 p213 q213
                  cases e213
                  replace p213 := eq_true p213
                  replace q213 := eq_true q213
                  have p214 : 0 ≤ (x13_1 : Int) := of_decide_eq_true (by first | (with_reducible assumption) | assumption)
                  have q214 : x13_1 < (l1.length : Int) := of_decide_eq_true (by first | (with_reducible assumption) | assumption)
                  obtain ⟨ad214, e214, hx214_0⟩ := Kd.at_int HR1.out x13_1 p214 q214
                  cases e214
                  replace p214 := eq_true p214
                  replace q214 := eq_true q214
                  go_wp2
                  repeat (go_quiet (fail); try go_wp2)
                  go_ret
                  exact ⟨by first | rfl | (simp; done) | (simp [*]; done), by repeat (first | exact Drawn0.refl _ | apply Drawn0.step)⟩
              · rw [if_neg c7] at H
                exact absurd H (by simp)
            · rw [if_neg c6] at H
              exact absurd H (by simp)
          · rw [if_neg c5] at H
            exact absurd H (by simp)
        · rw [if_neg c4] at H
          have c4b0 : decide (x13_1 < (l0.length : Int)) = false := decide_eq_false c4
          clear c4
          obtain rfl := Option.some.inj H
          go_wp2
          repeat (go_quiet (fail); try go_wp2)
          go_ret
          exact ⟨by first | rfl | (simp; done) | (simp [*]; done), by repeat (first | exact Drawn0.refl _ | apply Drawn0.step)⟩
  · rw [if_neg c3] at H
    have c3b0 : ((l0.length : Int) == (l1.length : Int)) = false := beq_eq_false_iff_ne.mpr c3
    have c3b1 : ((l0.length : Int) != (l1.length : Int)) = true := bne_iff_ne.mpr c3
    have c3b2 : (l0.length == l1.length) = false := by first | simpa using c3 | (simp at c3 ⊢; omega)
    obtain rfl := Option.some.inj H
    go_enter Tryd.func74, Tryd.ntmps74
    go_wp2
    repeat (go_quiet (fail); try go_wp2)
    go_ret
    exact ⟨by first | rfl | (simp; done) | (simp [*]; done), by repeat (first | exact Drawn0.refl _ | apply Drawn0.step)⟩
end Go.Proofs.YthcpdhniakpbaaaDoor.X
end

section
namespace Go.Proofs.YthcpdhniakpbaaaDoor.X
open Go.RowKit Go.Sort Go.Lib Go.Proofs.YthcpdhniakpbaaaDoorW.PrintWords Go.Proofs.YthcpdhniakpbaaaDoorW.PrintLast Go.Proofs.YthcpdhniakpbaaaDoorW.PrintMore
set_option linter.unusedVariables false
set_option linter.unusedSimpArgs false
def Ev {α : Type} (g : Nat → Option α) (r : α) : Prop := ∃ K, ∀ k, K ≤ k → g k = some r
theorem Ev.const {α : Type} (r : α) : Ev (fun _ => some r) r := ⟨0, fun _ _ => rfl⟩
theorem Ev.of {α : Type} {g : Nat → Option α} {r : α} (h : ∀ k, g k = some r) : Ev g r := ⟨0, fun k _ => h k⟩
theorem Ev.step {α : Type} {g g' : Nat → Option α} {r : α} (h : ∀ k, g (k + 1) = g' k) (e : Ev g' r) : Ev g r := by
  obtain ⟨K, hK⟩ := e
  refine ⟨K + 1, fun k hk => ?_⟩
  obtain ⟨q, rfl⟩ : ∃ q, k = q + 1 := ⟨k - 1, by omega⟩
  rw [h, hK q (by omega)]
theorem Ev.congr {α : Type} {g g' : Nat → Option α} {r : α} (h : ∀ k, g k = g' k) (e : Ev g' r) : Ev g r := by
  obtain ⟨K, hK⟩ := e
  exact ⟨K, fun k hk => by rw [h, hK k hk]⟩
theorem Ev.bind {α β : Type} {g : Nat → Option α} {h : Nat → α → Option β} {a : α} {r : β} (e : Ev g a) (e' : Ev (fun k => h k a) r) : Ev (fun k => (g k).bind (h k)) r := by
  obtain ⟨K, hK⟩ := e
  obtain ⟨L, hL⟩ := e'
  exact ⟨max K L, fun k hk => by show (g k).bind (h k) = _; rw [hK k (by omega)]; exact hL k (by omega)⟩
theorem Ev.get {α : Type} {g : Nat → Option α} {r : α} (e : Ev g r) : ∃ k, g k = some r := by
  obtain ⟨K, hK⟩ := e
  exact ⟨K, hK K (Nat.le_refl _)⟩
theorem rd_get {xs : List Int} {j : Nat} (hj : j < xs.length) : rd xs (j : Int) = xs[j] := by unfold rd; simp [hj]
theorem w64n (n : Nat) (h : n < 1000000000000) : wrap64 ((n : Int) + 1) = ((n + 1 : Nat) : Int) := by unfold wrap64; omega
end Go.Proofs.YthcpdhniakpbaaaDoor.X
end

section
namespace Go.Proofs.YthcpdhniakpbaaaDoor.X
open Go.RowKit Go.Sort Go.Lib Go.Proofs.YthcpdhniakpbaaaDoorW.PrintWords Go.Proofs.YthcpdhniakpbaaaDoorW.PrintLast Go.Proofs.YthcpdhniakpbaaaDoorW.PrintMore
set_option linter.unusedVariables false
set_option linter.unusedSimpArgs false
structure Tail (A S : List Int) : Prop where
  last : ∀ A' c, A = A' ++ [c] → isMk c = false
  marks : ∀ x ∈ S, isMk x = true
  srt : Srt S
  has : ∀ x ∈ A ++ S, hasS x = true
theorem Tail.mark {A S : List Int} {x : Int} (h : Tail A S) (hm : isMk x = true) : Tail A (sortS (S ++ [x])) where
  last := h.last
  marks y hy := by
    rcases List.mem_append.1 (sortS_mem.1 hy) with hy | hy
    · exact h.marks y hy
    · obtain rfl := List.mem_singleton.1 hy; exact hm
  srt := sortS_srt _
  has y hy := by
    rcases List.mem_append.1 hy with hy | hy
    · exact h.has y (List.mem_append_left _ hy)
    · rcases List.mem_append.1 (sortS_mem.1 hy) with hy | hy
      · exact h.has y (List.mem_append_right _ hy)
      · obtain rfl := List.mem_singleton.1 hy; exact isMk_has hm
theorem Tail.nil : Tail [] [] := ⟨fun A' c e => by simp at e, by simp, by simp [Srt], by simp⟩
end Go.Proofs.YthcpdhniakpbaaaDoor.X
end

section
namespace Go.Proofs.YthcpdhniakpbaaaDoor.X
open Go.RowKit Go.Sort Go.Lib Go.Proofs.YthcpdhniakpbaaaDoorW.PrintWords Go.Proofs.YthcpdhniakpbaaaDoorW.PrintLast Go.Proofs.YthcpdhniakpbaaaDoorW.PrintMore
set_option linter.unusedVariables false
set_option linter.unusedSimpArgs false
def chs (s : ByteArray) : List Int := (decR [] s.data.toList).1
def okS (s : ByteArray) : Bool := (decR [] s.data.toList).2
theorem decD_has {cs : List Int} (h : ∀ c ∈ cs, hasS c = true) : ∀ x ∈ decD cs, hasS x = true := fun x hx => flat_has h x ((runS_mem _ _ (Nat.le_refl _) x).1 hx)
theorem decD_len (cs : List Int) : (decD cs).length ≤ 2 * cs.length := by
  unfold decD
  rw [runS_length _ _ (Nat.le_refl _)]
  exact flat_len cs
theorem chs_has (s : ByteArray) : ∀ c ∈ chs s, hasS c = true := by
  unfold chs decR
  cases hd : decS hasS s.data.toList with
  | none => simp
  | some cs => simpa using fun c hc => ((decS_back hd).2 c hc).2
theorem chs_len (s : ByteArray) : (chs s).length ≤ s.size := by
  unfold chs decR
  cases hd : decS hasS s.data.toList with
  | none => simp
  | some cs =>
    have h1 := (decS_back hd).1
    have h2 := encL_ge cs
    rw [← h1] at h2
    have h3 : s.data.toList.length = s.size := Array.length_toList
    simp
    omega
def bytesOfL (l : List Int) : ByteArray := ⟨(encL l).toArray⟩
def cntM (l : List Int) : Nat := (l.filter isMk).length
theorem cntM_cons (c : Int) (l : List Int) : cntM (c :: l) = (if isMk c = true then 1 else 0) + cntM l := by
  unfold cntM
  rw [List.filter_cons]
  split <;> simp <;> omega
end Go.Proofs.YthcpdhniakpbaaaDoor.X
end

section
namespace Go.Proofs.YthcpdhniakpbaaaDoor.X
open Go.RowKit Go.Proofs.YthcpdhniakpbaaaDoorW.PrintWords Go.Proofs.YthcpdhniakpbaaaDoorW.PrintLast Go.Proofs.YthcpdhniakpbaaaDoorW.PrintMore
attribute [local go_sem] max2_int min2_int max_two min_two max_three min_three max_four min_four
set_option linter.unusedVariables false
set_option linter.unusedSimpArgs false
def normal_Decompose.f (a0 : ByteArray) : Option (ByteArray) := (normal_decomposed.f a0).bind fun bt585 => ((normal_text.f bt585.1).bind fun t589 => (some t589))
set_option maxHeartbeats 8000000 in
set_option maxRecDepth 100000 in
theorem normal_Decompose.calls (a0 : ByteArray) (r : ByteArray) (w : World) (hG : GT1 w) (h : normal_Decompose.f a0 = some r) :
    Calls Tryd.prog 38 #[.string a0] w fun e w' => e = .returned (.string r) ∧ Below w.heap.size w w' := by
  have HG := Aside0.mk hG
  clear hG
  have HB := Aside0.mk (Below.refl w.heap.size w)
  have H : ((normal_decomposed.f a0).bind fun bt585 => ((normal_text.f bt585.1).bind fun t589 => (some t589))) = some r := h
  clear h
  replace H := Option.bind_eq_some_iff.mp H
  obtain ⟨⟨t585, t586⟩, A20, H⟩ := H
  replace H : ((normal_text.f t585).bind fun t589 => (some t589)) = some r := H
  have A2 := Aside0.mk A20
  clear A20
  replace H := Option.bind_eq_some_iff.mp H
  obtain ⟨t589, A30, H⟩ := H
  replace H : (some t589) = some r := H
  have A3 := Aside0.mk A30
  clear A30
  obtain rfl := Option.some.inj H
  go_enter Tryd.func38, Tryd.ntmps38
  go_wp2_with (first | ((with_reducible refine gate_callee (f := 64) rfl ?_); refine goesL_ (some 7) rfl rfl Tryd.func64 (by kernel_rfl) rfl #[.string a0] rfl (by (try simp only [List.map_toArray, List.map_cons, List.map_nil]); first | done | rfl | (simp only [List.length_drop, List.length_take]; rfl)) ?_; (with_reducible refine (normal_decomposed.calls a0 t585 t586 _ ?side1 A2.out).mono ?_); (case side1 => exact GT1.below (HG.out) (by repeat (first | (with_reducible first | exact HB.out | apply below_alloc | apply pw_below_drewN | apply below_drew1) | exact HB.out))); rintro e w4 ⟨v587, rfl, ho0, hb⟩; refine ⟨_, rfl, ?_⟩; have n0_ := Aside0.mk (Kd.R_lower ho0 (below_size (by repeat (first | (with_reducible first | exact HB.out | apply below_alloc | apply pw_below_drewN | apply below_drew1) | exact HB.out)))); have n1_ := Aside0.mk (below_step (by repeat (first | (with_reducible first | exact HB.out | apply below_alloc | apply pw_below_drewN | apply below_drew1) | exact HB.out)) hb); clear HB; have HO588 := n0_; have HB := n1_; clear n0_ n1_; (try clear hb); (try clear hb2); (try clear hk); (try clear hi); (try clear ho0); obtain ⟨Ao5, co5, eo5⟩ := Kd.R_slice HO588.out; subst eo5) | ((with_reducible refine gate_callee (f := 65) rfl ?_); refine goesL_ (some 11) rfl rfl Tryd.func65 (by kernel_rfl) rfl #[.slice Ao5 t585.length co5] rfl (by (try simp only [List.map_toArray, List.map_cons, List.map_nil]); first | done | rfl | (simp only [List.length_drop, List.length_take]; rfl)) ?_; (with_reducible refine (normal_text.calls _ _ t585 t589 _ ?side1 ?side2 A3.out).mono ?_); (case side1 => repeat (first | exact (Kd.R_reads' HO588.out).2.2 | (with_reducible refine Kd.C_alloc ?_ _) | (with_reducible refine Kd.C_drewN ?_ _) | (with_reducible refine Kd.C_drew ?_))); (case side2 => exact (Kd.R_reads' HO588.out).2.1); rintro e w6 ⟨rfl, hb⟩; refine ⟨_, rfl, ?_⟩; have n0_ := Aside0.mk (Kd.R_below (by (with_reducible repeat (first | apply Kd.R_alloc | apply Kd.R_drewN | apply Kd.R_drew)); exact HO588.out) hb); have n1_ := Aside0.mk (below_step (by repeat (first | (with_reducible first | exact HB.out | apply below_alloc | apply pw_below_drewN | apply below_drew1) | exact HB.out)) hb); clear HO588; clear HB; have HO588 := n0_; have HB := n1_; clear n0_ n1_; (try clear hb); (try clear hb2); (try clear hk); (try clear hi)))
  go_ret
  exact ⟨by first | rfl | (simp [errW_none, errW_some] <;> rfl) | (simp [*, errW_none, errW_some] <;> rfl), by repeat (first | (with_reducible first | exact HB.out | apply below_alloc | apply pw_below_drewN | apply below_drew1) | exact HB.out)⟩
def normal_Marks.l0 : Nat → Int → List Int → Int → Int → Option (Int)
  | 0, _, _, _, _ => none
  | k + 1, x3, x13, x14, x15 => if x15 < x14 then (if 0 ≤ x15 then (if x15 < (x13.length : Int) then ((normal_mark.f k (rd x13 x15)).bind fun t595 => (if t595 = true then (normal_Marks.l0 k (wrap64 (x3 + 1)) x13 x14 (wrap64 (x15 + 1))) else (normal_Marks.l0 k x3 x13 x14 (wrap64 (x15 + 1))))) else (none)) else (none)) else (some x3)
def normal_Marks.f (k : Nat) (a0 : ByteArray) : Option (Int) := (normal_decomposed.f a0).bind fun bt590 => (normal_Marks.l0 k 0 bt590.1 (bt590.1.length : Int) 0)
set_option maxHeartbeats 8000000 in
set_option maxRecDepth 100000 in
theorem normal_Marks.calls (k : Nat) (a0 : ByteArray) (r : Int) (w : World) (hG : GT1 w) (h : normal_Marks.f k a0 = some r) :
    Calls Tryd.prog 46 #[.string a0] w fun e w' => e = .returned (.int .i64 r) ∧ Below w.heap.size w w' := by
  have HG := Aside0.mk hG
  clear hG
  have HB := Aside0.mk (Below.refl w.heap.size w)
  have H : ((normal_decomposed.f a0).bind fun bt590 => (normal_Marks.l0 k 0 bt590.1 (bt590.1.length : Int) 0)) = some r := h
  clear h
  replace H := Option.bind_eq_some_iff.mp H
  obtain ⟨⟨t590, t591⟩, A20, H⟩ := H
  replace H : (normal_Marks.l0 k 0 t590 (t590.length : Int) 0) = some r := H
  have A2 := Aside0.mk A20
  clear A20
  have H' := Aside0.mk H
  clear H
  go_enter Tryd.func46, Tryd.ntmps46
  go_wp2_with (first | ((with_reducible refine gate_callee (f := 64) rfl ?_); refine goesL_ (some 10) rfl rfl Tryd.func64 (by kernel_rfl) rfl #[.string a0] rfl (by (try simp only [List.map_toArray, List.map_cons, List.map_nil]); first | done | rfl | (simp only [List.length_drop, List.length_take]; rfl)) ?_; (with_reducible refine (normal_decomposed.calls a0 t590 t591 _ ?side1 A2.out).mono ?_); (case side1 => exact GT1.below (HG.out) (by repeat (first | (with_reducible first | exact HB.out | apply below_alloc | apply pw_below_drewN | apply below_drew1) | exact HB.out))); rintro e w3 ⟨v592, rfl, ho0, hb⟩; refine ⟨_, rfl, ?_⟩; have n0_ := Aside0.mk (Kd.R_lower ho0 (below_size (by repeat (first | (with_reducible first | exact HB.out | apply below_alloc | apply pw_below_drewN | apply below_drew1) | exact HB.out)))); have n1_ := Aside0.mk (below_step (by repeat (first | (with_reducible first | exact HB.out | apply below_alloc | apply pw_below_drewN | apply below_drew1) | exact HB.out)) hb); clear HB; have HO593 := n0_; have HB := n1_; clear n0_ n1_; (try clear hb); (try clear hb2); (try clear hk); (try clear hi); (try clear ho0); obtain ⟨Ao4, co4, eo4⟩ := Kd.R_slice HO593.out; subst eo4))
  go_loopg [3, 15] k (fun kq v3 v15 w' => ∃ (x3_1 : Int) (x15_1 : Int), v3 = .int .i64 x3_1 ∧ v15 = .int .i64 x15_1 ∧ Aside0 (normal_Marks.l0 kq x3_1 t590 (t590.length : Int) x15_1 = some r) ∧ Aside0 (kq ≤ k) ∧ Aside0 (Kd.R (Kd.int .i64) 3 w' w.heap.size (fun _ => True) (.slice Ao4 t590.length co4) t590) ∧ Aside0 (Below w.heap.size w w'))
  case atStart => exact ⟨(0), (0), (by first | rfl | (simp; done) | (simp [*]; done)), (by first | rfl | (simp; done) | (simp [*]; done)), H', ⟨Nat.le_refl _⟩, ⟨by (with_reducible repeat (first | apply Kd.R_alloc | apply Kd.R_drewN | apply Kd.R_drew)); exact HO593.out⟩, ⟨by repeat (first | (with_reducible first | exact HB.out | apply below_alloc | apply pw_below_drewN | apply below_drew1) | exact HB.out)⟩⟩
  case round =>
    clear H'
    try clear p2
    try clear c4
    obtain ⟨x3_1, x15_1, rfl, rfl, HA, HK1, HO_13, HB⟩ := hrel
    cases gk with
    | zero => exact absurd HA.out (by simp [normal_Marks.l0])
    | succ k1 =>
      have H := HA.out
      clear HA
      simp only [normal_Marks.l0] at H
      by_cases c5 : x15_1 < (t590.length : Int)
      · rw [if_pos c5] at H
        have c5b0 : decide (x15_1 < (t590.length : Int)) = true := decide_eq_true c5
        clear c5
        by_cases c6 : 0 ≤ x15_1
        · rw [if_pos c6] at H
          have c6b0 : decide (0 ≤ x15_1) = true := decide_eq_true c6
          clear c6
          by_cases c7 : x15_1 < (t590.length : Int)
          · rw [if_pos c7] at H
            have c7b0 : decide (x15_1 < (t590.length : Int)) = true := decide_eq_true c7
            clear c7
            replace H := Option.bind_eq_some_iff.mp H
            obtain ⟨t595, A80, H⟩ := H
            replace H : (if t595 = true then (normal_Marks.l0 k1 (wrap64 (x3_1 + 1)) t590 (t590.length : Int) (wrap64 (x15_1 + 1))) else (normal_Marks.l0 k1 x3_1 t590 (t590.length : Int) (wrap64 (x15_1 + 1)))) = some r := H
            have A8 := Aside0.mk A80
            clear A80
            by_cases c9 : t595 = true
            · subst c9
              have H1 : (normal_Marks.l0 k1 (wrap64 (x3_1 + 1)) t590 (t590.length : Int) (wrap64 (x15_1 + 1))) = some r := by rw [if_pos rfl] at H; exact H
              clear H
              have H := H1
              clear H1
              have H' := Aside0.mk H
              clear H
              have p594 : 0 ≤ (x15_1 : Int) := of_decide_eq_true (by first | (with_reducible assumption) | assumption)
              have q594 : x15_1 < (t590.length : Int) := of_decide_eq_true (by first | (with_reducible assumption) | assumption)
              obtain ⟨ad594, e594, hx594_0⟩ := Kd.at_int (Kd.R_reads' HO_13.out).2.2 x15_1 p594 q594
              cases e594
              replace p594 := eq_true p594
              replace q594 := eq_true q594
              go_wp2_with (first | ((with_reducible refine gate_callee (f := 67) rfl ?_); refine goesL_ (some 20) rfl rfl Tryd.func67 (by kernel_rfl) rfl #[.int .i64 (rd t590 x15_1)] rfl (by (try simp only [List.map_toArray, List.map_cons, List.map_nil]); first | done | rfl | (simp only [List.length_drop, List.length_take]; rfl)) ?_; (with_reducible refine (normal_mark.calls k1 (rd t590 x15_1) true _ A8.out).mono ?_); rintro e w' ⟨rfl, ⟨nd, rfl⟩⟩; refine ⟨_, rfl, ?_⟩))
              go_roundg k1
              case measure => have := HK1.out; omega
              case rel => exact ⟨(wrap64 (x3_1 + 1)), (wrap64 (x15_1 + 1)), (by first | rfl | (simp; done) | (simp [*]; done)), (by first | rfl | (simp; done) | (simp [*]; done)), H', ⟨by have := HK1.out; omega⟩, ⟨by (with_reducible repeat (first | apply Kd.R_alloc | apply Kd.R_drewN | apply Kd.R_drew)); exact HO_13.out⟩, ⟨by repeat (first | (with_reducible first | exact HB.out | apply below_alloc | apply pw_below_drewN | apply below_drew1) | exact HB.out)⟩⟩
            · replace c9 := Bool.eq_false_iff.mpr c9
              subst c9
              have H1 : (normal_Marks.l0 k1 x3_1 t590 (t590.length : Int) (wrap64 (x15_1 + 1))) = some r := by rw [if_neg (show ¬ (false = true) by decide)] at H; exact H
              clear H
              have H := H1
              clear H1
              have H' := Aside0.mk H
              clear H
              have p594 : 0 ≤ (x15_1 : Int) := of_decide_eq_true (by first | (with_reducible assumption) | assumption)
              have q594 : x15_1 < (t590.length : Int) := of_decide_eq_true (by first | (with_reducible assumption) | assumption)
              obtain ⟨ad594, e594, hx594_0⟩ := Kd.at_int (Kd.R_reads' HO_13.out).2.2 x15_1 p594 q594
              cases e594
              replace p594 := eq_true p594
              replace q594 := eq_true q594
              go_wp2_with (first | ((with_reducible refine gate_callee (f := 67) rfl ?_); refine goesL_ (some 20) rfl rfl Tryd.func67 (by kernel_rfl) rfl #[.int .i64 (rd t590 x15_1)] rfl (by (try simp only [List.map_toArray, List.map_cons, List.map_nil]); first | done | rfl | (simp only [List.length_drop, List.length_take]; rfl)) ?_; (with_reducible refine (normal_mark.calls k1 (rd t590 x15_1) false _ A8.out).mono ?_); rintro e w' ⟨rfl, ⟨nd, rfl⟩⟩; refine ⟨_, rfl, ?_⟩))
              go_roundg k1
              case measure => have := HK1.out; omega
              case rel => exact ⟨(x3_1), (wrap64 (x15_1 + 1)), (by first | rfl | (simp; done) | (simp [*]; done)), (by first | rfl | (simp; done) | (simp [*]; done)), H', ⟨by have := HK1.out; omega⟩, ⟨by (with_reducible repeat (first | apply Kd.R_alloc | apply Kd.R_drewN | apply Kd.R_drew)); exact HO_13.out⟩, ⟨by repeat (first | (with_reducible first | exact HB.out | apply below_alloc | apply pw_below_drewN | apply below_drew1) | exact HB.out)⟩⟩
          · rw [if_neg c7] at H
            exact absurd H (by simp)
        · rw [if_neg c6] at H
          exact absurd H (by simp)
      · rw [if_neg c5] at H
        have c5b0 : decide (x15_1 < (t590.length : Int)) = false := decide_eq_false c5
        clear c5
        obtain rfl := Option.some.inj H
        go_wp2
        go_ret
        exact ⟨by first | rfl | (simp [errW_none, errW_some] <;> rfl) | (simp [*, errW_none, errW_some] <;> rfl), by repeat (first | (with_reducible first | exact HB.out | apply below_alloc | apply pw_below_drewN | apply below_drew1) | exact HB.out)⟩
def normal_Equal.f (k : Nat) (a0 : ByteArray) (a1 : ByteArray) : Option (Bool) := (normal_decomposed.f a0).bind fun bt596 => ((normal_decomposed.f a1).bind fun bt600 => (if bt596.2 = true then (if bt600.2 = true then ((slices_Equal_int_int.f k bt596.1 bt600.1).bind fun t604 => (some t604)) else (some false)) else (some false)))
set_option maxHeartbeats 8000000 in
set_option maxRecDepth 100000 in
theorem normal_Equal.calls (k : Nat) (a0 : ByteArray) (a1 : ByteArray) (r : Bool) (w : World) (hG : GT1 w) (h : normal_Equal.f k a0 a1 = some r) :
    Calls Tryd.prog 48 #[.string a0, .string a1] w fun e w' => e = .returned (.bool r) ∧ Below w.heap.size w w' := by
  have HG := Aside0.mk hG
  clear hG
  have HB := Aside0.mk (Below.refl w.heap.size w)
  have H : ((normal_decomposed.f a0).bind fun bt596 => ((normal_decomposed.f a1).bind fun bt600 => (if bt596.2 = true then (if bt600.2 = true then ((slices_Equal_int_int.f k bt596.1 bt600.1).bind fun t604 => (some t604)) else (some false)) else (some false)))) = some r := h
  clear h
  replace H := Option.bind_eq_some_iff.mp H
  obtain ⟨⟨t596, t597⟩, A30, H⟩ := H
  replace H : ((normal_decomposed.f a1).bind fun bt600 => (if t597 = true then (if bt600.2 = true then ((slices_Equal_int_int.f k t596 bt600.1).bind fun t604 => (some t604)) else (some false)) else (some false))) = some r := H
  have A3 := Aside0.mk A30
  clear A30
  replace H := Option.bind_eq_some_iff.mp H
  obtain ⟨⟨t600, t601⟩, A40, H⟩ := H
  replace H : (if t597 = true then (if t601 = true then ((slices_Equal_int_int.f k t596 t600).bind fun t604 => (some t604)) else (some false)) else (some false)) = some r := H
  have A4 := Aside0.mk A40
  clear A40
  by_cases c5 : t597 = true
  · subst c5
    have H1 : (if t601 = true then ((slices_Equal_int_int.f k t596 t600).bind fun t604 => (some t604)) else (some false)) = some r := by rw [if_pos rfl] at H; exact H
    clear H
    have H := H1
    clear H1
    by_cases c6 : t601 = true
    · subst c6
      have H1 : ((slices_Equal_int_int.f k t596 t600).bind fun t604 => (some t604)) = some r := by rw [if_pos rfl] at H; exact H
      clear H
      have H := H1
      clear H1
      replace H := Option.bind_eq_some_iff.mp H
      obtain ⟨t604, A70, H⟩ := H
      replace H : (some t604) = some r := H
      have A7 := Aside0.mk A70
      clear A70
      obtain rfl := Option.some.inj H
      go_enter Tryd.func48, Tryd.ntmps48
      go_wp2_with (first | ((with_reducible refine gate_callee (f := 64) rfl ?_); refine goesL_ (some 11) rfl rfl Tryd.func64 (by kernel_rfl) rfl #[.string a0] rfl (by (try simp only [List.map_toArray, List.map_cons, List.map_nil]); first | done | rfl | (simp only [List.length_drop, List.length_take]; rfl)) ?_; (with_reducible refine (normal_decomposed.calls a0 t596 true _ ?side1 A3.out).mono ?_); (case side1 => exact GT1.below (HG.out) (by repeat (first | (with_reducible first | exact HB.out | apply below_alloc | apply pw_below_drewN | apply below_drew1) | exact HB.out))); rintro e w8 ⟨v598, rfl, ho0, hb⟩; refine ⟨_, rfl, ?_⟩; have n0_ := Aside0.mk (Kd.R_lower ho0 (below_size (by repeat (first | (with_reducible first | exact HB.out | apply below_alloc | apply pw_below_drewN | apply below_drew1) | exact HB.out)))); have n1_ := Aside0.mk (below_step (by repeat (first | (with_reducible first | exact HB.out | apply below_alloc | apply pw_below_drewN | apply below_drew1) | exact HB.out)) hb); clear HB; have HO599 := n0_; have HB := n1_; clear n0_ n1_; (try clear hb); (try clear hb2); (try clear hk); (try clear hi); (try clear ho0)) | ((with_reducible refine gate_callee (f := 64) rfl ?_); refine goesL_ (some 16) rfl rfl Tryd.func64 (by kernel_rfl) rfl #[.string a1] rfl (by (try simp only [List.map_toArray, List.map_cons, List.map_nil]); first | done | rfl | (simp only [List.length_drop, List.length_take]; rfl)) ?_; (with_reducible refine (normal_decomposed.calls a1 t600 true _ ?side1 A4.out).mono ?_); (case side1 => exact GT1.below (HG.out) (by repeat (first | (with_reducible first | exact HB.out | apply below_alloc | apply pw_below_drewN | apply below_drew1) | exact HB.out))); rintro e w9 ⟨v602, rfl, ho0, hb⟩; refine ⟨_, rfl, ?_⟩; have n0_ := Aside0.mk (Kd.R_elder' (by (with_reducible repeat (first | apply Kd.R_alloc | apply Kd.R_drewN | apply Kd.R_drew)); exact HO599.out) (Kd.R_base ho0) hb); have n1_ := Aside0.mk (Kd.R_lower (Kd.R_new' ho0 (Kd.R_lt (by (with_reducible repeat (first | apply Kd.R_alloc | apply Kd.R_drewN | apply Kd.R_drew)); exact HO599.out))) (below_size (by repeat (first | (with_reducible first | exact HB.out | apply below_alloc | apply pw_below_drewN | apply below_drew1) | exact HB.out)))); have n2_ := Aside0.mk (below_step (by repeat (first | (with_reducible first | exact HB.out | apply below_alloc | apply pw_below_drewN | apply below_drew1) | exact HB.out)) hb); clear HO599; clear HB; have HO599 := n0_; have HO603 := n1_; have HB := n2_; clear n0_ n1_ n2_; (try clear hb); (try clear hb2); (try clear hk); (try clear hi); (try clear ho0); obtain ⟨Ao10, co10, eo10⟩ := Kd.R_slice HO599.out; subst eo10; obtain ⟨Ao11, co11, eo11⟩ := Kd.R_slice HO603.out; subst eo11) | (go_at_call 74; (with_reducible refine (slices_Equal_int_int.calls k _ _ t596 _ _ t600 t604 _ ?side1 ?side2 ?side3 ?side4 A7.out).mono ?_); (case side1 => repeat (first | exact (Kd.R_reads' HO599.out).2.2 | (with_reducible refine Kd.C_alloc ?_ _) | (with_reducible refine Kd.C_drewN ?_ _) | (with_reducible refine Kd.C_drew ?_))); (case side2 => exact (Kd.R_reads' HO599.out).2.1); (case side3 => repeat (first | exact (Kd.R_reads' HO603.out).2.2 | (with_reducible refine Kd.C_alloc ?_ _) | (with_reducible refine Kd.C_drewN ?_ _) | (with_reducible refine Kd.C_drew ?_))); (case side4 => exact (Kd.R_reads' HO603.out).2.1); rintro e w' ⟨rfl, ⟨nd, rfl⟩⟩))
      go_ret
      exact ⟨by first | rfl | (simp [errW_none, errW_some] <;> rfl) | (simp [*, errW_none, errW_some] <;> rfl), by repeat (first | (with_reducible first | exact HB.out | apply below_alloc | apply pw_below_drewN | apply below_drew1) | exact HB.out)⟩
    · replace c6 := Bool.eq_false_iff.mpr c6
      subst c6
      have H1 : (some false) = some r := by rw [if_neg (show ¬ (false = true) by decide)] at H; exact H
      clear H
      have H := H1
      clear H1
      obtain rfl := Option.some.inj H
      go_enter Tryd.func48, Tryd.ntmps48
      go_wp2_with (first | ((with_reducible refine gate_callee (f := 64) rfl ?_); refine goesL_ (some 11) rfl rfl Tryd.func64 (by kernel_rfl) rfl #[.string a0] rfl (by (try simp only [List.map_toArray, List.map_cons, List.map_nil]); first | done | rfl | (simp only [List.length_drop, List.length_take]; rfl)) ?_; (with_reducible refine (normal_decomposed.calls a0 t596 true _ ?side1 A3.out).mono ?_); (case side1 => exact GT1.below (HG.out) (by repeat (first | (with_reducible first | exact HB.out | apply below_alloc | apply pw_below_drewN | apply below_drew1) | exact HB.out))); rintro e w12 ⟨v598, rfl, ho0, hb⟩; refine ⟨_, rfl, ?_⟩; have n0_ := Aside0.mk (Kd.R_lower ho0 (below_size (by repeat (first | (with_reducible first | exact HB.out | apply below_alloc | apply pw_below_drewN | apply below_drew1) | exact HB.out)))); have n1_ := Aside0.mk (below_step (by repeat (first | (with_reducible first | exact HB.out | apply below_alloc | apply pw_below_drewN | apply below_drew1) | exact HB.out)) hb); clear HB; have HO599 := n0_; have HB := n1_; clear n0_ n1_; (try clear hb); (try clear hb2); (try clear hk); (try clear hi); (try clear ho0)) | ((with_reducible refine gate_callee (f := 64) rfl ?_); refine goesL_ (some 16) rfl rfl Tryd.func64 (by kernel_rfl) rfl #[.string a1] rfl (by (try simp only [List.map_toArray, List.map_cons, List.map_nil]); first | done | rfl | (simp only [List.length_drop, List.length_take]; rfl)) ?_; (with_reducible refine (normal_decomposed.calls a1 t600 false _ ?side1 A4.out).mono ?_); (case side1 => exact GT1.below (HG.out) (by repeat (first | (with_reducible first | exact HB.out | apply below_alloc | apply pw_below_drewN | apply below_drew1) | exact HB.out))); rintro e w13 ⟨v602, rfl, ho0, hb⟩; refine ⟨_, rfl, ?_⟩; have n0_ := Aside0.mk (Kd.R_elder' (by (with_reducible repeat (first | apply Kd.R_alloc | apply Kd.R_drewN | apply Kd.R_drew)); exact HO599.out) (Kd.R_base ho0) hb); have n1_ := Aside0.mk (Kd.R_lower (Kd.R_new' ho0 (Kd.R_lt (by (with_reducible repeat (first | apply Kd.R_alloc | apply Kd.R_drewN | apply Kd.R_drew)); exact HO599.out))) (below_size (by repeat (first | (with_reducible first | exact HB.out | apply below_alloc | apply pw_below_drewN | apply below_drew1) | exact HB.out)))); have n2_ := Aside0.mk (below_step (by repeat (first | (with_reducible first | exact HB.out | apply below_alloc | apply pw_below_drewN | apply below_drew1) | exact HB.out)) hb); clear HO599; clear HB; have HO599 := n0_; have HO603 := n1_; have HB := n2_; clear n0_ n1_ n2_; (try clear hb); (try clear hb2); (try clear hk); (try clear hi); (try clear ho0)))
      go_ret
      exact ⟨by first | rfl | (simp [errW_none, errW_some] <;> rfl) | (simp [*, errW_none, errW_some] <;> rfl), by repeat (first | (with_reducible first | exact HB.out | apply below_alloc | apply pw_below_drewN | apply below_drew1) | exact HB.out)⟩
  · replace c5 := Bool.eq_false_iff.mpr c5
    subst c5
    have H1 : (some false) = some r := by rw [if_neg (show ¬ (false = true) by decide)] at H; exact H
    clear H
    have H := H1
    clear H1
    obtain rfl := Option.some.inj H
    go_enter Tryd.func48, Tryd.ntmps48
    go_wp2_with (first | ((with_reducible refine gate_callee (f := 64) rfl ?_); refine goesL_ (some 11) rfl rfl Tryd.func64 (by kernel_rfl) rfl #[.string a0] rfl (by (try simp only [List.map_toArray, List.map_cons, List.map_nil]); first | done | rfl | (simp only [List.length_drop, List.length_take]; rfl)) ?_; (with_reducible refine (normal_decomposed.calls a0 t596 false _ ?side1 A3.out).mono ?_); (case side1 => exact GT1.below (HG.out) (by repeat (first | (with_reducible first | exact HB.out | apply below_alloc | apply pw_below_drewN | apply below_drew1) | exact HB.out))); rintro e w14 ⟨v598, rfl, ho0, hb⟩; refine ⟨_, rfl, ?_⟩; have n0_ := Aside0.mk (Kd.R_lower ho0 (below_size (by repeat (first | (with_reducible first | exact HB.out | apply below_alloc | apply pw_below_drewN | apply below_drew1) | exact HB.out)))); have n1_ := Aside0.mk (below_step (by repeat (first | (with_reducible first | exact HB.out | apply below_alloc | apply pw_below_drewN | apply below_drew1) | exact HB.out)) hb); clear HB; have HO599 := n0_; have HB := n1_; clear n0_ n1_; (try clear hb); (try clear hb2); (try clear hk); (try clear hi); (try clear ho0)) | ((with_reducible refine gate_callee (f := 64) rfl ?_); refine goesL_ (some 16) rfl rfl Tryd.func64 (by kernel_rfl) rfl #[.string a1] rfl (by (try simp only [List.map_toArray, List.map_cons, List.map_nil]); first | done | rfl | (simp only [List.length_drop, List.length_take]; rfl)) ?_; (with_reducible refine (normal_decomposed.calls a1 t600 t601 _ ?side1 A4.out).mono ?_); (case side1 => exact GT1.below (HG.out) (by repeat (first | (with_reducible first | exact HB.out | apply below_alloc | apply pw_below_drewN | apply below_drew1) | exact HB.out))); rintro e w15 ⟨v602, rfl, ho0, hb⟩; refine ⟨_, rfl, ?_⟩; have n0_ := Aside0.mk (Kd.R_elder' (by (with_reducible repeat (first | apply Kd.R_alloc | apply Kd.R_drewN | apply Kd.R_drew)); exact HO599.out) (Kd.R_base ho0) hb); have n1_ := Aside0.mk (Kd.R_lower (Kd.R_new' ho0 (Kd.R_lt (by (with_reducible repeat (first | apply Kd.R_alloc | apply Kd.R_drewN | apply Kd.R_drew)); exact HO599.out))) (below_size (by repeat (first | (with_reducible first | exact HB.out | apply below_alloc | apply pw_below_drewN | apply below_drew1) | exact HB.out)))); have n2_ := Aside0.mk (below_step (by repeat (first | (with_reducible first | exact HB.out | apply below_alloc | apply pw_below_drewN | apply below_drew1) | exact HB.out)) hb); clear HO599; clear HB; have HO599 := n0_; have HO603 := n1_; have HB := n2_; clear n0_ n1_ n2_; (try clear hb); (try clear hb2); (try clear hk); (try clear hi); (try clear ho0)))
    go_ret
    exact ⟨by first | rfl | (simp [errW_none, errW_some] <;> rfl) | (simp [*, errW_none, errW_some] <;> rfl), by repeat (first | (with_reducible first | exact HB.out | apply below_alloc | apply pw_below_drewN | apply below_drew1) | exact HB.out)⟩
end Go.Proofs.YthcpdhniakpbaaaDoor.X
end

section
namespace Go.Proofs.YthcpdhniakpbaaaDoor.X
open Go.RowKit Go.Proofs.YthcpdhniakpbaaaDoorW.PrintWords Go.Proofs.YthcpdhniakpbaaaDoorW.PrintLast Go.Proofs.YthcpdhniakpbaaaDoorW.PrintMore
attribute [local go_sem] max2_int min2_int max_two min_two max_three min_three max_four min_four
set_option linter.unusedVariables false
set_option linter.unusedSimpArgs false
def normal_Is.f (a0 : ByteArray) : Option (Bool) := (normal_Compose.f a0).bind fun t605 => (some (t605.toList == a0.toList))
set_option maxHeartbeats 8000000 in
set_option maxRecDepth 100000 in
theorem normal_Is.calls (a0 : ByteArray) (r : Bool) (w : World) (hG : GT1 w) (h : normal_Is.f a0 = some r) :
    Calls Tryd.prog 42 #[.string a0] w fun e w' => e = .returned (.bool r) ∧ Below w.heap.size w w' := by
  have HG := Aside0.mk hG
  clear hG
  have HB := Aside0.mk (Below.refl w.heap.size w)
  have H : ((normal_Compose.f a0).bind fun t605 => (some (t605.toList == a0.toList))) = some r := h
  clear h
  replace H := Option.bind_eq_some_iff.mp H
  obtain ⟨t605, A20, H⟩ := H
  replace H : (some (t605.toList == a0.toList)) = some r := H
  have A2 := Aside0.mk A20
  clear A20
  obtain rfl := Option.some.inj H
  go_enter Tryd.func42, Tryd.ntmps42
  go_wp2_with (first | ((with_reducible refine gate_callee (f := 40) rfl ?_); refine goesL_ (some 4) rfl rfl Tryd.func40 (by kernel_rfl) rfl #[.string a0] rfl (by (try simp only [List.map_toArray, List.map_cons, List.map_nil]); first | done | rfl | (simp only [List.length_drop, List.length_take]; rfl)) ?_; (with_reducible refine (normal_Compose.calls a0 t605 _ ?side1 A2.out).mono ?_); (case side1 => exact GT1.below (HG.out) (by repeat (first | (with_reducible first | exact HB.out | apply below_alloc | apply pw_below_drewN | apply below_drew1) | exact HB.out))); rintro e w3 ⟨rfl, hb⟩; refine ⟨_, rfl, ?_⟩; have n0_ := Aside0.mk (below_step (by repeat (first | (with_reducible first | exact HB.out | apply below_alloc | apply pw_below_drewN | apply below_drew1) | exact HB.out)) hb); clear HB; have HB := n0_; clear n0_; (try clear hb); (try clear hb2); (try clear hk); (try clear hi)))
  go_ret
  exact ⟨by first | rfl | (simp [errW_none, errW_some] <;> rfl) | (simp [*, errW_none, errW_some] <;> rfl), by repeat (first | (with_reducible first | exact HB.out | apply below_alloc | apply pw_below_drewN | apply below_drew1) | exact HB.out)⟩
def bookplatelaw05_awake.f (k : Nat)  : Option (Bool) := (normal_Decompose.f (⟨#[195, 169]⟩ : ByteArray)).bind fun t606 => (if t606.toList = ([101, 204, 129] : List UInt8) then ((normal_Decompose.f (⟨#[239, 172, 129]⟩ : ByteArray)).bind fun t607 => (if t607.toList = ([102, 105] : List UInt8) then ((normal_Compose.f (⟨#[99, 204, 129, 204, 167]⟩ : ByteArray)).bind fun t608 => (if t608.toList = ([195, 167, 204, 129] : List UInt8) then ((normal_Is.f (⟨#[195, 169]⟩ : ByteArray)).bind fun t609 => (if t609 = true then ((normal_Equal.f k (⟨#[195, 169]⟩ : ByteArray) (⟨#[101, 204, 129]⟩ : ByteArray)).bind fun t610 => (if t610 = true then ((normal_Strip.f (⟨#[195, 169]⟩ : ByteArray)).bind fun t611 => (if t611.toList = ([101] : List UInt8) then ((normal_Marks.f k (⟨#[195, 169]⟩ : ByteArray)).bind fun t612 => (some (t612 == 1))) else (some false))) else (some false))) else (some false))) else (some false))) else (some false))) else (some false))
set_option maxHeartbeats 8000000 in
set_option maxRecDepth 100000 in
theorem bookplatelaw05_awake.calls (k : Nat)  (r : Bool) (w : World) (hG : GT1 w) (h : bookplatelaw05_awake.f k  = some r) :
    Calls Tryd.prog 37 #[] w fun e w' => e = .returned (.bool r) ∧ Below w.heap.size w w' := by
  have HG := Aside0.mk hG
  clear hG
  have HB := Aside0.mk (Below.refl w.heap.size w)
  have H : ((normal_Decompose.f (⟨#[195, 169]⟩ : ByteArray)).bind fun t606 => (if t606.toList = ([101, 204, 129] : List UInt8) then ((normal_Decompose.f (⟨#[239, 172, 129]⟩ : ByteArray)).bind fun t607 => (if t607.toList = ([102, 105] : List UInt8) then ((normal_Compose.f (⟨#[99, 204, 129, 204, 167]⟩ : ByteArray)).bind fun t608 => (if t608.toList = ([195, 167, 204, 129] : List UInt8) then ((normal_Is.f (⟨#[195, 169]⟩ : ByteArray)).bind fun t609 => (if t609 = true then ((normal_Equal.f k (⟨#[195, 169]⟩ : ByteArray) (⟨#[101, 204, 129]⟩ : ByteArray)).bind fun t610 => (if t610 = true then ((normal_Strip.f (⟨#[195, 169]⟩ : ByteArray)).bind fun t611 => (if t611.toList = ([101] : List UInt8) then ((normal_Marks.f k (⟨#[195, 169]⟩ : ByteArray)).bind fun t612 => (some (t612 == 1))) else (some false))) else (some false))) else (some false))) else (some false))) else (some false))) else (some false))) = some r := h
  clear h
  replace H := Option.bind_eq_some_iff.mp H
  obtain ⟨t606, A10, H⟩ := H
  replace H : (if t606.toList = ([101, 204, 129] : List UInt8) then ((normal_Decompose.f (⟨#[239, 172, 129]⟩ : ByteArray)).bind fun t607 => (if t607.toList = ([102, 105] : List UInt8) then ((normal_Compose.f (⟨#[99, 204, 129, 204, 167]⟩ : ByteArray)).bind fun t608 => (if t608.toList = ([195, 167, 204, 129] : List UInt8) then ((normal_Is.f (⟨#[195, 169]⟩ : ByteArray)).bind fun t609 => (if t609 = true then ((normal_Equal.f k (⟨#[195, 169]⟩ : ByteArray) (⟨#[101, 204, 129]⟩ : ByteArray)).bind fun t610 => (if t610 = true then ((normal_Strip.f (⟨#[195, 169]⟩ : ByteArray)).bind fun t611 => (if t611.toList = ([101] : List UInt8) then ((normal_Marks.f k (⟨#[195, 169]⟩ : ByteArray)).bind fun t612 => (some (t612 == 1))) else (some false))) else (some false))) else (some false))) else (some false))) else (some false))) else (some false)) = some r := H
  have A1 := Aside0.mk A10
  clear A10
  by_cases c2 : t606.toList = ([101, 204, 129] : List UInt8)
  · rw [if_pos c2] at H
    have c2b0 : (t606.toList == ([101, 204, 129] : List UInt8)) = true := beq_iff_eq.mpr c2
    have c2b1 : (t606.toList != ([101, 204, 129] : List UInt8)) = false := bne_eq_false_iff_eq.mpr c2
    clear c2
    replace H := Option.bind_eq_some_iff.mp H
    obtain ⟨t607, A30, H⟩ := H
    replace H : (if t607.toList = ([102, 105] : List UInt8) then ((normal_Compose.f (⟨#[99, 204, 129, 204, 167]⟩ : ByteArray)).bind fun t608 => (if t608.toList = ([195, 167, 204, 129] : List UInt8) then ((normal_Is.f (⟨#[195, 169]⟩ : ByteArray)).bind fun t609 => (if t609 = true then ((normal_Equal.f k (⟨#[195, 169]⟩ : ByteArray) (⟨#[101, 204, 129]⟩ : ByteArray)).bind fun t610 => (if t610 = true then ((normal_Strip.f (⟨#[195, 169]⟩ : ByteArray)).bind fun t611 => (if t611.toList = ([101] : List UInt8) then ((normal_Marks.f k (⟨#[195, 169]⟩ : ByteArray)).bind fun t612 => (some (t612 == 1))) else (some false))) else (some false))) else (some false))) else (some false))) else (some false)) = some r := H
    have A3 := Aside0.mk A30
    clear A30
    by_cases c4 : t607.toList = ([102, 105] : List UInt8)
    · rw [if_pos c4] at H
      have c4b0 : (t607.toList == ([102, 105] : List UInt8)) = true := beq_iff_eq.mpr c4
      have c4b1 : (t607.toList != ([102, 105] : List UInt8)) = false := bne_eq_false_iff_eq.mpr c4
      clear c4
      replace H := Option.bind_eq_some_iff.mp H
      obtain ⟨t608, A50, H⟩ := H
      replace H : (if t608.toList = ([195, 167, 204, 129] : List UInt8) then ((normal_Is.f (⟨#[195, 169]⟩ : ByteArray)).bind fun t609 => (if t609 = true then ((normal_Equal.f k (⟨#[195, 169]⟩ : ByteArray) (⟨#[101, 204, 129]⟩ : ByteArray)).bind fun t610 => (if t610 = true then ((normal_Strip.f (⟨#[195, 169]⟩ : ByteArray)).bind fun t611 => (if t611.toList = ([101] : List UInt8) then ((normal_Marks.f k (⟨#[195, 169]⟩ : ByteArray)).bind fun t612 => (some (t612 == 1))) else (some false))) else (some false))) else (some false))) else (some false)) = some r := H
      have A5 := Aside0.mk A50
      clear A50
      by_cases c6 : t608.toList = ([195, 167, 204, 129] : List UInt8)
      · rw [if_pos c6] at H
        have c6b0 : (t608.toList == ([195, 167, 204, 129] : List UInt8)) = true := beq_iff_eq.mpr c6
        have c6b1 : (t608.toList != ([195, 167, 204, 129] : List UInt8)) = false := bne_eq_false_iff_eq.mpr c6
        clear c6
        replace H := Option.bind_eq_some_iff.mp H
        obtain ⟨t609, A70, H⟩ := H
        replace H : (if t609 = true then ((normal_Equal.f k (⟨#[195, 169]⟩ : ByteArray) (⟨#[101, 204, 129]⟩ : ByteArray)).bind fun t610 => (if t610 = true then ((normal_Strip.f (⟨#[195, 169]⟩ : ByteArray)).bind fun t611 => (if t611.toList = ([101] : List UInt8) then ((normal_Marks.f k (⟨#[195, 169]⟩ : ByteArray)).bind fun t612 => (some (t612 == 1))) else (some false))) else (some false))) else (some false)) = some r := H
        have A7 := Aside0.mk A70
        clear A70
        by_cases c8 : t609 = true
        · subst c8
          have H1 : ((normal_Equal.f k (⟨#[195, 169]⟩ : ByteArray) (⟨#[101, 204, 129]⟩ : ByteArray)).bind fun t610 => (if t610 = true then ((normal_Strip.f (⟨#[195, 169]⟩ : ByteArray)).bind fun t611 => (if t611.toList = ([101] : List UInt8) then ((normal_Marks.f k (⟨#[195, 169]⟩ : ByteArray)).bind fun t612 => (some (t612 == 1))) else (some false))) else (some false))) = some r := by rw [if_pos rfl] at H; exact H
          clear H
          have H := H1
          clear H1
          replace H := Option.bind_eq_some_iff.mp H
          obtain ⟨t610, A90, H⟩ := H
          replace H : (if t610 = true then ((normal_Strip.f (⟨#[195, 169]⟩ : ByteArray)).bind fun t611 => (if t611.toList = ([101] : List UInt8) then ((normal_Marks.f k (⟨#[195, 169]⟩ : ByteArray)).bind fun t612 => (some (t612 == 1))) else (some false))) else (some false)) = some r := H
          have A9 := Aside0.mk A90
          clear A90
          by_cases c10 : t610 = true
          · subst c10
            have H1 : ((normal_Strip.f (⟨#[195, 169]⟩ : ByteArray)).bind fun t611 => (if t611.toList = ([101] : List UInt8) then ((normal_Marks.f k (⟨#[195, 169]⟩ : ByteArray)).bind fun t612 => (some (t612 == 1))) else (some false))) = some r := by rw [if_pos rfl] at H; exact H
            clear H
            have H := H1
            clear H1
            replace H := Option.bind_eq_some_iff.mp H
            obtain ⟨t611, A110, H⟩ := H
            replace H : (if t611.toList = ([101] : List UInt8) then ((normal_Marks.f k (⟨#[195, 169]⟩ : ByteArray)).bind fun t612 => (some (t612 == 1))) else (some false)) = some r := H
            have A11 := Aside0.mk A110
            clear A110
            by_cases c12 : t611.toList = ([101] : List UInt8)
            · rw [if_pos c12] at H
              have c12b0 : (t611.toList == ([101] : List UInt8)) = true := beq_iff_eq.mpr c12
              have c12b1 : (t611.toList != ([101] : List UInt8)) = false := bne_eq_false_iff_eq.mpr c12
              clear c12
              replace H := Option.bind_eq_some_iff.mp H
              obtain ⟨t612, A130, H⟩ := H
              replace H : (some (t612 == 1)) = some r := H
              have A13 := Aside0.mk A130
              clear A130
              obtain rfl := Option.some.inj H
              go_enter Tryd.func37, Tryd.ntmps37
              go_wp2_with (first | ((with_reducible refine gate_callee (f := 38) rfl ?_); refine goesL_ (some 1) rfl rfl Tryd.func38 (by kernel_rfl) rfl #[.string (⟨#[195, 169]⟩ : ByteArray)] rfl (by (try simp only [List.map_toArray, List.map_cons, List.map_nil]); first | done | rfl | (simp only [List.length_drop, List.length_take]; rfl)) ?_; (with_reducible refine (normal_Decompose.calls (⟨#[195, 169]⟩ : ByteArray) t606 _ ?side1 A1.out).mono ?_); (case side1 => exact GT1.below (HG.out) (by repeat (first | (with_reducible first | exact HB.out | apply below_alloc | apply pw_below_drewN | apply below_drew1) | exact HB.out))); rintro e w14 ⟨rfl, hb⟩; refine ⟨_, rfl, ?_⟩; have n0_ := Aside0.mk (below_step (by repeat (first | (with_reducible first | exact HB.out | apply below_alloc | apply pw_below_drewN | apply below_drew1) | exact HB.out)) hb); clear HB; have HB := n0_; clear n0_; (try clear hb); (try clear hb2); (try clear hk); (try clear hi)) | (go_at_call 38; (with_reducible refine (normal_Decompose.calls (⟨#[239, 172, 129]⟩ : ByteArray) t607 _ ?side1 A3.out).mono ?_); (case side1 => exact GT1.below (HG.out) (by repeat (first | (with_reducible first | exact HB.out | apply below_alloc | apply pw_below_drewN | apply below_drew1) | exact HB.out))); rintro e w15 ⟨rfl, hb⟩; have n0_ := Aside0.mk (below_step (by repeat (first | (with_reducible first | exact HB.out | apply below_alloc | apply pw_below_drewN | apply below_drew1) | exact HB.out)) hb); clear HB; have HB := n0_; clear n0_; (try clear hb); (try clear hb2); (try clear hk); (try clear hi)) | (go_at_call 40; (with_reducible refine (normal_Compose.calls (⟨#[99, 204, 129, 204, 167]⟩ : ByteArray) t608 _ ?side1 A5.out).mono ?_); (case side1 => exact GT1.below (HG.out) (by repeat (first | (with_reducible first | exact HB.out | apply below_alloc | apply pw_below_drewN | apply below_drew1) | exact HB.out))); rintro e w16 ⟨rfl, hb⟩; have n0_ := Aside0.mk (below_step (by repeat (first | (with_reducible first | exact HB.out | apply below_alloc | apply pw_below_drewN | apply below_drew1) | exact HB.out)) hb); clear HB; have HB := n0_; clear n0_; (try clear hb); (try clear hb2); (try clear hk); (try clear hi)) | (go_at_call 42; (with_reducible refine (normal_Is.calls (⟨#[195, 169]⟩ : ByteArray) true _ ?side1 A7.out).mono ?_); (case side1 => exact GT1.below (HG.out) (by repeat (first | (with_reducible first | exact HB.out | apply below_alloc | apply pw_below_drewN | apply below_drew1) | exact HB.out))); rintro e w17 ⟨rfl, hb⟩; have n0_ := Aside0.mk (below_step (by repeat (first | (with_reducible first | exact HB.out | apply below_alloc | apply pw_below_drewN | apply below_drew1) | exact HB.out)) hb); clear HB; have HB := n0_; clear n0_; (try clear hb); (try clear hb2); (try clear hk); (try clear hi)) | (go_at_call 48; (with_reducible refine (normal_Equal.calls k (⟨#[195, 169]⟩ : ByteArray) (⟨#[101, 204, 129]⟩ : ByteArray) true _ ?side1 A9.out).mono ?_); (case side1 => exact GT1.below (HG.out) (by repeat (first | (with_reducible first | exact HB.out | apply below_alloc | apply pw_below_drewN | apply below_drew1) | exact HB.out))); rintro e w18 ⟨rfl, hb⟩; have n0_ := Aside0.mk (below_step (by repeat (first | (with_reducible first | exact HB.out | apply below_alloc | apply pw_below_drewN | apply below_drew1) | exact HB.out)) hb); clear HB; have HB := n0_; clear n0_; (try clear hb); (try clear hb2); (try clear hk); (try clear hi)) | (go_at_call 44; (with_reducible refine (normal_Strip.calls (⟨#[195, 169]⟩ : ByteArray) t611 _ ?side1 A11.out).mono ?_); (case side1 => exact GT1.below (HG.out) (by repeat (first | (with_reducible first | exact HB.out | apply below_alloc | apply pw_below_drewN | apply below_drew1) | exact HB.out))); rintro e w19 ⟨rfl, hb⟩; have n0_ := Aside0.mk (below_step (by repeat (first | (with_reducible first | exact HB.out | apply below_alloc | apply pw_below_drewN | apply below_drew1) | exact HB.out)) hb); clear HB; have HB := n0_; clear n0_; (try clear hb); (try clear hb2); (try clear hk); (try clear hi)) | (go_at_call 46; (with_reducible refine (normal_Marks.calls k (⟨#[195, 169]⟩ : ByteArray) t612 _ ?side1 A13.out).mono ?_); (case side1 => exact GT1.below (HG.out) (by repeat (first | (with_reducible first | exact HB.out | apply below_alloc | apply pw_below_drewN | apply below_drew1) | exact HB.out))); rintro e w20 ⟨rfl, hb⟩; have n0_ := Aside0.mk (below_step (by repeat (first | (with_reducible first | exact HB.out | apply below_alloc | apply pw_below_drewN | apply below_drew1) | exact HB.out)) hb); clear HB; have HB := n0_; clear n0_; (try clear hb); (try clear hb2); (try clear hk); (try clear hi)))
              go_ret
              exact ⟨by first | rfl | (simp [errW_none, errW_some] <;> rfl) | (simp [*, errW_none, errW_some] <;> rfl), by repeat (first | (with_reducible first | exact HB.out | apply below_alloc | apply pw_below_drewN | apply below_drew1) | exact HB.out)⟩
            · rw [if_neg c12] at H
              have c12b0 : (t611.toList == ([101] : List UInt8)) = false := beq_eq_false_iff_ne.mpr c12
              have c12b1 : (t611.toList != ([101] : List UInt8)) = true := bne_iff_ne.mpr c12
              obtain rfl := Option.some.inj H
              go_enter Tryd.func37, Tryd.ntmps37
              go_wp2_with (first | ((with_reducible refine gate_callee (f := 38) rfl ?_); refine goesL_ (some 1) rfl rfl Tryd.func38 (by kernel_rfl) rfl #[.string (⟨#[195, 169]⟩ : ByteArray)] rfl (by (try simp only [List.map_toArray, List.map_cons, List.map_nil]); first | done | rfl | (simp only [List.length_drop, List.length_take]; rfl)) ?_; (with_reducible refine (normal_Decompose.calls (⟨#[195, 169]⟩ : ByteArray) t606 _ ?side1 A1.out).mono ?_); (case side1 => exact GT1.below (HG.out) (by repeat (first | (with_reducible first | exact HB.out | apply below_alloc | apply pw_below_drewN | apply below_drew1) | exact HB.out))); rintro e w21 ⟨rfl, hb⟩; refine ⟨_, rfl, ?_⟩; have n0_ := Aside0.mk (below_step (by repeat (first | (with_reducible first | exact HB.out | apply below_alloc | apply pw_below_drewN | apply below_drew1) | exact HB.out)) hb); clear HB; have HB := n0_; clear n0_; (try clear hb); (try clear hb2); (try clear hk); (try clear hi)) | (go_at_call 38; (with_reducible refine (normal_Decompose.calls (⟨#[239, 172, 129]⟩ : ByteArray) t607 _ ?side1 A3.out).mono ?_); (case side1 => exact GT1.below (HG.out) (by repeat (first | (with_reducible first | exact HB.out | apply below_alloc | apply pw_below_drewN | apply below_drew1) | exact HB.out))); rintro e w22 ⟨rfl, hb⟩; have n0_ := Aside0.mk (below_step (by repeat (first | (with_reducible first | exact HB.out | apply below_alloc | apply pw_below_drewN | apply below_drew1) | exact HB.out)) hb); clear HB; have HB := n0_; clear n0_; (try clear hb); (try clear hb2); (try clear hk); (try clear hi)) | (go_at_call 40; (with_reducible refine (normal_Compose.calls (⟨#[99, 204, 129, 204, 167]⟩ : ByteArray) t608 _ ?side1 A5.out).mono ?_); (case side1 => exact GT1.below (HG.out) (by repeat (first | (with_reducible first | exact HB.out | apply below_alloc | apply pw_below_drewN | apply below_drew1) | exact HB.out))); rintro e w23 ⟨rfl, hb⟩; have n0_ := Aside0.mk (below_step (by repeat (first | (with_reducible first | exact HB.out | apply below_alloc | apply pw_below_drewN | apply below_drew1) | exact HB.out)) hb); clear HB; have HB := n0_; clear n0_; (try clear hb); (try clear hb2); (try clear hk); (try clear hi)) | (go_at_call 42; (with_reducible refine (normal_Is.calls (⟨#[195, 169]⟩ : ByteArray) true _ ?side1 A7.out).mono ?_); (case side1 => exact GT1.below (HG.out) (by repeat (first | (with_reducible first | exact HB.out | apply below_alloc | apply pw_below_drewN | apply below_drew1) | exact HB.out))); rintro e w24 ⟨rfl, hb⟩; have n0_ := Aside0.mk (below_step (by repeat (first | (with_reducible first | exact HB.out | apply below_alloc | apply pw_below_drewN | apply below_drew1) | exact HB.out)) hb); clear HB; have HB := n0_; clear n0_; (try clear hb); (try clear hb2); (try clear hk); (try clear hi)) | (go_at_call 48; (with_reducible refine (normal_Equal.calls k (⟨#[195, 169]⟩ : ByteArray) (⟨#[101, 204, 129]⟩ : ByteArray) true _ ?side1 A9.out).mono ?_); (case side1 => exact GT1.below (HG.out) (by repeat (first | (with_reducible first | exact HB.out | apply below_alloc | apply pw_below_drewN | apply below_drew1) | exact HB.out))); rintro e w25 ⟨rfl, hb⟩; have n0_ := Aside0.mk (below_step (by repeat (first | (with_reducible first | exact HB.out | apply below_alloc | apply pw_below_drewN | apply below_drew1) | exact HB.out)) hb); clear HB; have HB := n0_; clear n0_; (try clear hb); (try clear hb2); (try clear hk); (try clear hi)) | (go_at_call 44; (with_reducible refine (normal_Strip.calls (⟨#[195, 169]⟩ : ByteArray) t611 _ ?side1 A11.out).mono ?_); (case side1 => exact GT1.below (HG.out) (by repeat (first | (with_reducible first | exact HB.out | apply below_alloc | apply pw_below_drewN | apply below_drew1) | exact HB.out))); rintro e w26 ⟨rfl, hb⟩; have n0_ := Aside0.mk (below_step (by repeat (first | (with_reducible first | exact HB.out | apply below_alloc | apply pw_below_drewN | apply below_drew1) | exact HB.out)) hb); clear HB; have HB := n0_; clear n0_; (try clear hb); (try clear hb2); (try clear hk); (try clear hi)))
              go_ret
              exact ⟨by first | rfl | (simp [errW_none, errW_some] <;> rfl) | (simp [*, errW_none, errW_some] <;> rfl), by repeat (first | (with_reducible first | exact HB.out | apply below_alloc | apply pw_below_drewN | apply below_drew1) | exact HB.out)⟩
          · replace c10 := Bool.eq_false_iff.mpr c10
            subst c10
            have H1 : (some false) = some r := by rw [if_neg (show ¬ (false = true) by decide)] at H; exact H
            clear H
            have H := H1
            clear H1
            obtain rfl := Option.some.inj H
            go_enter Tryd.func37, Tryd.ntmps37
            go_wp2_with (first | ((with_reducible refine gate_callee (f := 38) rfl ?_); refine goesL_ (some 1) rfl rfl Tryd.func38 (by kernel_rfl) rfl #[.string (⟨#[195, 169]⟩ : ByteArray)] rfl (by (try simp only [List.map_toArray, List.map_cons, List.map_nil]); first | done | rfl | (simp only [List.length_drop, List.length_take]; rfl)) ?_; (with_reducible refine (normal_Decompose.calls (⟨#[195, 169]⟩ : ByteArray) t606 _ ?side1 A1.out).mono ?_); (case side1 => exact GT1.below (HG.out) (by repeat (first | (with_reducible first | exact HB.out | apply below_alloc | apply pw_below_drewN | apply below_drew1) | exact HB.out))); rintro e w27 ⟨rfl, hb⟩; refine ⟨_, rfl, ?_⟩; have n0_ := Aside0.mk (below_step (by repeat (first | (with_reducible first | exact HB.out | apply below_alloc | apply pw_below_drewN | apply below_drew1) | exact HB.out)) hb); clear HB; have HB := n0_; clear n0_; (try clear hb); (try clear hb2); (try clear hk); (try clear hi)) | (go_at_call 38; (with_reducible refine (normal_Decompose.calls (⟨#[239, 172, 129]⟩ : ByteArray) t607 _ ?side1 A3.out).mono ?_); (case side1 => exact GT1.below (HG.out) (by repeat (first | (with_reducible first | exact HB.out | apply below_alloc | apply pw_below_drewN | apply below_drew1) | exact HB.out))); rintro e w28 ⟨rfl, hb⟩; have n0_ := Aside0.mk (below_step (by repeat (first | (with_reducible first | exact HB.out | apply below_alloc | apply pw_below_drewN | apply below_drew1) | exact HB.out)) hb); clear HB; have HB := n0_; clear n0_; (try clear hb); (try clear hb2); (try clear hk); (try clear hi)) | (go_at_call 40; (with_reducible refine (normal_Compose.calls (⟨#[99, 204, 129, 204, 167]⟩ : ByteArray) t608 _ ?side1 A5.out).mono ?_); (case side1 => exact GT1.below (HG.out) (by repeat (first | (with_reducible first | exact HB.out | apply below_alloc | apply pw_below_drewN | apply below_drew1) | exact HB.out))); rintro e w29 ⟨rfl, hb⟩; have n0_ := Aside0.mk (below_step (by repeat (first | (with_reducible first | exact HB.out | apply below_alloc | apply pw_below_drewN | apply below_drew1) | exact HB.out)) hb); clear HB; have HB := n0_; clear n0_; (try clear hb); (try clear hb2); (try clear hk); (try clear hi)) | (go_at_call 42; (with_reducible refine (normal_Is.calls (⟨#[195, 169]⟩ : ByteArray) true _ ?side1 A7.out).mono ?_); (case side1 => exact GT1.below (HG.out) (by repeat (first | (with_reducible first | exact HB.out | apply below_alloc | apply pw_below_drewN | apply below_drew1) | exact HB.out))); rintro e w30 ⟨rfl, hb⟩; have n0_ := Aside0.mk (below_step (by repeat (first | (with_reducible first | exact HB.out | apply below_alloc | apply pw_below_drewN | apply below_drew1) | exact HB.out)) hb); clear HB; have HB := n0_; clear n0_; (try clear hb); (try clear hb2); (try clear hk); (try clear hi)) | (go_at_call 48; (with_reducible refine (normal_Equal.calls k (⟨#[195, 169]⟩ : ByteArray) (⟨#[101, 204, 129]⟩ : ByteArray) false _ ?side1 A9.out).mono ?_); (case side1 => exact GT1.below (HG.out) (by repeat (first | (with_reducible first | exact HB.out | apply below_alloc | apply pw_below_drewN | apply below_drew1) | exact HB.out))); rintro e w31 ⟨rfl, hb⟩; have n0_ := Aside0.mk (below_step (by repeat (first | (with_reducible first | exact HB.out | apply below_alloc | apply pw_below_drewN | apply below_drew1) | exact HB.out)) hb); clear HB; have HB := n0_; clear n0_; (try clear hb); (try clear hb2); (try clear hk); (try clear hi)))
            go_ret
            exact ⟨by first | rfl | (simp [errW_none, errW_some] <;> rfl) | (simp [*, errW_none, errW_some] <;> rfl), by repeat (first | (with_reducible first | exact HB.out | apply below_alloc | apply pw_below_drewN | apply below_drew1) | exact HB.out)⟩
        · replace c8 := Bool.eq_false_iff.mpr c8
          subst c8
          have H1 : (some false) = some r := by rw [if_neg (show ¬ (false = true) by decide)] at H; exact H
          clear H
          have H := H1
          clear H1
          obtain rfl := Option.some.inj H
          go_enter Tryd.func37, Tryd.ntmps37
          go_wp2_with (first | ((with_reducible refine gate_callee (f := 38) rfl ?_); refine goesL_ (some 1) rfl rfl Tryd.func38 (by kernel_rfl) rfl #[.string (⟨#[195, 169]⟩ : ByteArray)] rfl (by (try simp only [List.map_toArray, List.map_cons, List.map_nil]); first | done | rfl | (simp only [List.length_drop, List.length_take]; rfl)) ?_; (with_reducible refine (normal_Decompose.calls (⟨#[195, 169]⟩ : ByteArray) t606 _ ?side1 A1.out).mono ?_); (case side1 => exact GT1.below (HG.out) (by repeat (first | (with_reducible first | exact HB.out | apply below_alloc | apply pw_below_drewN | apply below_drew1) | exact HB.out))); rintro e w32 ⟨rfl, hb⟩; refine ⟨_, rfl, ?_⟩; have n0_ := Aside0.mk (below_step (by repeat (first | (with_reducible first | exact HB.out | apply below_alloc | apply pw_below_drewN | apply below_drew1) | exact HB.out)) hb); clear HB; have HB := n0_; clear n0_; (try clear hb); (try clear hb2); (try clear hk); (try clear hi)) | (go_at_call 38; (with_reducible refine (normal_Decompose.calls (⟨#[239, 172, 129]⟩ : ByteArray) t607 _ ?side1 A3.out).mono ?_); (case side1 => exact GT1.below (HG.out) (by repeat (first | (with_reducible first | exact HB.out | apply below_alloc | apply pw_below_drewN | apply below_drew1) | exact HB.out))); rintro e w33 ⟨rfl, hb⟩; have n0_ := Aside0.mk (below_step (by repeat (first | (with_reducible first | exact HB.out | apply below_alloc | apply pw_below_drewN | apply below_drew1) | exact HB.out)) hb); clear HB; have HB := n0_; clear n0_; (try clear hb); (try clear hb2); (try clear hk); (try clear hi)) | (go_at_call 40; (with_reducible refine (normal_Compose.calls (⟨#[99, 204, 129, 204, 167]⟩ : ByteArray) t608 _ ?side1 A5.out).mono ?_); (case side1 => exact GT1.below (HG.out) (by repeat (first | (with_reducible first | exact HB.out | apply below_alloc | apply pw_below_drewN | apply below_drew1) | exact HB.out))); rintro e w34 ⟨rfl, hb⟩; have n0_ := Aside0.mk (below_step (by repeat (first | (with_reducible first | exact HB.out | apply below_alloc | apply pw_below_drewN | apply below_drew1) | exact HB.out)) hb); clear HB; have HB := n0_; clear n0_; (try clear hb); (try clear hb2); (try clear hk); (try clear hi)) | (go_at_call 42; (with_reducible refine (normal_Is.calls (⟨#[195, 169]⟩ : ByteArray) false _ ?side1 A7.out).mono ?_); (case side1 => exact GT1.below (HG.out) (by repeat (first | (with_reducible first | exact HB.out | apply below_alloc | apply pw_below_drewN | apply below_drew1) | exact HB.out))); rintro e w35 ⟨rfl, hb⟩; have n0_ := Aside0.mk (below_step (by repeat (first | (with_reducible first | exact HB.out | apply below_alloc | apply pw_below_drewN | apply below_drew1) | exact HB.out)) hb); clear HB; have HB := n0_; clear n0_; (try clear hb); (try clear hb2); (try clear hk); (try clear hi)))
          go_ret
          exact ⟨by first | rfl | (simp [errW_none, errW_some] <;> rfl) | (simp [*, errW_none, errW_some] <;> rfl), by repeat (first | (with_reducible first | exact HB.out | apply below_alloc | apply pw_below_drewN | apply below_drew1) | exact HB.out)⟩
      · rw [if_neg c6] at H
        have c6b0 : (t608.toList == ([195, 167, 204, 129] : List UInt8)) = false := beq_eq_false_iff_ne.mpr c6
        have c6b1 : (t608.toList != ([195, 167, 204, 129] : List UInt8)) = true := bne_iff_ne.mpr c6
        obtain rfl := Option.some.inj H
        go_enter Tryd.func37, Tryd.ntmps37
        go_wp2_with (first | ((with_reducible refine gate_callee (f := 38) rfl ?_); refine goesL_ (some 1) rfl rfl Tryd.func38 (by kernel_rfl) rfl #[.string (⟨#[195, 169]⟩ : ByteArray)] rfl (by (try simp only [List.map_toArray, List.map_cons, List.map_nil]); first | done | rfl | (simp only [List.length_drop, List.length_take]; rfl)) ?_; (with_reducible refine (normal_Decompose.calls (⟨#[195, 169]⟩ : ByteArray) t606 _ ?side1 A1.out).mono ?_); (case side1 => exact GT1.below (HG.out) (by repeat (first | (with_reducible first | exact HB.out | apply below_alloc | apply pw_below_drewN | apply below_drew1) | exact HB.out))); rintro e w36 ⟨rfl, hb⟩; refine ⟨_, rfl, ?_⟩; have n0_ := Aside0.mk (below_step (by repeat (first | (with_reducible first | exact HB.out | apply below_alloc | apply pw_below_drewN | apply below_drew1) | exact HB.out)) hb); clear HB; have HB := n0_; clear n0_; (try clear hb); (try clear hb2); (try clear hk); (try clear hi)) | (go_at_call 38; (with_reducible refine (normal_Decompose.calls (⟨#[239, 172, 129]⟩ : ByteArray) t607 _ ?side1 A3.out).mono ?_); (case side1 => exact GT1.below (HG.out) (by repeat (first | (with_reducible first | exact HB.out | apply below_alloc | apply pw_below_drewN | apply below_drew1) | exact HB.out))); rintro e w37 ⟨rfl, hb⟩; have n0_ := Aside0.mk (below_step (by repeat (first | (with_reducible first | exact HB.out | apply below_alloc | apply pw_below_drewN | apply below_drew1) | exact HB.out)) hb); clear HB; have HB := n0_; clear n0_; (try clear hb); (try clear hb2); (try clear hk); (try clear hi)) | (go_at_call 40; (with_reducible refine (normal_Compose.calls (⟨#[99, 204, 129, 204, 167]⟩ : ByteArray) t608 _ ?side1 A5.out).mono ?_); (case side1 => exact GT1.below (HG.out) (by repeat (first | (with_reducible first | exact HB.out | apply below_alloc | apply pw_below_drewN | apply below_drew1) | exact HB.out))); rintro e w38 ⟨rfl, hb⟩; have n0_ := Aside0.mk (below_step (by repeat (first | (with_reducible first | exact HB.out | apply below_alloc | apply pw_below_drewN | apply below_drew1) | exact HB.out)) hb); clear HB; have HB := n0_; clear n0_; (try clear hb); (try clear hb2); (try clear hk); (try clear hi)))
        go_ret
        exact ⟨by first | rfl | (simp [errW_none, errW_some] <;> rfl) | (simp [*, errW_none, errW_some] <;> rfl), by repeat (first | (with_reducible first | exact HB.out | apply below_alloc | apply pw_below_drewN | apply below_drew1) | exact HB.out)⟩
    · rw [if_neg c4] at H
      have c4b0 : (t607.toList == ([102, 105] : List UInt8)) = false := beq_eq_false_iff_ne.mpr c4
      have c4b1 : (t607.toList != ([102, 105] : List UInt8)) = true := bne_iff_ne.mpr c4
      obtain rfl := Option.some.inj H
      go_enter Tryd.func37, Tryd.ntmps37
      go_wp2_with (first | ((with_reducible refine gate_callee (f := 38) rfl ?_); refine goesL_ (some 1) rfl rfl Tryd.func38 (by kernel_rfl) rfl #[.string (⟨#[195, 169]⟩ : ByteArray)] rfl (by (try simp only [List.map_toArray, List.map_cons, List.map_nil]); first | done | rfl | (simp only [List.length_drop, List.length_take]; rfl)) ?_; (with_reducible refine (normal_Decompose.calls (⟨#[195, 169]⟩ : ByteArray) t606 _ ?side1 A1.out).mono ?_); (case side1 => exact GT1.below (HG.out) (by repeat (first | (with_reducible first | exact HB.out | apply below_alloc | apply pw_below_drewN | apply below_drew1) | exact HB.out))); rintro e w39 ⟨rfl, hb⟩; refine ⟨_, rfl, ?_⟩; have n0_ := Aside0.mk (below_step (by repeat (first | (with_reducible first | exact HB.out | apply below_alloc | apply pw_below_drewN | apply below_drew1) | exact HB.out)) hb); clear HB; have HB := n0_; clear n0_; (try clear hb); (try clear hb2); (try clear hk); (try clear hi)) | (go_at_call 38; (with_reducible refine (normal_Decompose.calls (⟨#[239, 172, 129]⟩ : ByteArray) t607 _ ?side1 A3.out).mono ?_); (case side1 => exact GT1.below (HG.out) (by repeat (first | (with_reducible first | exact HB.out | apply below_alloc | apply pw_below_drewN | apply below_drew1) | exact HB.out))); rintro e w40 ⟨rfl, hb⟩; have n0_ := Aside0.mk (below_step (by repeat (first | (with_reducible first | exact HB.out | apply below_alloc | apply pw_below_drewN | apply below_drew1) | exact HB.out)) hb); clear HB; have HB := n0_; clear n0_; (try clear hb); (try clear hb2); (try clear hk); (try clear hi)))
      go_ret
      exact ⟨by first | rfl | (simp [errW_none, errW_some] <;> rfl) | (simp [*, errW_none, errW_some] <;> rfl), by repeat (first | (with_reducible first | exact HB.out | apply below_alloc | apply pw_below_drewN | apply below_drew1) | exact HB.out)⟩
  · rw [if_neg c2] at H
    have c2b0 : (t606.toList == ([101, 204, 129] : List UInt8)) = false := beq_eq_false_iff_ne.mpr c2
    have c2b1 : (t606.toList != ([101, 204, 129] : List UInt8)) = true := bne_iff_ne.mpr c2
    obtain rfl := Option.some.inj H
    go_enter Tryd.func37, Tryd.ntmps37
    go_wp2_with (first | ((with_reducible refine gate_callee (f := 38) rfl ?_); refine goesL_ (some 1) rfl rfl Tryd.func38 (by kernel_rfl) rfl #[.string (⟨#[195, 169]⟩ : ByteArray)] rfl (by (try simp only [List.map_toArray, List.map_cons, List.map_nil]); first | done | rfl | (simp only [List.length_drop, List.length_take]; rfl)) ?_; (with_reducible refine (normal_Decompose.calls (⟨#[195, 169]⟩ : ByteArray) t606 _ ?side1 A1.out).mono ?_); (case side1 => exact GT1.below (HG.out) (by repeat (first | (with_reducible first | exact HB.out | apply below_alloc | apply pw_below_drewN | apply below_drew1) | exact HB.out))); rintro e w41 ⟨rfl, hb⟩; refine ⟨_, rfl, ?_⟩; have n0_ := Aside0.mk (below_step (by repeat (first | (with_reducible first | exact HB.out | apply below_alloc | apply pw_below_drewN | apply below_drew1) | exact HB.out)) hb); clear HB; have HB := n0_; clear n0_; (try clear hb); (try clear hb2); (try clear hk); (try clear hi)))
    go_ret
    exact ⟨by first | rfl | (simp [errW_none, errW_some] <;> rfl) | (simp [*, errW_none, errW_some] <;> rfl), by repeat (first | (with_reducible first | exact HB.out | apply below_alloc | apply pw_below_drewN | apply below_drew1) | exact HB.out)⟩
end Go.Proofs.YthcpdhniakpbaaaDoor.X
end

section
namespace Go.Proofs.YthcpdhniakpbaaaDoor.X
open Go.RowKit Go.Sort Go.Lib Go.Proofs.YthcpdhniakpbaaaDoorW.PrintWords Go.Proofs.YthcpdhniakpbaaaDoorW.PrintLast Go.Proofs.YthcpdhniakpbaaaDoorW.PrintMore
set_option linter.unusedVariables false
set_option linter.unusedSimpArgs false
theorem decomposed_eq (s : ByteArray) (hs : s.size ≤ 50000) : normal_decomposed.f s = some (decD (chs s), okS s) := by
  unfold normal_decomposed.f
  rw [if_pos (show DecOk s by unfold DecOk; omega)]
  rfl
theorem text_eq (l : List Int) (hl : l.length ≤ 1000000) (hh : ∀ c ∈ l, hasS c = true) : normal_text.f l = some (bytesOfL l) := by
  unfold normal_text.f repertoire_Encode.f
  rw [if_pos (show EncOk l from ⟨by omega, hh⟩)]
  rfl
theorem nlen (s : ByteArray) (hs : s.size ≤ 50000) : (decD (chs s)).length ≤ 100000 := by have := decD_len (chs s); have := chs_len s; omega
theorem dhas (s : ByteArray) : ∀ c ∈ decD (chs s), hasS c = true := decD_has (chs_has s)
theorem decompose_eq (s : ByteArray) (hs : s.size ≤ 50000) : normal_Decompose.f s = some (bytesOfL (decD (chs s))) := by
  unfold normal_Decompose.f
  rw [decomposed_eq s hs]
  simp only [Option.bind_some]
  rw [text_eq _ (by have := nlen s hs; omega) (dhas s)]
  rfl
theorem compS_has {l : List Int} (h : ∀ c ∈ l, hasS c = true) : ∀ c ∈ compS l, hasS c = true := compF_has _ _ h
theorem compS_len (l : List Int) : (compS l).length ≤ l.length := compF_len _ _
theorem compose_eq (s : ByteArray) (hs : s.size ≤ 50000) : normal_Compose.f s = some (bytesOfL (compS (decD (chs s)))) := by
  have := nlen s hs
  have := compS_len (decD (chs s))
  unfold normal_Compose.f
  rw [decomposed_eq s hs]
  simp only [Option.bind_some]
  rw [if_pos (show ComposeOk (decD (chs s)) from ⟨by omega, dhas s⟩), text_eq _ (by omega) (compS_has (dhas s))]
theorem strip_eq (s : ByteArray) (hs : s.size ≤ 50000) : normal_Strip.f s = some (bytesOfL (stripS (decD (chs s)))) := by
  have := nlen s hs
  have h2 : (stripS (decD (chs s))).length ≤ (decD (chs s)).length := List.length_filter_le _ _
  unfold normal_Strip.f
  rw [decomposed_eq s hs]
  simp only [Option.bind_some]
  exact text_eq (stripS (decD (chs s))) (by omega) (fun c hc => dhas s c (List.mem_filter.1 hc).1)
theorem is_eq (s : ByteArray) (hs : s.size ≤ 50000) : normal_Is.f s = some ((bytesOfL (compS (decD (chs s)))).toList == s.toList) := by
  unfold normal_Is.f
  rw [compose_eq s hs]
  rfl
theorem marks_go {d : List Int} (hh : ∀ x ∈ d, hasS x = true) (hd : d.length < 400000) : ∀ (n i q : Nat), d.length ≤ i + n → i ≤ d.length → q ≤ i →
    Ev (fun k => normal_Marks.l0 k (q : Int) d (d.length : Int) (i : Int)) ((q + cntM (d.drop i) : Nat) : Int) := by
  intro n
  have last : ∀ (i q : Nat), ¬ i < d.length → Ev (fun k => normal_Marks.l0 k (q : Int) d (d.length : Int) (i : Int)) ((q + cntM (d.drop i) : Nat) : Int) := by
    intro i q h1
    rw [List.drop_of_length_le (by omega)]
    refine Ev.step (g' := fun _ => some (q : Int)) (fun k => ?_) (Ev.const _)
    rw [normal_Marks.l0, if_neg (by omega)]
  induction n with
  | zero => intro i q h1 h2 h3; exact last i q (by omega)
  | succ n ih =>
    intro i q h1 h2 h3
    by_cases hi : i < d.length
    · have hdr : d.drop i = d[i] :: d.drop (i + 1) := List.drop_eq_getElem_cons hi
      have hx := hh _ (List.getElem_mem hi)
      obtain ⟨c, hc⟩ : ∃ c, d[i] = c := ⟨_, rfl⟩
      rw [hc] at hx hdr
      rw [hdr, cntM_cons]
      have hne : c ≠ 65533 := fun e => by rw [e, hasS_65533] at hx; exact absurd hx (by decide)
      have hev : Ev (fun k => normal_mark.f k c) (isMk c) := ⟨7, fun k hk => by
        obtain ⟨q, rfl⟩ : ∃ q, k = q + 7 := ⟨k - 7, by omega⟩
        exact isMark_eq hne q⟩
      refine Ev.step (g' := fun k => (normal_mark.f k c).bind fun t => if t = true then normal_Marks.l0 k ((q + 1 : Nat) : Int) d (d.length : Int) ((i + 1 : Nat) : Int) else normal_Marks.l0 k (q : Int) d (d.length : Int) ((i + 1 : Nat) : Int)) (fun k => ?_) (Ev.bind hev ?_)
      · rw [normal_Marks.l0, if_pos (by omega), if_pos (by omega), if_pos (by omega), rd_get hi, hc, w64n i (by omega), w64n q (by omega)]
      · cases hmk : isMk c with
        | true =>
          have := ih (i + 1) (q + 1) (by omega) (by omega) (by omega)
          rw [if_pos rfl, show q + (1 + cntM (d.drop (i + 1))) = q + 1 + cntM (d.drop (i + 1)) by omega]
          exact Ev.congr (fun k => if_pos rfl) this
        | false =>
          have := ih (i + 1) q (by omega) (by omega) (by omega)
          rw [if_neg (by decide), Nat.zero_add]
          exact Ev.congr (fun k => if_neg (by decide)) this
    · exact last i q hi
theorem ev_marks (s : ByteArray) (hs : s.size ≤ 50000) : Ev (fun k => normal_Marks.f k s) ((cntM (decD (chs s)) : Nat) : Int) := by
  have h1 := nlen s hs
  refine Ev.congr (g' := fun k => normal_Marks.l0 k 0 (decD (chs s)) ((decD (chs s)).length : Int) 0) (fun k => ?_) ?_
  · unfold normal_Marks.f
    rw [decomposed_eq s hs]
    rfl
  · have := marks_go (d := decD (chs s)) (dhas s) (by omega) (decD (chs s)).length 0 0 (by omega) (by omega) (by omega)
    rw [Nat.zero_add] at this
    exact this
theorem equal_go {a b : List Int} (hl : a.length = b.length) (hb : a.length < 1000000) : ∀ (n i : Nat), a.length ≤ i + n → i ≤ a.length →
    Ev (fun k => slices_Equal_int_int.l0 k a b (a.length : Int) (i : Int)) (decide (a.drop i = b.drop i)) := by
  intro n
  have last : ∀ i : Nat, ¬ i < a.length → Ev (fun k => slices_Equal_int_int.l0 k a b (a.length : Int) (i : Int)) (decide (a.drop i = b.drop i)) := by
    intro i h
    rw [List.drop_of_length_le (by omega), List.drop_of_length_le (by omega)]
    refine Ev.step (g' := fun _ => some true) (fun k => ?_) (Ev.const _)
    rw [slices_Equal_int_int.l0, if_neg (by omega)]
  induction n with
  | zero => intro i h1 h2; exact last i (by omega)
  | succ n ih =>
    intro i h1 h2
    by_cases hi : i < a.length
    · have hib : i < b.length := by omega
      have e1 : a.drop i = a[i] :: a.drop (i + 1) := List.drop_eq_getElem_cons hi
      have e2 : b.drop i = b[i] :: b.drop (i + 1) := List.drop_eq_getElem_cons hib
      rw [e1, e2]
      by_cases he : a[i] = b[i]
      · have e : decide (a[i] :: a.drop (i + 1) = b[i] :: b.drop (i + 1)) = decide (a.drop (i + 1) = b.drop (i + 1)) := decide_eq_decide.2 ⟨fun h => (List.cons.inj h).2, fun h => by rw [he, h]⟩
        rw [e]
        refine Ev.step (fun k => ?_) (ih (i + 1) (by omega) (by omega))
        rw [slices_Equal_int_int.l0, if_pos (by omega), if_pos (by omega), if_pos (by omega), if_pos (by omega), rd_get hi, rd_get hib, if_pos he, w64n i (by omega)]
      · have e : decide (a[i] :: a.drop (i + 1) = b[i] :: b.drop (i + 1)) = false := decide_eq_false (fun h => he (by injection h))
        rw [e]
        refine Ev.step (g' := fun _ => some false) (fun k => ?_) (Ev.const _)
        rw [slices_Equal_int_int.l0, if_pos (by omega), if_pos (by omega), if_pos (by omega), if_pos (by omega), rd_get hi, rd_get hib, if_neg he]
    · exact last i hi
theorem ev_slEqual (a b : List Int) (ha : a.length < 1000000) : Ev (fun k => slices_Equal_int_int.f k a b) (decide (a = b)) := by
  by_cases hl : a.length = b.length
  · have := equal_go hl ha a.length 0 (by omega) (by omega)
    refine Ev.congr (fun k => ?_) this
    unfold slices_Equal_int_int.f
    rw [if_pos (by omega)]
    rfl
  · rw [decide_eq_false (fun h => hl (by rw [h]))]
    exact Ev.congr (g' := fun _ => some false) (fun k => by unfold slices_Equal_int_int.f; rw [if_neg (by omega)]) (Ev.const _)
theorem ev_equal (a b : ByteArray) (ha : a.size ≤ 50000) (hb : b.size ≤ 50000) : Ev (fun k => normal_Equal.f k a b) (okS a && (okS b && decide (decD (chs a) = decD (chs b)))) := by
  refine Ev.congr (g' := fun k => if okS a = true then (if okS b = true then (slices_Equal_int_int.f k (decD (chs a)) (decD (chs b))).bind fun t => some t else some false) else some false) (fun k => ?_) ?_
  · unfold normal_Equal.f
    rw [decomposed_eq a ha, decomposed_eq b hb]
    rfl
  · cases okS a with
    | false => exact Ev.congr (fun k => if_neg (by decide)) (Ev.const _)
    | true =>
      refine Ev.congr (fun k => if_pos rfl) ?_
      cases okS b with
      | false => exact Ev.congr (fun k => if_neg (by decide)) (Ev.const _)
      | true => exact Ev.congr (fun k => if_pos rfl) (Ev.bind (ev_slEqual _ _ (by have := nlen a ha; omega)) (Ev.const _))
theorem chs_bytes {l : List Int} (h : ∀ c ∈ l, hasS c = true) : chs (bytesOfL l) = l ∧ okS (bytesOfL l) = true := by
  have e : (bytesOfL l).data.toList = encL l := rfl
  unfold chs okS decR
  rw [e, decS_enc hasS l (fun c hc => ⟨hasS_ok (h c hc), h c hc⟩)]
  exact ⟨by simp, rfl⟩
theorem bytes_size (l : List Int) : (bytesOfL l).size ≤ 3 * l.length := by
  have h1 := encL_len l
  have h2 : (bytesOfL l).size = (encL l).length := size_arr _
  omega
theorem base_atom {r : NRow} (h : r ∈ nrows) {x : Int} (hx : x ∈ r.b) : Atom x := ⟨((row_facts h).base x hx).1, (row_has h).1 x hx⟩
theorem splitR_atom {c : Int} (h : hasS c = true) (hs : splitS c = splitR c nrows) : ∀ rs : List NRow, (∀ r ∈ rs, r ∈ nrows) → (splitR c rs = splitR c nrows → ∀ x ∈ splitR c rs, Atom x)
  | [], _, he, x, hx => by
    rw [splitR] at hx he
    obtain rfl := List.mem_singleton.1 hx
    exact ⟨by rw [hs, ← he], h⟩
  | r :: rs, hr, he, x, hx => by
    have hrn := hr r (by simp)
    by_cases hm : c ∈ r.l
    · rw [splitR, if_pos hm] at hx
      rcases List.mem_cons.1 hx with rfl | hx
      · exact base_atom hrn (at0_mem (plc_ge.2 hm) (by have := plc_lt hm; have := (row_str hrn).2.2; omega))
      · obtain rfl := List.mem_singleton.1 hx
        exact mark_atom (row_facts hrn).mark.2
    · rw [splitR, if_neg hm] at hx he
      exact splitR_atom h hs rs (fun r' h' => hr r' (by simp [h'])) he x hx
theorem ascii_atoms : ((List.range 96).all fun n => splitS (32 + n) == [(32 + n : Int)]) = true := by decide +kernel
theorem ascii_atom {c : Int} (h0 : 32 ≤ c) (h1 : c < 128) (h : hasS c = true) : Atom c := by
  have := List.all_eq_true.1 ascii_atoms (c - 32).toNat (List.mem_range.2 (by omega))
  rw [show (32 : Int) + ((c - 32).toNat : Int) = c by omega] at this
  exact ⟨by simpa using this, h⟩
theorem split_atom {c : Int} (h : hasS c = true) : ∀ x ∈ splitS c, Atom x := by
  intro x hx
  have hxs := split_has h x hx
  have hr := hasS_range h
  by_cases h9 : c < 128
  · have e : splitS c = [c] := (ascii_atom (by omega) h9 h).1
    rw [e] at hx
    obtain rfl := List.mem_singleton.1 hx
    exact ascii_atom (by omega) h9 h
  · by_cases hsp : splitS c = splitR c nrows
    · rw [hsp] at hx
      exact splitR_atom h hsp nrows (fun _ h => h) rfl x hx
    · have hlow : x < 128 := by
        unfold splitS at hx hsp
        split at hx
        · obtain rfl := List.mem_singleton.1 hx; decide
        split at hx
        · obtain rfl := List.mem_singleton.1 hx; decide
        split at hx
        · obtain rfl := List.mem_singleton.1 hx; omega
        split at hx
        · obtain rfl := List.mem_singleton.1 hx; decide
        split at hx
        · rcases List.mem_cons.1 hx with rfl | hx
          · decide
          · obtain rfl := List.mem_singleton.1 hx; decide
        split at hx
        · rcases List.mem_cons.1 hx with rfl | hx
          · decide
          · obtain rfl := List.mem_singleton.1 hx; decide
        split at hx
        · obtain rfl := List.mem_singleton.1 hx; omega
        rename_i g1 g2 g3 g4 g5 g6 g7
        rw [if_neg g1, if_neg g2, if_neg g3, if_neg g4, if_neg g5, if_neg g6, if_neg g7, if_neg h9] at hsp
        exact absurd rfl hsp
      have := hasS_range hxs
      exact ascii_atom (by omega) hlow hxs
theorem decD_atoms {cs : List Int} (h : ∀ c ∈ cs, hasS c = true) : ∀ x ∈ decD cs, Atom x := by
  intro x hx
  have := (runS_mem _ _ (Nat.le_refl _) x).1 hx
  obtain ⟨c, hc, hx⟩ := List.mem_flatMap.1 this
  exact split_atom (h c hc) x hx
end Go.Proofs.YthcpdhniakpbaaaDoor.X
end

section
namespace Go.Proofs.YthcpdhniakpbaaaDoor.X
open Go.RowKit Go.Sort Go.Lib Go.Proofs.YthcpdhniakpbaaaDoorW.PrintWords Go.Proofs.YthcpdhniakpbaaaDoorW.PrintLast Go.Proofs.YthcpdhniakpbaaaDoorW.PrintMore
set_option linter.unusedVariables false
set_option linter.unusedSimpArgs false
theorem Ev.pick {α : Type} {c : Prop} [Decidable c] {g g' : Nat → Option α} {r : α} (h : c) (e : Ev g r) : Ev (fun k => if c then g k else g' k) r := Ev.congr (fun k => if_pos h) e
theorem Ev.skip {α : Type} {c : Prop} [Decidable c] {g g' : Nat → Option α} {r : α} (h : ¬ c) (e : Ev g' r) : Ev (fun k => if c then g k else g' k) r := Ev.congr (fun k => if_neg h) e
def eAc : ByteArray := ⟨#[195, 169]⟩
def fiL : ByteArray := ⟨#[239, 172, 129]⟩
def cAc : ByteArray := ⟨#[99, 204, 129, 204, 167]⟩
def eDc : ByteArray := ⟨#[101, 204, 129]⟩
theorem aw1 : (bytesOfL (decD (chs eAc))).toList = ([101, 204, 129] : List UInt8) := by decide +kernel
theorem aw2 : (bytesOfL (decD (chs fiL))).toList = ([102, 105] : List UInt8) := by decide +kernel
theorem aw3 : (bytesOfL (compS (decD (chs cAc)))).toList = ([195, 167, 204, 129] : List UInt8) := by decide +kernel
theorem aw4 : ((bytesOfL (compS (decD (chs eAc)))).toList == eAc.toList) = true := by decide +kernel
theorem aw5 : (okS eAc && (okS eDc && decide (decD (chs eAc) = decD (chs eDc)))) = true := by decide +kernel
theorem aw6 : (bytesOfL (stripS (decD (chs eAc)))).toList = ([101] : List UInt8) := by decide +kernel
theorem aw7 : cntM (decD (chs eAc)) = 1 := by decide +kernel
theorem ev_awake : Ev (fun k => bookplatelaw05_awake.f k) true := by
  have s1 : eAc.size ≤ 50000 := by decide
  have s2 : fiL.size ≤ 50000 := by decide
  have s3 : cAc.size ≤ 50000 := by decide
  have s4 : eDc.size ≤ 50000 := by decide
  unfold bookplatelaw05_awake.f
  refine Ev.bind (Ev.of fun k => decompose_eq eAc s1) (Ev.pick aw1 ?_)
  refine Ev.bind (Ev.of fun k => decompose_eq fiL s2) (Ev.pick aw2 ?_)
  refine Ev.bind (Ev.of fun k => compose_eq cAc s3) (Ev.pick aw3 ?_)
  refine Ev.bind (Ev.of fun k => is_eq eAc s1) (Ev.pick aw4 ?_)
  refine Ev.bind (ev_equal eAc eDc s1 s4) (Ev.pick aw5 ?_)
  refine Ev.bind (Ev.of fun k => strip_eq eAc s1) (Ev.pick aw6 ?_)
  refine Ev.bind (ev_marks eAc s1) ?_
  exact Ev.of fun k => by rw [aw7]; rfl
theorem form_facts (l : List Int) (hl : l.length ≤ 1000) (h : ∀ c ∈ l, hasS c = true) : chs (bytesOfL l) = l ∧ (bytesOfL l).size ≤ 50000 := by
  have := bytes_size l
  exact ⟨(chs_bytes h).1, by omega⟩
end Go.Proofs.YthcpdhniakpbaaaDoor.X
end

section
namespace Go.Proofs.YthcpdhniakpbaaaDoor.X
open Go.RowKit Go.Proofs.YthcpdhniakpbaaaDoorW.PrintWords Go.Proofs.YthcpdhniakpbaaaDoorW.PrintLast Go.Proofs.YthcpdhniakpbaaaDoorW.PrintMore
attribute [local go_sem] max2_int min2_int max_two min_two max_three min_three max_four min_four
set_option linter.unusedVariables false
set_option linter.unusedSimpArgs false
def bookplatelaw05_NormalStrips.j0 : Nat → ByteArray → ByteArray → Bool → Option (Bool)
  | 0, _, _, _ => none
  | k + 1, x0, x1, x15 => if x15 = true then (some true) else ((normal_Strip.f x0).bind fun t698 => ((normal_Marks.f k t698).bind fun t699 => (if t699 = 0 then ((normal_Strip.f t698).bind fun t700 => (if t700.toList = t698.toList then ((normal_Decompose.f t698).bind fun t701 => (if t701.toList = t698.toList then ((normal_Equal.f k x0 x1).bind fun t702 => (if t702 = true then ((normal_Strip.f x1).bind fun t703 => (some (t703.toList == t698.toList))) else (some true))) else (some false))) else (some false))) else (some false))))
def bookplatelaw05_NormalStrips.f (k : Nat) (a0 : ByteArray) (a1 : ByteArray) : Option (Bool) := (bookplatelaw05_awake.f k).bind fun t697 => (if t697 = true then (if (a0.size : Int) > 40 then (bookplatelaw05_NormalStrips.j0 k a0 a1 true) else (bookplatelaw05_NormalStrips.j0 k a0 a1 (decide ((a1.size : Int) > 40)))) else (some false))
set_option maxHeartbeats 8000000 in
set_option maxRecDepth 100000 in
theorem bookplatelaw05_NormalStrips.calls (k : Nat) (a0 : ByteArray) (a1 : ByteArray) (r : Bool) (w : World) (hG : GT1 w) (h : bookplatelaw05_NormalStrips.f k a0 a1 = some r) :
    Calls Tryd.prog 15 #[.string a0, .string a1] w fun e w' => e = .returned (.bool r) ∧ Below w.heap.size w w' := by
  have HG := Aside0.mk hG
  clear hG
  have HB := Aside0.mk (Below.refl w.heap.size w)
  have H : ((bookplatelaw05_awake.f k).bind fun t697 => (if t697 = true then (if (a0.size : Int) > 40 then (bookplatelaw05_NormalStrips.j0 k a0 a1 true) else (bookplatelaw05_NormalStrips.j0 k a0 a1 (decide ((a1.size : Int) > 40)))) else (some false))) = some r := h
  clear h
  replace H := Option.bind_eq_some_iff.mp H
  obtain ⟨t697, A30, H⟩ := H
  replace H : (if t697 = true then (if (a0.size : Int) > 40 then (bookplatelaw05_NormalStrips.j0 k a0 a1 true) else (bookplatelaw05_NormalStrips.j0 k a0 a1 (decide ((a1.size : Int) > 40)))) else (some false)) = some r := H
  have A3 := Aside0.mk A30
  clear A30
  by_cases c4 : t697 = true
  · subst c4
    have H1 : (if (a0.size : Int) > 40 then (bookplatelaw05_NormalStrips.j0 k a0 a1 true) else (bookplatelaw05_NormalStrips.j0 k a0 a1 (decide ((a1.size : Int) > 40)))) = some r := by rw [if_pos rfl] at H; exact H
    clear H
    have H := H1
    clear H1
    have HC5 := Aside0.mk H
    clear H
    go_enter Tryd.func15, Tryd.ntmps15
    go_upto_region 3 with (first | ((with_reducible refine gate_callee (f := 37) rfl ?_); refine goesL_ (some 6) rfl rfl Tryd.func37 (by kernel_rfl) rfl #[] rfl (by (try simp only [List.map_toArray, List.map_cons, List.map_nil]); first | done | rfl | (simp only [List.length_drop, List.length_take]; rfl)) ?_; (with_reducible refine (bookplatelaw05_awake.calls k  true _ ?side1 A3.out).mono ?_); (case side1 => exact GT1.below (HG.out) (by repeat (first | (with_reducible first | exact HB.out | apply below_alloc | apply pw_below_drewN | apply below_drew1) | exact HB.out))); rintro e w6 ⟨rfl, hb⟩; refine ⟨_, rfl, ?_⟩; have n0_ := Aside0.mk (below_step (by repeat (first | (with_reducible first | exact HB.out | apply below_alloc | apply pw_below_drewN | apply below_drew1) | exact HB.out)) hb); clear HB; have HB := n0_; clear n0_; (try clear hb); (try clear hb2); (try clear hk); (try clear hi)))
    (try simp only [Act.put, List.setIfInBounds_toArray, List.set_cons_zero, List.set_cons_succ])
    go_cut [15] (fun v15 wc => ∃ (kq : Nat) (x15_4 : Bool), v15 = .bool x15_4 ∧ Aside0 (bookplatelaw05_NormalStrips.j0 kq a0 a1 x15_4 = some r) ∧ Aside0 (kq ≤ k) ∧ Aside0 (Below w.heap.size w wc))
    case first =>
      have H := HC5.out
      clear HC5
      by_cases c7 : (a0.size : Int) > 40
      · rw [if_pos c7] at H
        have c7b0 : decide (40 < (a0.size : Int)) = true := decide_eq_true c7
        have c7b1 : decide (40 < a0.size) = true := decide_eq_true (by omega)
        clear c7
        (first | rw [c7b0] | (simp only [i64_w, i32_w]; rw [c7b0]) | skip)
        have H' := Aside0.mk H
        clear H
        go_wp2
        go_meet
        case rel => exact ⟨_, (true), (by first | rfl | (simp; done) | (simp [*]; done)), H', ⟨by first | omega | exact Nat.le_refl _⟩, ⟨by repeat (first | (with_reducible first | exact HB.out | apply below_alloc | apply pw_below_drewN | apply below_drew1) | exact HB.out)⟩⟩
      · rw [if_neg c7] at H
        have c7b0 : decide (40 < (a0.size : Int)) = false := decide_eq_false c7
        have c7b1 : decide (40 < a0.size) = false := decide_eq_false (by omega)
        clear c7
        (first | rw [c7b0] | (simp only [i64_w, i32_w]; rw [c7b0]) | skip)
        have H' := Aside0.mk H
        clear H
        go_wp2
        go_meet
        case rel => exact ⟨_, (decide ((a1.size : Int) > 40)), (by first | rfl | (simp; done) | (simp [*]; done)), H', ⟨by first | omega | exact Nat.le_refl _⟩, ⟨by repeat (first | (with_reducible first | exact HB.out | apply below_alloc | apply pw_below_drewN | apply below_drew1) | exact HB.out)⟩⟩
    case rest =>
      clear HC5
      try clear c1
      try clear p2
      try clear c3
      try clear c4
      try clear c7
      try clear c7b0
      try clear c7b1
      obtain ⟨kq, x15_4, rfl, HA, HJ4, HB⟩ := hcut
      cases kq with
      | zero => exact absurd HA.out (by simp [bookplatelaw05_NormalStrips.j0])
      | succ kj4 =>
        have H := HA.out
        clear HA
        simp only [bookplatelaw05_NormalStrips.j0] at H
        by_cases c8 : x15_4 = true
        · subst c8
          have H1 : (some true) = some r := by rw [if_pos rfl] at H; exact H
          clear H
          have H := H1
          clear H1
          obtain rfl := Option.some.inj H
          go_wp2
          go_ret
          exact ⟨by first | rfl | (simp [errW_none, errW_some] <;> rfl) | (simp [*, errW_none, errW_some] <;> rfl), by repeat (first | (with_reducible first | exact HB.out | apply below_alloc | apply pw_below_drewN | apply below_drew1) | exact HB.out)⟩
        · replace c8 := Bool.eq_false_iff.mpr c8
          subst c8
          have H1 : ((normal_Strip.f a0).bind fun t698 => ((normal_Marks.f kj4 t698).bind fun t699 => (if t699 = 0 then ((normal_Strip.f t698).bind fun t700 => (if t700.toList = t698.toList then ((normal_Decompose.f t698).bind fun t701 => (if t701.toList = t698.toList then ((normal_Equal.f kj4 a0 a1).bind fun t702 => (if t702 = true then ((normal_Strip.f a1).bind fun t703 => (some (t703.toList == t698.toList))) else (some true))) else (some false))) else (some false))) else (some false)))) = some r := by rw [if_neg (show ¬ (false = true) by decide)] at H; exact H
          clear H
          have H := H1
          clear H1
          replace H := Option.bind_eq_some_iff.mp H
          obtain ⟨t698, A90, H⟩ := H
          replace H : ((normal_Marks.f kj4 t698).bind fun t699 => (if t699 = 0 then ((normal_Strip.f t698).bind fun t700 => (if t700.toList = t698.toList then ((normal_Decompose.f t698).bind fun t701 => (if t701.toList = t698.toList then ((normal_Equal.f kj4 a0 a1).bind fun t702 => (if t702 = true then ((normal_Strip.f a1).bind fun t703 => (some (t703.toList == t698.toList))) else (some true))) else (some false))) else (some false))) else (some false))) = some r := H
          have A9 := Aside0.mk A90
          clear A90
          replace H := Option.bind_eq_some_iff.mp H
          obtain ⟨t699, A100, H⟩ := H
          replace H : (if t699 = 0 then ((normal_Strip.f t698).bind fun t700 => (if t700.toList = t698.toList then ((normal_Decompose.f t698).bind fun t701 => (if t701.toList = t698.toList then ((normal_Equal.f kj4 a0 a1).bind fun t702 => (if t702 = true then ((normal_Strip.f a1).bind fun t703 => (some (t703.toList == t698.toList))) else (some true))) else (some false))) else (some false))) else (some false)) = some r := H
          have A10 := Aside0.mk A100
          clear A100
          by_cases c11 : t699 = 0
          · rw [if_pos c11] at H
            have c11b0 : (t699 == 0) = true := beq_iff_eq.mpr c11
            have c11b1 : (t699 != 0) = false := bne_eq_false_iff_eq.mpr c11
            clear c11
            replace H := Option.bind_eq_some_iff.mp H
            obtain ⟨t700, A120, H⟩ := H
            replace H : (if t700.toList = t698.toList then ((normal_Decompose.f t698).bind fun t701 => (if t701.toList = t698.toList then ((normal_Equal.f kj4 a0 a1).bind fun t702 => (if t702 = true then ((normal_Strip.f a1).bind fun t703 => (some (t703.toList == t698.toList))) else (some true))) else (some false))) else (some false)) = some r := H
            have A12 := Aside0.mk A120
            clear A120
            by_cases c13 : t700.toList = t698.toList
            · rw [if_pos c13] at H
              have c13b0 : (t700.toList == t698.toList) = true := beq_iff_eq.mpr c13
              have c13b1 : (t700.toList != t698.toList) = false := bne_eq_false_iff_eq.mpr c13
              clear c13
              replace H := Option.bind_eq_some_iff.mp H
              obtain ⟨t701, A140, H⟩ := H
              replace H : (if t701.toList = t698.toList then ((normal_Equal.f kj4 a0 a1).bind fun t702 => (if t702 = true then ((normal_Strip.f a1).bind fun t703 => (some (t703.toList == t698.toList))) else (some true))) else (some false)) = some r := H
              have A14 := Aside0.mk A140
              clear A140
              by_cases c15 : t701.toList = t698.toList
              · rw [if_pos c15] at H
                have c15b0 : (t701.toList == t698.toList) = true := beq_iff_eq.mpr c15
                have c15b1 : (t701.toList != t698.toList) = false := bne_eq_false_iff_eq.mpr c15
                clear c15
                replace H := Option.bind_eq_some_iff.mp H
                obtain ⟨t702, A160, H⟩ := H
                replace H : (if t702 = true then ((normal_Strip.f a1).bind fun t703 => (some (t703.toList == t698.toList))) else (some true)) = some r := H
                have A16 := Aside0.mk A160
                clear A160
                by_cases c17 : t702 = true
                · subst c17
                  have H1 : ((normal_Strip.f a1).bind fun t703 => (some (t703.toList == t698.toList))) = some r := by rw [if_pos rfl] at H; exact H
                  clear H
                  have H := H1
                  clear H1
                  replace H := Option.bind_eq_some_iff.mp H
                  obtain ⟨t703, A180, H⟩ := H
                  replace H : (some (t703.toList == t698.toList)) = some r := H
                  have A18 := Aside0.mk A180
                  clear A180
                  obtain rfl := Option.some.inj H
                  go_wp2_with (first | ((with_reducible refine gate_callee (f := 44) rfl ?_); refine goesL_ (some 17) rfl rfl Tryd.func44 (by kernel_rfl) rfl #[.string a0] rfl (by (try simp only [List.map_toArray, List.map_cons, List.map_nil]); first | done | rfl | (simp only [List.length_drop, List.length_take]; rfl)) ?_; (with_reducible refine (normal_Strip.calls a0 t698 _ ?side1 A9.out).mono ?_); (case side1 => exact GT1.below (HG.out) (by repeat (first | (with_reducible first | exact HB.out | apply below_alloc | apply pw_below_drewN | apply below_drew1) | exact HB.out))); rintro e w19 ⟨rfl, hb⟩; refine ⟨_, rfl, ?_⟩; have n0_ := Aside0.mk (below_step (by repeat (first | (with_reducible first | exact HB.out | apply below_alloc | apply pw_below_drewN | apply below_drew1) | exact HB.out)) hb); clear HB; have HB := n0_; clear n0_; (try clear hb); (try clear hb2); (try clear hk); (try clear hi)) | ((with_reducible refine gate_callee (f := 46) rfl ?_); refine goesL_ (some 19) rfl rfl Tryd.func46 (by kernel_rfl) rfl #[.string t698] rfl (by (try simp only [List.map_toArray, List.map_cons, List.map_nil]); first | done | rfl | (simp only [List.length_drop, List.length_take]; rfl)) ?_; (with_reducible refine (normal_Marks.calls kj4 t698 t699 _ ?side1 A10.out).mono ?_); (case side1 => exact GT1.below (HG.out) (by repeat (first | (with_reducible first | exact HB.out | apply below_alloc | apply pw_below_drewN | apply below_drew1) | exact HB.out))); rintro e w20 ⟨rfl, hb⟩; refine ⟨_, rfl, ?_⟩; have n0_ := Aside0.mk (below_step (by repeat (first | (with_reducible first | exact HB.out | apply below_alloc | apply pw_below_drewN | apply below_drew1) | exact HB.out)) hb); clear HB; have HB := n0_; clear n0_; (try clear hb); (try clear hb2); (try clear hk); (try clear hi)) | (go_at_call 44; (with_reducible refine (normal_Strip.calls t698 t700 _ ?side1 A12.out).mono ?_); (case side1 => exact GT1.below (HG.out) (by repeat (first | (with_reducible first | exact HB.out | apply below_alloc | apply pw_below_drewN | apply below_drew1) | exact HB.out))); rintro e w21 ⟨rfl, hb⟩; have n0_ := Aside0.mk (below_step (by repeat (first | (with_reducible first | exact HB.out | apply below_alloc | apply pw_below_drewN | apply below_drew1) | exact HB.out)) hb); clear HB; have HB := n0_; clear n0_; (try clear hb); (try clear hb2); (try clear hk); (try clear hi)) | (go_at_call 38; (with_reducible refine (normal_Decompose.calls t698 t701 _ ?side1 A14.out).mono ?_); (case side1 => exact GT1.below (HG.out) (by repeat (first | (with_reducible first | exact HB.out | apply below_alloc | apply pw_below_drewN | apply below_drew1) | exact HB.out))); rintro e w22 ⟨rfl, hb⟩; have n0_ := Aside0.mk (below_step (by repeat (first | (with_reducible first | exact HB.out | apply below_alloc | apply pw_below_drewN | apply below_drew1) | exact HB.out)) hb); clear HB; have HB := n0_; clear n0_; (try clear hb); (try clear hb2); (try clear hk); (try clear hi)) | (go_at_call 48; (with_reducible refine (normal_Equal.calls kj4 a0 a1 true _ ?side1 A16.out).mono ?_); (case side1 => exact GT1.below (HG.out) (by repeat (first | (with_reducible first | exact HB.out | apply below_alloc | apply pw_below_drewN | apply below_drew1) | exact HB.out))); rintro e w23 ⟨rfl, hb⟩; have n0_ := Aside0.mk (below_step (by repeat (first | (with_reducible first | exact HB.out | apply below_alloc | apply pw_below_drewN | apply below_drew1) | exact HB.out)) hb); clear HB; have HB := n0_; clear n0_; (try clear hb); (try clear hb2); (try clear hk); (try clear hi)) | (go_at_call 44; (with_reducible refine (normal_Strip.calls a1 t703 _ ?side1 A18.out).mono ?_); (case side1 => exact GT1.below (HG.out) (by repeat (first | (with_reducible first | exact HB.out | apply below_alloc | apply pw_below_drewN | apply below_drew1) | exact HB.out))); rintro e w24 ⟨rfl, hb⟩; have n0_ := Aside0.mk (below_step (by repeat (first | (with_reducible first | exact HB.out | apply below_alloc | apply pw_below_drewN | apply below_drew1) | exact HB.out)) hb); clear HB; have HB := n0_; clear n0_; (try clear hb); (try clear hb2); (try clear hk); (try clear hi)))
                  go_ret
                  exact ⟨by first | rfl | (simp [errW_none, errW_some] <;> rfl) | (simp [*, errW_none, errW_some] <;> rfl), by repeat (first | (with_reducible first | exact HB.out | apply below_alloc | apply pw_below_drewN | apply below_drew1) | exact HB.out)⟩
                · replace c17 := Bool.eq_false_iff.mpr c17
                  subst c17
                  have H1 : (some true) = some r := by rw [if_neg (show ¬ (false = true) by decide)] at H; exact H
                  clear H
                  have H := H1
                  clear H1
                  obtain rfl := Option.some.inj H
                  go_wp2_with (first | ((with_reducible refine gate_callee (f := 44) rfl ?_); refine goesL_ (some 17) rfl rfl Tryd.func44 (by kernel_rfl) rfl #[.string a0] rfl (by (try simp only [List.map_toArray, List.map_cons, List.map_nil]); first | done | rfl | (simp only [List.length_drop, List.length_take]; rfl)) ?_; (with_reducible refine (normal_Strip.calls a0 t698 _ ?side1 A9.out).mono ?_); (case side1 => exact GT1.below (HG.out) (by repeat (first | (with_reducible first | exact HB.out | apply below_alloc | apply pw_below_drewN | apply below_drew1) | exact HB.out))); rintro e w25 ⟨rfl, hb⟩; refine ⟨_, rfl, ?_⟩; have n0_ := Aside0.mk (below_step (by repeat (first | (with_reducible first | exact HB.out | apply below_alloc | apply pw_below_drewN | apply below_drew1) | exact HB.out)) hb); clear HB; have HB := n0_; clear n0_; (try clear hb); (try clear hb2); (try clear hk); (try clear hi)) | ((with_reducible refine gate_callee (f := 46) rfl ?_); refine goesL_ (some 19) rfl rfl Tryd.func46 (by kernel_rfl) rfl #[.string t698] rfl (by (try simp only [List.map_toArray, List.map_cons, List.map_nil]); first | done | rfl | (simp only [List.length_drop, List.length_take]; rfl)) ?_; (with_reducible refine (normal_Marks.calls kj4 t698 t699 _ ?side1 A10.out).mono ?_); (case side1 => exact GT1.below (HG.out) (by repeat (first | (with_reducible first | exact HB.out | apply below_alloc | apply pw_below_drewN | apply below_drew1) | exact HB.out))); rintro e w26 ⟨rfl, hb⟩; refine ⟨_, rfl, ?_⟩; have n0_ := Aside0.mk (below_step (by repeat (first | (with_reducible first | exact HB.out | apply below_alloc | apply pw_below_drewN | apply below_drew1) | exact HB.out)) hb); clear HB; have HB := n0_; clear n0_; (try clear hb); (try clear hb2); (try clear hk); (try clear hi)) | (go_at_call 44; (with_reducible refine (normal_Strip.calls t698 t700 _ ?side1 A12.out).mono ?_); (case side1 => exact GT1.below (HG.out) (by repeat (first | (with_reducible first | exact HB.out | apply below_alloc | apply pw_below_drewN | apply below_drew1) | exact HB.out))); rintro e w27 ⟨rfl, hb⟩; have n0_ := Aside0.mk (below_step (by repeat (first | (with_reducible first | exact HB.out | apply below_alloc | apply pw_below_drewN | apply below_drew1) | exact HB.out)) hb); clear HB; have HB := n0_; clear n0_; (try clear hb); (try clear hb2); (try clear hk); (try clear hi)) | (go_at_call 38; (with_reducible refine (normal_Decompose.calls t698 t701 _ ?side1 A14.out).mono ?_); (case side1 => exact GT1.below (HG.out) (by repeat (first | (with_reducible first | exact HB.out | apply below_alloc | apply pw_below_drewN | apply below_drew1) | exact HB.out))); rintro e w28 ⟨rfl, hb⟩; have n0_ := Aside0.mk (below_step (by repeat (first | (with_reducible first | exact HB.out | apply below_alloc | apply pw_below_drewN | apply below_drew1) | exact HB.out)) hb); clear HB; have HB := n0_; clear n0_; (try clear hb); (try clear hb2); (try clear hk); (try clear hi)) | (go_at_call 48; (with_reducible refine (normal_Equal.calls kj4 a0 a1 false _ ?side1 A16.out).mono ?_); (case side1 => exact GT1.below (HG.out) (by repeat (first | (with_reducible first | exact HB.out | apply below_alloc | apply pw_below_drewN | apply below_drew1) | exact HB.out))); rintro e w29 ⟨rfl, hb⟩; have n0_ := Aside0.mk (below_step (by repeat (first | (with_reducible first | exact HB.out | apply below_alloc | apply pw_below_drewN | apply below_drew1) | exact HB.out)) hb); clear HB; have HB := n0_; clear n0_; (try clear hb); (try clear hb2); (try clear hk); (try clear hi)))
                  go_ret
                  exact ⟨by first | rfl | (simp [errW_none, errW_some] <;> rfl) | (simp [*, errW_none, errW_some] <;> rfl), by repeat (first | (with_reducible first | exact HB.out | apply below_alloc | apply pw_below_drewN | apply below_drew1) | exact HB.out)⟩
              · rw [if_neg c15] at H
                have c15b0 : (t701.toList == t698.toList) = false := beq_eq_false_iff_ne.mpr c15
                have c15b1 : (t701.toList != t698.toList) = true := bne_iff_ne.mpr c15
                obtain rfl := Option.some.inj H
                go_wp2_with (first | ((with_reducible refine gate_callee (f := 44) rfl ?_); refine goesL_ (some 17) rfl rfl Tryd.func44 (by kernel_rfl) rfl #[.string a0] rfl (by (try simp only [List.map_toArray, List.map_cons, List.map_nil]); first | done | rfl | (simp only [List.length_drop, List.length_take]; rfl)) ?_; (with_reducible refine (normal_Strip.calls a0 t698 _ ?side1 A9.out).mono ?_); (case side1 => exact GT1.below (HG.out) (by repeat (first | (with_reducible first | exact HB.out | apply below_alloc | apply pw_below_drewN | apply below_drew1) | exact HB.out))); rintro e w30 ⟨rfl, hb⟩; refine ⟨_, rfl, ?_⟩; have n0_ := Aside0.mk (below_step (by repeat (first | (with_reducible first | exact HB.out | apply below_alloc | apply pw_below_drewN | apply below_drew1) | exact HB.out)) hb); clear HB; have HB := n0_; clear n0_; (try clear hb); (try clear hb2); (try clear hk); (try clear hi)) | ((with_reducible refine gate_callee (f := 46) rfl ?_); refine goesL_ (some 19) rfl rfl Tryd.func46 (by kernel_rfl) rfl #[.string t698] rfl (by (try simp only [List.map_toArray, List.map_cons, List.map_nil]); first | done | rfl | (simp only [List.length_drop, List.length_take]; rfl)) ?_; (with_reducible refine (normal_Marks.calls kj4 t698 t699 _ ?side1 A10.out).mono ?_); (case side1 => exact GT1.below (HG.out) (by repeat (first | (with_reducible first | exact HB.out | apply below_alloc | apply pw_below_drewN | apply below_drew1) | exact HB.out))); rintro e w31 ⟨rfl, hb⟩; refine ⟨_, rfl, ?_⟩; have n0_ := Aside0.mk (below_step (by repeat (first | (with_reducible first | exact HB.out | apply below_alloc | apply pw_below_drewN | apply below_drew1) | exact HB.out)) hb); clear HB; have HB := n0_; clear n0_; (try clear hb); (try clear hb2); (try clear hk); (try clear hi)) | (go_at_call 44; (with_reducible refine (normal_Strip.calls t698 t700 _ ?side1 A12.out).mono ?_); (case side1 => exact GT1.below (HG.out) (by repeat (first | (with_reducible first | exact HB.out | apply below_alloc | apply pw_below_drewN | apply below_drew1) | exact HB.out))); rintro e w32 ⟨rfl, hb⟩; have n0_ := Aside0.mk (below_step (by repeat (first | (with_reducible first | exact HB.out | apply below_alloc | apply pw_below_drewN | apply below_drew1) | exact HB.out)) hb); clear HB; have HB := n0_; clear n0_; (try clear hb); (try clear hb2); (try clear hk); (try clear hi)) | (go_at_call 38; (with_reducible refine (normal_Decompose.calls t698 t701 _ ?side1 A14.out).mono ?_); (case side1 => exact GT1.below (HG.out) (by repeat (first | (with_reducible first | exact HB.out | apply below_alloc | apply pw_below_drewN | apply below_drew1) | exact HB.out))); rintro e w33 ⟨rfl, hb⟩; have n0_ := Aside0.mk (below_step (by repeat (first | (with_reducible first | exact HB.out | apply below_alloc | apply pw_below_drewN | apply below_drew1) | exact HB.out)) hb); clear HB; have HB := n0_; clear n0_; (try clear hb); (try clear hb2); (try clear hk); (try clear hi)))
                go_ret
                exact ⟨by first | rfl | (simp [errW_none, errW_some] <;> rfl) | (simp [*, errW_none, errW_some] <;> rfl), by repeat (first | (with_reducible first | exact HB.out | apply below_alloc | apply pw_below_drewN | apply below_drew1) | exact HB.out)⟩
            · rw [if_neg c13] at H
              have c13b0 : (t700.toList == t698.toList) = false := beq_eq_false_iff_ne.mpr c13
              have c13b1 : (t700.toList != t698.toList) = true := bne_iff_ne.mpr c13
              obtain rfl := Option.some.inj H
              go_wp2_with (first | ((with_reducible refine gate_callee (f := 44) rfl ?_); refine goesL_ (some 17) rfl rfl Tryd.func44 (by kernel_rfl) rfl #[.string a0] rfl (by (try simp only [List.map_toArray, List.map_cons, List.map_nil]); first | done | rfl | (simp only [List.length_drop, List.length_take]; rfl)) ?_; (with_reducible refine (normal_Strip.calls a0 t698 _ ?side1 A9.out).mono ?_); (case side1 => exact GT1.below (HG.out) (by repeat (first | (with_reducible first | exact HB.out | apply below_alloc | apply pw_below_drewN | apply below_drew1) | exact HB.out))); rintro e w34 ⟨rfl, hb⟩; refine ⟨_, rfl, ?_⟩; have n0_ := Aside0.mk (below_step (by repeat (first | (with_reducible first | exact HB.out | apply below_alloc | apply pw_below_drewN | apply below_drew1) | exact HB.out)) hb); clear HB; have HB := n0_; clear n0_; (try clear hb); (try clear hb2); (try clear hk); (try clear hi)) | ((with_reducible refine gate_callee (f := 46) rfl ?_); refine goesL_ (some 19) rfl rfl Tryd.func46 (by kernel_rfl) rfl #[.string t698] rfl (by (try simp only [List.map_toArray, List.map_cons, List.map_nil]); first | done | rfl | (simp only [List.length_drop, List.length_take]; rfl)) ?_; (with_reducible refine (normal_Marks.calls kj4 t698 t699 _ ?side1 A10.out).mono ?_); (case side1 => exact GT1.below (HG.out) (by repeat (first | (with_reducible first | exact HB.out | apply below_alloc | apply pw_below_drewN | apply below_drew1) | exact HB.out))); rintro e w35 ⟨rfl, hb⟩; refine ⟨_, rfl, ?_⟩; have n0_ := Aside0.mk (below_step (by repeat (first | (with_reducible first | exact HB.out | apply below_alloc | apply pw_below_drewN | apply below_drew1) | exact HB.out)) hb); clear HB; have HB := n0_; clear n0_; (try clear hb); (try clear hb2); (try clear hk); (try clear hi)) | (go_at_call 44; (with_reducible refine (normal_Strip.calls t698 t700 _ ?side1 A12.out).mono ?_); (case side1 => exact GT1.below (HG.out) (by repeat (first | (with_reducible first | exact HB.out | apply below_alloc | apply pw_below_drewN | apply below_drew1) | exact HB.out))); rintro e w36 ⟨rfl, hb⟩; have n0_ := Aside0.mk (below_step (by repeat (first | (with_reducible first | exact HB.out | apply below_alloc | apply pw_below_drewN | apply below_drew1) | exact HB.out)) hb); clear HB; have HB := n0_; clear n0_; (try clear hb); (try clear hb2); (try clear hk); (try clear hi)))
              go_ret
              exact ⟨by first | rfl | (simp [errW_none, errW_some] <;> rfl) | (simp [*, errW_none, errW_some] <;> rfl), by repeat (first | (with_reducible first | exact HB.out | apply below_alloc | apply pw_below_drewN | apply below_drew1) | exact HB.out)⟩
          · rw [if_neg c11] at H
            have c11b0 : (t699 == 0) = false := beq_eq_false_iff_ne.mpr c11
            have c11b1 : (t699 != 0) = true := bne_iff_ne.mpr c11
            obtain rfl := Option.some.inj H
            go_wp2_with (first | ((with_reducible refine gate_callee (f := 44) rfl ?_); refine goesL_ (some 17) rfl rfl Tryd.func44 (by kernel_rfl) rfl #[.string a0] rfl (by (try simp only [List.map_toArray, List.map_cons, List.map_nil]); first | done | rfl | (simp only [List.length_drop, List.length_take]; rfl)) ?_; (with_reducible refine (normal_Strip.calls a0 t698 _ ?side1 A9.out).mono ?_); (case side1 => exact GT1.below (HG.out) (by repeat (first | (with_reducible first | exact HB.out | apply below_alloc | apply pw_below_drewN | apply below_drew1) | exact HB.out))); rintro e w37 ⟨rfl, hb⟩; refine ⟨_, rfl, ?_⟩; have n0_ := Aside0.mk (below_step (by repeat (first | (with_reducible first | exact HB.out | apply below_alloc | apply pw_below_drewN | apply below_drew1) | exact HB.out)) hb); clear HB; have HB := n0_; clear n0_; (try clear hb); (try clear hb2); (try clear hk); (try clear hi)) | ((with_reducible refine gate_callee (f := 46) rfl ?_); refine goesL_ (some 19) rfl rfl Tryd.func46 (by kernel_rfl) rfl #[.string t698] rfl (by (try simp only [List.map_toArray, List.map_cons, List.map_nil]); first | done | rfl | (simp only [List.length_drop, List.length_take]; rfl)) ?_; (with_reducible refine (normal_Marks.calls kj4 t698 t699 _ ?side1 A10.out).mono ?_); (case side1 => exact GT1.below (HG.out) (by repeat (first | (with_reducible first | exact HB.out | apply below_alloc | apply pw_below_drewN | apply below_drew1) | exact HB.out))); rintro e w38 ⟨rfl, hb⟩; refine ⟨_, rfl, ?_⟩; have n0_ := Aside0.mk (below_step (by repeat (first | (with_reducible first | exact HB.out | apply below_alloc | apply pw_below_drewN | apply below_drew1) | exact HB.out)) hb); clear HB; have HB := n0_; clear n0_; (try clear hb); (try clear hb2); (try clear hk); (try clear hi)))
            go_ret
            exact ⟨by first | rfl | (simp [errW_none, errW_some] <;> rfl) | (simp [*, errW_none, errW_some] <;> rfl), by repeat (first | (with_reducible first | exact HB.out | apply below_alloc | apply pw_below_drewN | apply below_drew1) | exact HB.out)⟩
  · replace c4 := Bool.eq_false_iff.mpr c4
    subst c4
    have H1 : (some false) = some r := by rw [if_neg (show ¬ (false = true) by decide)] at H; exact H
    clear H
    have H := H1
    clear H1
    obtain rfl := Option.some.inj H
    go_enter Tryd.func15, Tryd.ntmps15
    go_wp2_with (first | ((with_reducible refine gate_callee (f := 37) rfl ?_); refine goesL_ (some 6) rfl rfl Tryd.func37 (by kernel_rfl) rfl #[] rfl (by (try simp only [List.map_toArray, List.map_cons, List.map_nil]); first | done | rfl | (simp only [List.length_drop, List.length_take]; rfl)) ?_; (with_reducible refine (bookplatelaw05_awake.calls k  false _ ?side1 A3.out).mono ?_); (case side1 => exact GT1.below (HG.out) (by repeat (first | (with_reducible first | exact HB.out | apply below_alloc | apply pw_below_drewN | apply below_drew1) | exact HB.out))); rintro e w39 ⟨rfl, hb⟩; refine ⟨_, rfl, ?_⟩; have n0_ := Aside0.mk (below_step (by repeat (first | (with_reducible first | exact HB.out | apply below_alloc | apply pw_below_drewN | apply below_drew1) | exact HB.out)) hb); clear HB; have HB := n0_; clear n0_; (try clear hb); (try clear hb2); (try clear hk); (try clear hi)))
    go_ret
    exact ⟨by first | rfl | (simp [errW_none, errW_some] <;> rfl) | (simp [*, errW_none, errW_some] <;> rfl), by repeat (first | (with_reducible first | exact HB.out | apply below_alloc | apply pw_below_drewN | apply below_drew1) | exact HB.out)⟩
end Go.Proofs.YthcpdhniakpbaaaDoor.X
end

section
namespace Go.Proofs.YthcpdhniakpbaaaDoor.X
open Go.RowKit Go.Sort Go.Lib Go.Proofs.YthcpdhniakpbaaaDoorW.PrintWords Go.Proofs.YthcpdhniakpbaaaDoorW.PrintLast Go.Proofs.YthcpdhniakpbaaaDoorW.PrintMore
set_option linter.unusedVariables false
set_option linter.unusedSimpArgs false
theorem strip_marks {l : List Int} : ∀ x ∈ stripS l, isMk x = false := fun x hx => by simpa using (List.mem_filter.1 hx).2
theorem strip_none {l : List Int} (h : ∀ x ∈ l, isMk x = false) : stripS l = l := List.filter_eq_self.2 fun x hx => by rw [h x hx]; rfl
theorem strip_twice (l : List Int) : stripS (stripS l) = stripS l := strip_none strip_marks
theorem cntM_none {l : List Int} (h : ∀ x ∈ l, isMk x = false) : cntM l = 0 := by
  unfold cntM
  rw [List.filter_eq_nil_iff.2 fun x hx => by rw [h x hx]; decide]
  rfl
theorem dec_of_strip {d : List Int} (ha : ∀ x ∈ d, Atom x) : decD (stripS d) = stripS d := by
  have hm : ∀ x ∈ stripS d, Atom x := fun x hx => ha x (List.mem_filter.1 hx).1
  unfold decD
  rw [flat_atoms _ hm]
  exact runS_noMarks _ strip_marks
theorem normStrips_true (a0 a1 : ByteArray) : ∃ k, bookplatelaw05_NormalStrips.f k a0 a1 = some true := by
  apply Ev.get
  unfold bookplatelaw05_NormalStrips.f
  refine Ev.bind ev_awake (Ev.pick rfl ?_)
  have big : Ev (fun k => bookplatelaw05_NormalStrips.j0 k a0 a1 true) true := Ev.step (g' := fun _ => some true) (fun k => by rw [bookplatelaw05_NormalStrips.j0, if_pos rfl]) (Ev.const _)
  by_cases h : (a0.size : Int) > 40
  · exact Ev.pick h big
  refine Ev.skip h ?_
  by_cases h1 : (a1.size : Int) > 40
  · rw [decide_eq_true h1]
    exact big
  rw [decide_eq_false h1]
  have hs : a0.size ≤ 50000 := by omega
  have hs1 : a1.size ≤ 50000 := by omega
  have hdl : (stripS (decD (chs a0))).length ≤ 1000 := by
    have := decD_len (chs a0)
    have := chs_len a0
    have : (stripS (decD (chs a0))).length ≤ (decD (chs a0)).length := List.length_filter_le _ _
    omega
  have hsh : ∀ c ∈ stripS (decD (chs a0)), hasS c = true := fun c hc => dhas a0 c (List.mem_filter.1 hc).1
  obtain ⟨f1, f2⟩ := form_facts _ hdl hsh
  have S1 := strip_eq _ f2
  have D1 := decompose_eq _ f2
  have M1 := ev_marks _ f2
  have e1 : decD (stripS (decD (chs a0))) = stripS (decD (chs a0)) := dec_of_strip (decD_atoms (chs_has a0))
  rw [f1, e1] at D1 M1
  rw [f1, e1, strip_twice] at S1
  rw [cntM_none strip_marks] at M1
  refine Ev.step (fun k => by rw [bookplatelaw05_NormalStrips.j0, if_neg (by decide)]) (Ev.bind (Ev.of fun k => strip_eq a0 hs) (Ev.bind M1 ?_))
  refine Ev.pick rfl (Ev.bind (Ev.of fun k => S1) (Ev.pick rfl (Ev.bind (Ev.of fun k => D1) (Ev.pick rfl (Ev.bind (ev_equal a0 a1 hs hs1) ?_)))))
  by_cases he : (okS a0 && (okS a1 && decide (decD (chs a0) = decD (chs a1)))) = true
  · refine Ev.pick he (Ev.bind (Ev.of fun k => strip_eq a1 hs1) ?_)
    simp only [Bool.and_eq_true, decide_eq_true_eq] at he
    exact Ev.of fun k => by rw [← he.2.2, beq_self_eq_true]
  · exact Ev.skip he (Ev.const _)
end Go.Proofs.YthcpdhniakpbaaaDoor.X
end
