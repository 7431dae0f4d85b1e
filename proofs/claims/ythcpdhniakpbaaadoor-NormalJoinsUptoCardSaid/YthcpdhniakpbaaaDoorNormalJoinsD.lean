/- The law NormalJoins returns true for every input of the sizes that the row's condition lets in, the package variables that it reads holding what the row lists. Part 4 of the texts that its proof stands on; put together by a program. -/
import Derived.Test.YthcpdhniakpbaaaDoorNormalJoinsC
import Derived.WalkMore
import Derived.ScopeJumps
import Derived.Lib.IndexLaws
import Derived.Lib.IndexBytes
import Derived.Lib.RuneBytes
import Derived.BigQuiet
import Derived.Deep.QuietTactic
import Derived.Deep.LoopGhost
import Derived.Outline
import Derived.WalkSpells
import Derived.Lib.Hide
import Derived.Deep.Cut
import Derived.Deep.WholeRow
import Derived.Laws.IdiomStrings
import Derived.Lib.FrozenHead
import Derived.Lib.FrozenHead2
import Derived.Lib.OthersKept
import Derived.Maps.Own
import Derived.Maps.OwnOps
import Derived.Maps.OwnSet
import Derived.Maps.Views
import Derived.Deep.CutRange
import Derived.Deep.CutBlock
import Derived.Deep.DeepCutAuto
section
namespace Go.Proofs.YthcpdhniakpbaaaDoor.X
open Go.RowKit Go.Proofs.YthcpdhniakpbaaaDoorW.PrintWords
theorem wp_scope_fwd {P : Program} {a : Act} {w : World} {Q : Exit → Act → World → Prop} {c rest : Code} (l : Nat) (hf : findLabel c l = some rest)
    (h : c.wp P (Exit.jump l (fun a w => rest.wp P (Exit.jump l (fun _ _ => False) Q) a w) Q) a w) : (Code.scope c).wp P Q a w :=
  wp_scope_jumps l (fun a w => rest.wp P (Exit.jump l (fun _ _ => False) Q) a w) (fun _ _ => 0) hf h
    (fun _ _ hj => wp_mono hj (fun e a w hq => by cases e <;> first | exact hq | exact hq.2.elim))
section
variable {Q : Exit → Act → World → Prop} {J : Act → World → Prop} {a : Act} {w : World} {l : Nat}
theorem jump_normal : Exit.jump l J Q .normal a w = Q .normal a w := rfl
theorem jump_exit (id : Nat) : Exit.jump l J Q (.exit id) a w = Q (.exit id) a w := rfl
theorem jump_ret : Exit.jump l J Q .ret a w = Q .ret a w := rfl
end
attribute [local go_sem] jump_normal jump_exit jump_ret
theorem quiet_add_same {P : Program} {f : FuncId} {args : Array Value} {w : World} {a n : Nat} {v : Value}
    (h : Calls P f args (w.drewN (a + n)) fun e w' => e = .returned v ∧ w' = w.drewN (a + n)) :
    Calls P f args (w.drewN (a + n)) fun e w'' => e = .returned v ∧ ∃ m, w'' = w.drewN (a + m) :=
  h.mono fun _ _ ⟨he, hm⟩ => ⟨he, n, hm⟩
theorem valid_yes (r : Int) (w : World) (h : (128 ≤ r ∧ r ≤ 55295) ∨ (57344 ≤ r ∧ r ≤ 1114111)) : Calls Tryd.prog 115 #[.int .i32 r] w fun e w' => e = .returned (.bool true) ∧ w = w' := by
  rcases h with ⟨h1, h2⟩ | ⟨h1, h2⟩
  · go_enter Tryd.func115, Tryd.ntmps115
    go_wp2
    go_ret
    exact ⟨rfl, rfl⟩
  · go_enter Tryd.func115, Tryd.ntmps115
    go_wp2
    go_ret
    exact ⟨rfl, rfl⟩
theorem valid_no (r : Int) (w : World) (h : (55296 ≤ r ∧ r ≤ 57343) ∨ 1114112 ≤ r ∨ r < 0) : Calls Tryd.prog 115 #[.int .i32 r] w fun e w' => e = .returned (.bool false) ∧ w = w' := by
  rcases h with ⟨h1, h2⟩ | h1 | h1
  · go_enter Tryd.func115, Tryd.ntmps115
    go_wp2
    go_ret
    exact ⟨rfl, rfl⟩
  · go_enter Tryd.func115, Tryd.ntmps115
    go_wp2
    go_ret
    exact ⟨rfl, rfl⟩
  · go_enter Tryd.func115, Tryd.ntmps115
    go_wp2
    go_ret
    exact ⟨rfl, rfl⟩
theorem cut_any (n : Int) (w : World) (h0 : 0 ≤ n) (h : n ≤ 4294967296) : Calls Tryd.prog 116 #[.int .i64 n] w fun e w' => e = .returned (.int .i64 ((n + 16) / 8)) ∧ w = w' := by
  go_enter Tryd.func116, Tryd.ntmps116
  go_wp2
  go_ret
  exact ⟨rfl, rfl⟩
theorem conv_rune (r : Int) (w : World) : (convert 21 9 (.int .i32 r)).run Tryd.prog w = .ok (.string (Utf8.encode r)) w := by
  have h21 := Tryd.underlying21
  have h9 := Tryd.underlying9
  simp [convert, run_underlying h21, run_underlying h9, Conv.intToString]
theorem cut_from (s : ByteArray) (i : Nat) (h : i + 1 ≤ s.size) (w : World) : (Instr.slice 9 (.string s) (some (.int .i64 ((i : Int) + 1))) none none).run Tryd.prog w = .ok (.string (s.extract (i + 1) s.size)) w := by
  have h9 := run_underlying (w := w) Tryd.underlying9
  have b0 : (0 : Int) ≤ (i : Int) + 1 := by omega
  have b1 : (i : Int) + 1 ≤ (s.size : Int) := by omega
  have b2 : ((i : Int) + 1).toNat = i + 1 := by omega
  simp [Instr.slice, h9, Instr.sliceBounds, Instr.sliceBound, asIntOf, go_sem, b0, b1, b2]
def IrInv (s rs : ByteArray) (i f : Nat) : Prop :=
  NoEnd s.data.toList rs.data.toList i ∧ rs.size ≤ i + 1 ∧ i ≤ s.size + rs.size ∧ f ≤ cntTo s.data.toList (rs.data.toList.getD (rs.size - 1) 0) i
def IrHit (s rs : ByteArray) (L i f : Nat) : Prop := IrInv s rs i f ∧ s.data.toList[i]? = rs.data.toList[L]?
def IrPart (s rs : ByteArray) (L i j : Nat) : Prop := ∀ t, t < j → s.data.toList[i - t]? = rs.data.toList[L - t]?
theorem ret_int {k : IntKind} {a b : Int} (h : a = b) : Ending.returned (.int k a) = .returned (.int k b) := by rw [h]
theorem at_get {s : ByteArray} {i : Nat} (h : i < s.size) : s.data.toList[i]? = some s[i] := Lib.data_getElem? s i h
theorem len_of (s : ByteArray) : s.data.toList.length = s.size := data_length s
theorem same_byte {a b : UInt8} (h : (((a.toNat : Nat) : Int) != ((b.toNat : Nat) : Int)) = false) : a = b := Lib.byte_eq_of_toNat (by simpa using h)
theorem other_byte {a b : UInt8} (h : (((a.toNat : Nat) : Int) != ((b.toNat : Nat) : Int)) = true) : a ≠ b := fun e => by subst e; simp at h
theorem hit_here {s rs : ByteArray} {L i f : Nat} (h : IrInv s rs i f) (hi : i < s.size) (hL : L < rs.size) (hb : (((s[i].toNat : Nat) : Int) != ((rs[L].toNat : Nat) : Int)) = false) : IrHit s rs L i f :=
  ⟨h, by rw [at_get hi, at_get hL, same_byte hb]⟩
theorem skip_facts {s rs : ByteArray} {L i k : Nat} (hLb : L < rs.size) (ho : Lib.indexByte (s.extract (i + 1) s.size).data.toList ((rs[L].toNat : Int)).toNat.toUInt8 = (k : Int)) :
    s.data.toList[i + 1 + k]? = rs.data.toList[L]? ∧ ∀ t, t < k → s.data.toList[i + 1 + t]? ≠ rs.data.toList[L]? := by
  rw [Lib.extract_to_end, Lib.byte_back] at ho
  obtain ⟨h1, h2⟩ := Lib.indexByte_some ho
  rw [List.getElem?_drop] at h1
  refine ⟨by rw [h1, at_get hLb], fun t ht => ?_⟩
  have := h2 t ht
  rw [List.getElem?_drop] at this
  rw [at_get hLb]
  exact this
theorem hit_skip {s rs : ByteArray} {L i k f : Nat} (hL : rs.size = L + 1) (h : IrInv s rs i f) (hi : i < s.size) (hLb : L < rs.size) (hb : (((s[i].toNat : Nat) : Int) != ((rs[L].toNat : Nat) : Int)) = true)
    (ho : Lib.indexByte (s.extract (i + 1) s.size).data.toList ((rs[L].toNat : Int)).toNat.toUInt8 = (k : Int)) : i + (k + 1) < s.size ∧ IrHit s rs L (i + (k + 1)) f := by
  obtain ⟨h1, h2⟩ := skip_facts hLb ho
  have hlt : i + (k + 1) < s.size := by
    rw [at_get hLb] at h1
    have := (List.getElem?_eq_some_iff.1 h1).1
    rw [len_of] at this
    omega
  refine ⟨hlt, ⟨?_, by have := h.2.1; omega, by omega, Nat.le_trans h.2.2.2 (cntTo_mono _ _ (by omega))⟩, by rw [← h1, show i + (k + 1) = i + 1 + k by omega]⟩
  refine ir_skip h.1 (by rw [len_of]; omega) (fun q hq1 hq2 => ?_)
  rw [len_of, show rs.size - 1 = L by omega]
  rcases Nat.lt_or_ge i q with hq | hq
  · have := h2 (q - (i + 1)) (by omega)
    rwa [show i + 1 + (q - (i + 1)) = q by omega] at this
  · obtain rfl : q = i := by omega
    rw [at_get hi, at_get hLb]
    exact fun e => other_byte hb (Option.some.inj e)
theorem indexByte_ge : ∀ (l : List UInt8) (c : UInt8), -1 ≤ Lib.indexByte l c
  | [], _ => by simp [Lib.indexByte]
  | b :: l, c => by
    have := indexByte_ge l c
    unfold Lib.indexByte
    split
    · omega
    · split <;> omega
theorem skip_none {s rs : ByteArray} {L i f : Nat} {o : Int} (hL : rs.size = L + 1) (h : IrInv s rs i f) (hi : i < s.size) (hLb : L < rs.size) (hb : (((s[i].toNat : Nat) : Int) != ((rs[L].toNat : Nat) : Int)) = true)
    (ho : Lib.indexByte (s.extract (i + 1) s.size).data.toList ((rs[L].toNat : Int)).toNat.toUInt8 = o) (hneg : o < 0) : Lib.index s.data.toList rs.data.toList = -1 := by
  have hge := indexByte_ge (s.extract (i + 1) s.size).data.toList ((rs[L].toNat : Int)).toNat.toUInt8
  obtain rfl : o = -1 := by omega
  rw [Lib.extract_to_end, Lib.byte_back] at ho
  have hno := Lib.indexByte_none ho
  refine ir_end (i := s.size) (ir_skip h.1 (by rw [len_of]; omega) (fun q hq1 hq2 => ?_)) (by rw [len_of]; exact Nat.le_refl _) (fun e => by have := len_of rs; rw [e] at this; simp at this; omega)
  rw [len_of, show rs.size - 1 = L by omega]
  rcases Nat.lt_or_ge i q with hq | hq
  · have := hno (q - (i + 1))
    rw [List.getElem?_drop, show i + 1 + (q - (i + 1)) = q by omega] at this
    rw [at_get hLb]
    exact this
  · obtain rfl : q = i := by omega
    rw [at_get hi, at_get hLb]
    exact fun e => other_byte hb (Option.some.inj e)
theorem part_start {s rs : ByteArray} {L i f : Nat} (h : IrHit s rs L i f) : IrPart s rs L i 1 := fun t ht => by
  obtain rfl : t = 0 := by omega
  exact h.2
theorem part_step {s rs : ByteArray} {L i j : Nat} (h : IrPart s rs L i j) (hi : i - j < s.size) (hL : L - j < rs.size) (hb : (((s[i - j].toNat : Nat) : Int) != ((rs[L - j].toNat : Nat) : Int)) = false) : IrPart s rs L i (j + 1) := fun t ht => by
  rcases Nat.lt_or_ge t j with h' | h'
  · exact h t h'
  · obtain rfl : t = j := by omega
    rw [at_get hi, at_get hL, same_byte hb]
theorem part_done {s rs : ByteArray} {L i f : Nat} (hL : rs.size = L + 1) (h : IrHit s rs L i f) (hi : i < s.size) (hp : IrPart s rs L i (L + 1)) : Lib.index s.data.toList rs.data.toList = (i : Int) - (L : Int) := by
  have := ir_hit (R := rs.data.toList) h.1.1 (by rw [len_of]; exact hi) (by rw [len_of]; exact h.1.2.1) (by rw [len_of]; omega) (fun t ht => by
    rw [len_of] at ht ⊢
    rw [show rs.size - 1 - t = L - t by omega]
    exact hp t (by omega))
  rw [this, len_of]
  have := h.1.2.1
  omega
theorem part_miss {s rs : ByteArray} {L i j f : Nat} (hL : rs.size = L + 1) (h : IrHit s rs L i f) (hi : i < s.size) (hj : j ≤ L) (hij : i - j < s.size) (hLj : L - j < rs.size) (hb : (((s[i - j].toNat : Nat) : Int) != ((rs[L - j].toNat : Nat) : Int)) = true) : IrInv s rs (i + 1) (f + 1) := by
  have hLb : L < rs.size := by omega
  refine ⟨ir_miss (t := j) h.1.1 (by rw [len_of]; exact h.1.2.1) (by rw [len_of]; omega) ?_, by have := h.1.2.1; omega, by omega, ?_⟩
  · rw [len_of, show rs.size - 1 - j = L - j by omega, at_get hij, at_get hLj]
    exact fun e => other_byte hb (Option.some.inj e)
  · have hc := h.1.2.2.2
    have h2 := h.2
    rw [at_get hLb] at h2
    rw [show rs.size - 1 = L by omega, List.getD_eq_getElem?_getD, at_get hLb, Option.getD_some] at hc ⊢
    rw [cntTo_succ _ _ h2]
    exact Nat.succ_le_succ hc
theorem fails_le {s rs : ByteArray} {L i f : Nat} (hL : rs.size = L + 1) (h : IrInv s rs (i + 1) (f + 1)) (hi : i < s.size) (hcalm : calm s.data.toList (rs.data.toList.getD L 0) = true) : (f : Int) + 1 ≤ ((i : Int) + 1 + 16) / 8 := by
  have h1 := calm_le hcalm (i + 1) (by rw [len_of]; omega)
  have h2 := h.2.2.2
  rw [show rs.size - 1 = L by omega] at h2
  omega
set_option maxHeartbeats 4000000 in
set_option maxRecDepth 100000 in
theorem ir_walk (s : ByteArray) (r : Int) (w : World) (h0 : 128 ≤ r) (hv : (128 ≤ r ∧ r ≤ 55295) ∨ (57344 ≤ r ∧ r ≤ 1114111)) (hne : (r == 65533) = false) (hs : s.size ≤ 4294967000) (rs : ByteArray) (L : Nat) (hL : rs.size = L + 1) (hr2 : 1 ≤ L) (hr4 : L ≤ 3)
    (hconv : ∀ w, (convert 21 9 (.int .i32 r)).run Tryd.prog w = .ok (.string rs) w) (hcalm : calm s.data.toList (rs.data.toList.getD L 0) = true) :
    Calls Tryd.prog 106 #[.string s, .int .i32 r] w fun e w' => e = .returned (.int .i64 (Lib.index s.data.toList rs.data.toList)) ∧ Drawn0 w w' := by
  have HC := Lib.hid hcalm
  clear hcalm
  have HV := Lib.hid hv
  clear hv
  have hs1 : (rs.size : Int) - 1 = (L : Int) := by omega
  have hLb : L < rs.size := by omega
  have HL := Lib.hid hL
  clear hL
  go_enter Tryd.func106, Tryd.ntmps106
  go_wp2_with (go_at_call 115; refine (valid_yes _ _ HV.out).mono ?_; rintro e w' ⟨rfl, rfl⟩)
  go_step3
  go_wp2
  go_loopw [9, 10, 11, 12] (fun v9 v10 v11 v12 wr => ∃ i f : Nat, v9 = .int .i64 (i : Int) ∧ v10 = .int .i64 (f : Int) ∧ Aside0 (IrInv s rs i f) ∧ Aside0 (Drawn0 w wr)) (fun v9 v10 v11 v12 _ => s.size + 8 - (intOf v9).toNat)
  case atStart =>
    have hL := HL.out
    refine ⟨L, 0, rfl, rfl, ⟨NoEnd.start _ _ _ (by rw [len_of]; omega), by omega, by omega, by omega⟩, ⟨Drawn0.refl _⟩⟩
  case round =>
    obtain ⟨i, f, rfl, rfl, HI, HD⟩ := hrel
    by_cases hlt : i < s.size
    · go_wp2
      refine wp_scope_fwd 0 rfl ?_
      go_wp2
      obtain ⟨o, ho⟩ : ∃ o, Lib.indexByte (s.extract (i + 1) s.size).data.toList ((rs[L].toNat : Int)).toNat.toUInt8 = o := ⟨_, rfl⟩
      have HIB := Lib.hid (show ∀ w, Calls Tryd.prog 114 #[.string (s.extract (i + 1) s.size), .int .u8 (rs[L].toNat : Int)] w fun e w' => e = .returned (.int .i64 o) ∧ w' = w from fun w => by rw [← ho]; exact Tryd.strings_IndexByte _ _ w)
      have HO := Lib.hid ho
      clear ho
      have w1 : IntKind.i64.wrap ((i : Int) + 1) = (i : Int) + 1 := IntWalk.i64_in _ (by omega)
      have n1 : (0 : Int) ≤ (i : Int) + 1 := by omega
      have t1 : ((i : Int) + 1).toNat = i + 1 := by omega
      have l1 : i + 1 ≤ s.size := by omega
      have hcut := fun w => cut_from s i l1 w
      by_cases hc : (((s[i].toNat : Nat) : Int) != ((rs[L].toNat : Nat) : Int)) = true
      · by_cases hneg : o < 0
        · have HN := Lib.hid (skip_none HL.out HI.out hlt hLb hc HO.out hneg)
          go_quiet (fail)
          go_wp2
          go_quiet ((go_at_call 114; exact quiet_add_same (HIB.out _)))
          clear w1 n1 t1 hcut
          go_wp2
          change bodyPost Tryd.prog Tryd.f106 (fun e w' => e = Ending.returned (Value.int IntKind.i64 (Lib.index s.data.toList rs.data.toList)) ∧ Drawn0 w w') Exit.ret _ _
          go_ret
          exact ⟨ret_int HN.out.symm, HD.out.step _⟩
        · obtain ⟨k, rfl⟩ : ∃ k : Nat, o = (k : Int) := ⟨o.toNat, by omega⟩
          obtain ⟨i2, hi2⟩ : ∃ i2, i2 = i + (k + 1) := ⟨_, rfl⟩
          have hsk := hit_skip HL.out HI.out hlt hLb hc HO.out
          rw [← hi2] at hsk
          have hlt2 := hsk.1
          have HI2 := Aside0.mk hsk.2
          clear hsk
          have e2 : (i : Int) + ((k : Int) + 1) = (i2 : Int) := by omega
          have hle : i ≤ i2 := by omega
          clear hi2
          go_quiet (fail)
          go_wp2
          go_quiet ((go_at_call 114; exact quiet_add_same (HIB.out _)))
          go_wp2
          clear e2 hc
          clear w1 n1 t1 hcut l1 HO HIB HI
          go_loopw [12] (fun v12 wr1 => ∃ j : Nat, v12 = .int .i64 (j : Int) ∧ 1 ≤ j ∧ j ≤ L + 1 ∧ Aside0 (IrPart s rs L i2 j) ∧ Aside0 (Drawn0 w wr1)) (fun v12 _ => L + 1 - (intOf v12).toNat)
          case atStart => exact ⟨1, rfl, by omega, by omega, ⟨part_start HI2.out⟩, ⟨HD.out.step _⟩⟩
          case round =>
            obtain ⟨j, rfl, hj1, hj2, HP, HD1⟩ := hrel
            have hLi := HI2.out.1.2.1
            have hL := HL.out
            have HLI := Lib.hid (show L ≤ i2 by omega)
            clear hLi hL
            by_cases hjl : j < rs.size
            · have hjL : j ≤ L := by have := HL.out; omega
              have hji : j ≤ i2 := by have := HLI.out; omega
              have b1 : i2 - j < s.size := by omega
              have b2 : L - j < rs.size := by omega
              have c1 : (i2 : Int) - (j : Int) = ((i2 - j : Nat) : Int) := by omega
              have c2 : (L : Int) - (j : Int) = ((L - j : Nat) : Int) := by omega
              have w1 : IntKind.i64.wrap ((i2 : Int) - (j : Int)) = ((i2 - j : Nat) : Int) := by rw [c1]; exact IntWalk.i64_in _ (by omega)
              have w2 : IntKind.i64.wrap ((L : Int) - (j : Int)) = ((L - j : Nat) : Int) := by rw [c2]; exact IntWalk.i64_in _ (by omega)
              by_cases hx : (((s[i2 - j].toNat : Nat) : Int) != ((rs[L - j].toNat : Nat) : Int)) = true
              · have HM := Lib.hid (part_miss HL.out HI2.out hlt2 hjL b1 b2 hx)
                have hfl := fails_le HL.out HM.out hlt2 HC.out
                go_wp2
                go_quiet (fail)
                clear c1 c2 w1 w2
                go_wp2
                go_step3
                refine (show 0 = 0 ∧ _ from ⟨rfl, ?_⟩)
                go_wp2_with (go_at_call 116; refine (cut_any _ _ (by omega) (by omega)).mono ?_; rintro e w' ⟨rfl, rfl⟩)
                go_roundw
                case rel => exact ⟨i2 + 1, f + 1, by go_num, by go_num, ⟨HM.out⟩, ⟨HD1.out.step _⟩⟩
                case measure => simp [intOf]; omega
              · have hx' : (((s[i2 - j].toNat : Nat) : Int) != ((rs[L - j].toNat : Nat) : Int)) = false := by simpa using hx
                clear hx
                have HS := Lib.hid (part_step HP.out b1 b2 hx')
                go_wp2
                go_quiet (fail)
                clear c1 c2 w1 w2
                go_wp2
                go_roundw
                case rel => exact ⟨j + 1, by go_num, by omega, by omega, ⟨HS.out⟩, ⟨HD1.out.step _⟩⟩
                case measure => simp [intOf]; omega
            · obtain rfl : j = L + 1 := by have := HL.out; omega
              have HR := Lib.hid (part_done HL.out HI2.out hlt2 HP.out)
              go_wp2
              change bodyPost Tryd.prog Tryd.f106 (fun e w' => e = Ending.returned (Value.int IntKind.i64 (Lib.index s.data.toList rs.data.toList)) ∧ Drawn0 w w') Exit.ret _ _
              go_ret
              exact ⟨ret_int HR.out.symm, HD1.out⟩
      · have hc' : (((s[i].toNat : Nat) : Int) != ((rs[L].toNat : Nat) : Int)) = false := by simpa using hc
        clear hc
        obtain ⟨i2, hi2⟩ : ∃ i2, i2 = i := ⟨_, rfl⟩
        subst hi2
        have hlt2 := hlt
        have HI2 := Aside0.mk (hit_here HI.out hlt hLb hc')
        go_quiet (fail)
        go_wp2
        clear hc'
        clear w1 n1 t1 hcut l1 HO HIB HI
        go_loopw [12] (fun v12 wr1 => ∃ j : Nat, v12 = .int .i64 (j : Int) ∧ 1 ≤ j ∧ j ≤ L + 1 ∧ Aside0 (IrPart s rs L i2 j) ∧ Aside0 (Drawn0 w wr1)) (fun v12 _ => L + 1 - (intOf v12).toNat)
        case atStart => exact ⟨1, rfl, by omega, by omega, ⟨part_start HI2.out⟩, ⟨HD.out.step _⟩⟩
        case round =>
          obtain ⟨j, rfl, hj1, hj2, HP, HD1⟩ := hrel
          have hLi := HI2.out.1.2.1
          have hL := HL.out
          have HLI := Lib.hid (show L ≤ i2 by omega)
          clear hLi hL
          by_cases hjl : j < rs.size
          · have hjL : j ≤ L := by have := HL.out; omega
            have hji : j ≤ i2 := by have := HLI.out; omega
            have b1 : i2 - j < s.size := by omega
            have b2 : L - j < rs.size := by omega
            have c1 : (i2 : Int) - (j : Int) = ((i2 - j : Nat) : Int) := by omega
            have c2 : (L : Int) - (j : Int) = ((L - j : Nat) : Int) := by omega
            have w1 : IntKind.i64.wrap ((i2 : Int) - (j : Int)) = ((i2 - j : Nat) : Int) := by rw [c1]; exact IntWalk.i64_in _ (by omega)
            have w2 : IntKind.i64.wrap ((L : Int) - (j : Int)) = ((L - j : Nat) : Int) := by rw [c2]; exact IntWalk.i64_in _ (by omega)
            by_cases hx : (((s[i2 - j].toNat : Nat) : Int) != ((rs[L - j].toNat : Nat) : Int)) = true
            · have HM := Lib.hid (part_miss HL.out HI2.out hlt2 hjL b1 b2 hx)
              have hfl := fails_le HL.out HM.out hlt2 HC.out
              go_wp2
              go_quiet (fail)
              clear c1 c2 w1 w2
              go_wp2
              go_step3
              refine (show 0 = 0 ∧ _ from ⟨rfl, ?_⟩)
              go_wp2_with (go_at_call 116; refine (cut_any _ _ (by omega) (by omega)).mono ?_; rintro e w' ⟨rfl, rfl⟩)
              go_roundw
              case rel => exact ⟨i2 + 1, f + 1, by go_num, by go_num, ⟨HM.out⟩, ⟨HD1.out.step _⟩⟩
              case measure => simp [intOf]; omega
            · have hx' : (((s[i2 - j].toNat : Nat) : Int) != ((rs[L - j].toNat : Nat) : Int)) = false := by simpa using hx
              clear hx
              have HS := Lib.hid (part_step HP.out b1 b2 hx')
              go_wp2
              go_quiet (fail)
              clear c1 c2 w1 w2
              go_wp2
              go_roundw
              case rel => exact ⟨j + 1, by go_num, by omega, by omega, ⟨HS.out⟩, ⟨HD1.out.step _⟩⟩
              case measure => simp [intOf]; omega
          · obtain rfl : j = L + 1 := by have := HL.out; omega
            have HR := Lib.hid (part_done HL.out HI2.out hlt2 HP.out)
            go_wp2
            change bodyPost Tryd.prog Tryd.f106 (fun e w' => e = Ending.returned (Value.int IntKind.i64 (Lib.index s.data.toList rs.data.toList)) ∧ Drawn0 w w') Exit.ret _ _
            go_ret
            exact ⟨ret_int HR.out.symm, HD1.out⟩
    · have HE := Lib.hid (ir_end HI.out.1 (by rw [len_of]; omega) (fun e => by have := len_of rs; rw [e] at this; simp at this; omega))
      go_wp2
      change bodyPost Tryd.prog Tryd.f106 (fun e w' => e = Ending.returned (Value.int IntKind.i64 (Lib.index s.data.toList rs.data.toList)) ∧ Drawn0 w w') Exit.ret _ _
      go_ret
      exact ⟨ret_int HE.out.symm, HD.out⟩
set_option maxRecDepth 100000 in
theorem ir_ascii (s : ByteArray) (r : Int) (w : World) (h0 : 0 ≤ r) (h1 : r < 128) :
    Calls Tryd.prog 106 #[.string s, .int .i32 r] w fun e w' => e = .returned (.int .i64 (Lib.indexByte s.data.toList r.toNat.toUInt8)) ∧ w = w' := by
  go_enter Tryd.func106, Tryd.ntmps106
  go_wp2_with (go_at_call 114; refine (Tryd.strings_IndexByte _ _ _).mono ?_; rintro e w' ⟨rfl, rfl⟩)
  go_ret
  exact ⟨rfl, rfl⟩
set_option maxRecDepth 100000 in
theorem ir_bad (s : ByteArray) (r : Int) (w : World) (h : (55296 ≤ r ∧ r ≤ 57343) ∨ 1114112 ≤ r ∨ r < 0) :
    Calls Tryd.prog 106 #[.string s, .int .i32 r] w fun e w' => e = .returned (.int .i64 (-1)) ∧ w = w' := by
  have hne : (r == 65533) = false := by simp; omega
  have HB := Lib.hid h
  rcases h with h | h | h
  · go_enter Tryd.func106, Tryd.ntmps106
    go_wp2_with (go_at_call 115; refine (valid_no _ _ HB.out).mono ?_; rintro e w' ⟨rfl, rfl⟩)
    go_ret
    exact ⟨rfl, rfl⟩
  · go_enter Tryd.func106, Tryd.ntmps106
    go_wp2_with (go_at_call 115; refine (valid_no _ _ HB.out).mono ?_; rintro e w' ⟨rfl, rfl⟩)
    go_ret
    exact ⟨rfl, rfl⟩
  · go_enter Tryd.func106, Tryd.ntmps106
    go_wp2_with (go_at_call 115; refine (valid_no _ _ HB.out).mono ?_; rintro e w' ⟨rfl, rfl⟩)
    go_ret
    exact ⟨rfl, rfl⟩
theorem encode_size (r : Int) (h : (128 ≤ r ∧ r ≤ 55295) ∨ (57344 ≤ r ∧ r ≤ 1114111)) : 2 ≤ (Utf8.encode r).size ∧ (Utf8.encode r).size ≤ 4 := by
  have hv : Utf8.valid r = true := by
    unfold Utf8.valid
    rcases h with h | h
    · simp; omega
    · simp; omega
  unfold Utf8.encode
  simp only [hv, if_true]
  rw [if_neg (by omega)]
  split
  · simp [ByteArray.size]
  · split
    · simp [ByteArray.size]
    · simp [ByteArray.size]
def strings_IndexRune.f (a0 : ByteArray) (a1 : Int) : Option Int :=
  if 0 ≤ a1 ∧ a1 < 128 then some (Lib.indexByte a0.data.toList a1.toNat.toUInt8)
  else if (55296 ≤ a1 ∧ a1 ≤ 57343) ∨ 1114112 ≤ a1 ∨ a1 < 0 then some (-1)
  else if a1 = 65533 then none
  else if a0.size ≤ 4294967000 ∧ calm a0.data.toList ((Utf8.encode a1).data.toList.getD ((Utf8.encode a1).size - 1) 0) = true then some (Lib.index a0.data.toList (Utf8.encode a1).data.toList)
  else none
theorem strings_IndexRune.calls (a0 : ByteArray) (a1 : Int) (r : Int) (w : World) (h : strings_IndexRune.f a0 a1 = some r) :
    Calls Tryd.prog 106 #[.string a0, .int .i32 a1] w fun e w' => e = .returned (.int .i64 r) ∧ Drawn0 w w' := by
  unfold strings_IndexRune.f at h
  split at h
  · rename_i h1
    obtain rfl := Option.some.inj h
    exact (ir_ascii a0 a1 w h1.1 h1.2).mono fun e w' ⟨he, hw⟩ => ⟨he, hw ▸ Drawn0.refl _⟩
  · split at h
    · rename_i h1
      obtain rfl := Option.some.inj h
      exact (ir_bad a0 a1 w h1).mono fun e w' ⟨he, hw⟩ => ⟨he, hw ▸ Drawn0.refl _⟩
    · split at h
      · exact absurd h (by simp)
      · split at h
        · rename_i n1 n2 n3 h4
          obtain rfl := Option.some.inj h
          have hv : (128 ≤ a1 ∧ a1 ≤ 55295) ∨ (57344 ≤ a1 ∧ a1 ≤ 1114111) := by omega
          have hz := encode_size a1 hv
          exact ir_walk a0 a1 w (by omega) hv (by simpa using n3) h4.1 (Utf8.encode a1) ((Utf8.encode a1).size - 1) (by omega) (by omega) (by omega) (fun w => conv_rune a1 w) h4.2
        · exact absurd h (by simp)
end Go.Proofs.YthcpdhniakpbaaaDoor.X
end

section
namespace Go.Proofs.YthcpdhniakpbaaaDoor.X
open Go.RowKit Go.Proofs.YthcpdhniakpbaaaDoorW.PrintWords Go.Proofs.YthcpdhniakpbaaaDoorW.PrintLast Go.Proofs.YthcpdhniakpbaaaDoorW.PrintMore
attribute [local go_sem] max2_int min2_int max_two min_two max_three min_three max_four min_four
set_option linter.unusedVariables false
set_option linter.unusedSimpArgs false
def strings_ContainsRune.f (a0 : ByteArray) (a1 : Int) : Option (Bool) := (strings_IndexRune.f a0 a1).bind fun t373 => (some (decide (t373 ≥ 0)))
set_option maxHeartbeats 8000000 in
set_option maxRecDepth 100000 in
theorem strings_ContainsRune.calls (a0 : ByteArray) (a1 : Int) (r : Bool) (w : World) (h : strings_ContainsRune.f a0 a1 = some r) :
    Calls Tryd.prog 113 #[.string a0, .int .i32 a1] w fun e w' => e = .returned (.bool r) ∧ Drawn0 w w' := by
  have H : ((strings_IndexRune.f a0 a1).bind fun t373 => (some (decide (t373 ≥ 0)))) = some r := h
  clear h
  replace H := Option.bind_eq_some_iff.mp H
  obtain ⟨t373, A30, H⟩ := H
  replace H : (some (decide (t373 ≥ 0))) = some r := H
  have A3 := Aside0.mk A30
  clear A30
  obtain rfl := Option.some.inj H
  go_enter Tryd.func113, Tryd.ntmps113
  go_wp2_with (first | ((with_reducible refine gate_callee (f := 106) rfl ?_); refine goesL_ (some 7) rfl rfl Tryd.func106 (by kernel_rfl) rfl #[.string a0, .int .i32 a1] rfl (by (try simp only [List.map_toArray, List.map_cons, List.map_nil]); first | done | rfl | (simp only [List.length_drop, List.length_take]; rfl)) ?_; (with_reducible refine (strings_IndexRune.calls a0 a1 t373 _ A3.out).mono ?_); rintro e w' ⟨rfl, ⟨nd, rfl⟩⟩; refine ⟨_, rfl, ?_⟩))
  go_ret
  exact ⟨by first | rfl | (simp; done) | (simp [*]; done), by repeat (first | exact Drawn0.refl _ | apply Drawn0.step)⟩
mutual
def repertoire_letter.j0 : Nat → Int → Bool → Option (Int)
  | 0, _, _ => none
  | k + 1, x0, x3 => if x3 = true then (some 1) else (if x0 = 930 then ((repertoire_from.f x0 945 969).bind fun t378 => (if t378 = true then (repertoire_letter.j1 k x0 true) else ((strings_ContainsRune.f (⟨#[206, 134, 206, 136, 206, 137, 206, 138, 206, 140, 206, 142, 206, 143, 206, 172, 206, 173, 206, 174, 206, 175, 207, 140, 207, 141, 207, 142, 206, 170, 206, 171, 207, 138, 207, 139]⟩ : ByteArray) (wrap32 (x0))).bind fun t379 => (repertoire_letter.j1 k x0 t379)))) else ((repertoire_from.f x0 913 937).bind fun t380 => (if t380 = true then (repertoire_letter.j1 k x0 true) else ((repertoire_from.f x0 945 969).bind fun t381 => (if t381 = true then (repertoire_letter.j1 k x0 true) else ((strings_ContainsRune.f (⟨#[206, 134, 206, 136, 206, 137, 206, 138, 206, 140, 206, 142, 206, 143, 206, 172, 206, 173, 206, 174, 206, 175, 207, 140, 207, 141, 207, 142, 206, 170, 206, 171, 207, 138, 207, 139]⟩ : ByteArray) (wrap32 (x0))).bind fun t382 => (repertoire_letter.j1 k x0 t382)))))))
def repertoire_letter.j1 : Nat → Int → Bool → Option (Int)
  | 0, _, _ => none
  | k + 1, x0, x23 => if x23 = true then (some 2) else ((repertoire_from.f x0 1040 1103).bind fun t383 => (if t383 = true then (some 3) else ((strings_ContainsRune.f (⟨#[208, 129, 209, 145, 208, 135, 209, 151, 208, 132, 209, 148, 210, 144, 210, 145, 208, 142, 209, 158, 208, 134, 209, 150]⟩ : ByteArray) (wrap32 (x0))).bind fun t384 => (if t384 = true then (some 3) else (some 0)))))
end
def repertoire_letter.f (k : Nat) (a0 : Int) : Option (Int) := (repertoire_from.f a0 65 90).bind fun t374 => (if t374 = true then (repertoire_letter.j0 k a0 true) else ((repertoire_from.f a0 97 122).bind fun t375 => (if t375 = true then (repertoire_letter.j0 k a0 true) else (if a0 = 383 then (repertoire_letter.j0 k a0 true) else ((repertoire_from.f a0 64257 64258).bind fun t376 => (if t376 = true then (repertoire_letter.j0 k a0 true) else ((strings_ContainsRune.f (⟨#[195, 128, 195, 136, 195, 140, 195, 146, 195, 153, 195, 160, 195, 168, 195, 172, 195, 178, 195, 185, 195, 129, 195, 137, 195, 141, 195, 147, 195, 154, 195, 157, 195, 161, 195, 169, 195, 173, 195, 179, 195, 186, 195, 189, 196, 134, 196, 135, 196, 185, 196, 186, 197, 131, 197, 132, 197, 148, 197, 149, 197, 154, 197, 155, 197, 185, 197, 186, 195, 130, 195, 138, 195, 142, 195, 148, 195, 155, 195, 162, 195, 170, 195, 174, 195, 180, 195, 187, 196, 136, 196, 137, 196, 156, 196, 157, 196, 164, 196, 165, 196, 180, 196, 181, 197, 156, 197, 157, 197, 180, 197, 181, 197, 182, 197, 183, 195, 131, 195, 145, 195, 149, 195, 163, 195, 177, 195, 181, 196, 168, 196, 169, 197, 168, 197, 169, 196, 128, 196, 129, 196, 146, 196, 147, 196, 170, 196, 171, 197, 140, 197, 141, 197, 170, 197, 171, 196, 130, 196, 131, 196, 148, 196, 149, 196, 158, 196, 159, 196, 172, 196, 173, 197, 142, 197, 143, 197, 172, 197, 173, 196, 138, 196, 139, 196, 150, 196, 151, 196, 160, 196, 161, 196, 176, 197, 187, 197, 188, 195, 132, 195, 139, 195, 143, 195, 150, 195, 156, 195, 164, 195, 171, 195, 175, 195, 182, 195, 188, 195, 191, 197, 184, 195, 133, 195, 165, 197, 174, 197, 175, 197, 144, 197, 145, 197, 176, 197, 177, 196, 140, 196, 141, 196, 142, 196, 143, 196, 154, 196, 155, 197, 135, 197, 136, 197, 152, 197, 153, 197, 160, 197, 161, 197, 164, 197, 165, 197, 189, 197, 190, 196, 189, 196, 190, 195, 135, 195, 167, 196, 162, 196, 163, 196, 182, 196, 183, 196, 187, 196, 188, 197, 133, 197, 134, 197, 150, 197, 151, 197, 158, 197, 159, 197, 162, 197, 163, 196, 132, 196, 133, 196, 152, 196, 153, 196, 174, 196, 175, 197, 178, 197, 179, 195, 134, 195, 166, 195, 152, 195, 184, 195, 144, 195, 176, 195, 158, 195, 190, 195, 159, 196, 144, 196, 145, 196, 166, 196, 167, 196, 177, 197, 129, 197, 130, 197, 146, 197, 147, 197, 138, 197, 139, 197, 166, 197, 167]⟩ : ByteArray) (wrap32 (a0))).bind fun t377 => (repertoire_letter.j0 k a0 t377))))))))
set_option maxHeartbeats 8000000 in
set_option maxRecDepth 100000 in
theorem repertoire_letter.calls (k : Nat) (a0 : Int) (r : Int) (w : World) (h : repertoire_letter.f k a0 = some r) :
    Calls Tryd.prog 104 #[.int .i64 a0] w fun e w' => e = .returned (.int .i64 r) ∧ Drawn0 w w' := by
  have H : ((repertoire_from.f a0 65 90).bind fun t374 => (if t374 = true then (repertoire_letter.j0 k a0 true) else ((repertoire_from.f a0 97 122).bind fun t375 => (if t375 = true then (repertoire_letter.j0 k a0 true) else (if a0 = 383 then (repertoire_letter.j0 k a0 true) else ((repertoire_from.f a0 64257 64258).bind fun t376 => (if t376 = true then (repertoire_letter.j0 k a0 true) else ((strings_ContainsRune.f (⟨#[195, 128, 195, 136, 195, 140, 195, 146, 195, 153, 195, 160, 195, 168, 195, 172, 195, 178, 195, 185, 195, 129, 195, 137, 195, 141, 195, 147, 195, 154, 195, 157, 195, 161, 195, 169, 195, 173, 195, 179, 195, 186, 195, 189, 196, 134, 196, 135, 196, 185, 196, 186, 197, 131, 197, 132, 197, 148, 197, 149, 197, 154, 197, 155, 197, 185, 197, 186, 195, 130, 195, 138, 195, 142, 195, 148, 195, 155, 195, 162, 195, 170, 195, 174, 195, 180, 195, 187, 196, 136, 196, 137, 196, 156, 196, 157, 196, 164, 196, 165, 196, 180, 196, 181, 197, 156, 197, 157, 197, 180, 197, 181, 197, 182, 197, 183, 195, 131, 195, 145, 195, 149, 195, 163, 195, 177, 195, 181, 196, 168, 196, 169, 197, 168, 197, 169, 196, 128, 196, 129, 196, 146, 196, 147, 196, 170, 196, 171, 197, 140, 197, 141, 197, 170, 197, 171, 196, 130, 196, 131, 196, 148, 196, 149, 196, 158, 196, 159, 196, 172, 196, 173, 197, 142, 197, 143, 197, 172, 197, 173, 196, 138, 196, 139, 196, 150, 196, 151, 196, 160, 196, 161, 196, 176, 197, 187, 197, 188, 195, 132, 195, 139, 195, 143, 195, 150, 195, 156, 195, 164, 195, 171, 195, 175, 195, 182, 195, 188, 195, 191, 197, 184, 195, 133, 195, 165, 197, 174, 197, 175, 197, 144, 197, 145, 197, 176, 197, 177, 196, 140, 196, 141, 196, 142, 196, 143, 196, 154, 196, 155, 197, 135, 197, 136, 197, 152, 197, 153, 197, 160, 197, 161, 197, 164, 197, 165, 197, 189, 197, 190, 196, 189, 196, 190, 195, 135, 195, 167, 196, 162, 196, 163, 196, 182, 196, 183, 196, 187, 196, 188, 197, 133, 197, 134, 197, 150, 197, 151, 197, 158, 197, 159, 197, 162, 197, 163, 196, 132, 196, 133, 196, 152, 196, 153, 196, 174, 196, 175, 197, 178, 197, 179, 195, 134, 195, 166, 195, 152, 195, 184, 195, 144, 195, 176, 195, 158, 195, 190, 195, 159, 196, 144, 196, 145, 196, 166, 196, 167, 196, 177, 197, 129, 197, 130, 197, 146, 197, 147, 197, 138, 197, 139, 197, 166, 197, 167]⟩ : ByteArray) (wrap32 (a0))).bind fun t377 => (repertoire_letter.j0 k a0 t377))))))))) = some r := h
  clear h
  have HC2 := Aside0.mk H
  clear H
  go_enter Tryd.func104, Tryd.ntmps104
  go_upto_region 1 with (fail)
  go_cut [3] (fun v3 wc => ∃ (kq : Nat) (x3_1 : Bool), v3 = .bool x3_1 ∧ Aside0 (repertoire_letter.j0 kq a0 x3_1 = some r) ∧ Aside0 (kq ≤ k) ∧ Drawn0 w wc)
  case first =>
    have H := HC2.out
    clear HC2
    replace H := Option.bind_eq_some_iff.mp H
    obtain ⟨t374, A30, H⟩ := H
    replace H : (if t374 = true then (repertoire_letter.j0 k a0 true) else ((repertoire_from.f a0 97 122).bind fun t375 => (if t375 = true then (repertoire_letter.j0 k a0 true) else (if a0 = 383 then (repertoire_letter.j0 k a0 true) else ((repertoire_from.f a0 64257 64258).bind fun t376 => (if t376 = true then (repertoire_letter.j0 k a0 true) else ((strings_ContainsRune.f (⟨#[195, 128, 195, 136, 195, 140, 195, 146, 195, 153, 195, 160, 195, 168, 195, 172, 195, 178, 195, 185, 195, 129, 195, 137, 195, 141, 195, 147, 195, 154, 195, 157, 195, 161, 195, 169, 195, 173, 195, 179, 195, 186, 195, 189, 196, 134, 196, 135, 196, 185, 196, 186, 197, 131, 197, 132, 197, 148, 197, 149, 197, 154, 197, 155, 197, 185, 197, 186, 195, 130, 195, 138, 195, 142, 195, 148, 195, 155, 195, 162, 195, 170, 195, 174, 195, 180, 195, 187, 196, 136, 196, 137, 196, 156, 196, 157, 196, 164, 196, 165, 196, 180, 196, 181, 197, 156, 197, 157, 197, 180, 197, 181, 197, 182, 197, 183, 195, 131, 195, 145, 195, 149, 195, 163, 195, 177, 195, 181, 196, 168, 196, 169, 197, 168, 197, 169, 196, 128, 196, 129, 196, 146, 196, 147, 196, 170, 196, 171, 197, 140, 197, 141, 197, 170, 197, 171, 196, 130, 196, 131, 196, 148, 196, 149, 196, 158, 196, 159, 196, 172, 196, 173, 197, 142, 197, 143, 197, 172, 197, 173, 196, 138, 196, 139, 196, 150, 196, 151, 196, 160, 196, 161, 196, 176, 197, 187, 197, 188, 195, 132, 195, 139, 195, 143, 195, 150, 195, 156, 195, 164, 195, 171, 195, 175, 195, 182, 195, 188, 195, 191, 197, 184, 195, 133, 195, 165, 197, 174, 197, 175, 197, 144, 197, 145, 197, 176, 197, 177, 196, 140, 196, 141, 196, 142, 196, 143, 196, 154, 196, 155, 197, 135, 197, 136, 197, 152, 197, 153, 197, 160, 197, 161, 197, 164, 197, 165, 197, 189, 197, 190, 196, 189, 196, 190, 195, 135, 195, 167, 196, 162, 196, 163, 196, 182, 196, 183, 196, 187, 196, 188, 197, 133, 197, 134, 197, 150, 197, 151, 197, 158, 197, 159, 197, 162, 197, 163, 196, 132, 196, 133, 196, 152, 196, 153, 196, 174, 196, 175, 197, 178, 197, 179, 195, 134, 195, 166, 195, 152, 195, 184, 195, 144, 195, 176, 195, 158, 195, 190, 195, 159, 196, 144, 196, 145, 196, 166, 196, 167, 196, 177, 197, 129, 197, 130, 197, 146, 197, 147, 197, 138, 197, 139, 197, 166, 197, 167]⟩ : ByteArray) (wrap32 (a0))).bind fun t377 => (repertoire_letter.j0 k a0 t377)))))))) = some r := H
    have A3 := Aside0.mk A30
    clear A30
    by_cases c4 : t374 = true
    · subst c4
      have H1 : (repertoire_letter.j0 k a0 true) = some r := by rw [if_pos rfl] at H; exact H
      clear H
      have H := H1
      clear H1
      have H' := Aside0.mk H
      clear H
      go_wp2_with (first | ((with_reducible refine gate_callee (f := 103) rfl ?_); refine goesL_ (some 5) rfl rfl Tryd.func103 (by kernel_rfl) rfl #[.int .i64 a0, .int .i64 65, .int .i64 90] rfl (by (try simp only [List.map_toArray, List.map_cons, List.map_nil]); first | done | rfl | (simp only [List.length_drop, List.length_take]; rfl)) ?_; (with_reducible refine (repertoire_from.calls a0 65 90 true _ A3.out).mono ?_); rintro e w' ⟨rfl, ⟨nd, rfl⟩⟩; refine ⟨_, rfl, ?_⟩))
      go_meet
      case rel => exact ⟨_, (true), (by first | rfl | (simp; done) | (simp [*]; done)), H', ⟨by first | omega | exact Nat.le_refl _⟩, by repeat (first | exact Drawn0.refl _ | apply Drawn0.step)⟩
    · replace c4 := Bool.eq_false_iff.mpr c4
      subst c4
      have H1 : ((repertoire_from.f a0 97 122).bind fun t375 => (if t375 = true then (repertoire_letter.j0 k a0 true) else (if a0 = 383 then (repertoire_letter.j0 k a0 true) else ((repertoire_from.f a0 64257 64258).bind fun t376 => (if t376 = true then (repertoire_letter.j0 k a0 true) else ((strings_ContainsRune.f (⟨#[195, 128, 195, 136, 195, 140, 195, 146, 195, 153, 195, 160, 195, 168, 195, 172, 195, 178, 195, 185, 195, 129, 195, 137, 195, 141, 195, 147, 195, 154, 195, 157, 195, 161, 195, 169, 195, 173, 195, 179, 195, 186, 195, 189, 196, 134, 196, 135, 196, 185, 196, 186, 197, 131, 197, 132, 197, 148, 197, 149, 197, 154, 197, 155, 197, 185, 197, 186, 195, 130, 195, 138, 195, 142, 195, 148, 195, 155, 195, 162, 195, 170, 195, 174, 195, 180, 195, 187, 196, 136, 196, 137, 196, 156, 196, 157, 196, 164, 196, 165, 196, 180, 196, 181, 197, 156, 197, 157, 197, 180, 197, 181, 197, 182, 197, 183, 195, 131, 195, 145, 195, 149, 195, 163, 195, 177, 195, 181, 196, 168, 196, 169, 197, 168, 197, 169, 196, 128, 196, 129, 196, 146, 196, 147, 196, 170, 196, 171, 197, 140, 197, 141, 197, 170, 197, 171, 196, 130, 196, 131, 196, 148, 196, 149, 196, 158, 196, 159, 196, 172, 196, 173, 197, 142, 197, 143, 197, 172, 197, 173, 196, 138, 196, 139, 196, 150, 196, 151, 196, 160, 196, 161, 196, 176, 197, 187, 197, 188, 195, 132, 195, 139, 195, 143, 195, 150, 195, 156, 195, 164, 195, 171, 195, 175, 195, 182, 195, 188, 195, 191, 197, 184, 195, 133, 195, 165, 197, 174, 197, 175, 197, 144, 197, 145, 197, 176, 197, 177, 196, 140, 196, 141, 196, 142, 196, 143, 196, 154, 196, 155, 197, 135, 197, 136, 197, 152, 197, 153, 197, 160, 197, 161, 197, 164, 197, 165, 197, 189, 197, 190, 196, 189, 196, 190, 195, 135, 195, 167, 196, 162, 196, 163, 196, 182, 196, 183, 196, 187, 196, 188, 197, 133, 197, 134, 197, 150, 197, 151, 197, 158, 197, 159, 197, 162, 197, 163, 196, 132, 196, 133, 196, 152, 196, 153, 196, 174, 196, 175, 197, 178, 197, 179, 195, 134, 195, 166, 195, 152, 195, 184, 195, 144, 195, 176, 195, 158, 195, 190, 195, 159, 196, 144, 196, 145, 196, 166, 196, 167, 196, 177, 197, 129, 197, 130, 197, 146, 197, 147, 197, 138, 197, 139, 197, 166, 197, 167]⟩ : ByteArray) (wrap32 (a0))).bind fun t377 => (repertoire_letter.j0 k a0 t377))))))) = some r := by rw [if_neg (show ¬ (false = true) by decide)] at H; exact H
      clear H
      have H := H1
      clear H1
      replace H := Option.bind_eq_some_iff.mp H
      obtain ⟨t375, A50, H⟩ := H
      replace H : (if t375 = true then (repertoire_letter.j0 k a0 true) else (if a0 = 383 then (repertoire_letter.j0 k a0 true) else ((repertoire_from.f a0 64257 64258).bind fun t376 => (if t376 = true then (repertoire_letter.j0 k a0 true) else ((strings_ContainsRune.f (⟨#[195, 128, 195, 136, 195, 140, 195, 146, 195, 153, 195, 160, 195, 168, 195, 172, 195, 178, 195, 185, 195, 129, 195, 137, 195, 141, 195, 147, 195, 154, 195, 157, 195, 161, 195, 169, 195, 173, 195, 179, 195, 186, 195, 189, 196, 134, 196, 135, 196, 185, 196, 186, 197, 131, 197, 132, 197, 148, 197, 149, 197, 154, 197, 155, 197, 185, 197, 186, 195, 130, 195, 138, 195, 142, 195, 148, 195, 155, 195, 162, 195, 170, 195, 174, 195, 180, 195, 187, 196, 136, 196, 137, 196, 156, 196, 157, 196, 164, 196, 165, 196, 180, 196, 181, 197, 156, 197, 157, 197, 180, 197, 181, 197, 182, 197, 183, 195, 131, 195, 145, 195, 149, 195, 163, 195, 177, 195, 181, 196, 168, 196, 169, 197, 168, 197, 169, 196, 128, 196, 129, 196, 146, 196, 147, 196, 170, 196, 171, 197, 140, 197, 141, 197, 170, 197, 171, 196, 130, 196, 131, 196, 148, 196, 149, 196, 158, 196, 159, 196, 172, 196, 173, 197, 142, 197, 143, 197, 172, 197, 173, 196, 138, 196, 139, 196, 150, 196, 151, 196, 160, 196, 161, 196, 176, 197, 187, 197, 188, 195, 132, 195, 139, 195, 143, 195, 150, 195, 156, 195, 164, 195, 171, 195, 175, 195, 182, 195, 188, 195, 191, 197, 184, 195, 133, 195, 165, 197, 174, 197, 175, 197, 144, 197, 145, 197, 176, 197, 177, 196, 140, 196, 141, 196, 142, 196, 143, 196, 154, 196, 155, 197, 135, 197, 136, 197, 152, 197, 153, 197, 160, 197, 161, 197, 164, 197, 165, 197, 189, 197, 190, 196, 189, 196, 190, 195, 135, 195, 167, 196, 162, 196, 163, 196, 182, 196, 183, 196, 187, 196, 188, 197, 133, 197, 134, 197, 150, 197, 151, 197, 158, 197, 159, 197, 162, 197, 163, 196, 132, 196, 133, 196, 152, 196, 153, 196, 174, 196, 175, 197, 178, 197, 179, 195, 134, 195, 166, 195, 152, 195, 184, 195, 144, 195, 176, 195, 158, 195, 190, 195, 159, 196, 144, 196, 145, 196, 166, 196, 167, 196, 177, 197, 129, 197, 130, 197, 146, 197, 147, 197, 138, 197, 139, 197, 166, 197, 167]⟩ : ByteArray) (wrap32 (a0))).bind fun t377 => (repertoire_letter.j0 k a0 t377)))))) = some r := H
      have A5 := Aside0.mk A50
      clear A50
      by_cases c6 : t375 = true
      · subst c6
        have H1 : (repertoire_letter.j0 k a0 true) = some r := by rw [if_pos rfl] at H; exact H
        clear H
        have H := H1
        clear H1
        have H' := Aside0.mk H
        clear H
        go_wp2_with (first | ((with_reducible refine gate_callee (f := 103) rfl ?_); refine goesL_ (some 5) rfl rfl Tryd.func103 (by kernel_rfl) rfl #[.int .i64 a0, .int .i64 65, .int .i64 90] rfl (by (try simp only [List.map_toArray, List.map_cons, List.map_nil]); first | done | rfl | (simp only [List.length_drop, List.length_take]; rfl)) ?_; (with_reducible refine (repertoire_from.calls a0 65 90 false _ A3.out).mono ?_); rintro e w' ⟨rfl, ⟨nd, rfl⟩⟩; refine ⟨_, rfl, ?_⟩) | (go_at_call 103; (with_reducible refine (repertoire_from.calls a0 97 122 true _ A5.out).mono ?_); rintro e w' ⟨rfl, ⟨nd, rfl⟩⟩))
        go_meet
        case rel => exact ⟨_, (true), (by first | rfl | (simp; done) | (simp [*]; done)), H', ⟨by first | omega | exact Nat.le_refl _⟩, by repeat (first | exact Drawn0.refl _ | apply Drawn0.step)⟩
      · replace c6 := Bool.eq_false_iff.mpr c6
        subst c6
        have H1 : (if a0 = 383 then (repertoire_letter.j0 k a0 true) else ((repertoire_from.f a0 64257 64258).bind fun t376 => (if t376 = true then (repertoire_letter.j0 k a0 true) else ((strings_ContainsRune.f (⟨#[195, 128, 195, 136, 195, 140, 195, 146, 195, 153, 195, 160, 195, 168, 195, 172, 195, 178, 195, 185, 195, 129, 195, 137, 195, 141, 195, 147, 195, 154, 195, 157, 195, 161, 195, 169, 195, 173, 195, 179, 195, 186, 195, 189, 196, 134, 196, 135, 196, 185, 196, 186, 197, 131, 197, 132, 197, 148, 197, 149, 197, 154, 197, 155, 197, 185, 197, 186, 195, 130, 195, 138, 195, 142, 195, 148, 195, 155, 195, 162, 195, 170, 195, 174, 195, 180, 195, 187, 196, 136, 196, 137, 196, 156, 196, 157, 196, 164, 196, 165, 196, 180, 196, 181, 197, 156, 197, 157, 197, 180, 197, 181, 197, 182, 197, 183, 195, 131, 195, 145, 195, 149, 195, 163, 195, 177, 195, 181, 196, 168, 196, 169, 197, 168, 197, 169, 196, 128, 196, 129, 196, 146, 196, 147, 196, 170, 196, 171, 197, 140, 197, 141, 197, 170, 197, 171, 196, 130, 196, 131, 196, 148, 196, 149, 196, 158, 196, 159, 196, 172, 196, 173, 197, 142, 197, 143, 197, 172, 197, 173, 196, 138, 196, 139, 196, 150, 196, 151, 196, 160, 196, 161, 196, 176, 197, 187, 197, 188, 195, 132, 195, 139, 195, 143, 195, 150, 195, 156, 195, 164, 195, 171, 195, 175, 195, 182, 195, 188, 195, 191, 197, 184, 195, 133, 195, 165, 197, 174, 197, 175, 197, 144, 197, 145, 197, 176, 197, 177, 196, 140, 196, 141, 196, 142, 196, 143, 196, 154, 196, 155, 197, 135, 197, 136, 197, 152, 197, 153, 197, 160, 197, 161, 197, 164, 197, 165, 197, 189, 197, 190, 196, 189, 196, 190, 195, 135, 195, 167, 196, 162, 196, 163, 196, 182, 196, 183, 196, 187, 196, 188, 197, 133, 197, 134, 197, 150, 197, 151, 197, 158, 197, 159, 197, 162, 197, 163, 196, 132, 196, 133, 196, 152, 196, 153, 196, 174, 196, 175, 197, 178, 197, 179, 195, 134, 195, 166, 195, 152, 195, 184, 195, 144, 195, 176, 195, 158, 195, 190, 195, 159, 196, 144, 196, 145, 196, 166, 196, 167, 196, 177, 197, 129, 197, 130, 197, 146, 197, 147, 197, 138, 197, 139, 197, 166, 197, 167]⟩ : ByteArray) (wrap32 (a0))).bind fun t377 => (repertoire_letter.j0 k a0 t377))))) = some r := by rw [if_neg (show ¬ (false = true) by decide)] at H; exact H
        clear H
        have H := H1
        clear H1
        by_cases c7 : a0 = 383
        · rw [if_pos c7] at H
          have c7b0 : (a0 == 383) = true := beq_iff_eq.mpr c7
          have c7b1 : (a0 != 383) = false := bne_eq_false_iff_eq.mpr c7
          clear c7
          (first | rw [c7b0] | (simp only [i64_w, i32_w]; rw [c7b0]) | skip)
          have H' := Aside0.mk H
          clear H
          go_wp2_with (first | ((with_reducible refine gate_callee (f := 103) rfl ?_); refine goesL_ (some 5) rfl rfl Tryd.func103 (by kernel_rfl) rfl #[.int .i64 a0, .int .i64 65, .int .i64 90] rfl (by (try simp only [List.map_toArray, List.map_cons, List.map_nil]); first | done | rfl | (simp only [List.length_drop, List.length_take]; rfl)) ?_; (with_reducible refine (repertoire_from.calls a0 65 90 false _ A3.out).mono ?_); rintro e w' ⟨rfl, ⟨nd, rfl⟩⟩; refine ⟨_, rfl, ?_⟩) | (go_at_call 103; (with_reducible refine (repertoire_from.calls a0 97 122 false _ A5.out).mono ?_); rintro e w' ⟨rfl, ⟨nd, rfl⟩⟩))
          go_meet
          case rel => exact ⟨_, (true), (by first | rfl | (simp; done) | (simp [*]; done)), H', ⟨by first | omega | exact Nat.le_refl _⟩, by repeat (first | exact Drawn0.refl _ | apply Drawn0.step)⟩
        · rw [if_neg c7] at H
          have c7b0 : (a0 == 383) = false := beq_eq_false_iff_ne.mpr c7
          have c7b1 : (a0 != 383) = true := bne_iff_ne.mpr c7
          (first | rw [c7b0] | (simp only [i64_w, i32_w]; rw [c7b0]) | skip)
          replace H := Option.bind_eq_some_iff.mp H
          obtain ⟨t376, A80, H⟩ := H
          replace H : (if t376 = true then (repertoire_letter.j0 k a0 true) else ((strings_ContainsRune.f (⟨#[195, 128, 195, 136, 195, 140, 195, 146, 195, 153, 195, 160, 195, 168, 195, 172, 195, 178, 195, 185, 195, 129, 195, 137, 195, 141, 195, 147, 195, 154, 195, 157, 195, 161, 195, 169, 195, 173, 195, 179, 195, 186, 195, 189, 196, 134, 196, 135, 196, 185, 196, 186, 197, 131, 197, 132, 197, 148, 197, 149, 197, 154, 197, 155, 197, 185, 197, 186, 195, 130, 195, 138, 195, 142, 195, 148, 195, 155, 195, 162, 195, 170, 195, 174, 195, 180, 195, 187, 196, 136, 196, 137, 196, 156, 196, 157, 196, 164, 196, 165, 196, 180, 196, 181, 197, 156, 197, 157, 197, 180, 197, 181, 197, 182, 197, 183, 195, 131, 195, 145, 195, 149, 195, 163, 195, 177, 195, 181, 196, 168, 196, 169, 197, 168, 197, 169, 196, 128, 196, 129, 196, 146, 196, 147, 196, 170, 196, 171, 197, 140, 197, 141, 197, 170, 197, 171, 196, 130, 196, 131, 196, 148, 196, 149, 196, 158, 196, 159, 196, 172, 196, 173, 197, 142, 197, 143, 197, 172, 197, 173, 196, 138, 196, 139, 196, 150, 196, 151, 196, 160, 196, 161, 196, 176, 197, 187, 197, 188, 195, 132, 195, 139, 195, 143, 195, 150, 195, 156, 195, 164, 195, 171, 195, 175, 195, 182, 195, 188, 195, 191, 197, 184, 195, 133, 195, 165, 197, 174, 197, 175, 197, 144, 197, 145, 197, 176, 197, 177, 196, 140, 196, 141, 196, 142, 196, 143, 196, 154, 196, 155, 197, 135, 197, 136, 197, 152, 197, 153, 197, 160, 197, 161, 197, 164, 197, 165, 197, 189, 197, 190, 196, 189, 196, 190, 195, 135, 195, 167, 196, 162, 196, 163, 196, 182, 196, 183, 196, 187, 196, 188, 197, 133, 197, 134, 197, 150, 197, 151, 197, 158, 197, 159, 197, 162, 197, 163, 196, 132, 196, 133, 196, 152, 196, 153, 196, 174, 196, 175, 197, 178, 197, 179, 195, 134, 195, 166, 195, 152, 195, 184, 195, 144, 195, 176, 195, 158, 195, 190, 195, 159, 196, 144, 196, 145, 196, 166, 196, 167, 196, 177, 197, 129, 197, 130, 197, 146, 197, 147, 197, 138, 197, 139, 197, 166, 197, 167]⟩ : ByteArray) (wrap32 (a0))).bind fun t377 => (repertoire_letter.j0 k a0 t377))) = some r := H
          have A8 := Aside0.mk A80
          clear A80
          by_cases c9 : t376 = true
          · subst c9
            have H1 : (repertoire_letter.j0 k a0 true) = some r := by rw [if_pos rfl] at H; exact H
            clear H
            have H := H1
            clear H1
            have H' := Aside0.mk H
            clear H
            go_wp2_with (first | ((with_reducible refine gate_callee (f := 103) rfl ?_); refine goesL_ (some 5) rfl rfl Tryd.func103 (by kernel_rfl) rfl #[.int .i64 a0, .int .i64 65, .int .i64 90] rfl (by (try simp only [List.map_toArray, List.map_cons, List.map_nil]); first | done | rfl | (simp only [List.length_drop, List.length_take]; rfl)) ?_; (with_reducible refine (repertoire_from.calls a0 65 90 false _ A3.out).mono ?_); rintro e w' ⟨rfl, ⟨nd, rfl⟩⟩; refine ⟨_, rfl, ?_⟩) | (go_at_call 103; (with_reducible refine (repertoire_from.calls a0 97 122 false _ A5.out).mono ?_); rintro e w' ⟨rfl, ⟨nd, rfl⟩⟩) | (go_at_call 103; (with_reducible refine (repertoire_from.calls a0 64257 64258 true _ A8.out).mono ?_); rintro e w' ⟨rfl, ⟨nd, rfl⟩⟩))
            go_meet
            case rel => exact ⟨_, (true), (by first | rfl | (simp; done) | (simp [*]; done)), H', ⟨by first | omega | exact Nat.le_refl _⟩, by repeat (first | exact Drawn0.refl _ | apply Drawn0.step)⟩
          · replace c9 := Bool.eq_false_iff.mpr c9
            subst c9
            have H1 : ((strings_ContainsRune.f (⟨#[195, 128, 195, 136, 195, 140, 195, 146, 195, 153, 195, 160, 195, 168, 195, 172, 195, 178, 195, 185, 195, 129, 195, 137, 195, 141, 195, 147, 195, 154, 195, 157, 195, 161, 195, 169, 195, 173, 195, 179, 195, 186, 195, 189, 196, 134, 196, 135, 196, 185, 196, 186, 197, 131, 197, 132, 197, 148, 197, 149, 197, 154, 197, 155, 197, 185, 197, 186, 195, 130, 195, 138, 195, 142, 195, 148, 195, 155, 195, 162, 195, 170, 195, 174, 195, 180, 195, 187, 196, 136, 196, 137, 196, 156, 196, 157, 196, 164, 196, 165, 196, 180, 196, 181, 197, 156, 197, 157, 197, 180, 197, 181, 197, 182, 197, 183, 195, 131, 195, 145, 195, 149, 195, 163, 195, 177, 195, 181, 196, 168, 196, 169, 197, 168, 197, 169, 196, 128, 196, 129, 196, 146, 196, 147, 196, 170, 196, 171, 197, 140, 197, 141, 197, 170, 197, 171, 196, 130, 196, 131, 196, 148, 196, 149, 196, 158, 196, 159, 196, 172, 196, 173, 197, 142, 197, 143, 197, 172, 197, 173, 196, 138, 196, 139, 196, 150, 196, 151, 196, 160, 196, 161, 196, 176, 197, 187, 197, 188, 195, 132, 195, 139, 195, 143, 195, 150, 195, 156, 195, 164, 195, 171, 195, 175, 195, 182, 195, 188, 195, 191, 197, 184, 195, 133, 195, 165, 197, 174, 197, 175, 197, 144, 197, 145, 197, 176, 197, 177, 196, 140, 196, 141, 196, 142, 196, 143, 196, 154, 196, 155, 197, 135, 197, 136, 197, 152, 197, 153, 197, 160, 197, 161, 197, 164, 197, 165, 197, 189, 197, 190, 196, 189, 196, 190, 195, 135, 195, 167, 196, 162, 196, 163, 196, 182, 196, 183, 196, 187, 196, 188, 197, 133, 197, 134, 197, 150, 197, 151, 197, 158, 197, 159, 197, 162, 197, 163, 196, 132, 196, 133, 196, 152, 196, 153, 196, 174, 196, 175, 197, 178, 197, 179, 195, 134, 195, 166, 195, 152, 195, 184, 195, 144, 195, 176, 195, 158, 195, 190, 195, 159, 196, 144, 196, 145, 196, 166, 196, 167, 196, 177, 197, 129, 197, 130, 197, 146, 197, 147, 197, 138, 197, 139, 197, 166, 197, 167]⟩ : ByteArray) (wrap32 (a0))).bind fun t377 => (repertoire_letter.j0 k a0 t377)) = some r := by rw [if_neg (show ¬ (false = true) by decide)] at H; exact H
            clear H
            have H := H1
            clear H1
            replace H := Option.bind_eq_some_iff.mp H
            obtain ⟨t377, A100, H⟩ := H
            replace H : (repertoire_letter.j0 k a0 t377) = some r := H
            have A10 := Aside0.mk A100
            clear A100
            have H' := Aside0.mk H
            clear H
            go_wp2_with (first | ((with_reducible refine gate_callee (f := 103) rfl ?_); refine goesL_ (some 5) rfl rfl Tryd.func103 (by kernel_rfl) rfl #[.int .i64 a0, .int .i64 65, .int .i64 90] rfl (by (try simp only [List.map_toArray, List.map_cons, List.map_nil]); first | done | rfl | (simp only [List.length_drop, List.length_take]; rfl)) ?_; (with_reducible refine (repertoire_from.calls a0 65 90 false _ A3.out).mono ?_); rintro e w' ⟨rfl, ⟨nd, rfl⟩⟩; refine ⟨_, rfl, ?_⟩) | (go_at_call 103; (with_reducible refine (repertoire_from.calls a0 97 122 false _ A5.out).mono ?_); rintro e w' ⟨rfl, ⟨nd, rfl⟩⟩) | (go_at_call 103; (with_reducible refine (repertoire_from.calls a0 64257 64258 false _ A8.out).mono ?_); rintro e w' ⟨rfl, ⟨nd, rfl⟩⟩) | (go_at_call 113; (with_reducible refine (strings_ContainsRune.calls (⟨#[195, 128, 195, 136, 195, 140, 195, 146, 195, 153, 195, 160, 195, 168, 195, 172, 195, 178, 195, 185, 195, 129, 195, 137, 195, 141, 195, 147, 195, 154, 195, 157, 195, 161, 195, 169, 195, 173, 195, 179, 195, 186, 195, 189, 196, 134, 196, 135, 196, 185, 196, 186, 197, 131, 197, 132, 197, 148, 197, 149, 197, 154, 197, 155, 197, 185, 197, 186, 195, 130, 195, 138, 195, 142, 195, 148, 195, 155, 195, 162, 195, 170, 195, 174, 195, 180, 195, 187, 196, 136, 196, 137, 196, 156, 196, 157, 196, 164, 196, 165, 196, 180, 196, 181, 197, 156, 197, 157, 197, 180, 197, 181, 197, 182, 197, 183, 195, 131, 195, 145, 195, 149, 195, 163, 195, 177, 195, 181, 196, 168, 196, 169, 197, 168, 197, 169, 196, 128, 196, 129, 196, 146, 196, 147, 196, 170, 196, 171, 197, 140, 197, 141, 197, 170, 197, 171, 196, 130, 196, 131, 196, 148, 196, 149, 196, 158, 196, 159, 196, 172, 196, 173, 197, 142, 197, 143, 197, 172, 197, 173, 196, 138, 196, 139, 196, 150, 196, 151, 196, 160, 196, 161, 196, 176, 197, 187, 197, 188, 195, 132, 195, 139, 195, 143, 195, 150, 195, 156, 195, 164, 195, 171, 195, 175, 195, 182, 195, 188, 195, 191, 197, 184, 195, 133, 195, 165, 197, 174, 197, 175, 197, 144, 197, 145, 197, 176, 197, 177, 196, 140, 196, 141, 196, 142, 196, 143, 196, 154, 196, 155, 197, 135, 197, 136, 197, 152, 197, 153, 197, 160, 197, 161, 197, 164, 197, 165, 197, 189, 197, 190, 196, 189, 196, 190, 195, 135, 195, 167, 196, 162, 196, 163, 196, 182, 196, 183, 196, 187, 196, 188, 197, 133, 197, 134, 197, 150, 197, 151, 197, 158, 197, 159, 197, 162, 197, 163, 196, 132, 196, 133, 196, 152, 196, 153, 196, 174, 196, 175, 197, 178, 197, 179, 195, 134, 195, 166, 195, 152, 195, 184, 195, 144, 195, 176, 195, 158, 195, 190, 195, 159, 196, 144, 196, 145, 196, 166, 196, 167, 196, 177, 197, 129, 197, 130, 197, 146, 197, 147, 197, 138, 197, 139, 197, 166, 197, 167]⟩ : ByteArray) (wrap32 (a0)) t377 _ A10.out).mono ?_); rintro e w' ⟨rfl, ⟨nd, rfl⟩⟩))
            go_meet
            case rel => exact ⟨_, (t377), (by first | rfl | (simp; done) | (simp [*]; done)), H', ⟨by first | omega | exact Nat.le_refl _⟩, by repeat (first | exact Drawn0.refl _ | apply Drawn0.step)⟩
  case rest =>
    clear HC2
    try clear c1
    try clear p2
    try clear p3
    try clear c4
    try clear c6
    try clear c7
    try clear c7b0
    try clear c7b1
    try clear c9
    try clear c10
    obtain ⟨kq, x3_1, rfl, HA, HJ1, ⟨mc1, rfl⟩⟩ := hcut
    cases kq with
    | zero => exact absurd HA.out (by simp [repertoire_letter.j0])
    | succ kj1 =>
      have H := HA.out
      clear HA
      simp only [repertoire_letter.j0] at H
      by_cases c11 : x3_1 = true
      · subst c11
        have H1 : (some 1) = some r := by rw [if_pos rfl] at H; exact H
        clear H
        have H := H1
        clear H1
        obtain rfl := Option.some.inj H
        go_wp2
        go_ret
        exact ⟨by first | rfl | (simp; done) | (simp [*]; done), by repeat (first | exact Drawn0.refl _ | apply Drawn0.step)⟩
      · replace c11 := Bool.eq_false_iff.mpr c11
        subst c11
        have H1 : (if a0 = 930 then ((repertoire_from.f a0 945 969).bind fun t378 => (if t378 = true then (repertoire_letter.j1 kj1 a0 true) else ((strings_ContainsRune.f (⟨#[206, 134, 206, 136, 206, 137, 206, 138, 206, 140, 206, 142, 206, 143, 206, 172, 206, 173, 206, 174, 206, 175, 207, 140, 207, 141, 207, 142, 206, 170, 206, 171, 207, 138, 207, 139]⟩ : ByteArray) (wrap32 (a0))).bind fun t379 => (repertoire_letter.j1 kj1 a0 t379)))) else ((repertoire_from.f a0 913 937).bind fun t380 => (if t380 = true then (repertoire_letter.j1 kj1 a0 true) else ((repertoire_from.f a0 945 969).bind fun t381 => (if t381 = true then (repertoire_letter.j1 kj1 a0 true) else ((strings_ContainsRune.f (⟨#[206, 134, 206, 136, 206, 137, 206, 138, 206, 140, 206, 142, 206, 143, 206, 172, 206, 173, 206, 174, 206, 175, 207, 140, 207, 141, 207, 142, 206, 170, 206, 171, 207, 138, 207, 139]⟩ : ByteArray) (wrap32 (a0))).bind fun t382 => (repertoire_letter.j1 kj1 a0 t382))))))) = some r := by rw [if_neg (show ¬ (false = true) by decide)] at H; exact H
        clear H
        have H := H1
        clear H1
        have HC12 := Aside0.mk H
        clear H
        go_upto_region 3 with (fail)
        go_cut [23] (fun v23 wc => ∃ (kq : Nat) (x23_11 : Bool), v23 = .bool x23_11 ∧ Aside0 (repertoire_letter.j1 kq a0 x23_11 = some r) ∧ Aside0 (kq ≤ kj1) ∧ Drawn0 w wc)
        case first =>
          have H := HC12.out
          clear HC12
          by_cases c13 : a0 = 930
          · rw [if_pos c13] at H
            have c13b0 : (a0 == 930) = true := beq_iff_eq.mpr c13
            have c13b1 : (a0 != 930) = false := bne_eq_false_iff_eq.mpr c13
            clear c13
            (first | rw [c13b0] | (simp only [i64_w, i32_w]; rw [c13b0]) | skip)
            replace H := Option.bind_eq_some_iff.mp H
            obtain ⟨t378, A140, H⟩ := H
            replace H : (if t378 = true then (repertoire_letter.j1 kj1 a0 true) else ((strings_ContainsRune.f (⟨#[206, 134, 206, 136, 206, 137, 206, 138, 206, 140, 206, 142, 206, 143, 206, 172, 206, 173, 206, 174, 206, 175, 207, 140, 207, 141, 207, 142, 206, 170, 206, 171, 207, 138, 207, 139]⟩ : ByteArray) (wrap32 (a0))).bind fun t379 => (repertoire_letter.j1 kj1 a0 t379))) = some r := H
            have A14 := Aside0.mk A140
            clear A140
            by_cases c15 : t378 = true
            · subst c15
              have H1 : (repertoire_letter.j1 kj1 a0 true) = some r := by rw [if_pos rfl] at H; exact H
              clear H
              have H := H1
              clear H1
              have H' := Aside0.mk H
              clear H
              go_wp2_with (first | (go_at_call 103; (with_reducible refine (repertoire_from.calls a0 945 969 true _ A14.out).mono ?_); rintro e w' ⟨rfl, ⟨nd, rfl⟩⟩))
              go_meet
              case rel => exact ⟨_, (true), (by first | rfl | (simp; done) | (simp [*]; done)), H', ⟨by have := HJ1.out; first | omega | exact Nat.le_refl _⟩, by repeat (first | exact Drawn0.refl _ | apply Drawn0.step)⟩
            · replace c15 := Bool.eq_false_iff.mpr c15
              subst c15
              have H1 : ((strings_ContainsRune.f (⟨#[206, 134, 206, 136, 206, 137, 206, 138, 206, 140, 206, 142, 206, 143, 206, 172, 206, 173, 206, 174, 206, 175, 207, 140, 207, 141, 207, 142, 206, 170, 206, 171, 207, 138, 207, 139]⟩ : ByteArray) (wrap32 (a0))).bind fun t379 => (repertoire_letter.j1 kj1 a0 t379)) = some r := by rw [if_neg (show ¬ (false = true) by decide)] at H; exact H
              clear H
              have H := H1
              clear H1
              replace H := Option.bind_eq_some_iff.mp H
              obtain ⟨t379, A160, H⟩ := H
              replace H : (repertoire_letter.j1 kj1 a0 t379) = some r := H
              have A16 := Aside0.mk A160
              clear A160
              have H' := Aside0.mk H
              clear H
              go_wp2_with (first | (go_at_call 103; (with_reducible refine (repertoire_from.calls a0 945 969 false _ A14.out).mono ?_); rintro e w' ⟨rfl, ⟨nd, rfl⟩⟩) | (go_at_call 113; (with_reducible refine (strings_ContainsRune.calls (⟨#[206, 134, 206, 136, 206, 137, 206, 138, 206, 140, 206, 142, 206, 143, 206, 172, 206, 173, 206, 174, 206, 175, 207, 140, 207, 141, 207, 142, 206, 170, 206, 171, 207, 138, 207, 139]⟩ : ByteArray) (wrap32 (a0)) t379 _ A16.out).mono ?_); rintro e w' ⟨rfl, ⟨nd, rfl⟩⟩))
              go_meet
              case rel => exact ⟨_, (t379), (by first | rfl | (simp; done) | (simp [*]; done)), H', ⟨by have := HJ1.out; first | omega | exact Nat.le_refl _⟩, by repeat (first | exact Drawn0.refl _ | apply Drawn0.step)⟩
          · rw [if_neg c13] at H
            have c13b0 : (a0 == 930) = false := beq_eq_false_iff_ne.mpr c13
            have c13b1 : (a0 != 930) = true := bne_iff_ne.mpr c13
            (first | rw [c13b0] | (simp only [i64_w, i32_w]; rw [c13b0]) | skip)
            replace H := Option.bind_eq_some_iff.mp H
            obtain ⟨t380, A170, H⟩ := H
            replace H : (if t380 = true then (repertoire_letter.j1 kj1 a0 true) else ((repertoire_from.f a0 945 969).bind fun t381 => (if t381 = true then (repertoire_letter.j1 kj1 a0 true) else ((strings_ContainsRune.f (⟨#[206, 134, 206, 136, 206, 137, 206, 138, 206, 140, 206, 142, 206, 143, 206, 172, 206, 173, 206, 174, 206, 175, 207, 140, 207, 141, 207, 142, 206, 170, 206, 171, 207, 138, 207, 139]⟩ : ByteArray) (wrap32 (a0))).bind fun t382 => (repertoire_letter.j1 kj1 a0 t382))))) = some r := H
            have A17 := Aside0.mk A170
            clear A170
            by_cases c18 : t380 = true
            · subst c18
              have H1 : (repertoire_letter.j1 kj1 a0 true) = some r := by rw [if_pos rfl] at H; exact H
              clear H
              have H := H1
              clear H1
              have H' := Aside0.mk H
              clear H
              go_wp2_with (first | (go_at_call 103; (with_reducible refine (repertoire_from.calls a0 913 937 true _ A17.out).mono ?_); rintro e w' ⟨rfl, ⟨nd, rfl⟩⟩))
              go_meet
              case rel => exact ⟨_, (true), (by first | rfl | (simp; done) | (simp [*]; done)), H', ⟨by have := HJ1.out; first | omega | exact Nat.le_refl _⟩, by repeat (first | exact Drawn0.refl _ | apply Drawn0.step)⟩
            · replace c18 := Bool.eq_false_iff.mpr c18
              subst c18
              have H1 : ((repertoire_from.f a0 945 969).bind fun t381 => (if t381 = true then (repertoire_letter.j1 kj1 a0 true) else ((strings_ContainsRune.f (⟨#[206, 134, 206, 136, 206, 137, 206, 138, 206, 140, 206, 142, 206, 143, 206, 172, 206, 173, 206, 174, 206, 175, 207, 140, 207, 141, 207, 142, 206, 170, 206, 171, 207, 138, 207, 139]⟩ : ByteArray) (wrap32 (a0))).bind fun t382 => (repertoire_letter.j1 kj1 a0 t382)))) = some r := by rw [if_neg (show ¬ (false = true) by decide)] at H; exact H
              clear H
              have H := H1
              clear H1
              replace H := Option.bind_eq_some_iff.mp H
              obtain ⟨t381, A190, H⟩ := H
              replace H : (if t381 = true then (repertoire_letter.j1 kj1 a0 true) else ((strings_ContainsRune.f (⟨#[206, 134, 206, 136, 206, 137, 206, 138, 206, 140, 206, 142, 206, 143, 206, 172, 206, 173, 206, 174, 206, 175, 207, 140, 207, 141, 207, 142, 206, 170, 206, 171, 207, 138, 207, 139]⟩ : ByteArray) (wrap32 (a0))).bind fun t382 => (repertoire_letter.j1 kj1 a0 t382))) = some r := H
              have A19 := Aside0.mk A190
              clear A190
              by_cases c20 : t381 = true
              · subst c20
                have H1 : (repertoire_letter.j1 kj1 a0 true) = some r := by rw [if_pos rfl] at H; exact H
                clear H
                have H := H1
                clear H1
                have H' := Aside0.mk H
                clear H
                go_wp2_with (first | (go_at_call 103; (with_reducible refine (repertoire_from.calls a0 913 937 false _ A17.out).mono ?_); rintro e w' ⟨rfl, ⟨nd, rfl⟩⟩) | (go_at_call 103; (with_reducible refine (repertoire_from.calls a0 945 969 true _ A19.out).mono ?_); rintro e w' ⟨rfl, ⟨nd, rfl⟩⟩))
                go_meet
                case rel => exact ⟨_, (true), (by first | rfl | (simp; done) | (simp [*]; done)), H', ⟨by have := HJ1.out; first | omega | exact Nat.le_refl _⟩, by repeat (first | exact Drawn0.refl _ | apply Drawn0.step)⟩
              · replace c20 := Bool.eq_false_iff.mpr c20
                subst c20
                have H1 : ((strings_ContainsRune.f (⟨#[206, 134, 206, 136, 206, 137, 206, 138, 206, 140, 206, 142, 206, 143, 206, 172, 206, 173, 206, 174, 206, 175, 207, 140, 207, 141, 207, 142, 206, 170, 206, 171, 207, 138, 207, 139]⟩ : ByteArray) (wrap32 (a0))).bind fun t382 => (repertoire_letter.j1 kj1 a0 t382)) = some r := by rw [if_neg (show ¬ (false = true) by decide)] at H; exact H
                clear H
                have H := H1
                clear H1
                replace H := Option.bind_eq_some_iff.mp H
                obtain ⟨t382, A210, H⟩ := H
                replace H : (repertoire_letter.j1 kj1 a0 t382) = some r := H
                have A21 := Aside0.mk A210
                clear A210
                have H' := Aside0.mk H
                clear H
                go_wp2_with (first | (go_at_call 103; (with_reducible refine (repertoire_from.calls a0 913 937 false _ A17.out).mono ?_); rintro e w' ⟨rfl, ⟨nd, rfl⟩⟩) | (go_at_call 103; (with_reducible refine (repertoire_from.calls a0 945 969 false _ A19.out).mono ?_); rintro e w' ⟨rfl, ⟨nd, rfl⟩⟩) | (go_at_call 113; (with_reducible refine (strings_ContainsRune.calls (⟨#[206, 134, 206, 136, 206, 137, 206, 138, 206, 140, 206, 142, 206, 143, 206, 172, 206, 173, 206, 174, 206, 175, 207, 140, 207, 141, 207, 142, 206, 170, 206, 171, 207, 138, 207, 139]⟩ : ByteArray) (wrap32 (a0)) t382 _ A21.out).mono ?_); rintro e w' ⟨rfl, ⟨nd, rfl⟩⟩))
                go_meet
                case rel => exact ⟨_, (t382), (by first | rfl | (simp; done) | (simp [*]; done)), H', ⟨by have := HJ1.out; first | omega | exact Nat.le_refl _⟩, by repeat (first | exact Drawn0.refl _ | apply Drawn0.step)⟩
        case rest =>
          clear HC12
          try clear c1
          try clear c2
          try clear p2
          try clear p3
          try clear c4
          try clear c6
          try clear c7
          try clear c7b0
          try clear c7b1
          try clear c9
          try clear c10
          try clear c11
          try clear c13
          try clear c13b0
          try clear c13b1
          try clear c15
          try clear c18
          try clear c20
          try clear p2
          try clear p3
          obtain ⟨kq, x23_11, rfl, HA, HJ11, ⟨mc11, rfl⟩⟩ := hcut
          cases kq with
          | zero => exact absurd HA.out (by simp [repertoire_letter.j1])
          | succ kj11 =>
            have H := HA.out
            clear HA
            simp only [repertoire_letter.j1] at H
            by_cases c22 : x23_11 = true
            · subst c22
              have H1 : (some 2) = some r := by rw [if_pos rfl] at H; exact H
              clear H
              have H := H1
              clear H1
              obtain rfl := Option.some.inj H
              go_wp2
              go_ret
              exact ⟨by first | rfl | (simp; done) | (simp [*]; done), by repeat (first | exact Drawn0.refl _ | apply Drawn0.step)⟩
            · replace c22 := Bool.eq_false_iff.mpr c22
              subst c22
              have H1 : ((repertoire_from.f a0 1040 1103).bind fun t383 => (if t383 = true then (some 3) else ((strings_ContainsRune.f (⟨#[208, 129, 209, 145, 208, 135, 209, 151, 208, 132, 209, 148, 210, 144, 210, 145, 208, 142, 209, 158, 208, 134, 209, 150]⟩ : ByteArray) (wrap32 (a0))).bind fun t384 => (if t384 = true then (some 3) else (some 0))))) = some r := by rw [if_neg (show ¬ (false = true) by decide)] at H; exact H
              clear H
              have H := H1
              clear H1
              replace H := Option.bind_eq_some_iff.mp H
              obtain ⟨t383, A230, H⟩ := H
              replace H : (if t383 = true then (some 3) else ((strings_ContainsRune.f (⟨#[208, 129, 209, 145, 208, 135, 209, 151, 208, 132, 209, 148, 210, 144, 210, 145, 208, 142, 209, 158, 208, 134, 209, 150]⟩ : ByteArray) (wrap32 (a0))).bind fun t384 => (if t384 = true then (some 3) else (some 0)))) = some r := H
              have A23 := Aside0.mk A230
              clear A230
              by_cases c24 : t383 = true
              · subst c24
                have H1 : (some 3) = some r := by rw [if_pos rfl] at H; exact H
                clear H
                have H := H1
                clear H1
                obtain rfl := Option.some.inj H
                go_wp2_with (first | ((with_reducible refine gate_callee (f := 103) rfl ?_); refine goesL_ (some 41) rfl rfl Tryd.func103 (by kernel_rfl) rfl #[.int .i64 a0, .int .i64 1040, .int .i64 1103] rfl (by (try simp only [List.map_toArray, List.map_cons, List.map_nil]); first | done | rfl | (simp only [List.length_drop, List.length_take]; rfl)) ?_; (with_reducible refine (repertoire_from.calls a0 1040 1103 true _ A23.out).mono ?_); rintro e w' ⟨rfl, ⟨nd, rfl⟩⟩; refine ⟨_, rfl, ?_⟩))
                go_ret
                exact ⟨by first | rfl | (simp; done) | (simp [*]; done), by repeat (first | exact Drawn0.refl _ | apply Drawn0.step)⟩
              · replace c24 := Bool.eq_false_iff.mpr c24
                subst c24
                have H1 : ((strings_ContainsRune.f (⟨#[208, 129, 209, 145, 208, 135, 209, 151, 208, 132, 209, 148, 210, 144, 210, 145, 208, 142, 209, 158, 208, 134, 209, 150]⟩ : ByteArray) (wrap32 (a0))).bind fun t384 => (if t384 = true then (some 3) else (some 0))) = some r := by rw [if_neg (show ¬ (false = true) by decide)] at H; exact H
                clear H
                have H := H1
                clear H1
                replace H := Option.bind_eq_some_iff.mp H
                obtain ⟨t384, A250, H⟩ := H
                replace H : (if t384 = true then (some 3) else (some 0)) = some r := H
                have A25 := Aside0.mk A250
                clear A250
                by_cases c26 : t384 = true
                · subst c26
                  have H1 : (some 3) = some r := by rw [if_pos rfl] at H; exact H
                  clear H
                  have H := H1
                  clear H1
                  obtain rfl := Option.some.inj H
                  go_wp2_with (first | ((with_reducible refine gate_callee (f := 103) rfl ?_); refine goesL_ (some 41) rfl rfl Tryd.func103 (by kernel_rfl) rfl #[.int .i64 a0, .int .i64 1040, .int .i64 1103] rfl (by (try simp only [List.map_toArray, List.map_cons, List.map_nil]); first | done | rfl | (simp only [List.length_drop, List.length_take]; rfl)) ?_; (with_reducible refine (repertoire_from.calls a0 1040 1103 false _ A23.out).mono ?_); rintro e w' ⟨rfl, ⟨nd, rfl⟩⟩; refine ⟨_, rfl, ?_⟩) | (go_at_call 113; (with_reducible refine (strings_ContainsRune.calls (⟨#[208, 129, 209, 145, 208, 135, 209, 151, 208, 132, 209, 148, 210, 144, 210, 145, 208, 142, 209, 158, 208, 134, 209, 150]⟩ : ByteArray) (wrap32 (a0)) true _ A25.out).mono ?_); rintro e w' ⟨rfl, ⟨nd, rfl⟩⟩))
                  go_ret
                  exact ⟨by first | rfl | (simp; done) | (simp [*]; done), by repeat (first | exact Drawn0.refl _ | apply Drawn0.step)⟩
                · replace c26 := Bool.eq_false_iff.mpr c26
                  subst c26
                  have H1 : (some 0) = some r := by rw [if_neg (show ¬ (false = true) by decide)] at H; exact H
                  clear H
                  have H := H1
                  clear H1
                  obtain rfl := Option.some.inj H
                  go_wp2_with (first | ((with_reducible refine gate_callee (f := 103) rfl ?_); refine goesL_ (some 41) rfl rfl Tryd.func103 (by kernel_rfl) rfl #[.int .i64 a0, .int .i64 1040, .int .i64 1103] rfl (by (try simp only [List.map_toArray, List.map_cons, List.map_nil]); first | done | rfl | (simp only [List.length_drop, List.length_take]; rfl)) ?_; (with_reducible refine (repertoire_from.calls a0 1040 1103 false _ A23.out).mono ?_); rintro e w' ⟨rfl, ⟨nd, rfl⟩⟩; refine ⟨_, rfl, ?_⟩) | (go_at_call 113; (with_reducible refine (strings_ContainsRune.calls (⟨#[208, 129, 209, 145, 208, 135, 209, 151, 208, 132, 209, 148, 210, 144, 210, 145, 208, 142, 209, 158, 208, 134, 209, 150]⟩ : ByteArray) (wrap32 (a0)) false _ A25.out).mono ?_); rintro e w' ⟨rfl, ⟨nd, rfl⟩⟩))
                  go_ret
                  exact ⟨by first | rfl | (simp; done) | (simp [*]; done), by repeat (first | exact Drawn0.refl _ | apply Drawn0.step)⟩
mutual
def repertoire_Class.j0 : Nat → Int → Option (Int × Int)
  | 0, _ => none
  | k + 1, x0 => if x0 < 32 then (repertoire_Class.j1 k x0 true) else (repertoire_Class.j1 k x0 (decide (x0 > 65535)))
def repertoire_Class.j1 : Nat → Int → Bool → Option (Int × Int)
  | 0, _, _ => none
  | k + 1, x0, x14 => if x14 = true then (some (0, 0)) else ((repertoire_letter.f k x0).bind fun t386 => (if t386 = 0 then (if x0 = 32 then (repertoire_Class.j2 k x0 true) else (repertoire_Class.j2 k x0 (x0 == 160))) else (some (t386, 1))))
def repertoire_Class.j2 : Nat → Int → Bool → Option (Int × Int)
  | 0, _, _ => none
  | k + 1, x0, x21 => if x21 = true then (some (0, 4)) else ((repertoire_from.f x0 48 57).bind fun t387 => (if t387 = true then (repertoire_Class.j3 k x0 true) else (if x0 = 178 then (repertoire_Class.j3 k x0 true) else (if x0 = 179 then (repertoire_Class.j3 k x0 true) else (repertoire_Class.j3 k x0 (x0 == 185))))))
def repertoire_Class.j3 : Nat → Int → Bool → Option (Int × Int)
  | 0, _, _ => none
  | k + 1, x0, x28 => if x28 = true then (some (0, 3)) else ((repertoire_mark.f k x0).bind fun t388 => (if t388 = true then (some (0, 2)) else (if x0 ≤ 126 then (some (0, 5)) else (some (0, 0)))))
end
def repertoire_Class.f (k : Nat) (a0 : Int) : Option (Int × Int) := (repertoire_from.f a0 65281 65374).bind fun t385 => (if t385 = true then (repertoire_Class.j0 k (wrap64 (a0 - 65248))) else (repertoire_Class.j0 k a0))
set_option maxHeartbeats 8000000 in
set_option maxRecDepth 100000 in
theorem repertoire_Class.calls (k : Nat) (a0 : Int) (r1 : Int) (r2 : Int) (w : World) (h : repertoire_Class.f k a0 = some (r1, r2)) :
    Calls Tryd.prog 90 #[.int .i64 a0] w fun e w' => e = .returned (.tuple #[.int .i64 r1, .int .i64 r2]) ∧ Drawn0 w w' := by
  have H : ((repertoire_from.f a0 65281 65374).bind fun t385 => (if t385 = true then (repertoire_Class.j0 k (wrap64 (a0 - 65248))) else (repertoire_Class.j0 k a0))) = some (r1, r2) := h
  clear h
  replace H := Option.bind_eq_some_iff.mp H
  obtain ⟨t385, A20, H⟩ := H
  replace H : (if t385 = true then (repertoire_Class.j0 k (wrap64 (a0 - 65248))) else (repertoire_Class.j0 k a0)) = some (r1, r2) := H
  have A2 := Aside0.mk A20
  clear A20
  have HC3 := Aside0.mk H
  clear H
  go_enter Tryd.func90, Tryd.ntmps90
  go_upto_if 6 with (first | ((with_reducible refine gate_callee (f := 103) rfl ?_); refine goesL_ (some 6) rfl rfl Tryd.func103 (by kernel_rfl) rfl #[.int .i64 a0, .int .i64 65281, .int .i64 65374] rfl (by (try simp only [List.map_toArray, List.map_cons, List.map_nil]); first | done | rfl | (simp only [List.length_drop, List.length_take]; rfl)) ?_; (with_reducible refine (repertoire_from.calls a0 65281 65374 t385 _ A2.out).mono ?_); rintro e w' ⟨rfl, ⟨nd, rfl⟩⟩; refine ⟨_, rfl, ?_⟩))
  (try simp only [Act.put, List.setIfInBounds_toArray, List.set_cons_zero, List.set_cons_succ])
  go_cut [0] (fun v0 wc => ∃ (kq : Nat) (x0_2 : Int), v0 = .int .i64 x0_2 ∧ Aside0 (repertoire_Class.j0 kq x0_2 = some (r1, r2)) ∧ Aside0 (kq ≤ k) ∧ Drawn0 w wc)
  case first =>
    have H := HC3.out
    clear HC3
    by_cases c4 : t385 = true
    · subst c4
      have H1 : (repertoire_Class.j0 k (wrap64 (a0 - 65248))) = some (r1, r2) := by rw [if_pos rfl] at H; exact H
      clear H
      have H := H1
      clear H1
      have H' := Aside0.mk H
      clear H
      go_wp2
      go_meet
      case rel => exact ⟨_, (wrap64 (a0 - 65248)), (by first | rfl | (simp; done) | (simp [*]; done)), H', ⟨by first | omega | exact Nat.le_refl _⟩, by repeat (first | exact Drawn0.refl _ | apply Drawn0.step)⟩
    · replace c4 := Bool.eq_false_iff.mpr c4
      subst c4
      have H1 : (repertoire_Class.j0 k a0) = some (r1, r2) := by rw [if_neg (show ¬ (false = true) by decide)] at H; exact H
      clear H
      have H := H1
      clear H1
      have H' := Aside0.mk H
      clear H
      go_wp2
      go_meet
      case rel => exact ⟨_, (a0), (by first | rfl | (simp; done) | (simp [*]; done)), H', ⟨by first | omega | exact Nat.le_refl _⟩, by repeat (first | exact Drawn0.refl _ | apply Drawn0.step)⟩
  case rest =>
    clear HC3
    try clear c1
    try clear p2
    try clear c4
    obtain ⟨kq, x0_2, rfl, HA, HJ2, ⟨mc2, rfl⟩⟩ := hcut
    cases kq with
    | zero => exact absurd HA.out (by simp [repertoire_Class.j0])
    | succ kj2 =>
      have H := HA.out
      clear HA
      simp only [repertoire_Class.j0] at H
      have HC5 := Aside0.mk H
      clear H
      go_upto_region 3 with (fail)
      go_cut [14] (fun v14 wc => ∃ (kq : Nat) (x14_4 : Bool), v14 = .bool x14_4 ∧ Aside0 (repertoire_Class.j1 kq x0_2 x14_4 = some (r1, r2)) ∧ Aside0 (kq ≤ kj2) ∧ Drawn0 w wc)
      case first =>
        have H := HC5.out
        clear HC5
        by_cases c6 : x0_2 < 32
        · rw [if_pos c6] at H
          have c6b0 : decide (x0_2 < 32) = true := decide_eq_true c6
          clear c6
          (first | rw [c6b0] | (simp only [i64_w, i32_w]; rw [c6b0]) | skip)
          have H' := Aside0.mk H
          clear H
          go_wp2
          go_meet
          case rel => exact ⟨_, (true), (by first | rfl | (simp; done) | (simp [*]; done)), H', ⟨by have := HJ2.out; first | omega | exact Nat.le_refl _⟩, by repeat (first | exact Drawn0.refl _ | apply Drawn0.step)⟩
        · rw [if_neg c6] at H
          have c6b0 : decide (x0_2 < 32) = false := decide_eq_false c6
          clear c6
          (first | rw [c6b0] | (simp only [i64_w, i32_w]; rw [c6b0]) | skip)
          have H' := Aside0.mk H
          clear H
          go_wp2
          go_meet
          case rel => exact ⟨_, (decide (x0_2 > 65535)), (by first | rfl | (simp; done) | (simp [*]; done)), H', ⟨by have := HJ2.out; first | omega | exact Nat.le_refl _⟩, by repeat (first | exact Drawn0.refl _ | apply Drawn0.step)⟩
      case rest =>
        clear HC5
        try clear c1
        try clear c2
        try clear p2
        try clear c4
        try clear c6
        try clear c6b0
        try clear p6
        try clear p2
        obtain ⟨kq, x14_4, rfl, HA, HJ4, ⟨mc4, rfl⟩⟩ := hcut
        cases kq with
        | zero => exact absurd HA.out (by simp [repertoire_Class.j1])
        | succ kj4 =>
          have H := HA.out
          clear HA
          simp only [repertoire_Class.j1] at H
          by_cases c7 : x14_4 = true
          · subst c7
            have H1 : (some (0, 0)) = some (r1, r2) := by rw [if_pos rfl] at H; exact H
            clear H
            have H := H1
            clear H1
            simp only [Option.some.injEq, Prod.mk.injEq] at H
            obtain ⟨rfl, rfl⟩ := H
            go_wp2
            go_ret2
            exact ⟨by first | rfl | (simp; done) | (simp [*]; done), by repeat (first | exact Drawn0.refl _ | apply Drawn0.step)⟩
          · replace c7 := Bool.eq_false_iff.mpr c7
            subst c7
            have H1 : ((repertoire_letter.f kj4 x0_2).bind fun t386 => (if t386 = 0 then (if x0_2 = 32 then (repertoire_Class.j2 kj4 x0_2 true) else (repertoire_Class.j2 kj4 x0_2 (x0_2 == 160))) else (some (t386, 1)))) = some (r1, r2) := by rw [if_neg (show ¬ (false = true) by decide)] at H; exact H
            clear H
            have H := H1
            clear H1
            replace H := Option.bind_eq_some_iff.mp H
            obtain ⟨t386, A80, H⟩ := H
            replace H : (if t386 = 0 then (if x0_2 = 32 then (repertoire_Class.j2 kj4 x0_2 true) else (repertoire_Class.j2 kj4 x0_2 (x0_2 == 160))) else (some (t386, 1))) = some (r1, r2) := H
            have A8 := Aside0.mk A80
            clear A80
            by_cases c9 : t386 = 0
            · rw [if_pos c9] at H
              have c9b0 : (t386 == 0) = true := beq_iff_eq.mpr c9
              have c9b1 : (t386 != 0) = false := bne_eq_false_iff_eq.mpr c9
              clear c9
              have HC10 := Aside0.mk H
              clear H
              go_upto_region 8 with (first | ((with_reducible refine gate_callee (f := 104) rfl ?_); refine goesL_ (some 16) rfl rfl Tryd.func104 (by kernel_rfl) rfl #[.int .i64 x0_2] rfl (by (try simp only [List.map_toArray, List.map_cons, List.map_nil]); first | done | rfl | (simp only [List.length_drop, List.length_take]; rfl)) ?_; (with_reducible refine (repertoire_letter.calls kj4 x0_2 t386 _ A8.out).mono ?_); rintro e w' ⟨rfl, ⟨nd, rfl⟩⟩; refine ⟨_, rfl, ?_⟩))
              (try simp only [Act.put, List.setIfInBounds_toArray, List.set_cons_zero, List.set_cons_succ])
              go_cut [21] (fun v21 wc => ∃ (kq : Nat) (x21_9 : Bool), v21 = .bool x21_9 ∧ Aside0 (repertoire_Class.j2 kq x0_2 x21_9 = some (r1, r2)) ∧ Aside0 (kq ≤ kj4) ∧ Drawn0 w wc)
              case first =>
                have H := HC10.out
                clear HC10
                by_cases c11 : x0_2 = 32
                · rw [if_pos c11] at H
                  have c11b0 : (x0_2 == 32) = true := beq_iff_eq.mpr c11
                  have c11b1 : (x0_2 != 32) = false := bne_eq_false_iff_eq.mpr c11
                  clear c11
                  (first | rw [c11b0] | (simp only [i64_w, i32_w]; rw [c11b0]) | skip)
                  have H' := Aside0.mk H
                  clear H
                  go_wp2
                  go_meet
                  case rel => exact ⟨_, (true), (by first | rfl | (simp; done) | (simp [*]; done)), H', ⟨by have := HJ2.out; have := HJ4.out; first | omega | exact Nat.le_refl _⟩, by repeat (first | exact Drawn0.refl _ | apply Drawn0.step)⟩
                · rw [if_neg c11] at H
                  have c11b0 : (x0_2 == 32) = false := beq_eq_false_iff_ne.mpr c11
                  have c11b1 : (x0_2 != 32) = true := bne_iff_ne.mpr c11
                  (first | rw [c11b0] | (simp only [i64_w, i32_w]; rw [c11b0]) | skip)
                  have H' := Aside0.mk H
                  clear H
                  go_wp2
                  go_meet
                  case rel => exact ⟨_, ((x0_2 == 160)), (by first | rfl | (simp; done) | (simp [*]; done)), H', ⟨by have := HJ2.out; have := HJ4.out; first | omega | exact Nat.le_refl _⟩, by repeat (first | exact Drawn0.refl _ | apply Drawn0.step)⟩
              case rest =>
                clear HC10
                try clear c1
                try clear c2
                try clear p2
                try clear c4
                try clear c6
                try clear c6b0
                try clear p6
                try clear c7
                try clear c9
                try clear c9b0
                try clear c9b1
                try clear c10
                try clear c11
                try clear c11b0
                try clear c11b1
                try clear p2
                try clear p6
                obtain ⟨kq, x21_9, rfl, HA, HJ9, ⟨mc9, rfl⟩⟩ := hcut
                cases kq with
                | zero => exact absurd HA.out (by simp [repertoire_Class.j2])
                | succ kj9 =>
                  have H := HA.out
                  clear HA
                  simp only [repertoire_Class.j2] at H
                  by_cases c12 : x21_9 = true
                  · subst c12
                    have H1 : (some (0, 4)) = some (r1, r2) := by rw [if_pos rfl] at H; exact H
                    clear H
                    have H := H1
                    clear H1
                    simp only [Option.some.injEq, Prod.mk.injEq] at H
                    obtain ⟨rfl, rfl⟩ := H
                    go_wp2
                    go_ret2
                    exact ⟨by first | rfl | (simp; done) | (simp [*]; done), by repeat (first | exact Drawn0.refl _ | apply Drawn0.step)⟩
                  · replace c12 := Bool.eq_false_iff.mpr c12
                    subst c12
                    have H1 : ((repertoire_from.f x0_2 48 57).bind fun t387 => (if t387 = true then (repertoire_Class.j3 kj9 x0_2 true) else (if x0_2 = 178 then (repertoire_Class.j3 kj9 x0_2 true) else (if x0_2 = 179 then (repertoire_Class.j3 kj9 x0_2 true) else (repertoire_Class.j3 kj9 x0_2 (x0_2 == 185)))))) = some (r1, r2) := by rw [if_neg (show ¬ (false = true) by decide)] at H; exact H
                    clear H
                    have H := H1
                    clear H1
                    have HC13 := Aside0.mk H
                    clear H
                    go_upto_region 10 with (fail)
                    go_cut [28] (fun v28 wc => ∃ (kq : Nat) (x28_12 : Bool), v28 = .bool x28_12 ∧ Aside0 (repertoire_Class.j3 kq x0_2 x28_12 = some (r1, r2)) ∧ Aside0 (kq ≤ kj9) ∧ Drawn0 w wc)
                    case first =>
                      have H := HC13.out
                      clear HC13
                      replace H := Option.bind_eq_some_iff.mp H
                      obtain ⟨t387, A140, H⟩ := H
                      replace H : (if t387 = true then (repertoire_Class.j3 kj9 x0_2 true) else (if x0_2 = 178 then (repertoire_Class.j3 kj9 x0_2 true) else (if x0_2 = 179 then (repertoire_Class.j3 kj9 x0_2 true) else (repertoire_Class.j3 kj9 x0_2 (x0_2 == 185))))) = some (r1, r2) := H
                      have A14 := Aside0.mk A140
                      clear A140
                      by_cases c15 : t387 = true
                      · subst c15
                        have H1 : (repertoire_Class.j3 kj9 x0_2 true) = some (r1, r2) := by rw [if_pos rfl] at H; exact H
                        clear H
                        have H := H1
                        clear H1
                        have H' := Aside0.mk H
                        clear H
                        go_wp2_with (first | ((with_reducible refine gate_callee (f := 103) rfl ?_); refine goesL_ (some 30) rfl rfl Tryd.func103 (by kernel_rfl) rfl #[.int .i64 x0_2, .int .i64 48, .int .i64 57] rfl (by (try simp only [List.map_toArray, List.map_cons, List.map_nil]); first | done | rfl | (simp only [List.length_drop, List.length_take]; rfl)) ?_; (with_reducible refine (repertoire_from.calls x0_2 48 57 true _ A14.out).mono ?_); rintro e w' ⟨rfl, ⟨nd, rfl⟩⟩; refine ⟨_, rfl, ?_⟩))
                        go_meet
                        case rel => exact ⟨_, (true), (by first | rfl | (simp; done) | (simp [*]; done)), H', ⟨by have := HJ2.out; have := HJ4.out; have := HJ9.out; first | omega | exact Nat.le_refl _⟩, by repeat (first | exact Drawn0.refl _ | apply Drawn0.step)⟩
                      · replace c15 := Bool.eq_false_iff.mpr c15
                        subst c15
                        have H1 : (if x0_2 = 178 then (repertoire_Class.j3 kj9 x0_2 true) else (if x0_2 = 179 then (repertoire_Class.j3 kj9 x0_2 true) else (repertoire_Class.j3 kj9 x0_2 (x0_2 == 185)))) = some (r1, r2) := by rw [if_neg (show ¬ (false = true) by decide)] at H; exact H
                        clear H
                        have H := H1
                        clear H1
                        by_cases c16 : x0_2 = 178
                        · rw [if_pos c16] at H
                          have c16b0 : (x0_2 == 178) = true := beq_iff_eq.mpr c16
                          have c16b1 : (x0_2 != 178) = false := bne_eq_false_iff_eq.mpr c16
                          clear c16
                          (first | rw [c16b0] | (simp only [i64_w, i32_w]; rw [c16b0]) | skip)
                          have H' := Aside0.mk H
                          clear H
                          go_wp2_with (first | ((with_reducible refine gate_callee (f := 103) rfl ?_); refine goesL_ (some 30) rfl rfl Tryd.func103 (by kernel_rfl) rfl #[.int .i64 x0_2, .int .i64 48, .int .i64 57] rfl (by (try simp only [List.map_toArray, List.map_cons, List.map_nil]); first | done | rfl | (simp only [List.length_drop, List.length_take]; rfl)) ?_; (with_reducible refine (repertoire_from.calls x0_2 48 57 false _ A14.out).mono ?_); rintro e w' ⟨rfl, ⟨nd, rfl⟩⟩; refine ⟨_, rfl, ?_⟩))
                          go_meet
                          case rel => exact ⟨_, (true), (by first | rfl | (simp; done) | (simp [*]; done)), H', ⟨by have := HJ2.out; have := HJ4.out; have := HJ9.out; first | omega | exact Nat.le_refl _⟩, by repeat (first | exact Drawn0.refl _ | apply Drawn0.step)⟩
                        · rw [if_neg c16] at H
                          have c16b0 : (x0_2 == 178) = false := beq_eq_false_iff_ne.mpr c16
                          have c16b1 : (x0_2 != 178) = true := bne_iff_ne.mpr c16
                          (first | rw [c16b0] | (simp only [i64_w, i32_w]; rw [c16b0]) | skip)
                          by_cases c17 : x0_2 = 179
                          · rw [if_pos c17] at H
                            have c17b0 : (x0_2 == 179) = true := beq_iff_eq.mpr c17
                            have c17b1 : (x0_2 != 179) = false := bne_eq_false_iff_eq.mpr c17
                            clear c17
                            have H' := Aside0.mk H
                            clear H
                            go_wp2_with (first | ((with_reducible refine gate_callee (f := 103) rfl ?_); refine goesL_ (some 30) rfl rfl Tryd.func103 (by kernel_rfl) rfl #[.int .i64 x0_2, .int .i64 48, .int .i64 57] rfl (by (try simp only [List.map_toArray, List.map_cons, List.map_nil]); first | done | rfl | (simp only [List.length_drop, List.length_take]; rfl)) ?_; (with_reducible refine (repertoire_from.calls x0_2 48 57 false _ A14.out).mono ?_); rintro e w' ⟨rfl, ⟨nd, rfl⟩⟩; refine ⟨_, rfl, ?_⟩))
                            go_meet
                            case rel => exact ⟨_, (true), (by first | rfl | (simp; done) | (simp [*]; done)), H', ⟨by have := HJ2.out; have := HJ4.out; have := HJ9.out; first | omega | exact Nat.le_refl _⟩, by repeat (first | exact Drawn0.refl _ | apply Drawn0.step)⟩
                          · rw [if_neg c17] at H
                            have c17b0 : (x0_2 == 179) = false := beq_eq_false_iff_ne.mpr c17
                            have c17b1 : (x0_2 != 179) = true := bne_iff_ne.mpr c17
                            have H' := Aside0.mk H
                            clear H
                            go_wp2_with (first | ((with_reducible refine gate_callee (f := 103) rfl ?_); refine goesL_ (some 30) rfl rfl Tryd.func103 (by kernel_rfl) rfl #[.int .i64 x0_2, .int .i64 48, .int .i64 57] rfl (by (try simp only [List.map_toArray, List.map_cons, List.map_nil]); first | done | rfl | (simp only [List.length_drop, List.length_take]; rfl)) ?_; (with_reducible refine (repertoire_from.calls x0_2 48 57 false _ A14.out).mono ?_); rintro e w' ⟨rfl, ⟨nd, rfl⟩⟩; refine ⟨_, rfl, ?_⟩))
                            go_meet
                            case rel => exact ⟨_, ((x0_2 == 185)), (by first | rfl | (simp; done) | (simp [*]; done)), H', ⟨by have := HJ2.out; have := HJ4.out; have := HJ9.out; first | omega | exact Nat.le_refl _⟩, by repeat (first | exact Drawn0.refl _ | apply Drawn0.step)⟩
                    case rest =>
                      clear HC13
                      try clear c1
                      try clear c2
                      try clear p2
                      try clear c4
                      try clear c6
                      try clear c6b0
                      try clear p6
                      try clear c7
                      try clear c9
                      try clear c9b0
                      try clear c9b1
                      try clear c10
                      try clear c11
                      try clear c11b0
                      try clear c11b1
                      try clear c12
                      try clear c15
                      try clear c16
                      try clear c16b0
                      try clear c16b1
                      try clear c17
                      try clear c17b0
                      try clear c17b1
                      try clear p2
                      try clear p6
                      obtain ⟨kq, x28_12, rfl, HA, HJ12, ⟨mc12, rfl⟩⟩ := hcut
                      cases kq with
                      | zero => exact absurd HA.out (by simp [repertoire_Class.j3])
                      | succ kj12 =>
                        have H := HA.out
                        clear HA
                        simp only [repertoire_Class.j3] at H
                        by_cases c18 : x28_12 = true
                        · subst c18
                          have H1 : (some (0, 3)) = some (r1, r2) := by rw [if_pos rfl] at H; exact H
                          clear H
                          have H := H1
                          clear H1
                          simp only [Option.some.injEq, Prod.mk.injEq] at H
                          obtain ⟨rfl, rfl⟩ := H
                          go_wp2
                          go_ret2
                          exact ⟨by first | rfl | (simp; done) | (simp [*]; done), by repeat (first | exact Drawn0.refl _ | apply Drawn0.step)⟩
                        · replace c18 := Bool.eq_false_iff.mpr c18
                          subst c18
                          have H1 : ((repertoire_mark.f kj12 x0_2).bind fun t388 => (if t388 = true then (some (0, 2)) else (if x0_2 ≤ 126 then (some (0, 5)) else (some (0, 0))))) = some (r1, r2) := by rw [if_neg (show ¬ (false = true) by decide)] at H; exact H
                          clear H
                          have H := H1
                          clear H1
                          replace H := Option.bind_eq_some_iff.mp H
                          obtain ⟨t388, A190, H⟩ := H
                          replace H : (if t388 = true then (some (0, 2)) else (if x0_2 ≤ 126 then (some (0, 5)) else (some (0, 0)))) = some (r1, r2) := H
                          have A19 := Aside0.mk A190
                          clear A190
                          by_cases c20 : t388 = true
                          · subst c20
                            have H1 : (some (0, 2)) = some (r1, r2) := by rw [if_pos rfl] at H; exact H
                            clear H
                            have H := H1
                            clear H1
                            simp only [Option.some.injEq, Prod.mk.injEq] at H
                            obtain ⟨rfl, rfl⟩ := H
                            go_wp2_with (first | ((with_reducible refine gate_callee (f := 105) rfl ?_); refine goesL_ (some 45) rfl rfl Tryd.func105 (by kernel_rfl) rfl #[.int .i64 x0_2] rfl (by (try simp only [List.map_toArray, List.map_cons, List.map_nil]); first | done | rfl | (simp only [List.length_drop, List.length_take]; rfl)) ?_; (with_reducible refine (repertoire_mark.calls kj12 x0_2 true _ A19.out).mono ?_); rintro e w' ⟨rfl, ⟨nd, rfl⟩⟩; refine ⟨_, rfl, ?_⟩))
                            go_ret2
                            exact ⟨by first | rfl | (simp; done) | (simp [*]; done), by repeat (first | exact Drawn0.refl _ | apply Drawn0.step)⟩
                          · replace c20 := Bool.eq_false_iff.mpr c20
                            subst c20
                            have H1 : (if x0_2 ≤ 126 then (some (0, 5)) else (some (0, 0))) = some (r1, r2) := by rw [if_neg (show ¬ (false = true) by decide)] at H; exact H
                            clear H
                            have H := H1
                            clear H1
                            by_cases c21 : x0_2 ≤ 126
                            · rw [if_pos c21] at H
                              have c21b0 : decide (x0_2 ≤ 126) = true := decide_eq_true c21
                              clear c21
                              simp only [Option.some.injEq, Prod.mk.injEq] at H
                              obtain ⟨rfl, rfl⟩ := H
                              go_wp2_with (first | ((with_reducible refine gate_callee (f := 105) rfl ?_); refine goesL_ (some 45) rfl rfl Tryd.func105 (by kernel_rfl) rfl #[.int .i64 x0_2] rfl (by (try simp only [List.map_toArray, List.map_cons, List.map_nil]); first | done | rfl | (simp only [List.length_drop, List.length_take]; rfl)) ?_; (with_reducible refine (repertoire_mark.calls kj12 x0_2 false _ A19.out).mono ?_); rintro e w' ⟨rfl, ⟨nd, rfl⟩⟩; refine ⟨_, rfl, ?_⟩))
                              go_ret2
                              exact ⟨by first | rfl | (simp; done) | (simp [*]; done), by repeat (first | exact Drawn0.refl _ | apply Drawn0.step)⟩
                            · rw [if_neg c21] at H
                              have c21b0 : decide (x0_2 ≤ 126) = false := decide_eq_false c21
                              clear c21
                              simp only [Option.some.injEq, Prod.mk.injEq] at H
                              obtain ⟨rfl, rfl⟩ := H
                              go_wp2_with (first | ((with_reducible refine gate_callee (f := 105) rfl ?_); refine goesL_ (some 45) rfl rfl Tryd.func105 (by kernel_rfl) rfl #[.int .i64 x0_2] rfl (by (try simp only [List.map_toArray, List.map_cons, List.map_nil]); first | done | rfl | (simp only [List.length_drop, List.length_take]; rfl)) ?_; (with_reducible refine (repertoire_mark.calls kj12 x0_2 false _ A19.out).mono ?_); rintro e w' ⟨rfl, ⟨nd, rfl⟩⟩; refine ⟨_, rfl, ?_⟩))
                              go_ret2
                              exact ⟨by first | rfl | (simp; done) | (simp [*]; done), by repeat (first | exact Drawn0.refl _ | apply Drawn0.step)⟩
            · rw [if_neg c9] at H
              have c9b0 : (t386 == 0) = false := beq_eq_false_iff_ne.mpr c9
              have c9b1 : (t386 != 0) = true := bne_iff_ne.mpr c9
              simp only [Option.some.injEq, Prod.mk.injEq] at H
              obtain ⟨rfl, rfl⟩ := H
              go_wp2_with (first | ((with_reducible refine gate_callee (f := 104) rfl ?_); refine goesL_ (some 16) rfl rfl Tryd.func104 (by kernel_rfl) rfl #[.int .i64 x0_2] rfl (by (try simp only [List.map_toArray, List.map_cons, List.map_nil]); first | done | rfl | (simp only [List.length_drop, List.length_take]; rfl)) ?_; (with_reducible refine (repertoire_letter.calls kj4 x0_2 t386 _ A8.out).mono ?_); rintro e w' ⟨rfl, ⟨nd, rfl⟩⟩; refine ⟨_, rfl, ?_⟩))
              go_ret2
              exact ⟨by first | rfl | (simp; done) | (simp [*]; done), by repeat (first | exact Drawn0.refl _ | apply Drawn0.step)⟩
end Go.Proofs.YthcpdhniakpbaaaDoor.X
end

section
namespace Go.Proofs.YthcpdhniakpbaaaDoor.X
open Go.RowKit Go.Proofs.YthcpdhniakpbaaaDoorW.PrintWords
def utf8_RuneCountInString.f (a0 : ByteArray) : Option Int := if a0.size < 9223372036854775807 then some (Lib.runeCount a0 : Int) else none
theorem utf8_RuneCountInString.calls (a0 : ByteArray) (r : Int) (w : World) (h : utf8_RuneCountInString.f a0 = some r) :
    Calls Tryd.prog 107 #[.string a0] w fun e w' => e = .returned (.int .i64 r) ∧ Below w.heap.size w w' := by
  unfold utf8_RuneCountInString.f at h
  split at h
  · rename_i h1
    obtain rfl := Option.some.inj h
    refine (Tryd.utf8_RuneCountInString a0 w h1).mono ?_
    rintro e w' ⟨rfl, pos, rfl⟩
    exact ⟨rfl, below_alloc (Below.refl _ _) _⟩
  · exact absurd h (by simp)
def utf8_DecodeRuneInString.f (a0 : ByteArray) : Option (Int × Int) := some ((Lib.decodeGo a0).1, (Lib.decodeGo a0).2)
theorem utf8_DecodeRuneInString.calls (a0 : ByteArray) (r1 : Int) (r2 : Int) (w : World) (hG : GT1 w) (h : utf8_DecodeRuneInString.f a0 = some (r1, r2)) :
    Calls Tryd.prog 79 #[.string a0] w fun e w' => e = .returned (.tuple #[.int .i32 r1, .int .i64 r2]) ∧ Below w.heap.size w w' := by
  obtain ⟨rfl, rfl⟩ := Prod.mk.inj (Option.some.inj h)
  exact Tryd.utf8_DecodeRuneInString a0 w hG.tabs
end Go.Proofs.YthcpdhniakpbaaaDoor.X
end

section
namespace Go.Proofs.YthcpdhniakpbaaaDoor.X
open Go.RowKit Go.Proofs.YthcpdhniakpbaaaDoorW.PrintWords Go.Proofs.YthcpdhniakpbaaaDoorW.PrintLast Go.Proofs.YthcpdhniakpbaaaDoorW.PrintMore
attribute [local go_sem] max2_int min2_int max_two min_two max_three min_three max_four min_four
set_option linter.unusedVariables false
set_option linter.unusedSimpArgs false
def repertoire_Has.f (k : Nat) (a0 : Int) : Option (Bool) := (repertoire_Class.f k a0).bind fun bt389 => (some (bt389.2 != 0))
set_option maxHeartbeats 8000000 in
set_option maxRecDepth 100000 in
theorem repertoire_Has.calls (k : Nat) (a0 : Int) (r : Bool) (w : World) (h : repertoire_Has.f k a0 = some r) :
    Calls Tryd.prog 95 #[.int .i64 a0] w fun e w' => e = .returned (.bool r) ∧ Drawn0 w w' := by
  have H : ((repertoire_Class.f k a0).bind fun bt389 => (some (bt389.2 != 0))) = some r := h
  clear h
  replace H := Option.bind_eq_some_iff.mp H
  obtain ⟨⟨t389, t390⟩, A20, H⟩ := H
  replace H : (some (t390 != 0)) = some r := H
  have A2 := Aside0.mk A20
  clear A20
  obtain rfl := Option.some.inj H
  go_enter Tryd.func95, Tryd.ntmps95
  go_wp2_with (first | ((with_reducible refine gate_callee (f := 90) rfl ?_); refine goesL_ (some 7) rfl rfl Tryd.func90 (by kernel_rfl) rfl #[.int .i64 a0] rfl (by (try simp only [List.map_toArray, List.map_cons, List.map_nil]); first | done | rfl | (simp only [List.length_drop, List.length_take]; rfl)) ?_; (with_reducible refine (repertoire_Class.calls k a0 t389 t390 _ A2.out).mono ?_); rintro e w' ⟨rfl, ⟨nd, rfl⟩⟩; refine ⟨_, rfl, ?_⟩))
  go_ret
  exact ⟨by first | rfl | (simp; done) | (simp [*]; done), by repeat (first | exact Drawn0.refl _ | apply Drawn0.step)⟩
def repertoire_Decode.l0 : Nat → ByteArray → List Int → Option (List Int × Bool)
  | 0, _, _ => none
  | k + 1, x0, x4 => if (x0.size : Int) > 0 then ((utf8_DecodeRuneInString.f x0).bind fun bt394 => (if bt394.1 = 65533 then (some (([] : List Int), false)) else ((repertoire_Has.f k (wrap64 (bt394.1))).bind fun t396 => (if t396 = true then (if x4.length < 17592186044416 then (if 0 ≤ bt394.2 then (if bt394.2 ≤ (x0.size : Int) then (repertoire_Decode.l0 k (x0.extract (bt394.2 : Int).toNat x0.size) (x4 ++ [wrap64 (bt394.1)])) else (none)) else (none)) else (none)) else (some (([] : List Int), false)))))) else (some (x4, true))
def repertoire_Decode.f (k : Nat) (a0 : ByteArray) : Option (List Int × Bool) := if 0 ≤ (a0.size : Int) then (if ((a0.size : Int) : Int).toNat ≤ 35184372088832 then (repertoire_Decode.l0 k a0 (([] : List Int))) else (none)) else (none)
def repertoire_Decode.T6 : Bool × List (List Nat × List Nat) := (true, [([], []), ([], []), ([1], [1]), ([2], [2]), ([0, 3], [0, 3]), ([], []), ([], []), ([5, 6], [5, 6]), ([4, 4, 0, 1, 2, 3, 4], [0, 4]), ([7, 8, 0, 1, 2, 3, 4, 5, 6, 7, 8], [5, 7])])
def repertoire_Decode.B6 : List Nat := [0, 0, 2, 6, 15, 0, 0, 96, 31, 511]
theorem repertoire_Decode.tab6 : rtab .any (opsOf Tryd.f78 6) = repertoire_Decode.T6 := by kernel_rfl
theorem repertoire_Decode.bits6 : waitsOk repertoire_Decode.T6.2 repertoire_Decode.B6 = true := by kernel_rfl
set_option maxHeartbeats 8000000 in
set_option maxRecDepth 100000 in
theorem repertoire_Decode.calls (k : Nat) (a0 : ByteArray) (r1 : List Int) (r2 : Bool) (w : World) (hG : GT1 w) (h : repertoire_Decode.f k a0 = some (r1, r2)) :
    Calls Tryd.prog 78 #[.string a0] w fun e w' => ∃ v0_ : Value, e = .returned (.tuple #[v0_, .bool r2]) ∧ Kd.R (Kd.int .i64) 3 w' w.heap.size (fun _ => True) v0_ r1 ∧ Below w.heap.size w w' := by
  have HG := Aside0.mk hG
  clear hG
  have HB := Aside0.mk (Below.refl w.heap.size w)
  have H : (if 0 ≤ (a0.size : Int) then (if ((a0.size : Int) : Int).toNat ≤ 35184372088832 then (repertoire_Decode.l0 k a0 (([] : List Int))) else (none)) else (none)) = some (r1, r2) := h
  clear h
  by_cases c2 : 0 ≤ (a0.size : Int)
  · rw [if_pos c2] at H
    have c2b0 := eq_true c2
    have c2b1 : decide (0 ≤ (a0.size : Int)) = true := decide_eq_true c2
    clear c2
    by_cases c3 : ((a0.size : Int) : Int).toNat ≤ 35184372088832
    · rw [if_pos c3] at H
      have c3b0 := eq_true c3
      have c3b1 : decide (((a0.size : Int) : Int).toNat ≤ 35184372088832) = true := decide_eq_true c3
      clear c3
      obtain ⟨y391, hy391⟩ : ∃ y_ : List Int, y_ = (([] : List Int)) := ⟨_, rfl⟩
      replace H : (repertoire_Decode.l0 k a0 y391) = some (r1, r2) := by first | (rw [hy391]; with_reducible exact H) | (have H2_ := (Option.bind_some _ _).symm.trans H; rw [hy391]; with_reducible exact H2_) | (have H2_ := (Option.bind_some _ _).symm.trans H; with_reducible exact H2_) | with_reducible exact H | (rw [hy391]; exact H) | exact H
      have Ny391 := Aside0.mk hy391
      clear hy391
      have H' := Aside0.mk H
      clear H
      go_enter Tryd.func78, Tryd.ntmps78
      go_wp2_with (first | ((with_reducible refine gate_dst (N := 9) rfl ?_); refine R_make0 .i64 _ 3 rfl (N := 9) rfl 35 _ _ rfl (a0.size : Int) rfl rfl Tryd.underlying35 8 info3 (by decide) (ok := fun _ => True) trivial (of_decide_eq_true (by first | (with_reducible assumption) | assumption)) (Nat.le_trans (Nat.mul_le_mul_right _ (of_decide_eq_true (by first | (with_reducible assumption) | assumption) : (a0.size : Int).toNat ≤ 35184372088832)) (by omega)) (Below.refl _ _) (Nat.le_refl _) ?_; intro v392 w4 ho5 hb hg_ hnew_; clear hg_ hnew_; (first | rw [← Ny391.out] at ho5 | (simp only [Int.reduceToNat] at ho5; rw [← Ny391.out] at ho5)); have n0_ := Aside0.mk (Kd.R_lower ho5 (below_size (by repeat (first | (with_reducible first | exact HB.out | apply below_alloc | apply pw_below_drewN | apply below_drew1) | exact HB.out)))); have n1_ := Aside0.mk (below_step (by repeat (first | (with_reducible first | exact HB.out | apply below_alloc | apply pw_below_drewN | apply below_drew1) | exact HB.out)) hb); clear HB; have HO393 := n0_; have HB := n1_; clear n0_ n1_; clear hb ho5))
      go_loopg [0, 4] k (fun kq v0 v4 w' => ∃ (x0_1 : ByteArray) (x4_1 : List Int), v0 = .string x0_1 ∧ Aside0 (repertoire_Decode.l0 kq x0_1 x4_1 = some (r1, r2)) ∧ Aside0 (kq ≤ k) ∧ Aside0 (Kd.R (Kd.int .i64) 3 w' w.heap.size (fun _ => True) v4 x4_1) ∧ Aside0 (Below w.heap.size w w'))
      case atStart => exact ⟨(a0), (y391), (by first | rfl | (simp; done) | (simp [*]; done)), H', ⟨Nat.le_refl _⟩, ⟨by (with_reducible repeat (first | apply Kd.R_alloc | apply Kd.R_drewN | apply Kd.R_drew)); exact HO393.out⟩, ⟨by repeat (first | (with_reducible first | exact HB.out | apply below_alloc | apply pw_below_drewN | apply below_drew1) | exact HB.out)⟩⟩
      case round =>
        clear H'
        try clear c2
        try clear c2b0
        try clear c2b1
        try clear p2
        try clear c3
        try clear c3b0
        try clear c3b1
        obtain ⟨x0_1, x4_1, rfl, HA, HK1, HO_4, HB⟩ := hrel
        cases gk with
        | zero => exact absurd HA.out (by simp [repertoire_Decode.l0])
        | succ k1 =>
          have H := HA.out
          clear HA
          simp only [repertoire_Decode.l0] at H
          by_cases c6 : (x0_1.size : Int) > 0
          · rw [if_pos c6] at H
            have c6b0 : decide (0 < (x0_1.size : Int)) = true := decide_eq_true c6
            have c6b1 : decide (0 < x0_1.size) = true := decide_eq_true (by omega)
            clear c6
            replace H := Option.bind_eq_some_iff.mp H
            obtain ⟨⟨t394, t395⟩, A70, H⟩ := H
            replace H : (if t394 = 65533 then (some (([] : List Int), false)) else ((repertoire_Has.f k1 (wrap64 (t394))).bind fun t396 => (if t396 = true then (if x4_1.length < 17592186044416 then (if 0 ≤ t395 then (if t395 ≤ (x0_1.size : Int) then (repertoire_Decode.l0 k1 (x0_1.extract (t395 : Int).toNat x0_1.size) (x4_1 ++ [wrap64 (t394)])) else (none)) else (none)) else (none)) else (some (([] : List Int), false))))) = some (r1, r2) := H
            have A7 := Aside0.mk A70
            clear A70
            by_cases c8 : t394 = 65533
            · rw [if_pos c8] at H
              have c8b0 : (t394 == 65533) = true := beq_iff_eq.mpr c8
              have c8b1 : (t394 != 65533) = false := bne_eq_false_iff_eq.mpr c8
              clear c8
              simp only [Option.some.injEq, Prod.mk.injEq] at H
              obtain ⟨rfl, rfl⟩ := H
              go_wp2_with (first | ((with_reducible refine gate_callee (f := 79) rfl ?_); refine goesL_ (some 15) rfl rfl Tryd.func79 (by kernel_rfl) rfl #[.string x0_1] rfl (by (try simp only [List.map_toArray, List.map_cons, List.map_nil]); first | done | rfl | (simp only [List.length_drop, List.length_take]; rfl)) ?_; (with_reducible refine (utf8_DecodeRuneInString.calls x0_1 t394 t395 _ ?side1 A7.out).mono ?_); (case side1 => exact GT1.below (HG.out) (by repeat (first | (with_reducible first | exact HB.out | apply below_alloc | apply pw_below_drewN | apply below_drew1) | exact HB.out))); rintro e w9 ⟨rfl, hb⟩; refine ⟨_, rfl, ?_⟩; have n0_ := Aside0.mk (Kd.R_below (by (with_reducible repeat (first | apply Kd.R_alloc | apply Kd.R_drewN | apply Kd.R_drew)); exact HO_4.out) hb); have n1_ := Aside0.mk (below_step (by repeat (first | (with_reducible first | exact HB.out | apply below_alloc | apply pw_below_drewN | apply below_drew1) | exact HB.out)) hb); clear HO_4; clear HB; have HO_4 := n0_; have HB := n1_; clear n0_ n1_; (try clear hb); (try clear hb2); (try clear hk); (try clear hi)))
              go_ret2
              exact ⟨_, by first | rfl | (simp [errW_none, errW_some] <;> rfl) | (simp [*, errW_none, errW_some] <;> rfl), by first | exact Kd.R_nil _ _ _ _ _ | exact Kd.N_nil _ _ _ _ _ | exact Kd.V_nil _ _ _ _ _ | exact Kd.Q_nil _ _ _ _ _ | exact Kd.S_nil _ _ _ _ _, by repeat (first | (with_reducible first | exact HB.out | apply below_alloc | apply pw_below_drewN | apply below_drew1) | exact HB.out)⟩
            · rw [if_neg c8] at H
              have c8b0 : (t394 == 65533) = false := beq_eq_false_iff_ne.mpr c8
              have c8b1 : (t394 != 65533) = true := bne_iff_ne.mpr c8
              replace H := Option.bind_eq_some_iff.mp H
              obtain ⟨t396, A100, H⟩ := H
              replace H : (if t396 = true then (if x4_1.length < 17592186044416 then (if 0 ≤ t395 then (if t395 ≤ (x0_1.size : Int) then (repertoire_Decode.l0 k1 (x0_1.extract (t395 : Int).toNat x0_1.size) (x4_1 ++ [wrap64 (t394)])) else (none)) else (none)) else (none)) else (some (([] : List Int), false))) = some (r1, r2) := H
              have A10 := Aside0.mk A100
              clear A100
              by_cases c11 : t396 = true
              · subst c11
                have H1 : (if x4_1.length < 17592186044416 then (if 0 ≤ t395 then (if t395 ≤ (x0_1.size : Int) then (repertoire_Decode.l0 k1 (x0_1.extract (t395 : Int).toNat x0_1.size) (x4_1 ++ [wrap64 (t394)])) else (none)) else (none)) else (none)) = some (r1, r2) := by rw [if_pos rfl] at H; exact H
                clear H
                have H := H1
                clear H1
                by_cases c12 : x4_1.length < 17592186044416
                · rw [if_pos c12] at H
                  have LMc12 := Aside0.mk c12
                  clear c12
                  obtain ⟨y397, hy397⟩ : ∃ y_ : List Int, y_ = (x4_1 ++ [wrap64 (t394)]) := ⟨_, rfl⟩
                  replace H : (if 0 ≤ t395 then (if t395 ≤ (x0_1.size : Int) then (repertoire_Decode.l0 k1 (x0_1.extract (t395 : Int).toNat x0_1.size) y397) else (none)) else (none)) = some (r1, r2) := by first | (rw [hy397]; with_reducible exact H) | (have H2_ := (Option.bind_some _ _).symm.trans H; rw [hy397]; with_reducible exact H2_) | (have H2_ := (Option.bind_some _ _).symm.trans H; with_reducible exact H2_) | with_reducible exact H | (rw [hy397]; exact H) | exact H
                  have Ny397 := Aside0.mk hy397
                  clear hy397
                  by_cases c13 : 0 ≤ t395
                  · rw [if_pos c13] at H
                    have c13b0 := eq_true c13
                    have c13b1 : decide (0 ≤ t395) = true := decide_eq_true c13
                    clear c13
                    by_cases c14 : t395 ≤ (x0_1.size : Int)
                    · rw [if_pos c14] at H
                      have c14b0 := eq_true c14
                      have c14b1 : decide (t395 ≤ (x0_1.size : Int)) = true := decide_eq_true c14
                      clear c14
                      have H' := Aside0.mk H
                      clear H
                      try go_wp2_with (first | ((with_reducible refine gate_callee (f := 79) rfl ?_); refine goesL_ (some 15) rfl rfl Tryd.func79 (by kernel_rfl) rfl #[.string x0_1] rfl (by (try simp only [List.map_toArray, List.map_cons, List.map_nil]); first | done | rfl | (simp only [List.length_drop, List.length_take]; rfl)) ?_; (with_reducible refine (utf8_DecodeRuneInString.calls x0_1 t394 t395 _ ?side1 A7.out).mono ?_); (case side1 => exact GT1.below (HG.out) (by repeat (first | (with_reducible first | exact HB.out | apply below_alloc | apply pw_below_drewN | apply below_drew1) | exact HB.out))); rintro e w15 ⟨rfl, hb⟩; refine ⟨_, rfl, ?_⟩; have n0_ := Aside0.mk (Kd.R_below (by (with_reducible repeat (first | apply Kd.R_alloc | apply Kd.R_drewN | apply Kd.R_drew)); exact HO_4.out) hb); have n1_ := Aside0.mk (below_step (by repeat (first | (with_reducible first | exact HB.out | apply below_alloc | apply pw_below_drewN | apply below_drew1) | exact HB.out)) hb); clear HO_4; clear HB; have HO_4 := n0_; have HB := n1_; clear n0_ n1_; (try clear hb); (try clear hb2); (try clear hk); (try clear hi)) | (go_at_call 95; (with_reducible refine (repertoire_Has.calls k1 (wrap64 (t394)) true _ A10.out).mono ?_); rintro e w' ⟨rfl, ⟨nd, rfl⟩⟩))
                      (try (rw [drewN_self w15]; generalize hq_ : World.drewN w15 _ = w15; have n0_ : Aside0 (Kd.R (Kd.int .i64) 3 w15 w.heap.size (fun _ => True) u4 x4_1) := ⟨by rw [← hq_]; exact (by (with_reducible repeat (first | apply Kd.R_alloc | apply Kd.R_drewN | apply Kd.R_drew)); exact HO_4.out)⟩; have n1_ : Aside0 (Below w.heap.size w w15) := ⟨by rw [← hq_]; exact (by repeat (first | (with_reducible first | exact HB.out | apply below_alloc | apply pw_below_drewN | apply below_drew1) | exact HB.out))⟩; clear HO_4 HB hq_; have HO_4 := n0_; have HB := n1_; clear n0_ n1_))
                      have n0_ := Aside0.mk (Kd.R_drew HO_4.out)
                      have n1_ := Aside0.mk (below_drew1 HB.out)
                      clear HO_4
                      clear HB
                      have HO_4 := n0_
                      have HB := n1_
                      clear n0_ n1_
                      refine start_ (n := 10) (S := fun w' => True) (ds := []) #[false, false, false, false, false, false, false, false, false, false] (by kernel_rfl) rfl rfl trivial (fun hHeld => ?_); refine with_tabW repertoire_Decode.tab6 repertoire_Decode.bits6 (fun HT_ HW_ => ?_)
                      generalize w15.drew = w16 at HO_4 HB hHeld ⊢
                      refine pure_ (i := 0) (N := some 26) (v := ?_) (a' := ?_) #[true, false, false, false, false, false, false, false, false, false] rfl rfl (any_of HT_.out (by kernel_rfl)) (fun _ _ _ h => h) (Or.inl ⟨by rfl, ?_⟩) ?_ ?_
                      rotate_left
                      · intro w'
                        go_simp
                        with_reducible rfl
                      rotate_left
                      · simp only [Act.put, List.setIfInBounds_toArray, List.set_cons_zero, List.set_cons_succ, i64_w, i32_w]
                        rfl
                      refine pure_ (i := 1) (N := some 27) (v := ?_) (a' := ?_) #[true, true, false, false, false, false, false, false, false, false] rfl rfl (any_of HT_.out (by kernel_rfl)) (fun _ _ _ h => h) (Or.inl ⟨by rfl, ?_⟩) ?_ ?_
                      rotate_left
                      · intro w'
                        go_simp
                        with_reducible rfl
                      rotate_left
                      · simp only [Act.put, List.setIfInBounds_toArray, List.set_cons_zero, List.set_cons_succ, i64_w, i32_w]
                        rfl
                      refine pure_ (i := 2) (N := some 28) (v := ?_) (a' := ?_) #[true, true, true, false, false, false, false, false, false, false] rfl rfl (any_of HT_.out (by kernel_rfl)) (fun _ _ _ h => h) (Or.inl ⟨by rfl, ?_⟩) ?_ ?_
                      rotate_left
                      · intro w'
                        go_simp
                        with_reducible rfl
                      rotate_left
                      · simp only [Act.put, List.setIfInBounds_toArray, List.set_cons_zero, List.set_cons_succ, i64_w, i32_w]
                        rfl
                      refine pure_ (i := 5) (N := some 31) (v := ?_) (a' := ?_) #[true, true, true, false, false, true, false, false, false, false] rfl rfl (any_of HT_.out (by kernel_rfl)) (fun _ _ _ h => h) (Or.inl ⟨by rfl, ?_⟩) ?_ ?_
                      rotate_left
                      · intro w'
                        go_simp
                        with_reducible rfl
                      rotate_left
                      · simp only [Act.put, List.setIfInBounds_toArray, List.set_cons_zero, List.set_cons_succ, i64_w, i32_w]
                        rfl
                      refine pure_ (i := 6) (N := some 32) (v := ?_) (a' := ?_) #[true, true, true, false, false, true, true, false, false, false] rfl rfl (any_of HT_.out (by kernel_rfl)) (fun _ _ _ h => h) (Or.inl ⟨by rfl, ?_⟩) ?_ ?_
                      rotate_left
                      · intro w'
                        go_simp
                        with_reducible rfl
                      rotate_left
                      · simp only [Act.put, List.setIfInBounds_toArray, List.set_cons_zero, List.set_cons_succ, i64_w, i32_w]
                        rfl
                      refine pure_ (i := 7) (N := some 33) (v := ?_) (a' := ?_) #[true, true, true, false, false, true, true, true, false, false] rfl rfl (any_of HT_.out (by kernel_rfl)) (fun _ _ _ h => h) (Or.inl ⟨by rfl, ?_⟩) ?_ ?_
                      rotate_left
                      · intro w'
                        go_simp
                        with_reducible rfl
                      rotate_left
                      · simp only [Act.put, List.setIfInBounds_toArray, List.set_cons_zero, List.set_cons_succ, i64_w, i32_w]
                        rfl
                      refine one_ (i := 3) (N := some 29) #[true, true, true, true, false, true, true, true, false, false] rfl rfl (one_of HT_.out (by kernel_rfl)) (by decide) (fun K hK => ?_)
                      refine value_ (w1 := ?_) (v := ?_) (by rfl) rfl ?_ ?_
                      rotate_left 2
                      · go_simp
                        constructor
                        · rfl
                        · rfl
                      refine hK.out _ _ trivial (fun hHeld => ?_)
                      clear hK K
                      refine norm_ (a' := ?_) ?_ ?_
                      rotate_left
                      · show Act.put _ (some 29) _ = _
                        simp only [Act.put, List.setIfInBounds_toArray, List.set_cons_zero, List.set_cons_succ, i64_w, i32_w]
                        rfl
                      refine one_ (i := 4) (N := some 30) #[true, true, true, true, true, true, true, true, false, false] rfl rfl (one_of HT_.out (by kernel_rfl)) (by decide) (fun K hK => ?_)
                      refine Kd.R_append_step (Kd.int .i64) (w0 := w) w.heap.size (by rfl) (.tmp 26) (.tmp 29) 35 3 (.int .i64 0) 8 rfl Tryd.underlying35 info3 rfl (by decide) (by omega) u4 x4_1 (wrap64 (t394)) [.int .i64 (wrap64 (t394))] (fun _ => True) (fun _ => False) rfl rfl ?aP (fun _ hk => hk.elim) ?aF ?aO ?aB ?aS ?aL ?_
                      (case aP => exact rfl)
                      (case aB => exact (by repeat (first | (with_reducible first | exact HB.out | apply below_alloc | apply pw_below_drewN | apply below_drew1) | exact HB.out)))
                      (case aF => exact (fun _ _ => trivial))
                      (case aO => exact (by (with_reducible repeat (first | apply Kd.R_alloc | apply Kd.R_drewN | apply Kd.R_drew)); exact HO_4.out))
                      (case aS => exact (below_size (by repeat (first | (with_reducible first | exact HB.out | apply below_alloc | apply pw_below_drewN | apply below_drew1) | exact HB.out))))
                      (case aL => have := LMc12.out; omega)
                      intro v398 w17 ho hb hg hat
                      rw [← Ny397.out] at ho
                      have n0_ := Aside0.mk (hb)
                      have n1_ := Aside0.mk (ho)
                      clear HB
                      clear HO_4
                      have HB := n0_
                      have HO399 := n1_
                      clear n0_ n1_
                      clear ho hb hg hat
                      refine hK.out _ _ trivial (fun hHeld => ?_)
                      clear hK K
                      refine norm_ (a' := ?_) ?_ ?_
                      rotate_left
                      · show Act.put _ (some 30) _ = _
                        simp only [Act.put, List.setIfInBounds_toArray, List.set_cons_zero, List.set_cons_succ, i64_w, i32_w]
                        rfl
                      refine pure_ (i := 8) (N := some 4) (v := ?_) (a' := ?_) #[true, true, true, true, true, true, true, true, true, false] rfl rfl (any_of HT_.out (by kernel_rfl)) (fun _ _ _ h => h) (Or.inl ⟨by rfl, ?_⟩) ?_ ?_
                      rotate_left
                      · intro w'
                        go_simp
                        with_reducible rfl
                      rotate_left
                      · simp only [Act.put, List.setIfInBounds_toArray, List.set_cons_zero, List.set_cons_succ, i64_w, i32_w]
                        rfl
                      refine pure_ (i := 9) (N := some 0) (v := ?_) (a' := ?_) #[true, true, true, true, true, true, true, true, true, true] rfl rfl (any_of HT_.out (by kernel_rfl)) (fun _ _ _ h => h) (Or.inl ⟨by rfl, ?_⟩) ?_ ?_
                      rotate_left
                      · intro w'
                        go_simp
                        with_reducible rfl
                      rotate_left
                      · simp only [Act.put, List.setIfInBounds_toArray, List.set_cons_zero, List.set_cons_succ, i64_w, i32_w]
                        rfl
                      refine done_ (done_of HT_.out (by kernel_rfl)) ?_
                      try go_wp2
                      go_roundg k1
                      case measure => have := HK1.out; omega
                      case rel => exact ⟨(x0_1.extract (t395 : Int).toNat x0_1.size), (y397), (by first | rfl | (simp; done) | (simp [*]; done)), H', ⟨by have := HK1.out; omega⟩, ⟨by (with_reducible repeat (first | apply Kd.R_alloc | apply Kd.R_drewN | apply Kd.R_drew)); exact HO399.out⟩, ⟨by repeat (first | (with_reducible first | exact HB.out | apply below_alloc | apply pw_below_drewN | apply below_drew1) | exact HB.out)⟩⟩
                    · rw [if_neg c14] at H
                      exact absurd H (by simp)
                  · rw [if_neg c13] at H
                    exact absurd H (by simp)
                · rw [if_neg c12] at H
                  exact absurd H (by simp)
              · replace c11 := Bool.eq_false_iff.mpr c11
                subst c11
                have H1 : (some (([] : List Int), false)) = some (r1, r2) := by rw [if_neg (show ¬ (false = true) by decide)] at H; exact H
                clear H
                have H := H1
                clear H1
                simp only [Option.some.injEq, Prod.mk.injEq] at H
                obtain ⟨rfl, rfl⟩ := H
                go_wp2_with (first | ((with_reducible refine gate_callee (f := 79) rfl ?_); refine goesL_ (some 15) rfl rfl Tryd.func79 (by kernel_rfl) rfl #[.string x0_1] rfl (by (try simp only [List.map_toArray, List.map_cons, List.map_nil]); first | done | rfl | (simp only [List.length_drop, List.length_take]; rfl)) ?_; (with_reducible refine (utf8_DecodeRuneInString.calls x0_1 t394 t395 _ ?side1 A7.out).mono ?_); (case side1 => exact GT1.below (HG.out) (by repeat (first | (with_reducible first | exact HB.out | apply below_alloc | apply pw_below_drewN | apply below_drew1) | exact HB.out))); rintro e w18 ⟨rfl, hb⟩; refine ⟨_, rfl, ?_⟩; have n0_ := Aside0.mk (Kd.R_below (by (with_reducible repeat (first | apply Kd.R_alloc | apply Kd.R_drewN | apply Kd.R_drew)); exact HO_4.out) hb); have n1_ := Aside0.mk (below_step (by repeat (first | (with_reducible first | exact HB.out | apply below_alloc | apply pw_below_drewN | apply below_drew1) | exact HB.out)) hb); clear HO_4; clear HB; have HO_4 := n0_; have HB := n1_; clear n0_ n1_; (try clear hb); (try clear hb2); (try clear hk); (try clear hi)) | (go_at_call 95; (with_reducible refine (repertoire_Has.calls k1 (wrap64 (t394)) false _ A10.out).mono ?_); rintro e w' ⟨rfl, ⟨nd, rfl⟩⟩))
                go_ret2
                exact ⟨_, by first | rfl | (simp [errW_none, errW_some] <;> rfl) | (simp [*, errW_none, errW_some] <;> rfl), by first | exact Kd.R_nil _ _ _ _ _ | exact Kd.N_nil _ _ _ _ _ | exact Kd.V_nil _ _ _ _ _ | exact Kd.Q_nil _ _ _ _ _ | exact Kd.S_nil _ _ _ _ _, by repeat (first | (with_reducible first | exact HB.out | apply below_alloc | apply pw_below_drewN | apply below_drew1) | exact HB.out)⟩
          · rw [if_neg c6] at H
            have c6b0 : decide (0 < (x0_1.size : Int)) = false := decide_eq_false c6
            have c6b1 : decide (0 < x0_1.size) = false := decide_eq_false (by omega)
            clear c6
            simp only [Option.some.injEq, Prod.mk.injEq] at H
            obtain ⟨rfl, rfl⟩ := H
            go_wp2
            go_ret2
            exact ⟨_, by first | rfl | (simp [errW_none, errW_some] <;> rfl) | (simp [*, errW_none, errW_some] <;> rfl), by (with_reducible repeat (first | apply Kd.R_alloc | apply Kd.R_drewN | apply Kd.R_drew)); exact HO_4.out, by repeat (first | (with_reducible first | exact HB.out | apply below_alloc | apply pw_below_drewN | apply below_drew1) | exact HB.out)⟩
    · rw [if_neg c3] at H
      exact absurd H (by simp)
  · rw [if_neg c2] at H
    exact absurd H (by simp)
def normal_mark.f (k : Nat) (a0 : Int) : Option (Bool) := (repertoire_Class.f k a0).bind fun bt423 => (some (bt423.2 == 2))
set_option maxHeartbeats 8000000 in
set_option maxRecDepth 100000 in
theorem normal_mark.calls (k : Nat) (a0 : Int) (r : Bool) (w : World) (h : normal_mark.f k a0 = some r) :
    Calls Tryd.prog 67 #[.int .i64 a0] w fun e w' => e = .returned (.bool r) ∧ Drawn0 w w' := by
  have H : ((repertoire_Class.f k a0).bind fun bt423 => (some (bt423.2 == 2))) = some r := h
  clear h
  replace H := Option.bind_eq_some_iff.mp H
  obtain ⟨⟨t423, t424⟩, A20, H⟩ := H
  replace H : (some (t424 == 2)) = some r := H
  have A2 := Aside0.mk A20
  clear A20
  obtain rfl := Option.some.inj H
  go_enter Tryd.func67, Tryd.ntmps67
  go_wp2_with (first | ((with_reducible refine gate_callee (f := 90) rfl ?_); refine goesL_ (some 7) rfl rfl Tryd.func90 (by kernel_rfl) rfl #[.int .i64 a0] rfl (by (try simp only [List.map_toArray, List.map_cons, List.map_nil]); first | done | rfl | (simp only [List.length_drop, List.length_take]; rfl)) ?_; (with_reducible refine (repertoire_Class.calls k a0 t423 t424 _ A2.out).mono ?_); rintro e w' ⟨rfl, ⟨nd, rfl⟩⟩; refine ⟨_, rfl, ?_⟩))
  go_ret
  exact ⟨by first | rfl | (simp; done) | (simp [*]; done), by repeat (first | exact Drawn0.refl _ | apply Drawn0.step)⟩
def normal_place.f (a0 : ByteArray) (a1 : Int) : Option (Int) := (strings_IndexRune.f a0 (wrap32 (a1))).bind fun t425 => (if t425 < 0 then (some (-1)) else (if 0 ≤ t425 then (if t425 ≤ (a0.size : Int) then ((utf8_RuneCountInString.f (a0.extract 0 (t425 : Int).toNat)).bind fun t426 => (some t426)) else (none)) else (none)))
set_option maxHeartbeats 8000000 in
set_option maxRecDepth 100000 in
theorem normal_place.calls (a0 : ByteArray) (a1 : Int) (r : Int) (w : World) (h : normal_place.f a0 a1 = some r) :
    Calls Tryd.prog 92 #[.string a0, .int .i64 a1] w fun e w' => e = .returned (.int .i64 r) ∧ Below w.heap.size w w' := by
  have HB := Aside0.mk (Below.refl w.heap.size w)
  have H : ((strings_IndexRune.f a0 (wrap32 (a1))).bind fun t425 => (if t425 < 0 then (some (-1)) else (if 0 ≤ t425 then (if t425 ≤ (a0.size : Int) then ((utf8_RuneCountInString.f (a0.extract 0 (t425 : Int).toNat)).bind fun t426 => (some t426)) else (none)) else (none)))) = some r := h
  clear h
  replace H := Option.bind_eq_some_iff.mp H
  obtain ⟨t425, A30, H⟩ := H
  replace H : (if t425 < 0 then (some (-1)) else (if 0 ≤ t425 then (if t425 ≤ (a0.size : Int) then ((utf8_RuneCountInString.f (a0.extract 0 (t425 : Int).toNat)).bind fun t426 => (some t426)) else (none)) else (none))) = some r := H
  have A3 := Aside0.mk A30
  clear A30
  by_cases c4 : t425 < 0
  · rw [if_pos c4] at H
    have c4b0 : decide (t425 < 0) = true := decide_eq_true c4
    clear c4
    obtain rfl := Option.some.inj H
    go_enter Tryd.func92, Tryd.ntmps92
    go_wp2_with (first | ((with_reducible refine gate_callee (f := 106) rfl ?_); refine goesL_ (some 9) rfl rfl Tryd.func106 (by kernel_rfl) rfl #[.string a0, .int .i32 (wrap32 (a1))] rfl (by (try simp only [List.map_toArray, List.map_cons, List.map_nil]); first | done | rfl | (simp only [List.length_drop, List.length_take]; rfl)) ?_; (with_reducible refine (strings_IndexRune.calls a0 (wrap32 (a1)) t425 _ A3.out).mono ?_); rintro e w' ⟨rfl, ⟨nd, rfl⟩⟩; refine ⟨_, rfl, ?_⟩))
    go_ret
    exact ⟨by first | rfl | (simp [errW_none, errW_some] <;> rfl) | (simp [*, errW_none, errW_some] <;> rfl), by repeat (first | (with_reducible first | exact HB.out | apply below_alloc | apply pw_below_drewN | apply below_drew1) | exact HB.out)⟩
  · rw [if_neg c4] at H
    have c4b0 : decide (t425 < 0) = false := decide_eq_false c4
    clear c4
    by_cases c5 : 0 ≤ t425
    · rw [if_pos c5] at H
      have c5b0 := eq_true c5
      have c5b1 : decide (0 ≤ t425) = true := decide_eq_true c5
      clear c5
      by_cases c6 : t425 ≤ (a0.size : Int)
      · rw [if_pos c6] at H
        have c6b0 := eq_true c6
        have c6b1 : decide (t425 ≤ (a0.size : Int)) = true := decide_eq_true c6
        clear c6
        replace H := Option.bind_eq_some_iff.mp H
        obtain ⟨t426, A70, H⟩ := H
        replace H : (some t426) = some r := H
        have A7 := Aside0.mk A70
        clear A70
        obtain rfl := Option.some.inj H
        go_enter Tryd.func92, Tryd.ntmps92
        go_wp2_with (first | ((with_reducible refine gate_callee (f := 106) rfl ?_); refine goesL_ (some 9) rfl rfl Tryd.func106 (by kernel_rfl) rfl #[.string a0, .int .i32 (wrap32 (a1))] rfl (by (try simp only [List.map_toArray, List.map_cons, List.map_nil]); first | done | rfl | (simp only [List.length_drop, List.length_take]; rfl)) ?_; (with_reducible refine (strings_IndexRune.calls a0 (wrap32 (a1)) t425 _ A3.out).mono ?_); rintro e w' ⟨rfl, ⟨nd, rfl⟩⟩; refine ⟨_, rfl, ?_⟩) | ((with_reducible refine gate_callee (f := 107) rfl ?_); refine goesL_ (some 15) rfl rfl Tryd.func107 (by kernel_rfl) rfl #[.string (a0.extract 0 (t425 : Int).toNat)] rfl (by (try simp only [List.map_toArray, List.map_cons, List.map_nil]); first | done | rfl | (simp only [List.length_drop, List.length_take]; rfl)) ?_; (with_reducible refine (utf8_RuneCountInString.calls (a0.extract 0 (t425 : Int).toNat) t426 _ A7.out).mono ?_); rintro e w8 ⟨rfl, hb⟩; refine ⟨_, rfl, ?_⟩; have n0_ := Aside0.mk (below_step (by repeat (first | (with_reducible first | exact HB.out | apply below_alloc | apply pw_below_drewN | apply below_drew1) | exact HB.out)) hb); clear HB; have HB := n0_; clear n0_; (try clear hb); (try clear hb2); (try clear hk); (try clear hi)))
        go_ret
        exact ⟨by first | rfl | (simp [errW_none, errW_some] <;> rfl) | (simp [*, errW_none, errW_some] <;> rfl), by repeat (first | (with_reducible first | exact HB.out | apply below_alloc | apply pw_below_drewN | apply below_drew1) | exact HB.out)⟩
      · rw [if_neg c6] at H
        exact absurd H (by simp)
    · rw [if_neg c5] at H
      exact absurd H (by simp)
end Go.Proofs.YthcpdhniakpbaaaDoor.X
end

section
namespace Go.Proofs.YthcpdhniakpbaaaDoor.X
set_option linter.unusedVariables false
set_option linter.unusedSimpArgs false
open Go.RowKit Go.Proofs.YthcpdhniakpbaaaDoorW.PrintWords
theorem enc_eq {c : Int} (h : (0 ≤ c ∧ c ≤ 55295) ∨ (57344 ≤ c ∧ c ≤ 65535)) : (Utf8.encode c).data.toList = encC c := by
  have hv : Utf8.valid c = true := by
    unfold Utf8.valid
    rcases h with h | h
    · simp; omega
    · simp; omega
  unfold Utf8.encode
  simp only [hv, if_true]
  by_cases c1 : c < 128
  · rw [if_pos (by omega), encC_one c1]
  · rw [if_neg (by omega)]
    by_cases c2 : c < 2048
    · rw [if_pos (by omega), encC_two (by omega) c2]
      have e1 : (192 + c / 64).toNat = 192 + c.toNat / 64 := by omega
      have e2 : (128 + c % 64).toNat = 128 + c.toNat % 64 := by omega
      rw [e1, e2]
    · rw [if_neg (by omega), if_pos (by omega), encC_three (by omega)]
      have e1 : (224 + c / 4096).toNat = 224 + c.toNat / 4096 := by omega
      have e2 : (128 + c / 64 % 64).toNat = 128 + c.toNat / 64 % 64 := by omega
      have e3 : (128 + c % 64).toNat = 128 + c.toNat % 64 := by omega
      rw [e1, e2, e3]
theorem indexRune_eq {B : ByteArray} {xs : List Int} (he : B.data.toList = encL xs) (hs : ∀ x ∈ xs, 0 ≤ x ∧ x < 2048) (hn : B.size ≤ 4294967000)
    (hc : ∀ c : UInt8, 128 ≤ c.toNat ∧ c.toNat < 192 → calm B.data.toList c = true) {c : Int} (h0 : 0 ≤ c) (h1 : c ≤ 65535) (hne : c ≠ 65533) :
    strings_IndexRune.f B c = some (placeB xs c) := by
  unfold strings_IndexRune.f
  by_cases c1 : c < 128
  · rw [if_pos ⟨h0, c1⟩, ← index_enc xs c hs ⟨h0, by omega⟩, ← he, encC_one c1, Lib.index_one]
  · rw [if_neg (by omega)]
    by_cases c2 : 55296 ≤ c ∧ c ≤ 57343
    · rw [if_pos (.inl c2)]
      have : c ∉ xs := fun hm => by have := hs c hm; omega
      simp [placeB, this]
    · have hv : (0 ≤ c ∧ c ≤ 55295) ∨ (57344 ≤ c ∧ c ≤ 65535) := by omega
      have hsz : (Utf8.encode c).size = (encC c).length := by rw [← enc_eq hv, len_of]
      rw [if_neg (by omega), if_neg hne, if_pos ⟨hn, by rw [enc_eq hv, hsz]; exact hc _ (encC_last c (by omega))⟩, enc_eq hv, he, index_enc xs c hs ⟨h0, by omega⟩]
theorem contains_eq {B : ByteArray} {xs : List Int} (he : B.data.toList = encL xs) (hs : ∀ x ∈ xs, 0 ≤ x ∧ x < 2048) (hn : B.size ≤ 4294967000)
    (hc : ∀ c : UInt8, 128 ≤ c.toNat ∧ c.toNat < 192 → calm B.data.toList c = true) {c : Int} (h0 : 0 ≤ c) (h1 : c ≤ 65535) (hne : c ≠ 65533) :
    strings_ContainsRune.f B (wrap32 c) = some (decide (c ∈ xs)) := by
  have hw : wrap32 c = c := by unfold wrap32; omega
  unfold strings_ContainsRune.f
  rw [hw, indexRune_eq he hs hn hc h0 h1 hne]
  simp only [Option.bind_some, Option.some.injEq, ge_iff_le]
  exact decide_eq_decide.2 (placeB_ge xs c)
theorem from_eq (a lo hi : Int) : repertoire_from.f a lo hi = some (decide (lo ≤ a ∧ a ≤ hi)) := by
  unfold repertoire_from.f
  by_cases h : a ≥ lo
  · rw [if_pos h]; simp [h]
  · rw [if_neg h]; simp; omega
theorem letter_eq {c : Int} (h0 : 0 ≤ c) (h1 : c ≤ 65535) (hne : c ≠ 65533) (k : Nat) : repertoire_letter.f (k + 3) c = some (letterS c) := by
  have cl := contains_eq (c := c) latin_enc latin_small (by decide +kernel) latin_calm h0 h1 hne
  have cg := contains_eq (c := c) greek_enc greek_small (by decide +kernel) greek_calm h0 h1 hne
  have cc := contains_eq (c := c) cyr_enc cyr_small (by decide +kernel) cyr_calm h0 h1 hne
  unfold latinB at cl
  unfold greekB at cg
  unfold cyrB at cc
  have j1 : ∀ b : Bool, ∀ k, repertoire_letter.j1 (k + 1) c b = some (if b = true then 2 else if (1040 ≤ c ∧ c ≤ 1103) ∨ c ∈ cyrL then 3 else 0) := fun b k => by
    rw [repertoire_letter.j1]
    cases b with
    | true => simp
    | false =>
      rw [from_eq, cc]
      by_cases h2 : 1040 ≤ c ∧ c ≤ 1103 <;> by_cases h3 : c ∈ cyrL <;> simp [h2, h3]
  have j0 : ∀ b : Bool, ∀ k, repertoire_letter.j0 (k + 2) c b = some (if b = true then 1 else if (c ≠ 930 ∧ 913 ≤ c ∧ c ≤ 937) ∨ (945 ≤ c ∧ c ≤ 969) ∨ c ∈ greekL then 2
      else if (1040 ≤ c ∧ c ≤ 1103) ∨ c ∈ cyrL then 3 else 0) := fun b k => by
    rw [repertoire_letter.j0]
    cases b with
    | true => simp
    | false =>
      rw [from_eq, from_eq, cg]
      simp only [Option.bind_some, j1]
      by_cases h1 : c = 930 <;> by_cases h2 : 945 ≤ c ∧ c ≤ 969 <;> by_cases h3 : c ∈ greekL <;> by_cases h4 : 913 ≤ c ∧ c ≤ 937 <;> simp [h1, h2, h3, h4]
  unfold repertoire_letter.f letterS
  rw [from_eq, from_eq, from_eq, cl]
  simp only [Option.bind_some, j0]
  by_cases a1 : 65 ≤ c ∧ c ≤ 90 <;> by_cases a2 : 97 ≤ c ∧ c ≤ 122 <;> by_cases a3 : c = 383 <;> by_cases a4 : 64257 ≤ c ∧ c ≤ 64258 <;> by_cases a5 : c ∈ latinL <;> simp [a1, a2, a3, a4, a5]
theorem mark_eq (c : Int) (k : Nat) : repertoire_mark.f (k + 1) c = some (markS c) := by
  unfold repertoire_mark.f markS
  rw [repertoire_mark.j0, repertoire_mark.j0, from_eq]
  by_cases a1 : c = 773 <;> by_cases a2 : c = 777 <;> by_cases a3 : c = 803 <;> by_cases a4 : c = 807 <;> by_cases a5 : c = 808 <;> simp [a1, a2, a3, a4, a5]
theorem classN_eq {c : Int} (hne : c ≠ 65533) (k : Nat) : repertoire_Class.j0 (k + 7) c = some (classN c) := by
  have j3 : ∀ b : Bool, ∀ k, repertoire_Class.j3 (k + 2) c b = some (if b = true then (0, 3) else if markS c = true then (0, 2) else if c ≤ 126 then (0, 5) else (0, 0)) := fun b k => by
    rw [repertoire_Class.j3]
    cases b with
    | true => simp
    | false =>
      rw [mark_eq]
      simp only [Option.bind_some]
      by_cases h : markS c = true <;> by_cases h2 : c ≤ 126 <;> simp [h, h2]
  have j2 : ∀ b : Bool, ∀ k, repertoire_Class.j2 (k + 3) c b = some (if b = true then (0, 4) else if (48 ≤ c ∧ c ≤ 57) ∨ c = 178 ∨ c = 179 ∨ c = 185 then (0, 3) else if markS c = true then (0, 2) else if c ≤ 126 then (0, 5) else (0, 0)) := fun b k => by
    rw [repertoire_Class.j2]
    cases b with
    | true => simp
    | false =>
      rw [from_eq]
      simp only [Option.bind_some, j3]
      by_cases a1 : 48 ≤ c ∧ c ≤ 57 <;> by_cases a2 : c = 178 <;> by_cases a3 : c = 179 <;> by_cases a4 : c = 185 <;> simp [a1, a2, a3, a4]
  rw [repertoire_Class.j0]
  unfold classN
  by_cases h0 : c < 32
  · rw [if_pos h0, if_pos (.inl h0), repertoire_Class.j1]
    simp
  · rw [if_neg h0, repertoire_Class.j1]
    by_cases h1 : c > 65535
    · rw [if_pos (by simpa using h1), if_pos (.inr h1)]
    · rw [if_neg (by simpa using h1), if_neg (show ¬ (c < 32 ∨ 65535 < c) by omega), letter_eq (by omega) (by omega) hne]
      simp only [Option.bind_some, j2]
      by_cases hl : letterS c = 0
      · rw [if_pos hl, if_neg (show ¬ (letterS c ≠ 0) from fun h => h hl)]
        by_cases a1 : c = 32
        · rw [if_pos a1, if_pos trivial, if_pos (show c = 32 ∨ c = 160 from .inl a1)]
        · rw [if_neg a1]
          by_cases a2 : c = 160
          · rw [if_pos (show (c == 160) = true by simpa using a2), if_pos (show c = 32 ∨ c = 160 from .inr a2)]
          · rw [if_neg (show ¬ (c == 160) = true by simpa using a2), if_neg (show ¬ (c = 32 ∨ c = 160) by omega)]
      · rw [if_neg hl, if_pos hl]
theorem class_eq {c : Int} (hne : c ≠ 65533) (k : Nat) : repertoire_Class.f (k + 7) c = some (classS c) := by
  unfold repertoire_Class.f classS narrow
  rw [from_eq]
  simp only [Option.bind_some]
  by_cases h : 65281 ≤ c ∧ c ≤ 65374
  · rw [if_pos (by simpa using h), if_pos h, show wrap64 (c - 65248) = c - 65248 by unfold wrap64; omega, classN_eq (by omega)]
  · rw [if_neg (by simpa using h), if_neg h, classN_eq hne]
theorem has_eq {c : Int} (hne : c ≠ 65533) (k : Nat) : repertoire_Has.f (k + 7) c = some (hasS c) := by
  unfold repertoire_Has.f hasS
  rw [class_eq hne]
  rfl
theorem isMark_eq {c : Int} (hne : c ≠ 65533) (k : Nat) : normal_mark.f (k + 7) c = some ((classS c).2 == 2) := by
  unfold normal_mark.f
  rw [class_eq hne]
  rfl
end Go.Proofs.YthcpdhniakpbaaaDoor.X
end

section
namespace Go.Proofs.YthcpdhniakpbaaaDoor.X
set_option linter.unusedVariables false
set_option linter.unusedSimpArgs false
open Go.RowKit Go.Proofs.YthcpdhniakpbaaaDoorW.PrintWords
theorem decGo_more (p : Int → Bool) : ∀ (f : Nat) (l : List UInt8), l.length < f → decGo p f l = decGo p (l.length + 1) l
  | 0, l, h => by omega
  | f + 1, l, h => by
    rw [decGo, decGo]
    by_cases e : l = []
    · rw [if_pos e, if_pos e]
    · rw [if_neg e, if_neg e]
      cases hc : charS l with
      | none => rfl
      | some q =>
        obtain ⟨c, n⟩ := q
        have hp := charS_pos hc
        simp only
        have h1 := decGo_more p f (l.drop n) (by rw [List.length_drop]; omega)
        have h2 := decGo_more p l.length (l.drop n) (by rw [List.length_drop]; omega)
        rw [h1, h2]
theorem decS_nil (p : Int → Bool) : decS p [] = some [] := by simp [decS, decGo]
theorem decS_cons (p : Int → Bool) {l : List UInt8} (e : l ≠ []) : decS p l = match charS l with | none => none | some (c, n) => if p c then (decS p (l.drop n)).map (c :: ·) else none := by
  unfold decS
  rw [decGo, if_neg e]
  cases hc : charS l with
  | none => rfl
  | some q =>
    obtain ⟨c, n⟩ := q
    have hp := charS_pos hc
    simp only
    rw [decGo_more p l.length (l.drop n) (by rw [List.length_drop]; omega)]
theorem decN_lt (n b0 b1 b2 b3 : Nat) (h : b0 < 256) : (Lib.decodeN n b0 b1 b2 b3).1 < 2097152 := by
  unfold Lib.decodeN
  repeat' split
  all_goals simp only <;> omega
theorem decode_lt (s : ByteArray) : (Utf8.decode s 0).1 < 2097152 := by rw [Lib.decode_at]; exact decN_lt _ _ _ _ _ (s.get! 0).toNat_lt
def decR (acc : List Int) (l : List UInt8) : List Int × Bool := match decS hasS l with | some cs => (acc ++ cs, true) | none => ([], false)
theorem hasS_65533 : hasS 65533 = false := by decide +kernel
theorem decode_loop : ∀ (n : Nat) (s : ByteArray) (acc : List Int) (k : Nat), s.size ≤ n → n + 8 ≤ k → acc.length + s.size ≤ 8796093022208 → repertoire_Decode.l0 k s acc = some (decR acc s.data.toList)
  | n, s, acc, 0, hn, hk, ha => by omega
  | n, s, acc, k + 1, hn, hk, ha => by
    rw [repertoire_Decode.l0]
    have hl : s.data.toList.length = s.size := Array.length_toList
    by_cases e : s.size = 0
    · rw [if_neg (by omega)]
      have : s.data.toList = [] := List.length_eq_zero_iff.1 (by omega)
      rw [this]
      simp [decR, decS_nil]
    · rw [if_pos (by omega)]
      have hne : s.data.toList ≠ [] := fun h => e (by rw [← hl, h]; rfl)
      have hlt := decode_lt s
      have hd : utf8_DecodeRuneInString.f s = some (((Utf8.decode s 0).1 : Int), ((Utf8.decode s 0).2 : Int)) := by
        unfold utf8_DecodeRuneInString.f Lib.decodeGo
        rw [if_neg e]
      rw [hd]
      simp only [Option.bind_some]
      have hw : wrap64 ((Utf8.decode s 0).1 : Int) = ((Utf8.decode s 0).1 : Int) := by unfold wrap64; omega
      unfold decR
      rw [decS_cons hasS hne]
      obtain ⟨k, rfl⟩ : ∃ m, k = m + 7 := ⟨k - 7, by omega⟩
      cases hc : charS s.data.toList with
      | none =>
        simp only
        rcases decode_none s (by omega) hc with h | h
        · rw [if_pos (by omega)]
        · rw [if_neg (by omega), hw, has_eq (by omega)]
          have : hasS ((Utf8.decode s 0).1 : Int) = false := by
            cases hh : hasS ((Utf8.decode s 0).1 : Int) with
            | false => rfl
            | true => have := hasS_range hh; omega
          rw [this]
          simp
      | some q =>
        obtain ⟨c, m⟩ := q
        have hp := charS_pos hc
        simp only
        rcases decode_some s hc with ⟨h1, h2⟩ | ⟨h1, h2⟩
        · rw [if_pos (by omega)]
          have : hasS c = false := by
            cases hh : hasS c with
            | false => rfl
            | true => have := hasS_range hh; omega
          rw [this]
          simp
        · have hc0 := (charS_back hc).1.1
          rw [h2] at hw ⊢
          simp only at hw ⊢
          rw [show ((c.toNat : Nat) : Int) = c by omega] at hw ⊢
          by_cases h3 : c = 65533
          · rw [if_pos h3, h3, hasS_65533]
            simp
          · rw [if_neg h3, hw, has_eq h3]
            simp only [Option.bind_some]
            cases hh : hasS c with
            | false => simp
            | true =>
              rw [if_pos rfl, if_pos (by omega), if_pos (by omega), if_pos (by omega)]
              have hx : (s.extract ((m : Int).toNat) s.size).data.toList = s.data.toList.drop m := by
                rw [Lib.extract_to_end]
                simp
              have hsz : (s.extract ((m : Int).toNat) s.size).size = s.size - m := by
                have : (s.extract ((m : Int).toNat) s.size).data.toList.length = (s.extract ((m : Int).toNat) s.size).size := Array.length_toList
                rw [← this, hx, List.length_drop, hl]
              rw [decode_loop (n - 1) _ _ (k + 7) (by rw [hsz]; omega) (by omega) (by rw [hsz, List.length_append]; simp; omega)]
              rw [hx]
              unfold decR
              cases decS hasS (s.data.toList.drop m) with
              | none => simp
              | some cs => simp
  termination_by _ _ _ k => k
theorem decode_eq (s : ByteArray) (h : s.size ≤ 8796093022208) {k : Nat} (hk : s.size + 8 ≤ k) : repertoire_Decode.f k s = some (decR [] s.data.toList) := by
  unfold repertoire_Decode.f
  rw [if_pos (by omega), if_pos (by omega)]
  exact decode_loop s.size s [] k (Nat.le_refl _) hk (by simpa using h)
end Go.Proofs.YthcpdhniakpbaaaDoor.X
end

section
namespace Go.Proofs.YthcpdhniakpbaaaDoor.X
open Go.RowKit Go.Proofs.YthcpdhniakpbaaaDoorW.PrintWords Go.Proofs.YthcpdhniakpbaaaDoorW.PrintLast Go.Proofs.YthcpdhniakpbaaaDoorW.PrintMore
set_option linter.unusedVariables false
set_option linter.unusedSimpArgs false
theorem results_cell_new {fn : Func} {p : Tmp} {ty : TypeId} (h : fn.results = #[.cell p ty]) (tmps : Array Value) (P : Program) (w : World) (c : Array Value) {n : Nat} {e : TypeId} (hp : tmps.getD p undef = .pointer (some ⟨w.heap.size, 0, none⟩)) (hu : P.underlying ty = some (.array n e)) (hi : (P.info? ty).map (·.size) = some c.size) :
    (results fn tmps).run P (w.alloc (.cells c ty)) = .ok (.agg c) (w.alloc (.cells c ty)) := by
  simp only [results, h]
  have hp' : tmps[p]?.getD undef = .pointer (some ⟨w.heap.size, 0, none⟩) := by simpa using hp
  simp [Sem.run_bind, Result.andThen, hp', asAddr, run_loadVar_new w ty c n e hu hi]
theorem store_new {P : Program} {ops : Array Oper} {rest : List Oper} {o : Oper} {a : Act} {Q : Exit → Act → World → Prop} {w : World} (hN : o.dst = none) (hgd : o.guard = none) {t : TypeId} {p x : Operand} (ho : o.op = .store t p x) (c c' : Array Value)
    (haddr : a.eval p = .pointer (some ⟨w.heap.size, 0, none⟩)) (hx : a.eval x = .agg c') (hi : (P.info? t).map (·.size) = some c'.size) (hs : c.size = c'.size) (h1 : c'.all (·.oneCell') = true)
    (h : wpList P ops Q rest a (w.alloc (.cells c' t))) : wpList P ops Q (o :: rest) a (w.alloc (.cells c t)) := by
  refine wpList_plain hgd fun K hK => ?_
  have hrun := run_storeAt_new w t c c' hi hs h1
  unfold Oper.wp execOp
  simp only [ho, haddr, hx, Sem.run_bind, Sem.run_pure, Result.andThen_ok, hrun]
  show K (a.put o.dst undef) _
  rw [hN]
  exact hK a _ h
def nL0 : ByteArray := ⟨#[195, 128, 195, 136, 195, 140, 195, 146, 195, 153, 195, 160, 195, 168, 195, 172, 195, 178, 195, 185]⟩
def nL0c : List Int := [192, 200, 204, 210, 217, 224, 232, 236, 242, 249]
def nB0 : ByteArray := ⟨#[65, 69, 73, 79, 85, 97, 101, 105, 111, 117]⟩
def nB0c : List Int := [65, 69, 73, 79, 85, 97, 101, 105, 111, 117]
def nL1 : ByteArray := ⟨([195, 129, 195, 137, 195, 141, 195, 147, 195, 154, 195, 157, 195, 161, 195, 169, 195, 173, 195, 179, 195, 186, 195, 189, 196, 134, 196, 135, 196, 185, 196, 186, 197, 131, 197, 132, 197, 148].append [197, 149, 197, 154, 197, 155, 197, 185, 197, 186, 206, 134, 206, 136, 206, 137, 206, 138, 206, 140, 206, 142, 206, 143, 206, 172, 206, 173, 206, 174, 206, 175, 207, 140, 207, 141, 207, 142]).toArray⟩
def nL1c : List Int := [193, 201, 205, 211, 218, 221, 225, 233, 237, 243, 250, 253, 262, 263, 313, 314, 323, 324, 340, 341, 346, 347, 377, 378, 902, 904, 905, 906, 908, 910, 911, 940, 941, 942, 943, 972, 973, 974]
def nB1 : ByteArray := ⟨#[65, 69, 73, 79, 85, 89, 97, 101, 105, 111, 117, 121, 67, 99, 76, 108, 78, 110, 82, 114, 83, 115, 90, 122, 206, 145, 206, 149, 206, 151, 206, 153, 206, 159, 206, 165, 206, 169, 206, 177, 206, 181, 206, 183, 206, 185, 206, 191, 207, 133, 207, 137]⟩
def nB1c : List Int := [65, 69, 73, 79, 85, 89, 97, 101, 105, 111, 117, 121, 67, 99, 76, 108, 78, 110, 82, 114, 83, 115, 90, 122, 913, 917, 919, 921, 927, 933, 937, 945, 949, 951, 953, 959, 965, 969]
def nL2 : ByteArray := ⟨#[195, 130, 195, 138, 195, 142, 195, 148, 195, 155, 195, 162, 195, 170, 195, 174, 195, 180, 195, 187, 196, 136, 196, 137, 196, 156, 196, 157, 196, 164, 196, 165, 196, 180, 196, 181, 197, 156, 197, 157, 197, 180, 197, 181, 197, 182, 197, 183]⟩
def nL2c : List Int := [194, 202, 206, 212, 219, 226, 234, 238, 244, 251, 264, 265, 284, 285, 292, 293, 308, 309, 348, 349, 372, 373, 374, 375]
def nB2 : ByteArray := ⟨#[65, 69, 73, 79, 85, 97, 101, 105, 111, 117, 67, 99, 71, 103, 72, 104, 74, 106, 83, 115, 87, 119, 89, 121]⟩
def nB2c : List Int := [65, 69, 73, 79, 85, 97, 101, 105, 111, 117, 67, 99, 71, 103, 72, 104, 74, 106, 83, 115, 87, 119, 89, 121]
def nL3 : ByteArray := ⟨#[195, 131, 195, 145, 195, 149, 195, 163, 195, 177, 195, 181, 196, 168, 196, 169, 197, 168, 197, 169]⟩
def nL3c : List Int := [195, 209, 213, 227, 241, 245, 296, 297, 360, 361]
def nB3 : ByteArray := ⟨#[65, 78, 79, 97, 110, 111, 73, 105, 85, 117]⟩
def nB3c : List Int := [65, 78, 79, 97, 110, 111, 73, 105, 85, 117]
def nL4 : ByteArray := ⟨#[196, 128, 196, 129, 196, 146, 196, 147, 196, 170, 196, 171, 197, 140, 197, 141, 197, 170, 197, 171]⟩
def nL4c : List Int := [256, 257, 274, 275, 298, 299, 332, 333, 362, 363]
def nB4 : ByteArray := ⟨#[65, 97, 69, 101, 73, 105, 79, 111, 85, 117]⟩
def nB4c : List Int := [65, 97, 69, 101, 73, 105, 79, 111, 85, 117]
def nL5 : ByteArray := ⟨#[196, 130, 196, 131, 196, 148, 196, 149, 196, 158, 196, 159, 196, 172, 196, 173, 197, 142, 197, 143, 197, 172, 197, 173, 208, 153, 208, 185, 208, 142, 209, 158]⟩
def nL5c : List Int := [258, 259, 276, 277, 286, 287, 300, 301, 334, 335, 364, 365, 1049, 1081, 1038, 1118]
def nB5 : ByteArray := ⟨#[65, 97, 69, 101, 71, 103, 73, 105, 79, 111, 85, 117, 208, 152, 208, 184, 208, 163, 209, 131]⟩
def nB5c : List Int := [65, 97, 69, 101, 71, 103, 73, 105, 79, 111, 85, 117, 1048, 1080, 1059, 1091]
def nL6 : ByteArray := ⟨#[196, 138, 196, 139, 196, 150, 196, 151, 196, 160, 196, 161, 196, 176, 197, 187, 197, 188]⟩
def nL6c : List Int := [266, 267, 278, 279, 288, 289, 304, 379, 380]
def nB6 : ByteArray := ⟨#[67, 99, 69, 101, 71, 103, 73, 90, 122]⟩
def nB6c : List Int := [67, 99, 69, 101, 71, 103, 73, 90, 122]
def nL7 : ByteArray := ⟨#[195, 132, 195, 139, 195, 143, 195, 150, 195, 156, 195, 164, 195, 171, 195, 175, 195, 182, 195, 188, 195, 191, 197, 184, 206, 170, 206, 171, 207, 138, 207, 139, 208, 129, 209, 145, 208, 135, 209, 151]⟩
def nL7c : List Int := [196, 203, 207, 214, 220, 228, 235, 239, 246, 252, 255, 376, 938, 939, 970, 971, 1025, 1105, 1031, 1111]
def nB7 : ByteArray := ⟨#[65, 69, 73, 79, 85, 97, 101, 105, 111, 117, 121, 89, 206, 153, 206, 165, 206, 185, 207, 133, 208, 149, 208, 181, 208, 134, 209, 150]⟩
def nB7c : List Int := [65, 69, 73, 79, 85, 97, 101, 105, 111, 117, 121, 89, 921, 933, 953, 965, 1045, 1077, 1030, 1110]
def nL8 : ByteArray := ⟨#[195, 133, 195, 165, 197, 174, 197, 175]⟩
def nL8c : List Int := [197, 229, 366, 367]
def nB8 : ByteArray := ⟨#[65, 97, 85, 117]⟩
def nB8c : List Int := [65, 97, 85, 117]
def nL9 : ByteArray := ⟨#[197, 144, 197, 145, 197, 176, 197, 177]⟩
def nL9c : List Int := [336, 337, 368, 369]
def nB9 : ByteArray := ⟨#[79, 111, 85, 117]⟩
def nB9c : List Int := [79, 111, 85, 117]
def nL10 : ByteArray := ⟨#[196, 140, 196, 141, 196, 142, 196, 143, 196, 154, 196, 155, 197, 135, 197, 136, 197, 152, 197, 153, 197, 160, 197, 161, 197, 164, 197, 165, 197, 189, 197, 190, 196, 189, 196, 190]⟩
def nL10c : List Int := [268, 269, 270, 271, 282, 283, 327, 328, 344, 345, 352, 353, 356, 357, 381, 382, 317, 318]
def nB10 : ByteArray := ⟨#[67, 99, 68, 100, 69, 101, 78, 110, 82, 114, 83, 115, 84, 116, 90, 122, 76, 108]⟩
def nB10c : List Int := [67, 99, 68, 100, 69, 101, 78, 110, 82, 114, 83, 115, 84, 116, 90, 122, 76, 108]
def nL11 : ByteArray := ⟨#[195, 135, 195, 167, 196, 162, 196, 163, 196, 182, 196, 183, 196, 187, 196, 188, 197, 133, 197, 134, 197, 150, 197, 151, 197, 158, 197, 159, 197, 162, 197, 163]⟩
def nL11c : List Int := [199, 231, 290, 291, 310, 311, 315, 316, 325, 326, 342, 343, 350, 351, 354, 355]
def nB11 : ByteArray := ⟨#[67, 99, 71, 103, 75, 107, 76, 108, 78, 110, 82, 114, 83, 115, 84, 116]⟩
def nB11c : List Int := [67, 99, 71, 103, 75, 107, 76, 108, 78, 110, 82, 114, 83, 115, 84, 116]
def nL12 : ByteArray := ⟨#[196, 132, 196, 133, 196, 152, 196, 153, 196, 174, 196, 175, 197, 178, 197, 179]⟩
def nL12c : List Int := [260, 261, 280, 281, 302, 303, 370, 371]
def nB12 : ByteArray := ⟨#[65, 97, 69, 101, 73, 105, 85, 117]⟩
def nB12c : List Int := [65, 97, 69, 101, 73, 105, 85, 117]
def rowsC : Array Value := #[.int .i64 768, .string nL0, .string nB0, .int .i64 769, .string nL1, .string nB1, .int .i64 770, .string nL2, .string nB2, .int .i64 771, .string nL3, .string nB3, .int .i64 772, .string nL4, .string nB4, .int .i64 774, .string nL5, .string nB5, .int .i64 775, .string nL6, .string nB6, .int .i64 776, .string nL7, .string nB7, .int .i64 778, .string nL8, .string nB8, .int .i64 779, .string nL9, .string nB9, .int .i64 780, .string nL10, .string nB10, .int .i64 807, .string nL11, .string nB11, .int .i64 808, .string nL12, .string nB12]
structure NRow where
  mark : Int
  lb : ByteArray
  bb : ByteArray
  l : List Int
  b : List Int
def nrows : List NRow := [⟨768, nL0, nB0, nL0c, nB0c⟩, ⟨769, nL1, nB1, nL1c, nB1c⟩, ⟨770, nL2, nB2, nL2c, nB2c⟩, ⟨771, nL3, nB3, nL3c, nB3c⟩, ⟨772, nL4, nB4, nL4c, nB4c⟩, ⟨774, nL5, nB5, nL5c, nB5c⟩, ⟨775, nL6, nB6, nL6c, nB6c⟩, ⟨776, nL7, nB7, nL7c, nB7c⟩, ⟨778, nL8, nB8, nL8c, nB8c⟩, ⟨779, nL9, nB9, nL9c, nB9c⟩, ⟨780, nL10, nB10, nL10c, nB10c⟩, ⟨807, nL11, nB11, nL11c, nB11c⟩, ⟨808, nL12, nB12, nL12c, nB12c⟩]
set_option maxHeartbeats 4000000 in
set_option maxRecDepth 100000 in
theorem rows_calls (w : World) : Calls Tryd.prog 91 #[] w fun e w' => e = .returned (.agg rowsC) ∧ Below w.heap.size w w' := by
  unfold rowsC nL0 nB0 nL1 nB1 nL2 nB2 nL3 nB3 nL4 nB4 nL5 nB5 nL6 nB6 nL7 nB7 nL8 nB8 nL9 nB9 nL10 nB10 nL11 nB11 nL12 nB12
  go_enter Tryd.func91, Tryd.ntmps91
  generalize (⟨#[195, 128, 195, 136, 195, 140, 195, 146, 195, 153, 195, 160, 195, 168, 195, 172, 195, 178, 195, 185]⟩ : ByteArray) = sl0
  generalize (⟨#[65, 69, 73, 79, 85, 97, 101, 105, 111, 117]⟩ : ByteArray) = sb0
  generalize (⟨([195, 129, 195, 137, 195, 141, 195, 147, 195, 154, 195, 157, 195, 161, 195, 169, 195, 173, 195, 179, 195, 186, 195, 189, 196, 134, 196, 135, 196, 185, 196, 186, 197, 131, 197, 132, 197, 148].append [197, 149, 197, 154, 197, 155, 197, 185, 197, 186, 206, 134, 206, 136, 206, 137, 206, 138, 206, 140, 206, 142, 206, 143, 206, 172, 206, 173, 206, 174, 206, 175, 207, 140, 207, 141, 207, 142]).toArray⟩ : ByteArray) = sl1
  generalize (⟨#[65, 69, 73, 79, 85, 89, 97, 101, 105, 111, 117, 121, 67, 99, 76, 108, 78, 110, 82, 114, 83, 115, 90, 122, 206, 145, 206, 149, 206, 151, 206, 153, 206, 159, 206, 165, 206, 169, 206, 177, 206, 181, 206, 183, 206, 185, 206, 191, 207, 133, 207, 137]⟩ : ByteArray) = sb1
  generalize (⟨#[195, 130, 195, 138, 195, 142, 195, 148, 195, 155, 195, 162, 195, 170, 195, 174, 195, 180, 195, 187, 196, 136, 196, 137, 196, 156, 196, 157, 196, 164, 196, 165, 196, 180, 196, 181, 197, 156, 197, 157, 197, 180, 197, 181, 197, 182, 197, 183]⟩ : ByteArray) = sl2
  generalize (⟨#[65, 69, 73, 79, 85, 97, 101, 105, 111, 117, 67, 99, 71, 103, 72, 104, 74, 106, 83, 115, 87, 119, 89, 121]⟩ : ByteArray) = sb2
  generalize (⟨#[195, 131, 195, 145, 195, 149, 195, 163, 195, 177, 195, 181, 196, 168, 196, 169, 197, 168, 197, 169]⟩ : ByteArray) = sl3
  generalize (⟨#[65, 78, 79, 97, 110, 111, 73, 105, 85, 117]⟩ : ByteArray) = sb3
  generalize (⟨#[196, 128, 196, 129, 196, 146, 196, 147, 196, 170, 196, 171, 197, 140, 197, 141, 197, 170, 197, 171]⟩ : ByteArray) = sl4
  generalize (⟨#[65, 97, 69, 101, 73, 105, 79, 111, 85, 117]⟩ : ByteArray) = sb4
  generalize (⟨#[196, 130, 196, 131, 196, 148, 196, 149, 196, 158, 196, 159, 196, 172, 196, 173, 197, 142, 197, 143, 197, 172, 197, 173, 208, 153, 208, 185, 208, 142, 209, 158]⟩ : ByteArray) = sl5
  generalize (⟨#[65, 97, 69, 101, 71, 103, 73, 105, 79, 111, 85, 117, 208, 152, 208, 184, 208, 163, 209, 131]⟩ : ByteArray) = sb5
  generalize (⟨#[196, 138, 196, 139, 196, 150, 196, 151, 196, 160, 196, 161, 196, 176, 197, 187, 197, 188]⟩ : ByteArray) = sl6
  generalize (⟨#[67, 99, 69, 101, 71, 103, 73, 90, 122]⟩ : ByteArray) = sb6
  generalize (⟨#[195, 132, 195, 139, 195, 143, 195, 150, 195, 156, 195, 164, 195, 171, 195, 175, 195, 182, 195, 188, 195, 191, 197, 184, 206, 170, 206, 171, 207, 138, 207, 139, 208, 129, 209, 145, 208, 135, 209, 151]⟩ : ByteArray) = sl7
  generalize (⟨#[65, 69, 73, 79, 85, 97, 101, 105, 111, 117, 121, 89, 206, 153, 206, 165, 206, 185, 207, 133, 208, 149, 208, 181, 208, 134, 209, 150]⟩ : ByteArray) = sb7
  generalize (⟨#[195, 133, 195, 165, 197, 174, 197, 175]⟩ : ByteArray) = sl8
  generalize (⟨#[65, 97, 85, 117]⟩ : ByteArray) = sb8
  generalize (⟨#[197, 144, 197, 145, 197, 176, 197, 177]⟩ : ByteArray) = sl9
  generalize (⟨#[79, 111, 85, 117]⟩ : ByteArray) = sb9
  generalize (⟨#[196, 140, 196, 141, 196, 142, 196, 143, 196, 154, 196, 155, 197, 135, 197, 136, 197, 152, 197, 153, 197, 160, 197, 161, 197, 164, 197, 165, 197, 189, 197, 190, 196, 189, 196, 190]⟩ : ByteArray) = sl10
  generalize (⟨#[67, 99, 68, 100, 69, 101, 78, 110, 82, 114, 83, 115, 84, 116, 90, 122, 76, 108]⟩ : ByteArray) = sb10
  generalize (⟨#[195, 135, 195, 167, 196, 162, 196, 163, 196, 182, 196, 183, 196, 187, 196, 188, 197, 133, 197, 134, 197, 150, 197, 151, 197, 158, 197, 159, 197, 162, 197, 163]⟩ : ByteArray) = sl11
  generalize (⟨#[67, 99, 71, 103, 75, 107, 76, 108, 78, 110, 82, 114, 83, 115, 84, 116]⟩ : ByteArray) = sb11
  generalize (⟨#[196, 132, 196, 133, 196, 152, 196, 153, 196, 174, 196, 175, 197, 178, 197, 179]⟩ : ByteArray) = sl12
  generalize (⟨#[65, 97, 69, 101, 73, 105, 85, 117]⟩ : ByteArray) = sb12
  go_wp2_with (first | ((with_reducible refine gate_dst (N := 14) rfl ?_); refine event_run rfl (v := .agg #[.int .i64 768, .string sl0, .string sb0, .int .i64 769, .string sl1, .string sb1, .int .i64 770, .string sl2, .string sb2, .int .i64 771, .string sl3, .string sb3, .int .i64 772, .string sl4, .string sb4, .int .i64 774, .string sl5, .string sb5, .int .i64 775, .string sl6, .string sb6, .int .i64 776, .string sl7, .string sb7, .int .i64 778, .string sl8, .string sb8, .int .i64 779, .string sl9, .string sb9, .int .i64 780, .string sl10, .string sb10, .int .i64 807, .string sl11, .string sb11, .int .i64 808, .string sl12, .string sb12]) ?hr ?_; (case hr => kernel_rfl)) | ((with_reducible refine gate_store (t := 89) (p := 0) rfl ?_); refine store_new rfl rfl rfl _ #[.int .i64 768, .string sl0, .string sb0, .int .i64 769, .string sl1, .string sb1, .int .i64 770, .string sl2, .string sb2, .int .i64 771, .string sl3, .string sb3, .int .i64 772, .string sl4, .string sb4, .int .i64 774, .string sl5, .string sb5, .int .i64 775, .string sl6, .string sb6, .int .i64 776, .string sl7, .string sb7, .int .i64 778, .string sl8, .string sb8, .int .i64 779, .string sl9, .string sb9, .int .i64 780, .string sl10, .string sb10, .int .i64 807, .string sl11, .string sb11, .int .i64 808, .string sl12, .string sb12] rfl rfl (by kernel_rfl) rfl (by simp [Value.oneCell']) ?_))
  (try simp only [Exit.inBlock, Exit.then]); refine bodyPost_ret (results_cell_new rfl _ _ _ _ rfl Tryd.underlying89 (by kernel_rfl)) rfl ?_
  exact ⟨rfl, below_alloc (Below.refl _ _) _⟩
end Go.Proofs.YthcpdhniakpbaaaDoor.X
end

section
namespace Go.Proofs.YthcpdhniakpbaaaDoor.X
open Go.RowKit Go.Lib Go.Proofs.YthcpdhniakpbaaaDoorW.PrintWords Go.Proofs.YthcpdhniakpbaaaDoorW.PrintLast Go.Proofs.YthcpdhniakpbaaaDoorW.PrintMore
set_option linter.unusedVariables false
set_option linter.unusedSimpArgs false
def strB (B : ByteArray) (xs : List Int) : Bool :=
  (B.data.toList == encL xs) && xs.all (fun x => decide (0 ≤ x ∧ x < 2048)) && decide (B.size ≤ 1000) && (List.range 64).all (fun n => calm B.data.toList (UInt8.ofNat (128 + n))) && (List.range (xs.length + 1)).all (fun k => runeCount (B.extract 0 (encL (xs.take k)).length) == k)
theorem rows_strB : nrows.all (fun r => strB r.lb r.l && strB r.bb r.b && (r.l.length == r.b.length)) = true := by decide +kernel
theorem row_str {r : NRow} (h : r ∈ nrows) : strB r.lb r.l = true ∧ strB r.bb r.b = true ∧ r.l.length = r.b.length := by
  have := List.all_eq_true.1 rows_strB r h
  simpa [and_assoc] using this
def plc (xs : List Int) (c : Int) : Int := if c ∈ xs then ((xs.takeWhile (fun y => y != c)).length : Int) else -1
theorem place_eq {B : ByteArray} {xs : List Int} (h : strB B xs = true) {c : Int} (h0 : 0 ≤ c) (h1 : c ≤ 65535) (hne : c ≠ 65533) : normal_place.f B c = some (plc xs c) := by
  unfold strB at h
  simp only [Bool.and_eq_true, beq_iff_eq, List.all_eq_true, decide_eq_true_eq] at h
  obtain ⟨⟨⟨⟨he, hs⟩, hz⟩, hc⟩, hr⟩ := h
  have hw : wrap32 c = c := by unfold wrap32; omega
  unfold normal_place.f
  rw [hw, indexRune_eq he hs (by omega) (fun d hd => calm_all (List.all_eq_true.2 hc) d hd) h0 h1 hne]
  simp only [Option.bind_some]
  unfold placeB plc
  by_cases hm : c ∈ xs
  · rw [if_pos hm, if_pos hm]
    have hp : xs.takeWhile (fun y => y != c) = xs.take (xs.takeWhile (fun y => y != c)).length := List.prefix_iff_eq_take.1 (List.takeWhile_prefix _)
    have hl : (xs.takeWhile (fun y => y != c)).length ≤ xs.length := by rw [hp]; simp; omega
    have hk := hr _ (List.mem_range.2 (Nat.lt_succ_of_le hl))
    rw [← hp] at hk
    have hb : (encL (xs.takeWhile (fun y => y != c))).length ≤ B.size := by
      rw [show B.size = B.data.toList.length from Array.length_toList.symm, he]
      conv => rhs; rw [← List.takeWhile_append_dropWhile (p := fun y => y != c) (l := xs), encL_append, List.length_append]
      omega
    rw [if_neg (by omega), if_pos (by omega), if_pos (by omega)]
    unfold utf8_RuneCountInString.f
    have hx : (B.extract 0 (encL (xs.takeWhile (fun y => y != c))).length).size < 9223372036854775807 := by simp; omega
    simp only [Int.toNat_natCast]
    rw [if_pos hx, hk]
    rfl
  · rw [if_neg hm, if_neg hm]
    rfl
theorem plc_ge {xs : List Int} {c : Int} : 0 ≤ plc xs c ↔ c ∈ xs := by
  unfold plc
  by_cases h : c ∈ xs
  · rw [if_pos h]; simp [h]
  · rw [if_neg h]; simp [h]
theorem plc_go {c : Int} : ∀ {xs : List Int}, c ∈ xs → (xs.takeWhile (fun y => y != c)).length < xs.length
  | x :: xs, h => by
    by_cases e : x = c
    · subst e; simp
    · have := plc_go (xs := xs) (by rcases List.mem_cons.1 h with h | h; exact absurd h.symm e; exact h)
      rw [List.takeWhile_cons, if_pos (by simpa using e)]
      simpa using this
theorem plc_lt {xs : List Int} {c : Int} (h : c ∈ xs) : plc xs c < xs.length := by
  unfold plc
  rw [if_pos h]
  have := plc_go h
  omega
def runeCellsL (xs : List Int) : Array Value := (xs.map fun x => Value.int .i32 x).toArray
def strR (B : ByteArray) (xs : List Int) : Prop := Conv.runesFrom B B.size 0 #[] = runeCellsL xs
set_option maxRecDepth 100000 in
theorem row_runes {r : NRow} (h : r ∈ nrows) : strR r.lb r.l ∧ strR r.bb r.b := by
  unfold nrows at h
  simp only [List.mem_cons, List.not_mem_nil, or_false] at h
  rcases h with rfl | rfl | rfl | rfl | rfl | rfl | rfl | rfl | rfl | rfl | rfl | rfl | rfl
  all_goals exact ⟨by unfold strR; kernel_rfl, by unfold strR; kernel_rfl⟩
theorem runes_run {B : ByteArray} {xs : List Int} (h : strR B xs) (hl : xs.length ≤ 1000) (W : World) : ∃ cap w1, (convert 9 92 (.string B)).run Tryd.prog W = .ok (.slice (some ⟨W.heap.size, 0, none⟩) xs.length cap) w1 ∧ Below W.heap.size W w1 ∧ w1.heap.size = W.heap.size + 1 ∧
    ∀ j (hj : j < xs.length), w1.cell? ⟨W.heap.size, j, none⟩ = some (.int .i32 xs[j]) := by
  have hsz : (Conv.runesFrom B B.size 0 #[]).size = xs.length := by rw [h]; simp [runeCellsL]
  have hrun := run_runes_of_string (P := Tryd.prog) W 9 92 21 B Tryd.underlying9 Tryd.underlying92 Tryd.underlying21 (by omega)
  rw [hsz, h] at hrun
  refine ⟨_, _, hrun, below_alloc (below_drew (Below.refl _ _)) _, by simp, fun j hj => ?_⟩
  show (W.drew.alloc _).cell? ⟨W.drew.heap.size, j, none⟩ = _
  rw [World.cell?_alloc_mark W.drew]
  rw [Array.getElem?_append_left (by simp [runeCellsL]; exact hj)]
  simp [runeCellsL, hj]
end Go.Proofs.YthcpdhniakpbaaaDoor.X
end

section
namespace Go.Proofs.YthcpdhniakpbaaaDoor.X
open Go.RowKit Go.Proofs.YthcpdhniakpbaaaDoorW.PrintWords Go.Proofs.YthcpdhniakpbaaaDoorW.PrintLast Go.Proofs.YthcpdhniakpbaaaDoorW.PrintMore
set_option linter.unusedVariables false
set_option linter.unusedSimpArgs false
def nr (i : Nat) : NRow := nrows.getD i ⟨0, ⟨#[]⟩, ⟨#[]⟩, [], []⟩
theorem nr_mem {i : Nat} (h : i < 13) : nr i ∈ nrows := by
  have : i < nrows.length := h
  unfold nr
  simp [this]
theorem nr_drop {i : Nat} (h : i < 13) : nrows.drop i = nr i :: nrows.drop (i + 1) := by
  have hl : i < nrows.length := h
  have : nr i = nrows[i] := by unfold nr; simp [hl]
  rw [this, List.drop_eq_getElem_cons hl]
set_option maxRecDepth 100000 in
theorem idx_run {i : Nat} (h : i < 13) (W : World) : (Instr.index 89 (.agg rowsC) (.int .i64 (i : Int))).run Tryd.prog W = .ok (.agg #[.int .i64 (nr i).mark, .string (nr i).lb, .string (nr i).bb]) W := by
  match i, h with
  | 0, _ => exact (show Sem.run Tryd.prog (Instr.index 89 (.agg rowsC) (.int .i64 0)) W = .ok (.agg #[.int .i64 (nr 0).mark, .string (nr 0).lb, .string (nr 0).bb]) W by kernel_rfl)
  | 1, _ => exact (show Sem.run Tryd.prog (Instr.index 89 (.agg rowsC) (.int .i64 1)) W = .ok (.agg #[.int .i64 (nr 1).mark, .string (nr 1).lb, .string (nr 1).bb]) W by kernel_rfl)
  | 2, _ => exact (show Sem.run Tryd.prog (Instr.index 89 (.agg rowsC) (.int .i64 2)) W = .ok (.agg #[.int .i64 (nr 2).mark, .string (nr 2).lb, .string (nr 2).bb]) W by kernel_rfl)
  | 3, _ => exact (show Sem.run Tryd.prog (Instr.index 89 (.agg rowsC) (.int .i64 3)) W = .ok (.agg #[.int .i64 (nr 3).mark, .string (nr 3).lb, .string (nr 3).bb]) W by kernel_rfl)
  | 4, _ => exact (show Sem.run Tryd.prog (Instr.index 89 (.agg rowsC) (.int .i64 4)) W = .ok (.agg #[.int .i64 (nr 4).mark, .string (nr 4).lb, .string (nr 4).bb]) W by kernel_rfl)
  | 5, _ => exact (show Sem.run Tryd.prog (Instr.index 89 (.agg rowsC) (.int .i64 5)) W = .ok (.agg #[.int .i64 (nr 5).mark, .string (nr 5).lb, .string (nr 5).bb]) W by kernel_rfl)
  | 6, _ => exact (show Sem.run Tryd.prog (Instr.index 89 (.agg rowsC) (.int .i64 6)) W = .ok (.agg #[.int .i64 (nr 6).mark, .string (nr 6).lb, .string (nr 6).bb]) W by kernel_rfl)
  | 7, _ => exact (show Sem.run Tryd.prog (Instr.index 89 (.agg rowsC) (.int .i64 7)) W = .ok (.agg #[.int .i64 (nr 7).mark, .string (nr 7).lb, .string (nr 7).bb]) W by kernel_rfl)
  | 8, _ => exact (show Sem.run Tryd.prog (Instr.index 89 (.agg rowsC) (.int .i64 8)) W = .ok (.agg #[.int .i64 (nr 8).mark, .string (nr 8).lb, .string (nr 8).bb]) W by kernel_rfl)
  | 9, _ => exact (show Sem.run Tryd.prog (Instr.index 89 (.agg rowsC) (.int .i64 9)) W = .ok (.agg #[.int .i64 (nr 9).mark, .string (nr 9).lb, .string (nr 9).bb]) W by kernel_rfl)
  | 10, _ => exact (show Sem.run Tryd.prog (Instr.index 89 (.agg rowsC) (.int .i64 10)) W = .ok (.agg #[.int .i64 (nr 10).mark, .string (nr 10).lb, .string (nr 10).bb]) W by kernel_rfl)
  | 11, _ => exact (show Sem.run Tryd.prog (Instr.index 89 (.agg rowsC) (.int .i64 11)) W = .ok (.agg #[.int .i64 (nr 11).mark, .string (nr 11).lb, .string (nr 11).bb]) W by kernel_rfl)
  | 12, _ => exact (show Sem.run Tryd.prog (Instr.index 89 (.agg rowsC) (.int .i64 12)) W = .ok (.agg #[.int .i64 (nr 12).mark, .string (nr 12).lb, .string (nr 12).bb]) W by kernel_rfl)
def at0 (xs : List Int) (p : Int) : Int := xs.getD p.toNat 0
def joinR (c m : Int) : List NRow → Option Int
  | [] => none
  | r :: rs => if r.mark = m ∧ c ∈ r.b then some (at0 r.l (plc r.b c)) else joinR c m rs
def joinS (c m : Int) : Option Int := joinR c m nrows
def joinV (o : Option Int) : Value := match o with | some x => .tuple #[.int .i64 x, .bool true] | none => .tuple #[.int .i64 0, .bool false]
theorem joinV_some (x : Int) : joinV (some x) = .tuple #[.int .i64 x, .bool true] := rfl
theorem joinV_none : joinV none = .tuple #[.int .i64 0, .bool false] := rfl
theorem row_small : nrows.all (fun r => decide (r.l.length ≤ 1000) && decide (r.b.length ≤ 1000) && (r.l.all fun x => decide (0 ≤ x ∧ x < 2048)) && (r.b.all fun x => decide (0 ≤ x ∧ x < 2048)) && decide (0 ≤ r.mark ∧ r.mark < 2048)) = true := by decide +kernel
theorem row_bounds {r : NRow} (h : r ∈ nrows) : r.l.length ≤ 1000 ∧ r.b.length ≤ 1000 ∧ (∀ x ∈ r.l, 0 ≤ x ∧ x < 2048) ∧ (∀ x ∈ r.b, 0 ≤ x ∧ x < 2048) ∧ 0 ≤ r.mark ∧ r.mark < 2048 := by
  have := List.all_eq_true.1 row_small r h
  simpa [and_assoc] using this
theorem at0_get {xs : List Int} {p : Int} (h0 : 0 ≤ p) (h1 : p < xs.length) : ∃ hj : p.toNat < xs.length, xs[p.toNat] = at0 xs p := ⟨by omega, by unfold at0; simp [show p.toNat < xs.length by omega]⟩
theorem place_any {r : NRow} (h : r ∈ nrows) {c : Int} (h0 : 0 ≤ c) (h1 : c ≤ 65535) (hne : c ≠ 65533) (W : World) :
    (Calls Tryd.prog 92 #[.string r.lb, .int .i64 c] W fun e w' => e = .returned (.int .i64 (plc r.l c)) ∧ Below W.heap.size W w') ∧ (Calls Tryd.prog 92 #[.string r.bb, .int .i64 c] W fun e w' => e = .returned (.int .i64 (plc r.b c)) ∧ Below W.heap.size W w') :=
  ⟨normal_place.calls _ _ _ W (place_eq (row_str h).1 h0 h1 hne), normal_place.calls _ _ _ W (place_eq (row_str h).2.1 h0 h1 hne)⟩
set_option maxHeartbeats 4000000 in
set_option maxRecDepth 100000 in
theorem join_walk (c m : Int) (hc0 : 0 ≤ c) (hc1 : c ≤ 65535) (hc2 : c ≠ 65533) (w : World) :
    Calls Tryd.prog 69 #[.int .i64 c, .int .i64 m] w fun e w' => e = .returned (joinV (joinS c m)) ∧ Below w.heap.size w w' := by
  obtain ⟨J, hJ⟩ : ∃ J, J = joinS c m := ⟨_, rfl⟩
  have HJ : Hid (joinR c m (nrows.drop 0) = J) := hJ.symm
  rw [← hJ]
  clear hJ
  have HP : Hid (∀ r ∈ nrows, ∀ W, Calls Tryd.prog 92 #[.string r.bb, .int .i64 c] W fun e w' => e = .returned (.int .i64 (plc r.b c)) ∧ Below W.heap.size W w') := fun r hr W => (place_any hr hc0 hc1 hc2 W).2
  have HI : Hid (∀ i : Nat, i < 13 → ∀ W, (Instr.index 89 (.agg rowsC) (.int .i64 (i : Int))).run Tryd.prog W = .ok (.agg #[.int .i64 (nr i).mark, .string (nr i).lb, .string (nr i).bb]) W) := fun i hi W => idx_run hi W
  have HR : Hid (∀ W : World, Calls Tryd.prog 91 #[] W fun e w' => e = .returned (.agg rowsC) ∧ Below W.heap.size W w') := rows_calls
  generalize rowsC = C at HI HR
  clear hc0 hc1 hc2
  go_enter Tryd.func69, Tryd.ntmps69
  go_wp2_with (go_at_call 91; refine (HR.out _).mono ?_; rintro e w1 ⟨rfl, hb1⟩)
  clear HR
  go_loopg [10] 13 (fun g1 v10 wr => ∃ i : Nat, v10 = .int .i64 (i : Int) ∧ i ≤ 13 ∧ 13 - i ≤ g1 ∧ Aside0 (Below w.heap.size w wr) ∧ Hid (joinR c m (nrows.drop i) = J))
  case atStart => exact ⟨0, rfl, by omega, by omega, ⟨hb1⟩, HJ⟩
  case round =>
    clear HJ hb1
    obtain ⟨i, rfl, hi, hg1, HB, HJ⟩ := hrel
    by_cases hlt : i < 13
    · have hltz : (i : Int) < 13 := by omega
      have hrun := HI.out i hlt
      have hmem := nr_mem hlt
      have hj := HJ.out
      rw [nr_drop hlt, joinR] at hj
      have HPr := Lib.hid (HP.out _ hmem)
      have hbd := row_bounds hmem
      have hst := row_str hmem
      have hrn := row_runes hmem
      generalize nr i = r at hrun hmem hj HPr hbd hst hrn
      obtain ⟨mk, L, B, ls, bs⟩ := r
      simp only at hrun hmem hj HPr hbd hst hrn
      obtain ⟨p, hp⟩ : ∃ p, p = plc bs c := ⟨_, rfl⟩
      rw [← hp] at hj HPr
      have hge : 0 ≤ p ↔ c ∈ bs := by rw [hp]; exact plc_ge
      have hlt2 : c ∈ bs → p < ls.length := fun h => by rw [hp, hst.2.2]; exact plc_lt h
      have HRN := Lib.hid hrn.1
      have hl1000 := hbd.1
      have hls := hbd.2.2.1
      clear hp hmem hst hrn hbd
      have hsz := HB.out.size
      by_cases hit : mk = m ∧ c ∈ bs
      · rw [if_pos hit] at hj
        have h0p : 0 ≤ p := hge.2 hit.2
        have hpl := hlt2 hit.2
        obtain ⟨hjx, hat⟩ := at0_get h0p hpl
        have hrng := hls _ (List.getElem_mem hjx)
        rw [hat] at hrng
        have HAT : Hid (∀ (w1 : World) (b : Nat), (∀ j (hj : j < ls.length), w1.cell? ⟨b, j, none⟩ = some (.int .i32 ls[j])) → w1.cell? ⟨b, p.toNat, none⟩ = some (.int .i32 (at0 ls p))) := fun w1 b h => by rw [h _ hjx, hat]
        have HJ2 : Hid (some (at0 ls p) = J) := hj
        generalize at0 ls p = x at hrng HAT HJ2
        have hmk : (mk == m) = true := by rw [beq_iff_eq]; exact hit.1
        have hpd : decide (p ≥ 0) = true := decide_eq_true h0p
        clear hj hge hlt2 hls hat hjx hit
        go_wp2_with fail
        refine (HPr.out _).mono ?_
        rintro e w2 ⟨rfl, hb2⟩
        have hB2 : Below w.heap.size w w2 := (HB.out.alloc hsz _).trans (hb2.mono (by simp; omega))
        have c0 : w2.cell? ⟨wr.heap.size, 0, none⟩ = some (.int .i64 mk) := (hb2.cell (p := ⟨wr.heap.size, 0, none⟩) (by simp)).trans (by simp)
        have c1 : w2.cell? ⟨wr.heap.size, 1, none⟩ = some (.string L) := (hb2.cell (p := ⟨wr.heap.size, 1, none⟩) (by simp)).trans (by simp)
        have c2 : w2.cell? ⟨wr.heap.size, 2, none⟩ = some (.string B) := (hb2.cell (p := ⟨wr.heap.size, 2, none⟩) (by simp)).trans (by simp)
        obtain ⟨cap, w3, hconv, hb3, hsz3, hcell⟩ := runes_run HRN.out hl1000 w2
        have hx := HAT.out w3 _ hcell
        have HB3 := Lib.hid (hB2.trans (hb3.mono hB2.size))
        clear hB2 hb2 hb3 hcell HAT HRN
        go_wp2_with fail
        go_ret2
        exact ⟨by rw [← HJ2.out]; rfl, HB3.out⟩
      · rw [if_neg hit] at hj
        have HJ2 : Hid (joinR c m (nrows.drop (i + 1)) = J) := hj
        clear hj hlt2 hls
        have key : (mk == m) = false ∨ ((mk == m) = true ∧ decide (p ≥ 0) = false) := by
          by_cases h1 : mk = m
          · exact .inr ⟨by rw [beq_iff_eq]; exact h1, decide_eq_false fun h => hit ⟨h1, hge.1 h⟩⟩
          · exact .inl (by rw [beq_eq_false_iff_ne]; exact h1)
        clear hit hge
        go_wp2_with fail
        refine (HPr.out _).mono ?_
        rintro e w2 ⟨rfl, hb2⟩
        have hB2 : Below w.heap.size w w2 := (HB.out.alloc hsz _).trans (hb2.mono (by simp; omega))
        have c0 : w2.cell? ⟨wr.heap.size, 0, none⟩ = some (.int .i64 mk) := (hb2.cell (p := ⟨wr.heap.size, 0, none⟩) (by simp)).trans (by simp)
        have c1 : w2.cell? ⟨wr.heap.size, 1, none⟩ = some (.string L) := (hb2.cell (p := ⟨wr.heap.size, 1, none⟩) (by simp)).trans (by simp)
        have c2 : w2.cell? ⟨wr.heap.size, 2, none⟩ = some (.string B) := (hb2.cell (p := ⟨wr.heap.size, 2, none⟩) (by simp)).trans (by simp)
        have HB2 := Lib.hid hB2
        clear hB2 hb2
        rcases key with hmk | ⟨hmk, hpd⟩
        · go_wp2_with fail
          go_roundg (13 - (i + 1))
          case measure => omega
          case rel => exact ⟨i + 1, by go_num, by omega, by omega, ⟨HB2.out⟩, HJ2⟩
        · go_wp2_with fail
          go_roundg (13 - (i + 1))
          case measure => omega
          case rel => exact ⟨i + 1, by go_num, by omega, by omega, ⟨HB2.out⟩, HJ2⟩
    · have hltz : ¬ (i : Int) < 13 := by omega
      obtain rfl : i = 13 := by omega
      have HJ2 : Hid (none = J) := HJ.out
      clear HJ
      go_wp2_with fail
      go_ret2
      exact ⟨by rw [← HJ2.out]; rfl, HB.out⟩
end Go.Proofs.YthcpdhniakpbaaaDoor.X
end

section
namespace Go.Proofs.YthcpdhniakpbaaaDoor.X
open Go.RowKit Go.Proofs.YthcpdhniakpbaaaDoorW.PrintWords Go.Proofs.YthcpdhniakpbaaaDoorW.PrintLast Go.Proofs.YthcpdhniakpbaaaDoorW.PrintMore
set_option linter.unusedVariables false
set_option linter.unusedSimpArgs false
def splitR (c : Int) : List NRow → List Int
  | [] => [c]
  | r :: rs => if c ∈ r.l then [at0 r.b (plc r.l c), r.mark] else splitR c rs
def splitS (c : Int) : List Int :=
  if c = 160 then [32] else if c = 185 then [49] else if c = 178 ∨ c = 179 then [c - 176 + 48] else if c = 383 then [115] else if c = 64257 then [102, 105] else if c = 64258 then [102, 108]
  else if 65281 ≤ c then [c - 65248] else if c < 128 then [c] else splitR c nrows
theorem R_lits (W : World) (g base : Nat) (xs : List Int) (hW : g = W.heap.size) (hb : base ≤ W.heap.size) (hl : xs.length ≤ 1000) :
    Kd.R (Kd.int .i64) 3 (W.alloc (.cells (xs.map (Value.int .i64)).toArray 3)) base (fun _ => True) (.slice (some ⟨g, 0, none⟩) xs.length xs.length) xs := by
  rw [hW]
  refine Kd.R_of_own ?_ (fun _ _ => trivial)
  have h2 := World.ownsRow_lit (base := base) (e := 3) (size := 1) W (xs.map (Value.int .i64)).toArray xs.length hb (by unfold maxLen; omega) (by simp)
  simpa [encs] using h2
def SplitGoal (w : World) (xs : List Int) (e : Ending) (w' : World) : Prop := ∃ v, e = .returned v ∧ Kd.R (Kd.int .i64) 3 w' w.heap.size (fun _ => True) v xs ∧ Below w.heap.size w w'
theorem runes_all {B : ByteArray} {xs : List Int} (h : strR B xs) (hl : xs.length ≤ 1000) : ∃ (K : World → Nat) (D : World → Array Value), (∀ W, (convert 9 92 (.string B)).run Tryd.prog W = .ok (.slice (some ⟨W.heap.size, 0, none⟩) xs.length (K W)) (W.drew.alloc (.cells (D W) 21))) ∧ ∀ W j (hj : j < xs.length), (D W)[j]? = some (.int .i32 xs[j]) := by
  have hsz : (Conv.runesFrom B B.size 0 #[]).size = xs.length := by rw [h]; simp [runeCellsL]
  refine ⟨fun W => grownCap W xs.length 0 21, fun W => runeCellsL xs ++ Array.replicate (grownCap W xs.length 0 21 - xs.length) (Value.int .i32 0), fun W => ?_, fun W j hj => ?_⟩
  · have hrun := run_runes_of_string (P := Tryd.prog) W 9 92 21 B Tryd.underlying9 Tryd.underlying92 Tryd.underlying21 (by omega)
    rw [hsz, h] at hrun
    exact hrun
  · rw [Array.getElem?_append_left (by simp [runeCellsL]; exact hj)]
    simp [runeCellsL, hj]
set_option maxHeartbeats 4000000 in
set_option maxRecDepth 100000 in
theorem split_rows (c : Int) (hc0 : 128 ≤ c) (hc1 : c < 65281) (hc2 : c ≠ 65533) (e1 : (c == 160) = false) (e2 : (c == 185) = false) (e3 : (c == 178) = false) (e4 : (c == 179) = false) (e5 : (c == 383) = false) (e6 : (c == 64257) = false) (e7 : (c == 64258) = false) (w : World) :
    Calls Tryd.prog 85 #[.int .i64 c] w (SplitGoal w (splitR c nrows)) := by
  obtain ⟨J, hJ⟩ : ∃ J, J = splitR c nrows := ⟨_, rfl⟩
  have HJ : Hid (splitR c (nrows.drop 0) = J) := hJ.symm
  rw [← hJ]
  clear hJ
  have HP : Hid (∀ r ∈ nrows, ∀ W, Calls Tryd.prog 92 #[.string r.lb, .int .i64 c] W fun e w' => e = .returned (.int .i64 (plc r.l c)) ∧ Below W.heap.size W w') := fun r hr W => (place_any hr (by omega) (by omega) hc2 W).1
  have HI : Hid (∀ i : Nat, i < 13 → ∀ W, (Instr.index 89 (.agg rowsC) (.int .i64 (i : Int))).run Tryd.prog W = .ok (.agg #[.int .i64 (nr i).mark, .string (nr i).lb, .string (nr i).bb]) W) := fun i hi W => idx_run hi W
  have HR : Hid (∀ W : World, Calls Tryd.prog 91 #[] W fun e w' => e = .returned (.agg rowsC) ∧ Below W.heap.size W w') := rows_calls
  generalize rowsC = C at HI HR
  have g1 : decide (c ≥ 65281) = false := decide_eq_false (by omega)
  have g2 : decide (c < 128) = false := decide_eq_false (by omega)
  clear hc0 hc1 hc2
  go_enter Tryd.func85, Tryd.ntmps85
  go_wp2_with (go_at_call 91; refine (HR.out _).mono ?_; rintro e w1 ⟨rfl, hb1⟩)
  clear HR
  go_loopg [49] 13 (fun g1 v10 wr => ∃ i : Nat, v10 = .int .i64 (i : Int) ∧ i ≤ 13 ∧ 13 - i ≤ g1 ∧ Aside0 (Below w.heap.size w wr) ∧ Hid (splitR c (nrows.drop i) = J))
  case atStart => exact ⟨0, rfl, by omega, by omega, ⟨hb1⟩, HJ⟩
  case round =>
    clear HJ hb1
    obtain ⟨i, rfl, hi, hg1, HB, HJ⟩ := hrel
    by_cases hlt : i < 13
    · have hltz : (i : Int) < 13 := by omega
      have hrun := HI.out i hlt
      have hmem := nr_mem hlt
      have hj := HJ.out
      rw [nr_drop hlt, splitR] at hj
      have HPr := Lib.hid (HP.out _ hmem)
      have hbd := row_bounds hmem
      have hst := row_str hmem
      have hrn := row_runes hmem
      generalize nr i = r at hrun hmem hj HPr hbd hst hrn
      obtain ⟨mk, L, B, ls, bs⟩ := r
      simp only at hrun hmem hj HPr hbd hst hrn
      obtain ⟨p, hp⟩ : ∃ p, p = plc ls c := ⟨_, rfl⟩
      rw [← hp] at hj HPr
      have hge : 0 ≤ p ↔ c ∈ ls := by rw [hp]; exact plc_ge
      have hlt2 : c ∈ ls → p < bs.length := fun h => by rw [hp, ← hst.2.2]; exact plc_lt h
      obtain ⟨K, D, hconv, hD⟩ := runes_all hrn.2 hbd.2.1
      have hls := hbd.2.2.2.1
      have hb1000 := hbd.2.1
      clear hp hmem hst hrn hbd
      have hsz := HB.out.size
      by_cases hit : c ∈ ls
      · rw [if_pos hit] at hj
        have h0p : 0 ≤ p := hge.2 hit
        have hpl := hlt2 hit
        obtain ⟨hjx, hat⟩ := at0_get h0p hpl
        have hrng := hls _ (List.getElem_mem hjx)
        rw [hat] at hrng
        have hDp : ∀ W, (D W)[p.toNat]? = some (.int .i32 (at0 bs p)) := fun W => by rw [hD W _ hjx, hat]
        have HJ2 : Hid ([at0 bs p, mk] = J) := hj
        generalize at0 bs p = x at hrng hDp HJ2
        have hpd : decide (p ≥ 0) = true := decide_eq_true h0p
        clear hj hge hlt2 hls hat hjx hit hD
        go_wp2_with fail
        refine (HPr.out _).mono ?_
        rintro e w2 ⟨rfl, hb2⟩
        have hB2 : Below w.heap.size w w2 := (HB.out.alloc hsz _).trans (hb2.mono (by simp; omega))
        have c0 : w2.cell? ⟨wr.heap.size, 0, none⟩ = some (.int .i64 mk) := (hb2.cell (p := ⟨wr.heap.size, 0, none⟩) (by simp)).trans (by simp)
        have c1 : w2.cell? ⟨wr.heap.size, 1, none⟩ = some (.string L) := (hb2.cell (p := ⟨wr.heap.size, 1, none⟩) (by simp)).trans (by simp)
        have c2 : w2.cell? ⟨wr.heap.size, 2, none⟩ = some (.string B) := (hb2.cell (p := ⟨wr.heap.size, 2, none⟩) (by simp)).trans (by simp)
        have hlt2 : wr.heap.size < w2.heap.size := by have := hb2.size; simp at this; omega
        have HB2 := Lib.hid hB2
        clear hB2 hb2
        go_wp2_with fail
        go_region
        go_wp2_with fail
        go_ret
        have hs2 := HB2.out.size
        refine ⟨_, rfl, ?_, ((((HB2.out.alloc hs2 _).alloc (by simp; omega) _).drew).drew)⟩
        rw [← HJ2.out]
        exact Kd.R_drew (Kd.R_drew (R_lits (w2.alloc _) _ _ [x, mk] (by simp) (by simp; omega) (by simp)))
      · rw [if_neg hit] at hj
        have HJ2 : Hid (splitR c (nrows.drop (i + 1)) = J) := hj
        have hpd : decide (p ≥ 0) = false := decide_eq_false fun h => hit (hge.1 h)
        clear hj hlt2 hls hit hge hconv hD
        go_wp2_with fail
        refine (HPr.out _).mono ?_
        rintro e w2 ⟨rfl, hb2⟩
        have HB2 := Lib.hid ((HB.out.alloc hsz (.cells #[.int .i64 mk, .string L, .string B] 88)).trans (hb2.mono (by simp; omega)))
        clear hb2
        go_wp2_with fail
        go_roundg (13 - (i + 1))
        case measure => omega
        case rel => exact ⟨i + 1, by go_num, by omega, by omega, ⟨HB2.out⟩, HJ2⟩
    · have hltz : ¬ (i : Int) < 13 := by omega
      obtain rfl : i = 13 := by omega
      have HJ2 : Hid ([c] = J) := HJ.out
      clear HJ
      have hs := HB.out.size
      go_wp2_with fail
      go_ret
      refine ⟨_, rfl, ?_, HB.out.alloc hs _⟩
      rw [← HJ2.out]
      exact R_lits wr _ _ [c] rfl hs (by simp)
set_option maxHeartbeats 4000000 in
set_option maxRecDepth 100000 in
theorem split_walk (c : Int) (hc0 : 0 ≤ c) (hc1 : c ≤ 65374) (hc2 : c ≠ 65533) (w : World) : Calls Tryd.prog 85 #[.int .i64 c] w (SplitGoal w (splitS c)) := by
  have fin : ∀ (xs : List Int) (hx : xs.length ≤ 1000) (v : Value), v = .slice (some ⟨w.heap.size, 0, none⟩) xs.length xs.length → SplitGoal w xs (.returned v) (w.alloc (.cells (xs.map (Value.int .i64)).toArray 3)) := fun xs hx v hv => ⟨v, rfl, by rw [hv]; exact R_lits w _ _ xs rfl (Nat.le_refl _) hx, (Below.refl _ _).alloc (Nat.le_refl _) _⟩
  have FIN := Lib.hid fin
  clear fin
  have hf := fun (a : Int) (h : c ≠ a) => (show (c == a) = false by rw [beq_eq_false_iff_ne]; exact h)
  have ht := fun (a : Int) (h : c = a) => (show (c == a) = true by rw [beq_iff_eq]; exact h)
  unfold splitS
  by_cases h1 : c = 160
  · rw [if_pos h1]
    subst h1
    clear hf ht hc0 hc1 hc2
    go_enter Tryd.func85, Tryd.ntmps85
    go_wp2
    go_ret
    exact FIN.out [32] (by simp) _ rfl
  rw [if_neg h1]
  have e1 := hf _ h1
  by_cases h2 : c = 185
  · rw [if_pos h2]
    subst h2
    clear hf ht hc0 hc1 hc2 e1 h1
    go_enter Tryd.func85, Tryd.ntmps85
    go_wp2
    go_ret
    exact FIN.out [49] (by simp) _ rfl
  rw [if_neg h2]
  have e2 := hf _ h2
  by_cases h3 : c = 178
  · rw [if_pos (.inl h3)]
    subst h3
    clear hf ht hc0 hc1 hc2 e1 h1 e2 h2
    go_enter Tryd.func85, Tryd.ntmps85
    go_wp2
    go_ret
    exact FIN.out [50] (by simp) _ rfl
  by_cases h4 : c = 179
  · rw [if_pos (.inr h4)]
    subst h4
    clear hf ht hc0 hc1 hc2 e1 h1 e2 h2 h3
    go_enter Tryd.func85, Tryd.ntmps85
    go_wp2
    go_ret
    exact FIN.out [51] (by simp) _ rfl
  rw [if_neg (by rintro (h | h); exact h3 h; exact h4 h)]
  have e3 := hf _ h3
  have e4 := hf _ h4
  by_cases h5 : c = 383
  · rw [if_pos h5]
    subst h5
    clear hf ht hc0 hc1 hc2 e1 h1 e2 h2 e3 h3 e4 h4
    go_enter Tryd.func85, Tryd.ntmps85
    go_wp2
    go_ret
    exact FIN.out [115] (by simp) _ rfl
  rw [if_neg h5]
  have e5 := hf _ h5
  by_cases h6 : c = 64257
  · rw [if_pos h6]
    subst h6
    clear hf ht hc0 hc1 hc2 e1 h1 e2 h2 e3 h3 e4 h4 e5 h5
    go_enter Tryd.func85, Tryd.ntmps85
    go_wp2
    go_ret
    exact FIN.out [102, 105] (by simp) _ rfl
  rw [if_neg h6]
  have e6 := hf _ h6
  by_cases h7 : c = 64258
  · rw [if_pos h7]
    subst h7
    clear hf ht hc0 hc1 hc2 e1 h1 e2 h2 e3 h3 e4 h4 e5 h5 e6 h6
    go_enter Tryd.func85, Tryd.ntmps85
    go_wp2
    go_ret
    exact FIN.out [102, 108] (by simp) _ rfl
  rw [if_neg h7]
  have e7 := hf _ h7
  by_cases h8 : 65281 ≤ c
  · rw [if_pos h8]
    have g1 : decide (c ≥ 65281) = true := decide_eq_true h8
    clear hf ht h1 h2 h3 h4 h5 h6 h7 hc2
    go_enter Tryd.func85, Tryd.ntmps85
    go_wp2
    go_ret
    exact FIN.out [c - 65248] (by simp) _ rfl
  rw [if_neg h8]
  have g1 : decide (c ≥ 65281) = false := decide_eq_false (by omega)
  by_cases h9 : c < 128
  · rw [if_pos h9]
    have g2 : decide (c < 128) = true := decide_eq_true h9
    clear hf ht h1 h2 h3 h4 h5 h6 h7 h8 hc2
    go_enter Tryd.func85, Tryd.ntmps85
    go_wp2
    go_ret
    exact FIN.out [c] (by simp) _ rfl
  rw [if_neg h9]
  exact split_rows c (by omega) (by omega) hc2 e1 e2 e3 e4 e5 e6 e7 w
end Go.Proofs.YthcpdhniakpbaaaDoor.X
end

section
namespace Go.Proofs.YthcpdhniakpbaaaDoor.X
open Go.RowKit
set_option linter.unusedVariables false
set_option linter.unusedSimpArgs false
theorem size72 : (Tryd.prog.info? 72).map (·.size) = some 2 := by kernel_rfl
theorem lies72 : liesAt Tryd.prog Tryd.prog.depth 72 (2 / Tryd.prog.cellsOf 72) 0 72 1 = true := by kernel_rfl
theorem infoByte : (Tryd.prog.info? 5).map (fun i => (i.zero, i.size, i.bytes)) = some (some (.int .u8 0), 1, 1) := by kernel_rfl
set_option maxHeartbeats 1000000 in
set_option maxRecDepth 100000 in
theorem copyCheck_used (b : Nat) (w : World) (h0 : w.cell? ⟨b, 0, none⟩ = some (.pointer (some ⟨b, 0, none⟩))) :
    Calls Tryd.prog 97 #[.pointer (some ⟨b, 0, none⟩)] w fun e w' => e = .returned (.tuple #[]) ∧ w = w' := by
  obtain ⟨j, hj, _⟩ := Option.map_eq_some_iff.1 size72
  go_enter Tryd.func97, Tryd.ntmps97
  go_wp2
  rw [Lib.run_neq_ptr_same w _ Tryd.underlying70 hj]
  go_wp2
  go_end0
  exact ⟨rfl, rfl⟩
set_option maxHeartbeats 1000000 in
set_option maxRecDepth 100000 in
theorem copyCheck_fresh (b : Nat) (w : World) (h0 : w.cell? ⟨b, 0, none⟩ = some (.pointer none)) (hsh : w.shape? b = some (72, 2)) (hfz : w.frozen? ⟨b, 0, none⟩ = false) :
    Calls Tryd.prog 97 #[.pointer (some ⟨b, 0, none⟩)] w fun e w' => e = .returned (.tuple #[]) ∧ w.setCell ⟨b, 0, none⟩ (.pointer (some ⟨b, 0, none⟩)) = w' := by
  obtain ⟨j, hj, hjs⟩ := Option.map_eq_some_iff.1 size72
  go_enter Tryd.func97, Tryd.ntmps97
  go_wp2
  rw [Lib.run_to_unsafe w ⟨b, 0, none⟩ Tryd.underlying70 Tryd.underlying108 hj (by rw [hjs]; decide) hsh (Nat.zero_lt_succ 1)]
  simp only [Result.andThen]
  rw [Oper.upon_value]
  go_wp2
  rw [run_callFunc_extern Tryd.func108 (by kernel_rfl) (by kernel_rfl) (by kernel_rfl) (e := Extern.AbiNoEscape.same) (by kernel_rfl)]
  rw [Lib.run_noEscape]
  simp only [Result.andThen]
  rw [Oper.upon_value]
  go_wp2
  rw [Lib.run_from_unsafe w ⟨b, 0, none⟩ Tryd.underlying108 Tryd.underlying70 hj hsh lies72]
  simp only [Result.andThen]
  rw [Oper.upon_value]
  go_wp2
  go_end0
  exact ⟨rfl, rfl⟩
theorem copyCheck (B b : Nat) (bs : List Value) (w : World) (h : Lib.IsBuilderF 72 5 B b bs w) :
    Calls Tryd.prog 97 #[.pointer (some ⟨b, 0, none⟩)] w fun e w' => e = .returned (.tuple #[]) ∧ (Lib.BuilderAtF 72 5 B b (.pointer (some ⟨b, 0, none⟩)) bs w' ∧ Below B w w' ∧ Lib.OthersKept 5 (some b) w w') := by
  rcases h with h | h
  · refine (copyCheck_fresh b w h.cell0 h.shape h.frozen0).mono ?_
    rintro e w' ⟨rfl, rfl⟩
    exact ⟨rfl, h.used _, (Below.refl B w).setCell (p := ⟨b, 0, none⟩) h.1 _, (Lib.OthersKept.refl _ _ w).setCell ⟨b, 0, none⟩ rfl _⟩
  · refine (copyCheck_used b w h.cell0).mono ?_
    rintro e w' ⟨rfl, rfl⟩
    exact ⟨rfl, h, Below.refl B _, Lib.OthersKept.refl _ _ _⟩
set_option maxHeartbeats 4000000 in
set_option maxRecDepth 100000 in
theorem writeRune (B b : Nat) (bs : List Value) (r : Int) (hr0 : -2147483648 ≤ r) (hr1 : r ≤ 2147483647) (w : World) (h : Lib.IsBuilderF 72 5 B b bs w) (hlen : bs.length + 4 ≤ 140737488355328) (hBw : B ≤ w.heap.size) :
    Calls Tryd.prog 101 #[.pointer (some ⟨b, 0, none⟩), .int .i32 r] w fun e w' => e = .returned (.tuple #[.int .i64 (Lib.runeCells r).length, .nilIface]) ∧ (Lib.BuilderAtF 72 5 B b (.pointer (some ⟨b, 0, none⟩)) (bs ++ Lib.runeCells r) w' ∧ Below B w w' ∧ Lib.OthersKept 5 (some b) w w') := by
  have hk4 := Lib.runeCells_le r
  go_enter Tryd.func101, Tryd.ntmps101
  go_wp2_with (go_at_call 97; refine (copyCheck B b bs _ h).mono ?_)
  rintro e w1 ⟨rfl, h1, hb1, hk1⟩
  obtain ⟨hB, v, hbk, hown, hne⟩ := h1
  obtain ⟨ao, cap, rfl⟩ : ∃ ao cap, v = .slice ao bs.length cap := by
    rcases hown.2 with ⟨hv, h0⟩ | ⟨g, cap, cur, fz, hv, _⟩
    · exact ⟨none, 0, by rw [hv, h0]⟩
    · exact ⟨_, _, hv⟩
  have c0 : w1.cell? ⟨b, 0, none⟩ = some (.pointer (some ⟨b, 0, none⟩)) := by rw [Lib.cell_of_heap hbk]; rfl
  have c1 : w1.cell? ⟨b, 1, none⟩ = some (.slice ao bs.length cap) := by rw [Lib.cell_of_heap hbk]; rfl
  go_wp2_with (go_at_call 112; refine (Tryd.utf8_AppendRune_row B _ bs.length bs r hr0 hr1 _ hown hlen (by have := hb1.size; omega)).mono ?_)
  rintro e w2 ⟨v', rfl, hown', o, hgrow⟩
  have hlt : b < w1.heap.size := by
    rcases Nat.lt_or_ge b w1.heap.size with h' | h'
    · exact h'
    · simp [Array.getElem?_eq_none h'] at hbk
  have hb2 : w2.heap[b]? = some (.cells #[.pointer (some ⟨b, 0, none⟩), .slice ao bs.length cap] 72 (0, 0)) := by
    rw [hgrow.block b (by simp; omega) (fun e => hne e.symm), Lib.alloc_old w1 _ b hlt]
    exact hbk
  have d0 : w2.cell? ⟨b, 0, none⟩ = some (.pointer (some ⟨b, 0, none⟩)) := by rw [Lib.cell_of_heap hb2]; rfl
  have d1 : w2.cell? ⟨b, 1, none⟩ = some (.slice ao bs.length cap) := by rw [Lib.cell_of_heap hb2]; rfl
  have f1 : w2.frozen? ⟨b, 1, none⟩ = false := Lib.frozen_of_heap hb2 1
  obtain ⟨g, cap', rfl⟩ : ∃ g cap', v' = .slice (some ⟨g, 0, none⟩) (bs.length + (Lib.runeCells r).length) cap' := by
    rcases hown'.2 with ⟨_, h0⟩ | ⟨g, cap', cur, fz, hv, _⟩
    · omega
    · exact ⟨g, cap', hv⟩
  go_wp2
  go_ret2
  refine ⟨?_, ?_, ?_, ((hk1.alloc _).grown hgrow (Lib.ownsRowF_kind (hown.alloc _))).setCell ⟨b, 1, none⟩ rfl _⟩
  · have e : ((bs.length : Int) + ((Lib.runeCells r).length : Int) - (bs.length : Int)) = ((Lib.runeCells r).length : Int) := by omega
    simp [e]
  · exact Lib.BuilderAtF.put (T := 72) (e := 5) hB hb2 (bs' := bs ++ Lib.runeCells r) (by simpa using hown') (by decide)
  · exact ((hb1.alloc (by have := hb1.size; omega) _).grown hgrow (by have := hb1.size; simp; omega) (fun k hk => (hown.lt k hk).1)).setCell (p := ⟨b, 1, none⟩) hB _
end Go.Proofs.YthcpdhniakpbaaaDoor.X
end

section
namespace Go.Proofs.YthcpdhniakpbaaaDoor.X
open Go.RowKit Go.Maps Go.WideMaps Go.Proofs.YthcpdhniakpbaaaDoorW.PrintWords Go.Proofs.YthcpdhniakpbaaaDoorW.PrintLast Go.Proofs.YthcpdhniakpbaaaDoorW.PrintMore
set_option linter.unusedVariables false
set_option linter.unusedSimpArgs false
def Small (l : List S41) : Prop := ∀ r ∈ l, r.f0.size ≤ 1048576 ∧ r.f1.size ≤ 1048576
instance (l : List S41) : Decidable (Small l) := by unfold Small; infer_instance
end Go.Proofs.YthcpdhniakpbaaaDoor.X
end

section
namespace Go.Proofs.YthcpdhniakpbaaaDoor.X
open Go.RowKit Go.Proofs.YthcpdhniakpbaaaDoorW.PrintWords Go.Proofs.YthcpdhniakpbaaaDoorW.PrintLast Go.Proofs.YthcpdhniakpbaaaDoorW.PrintMore
set_option linter.unusedVariables false
set_option linter.unusedSimpArgs false
theorem builder_drewN {w : World} {B b : Nat} {bs : List Value} (h : Lib.IsBuilderF 72 5 B b bs w) (n : Nat) : Lib.IsBuilderF 72 5 B b bs (w.drewN n) := h
theorem cell_alloc_old (w : World) (o : Obj) (a : Addr) (h : a.block < w.heap.size) : (w.alloc o).cell? a = w.cell? a := by
  exact World.cell?_alloc_old w o a (by omega)
def WriteOk (t : List S41) (s : ByteArray) : Prop := s.size ≤ 1048576 ∧ Small t ∧ t.length ≤ 1048576
instance (t : List S41) (s : ByteArray) : Decidable (WriteOk t s) := by unfold WriteOk; infer_instance
end Go.Proofs.YthcpdhniakpbaaaDoor.X
end

section
namespace Go.Proofs.YthcpdhniakpbaaaDoor.X
set_option linter.unusedVariables false
set_option linter.unusedSimpArgs false
open Go.RowKit Go.Proofs.YthcpdhniakpbaaaDoorW.PrintWords
theorem w64 {n : Int} (h0 : -9223372036854775808 ≤ n) (h1 : n ≤ 9223372036854775807) : wrap64 n = n := by unfold wrap64; omega
theorem bt_drop (s : ByteArray) (i j : Nat) (x : Int) (hx : x = ((i + j : Nat) : Int)) : bt s x = byN (s.data.toList.drop i) j := by
  subst hx
  unfold bt byN
  rw [List.getD_eq_getElem?_getD, List.getElem?_drop, Int.toNat_natCast]
  split
  · rename_i h
    rw [List.getElem?_eq_getElem (by simpa using h)]
    simp
    rfl
  · rename_i h
    rw [List.getElem?_eq_none (by simpa using h)]
    rfl
theorem dlen (s : ByteArray) : s.data.toList.length = s.size := Array.length_toList
def atR (l : List UInt8) : Int × Int := match charS l with | some (c, n) => (c, (n : Int)) | none => (0, 0)
theorem at_eq (s : ByteArray) (i : Nat) (hi : i < s.size) (hs : s.size ≤ 4611686018427387904) (k : Nat) :
    bookplateref04_at.f (k + 2) s (i : Int) = some (atR (s.data.toList.drop i)) := by
  have e0 := bt_drop s i 0 (i : Int) (by simp)
  have e1 := bt_drop s i 1 ((i : Int) + 1) (by simp)
  have e2 := bt_drop s i 2 ((i : Int) + 2) (by simp)
  obtain ⟨l0, l1⟩ := byN_range (s.data.toList.drop i) 0
  obtain ⟨m0, m1⟩ := byN_range (s.data.toList.drop i) 1
  obtain ⟨n0, n1⟩ := byN_range (s.data.toList.drop i) 2
  have hlen : (s.data.toList.drop i).length = s.size - i := by simp
  unfold atR charS
  rw [hlen]
  generalize byN (s.data.toList.drop i) 0 = b0 at *
  generalize byN (s.data.toList.drop i) 1 = b1 at *
  generalize byN (s.data.toList.drop i) 2 = b2 at *
  clear hlen
  have h64 : ∀ x : Int, 2 = x ↔ x = 2 := fun x => eq_comm
  unfold bookplateref04_at.f
  simp only [bookplateref04_at.j0, bookplateref04_at.j1]
  rw [w64 (n := (i : Int) + 1) (by omega) (by omega), w64 (n := (i : Int) + 2) (by omega) (by omega), e0, e1, e2, w64 (n := b0) (by omega) (by omega)]
  rw [if_pos (by omega), if_pos (by omega), if_neg (by omega : ¬ s.size - i = 0)]
  by_cases c1 : b0 < 128
  · rw [if_pos c1, if_pos c1]
    rfl
  · rw [if_neg c1, if_neg c1]
    by_cases c2 : 194 ≤ b0 ∧ b0 < 224
    · rw [if_pos (by omega), if_pos (by omega)]
      rw [if_neg (by omega : ¬ (224 ≤ b0 ∧ _))]
      by_cases c3 : (i : Int) + 1 < s.size
      · rw [if_pos c3, if_pos (by omega)]
        by_cases c4 : b1 / 64 = 2
        · have e : ((b1 / 64) == 2) = true := beq_iff_eq.mpr c4
          rw [e, if_pos (by omega : 194 ≤ b0 ∧ b0 < 224 ∧ 1 < s.size - i ∧ b1 / 64 = 2)]
          simp only [if_true]
          rw [if_pos (by omega), if_pos (by omega)]
          rw [w64 (n := b0 - 192) (by omega) (by omega), w64 (n := (b0 - 192) * 64) (by omega) (by omega), w64 (by omega) (by omega)]
          have : (b1 - 128) % 256 = b1 - 128 := by omega
          rw [this]
          rfl
        · have e : ((b1 / 64) == 2) = false := beq_eq_false_iff_ne.mpr c4
          rw [e, if_neg (by omega : ¬ (194 ≤ b0 ∧ b0 < 224 ∧ 1 < s.size - i ∧ b1 / 64 = 2))]
          simp only [Bool.false_eq_true, if_false]
          rw [if_neg (by omega)]
      · rw [if_neg c3, if_neg (by omega : ¬ (194 ≤ b0 ∧ b0 < 224 ∧ 1 < s.size - i ∧ b1 / 64 = 2))]
        simp only [Bool.false_eq_true, if_false]
        rw [if_neg (by omega)]
    · rw [if_neg (by omega : ¬ (194 ≤ b0 ∧ b0 < 224 ∧ 1 < s.size - i ∧ b1 / 64 = 2))]
      have hA : ∀ X Y Z : Option (Int × Int), (if b0 ≥ 194 then (if b0 < 224 then X else Y) else Y) = Y := by
        intro X Y Z
        by_cases c3 : b0 ≥ 194
        · rw [if_pos c3, if_neg (by omega)]
        · rw [if_neg c3]
      rw [hA _ _ none]
      simp only [Bool.false_eq_true, if_false]
      by_cases c3 : 224 ≤ b0 ∧ b0 < 240
      · rw [if_pos (by omega), if_pos (by omega)]
        by_cases c4 : (i : Int) + 2 < s.size
        · rw [if_pos c4, if_pos (by omega), if_pos (by omega)]
          by_cases c5 : b1 / 64 = 2
          · rw [if_pos c5, if_pos (by omega)]
            by_cases c6 : b2 / 64 = 2
            · have e : ((b2 / 64) == 2) = true := beq_iff_eq.mpr c6
              rw [e]
              simp only [if_true]
              rw [if_pos (by omega), if_pos (by omega), if_pos (by omega), if_pos (by omega)]
              have d1 : (b1 - 128) % 256 = b1 - 128 := by omega
              have d2 : (b2 - 128) % 256 = b2 - 128 := by omega
              rw [w64 (n := b0 - 224) (by omega) (by omega), w64 (n := (b0 - 224) * 4096) (by omega) (by omega), d1, d2, w64 (n := (b0 - 224) * 4096 + (b1 - 128) * 64) (by omega) (by omega), w64 (n := (b0 - 224) * 4096 + (b1 - 128) * 64 + (b2 - 128)) (by omega) (by omega)]
              by_cases c7 : (b0 - 224) * 4096 + (b1 - 128) * 64 + (b2 - 128) ≥ 2048
              · rw [if_pos c7, if_pos (by omega)]
                rfl
              · rw [if_neg c7, if_neg (by omega)]
            · have e : ((b2 / 64) == 2) = false := beq_eq_false_iff_ne.mpr c6
              rw [e, if_neg (by omega : ¬ (224 ≤ b0 ∧ _))]
              simp only [Bool.false_eq_true, if_false]
          · rw [if_neg c5, if_neg (by omega : ¬ (224 ≤ b0 ∧ _))]
        · rw [if_neg c4, if_neg (by omega : ¬ (224 ≤ b0 ∧ _))]
      · rw [if_neg (by omega : ¬ (224 ≤ b0 ∧ _))]
        by_cases c4 : b0 ≥ 224
        · rw [if_pos c4, if_neg (by omega)]
        · rw [if_neg c4]
theorem drop_enc (pre : List Int) (l : List UInt8) : (encL pre ++ l).drop (encL pre).length = l := by simp
theorem in_eq (c a b : Int) : bookplateref04_in.f c a b = some (decide (a ≤ c ∧ c ≤ b)) := by
  unfold bookplateref04_in.f
  by_cases h : c ≥ a
  · rw [if_pos h]; congr 1; apply decide_eq_decide.mpr; omega
  · rw [if_neg h, decide_eq_false (by omega)]
theorem listed_go (B : ByteArray) (c : Int) : ∀ (rest pre : List Int) (k : Nat), (∀ x ∈ rest, Ok x) → B.data.toList = encL pre ++ encL rest → B.size ≤ 1000000 → rest.length + 4 ≤ k →
    bookplateref04_listed.l0 k B c ((encL pre).length : Int) = some (decide (c ∈ rest))
  | [], pre, 0, ho, hB, hs, hk => by simp at hk
  | [], pre, k + 1, ho, hB, hs, hk => by
    have hsz : B.size = (encL pre).length := by rw [← dlen, hB]; simp [encL_nil]
    rw [bookplateref04_listed.l0, if_neg (by omega)]
    simp
  | x :: rest, pre, 0, ho, hB, hs, hk => by simp at hk
  | x :: rest, pre, k + 1, ho, hB, hs, hk => by
    have hp := (encC_length x).1
    have hsz : B.size = (encL pre).length + ((encC x).length + (encL rest).length) := by rw [← dlen, hB]; simp [encL_cons]
    obtain ⟨k, rfl⟩ : ∃ m, k = m + 2 := ⟨k - 2, by simp at hk; omega⟩
    rw [bookplateref04_listed.l0, if_pos (by omega), at_eq B _ (by omega) (by omega), hB, drop_enc, encL_cons]
    unfold atR
    rw [charS_enc x (ho x (by simp))]
    simp only [Option.bind_some]
    by_cases e : x = c
    · rw [if_pos e]; simp [e]
    · rw [if_neg e, w64 (by omega) (by omega)]
      have h2 : ((encL pre).length : Int) + ((encC x).length : Int) = ((encL (pre ++ [x])).length : Int) := by simp [encL_append, encL_cons, encL_nil]
      rw [h2, listed_go B c rest (pre ++ [x]) (k + 2) (fun y hy => ho y (by simp [hy])) (by rw [hB]; simp [encL_append, encL_cons, encL_nil]) hs (by simp at hk; omega)]
      have : c ≠ x := fun h => e h.symm
      simp [this]
theorem listed_eq (B : ByteArray) (c : Int) (L : List Int) (k : Nat) (ho : ∀ x ∈ L, Ok x) (hB : B.data.toList = encL L) (hs : B.size ≤ 1000000) (hk : L.length + 4 ≤ k) : bookplateref04_listed.f k B c = some (decide (c ∈ L)) := by
  have := listed_go B c L [] k ho (by simpa [encL_nil] using hB) hs hk
  simpa [bookplateref04_listed.f, encL_nil] using this
theorem latin_range : ∀ c ∈ latinL, 192 ≤ c ∧ c ≤ 382 := by decide +kernel
theorem greek_range : ∀ c ∈ greekL, 902 ≤ c ∧ c ≤ 974 := by decide +kernel
theorem cyr_range : ∀ c ∈ cyrL, 1025 ≤ c ∧ c ≤ 1169 := by decide +kernel
def refN (c : Int) : Int × Int :=
  if c = 32 ∨ c = 160 then (0, 4)
  else if (48 ≤ c ∧ c ≤ 57) ∨ c = 178 ∨ c = 179 ∨ c = 185 then (0, 3)
  else if (65 ≤ c ∧ c ≤ 90) ∨ (97 ≤ c ∧ c ≤ 122) ∨ c = 383 ∨ c = 64257 ∨ c = 64258 ∨ c ∈ latinL then (1, 1)
  else if (768 ≤ c ∧ c ≤ 772) ∨ (774 ≤ c ∧ c ≤ 776) ∨ (778 ≤ c ∧ c ≤ 780) ∨ c = 803 ∨ c = 807 ∨ c = 808 then (0, 2)
  else if (913 ≤ c ∧ c ≤ 929) ∨ (931 ≤ c ∧ c ≤ 937) ∨ (945 ≤ c ∧ c ≤ 969) ∨ c ∈ greekL then (2, 1)
  else if (1040 ≤ c ∧ c ≤ 1103) ∨ c ∈ cyrL then (3, 1)
  else if 33 ≤ c ∧ c ≤ 126 then (0, 5) else (0, 0)
set_option maxHeartbeats 4000000 in
theorem refN_eq (c : Int) : refN c = classN c := by
  have h1 := latin_range c
  have h2 := greek_range c
  have h3 := cyr_range c
  unfold refN classN letterS markS
  simp only [decide_eq_true_eq]
  by_cases q1 : c ∈ latinL
  · have := h1 q1
    simp only [q1, or_true, if_true]
    repeat' split
    all_goals first | rfl | omega
  · by_cases q2 : c ∈ greekL
    · have := h2 q2
      simp only [q1, q2, or_true, or_false, if_true]
      repeat' split
      all_goals first | rfl | omega
    · by_cases q3 : c ∈ cyrL
      · have := h3 q3
        simp only [q1, q2, q3, or_true, or_false, if_true]
        repeat' split
        all_goals first | rfl | omega
      · simp only [q1, q2, q3, or_true, or_false]
        repeat' split
        all_goals first | rfl | omega
theorem refClass_go {c : Int} (k : Nat) (hk : 300 ≤ k) : bookplateref04_Class.j0 k c = some (classN c) := by
  obtain ⟨m, rfl⟩ : ∃ m, k = m + 1 + 1 + 1 + 1 + 1 + 1 + 1 := ⟨k - 7, by omega⟩
  rw [← refN_eq]
  unfold refN
  have L1 : ∀ n, 280 ≤ n → bookplateref04_listed.f n latinB c = some (decide (c ∈ latinL)) := fun n hn => listed_eq _ c latinL n (fun x hx => by have := latin_range x hx; unfold Ok; omega) (by decide +kernel) (by decide +kernel) (Nat.le_trans (by decide +kernel) hn)
  have L2 : ∀ n, 280 ≤ n → bookplateref04_listed.f n greekB c = some (decide (c ∈ greekL)) := fun n hn => listed_eq _ c greekL n (fun x hx => by have := greek_range x hx; unfold Ok; omega) (by decide +kernel) (by decide +kernel) (Nat.le_trans (by decide +kernel) hn)
  have L3 : ∀ n, 280 ≤ n → bookplateref04_listed.f n cyrB c = some (decide (c ∈ cyrL)) := fun n hn => listed_eq _ c cyrL n (fun x hx => by have := cyr_range x hx; unfold Ok; omega) (by decide +kernel) (by decide +kernel) (Nat.le_trans (by decide +kernel) hn)
  have J6 : ∀ n b, bookplateref04_Class.j6 (n + 1) c b = some (if b = true then (3, 1) else if 33 ≤ c ∧ c ≤ 126 then (0, 5) else (0, 0)) := fun n b => by
    rw [bookplateref04_Class.j6]
    by_cases hb : b = true
    · rw [if_pos hb, if_pos hb]
    · rw [if_neg hb, if_neg hb, in_eq]
      simp only [Option.bind_some, decide_eq_true_eq]
      split <;> rfl
  have J5 : ∀ n b, 280 ≤ n → bookplateref04_Class.j5 (n + 1 + 1) c b = some (if b = true then (2, 1) else if (1040 ≤ c ∧ c ≤ 1103) ∨ c ∈ cyrL then (3, 1) else if 33 ≤ c ∧ c ≤ 126 then (0, 5) else (0, 0)) := fun n b hn => by
    rw [bookplateref04_Class.j5]
    by_cases hb : b = true
    · rw [if_pos hb, if_pos hb]
    · rw [if_neg hb, if_neg hb, in_eq]
      have := L3 (n + 1) (by omega)
      unfold cyrB at this
      rw [this]
      simp only [Option.bind_some, decide_eq_true_eq, J6]
      split
      · rename_i h; simp [h]
      · rename_i h; simp [h]
  have J4 : ∀ n b, 280 ≤ n → bookplateref04_Class.j4 (n + 1 + 1 + 1) c b = some (if b = true then (0, 2) else if (913 ≤ c ∧ c ≤ 929) ∨ (931 ≤ c ∧ c ≤ 937) ∨ (945 ≤ c ∧ c ≤ 969) ∨ c ∈ greekL then (2, 1) else if (1040 ≤ c ∧ c ≤ 1103) ∨ c ∈ cyrL then (3, 1) else if 33 ≤ c ∧ c ≤ 126 then (0, 5) else (0, 0)) := fun n b hn => by
    rw [bookplateref04_Class.j4]
    by_cases hb : b = true
    · rw [if_pos hb, if_pos hb]
    · rw [if_neg hb, if_neg hb, in_eq, in_eq, in_eq]
      have := L2 (n + 1 + 1) (by omega)
      unfold greekB at this
      rw [this]
      simp only [Option.bind_some, decide_eq_true_eq, J5 _ _ hn]
      by_cases h1 : 913 ≤ c ∧ c ≤ 929
      · simp [h1]
      · by_cases h2 : 931 ≤ c ∧ c ≤ 937
        · simp [h1, h2]
        · by_cases h3 : 945 ≤ c ∧ c ≤ 969
          · simp [h1, h2, h3]
          · simp only [h1, h2, h3, if_false, false_or]
  have J3 : ∀ n b, 280 ≤ n → bookplateref04_Class.j3 (n + 1 + 1 + 1 + 1) c b = some (if b = true then (1, 1) else if (768 ≤ c ∧ c ≤ 772) ∨ (774 ≤ c ∧ c ≤ 776) ∨ (778 ≤ c ∧ c ≤ 780) ∨ c = 803 ∨ c = 807 ∨ c = 808 then (0, 2) else if (913 ≤ c ∧ c ≤ 929) ∨ (931 ≤ c ∧ c ≤ 937) ∨ (945 ≤ c ∧ c ≤ 969) ∨ c ∈ greekL then (2, 1) else if (1040 ≤ c ∧ c ≤ 1103) ∨ c ∈ cyrL then (3, 1) else if 33 ≤ c ∧ c ≤ 126 then (0, 5) else (0, 0)) := fun n b hn => by
    rw [bookplateref04_Class.j3]
    by_cases hb : b = true
    · rw [if_pos hb, if_pos hb]
    · rw [if_neg hb, if_neg hb, in_eq, in_eq, in_eq]
      simp only [Option.bind_some, decide_eq_true_eq, J4 _ _ hn]
      by_cases h1 : 768 ≤ c ∧ c ≤ 772
      · simp [h1]
      · by_cases h2 : 774 ≤ c ∧ c ≤ 776
        · simp [h1, h2]
        · by_cases h3 : 778 ≤ c ∧ c ≤ 780
          · simp [h1, h2, h3]
          · by_cases h4 : c = 803
            · simp [h4]
            · by_cases h5 : c = 807
              · simp [h5]
              · simp only [h1, h2, h3, h4, h5, if_false, false_or, beq_iff_eq]
  have J2 : ∀ n b, 280 ≤ n → bookplateref04_Class.j2 (n + 1 + 1 + 1 + 1 + 1) c b = some (if b = true then (0, 3) else if (65 ≤ c ∧ c ≤ 90) ∨ (97 ≤ c ∧ c ≤ 122) ∨ c = 383 ∨ c = 64257 ∨ c = 64258 ∨ c ∈ latinL then (1, 1) else if (768 ≤ c ∧ c ≤ 772) ∨ (774 ≤ c ∧ c ≤ 776) ∨ (778 ≤ c ∧ c ≤ 780) ∨ c = 803 ∨ c = 807 ∨ c = 808 then (0, 2) else if (913 ≤ c ∧ c ≤ 929) ∨ (931 ≤ c ∧ c ≤ 937) ∨ (945 ≤ c ∧ c ≤ 969) ∨ c ∈ greekL then (2, 1) else if (1040 ≤ c ∧ c ≤ 1103) ∨ c ∈ cyrL then (3, 1) else if 33 ≤ c ∧ c ≤ 126 then (0, 5) else (0, 0)) := fun n b hn => by
    rw [bookplateref04_Class.j2]
    by_cases hb : b = true
    · rw [if_pos hb, if_pos hb]
    · rw [if_neg hb, if_neg hb, in_eq, in_eq]
      have := L1 (n + 1 + 1 + 1 + 1) (by omega)
      unfold latinB at this
      rw [this]
      simp only [Option.bind_some, decide_eq_true_eq, J3 _ _ hn]
      by_cases h1 : 65 ≤ c ∧ c ≤ 90
      · simp [h1]
      · by_cases h2 : 97 ≤ c ∧ c ≤ 122
        · simp [h1, h2]
        · by_cases h4 : c = 383
          · simp [h4]
          · by_cases h5 : c = 64257
            · simp [h5]
            · by_cases h6 : c = 64258
              · simp [h6]
              · simp only [h1, h2, h4, h5, h6, if_false, false_or]
  rw [bookplateref04_Class.j0]
  simp only [bookplateref04_Class.j1, in_eq, Option.bind_some, decide_eq_true_eq, J2 _ _ (show 280 ≤ m by omega)]
  by_cases h1 : c = 32
  · simp [h1]
  · simp only [h1, if_false, false_or, beq_iff_eq]
    by_cases h2 : c = 160
    · simp [h2]
    · simp only [h2, if_false]
      by_cases h3 : 48 ≤ c ∧ c ≤ 57
      · simp [h3]
      · by_cases h4 : c = 178
        · simp [h4]
        · by_cases h5 : c = 179
          · simp [h5]
          · simp only [h3, h4, h5, if_false, false_or]
theorem refClass_eq (c : Int) (k : Nat) (hk : 300 ≤ k) (hc : -9223372036854775808 ≤ c ∧ c ≤ 9223372036854775807) : bookplateref04_Class.f k c = some (classS c) := by
  unfold bookplateref04_Class.f classS narrow
  rw [in_eq]
  simp only [Option.bind_some, decide_eq_true_eq]
  split
  · rw [w64 (by omega) (by omega), refClass_go k hk]
  · rw [refClass_go k hk]
theorem refHas_eq (c : Int) (k : Nat) (hk : 300 ≤ k) (hc : -9223372036854775808 ≤ c ∧ c ≤ 9223372036854775807) : bookplateref04_Has.f k c = some (hasS c) := by
  unfold bookplateref04_Has.f
  rw [refClass_eq c k hk hc]
  rfl
theorem refDecode_go (s : ByteArray) (hs : s.size ≤ 10000000) : ∀ (n i : Nat) (acc : List Int) (k : Nat), s.size ≤ i + n → i ≤ s.size → n + 301 ≤ k → acc.length ≤ i → bookplateref04_Decode.l0 k s acc (i : Int) = some (decR acc (s.data.toList.drop i))
  | n, i, acc, 0, hn, hi, hk, ha => by omega
  | n, i, acc, k + 1, hn, hi, hk, ha => by
    rw [bookplateref04_Decode.l0]
    unfold decR
    by_cases e : i = s.size
    · rw [if_neg (by omega), List.drop_eq_nil_of_le (by rw [dlen]; omega), decS_nil]
      simp
    · rw [if_pos (by omega)]
      have hne : s.data.toList.drop i ≠ [] := fun h => by have := congrArg List.length h; rw [List.length_drop, dlen] at this; simp at this; omega
      obtain ⟨k, rfl⟩ : ∃ m, k = m + 2 := ⟨k - 2, by omega⟩
      rw [at_eq s i (by omega) (by omega), decS_cons hasS hne]
      unfold atR
      cases hc : charS (s.data.toList.drop i) with
      | none => simp
      | some q =>
        obtain ⟨c, m⟩ := q
        have hp := charS_pos hc
        rw [List.length_drop, dlen] at hp
        obtain ⟨hok, _, _⟩ := charS_back hc
        unfold Ok at hok
        simp only [Option.bind_some]
        rw [if_neg (by omega), refHas_eq c (k + 2) (by omega) (by omega)]
        simp only [Option.bind_some]
        cases hh : hasS c with
        | false => simp
        | true =>
          simp only [if_true]
          obtain ⟨n, rfl⟩ : ∃ n', n = n' + 1 := ⟨n - 1, by omega⟩
          rw [if_pos (by omega), w64 (by omega) (by omega), show ((i : Int) + (m : Int)) = ((i + m : Nat) : Int) by omega, refDecode_go s hs n (i + m) (acc ++ [c]) (k + 2) (by omega) (by omega) (by omega) (by simp; omega), List.drop_drop]
          unfold decR
          cases decS hasS (s.data.toList.drop (i + m)) with
          | none => rfl
          | some cs => simp
theorem refDecode_eq (s : ByteArray) (hs : s.size ≤ 10000000) (k : Nat) (hk : s.size + 301 ≤ k) : bookplateref04_Decode.f k s = some (decR [] s.data.toList) := by
  have := refDecode_go s hs s.size 0 [] k (by omega) (by omega) hk (by simp)
  simpa [bookplateref04_Decode.f] using this
end Go.Proofs.YthcpdhniakpbaaaDoor.X
end

section
namespace Go.Proofs.YthcpdhniakpbaaaDoor.X
set_option linter.unusedVariables false
set_option linter.unusedSimpArgs false
open Go.RowKit Go.Proofs.YthcpdhniakpbaaaDoorW.PrintWords
def Ans (o : Option Bool) (P : Prop) : Prop := ∃ b, o = some b ∧ (b = true ↔ P)
theorem Ans.congr {o : Option Bool} {P Q : Prop} (h : Ans o P) (e : P ↔ Q) : Ans o Q := ⟨h.choose, h.choose_spec.1, h.choose_spec.2.trans e⟩
theorem Ans.of {o : Option Bool} {P : Prop} [Decidable P] (h : Ans o P) : o = some (decide P) := by
  obtain ⟨b, rfl, hb⟩ := h
  congr 1
  cases b with
  | true => rw [decide_eq_true (hb.1 rfl)]
  | false => rw [decide_eq_false (fun h => by have := hb.2 h; cases this)]
theorem ext_bytes {a b : ByteArray} (h : a.data.toList = b.data.toList) : a = b := ByteArray.ext (Array.ext' h)
theorem app_arr (a b : List UInt8) : (⟨a.toArray⟩ : ByteArray) ++ ⟨b.toArray⟩ = ⟨(a ++ b).toArray⟩ := ext_bytes (by simp)
theorem size_arr (a : List UInt8) : (⟨a.toArray⟩ : ByteArray).size = a.length := by simp [ByteArray.size]
theorem encL_len (l : List Int) : (encL l).length ≤ 3 * l.length := by
  induction l with
  | nil => simp [encL_nil]
  | cons c l ih => have := (encC_length c).2; simp [encL_cons]; omega
theorem encL_ge (l : List Int) : l.length ≤ (encL l).length := by
  induction l with
  | nil => simp [encL_nil]
  | cons c l ih => have := (encC_length c).1; simp [encL_cons]; omega
end Go.Proofs.YthcpdhniakpbaaaDoor.X
end

section
namespace Go.Proofs.YthcpdhniakpbaaaDoor.X
open Go.RowKit Go.Proofs.YthcpdhniakpbaaaDoorW.PrintWords Go.Proofs.YthcpdhniakpbaaaDoorW.PrintLast Go.Proofs.YthcpdhniakpbaaaDoorW.PrintMore
set_option linter.unusedVariables false
set_option linter.unusedSimpArgs false
theorem has_any (c : Int) (h : hasS c = true) (w : World) : Calls Tryd.prog 95 #[.int .i64 c] w fun e w' => e = .returned (.bool true) ∧ Drawn0 w w' := by
  have hne : c ≠ 65533 := fun e => by rw [e, hasS_65533] at h; exact absurd h (by decide)
  exact repertoire_Has.calls 7 c true w (by rw [has_eq hne, h])
theorem rune_bytes {c : Int} (h : hasS c = true) : Lib.runeCells c = Lib.byteCells (encC c) := by
  have hr := hasS_range h
  have he : Lib.encodeRune c = encC c := by
    unfold Lib.encodeRune
    by_cases h1 : c < 128
    · rw [Lib.encodeRuneZ_one (by omega) (by omega), encC_one h1]; rfl
    · by_cases h2 : c < 2048
      · rw [Lib.encodeRuneZ_two (by omega) (by omega), encC_two (by omega) h2]; rfl
      · rw [Lib.encodeRuneZ_three (by omega), encC_three (by omega)]; rfl
  rw [← he, Lib.byteCells_encodeRune]
def EncOk (l : List Int) : Prop := l.length ≤ 1048576 ∧ ∀ c ∈ l, hasS c = true
instance (l : List Int) : Decidable (EncOk l) := by unfold EncOk; infer_instance
set_option maxHeartbeats 4000000 in
set_option maxRecDepth 100000 in
theorem encode_walk (A0 : Option Addr) (c0 : Nat) (l0 : List Int) (w : World) (hr0 : Kd.C (Kd.int .i64) w A0 l0.length l0) (hl : l0.length ≤ 1048576) (hh : ∀ c ∈ l0, hasS c = true) :
    Calls Tryd.prog 88 #[.slice A0 l0.length c0] w fun e w' => e = .returned (.tuple #[.string ⟨(encL l0).toArray⟩, .bool true]) ∧ Below w.heap.size w w' := by
  have HR0 := Aside0.mk hr0
  have HH := Aside0.mk hh
  clear hr0 hh
  go_enter Tryd.func88, Tryd.ntmps88
  go_wp2
  go_loopw [9] (fun v9 wr => ∃ i : Nat, v9 = .int .i64 (i : Int) ∧ i ≤ l0.length ∧ Aside0 (Lib.IsBuilderF 72 5 w.heap.size w.heap.size (Lib.byteCells (encL (l0.take i))) wr) ∧ Aside0 (Below w.heap.size w wr))
    (fun v9 _ => l0.length - (intOf v9).toNat)
  case atStart => exact ⟨0, rfl, Nat.zero_le _, ⟨Lib.IsBuilderF.of (Lib.fresh_isBuilder 72 5 w)⟩, ⟨(Below.refl _ _).alloc (Nat.le_refl _) _⟩⟩
  case round =>
    obtain ⟨i, rfl, hi, HBu, HB⟩ := hrel
    by_cases hlt : i < l0.length
    · obtain ⟨ad, rfl, hx⟩ := Kd.at_int HR0.out (i : Int) (by omega) (by omega)
      simp only [Int.toNat_natCast] at hx
      replace hx := (HB.out.cell (World.block_lt_of_cell? w _ hx)).trans hx
      have hrd : rd l0 (i : Int) = l0[i] := by unfold rd; simp [hlt]
      have hc := HH.out _ (List.getElem_mem hlt)
      have hstep : encL (l0.take (i + 1)) = encL (l0.take i) ++ encC l0[i] := by rw [List.take_succ_eq_append_getElem hlt, encL_append, encL_cons, encL_nil, List.append_nil]
      have hlen := encL_len (l0.take (i + 1))
      have hlen1 : (encL (l0.take i)).length ≤ 3 * 1048576 := by have := encL_len (l0.take i); simp at this; omega
      rw [hrd] at hx
      generalize l0[i] = c at hx hc hstep
      have hrg := hasS_range hc
      have HST : RowKit.Hid (Lib.byteCells (encL (l0.take (i + 1))) = Lib.byteCells (encL (l0.take i)) ++ Lib.runeCells c) := by
        show _ = _
        rw [hstep, rune_bytes hc]
        simp [Lib.byteCells]
      have HC := Lib.hid (fun W => has_any c hc W)
      have hbl : (Lib.byteCells (encL (l0.take i))).length = (encL (l0.take i)).length := by simp [Lib.byteCells]
      have hc1 : -2147483648 ≤ c := by omega
      have hc2 : c ≤ 2147483647 := by omega
      have hsz := HB.out.size
      have HW : RowKit.Hid (∀ q, ∀ w', w' = wr.drewN q → Calls Tryd.prog 101 #[.pointer (some ⟨w.heap.size, 0, none⟩), .int .i32 c] w' fun e w'' => e = .returned (.tuple #[.int .i64 (Lib.runeCells c).length, .nilIface]) ∧ (Lib.BuilderAtF 72 5 w.heap.size w.heap.size (.pointer (some ⟨w.heap.size, 0, none⟩)) (Lib.byteCells (encL (l0.take i)) ++ Lib.runeCells c) w'' ∧ Below w.heap.size w' w'' ∧ Lib.OthersKept 5 (some w.heap.size) w' w'')) :=
        fun q w' hw => by rw [hw]; exact writeRune w.heap.size w.heap.size _ c hc1 hc2 _ (builder_drewN HBu.out q) (by omega) hsz
      clear hrd hc hstep hlen hlen1 hbl hrg
      go_wp2_with (first | (go_at_call 95; refine (HC.out _).mono ?_; rintro e w' ⟨rfl, ⟨nd, rfl⟩⟩))
      refine (HW.out nd _ rfl).mono ?_
      rintro e w' ⟨rfl, hbu, hbb, hkk⟩
      go_wp2
      go_roundw
      case rel => exact ⟨i + 1, by go_num, by omega, ⟨by rw [HST.out]; exact .inr hbu⟩, ⟨(pw_below_drewN HB.out nd).trans hbb⟩⟩
      case measure => simp [intOf]; omega
    · obtain rfl : i = l0.length := by omega
      have hbu := HBu.out
      rw [List.take_length] at hbu
      go_wp2_with fail
      refine (Tryd.Builder_String_any_k _ _ _ _ hbu HB.out.size).mono ?_
      rintro e w6 ⟨rfl, _, hb6, _⟩
      have HB6 := Lib.hid (HB.out.trans hb6)
      clear hb6 hbu
      go_wp2
      go_ret2
      exact ⟨rfl, HB6.out⟩
def repertoire_Encode.f (l0 : List Int) : Option (ByteArray × Bool) := if EncOk l0 then some (⟨(encL l0).toArray⟩, true) else none
theorem repertoire_Encode.calls (A0 : Option Addr) (c0 : Nat) (l0 : List Int) (r1 : ByteArray) (r2 : Bool) (w : World) (hr0 : Kd.C (Kd.int .i64) w A0 l0.length l0) (hc0 : l0.length ≤ c0) (h : repertoire_Encode.f l0 = some (r1, r2)) :
    Calls Tryd.prog 88 #[.slice A0 l0.length c0] w fun e w' => e = .returned (.tuple #[.string r1, .bool r2]) ∧ Below w.heap.size w w' := by
  unfold repertoire_Encode.f at h
  split at h
  · rename_i ho
    obtain ⟨rfl, rfl⟩ := Prod.mk.inj (Option.some.inj h)
    exact encode_walk A0 c0 l0 w hr0 ho.1 ho.2
  · exact absurd h (by simp)
end Go.Proofs.YthcpdhniakpbaaaDoor.X
end

section
namespace Go.Proofs.YthcpdhniakpbaaaDoor.X
open Go.RowKit Go.Sort Go.Proofs.YthcpdhniakpbaaaDoorW.PrintWords Go.Proofs.YthcpdhniakpbaaaDoorW.PrintLast Go.Proofs.YthcpdhniakpbaaaDoorW.PrintMore
set_option linter.unusedVariables false
set_option linter.unusedSimpArgs false
def isMk (c : Int) : Bool := (classS c).2 == 2
def runF : Nat → List Int → List Int
  | 0, l => l
  | f + 1, l => sortS (l.takeWhile isMk) ++ (match l.dropWhile isMk with | [] => [] | c :: r => c :: runF f r)
def runS (l : List Int) : List Int := runF l.length l
def decD (cs : List Int) : List Int := runS (cs.flatMap splitS)
theorem has_ascii : (List.range 94).all (fun n => hasS (33 + n)) = true := by decide +kernel
theorem has_rows : nrows.all (fun r => r.b.all hasS && r.l.all hasS && hasS r.mark) = true := by decide +kernel
theorem row_has {r : NRow} (h : r ∈ nrows) : (∀ x ∈ r.b, hasS x = true) ∧ (∀ x ∈ r.l, hasS x = true) ∧ hasS r.mark = true := by
  have := List.all_eq_true.1 has_rows r h
  simpa [and_assoc] using this
theorem at0_mem {xs : List Int} {p : Int} (h0 : 0 ≤ p) (h1 : p < xs.length) : at0 xs p ∈ xs := by
  obtain ⟨hj, e⟩ := at0_get h0 h1
  rw [← e]
  exact List.getElem_mem hj
theorem splitR_has {c : Int} (h : hasS c = true) : ∀ rs : List NRow, (∀ r ∈ rs, r ∈ nrows) → ∀ x ∈ splitR c rs, hasS x = true
  | [], _, x, hx => by
    rw [splitR] at hx
    obtain rfl := List.mem_singleton.1 hx
    exact h
  | r :: rs, hr, x, hx => by
    rw [splitR] at hx
    split at hx
    · rename_i hm
      have hrn := hr r (by simp)
      have hl := (row_str hrn).2.2
      rcases List.mem_cons.1 hx with rfl | hx
      · exact (row_has hrn).1 _ (at0_mem (plc_ge.2 hm) (by have := plc_lt hm; omega))
      · obtain rfl := List.mem_singleton.1 hx
        exact (row_has hrn).2.2
    · exact splitR_has h rs (fun r' h' => hr r' (by simp [h'])) x hx
theorem split_has {c : Int} (h : hasS c = true) : ∀ x ∈ splitS c, hasS x = true := by
  intro x hx
  have hr := hasS_range h
  unfold splitS at hx
  split at hx
  · obtain rfl := List.mem_singleton.1 hx; decide +kernel
  split at hx
  · obtain rfl := List.mem_singleton.1 hx; decide +kernel
  split at hx
  · rename_i hc
    obtain rfl := List.mem_singleton.1 hx
    rcases hc with rfl | rfl <;> decide +kernel
  split at hx
  · obtain rfl := List.mem_singleton.1 hx; decide +kernel
  split at hx
  · rcases List.mem_cons.1 hx with rfl | hx
    · decide +kernel
    · obtain rfl := List.mem_singleton.1 hx; decide +kernel
  split at hx
  · rcases List.mem_cons.1 hx with rfl | hx
    · decide +kernel
    · obtain rfl := List.mem_singleton.1 hx; decide +kernel
  split at hx
  · obtain rfl := List.mem_singleton.1 hx
    have := List.all_eq_true.1 has_ascii (c - 65281).toNat (List.mem_range.2 (by omega))
    rw [show (33 : Int) + ((c - 65281).toNat : Int) = c - 65248 by omega] at this
    exact this
  split at hx
  · obtain rfl := List.mem_singleton.1 hx
    exact h
  · exact splitR_has h nrows (fun _ hr => hr) x hx
theorem splitR_len (c : Int) : ∀ rs, (splitR c rs).length ≤ 2
  | [] => by simp [splitR]
  | r :: rs => by
    rw [splitR]
    split
    · simp
    · exact splitR_len c rs
theorem split_len (c : Int) : (splitS c).length ≤ 2 := by
  unfold splitS
  repeat' split
  all_goals first | simp | exact splitR_len _ _
theorem flat_len (cs : List Int) : (cs.flatMap splitS).length ≤ 2 * cs.length := by
  induction cs with
  | nil => simp
  | cons c cs ih => rw [List.flatMap_cons, List.length_append, List.length_cons]; have := split_len c; omega
theorem flat_has {cs : List Int} (h : ∀ c ∈ cs, hasS c = true) : ∀ x ∈ cs.flatMap splitS, hasS x = true := by
  intro x hx
  obtain ⟨c, hc, hx⟩ := List.mem_flatMap.1 hx
  exact split_has (h c hc) x hx
theorem R_sorted {w0 w' : World} {g i base n cap : Nat} {ok : Nat → Prop} {cur : List Int} {d' : Array Int} (h : (Kd.int .i64).R 3 w0 base ok (.slice (some ⟨g, 0, none⟩) n cap) cur) (hs : SWI w0 g i d' w') (hsz : i + d'.size ≤ cur.length) (hg : g < w0.heap.size) :
    (Kd.int .i64).R 3 w' base ok (.slice (some ⟨g, 0, none⟩) n cap) (cur.take i ++ d'.toList ++ cur.drop (i + d'.size)) ∧ w0.grownBy w' (some g) := by
  obtain ⟨m, os, rfl⟩ := hs
  have hn : n = cur.length := (Kd.R_reads' h).1
  have hlen : (cur.take i ++ d'.toList ++ cur.drop (i + d'.size)).length = cur.length := by simp; omega
  have hheap : ∀ k, k < w0.heap.size → (sortWorld encI w0 g i m d' os).heap[k]? = (w0.heap.modify g (onCells (putCells encI i d')))[k]? := by
    intro k hk
    unfold sortWorld grow putRow mapBlock Sort.ahead
    simp only
    rw [Array.getElem?_append_left (by simpa using hk)]
  have hsize : w0.heap.size ≤ (sortWorld encI w0 g i m d' os).heap.size := by
    unfold sortWorld
    rw [size_grow, size_putRow]
    show w0.heap.size ≤ w0.heap.size + _
    omega
  refine ⟨?_, rfl, rfl, rfl, hsize, fun k hk hne => ?_⟩
  · have hok := h.1
    have hown := Kd.own_of_R h
    refine Kd.R_of_own ?_ hok
    obtain ⟨h1, h2⟩ := hown
    refine ⟨by simp [encs], .inr ?_⟩
    rcases h2 with ⟨hv, _⟩ | ⟨g', cap', cur', hv, hb, hh, hc1, hc2, hc3, hc4⟩
    · cases hv
    · injection hv with ha hnn hcc
      injection ha with ha
      injection ha with hg'
      subst hg' hcc
      refine ⟨g, cap, putCells encI i d' cur', by rw [hlen, hn], hb, ?_, by rw [hlen]; omega, hc2, by simp [putCells]; omega, ?_⟩
      · rw [hheap g hg, Array.getElem?_modify, if_pos rfl, hh]
        rfl
      · apply List.ext_getElem?
        intro j
        rw [List.getElem?_take]
        have hcur : ∀ j, j < cur.length → cur'[j]? = some (encI cur[j]!) := by
          intro j hj
          have : (cur'.toList.take (cur.length * 1))[j]? = (encs (Value.int .i64) cur)[j]? := by rw [hc4]
          rw [List.getElem?_take, if_pos (by omega)] at this
          rw [Array.getElem?_toList] at this
          rw [this]
          simp [encs, hj]
        rw [hlen]
        by_cases hj : j < cur.length
        · rw [if_pos (by omega), Array.getElem?_toList]
          simp only [putCells, Array.getElem?_mapIdx, hcur j hj, Option.map_some]
          simp only [encs, List.getElem?_map]
          by_cases c1 : j < i
          · rw [if_neg (by omega), List.append_assoc, List.getElem?_append_left (by simp; omega), List.getElem?_take, if_pos c1]
            simp [hj]
          · by_cases c2 : j < i + d'.size
            · rw [if_pos ⟨by omega, c2⟩, List.append_assoc, List.getElem?_append_right (by simp; omega), List.getElem?_append_left (by simp; omega)]
              have e : j - (cur.take i).length = j - i := by simp; omega
              rw [e, Array.getElem?_toList]
              have : j - i < d'.size := by omega
              simp [this]
            · rw [if_neg (by omega), List.getElem?_append_right (by simp; omega), List.getElem?_drop]
              have e : i + d'.size + (j - (cur.take i ++ d'.toList).length) = j := by simp; omega
              rw [e]
              simp [hj]
        · rw [if_neg (by omega)]
          symm
          rw [List.getElem?_eq_none_iff]
          simp [encs]
          omega
  · rw [hheap k hk, Array.getElem?_modify, if_neg (fun e => hne (by rw [e]))]
end Go.Proofs.YthcpdhniakpbaaaDoor.X
end

section
namespace Go.Proofs.YthcpdhniakpbaaaDoor.X
open Go.RowKit Go.Sort Go.Proofs.YthcpdhniakpbaaaDoorW.PrintWords Go.Proofs.YthcpdhniakpbaaaDoorW.PrintLast Go.Proofs.YthcpdhniakpbaaaDoorW.PrintMore
set_option linter.unusedVariables false
set_option linter.unusedSimpArgs false
theorem mark_any (c : Int) (h : hasS c = true) (W : World) : Calls Tryd.prog 67 #[.int .i64 c] W fun e w' => e = .returned (.bool (isMk c)) ∧ Drawn0 W w' := by
  have hne : c ≠ 65533 := fun e => by rw [e, hasS_65533] at h; exact absurd h (by decide)
  exact normal_mark.calls 7 c _ W (isMark_eq hne 0)
theorem split_any (c : Int) (h : hasS c = true) (W : World) : Calls Tryd.prog 85 #[.int .i64 c] W (SplitGoal W (splitS c)) := by
  have hne : c ≠ 65533 := fun e => by rw [e, hasS_65533] at h; exact absurd h (by decide)
  have hr := hasS_range h
  exact split_walk c (by omega) (by omega) hne W
def RunInv (T : List Int) (i : Nat) (cur : List Int) : Prop := (∃ A B f, cur = A ++ B ∧ A.length = i ∧ B.length ≤ f ∧ A ++ runF f B = T) ∨ (cur.length < i ∧ cur = T)
theorem runF_nil : ∀ f, runF f [] = []
  | 0 => rfl
  | f + 1 => rfl
theorem RunInv.stop {T cur : List Int} {i : Nat} (h : RunInv T i cur) (hi : cur.length ≤ i) : cur = T := by
  rcases h with ⟨A, B, f, rfl, h1, h2, h3⟩ | h
  · have : B = [] := by rw [List.length_append] at hi; exact List.length_eq_zero_iff.1 (by omega)
    subst this
    rw [← h3, runF_nil]
  · exact h.2
theorem RunInv.step {T cur : List Int} {i k : Nat} (h : RunInv T i cur) (hi : i < cur.length) (hik : i ≤ k) (hk : k ≤ cur.length) (hm : ∀ j (hj : j < cur.length), i ≤ j → j < k → isMk cur[j] = true) (he : ∀ hj : k < cur.length, isMk cur[k] = false) :
    RunInv T (k + 1) (cur.take i ++ sortS ((cur.drop i).take (k - i)) ++ cur.drop k) := by
  rcases h with ⟨A, B, f, rfl, rfl, h2, h3⟩ | h
  · have hA : (A ++ B).take A.length = A := by simp
    have hB : (A ++ B).drop A.length = B := by simp
    have hD : (A ++ B).drop k = B.drop (k - A.length) := by rw [List.drop_append]; simp [List.drop_of_length_le hik]
    rw [hA, hB, hD]
    rw [List.length_append] at hi hk
    obtain ⟨f, rfl⟩ : ∃ g, f = g + 1 := ⟨f - 1, by omega⟩
    have hB1 : ∀ j (hj : j < B.length), j < k - A.length → isMk B[j] = true := fun j hj hjk => by
      have := hm (A.length + j) (by rw [List.length_append]; omega) (by omega) (by omega)
      rw [List.getElem_append_right (by omega)] at this
      simpa using this
    have htw : B.takeWhile isMk = B.take (k - A.length) ∧ B.dropWhile isMk = B.drop (k - A.length) := by
      have e1 : ∀ x ∈ B.take (k - A.length), isMk x = true := by
        intro x hx
        obtain ⟨j, hj, rfl⟩ := List.mem_iff_getElem.1 hx
        rw [List.getElem_take]
        have hj' : j < k - A.length ∧ j < B.length := by have := hj; simp at this; omega
        exact hB1 j hj'.2 hj'.1
      have hsp : B = B.take (k - A.length) ++ B.drop (k - A.length) := (List.take_append_drop _ _).symm
      rcases Nat.lt_or_ge (k - A.length) B.length with hlt | hge
      · have hx := he (by rw [List.length_append]; omega)
        rw [List.getElem_append_right (by omega)] at hx
        have hd := List.drop_eq_getElem_cons hlt
        constructor
        · conv => lhs; rw [hsp, List.takeWhile_append_of_pos e1, hd, List.takeWhile_cons, if_neg (by rw [hx]; decide), List.append_nil]
        · conv => lhs; rw [hsp, List.dropWhile_append_of_pos e1, hd, List.dropWhile_cons, if_neg (by rw [hx]; decide)]
          rw [hd]
      · have hd : B.drop (k - A.length) = [] := List.drop_of_length_le hge
        have ht : B.take (k - A.length) = B := List.take_of_length_le hge
        rw [ht] at e1
        rw [hd, ht]
        exact ⟨by have := List.takeWhile_append_of_pos (l₂ := []) e1; simpa using this, by have := List.dropWhile_append_of_pos (l₂ := []) e1; simpa using this⟩
    rw [runF, htw.1, htw.2] at h3
    rcases Nat.lt_or_ge (k - A.length) B.length with hlt | hge
    · rw [List.drop_eq_getElem_cons hlt] at h3 ⊢
      refine .inl ⟨A ++ sortS (B.take (k - A.length)) ++ [B[k - A.length]], B.drop (k - A.length + 1), f, by simp, by simp [sortS_length]; omega, by simp; omega, by rw [← h3]; simp⟩
    · rw [List.drop_of_length_le hge] at h3 ⊢
      refine .inr ⟨by simp [sortS_length]; omega, by rw [← h3]; simp⟩
  · omega
theorem row_holds {w : World} {g base n cap i k : Nat} {ok : Nat → Prop} {cur : List Int} (h : (Kd.int .i64).R 3 w base ok (.slice (some ⟨g, 0, none⟩) n cap) cur) (hk : k ≤ cur.length) (hik : i ≤ k) : Row1 encI w g i ((cur.drop i).take (k - i)).toArray := by
  refine ⟨encI_one, fun j hj => ?_, Kd.R_lt h g (by simp [Value.ownBlock])⟩
  have hj' : j < k - i := by have := hj; simp at this; omega
  have hn : n = cur.length := (Kd.R_reads' h).1
  have hc := Kd.R_celln 0 h ((i + j : Nat) : Int) (by omega) (by omega)
  rw [Int.toNat_natCast] at hc
  have e : rdOf 0 cur ((i + j : Nat) : Int) = ((cur.drop i).take (k - i)).toArray[j]! := by
    have : i + j < cur.length := by omega
    unfold rdOf
    rw [Int.toNat_natCast]
    simp [hj', this]
  rw [e] at hc
  exact hc
set_option maxHeartbeats 8000000 in
set_option maxRecDepth 100000 in
theorem decomposed_walk (s : ByteArray) (hs : s.size ≤ 100000) (w : World) (hG : GT1 w) :
    Calls Tryd.prog 64 #[.string s] w fun e w' => ∃ v0 : Value, e = .returned (.tuple #[v0, .bool (decR [] s.data.toList).2]) ∧ Kd.R (Kd.int .i64) 3 w' w.heap.size (fun _ => True) v0 (decD (decR [] s.data.toList).1) ∧ Below w.heap.size w w' := by
  have HDC : Hid (∀ W, GT1 W → Calls Tryd.prog 78 #[.string s] W fun e w' => ∃ v0 : Value, e = .returned (.tuple #[v0, .bool (decR [] s.data.toList).2]) ∧ Kd.R (Kd.int .i64) 3 w' W.heap.size (fun _ => True) v0 (decR [] s.data.toList).1 ∧ Below W.heap.size W w') :=
    fun W hW => repertoire_Decode.calls (s.size + 8) s _ _ W hW (decode_eq s (by omega) (Nat.le_refl _))
  have hlen : (decR [] s.data.toList).1.length ≤ 100000 := by
    unfold decR
    cases hd : decS hasS s.data.toList with
    | none => simp
    | some cs =>
      have h1 := (decS_back hd).1
      have h2 := encL_ge cs
      rw [← h1] at h2
      have h3 : s.data.toList.length = s.size := Array.length_toList
      simp
      omega
  have hhas : ∀ c ∈ (decR [] s.data.toList).1, hasS c = true := by
    unfold decR
    cases hd : decS hasS s.data.toList with
    | none => simp
    | some cs => simpa using fun c hc => ((decS_back hd).2 c hc).2
  generalize (decR [] s.data.toList).2 = okb at HDC ⊢
  generalize (decR [] s.data.toList).1 = cs at HDC hlen hhas ⊢
  have HH := Aside0.mk hhas
  have HG := Aside0.mk hG
  have HFL := Lib.hid (flat_len cs)
  have HFH := Lib.hid (flat_has hhas)
  obtain ⟨T, hT⟩ : ∃ T, T = decD cs := ⟨_, rfl⟩
  have HT : Hid (T = runS (cs.flatMap splitS)) := hT
  rw [← hT]
  clear hT hhas hG hs
  have hi3 := @info3
  go_enter Tryd.func64, Tryd.ntmps64
  go_wp2_with fail
  refine (HDC.out _ HG.out).mono ?_
  rintro e w1 ⟨v4, rfl, hr4, hb1⟩
  clear HDC HG
  obtain ⟨A4, c4, rfl⟩ := Kd.R_slice hr4
  have hC4 := Aside0.mk (Kd.R_reads' hr4).2.2
  have HB1 := Aside0.mk hb1
  clear hr4 hb1
  go_wp2_with fail
  go_loopg [6, 8, 18] cs.length (fun g1 v6 v8 v18 wr => ∃ (i : Nat) (vo : Value), v18 = .int .i64 (i : Int) ∧ vo = v6 ∧ i ≤ cs.length ∧ cs.length - i ≤ g1 ∧ Aside0 (Kd.R (Kd.int .i64) 3 wr w1.heap.size (fun _ => True) vo ((cs.take i).flatMap splitS)) ∧ Aside0 (Below w1.heap.size w1 wr))
  case atStart => exact ⟨0, _, rfl, rfl, by omega, by omega, ⟨Kd.R_nil _ _ _ _ _⟩, ⟨Below.refl _ _⟩⟩
  case round =>
    obtain ⟨i, vo, rfl, rfl, hi, hg1, HO, HB⟩ := hrel
    by_cases hlt : i < cs.length
    · obtain ⟨ad, rfl, hx⟩ := Kd.at_int hC4.out (i : Int) (by omega) (by omega)
      simp only [Int.toNat_natCast] at hx
      replace hx := (HB.out.cell (World.block_lt_of_cell? w1 _ hx)).trans hx
      have hrd : rd cs (i : Int) = cs[i] := by unfold rd; simp [hlt]
      have hc := HH.out _ (List.getElem_mem hlt)
      have hstep : (cs.take (i + 1)).flatMap splitS = (cs.take i).flatMap splitS ++ splitS cs[i] := by rw [List.take_succ_eq_append_getElem hlt, List.flatMap_append, List.flatMap_cons, List.flatMap_nil, List.append_nil]
      have hl1 := flat_len (cs.take i)
      have hl2 : (cs.take i).length = i := by simp; omega
      rw [hrd] at hx
      generalize cs[i] = c at hx hc hstep
      have HST : RowKit.Hid ((cs.take (i + 1)).flatMap splitS = (cs.take i).flatMap splitS ++ splitS c) := hstep
      have HSA := Lib.hid (split_any c hc wr)
      have hl3 := split_len c
      obtain ⟨cur, hcur⟩ : ∃ cur, cur = (cs.take i).flatMap splitS := ⟨_, rfl⟩
      rw [← hcur] at HST HO hl1
      have hl4 : cur.length ≤ 200000 := by omega
      clear hrd hstep hc hcur hl1 hl2
      have hsz := HB.out.size
      go_wp2_with fail
      refine HSA.out.mono ?_
      rintro e w2 ⟨v, rfl, hrv, hb2⟩
      obtain ⟨A, c', rfl⟩ := Kd.R_slice hrv
      have HC2 := Aside0.mk (Kd.R_reads' hrv).2.2
      have HO2 := Aside0.mk (Kd.R_below HO.out hb2)
      have HB2 := Aside0.mk (below_step HB.out hb2)
      have hsz2 := HB2.out.size
      clear hrv hb2 HO HSA
      go_wp2_with ((with_reducible refine gate_dst (N := 25) rfl ?_); refine Kd.R_append_row (Value.int .i64) 0 (w0 := w1) w1.heap.size rfl (.tmp 22) (.tmp 24) 35 3 (.int .i64 0) 8 rfl Tryd.underlying35 info3 rfl (by decide) vo cur (splitS c) A _ c' (fun _ => True) rfl rfl (fun _ _ => trivial) HO2.out HC2.out HB2.out hsz2 (by omega) ?_; intro v1 w3 hr3 hb3 hg3 hat3; clear hg3 hat3)
      go_roundg (cs.length - (i + 1))
      case measure => omega
      case rel => exact ⟨i + 1, v1, by go_num, rfl, by omega, by omega, ⟨by rw [HST.out]; exact hr3⟩, ⟨hb3⟩⟩
    · obtain rfl : i = cs.length := by omega
      have HO1 := HO.out
      rw [List.take_length] at HO1
      obtain ⟨cur, hcur⟩ : ∃ cur, cur = cs.flatMap splitS := ⟨_, rfl⟩
      rw [← hcur] at HO1 HFL HFH HT
      have hcl : cur.length ≤ 200000 := by have := HFL.out; omega
      have HOc := Aside0.mk HO1
      have HR0 : Hid (RunInv T 0 cur) := .inl ⟨[], cur, cur.length, rfl, rfl, Nat.le_refl _, by rw [HT.out]; rfl⟩
      clear HO HO1 hcur HT HFL
      obtain ⟨Ao, co, rfl⟩ := Kd.R_slice HOc.out
      obtain ⟨n, hn⟩ : ∃ n, n = cur.length := ⟨_, rfl⟩
      have HN : Hid (cur.length = n) := hn.symm
      rw [← hn] at hcl HOc ⊢
      clear hn
      go_wp2_with fail
      go_loopg [9, 10] n (fun g1 v9 v10 wr => ∃ (i : Nat) (cu : List Int), v9 = .int .i64 (i : Int) ∧ i ≤ n + 1 ∧ n - i ≤ g1 ∧ Hid (cu.length = n) ∧ Aside0 (Kd.R (Kd.int .i64) 3 wr w1.heap.size (fun _ => True) (.slice Ao n co) cu) ∧ Aside0 (Below w1.heap.size w1 wr) ∧ Hid (RunInv T i cu) ∧ Hid (∀ x ∈ cu, hasS x = true))
      case atStart => exact ⟨0, cur, rfl, by omega, by omega, HN, HOc, HB, HR0, HFH⟩
      case round =>
        clear HOc HB HR0 HFH HN
        obtain ⟨i, cu, rfl, hin, hg1, HN, HO, HB, HR, HF⟩ := hrel
        by_cases hlt : i < n
        · have hltz : (i : Int) < (n : Int) := by omega
          obtain ⟨g, cap, he, hbg, hgs, _⟩ := Kd.R_form HO.out (by have := HN.out; omega)
          have he' := he
          rw [HN.out] at he'
          injection he' with e1 e2 e3
          subst e1
          subst e3
          clear he e2
          go_upto_block 4 with fail
          go_cut [10] from 34 to 46 (fun v10 wc => ∃ k : Nat, v10 = .int .i64 (k : Int) ∧ i ≤ k ∧ k ≤ n ∧ Aside0 (Kd.R (Kd.int .i64) 3 wc w1.heap.size (fun _ => True) (.slice (some ⟨g, 0, none⟩) n co) cu) ∧ Aside0 (Below w1.heap.size w1 wc) ∧ Hid (∀ j (hj : j < cu.length), i ≤ j → j < k → isMk cu[j] = true) ∧ Hid (∀ hj : k < cu.length, isMk cu[k] = false))
          case first =>
            go_wp2_with fail
            go_loopg [10] (n - i) (fun g2 v10 wx => ∃ k : Nat, v10 = .int .i64 (k : Int) ∧ i ≤ k ∧ k ≤ n ∧ n - k ≤ g2 ∧ Aside0 (Kd.R (Kd.int .i64) 3 wx w1.heap.size (fun _ => True) (.slice (some ⟨g, 0, none⟩) n co) cu) ∧ Aside0 (Below w1.heap.size w1 wx) ∧ Hid (∀ j (hj : j < cu.length), i ≤ j → j < k → isMk cu[j] = true))
            case atStart => exact ⟨i, rfl, by omega, by omega, by omega, HO, HB, fun j hj h1 h2 => by omega⟩
            case round =>
              clear HO HB
              obtain ⟨k, rfl, hik, hkn, hg2, HO, HB, HM⟩ := hrel
              by_cases hk : k < n
              · have hkz : (k : Int) < (n : Int) := by omega
                have hkl : k < cu.length := by have := HN.out; omega
                have hce := (Kd.R_celln 0 HO.out (k : Int) (by omega) (by omega)).1
                have hrd : rdOf 0 cu (k : Int) = cu[k] := by unfold rdOf; simp [hkl]
                rw [hrd, Int.toNat_natCast] at hce
                have hhc := HF.out _ (List.getElem_mem hkl)
                have HMK := Lib.hid (mark_any cu[k] hhc)
                obtain ⟨mb, hmb⟩ : ∃ b, isMk cu[k] = b := ⟨_, rfl⟩
                have HMB : Hid (isMk cu[k] = mb) := hmb
                rw [hmb] at HMK
                clear hmb hrd
                generalize cu[k] = c at hce HMK hhc
                cases mb with
                | true =>
                  go_wp2_with (go_at_call 67; refine (HMK.out _).mono ?_; rintro e w' ⟨rfl, ⟨nd, rfl⟩⟩)
                  go_roundg (n - (k + 1))
                  case measure => omega
                  case rel => exact ⟨k + 1, by go_num, by omega, by omega, by omega, ⟨Kd.R_drewN HO.out nd⟩, ⟨pw_below_drewN HB.out nd⟩, fun j hj h1 h2 => by
                    by_cases e : j = k
                    · subst e; exact HMB.out
                    · exact HM.out j hj h1 (by omega)⟩
                | false =>
                  go_wp2_with (go_at_call 67; refine (HMK.out _).mono ?_; rintro e w' ⟨rfl, ⟨nd, rfl⟩⟩)
                  go_meet
                  exact ⟨k, rfl, hik, hkn, ⟨Kd.R_drewN HO.out nd⟩, ⟨pw_below_drewN HB.out nd⟩, HM, fun _ => HMB.out⟩
              · have hkz : ¬ (k : Int) < (n : Int) := by omega
                obtain rfl : k = n := by omega
                go_wp2_with fail
                go_meet
                exact ⟨k, rfl, hik, hkn, HO, HB, HM, fun hj => absurd hj (by have := HN.out; omega)⟩
          case rest =>
            clear HO HB
            obtain ⟨k, rfl, hik, hkn, HO, HB, HM, HE⟩ := hcut
            have HS := Lib.hid (HR.out.step (by have := HN.out; omega) hik (by have := HN.out; omega) HM.out HE.out)
            clear HR HM HE
            by_cases hki : i < k
            · have hkz : (k : Int) > (i : Int) := by omega
              have hnc : n ≤ co := (Kd.R_reads' HO.out).2.1
              have hkc : k ≤ co := by omega
              have hdn : ((cu.drop i).take (k - i)).toArray.size = k - i := by have := HN.out; simp; omega
              have C := sortStable_calls g i (co - i) ((cu.drop i).take (k - i)).toArray wc (row_holds HO.out (by have := HN.out; omega) hik) (by omega)
              rw [hdn] at C
              have CC := Lib.hid C
              have HDN := Lib.hid hdn
              clear C hdn
              go_wp2_with fail
              refine CC.out.mono ?_
              rintro e w' ⟨rfl, d', hs', hd', S'⟩
              have hd2 : d'.toList = sortS ((cu.drop i).take (k - i)) := hd'
              obtain ⟨HR3, HG3⟩ := R_sorted HO.out S' (by have := HN.out; omega) (Kd.R_lt HO.out g (by simp [Value.ownBlock]))
              rw [hd2, hs', show i + (k - i) = k by omega] at HR3
              have HO3 := Aside0.mk HR3
              have HB3 : Aside0 (Below w1.heap.size w1 w') := ⟨HB.out.trans ⟨HG3.os, HG3.tape, HG3.output, HG3.size, fun q hq => HG3.block q (by have := HB.out.size; omega) (by intro e; injection e with e; omega)⟩⟩
              have HN3 : Hid ((cu.take i ++ sortS ((cu.drop i).take (k - i)) ++ cu.drop k).length = n) := by show _ = _; have := HN.out; rw [List.length_append, List.length_append, sortS_length]; simp; omega
              have HF3 : Hid (∀ x ∈ cu.take i ++ sortS ((cu.drop i).take (k - i)) ++ cu.drop k, hasS x = true) := fun x hx => by
                rcases List.mem_append.1 hx with hx | hx
                · rcases List.mem_append.1 hx with hx | hx
                  · exact HF.out x (List.mem_of_mem_take hx)
                  · exact HF.out x (List.mem_of_mem_drop (List.mem_of_mem_take (sortS_mem.1 hx)))
                · exact HF.out x (List.mem_of_mem_drop hx)
              generalize cu.take i ++ sortS ((cu.drop i).take (k - i)) ++ cu.drop k = cu2 at HO3 HN3 HF3 HS
              clear CC HDN hs' hd' hd2 S' HR3 HG3 HF HN HO HB
              go_wp2_with fail
              go_roundg (n - (k + 1))
              case measure => omega
              case rel => exact ⟨k + 1, cu2, by go_num, by omega, by omega, HN3, HO3, HB3, HS, HF3⟩
            · have hkz : ¬ (k : Int) > (i : Int) := by omega
              obtain rfl : k = i := by omega
              have HS2 : Hid (RunInv T (k + 1) cu) := by
                have := HS.out
                rw [Nat.sub_self, List.take_zero, sortS_nil, List.append_nil, List.take_append_drop] at this
                exact this
              go_wp2_with fail
              go_roundg (n - (k + 1))
              case measure => omega
              case rel => exact ⟨k + 1, cu, by go_num, by omega, by omega, HN, HO, HB, HS2, HF⟩
        · have hltz : ¬ (i : Int) < (n : Int) := by omega
          have hfin := HR.out.stop (by have := HN.out; omega)
          subst hfin
          go_wp2_with fail
          go_ret2
          have hle := HB1.out.size
          refine ⟨_, rfl, ?_, below_step HB1.out (HB.out)⟩
          exact Kd.R_lower HO.out hle
def DecOk (s : ByteArray) : Prop := s.size ≤ 100000
instance (s : ByteArray) : Decidable (DecOk s) := by unfold DecOk; infer_instance
def normal_decomposed.f (a0 : ByteArray) : Option (List Int × Bool) := if DecOk a0 then some (decD (decR [] a0.data.toList).1, (decR [] a0.data.toList).2) else none
theorem normal_decomposed.calls (a0 : ByteArray) (r1 : List Int) (r2 : Bool) (w : World) (hG : GT1 w) (h : normal_decomposed.f a0 = some (r1, r2)) :
    Calls Tryd.prog 64 #[.string a0] w fun e w' => ∃ v0_ : Value, e = .returned (.tuple #[v0_, .bool r2]) ∧ Kd.R (Kd.int .i64) 3 w' w.heap.size (fun _ => True) v0_ r1 ∧ Below w.heap.size w w' := by
  unfold normal_decomposed.f at h
  split at h
  · rename_i ho
    obtain ⟨rfl, rfl⟩ := Prod.mk.inj (Option.some.inj h)
    exact decomposed_walk a0 ho w hG
  · exact absurd h (by simp)
end Go.Proofs.YthcpdhniakpbaaaDoor.X
end

section
namespace Go.Proofs.YthcpdhniakpbaaaDoor.X
open Go.RowKit Go.Proofs.YthcpdhniakpbaaaDoorW.PrintWords Go.Proofs.YthcpdhniakpbaaaDoorW.PrintLast Go.Proofs.YthcpdhniakpbaaaDoorW.PrintMore
attribute [local go_sem] max2_int min2_int max_two min_two max_three min_three max_four min_four
set_option linter.unusedVariables false
set_option linter.unusedSimpArgs false
def normal_text.f (l0 : List Int) : Option (ByteArray) := (repertoire_Encode.f l0).bind fun bt583 => (some bt583.1)
set_option maxHeartbeats 8000000 in
set_option maxRecDepth 100000 in
theorem normal_text.calls (A0 : Option Addr) (c0 : Nat) (l0 : List Int) (r : ByteArray) (w : World) (hr0 : Kd.C (Kd.int .i64) w A0 l0.length l0) (hc0 : l0.length ≤ c0) (h : normal_text.f l0 = some r) :
    Calls Tryd.prog 65 #[.slice A0 l0.length c0] w fun e w' => e = .returned (.string r) ∧ Below w.heap.size w w' := by
  have HR0 := Aside0.mk hr0
  have HC0 := Aside0.mk hc0
  clear hr0 hc0
  have HB := Aside0.mk (Below.refl w.heap.size w)
  have H : ((repertoire_Encode.f l0).bind fun bt583 => (some bt583.1)) = some r := h
  clear h
  replace H := Option.bind_eq_some_iff.mp H
  obtain ⟨⟨t583, t584⟩, A20, H⟩ := H
  replace H : (some t583) = some r := H
  have A2 := Aside0.mk A20
  clear A20
  obtain rfl := Option.some.inj H
  go_enter Tryd.func65, Tryd.ntmps65
  go_wp2_with (first | ((with_reducible refine gate_callee (f := 88) rfl ?_); refine goesL_ (some 7) rfl rfl Tryd.func88 (by kernel_rfl) rfl #[.slice A0 l0.length c0] rfl (by (try simp only [List.map_toArray, List.map_cons, List.map_nil]); first | done | rfl | (simp only [List.length_drop, List.length_take]; rfl)) ?_; (with_reducible refine (repertoire_Encode.calls _ _ l0 t583 t584 _ ?side1 ?side2 A2.out).mono ?_); (case side1 => repeat (first | exact HR0.out | (with_reducible refine Kd.C_alloc ?_ _) | (with_reducible refine Kd.C_drewN ?_ _) | (with_reducible refine Kd.C_drew ?_))); (case side2 => exact HC0.out); rintro e w3 ⟨rfl, hb⟩; refine ⟨_, rfl, ?_⟩; have n0_ := Aside0.mk (below_step (by repeat (first | (with_reducible first | exact HB.out | apply below_alloc | apply pw_below_drewN | apply below_drew1) | exact HB.out)) hb); clear HB; have HB := n0_; clear n0_; (try clear hb); (try clear hb2); (try clear hk); (try clear hi)))
  go_ret
  exact ⟨by first | rfl | (simp [errW_none, errW_some] <;> rfl) | (simp [*, errW_none, errW_some] <;> rfl), by repeat (first | (with_reducible first | exact HB.out | apply below_alloc | apply pw_below_drewN | apply below_drew1) | exact HB.out)⟩
end Go.Proofs.YthcpdhniakpbaaaDoor.X
end

section
namespace Go.Proofs.YthcpdhniakpbaaaDoor.X
open Go.RowKit Go.Sort Go.Lib Go.Proofs.YthcpdhniakpbaaaDoorW.PrintWords Go.Proofs.YthcpdhniakpbaaaDoorW.PrintLast Go.Proofs.YthcpdhniakpbaaaDoorW.PrintMore
set_option linter.unusedVariables false
set_option linter.unusedSimpArgs false
def stripS (l : List Int) : List Int := l.filter fun c => !isMk c
theorem isMk_has {c : Int} (h : isMk c = true) : hasS c = true := by
  unfold isMk at h
  unfold hasS
  have : (classS c).2 = 2 := by simpa using h
  rw [this]; rfl
theorem strip_has {l : List Int} (h : ∀ c ∈ stripS l, hasS c = true) : ∀ c ∈ l, hasS c = true := fun c hc => by
  cases hm : isMk c with
  | true => exact isMk_has hm
  | false => exact h c (List.mem_filter.2 ⟨hc, by rw [hm]; rfl⟩)
abbrev Ch := {c : Int // c ≠ 65533}
instance : Inhabited Ch := ⟨⟨0, by decide⟩⟩
def encCh (c : Ch) : Value := .int .i64 c.val
def mkCh (l : List Int) (h : ∀ c ∈ l, c ≠ 65533) : List Ch := l.attach.map fun x => ⟨x.1, h x.1 x.2⟩
theorem mkCh_val (l : List Int) (h : ∀ c ∈ l, c ≠ 65533) : (mkCh l h).map Subtype.val = l := by
  unfold mkCh
  rw [List.map_map]
  exact List.attach_map_subtype_val l
theorem mkCh_len (l : List Int) (h : ∀ c ∈ l, c ≠ 65533) : (mkCh l h).length = l.length := by simp [mkCh]
theorem mkCh_get (l : List Int) (h : ∀ c ∈ l, c ≠ 65533) (j : Nat) (hj : j < l.length) : ((mkCh l h).toArray[j]!).val = l[j] := by
  have : j < (mkCh l h).length := by rw [mkCh_len]; exact hj
  simp [this, mkCh, hj]
theorem markCh (c : Ch) (W : World) : Calls Tryd.prog 67 #[.int .i64 c.val] W fun e w' => e = .returned (.bool (isMk c.val)) ∧ Drawn0 W w' := normal_mark.calls 7 c.val _ W (isMark_eq c.2 0)
theorem eg67 : ∀ args w, (callFunc 67 args).run Tryd.prog w = .ok (.enter 67 args) w := enters_of Tryd.func67 (by kernel_rfl) rfl
theorem givesCh (c : Ch) (W : World) : FnGives Tryd.prog 67 #[] #[encCh c] (.bool (isMk c.val)) W := (markCh c W).mono fun e w' ⟨he, n, hn⟩ => ⟨he, n, hn⟩
theorem delete_none (A : Option Addr) (c : Nat) (w : World) : Calls Tryd.prog 73 #[.slice A 0 c, .func (.func 67) #[] #[]] w fun e w' => e = .returned (.slice A 0 c) ∧ w' = w := by
  have HI := Lib.hid (Tryd.slices_IndexFunc_empty (α := Int) A c (.func (.func 67) #[] #[]) w)
  go_enter Tryd.func73, Tryd.ntmps73
  go_wp2_with fail
  refine HI.out.mono ?_
  rintro e w' ⟨rfl, rfl⟩
  go_wp2_with fail
  go_ret
  exact ⟨rfl, rfl⟩
theorem delete_some {g base n cap : Nat} {ok : Nat → Prop} {cur : List Int} {w : World} (h : (Kd.int .i64).R 3 w base ok (.slice (some ⟨g, 0, none⟩) n cap) cur) (hne : ∀ c ∈ cur, c ≠ 65533) :
    Calls Tryd.prog 73 #[.slice (some ⟨g, 0, none⟩) n cap, .func (.func 67) #[] #[]] w fun e w' => e = .returned (.slice (some ⟨g, 0, none⟩) (stripS cur).length cap) ∧ Kd.C (Kd.int .i64) w' (some ⟨g, 0, none⟩) (stripS cur).length (stripS cur) ∧ w.grownBy w' (some g) := by
  obtain rfl : n = cur.length := (Kd.R_reads' h).1
  have hcap := (Kd.R_reads' h).2.1
  have hmax := Kd.C_max (Kd.R_reads' h).2.2
  have hds : (mkCh cur hne).toArray.size = cur.length := by simp [mkCh_len]
  have hH : Holds encCh w g 0 (mkCh cur hne).toArray := by
    intro j hj
    have hj' : j < cur.length := by omega
    have hc := Kd.R_celln 0 h (j : Int) (by omega) (by omega)
    rw [Int.toNat_natCast] at hc
    have e : rdOf 0 cur (j : Int) = cur[j] := by unfold rdOf; rw [Int.toNat_natCast]; simp [hj']
    rw [e] at hc
    rw [Nat.zero_add]
    unfold encCh
    rw [mkCh_get cur hne j hj']
    exact hc
  have hfl : (((mkCh cur hne).toArray.toList.filter fun x => !isMk x.val).map Subtype.val) = stripS cur := by
    unfold stripS
    conv => rhs; rw [← mkCh_val cur hne, List.filter_map]
    rfl
  have hfl2 : ((mkCh cur hne).toArray.toList.filter fun x => !isMk x.val).length = (stripS cur).length := by rw [← hfl, List.length_map]
  have hle : (stripS cur).length ≤ cur.length := List.length_filter_le _ _
  have C := Tryd.slices_DeleteFunc encCh (fun _ => rfl) (fun x => isMk x.val) 67 #[] eg67 ⟨0, by decide⟩ Tryd.zeroValue3 g 0 cap (mkCh cur hne).toArray w (fun W x _ => givesCh x W) (fun n os dk x _ => givesCh x _) hH (by omega) (by omega)
  rw [hds, hfl2] at C
  refine C.mono ?_
  rintro e w' ⟨he, q, rfl⟩
  refine ⟨he, Kd.C_of_reads (d := (0 : Int)) ⟨rfl, by omega, fun hp => ⟨_, rfl, fun j hj => ?_⟩⟩, rfl, rfl, rfl, by rw [size_putRow]; exact Nat.le_refl _, fun k hk hk2 => ?_⟩
  · have hadd : (⟨g, 0, none⟩ : Addr).add j = ⟨g, 0 + j, none⟩ := by unfold Addr.add; split <;> simp_all
    rw [hadd]
    have hsz : (((mkCh cur hne).toArray.toList.filter fun x => !isMk x.val) ++ List.replicate (cur.length - (stripS cur).length) (⟨0, by decide⟩ : Ch)).toArray.size = (mkCh cur hne).toArray.size := by
      rw [hds]
      simp only [List.size_toArray, List.length_append, List.length_replicate, hfl2]
      omega
    have hc := cell?_putRow encCh (Sort.ahead w q) g 0 (mkCh cur hne).toArray _ (fun i hi => hH i hi) hsz j (by rw [hsz, hds]; omega)
    rw [hc]
    have hjf : j < ((mkCh cur hne).toArray.toList.filter fun x => !isMk x.val).length := by rw [hfl2]; exact hj
    have : ((((mkCh cur hne).toArray.toList.filter fun x => !isMk x.val) ++ List.replicate (cur.length - (stripS cur).length) (⟨0, by decide⟩ : Ch)).toArray[j]!) = ((mkCh cur hne).toArray.toList.filter fun x => !isMk x.val)[j] := by
      rw [getElem!_pos _ j (by rw [hsz, hds]; omega)]
      simp only [List.getElem_toArray]
      rw [List.getElem_append_left hjf]
    rw [this]
    have h2 : (stripS cur)[j]'hj = (((mkCh cur hne).toArray.toList.filter fun x => !isMk x.val)[j]).val := by
      have h3 : (((mkCh cur hne).toArray.toList.filter fun x => !isMk x.val).map Subtype.val)[j]? = (stripS cur)[j]? := by rw [hfl]
      rw [List.getElem?_map, List.getElem?_eq_getElem hjf, List.getElem?_eq_getElem hj] at h3
      simpa using h3.symm
    have h4 : (stripS cur).getD j 0 = (stripS cur)[j] := by simp [hj]
    rw [h4, h2]
    rfl
  · unfold putRow mapBlock Sort.ahead
    simp only
    rw [Array.getElem?_modify, if_neg (fun e => hk2 (by rw [e]))]
def normal_Strip.f (a0 : ByteArray) : Option ByteArray := (normal_decomposed.f a0).bind fun b => normal_text.f (stripS b.1)
theorem normal_Strip.calls (a0 : ByteArray) (r : ByteArray) (w : World) (hG : GT1 w) (h : normal_Strip.f a0 = some r) :
    Calls Tryd.prog 44 #[.string a0] w fun e w' => e = .returned (.string r) ∧ Below w.heap.size w w' := by
  unfold normal_Strip.f at h
  obtain ⟨⟨l, okb⟩, h1, h2⟩ := Option.bind_eq_some_iff.1 h
  have hh : ∀ c ∈ l, c ≠ 65533 := by
    have h3 := h2
    unfold normal_text.f repertoire_Encode.f at h3
    split at h3
    · rename_i ho
      intro c hc e
      have := strip_has ho.2 c hc
      rw [e, hasS_65533] at this
      exact absurd this (by decide)
    · exact absurd h3 (by simp)
  have HD := Lib.hid (normal_decomposed.calls a0 l okb w hG h1)
  have HT : Hid (∀ (A : Option Addr) (c : Nat) W, Kd.C (Kd.int .i64) W A (stripS l).length (stripS l) → (stripS l).length ≤ c → Calls Tryd.prog 65 #[.slice A (stripS l).length c] W fun e w' => e = .returned (.string r) ∧ Below W.heap.size W w') := fun A c W hC hc => normal_text.calls A c (stripS l) r W hC hc h2
  have HH := Lib.hid hh
  clear h h1 h2 hG hh
  go_enter Tryd.func44, Tryd.ntmps44
  go_wp2_with fail
  refine HD.out.mono ?_
  rintro e w1 ⟨v, rfl, hr, hb⟩
  obtain ⟨A, c, rfl⟩ := Kd.R_slice hr
  have HR := Aside0.mk hr
  have HB := Aside0.mk hb
  clear hr hb HD
  by_cases hn : l.length = 0
  · have hl : l = [] := List.length_eq_zero_iff.1 hn
    subst hl
    have hC := (Kd.R_reads' HR.out).2.2
    have HC := Lib.hid (HT.out A c w1 hC (Nat.zero_le _))
    have HDN := Lib.hid (delete_none A c w1)
    clear HT hC hn
    go_wp2_with fail
    refine HDN.out.mono ?_
    rintro e w2 ⟨rfl, rfl⟩
    go_wp2_with fail
    refine HC.out.mono ?_
    rintro e w3 ⟨rfl, hb3⟩
    have HB3 := Lib.hid (below_step HB.out hb3)
    clear hb3
    go_wp2_with fail
    go_ret
    exact ⟨rfl, HB3.out⟩
  · obtain ⟨g, cap, he, hbg, hgs, _⟩ := Kd.R_form HR.out (by omega)
    injection he with e1 e2 e3
    subst e1
    subst e3
    have HDS := Lib.hid (delete_some HR.out HH.out)
    have hcap := (Kd.R_reads' HR.out).2.1
    have hle : (stripS l).length ≤ l.length := List.length_filter_le _ _
    clear hn e2
    go_wp2_with fail
    refine HDS.out.mono ?_
    rintro e w2 ⟨rfl, hC2, hg2⟩
    have HC := Lib.hid (HT.out _ c w2 hC2 (by omega))
    have HB2 : Aside0 (Below w.heap.size w w2) := ⟨HB.out.trans ⟨hg2.os, hg2.tape, hg2.output, hg2.size, fun q hq => hg2.block q (by have := HB.out.size; omega) (by intro e; injection e with e; omega)⟩⟩
    clear hC2 hg2 HT HDS
    go_wp2_with fail
    refine HC.out.mono ?_
    rintro e w3 ⟨rfl, hb3⟩
    have HB3 := Lib.hid (below_step HB2.out hb3)
    clear hb3
    go_wp2_with fail
    go_ret
    exact ⟨rfl, HB3.out⟩
end Go.Proofs.YthcpdhniakpbaaaDoor.X
end

section
namespace Go.Proofs.YthcpdhniakpbaaaDoor.X
open Go.RowKit Go.Sort Go.Lib Go.Proofs.YthcpdhniakpbaaaDoorW.PrintWords Go.Proofs.YthcpdhniakpbaaaDoorW.PrintLast Go.Proofs.YthcpdhniakpbaaaDoorW.PrintMore
set_option linter.unusedVariables false
set_option linter.unusedSimpArgs false
def taken (kept : List Int) (m : Int) : Bool := kept.any fun x => clsN x == clsN m
def compM : List Int → Int → List Int → Int × List Int
  | [], c, kept => (c, kept)
  | m :: ms, c, kept => match joinS c m with
    | some x => if taken kept m = true then compM ms c (kept ++ [m]) else compM ms x kept
    | none => compM ms c (kept ++ [m])
def compF : Nat → List Int → List Int
  | 0, _ => []
  | _ + 1, [] => []
  | f + 1, c :: r => if isMk c = true then c :: compF f r else
    ((compM (r.takeWhile isMk) c []).1 :: (compM (r.takeWhile isMk) c []).2) ++ compF f (r.dropWhile isMk)
def compS (l : List Int) : List Int := compF l.length l
theorem compF_nil : ∀ f, compF f [] = []
  | 0 => rfl
  | f + 1 => rfl
theorem joinR_has {c m x : Int} : ∀ rs : List NRow, (∀ r ∈ rs, r ∈ nrows) → joinR c m rs = some x → hasS x = true
  | [], _, h => by simp [joinR] at h
  | r :: rs, hr, h => by
    rw [joinR] at h
    split at h
    · rename_i hc
      obtain rfl := Option.some.inj h
      have hrn := hr r (by simp)
      have hl := (row_str hrn).2.2
      exact (row_has hrn).2.1 _ (at0_mem (plc_ge.2 hc.2) (by have := plc_lt hc.2; omega))
    · exact joinR_has rs (fun r' h' => hr r' (by simp [h'])) h
theorem join_has {c m x : Int} (h : joinS c m = some x) : hasS x = true := joinR_has nrows (fun _ h => h) h
theorem compM_has : ∀ (ms : List Int) (c : Int) (kept : List Int), (∀ x ∈ ms, hasS x = true) → hasS c = true → (∀ x ∈ kept, hasS x = true) → hasS (compM ms c kept).1 = true ∧ ∀ x ∈ (compM ms c kept).2, hasS x = true
  | [], c, kept, _, hc, hk => ⟨hc, hk⟩
  | m :: ms, c, kept, hm, hc, hk => by
    have hm1 := hm m (by simp)
    have hm2 : ∀ x ∈ ms, hasS x = true := fun x hx => hm x (by simp [hx])
    have hk2 : ∀ x ∈ kept ++ [m], hasS x = true := fun x hx => by
      rcases List.mem_append.1 hx with hx | hx
      · exact hk x hx
      · obtain rfl := List.mem_singleton.1 hx; exact hm1
    rw [compM]
    split
    · rename_i x hx
      split
      · exact compM_has ms c _ hm2 hc hk2
      · exact compM_has ms x kept hm2 (join_has hx) hk
    · exact compM_has ms c _ hm2 hc hk2
theorem compM_len : ∀ (ms : List Int) (c : Int) (kept : List Int), (compM ms c kept).2.length ≤ kept.length + ms.length
  | [], c, kept => by simp [compM]
  | m :: ms, c, kept => by
    rw [compM]
    split
    · split
      · have := compM_len ms c (kept ++ [m]); simp at this ⊢; omega
      · have := compM_len ms (by assumption) kept; simp at this ⊢; omega
    · have := compM_len ms c (kept ++ [m]); simp at this ⊢; omega
theorem compF_has : ∀ (f : Nat) (l : List Int), (∀ x ∈ l, hasS x = true) → ∀ x ∈ compF f l, hasS x = true
  | 0, l, _, x, hx => by simp [compF] at hx
  | f + 1, [], _, x, hx => by simp [compF] at hx
  | f + 1, c :: r, h, x, hx => by
    rw [compF] at hx
    have hr : ∀ x ∈ r, hasS x = true := fun x hx => h x (by simp [hx])
    split at hx
    · rcases List.mem_cons.1 hx with rfl | hx
      · exact h _ (by simp)
      · exact compF_has f r hr x hx
    · have hm := compM_has (r.takeWhile isMk) c [] (fun y hy => hr y ((List.takeWhile_sublist _).subset hy)) (h c (by simp)) (by simp)
      rcases List.mem_append.1 hx with hx | hx
      · rcases List.mem_cons.1 hx with rfl | hx
        · exact hm.1
        · exact hm.2 x hx
      · exact compF_has f _ (fun y hy => hr y ((List.dropWhile_sublist _).subset hy)) x hx
theorem takeDrop_len (r : List Int) : (r.takeWhile isMk).length + (r.dropWhile isMk).length = r.length := by
  rw [← List.length_append, List.takeWhile_append_dropWhile]
theorem compF_len : ∀ (f : Nat) (l : List Int), (compF f l).length ≤ l.length
  | 0, l => by simp [compF]
  | f + 1, [] => by simp [compF]
  | f + 1, c :: r => by
    rw [compF]
    split
    · have := compF_len f r; simp; omega
    · have h1 := compM_len (r.takeWhile isMk) c []
      have h2 := compF_len f (r.dropWhile isMk)
      have h3 := takeDrop_len r
      simp at h1 ⊢
      omega
end Go.Proofs.YthcpdhniakpbaaaDoor.X
end
