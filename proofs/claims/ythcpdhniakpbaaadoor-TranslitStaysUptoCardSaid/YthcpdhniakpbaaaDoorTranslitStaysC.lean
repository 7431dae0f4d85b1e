/- The law TranslitStays returns true for every input of the sizes that the row's condition lets in, the package variables that it reads holding what the row lists. Part 3 of the texts that its proof stands on; put together by a program. -/
import Derived.Test.YthcpdhniakpbaaaDoorTranslitStaysB
import Derived.Shelf.Strings.Builder1
import Derived.Shelf.Small.Utf8
import Derived.Shelf.Small.Strs
import Derived.Shelf.Strings.BuilderF
import Derived.Shelf.Strings.BuilderK
import Derived.Shelf.Strings.BuilderRune
import Derived.Shelf.Utf8.AppendRune
import Derived.Shelf.Utf8.RuneCount
import Derived.Shelf.Strings.Search1
import Derived.Shelf.Strings.Prefix
import Derived.Shelf.Strings.Fields
import Derived.Shelf.Unicode.Latin
import Derived.Shelf.Strings.Runes
import Derived.Shelf.Strings.RuneCount
import Derived.Shelf.Unicode.DecodeSlow
import Derived.Shelf.Unicode.DecodeAny
import Derived.Shelf.Unicode.Is16White
import Derived.Shelf.Unicode.IsSpaceAny
import Derived.Shelf.Unicode.Is16WhiteD
import Derived.Shelf.Unicode.IsSpaceAnyD
import Derived.Shelf.Strings.FieldsAny
import Derived.Shelf.Strings.FieldsFuncAny
import Derived.Shelf.Unicode.Is16Any
import Derived.Shelf.Unicode.Is32Any
import Derived.Shelf.Unicode.ExclAny
import Derived.Shelf.Slices.Equal
import Derived.Shelf.Slices.Empties2
import Derived.Ground.SlgnProg
import Derived.Shelf.SlicesE.Equal
import Derived.Ground.SlgfProg
import Derived.Shelf.SlicesE.IndexFunc
import Derived.Shelf.SlicesE.DeleteFunc
import Derived.Test.YthcpdhniakpbaaaDoorProg
import Derived.WalkKit
import Derived.WalkSmall
import Derived.Below
import Derived.Deep.Draws
import Derived.Deep.AppendLies
import Derived.Maps.AppendAt
import Derived.OwnWalk
import Derived.Laws.BytesArg
import Derived.Laws.MakeOwn
import Derived.Laws.OwnMore
import Derived.Deep.OwnRows
import Derived.Tactics
import Derived.Lib.ConvBytes
import Derived.Laws.Slices
import Derived.KernelRfl
import Derived.RowKit3
import Derived.Deep.LoopGhost
import Derived.Deep.QuietTactic
import Derived.BigQuiet
import Derived.WideLaws
import Derived.Deep.DeepCutAuto
import Derived.Deep.CutBlock
import Derived.Deep.RegionHeld3
import Derived.Laws.Rows
import Derived.Lib.AppendStr
import Derived.ArgAppend
import Derived.Laws.IdiomCopy
import Derived.OrdersHeld
import Derived.Laws.BitsLemmas
import Derived.RowKit
import Derived.WalkMore
import Derived.ScopeJumps
import Derived.Lib.IndexLaws
import Derived.Lib.IndexBytes
import Derived.Lib.RuneBytes
import Derived.Outline
import Derived.WalkSpells
import Derived.Lib.Hide
section
namespace Go.Proofs
open Go.Shelf
open Go.Shelf
def Tryd.lays169_ren : Go.Shelf.Ren := ⟨fun | 169 => 81 | n => n, fun | 70 => 70 | 9 => 9 | 0 => 0 | 72 => 72 | 37 => 42 | 127 => 98 | 3 => 3 | 5 => 5 | n => n, fun | n => n⟩
theorem Tryd.lays169 : Go.Proofs.Lays.n169 Tryd.prog Tryd.lays169_ren := {
  mixed := by kernel_rfl
  f169 := Tryd.func81.trans (congrArg some (by kernel_rfl))
  t0 := Tryd.underlying0
  a0 := Tryd.isAgg0
  z0 := Tryd.sizeOf0
  v0 := Tryd.zeroValue0
  t3 := Tryd.underlying3
  a3 := Tryd.isAgg3
  z3 := Tryd.sizeOf3
  v3 := Tryd.zeroValue3
  t9 := Tryd.underlying9
  a9 := Tryd.isAgg9
  z9 := Tryd.sizeOf9
  v9 := Tryd.zeroValue9
  t37 := Tryd.underlying42
  a37 := Tryd.isAgg42
  z37 := Tryd.sizeOf42
  v37 := Tryd.zeroValue42
  t70 := Tryd.underlying70
  a70 := Tryd.isAgg70
  z70 := Tryd.sizeOf70
  v70 := Tryd.zeroValue70
  t72 := Tryd.underlying72
  a72 := Tryd.isAgg72
  z72 := Tryd.sizeOf72
  v72 := Tryd.zeroValue72
  t127 := Tryd.underlying98
  a127 := Tryd.isAgg98
  z127 := Tryd.sizeOf98
  v127 := Tryd.zeroValue98 }
theorem Tryd.Builder_Extra_169 : Builder.Extra Tryd.prog Tryd.lays169_ren := {
  sizeBuilder := by kernel_rfl
  liesBuilder := by kernel_rfl
  t5 := Tryd.underlying5
  a5 := Tryd.isAgg5
  z5 := Tryd.sizeOf5
  v5 := Tryd.zeroValue5
  infoByte := by kernel_rfl
  cellsByte := by kernel_rfl
  sizeByte := by kernel_rfl
  neB5 := by decide }
def Tryd.lays137_ren : Go.Shelf.Ren := ⟨fun | 137 => 114 | 217 => 122 | 266 => 124 | n => n, fun | 9 => 9 | 5 => 5 | 3 => 3 | n => n, fun | n => n⟩
theorem Tryd.lays137 : Go.Proofs.Lays.n137 Tryd.prog Tryd.lays137_ren := {
  mixed := by kernel_rfl
  f137 := Tryd.func114.trans (congrArg some (by kernel_rfl))
  f217 := Tryd.func122.trans (congrArg some (by kernel_rfl))
  f266 := Tryd.func124.trans (congrArg some (by kernel_rfl))
  t3 := Tryd.underlying3
  a3 := Tryd.isAgg3
  z3 := Tryd.sizeOf3
  v3 := Tryd.zeroValue3
  t5 := Tryd.underlying5
  a5 := Tryd.isAgg5
  z5 := Tryd.sizeOf5
  v5 := Tryd.zeroValue5
  t9 := Tryd.underlying9
  a9 := Tryd.isAgg9
  z9 := Tryd.sizeOf9
  v9 := Tryd.zeroValue9 }
open Go.RowKit in
theorem Tryd.strings_IndexByte (s : ByteArray) (c : Int) (w : World) :
    Calls Tryd.prog 114 #[.string s, .int .u8 c] w fun e w' => e = .returned (.int .i64 (Lib.indexByte s.data.toList c.toNat.toUInt8)) ∧ w' = w := Any.strings_IndexByte Tryd.lays137 s c w
open Go.RowKit in
theorem Tryd.Builder_String_any_k (B b : Nat) (l : List UInt8) (w : World) (h : Lib.IsBuilderF 72 5 B b (Lib.byteCells l) w) (hBw : B ≤ w.heap.size) :
    Calls Tryd.prog 81 #[.pointer (some ⟨b, 0, none⟩)] w fun e w' => e = .returned (.string ⟨l.toArray⟩) ∧ (Lib.IsBuilderF 72 5 B b (Lib.byteCells l) w' ∧ Below B w w' ∧ Lib.OthersKept 5 (some b) w w') := Any.Builder_String_any_k Tryd.lays169 Tryd.Builder_Extra_169 B b l w h hBw
def Tryd.lays157_ren : Go.Shelf.Ren := ⟨fun | 157 => 82 | 229 => 98 | 199 => 99 | 261 => 109 | 311 => 118 | 312 => 119 | n => n, fun | 9 => 9 | 31 => 81 | 3 => 3 | 5 => 5 | 4 => 4 | 119 => 99 | 0 => 0 | 40 => 101 | 152 => 110 | 21 => 21 | 154 => 112 | 51 => 113 | 141 => 115 | 196 => 125 | 193 => 122 | 198 => 128 | 49 => 126 | 194 => 123 | 201 => 131 | 226 => 133 | 46 => 80 | 227 => 134 | n => n, fun | 0 => 0 | 6 => 3 | n => n⟩
theorem Tryd.lays157 : Go.Proofs.Lays.n157 Tryd.prog Tryd.lays157_ren := {
  mixed := by kernel_rfl
  f157 := Tryd.func82.trans (congrArg some (by kernel_rfl))
  f199 := Tryd.func99.trans (congrArg some (by kernel_rfl))
  f229 := Tryd.func98.trans (congrArg some (by kernel_rfl))
  f261 := Tryd.func109.trans (congrArg some (by kernel_rfl))
  f311 := Tryd.func118.trans (congrArg some (by kernel_rfl))
  f312 := Tryd.func119.trans (congrArg some (by kernel_rfl))
  t0 := Tryd.underlying0
  a0 := Tryd.isAgg0
  z0 := Tryd.sizeOf0
  v0 := Tryd.zeroValue0
  t3 := Tryd.underlying3
  a3 := Tryd.isAgg3
  z3 := Tryd.sizeOf3
  v3 := Tryd.zeroValue3
  t4 := Tryd.underlying4
  a4 := Tryd.isAgg4
  z4 := Tryd.sizeOf4
  v4 := Tryd.zeroValue4
  t5 := Tryd.underlying5
  a5 := Tryd.isAgg5
  z5 := Tryd.sizeOf5
  v5 := Tryd.zeroValue5
  t9 := Tryd.underlying9
  a9 := Tryd.isAgg9
  z9 := Tryd.sizeOf9
  v9 := Tryd.zeroValue9
  t21 := Tryd.underlying21
  a21 := Tryd.isAgg21
  z21 := Tryd.sizeOf21
  v21 := Tryd.zeroValue21
  t31 := Tryd.underlying81
  a31 := Tryd.isAgg81
  z31 := Tryd.sizeOf81
  v31 := Tryd.zeroValue81
  t40 := Tryd.underlying101
  a40 := Tryd.isAgg101
  z40 := Tryd.sizeOf101
  v40 := Tryd.zeroValue101
  t46 := Tryd.underlying80
  a46 := Tryd.isAgg80
  z46 := Tryd.sizeOf80
  v46 := Tryd.zeroValue80
  t49 := Tryd.underlying126
  a49 := Tryd.isAgg126
  z49 := Tryd.sizeOf126
  v49 := Tryd.zeroValue126
  t51 := Tryd.underlying113
  a51 := Tryd.isAgg113
  z51 := Tryd.sizeOf113
  v51 := Tryd.zeroValue113
  t119 := Tryd.underlying99
  a119 := Tryd.isAgg99
  z119 := Tryd.sizeOf99
  t141 := Tryd.underlying115
  a141 := Tryd.isAgg115
  z141 := Tryd.sizeOf115
  v141 := Tryd.zeroValue115
  t152 := Tryd.underlying110
  a152 := Tryd.isAgg110
  z152 := Tryd.sizeOf110
  v152 := Tryd.zeroValue110
  t154 := Tryd.underlying112
  a154 := Tryd.isAgg112
  z154 := Tryd.sizeOf112
  v154 := Tryd.zeroValue112
  t193 := Tryd.underlying122
  a193 := Tryd.isAgg122
  z193 := Tryd.sizeOf122
  v193 := Tryd.zeroValue122
  t194 := Tryd.underlying123
  a194 := Tryd.isAgg123
  z194 := Tryd.sizeOf123
  v194 := Tryd.zeroValue123
  t196 := Tryd.underlying125
  a196 := Tryd.isAgg125
  z196 := Tryd.sizeOf125
  v196 := Tryd.zeroValue125
  t198 := Tryd.underlying128
  a198 := Tryd.isAgg128
  z198 := Tryd.sizeOf128
  v198 := Tryd.zeroValue128
  t201 := Tryd.underlying131
  a201 := Tryd.isAgg131
  z201 := Tryd.sizeOf131
  v201 := Tryd.zeroValue131
  t226 := Tryd.underlying133
  a226 := Tryd.isAgg133
  z226 := Tryd.sizeOf133
  v226 := Tryd.zeroValue133
  t227 := Tryd.underlying134
  a227 := Tryd.isAgg134
  z227 := Tryd.sizeOf134
  v227 := Tryd.zeroValue134
  g0 := by kernel_rfl
  g6 := by kernel_rfl }
def Tryd.lays197_ren : Go.Shelf.Ren := ⟨fun | 197 => 79 | 260 => 96 | n => n, fun | 9 => 9 | 21 => 21 | 3 => 3 | 4 => 4 | 5 => 5 | 105 => 73 | 119 => 99 | 0 => 0 | 46 => 80 | 139 => 107 | 138 => 106 | n => n, fun | 3 => 1 | 4 => 2 | n => n⟩
theorem Tryd.lays197 : Go.Proofs.Lays.n197 Tryd.prog Tryd.lays197_ren := {
  mixed := by kernel_rfl
  f197 := Tryd.func79.trans (congrArg some (by kernel_rfl))
  f260 := Tryd.func96.trans (congrArg some (by kernel_rfl))
  t0 := Tryd.underlying0
  a0 := Tryd.isAgg0
  z0 := Tryd.sizeOf0
  v0 := Tryd.zeroValue0
  t3 := Tryd.underlying3
  a3 := Tryd.isAgg3
  z3 := Tryd.sizeOf3
  v3 := Tryd.zeroValue3
  t4 := Tryd.underlying4
  a4 := Tryd.isAgg4
  z4 := Tryd.sizeOf4
  v4 := Tryd.zeroValue4
  t5 := Tryd.underlying5
  a5 := Tryd.isAgg5
  z5 := Tryd.sizeOf5
  v5 := Tryd.zeroValue5
  t9 := Tryd.underlying9
  a9 := Tryd.isAgg9
  z9 := Tryd.sizeOf9
  v9 := Tryd.zeroValue9
  t21 := Tryd.underlying21
  a21 := Tryd.isAgg21
  z21 := Tryd.sizeOf21
  v21 := Tryd.zeroValue21
  t46 := Tryd.underlying80
  a46 := Tryd.isAgg80
  z46 := Tryd.sizeOf80
  v46 := Tryd.zeroValue80
  t105 := Tryd.underlying73
  a105 := Tryd.isAgg73
  z105 := Tryd.sizeOf73
  v105 := Tryd.zeroValue73
  t119 := Tryd.underlying99
  a119 := Tryd.isAgg99
  z119 := Tryd.sizeOf99
  t138 := Tryd.underlying106
  a138 := Tryd.isAgg106
  z138 := Tryd.sizeOf106
  v138 := Tryd.zeroValue106
  t139 := Tryd.underlying107
  a139 := Tryd.isAgg107
  z139 := Tryd.sizeOf107
  v139 := Tryd.zeroValue107
  g3 := by kernel_rfl
  g4 := by kernel_rfl }
open Go.RowKit Go.Lib in
theorem Tryd.utf8_DecodeRuneInString (s : ByteArray) (w : World) (hT : Lib.Utf8Tabs 1 2 w) :
    Calls Tryd.prog 79 #[.string s] w fun e w' => e = .returned (.tuple #[.int .i32 (Lib.decodeGo s).1, .int .i64 (Lib.decodeGo s).2]) ∧ Below w.heap.size w w' := Any.utf8_DecodeRuneInString Tryd.lays197 s w hT
open Go.RowKit Go.Lib in
theorem Tryd.strings_Fields_any (s : ByteArray) (w : World) (hs : s.size < 4294967281) (htab : Lib.TabIs Tryd.prog w "strings.asciiSpace" .u8 Lib.asciiSpaceTab) (hW : Lib.WhiteTab 3 w) :
    Calls Tryd.prog 82 #[.string s] w fun e w' => ∃ A, e = .returned (.slice (some ⟨A, 0, none⟩) (Lib.fieldsD s.data.toList).length (Lib.fieldsD s.data.toList).length) ∧ w.heap.size ≤ A ∧
      w'.ownsRow w.heap.size 9 1 (.slice (some ⟨A, 0, none⟩) (Lib.fieldsD s.data.toList).length (Lib.fieldsD s.data.toList).length) (Lib.fieldsD s.data.toList).length ((Lib.fieldsD s.data.toList).map fun x => Value.string ⟨x.toArray⟩) ∧ Below w.heap.size w w' := Any.strings_Fields_any Tryd.lays157 (by kernel_rfl) (by kernel_rfl) (by kernel_rfl) s w hs htab hW
end Go.Proofs
end

section
namespace Go.Proofs.YthcpdhniakpbaaaDoor.X
open Go.RowKit
theorem lt_of_cell {w : World} {a : Addr} {v : Value} (hc : w.cell? a = some v) : a.block < w.heap.size := by
  rcases Nat.lt_or_ge a.block w.heap.size with h' | h'
  · exact h'
  · simp [World.cell?, Array.getElem?_eq_none h'] at hc
structure GT1 (w : World) : Prop where
  tabs : Lib.Utf8Tabs 1 2 w
structure GT2 (w : World) : Prop where
  one : GT1 w
  asc : Lib.TabIs Tryd.prog w "strings.asciiSpace" .u8 Lib.asciiSpaceTab
  wh : Lib.WhiteTab 3 w
theorem GT1.below {w w' : World} (h : GT1 w) (hb : Below w.heap.size w w') : GT1 w' :=
  ⟨fun c hc => (hb.cell (lt_of_cell (h.tabs.1 c hc))).trans (h.tabs.1 c hc),
   fun i hi => ⟨(hb.cell (lt_of_cell (h.tabs.2 i hi).1)).trans (h.tabs.2 i hi).1, (hb.cell (lt_of_cell (h.tabs.2 i hi).2)).trans (h.tabs.2 i hi).2⟩⟩
theorem gSpace : Tryd.prog.globalNamed "strings.asciiSpace" = some 0 := by kernel_rfl
theorem GT2.below {w w' : World} (h : GT2 w) (hb : Below w.heap.size w w') : GT2 w' := by
  refine ⟨h.one.below hb, ?_, WhiteTab_below h.wh hb⟩
  have h0 : 0 < w.heap.size := by
    rcases Nat.eq_zero_or_pos w.heap.size with e | e
    · have ha := h.asc
      unfold Lib.TabIs World.var? at ha
      rw [gSpace] at ha
      simp [Array.getElem?_eq_none (Nat.le_of_eq e)] at ha
    · exact e
  exact var?_below hb gSpace h0 h.asc
end Go.Proofs.YthcpdhniakpbaaaDoor.X
end

section
namespace Go.Proofs.YthcpdhniakpbaaaDoor.X
open Go.RowKit Go.Proofs.YthcpdhniakpbaaaDoorW.PrintWords Go.Proofs.YthcpdhniakpbaaaDoorW.PrintLast Go.Proofs.YthcpdhniakpbaaaDoorW.PrintMore
variable {P : Program} {ops : Array Oper} {rest : List Oper} {o : Oper} {a : Act} {Q : Exit → Act → World → Prop}
theorem R_make0 (k : IntKind) {w0 W : World} (base e : Nat) (hgd : o.guard = none) {N : Tmp} (_hd : o.dst = some N) (t : TypeId) (x y : Operand) (ho : o.op = .makeSlice t x y) (n : Int) (hx : a.eval x = .int .i64 0) (hy : a.eval y = .int .i64 n)
    (ht : P.underlying t = some (.slice e)) (bytes : Nat) (hinfo : (P.info? e).map (fun i => (i.zero, i.size, i.bytes)) = some (some (.int k 0), 1, bytes)) (hb0 : 0 < bytes)
    {ok : Nat → Prop} (hfresh : ok W.heap.size) (h0 : 0 ≤ n) (hl : n.toNat * bytes ≤ 281474976710656) (HB : Below base w0 W) (hbase : base ≤ W.heap.size)
    (h : ∀ v1 w1, (Kd.int k).R e w1 base ok v1 [] → Below base w0 w1 → W.grownBy w1 none → (∃ b, v1.ownBlock = some b ∧ W.heap.size ≤ b) → wpList P ops Q rest (a.put o.dst v1) w1) : wpList P ops Q (o :: rest) a W := by
  obtain ⟨m, rfl⟩ := Int.eq_ofNat_of_zero_le h0
  simp only [Int.toNat_natCast] at hl
  obtain ⟨i0, hi, hzz⟩ := Option.map_eq_some_iff.1 hinfo
  simp only [Prod.mk.injEq] at hzz
  obtain ⟨hz0, hz1, hz2⟩ := hzz
  have hm : m ≤ 281474976710656 := Nat.le_trans (Nat.le_mul_of_pos_right _ hb0) hl
  have hr := run_make (P := P) W t e i0 (.int k 0) ht hi hz0 .i64 .i64 (0 : Int) (m : Int) (by omega) (by omega)
    (by
      have h3 : ((i0.bytes * m : Nat) : Int) ≤ 281474976710656 := by rw [hz2, Nat.mul_comm]; omega
      rwa [Int.natCast_mul] at h3) (by omega)
  simp only [Int.toNat_natCast] at hr
  rw [hz1] at hr
  have hc : (Value.int k 0).cells = #[.int k 0] := rfl
  rw [hc, Nat.mul_one] at hr
  have own := own_take (own_made W base e k m hbase (by omega)) (Nat.zero_le m)
  have own' : (W.alloc (.cells (madeCells #[.int k 0] m) e)).ownsRow base e 1 (.slice (some ⟨W.heap.size, 0, none⟩) 0 m) ([] : List Int).length (encs (Value.int k) []) := by simpa [encs] using own
  have hR : (Kd.int k).R e (W.alloc (.cells (madeCells #[.int k 0] m) e)) base ok (.slice (some ⟨W.heap.size, 0, none⟩) 0 m) [] :=
    Kd.R_of_own own' (fun q hq => by
      have : W.heap.size = q := by simpa [Value.ownBlock] using hq
      exact this ▸ hfresh)
  refine Kd.event_run hgd ?_ (h _ _ hR (HB.alloc hbase _) (World.grownBy_alloc W _ none) ⟨W.heap.size, by simp [Value.ownBlock], Nat.le_refl _⟩)
  simp [execOp, ho, hx, hy, hr]
end Go.Proofs.YthcpdhniakpbaaaDoor.X
end

section
namespace Go.Proofs.YthcpdhniakpbaaaDoor.X
open Go.RowKit Go.Proofs.YthcpdhniakpbaaaDoorW.PrintWords Go.Proofs.YthcpdhniakpbaaaDoorW.PrintLast Go.Proofs.YthcpdhniakpbaaaDoorW.PrintMore
attribute [local go_sem] max2_int min2_int max_two min_two max_three min_three max_four min_four
set_option linter.unusedVariables false
set_option linter.unusedSimpArgs false
def errW : Option Int → Value
  | none => .nilIface
  | some c => .iface 0 (.int .i64 c)
theorem errW_none : errW none = .nilIface := rfl
theorem errW_some (c : Int) : errW (some c) = .iface 0 (.int .i64 c) := rfl
theorem info3 : (Tryd.prog.info? 3).map (fun i => (i.zero, i.size, i.bytes)) = some (some (.int .i64 0), 1, 8) := by kernel_rfl
theorem info41 : (Tryd.prog.info? 41).map (fun i => (i.zero, i.size, i.bytes)) = some (some (.agg #[(.string ⟨#[]⟩), (.string ⟨#[]⟩)]), 2, 32) := by kernel_rfl
structure S128 where
  f0 : Int
  f1 : Int
  f2 : Int
structure S131 where
  f0 : Int
  f1 : Int
  f2 : Int
structure S34 where
  f0 : ByteArray
  f1 : ByteArray
def z34 : S34 := ⟨(⟨#[]⟩ : ByteArray), (⟨#[]⟩ : ByteArray)⟩
def k34 : Kd S34 := Kd.iso (Kd.pair Kd.string Kd.string) (fun x : S34 => (x.f0, x.f1))
theorem k34_open {w : World} {x : S34} {cs : List Value} (h : k34.K w x cs) : cs = [.string x.f0, .string x.f1] := by
  obtain ⟨_, _, rfl, rfl, rfl⟩ := h
  exact rfl
theorem k34_mk (w : World) (x : S34)  : k34.K w x [.string x.f0, .string x.f1] := ⟨[.string x.f0], [.string x.f1], rfl, rfl, rfl⟩
def rd_T34 (xs : List S34) (i : Int) : S34 := xs.getD i.toNat z34
theorem at_T34 {w : World} {A : Option Addr} {n : Nat} {xs : List S34} (h : Kd.C k34 w A n xs) (i : Int) (h0 : 0 ≤ i) (h1 : i < n) : ∃ ad , A = some ad ∧ w.cell? (ad.add (i.toNat * 2)) = some (.string (rd_T34 xs i).f0) ∧ w.cell? ⟨(ad.add (i.toNat * 2)).block, (ad.add (i.toNat * 2)).off + 1, none⟩ = some (.string (rd_T34 xs i).f1) := by
  obtain ⟨ad, c, e, _, hK, hc0⟩ := Kd.C_get h z34 i h0 h1
  have hc : ∀ j u, c[j]? = some u → w.cell? (ad.add (i.toNat * 2 + j)) = some u := hc0
  obtain rfl := k34_open hK
  exact ⟨ad, e, hc 0 _ rfl, by rw [← add_field _ _ 1 (by omega)]; exact hc 1 _ rfl⟩
structure S41 where
  f0 : ByteArray
  f1 : ByteArray
def z41 : S41 := ⟨(⟨#[]⟩ : ByteArray), (⟨#[]⟩ : ByteArray)⟩
def k41 : Kd S41 := Kd.iso (Kd.pair Kd.string Kd.string) (fun x : S41 => (x.f0, x.f1))
theorem k41_open {w : World} {x : S41} {cs : List Value} (h : k41.K w x cs) : cs = [.string x.f0, .string x.f1] := by
  obtain ⟨_, _, rfl, rfl, rfl⟩ := h
  exact rfl
theorem k41_mkM (w : World) (base : Nat) (ok : Nat → Prop) (x : S41)  : k41.M w base ok x [.string x.f0, .string x.f1] := ⟨[.string x.f0], [.string x.f1], rfl, rfl, rfl⟩
def rd_T41 (xs : List S41) (i : Int) : S41 := xs.getD i.toNat z41
theorem at_T41 {w : World} {A : Option Addr} {n : Nat} {xs : List S41} (h : Kd.C k41 w A n xs) (i : Int) (h0 : 0 ≤ i) (h1 : i < n) : ∃ ad , A = some ad ∧ w.cell? (ad.add (i.toNat * 2)) = some (.string (rd_T41 xs i).f0) ∧ w.cell? ⟨(ad.add (i.toNat * 2)).block, (ad.add (i.toNat * 2)).off + 1, none⟩ = some (.string (rd_T41 xs i).f1) := by
  obtain ⟨ad, c, e, _, hK, hc0⟩ := Kd.C_get h z41 i h0 h1
  have hc : ∀ j u, c[j]? = some u → w.cell? (ad.add (i.toNat * 2 + j)) = some u := hc0
  obtain rfl := k41_open hK
  exact ⟨ad, e, hc 0 _ rfl, by rw [← add_field _ _ 1 (by omega)]; exact hc 1 _ rfl⟩
structure S96 where
  f0 : Int
  f1 : ByteArray
  f2 : ByteArray
end Go.Proofs.YthcpdhniakpbaaaDoor.X
end

section
namespace Go.Proofs.YthcpdhniakpbaaaDoor.X
open Go.RowKit Go.Proofs.YthcpdhniakpbaaaDoorW.PrintWords Go.Proofs.YthcpdhniakpbaaaDoorW.PrintLast Go.Proofs.YthcpdhniakpbaaaDoorW.PrintMore
attribute [local go_sem] max2_int min2_int max_two min_two max_three min_three max_four min_four
set_option linter.unusedVariables false
set_option linter.unusedSimpArgs false
def repertoire_from.f (a0 : Int) (a1 : Int) (a2 : Int) : Option (Bool) := if a0 ≥ a1 then (some (decide (a0 ≤ a2))) else (some false)
set_option maxHeartbeats 8000000 in
set_option maxRecDepth 100000 in
theorem repertoire_from.calls (a0 : Int) (a1 : Int) (a2 : Int) (r : Bool) (w : World) (h : repertoire_from.f a0 a1 a2 = some r) :
    Calls Tryd.prog 103 #[.int .i64 a0, .int .i64 a1, .int .i64 a2] w fun e w' => e = .returned (.bool r) ∧ Drawn0 w w' := by
  have H : (if a0 ≥ a1 then (some (decide (a0 ≤ a2))) else (some false)) = some r := h
  clear h
  by_cases c4 : a0 ≥ a1
  · rw [if_pos c4] at H
    have c4b0 : decide (a1 ≤ a0) = true := decide_eq_true c4
    clear c4
    obtain rfl := Option.some.inj H
    go_enter Tryd.func103, Tryd.ntmps103
    go_wp2
    go_ret
    exact ⟨by first | rfl | (simp; done) | (simp [*]; done), by repeat (first | exact Drawn0.refl _ | apply Drawn0.step)⟩
  · rw [if_neg c4] at H
    have c4b0 : decide (a1 ≤ a0) = false := decide_eq_false c4
    clear c4
    obtain rfl := Option.some.inj H
    go_enter Tryd.func103, Tryd.ntmps103
    go_wp2
    go_ret
    exact ⟨by first | rfl | (simp; done) | (simp [*]; done), by repeat (first | exact Drawn0.refl _ | apply Drawn0.step)⟩
def repertoire_mark.j0 : Nat → Int → Int → Bool → Option (Bool)
  | 0, _, _, _ => none
  | k + 1, x0, x3, x4 => if x4 = true then (some false) else (if x3 = 803 then (some true) else (if x3 = 807 then (some true) else (if x3 = 808 then (some true) else ((repertoire_from.f x0 768 780).bind fun t101 => (some t101)))))
def repertoire_mark.f (k : Nat) (a0 : Int) : Option (Bool) := if a0 = 773 then (repertoire_mark.j0 k a0 a0 (a0 == 773)) else (repertoire_mark.j0 k a0 a0 (a0 == 777))
set_option maxHeartbeats 8000000 in
set_option maxRecDepth 100000 in
theorem repertoire_mark.calls (k : Nat) (a0 : Int) (r : Bool) (w : World) (h : repertoire_mark.f k a0 = some r) :
    Calls Tryd.prog 105 #[.int .i64 a0] w fun e w' => e = .returned (.bool r) ∧ Drawn0 w w' := by
  have H : (if a0 = 773 then (repertoire_mark.j0 k a0 a0 (a0 == 773)) else (repertoire_mark.j0 k a0 a0 (a0 == 777))) = some r := h
  clear h
  have HC2 := Aside0.mk H
  clear H
  go_enter Tryd.func105, Tryd.ntmps105
  go_upto_if 4 with (fail)
  go_cut [4] (fun v4 wc => ∃ (kq : Nat) (x4_1 : Bool), v4 = .bool x4_1 ∧ Aside0 (repertoire_mark.j0 kq a0 a0 x4_1 = some r) ∧ Aside0 (kq ≤ k) ∧ Drawn0 w wc)
  case first =>
    have H := HC2.out
    clear HC2
    by_cases c3 : a0 = 773
    · rw [if_pos c3] at H
      have c3b0 : (a0 == 773) = true := beq_iff_eq.mpr c3
      have c3b1 : (a0 != 773) = false := bne_eq_false_iff_eq.mpr c3
      clear c3
      (first | rw [c3b0] | (simp only [i64_w, i32_w]; rw [c3b0]) | skip)
      have H' := Aside0.mk H
      clear H
      go_wp2
      go_meet
      case rel => exact ⟨_, ((a0 == 773)), (by first | rfl | (simp; done) | (simp [*]; done)), H', ⟨by first | omega | exact Nat.le_refl _⟩, by repeat (first | exact Drawn0.refl _ | apply Drawn0.step)⟩
    · rw [if_neg c3] at H
      have c3b0 : (a0 == 773) = false := beq_eq_false_iff_ne.mpr c3
      have c3b1 : (a0 != 773) = true := bne_iff_ne.mpr c3
      (first | rw [c3b0] | (simp only [i64_w, i32_w]; rw [c3b0]) | skip)
      have H' := Aside0.mk H
      clear H
      go_wp2
      go_meet
      case rel => exact ⟨_, ((a0 == 777)), (by first | rfl | (simp; done) | (simp [*]; done)), H', ⟨by first | omega | exact Nat.le_refl _⟩, by repeat (first | exact Drawn0.refl _ | apply Drawn0.step)⟩
  case rest =>
    clear HC2
    try clear c1
    try clear p2
    try clear c3
    try clear c3b0
    try clear c3b1
    obtain ⟨kq, x4_1, rfl, HA, HJ1, ⟨mc1, rfl⟩⟩ := hcut
    cases kq with
    | zero => exact absurd HA.out (by simp [repertoire_mark.j0])
    | succ kj1 =>
      have H := HA.out
      clear HA
      simp only [repertoire_mark.j0] at H
      by_cases c4 : x4_1 = true
      · subst c4
        have H1 : (some false) = some r := by rw [if_pos rfl] at H; exact H
        clear H
        have H := H1
        clear H1
        obtain rfl := Option.some.inj H
        go_wp2
        go_ret
        exact ⟨by first | rfl | (simp; done) | (simp [*]; done), by repeat (first | exact Drawn0.refl _ | apply Drawn0.step)⟩
      · replace c4 := Bool.eq_false_iff.mpr c4
        subst c4
        have H1 : (if a0 = 803 then (some true) else (if a0 = 807 then (some true) else (if a0 = 808 then (some true) else ((repertoire_from.f a0 768 780).bind fun t101 => (some t101))))) = some r := by rw [if_neg (show ¬ (false = true) by decide)] at H; exact H
        clear H
        have H := H1
        clear H1
        by_cases c5 : a0 = 803
        · rw [if_pos c5] at H
          have c5b0 : (a0 == 803) = true := beq_iff_eq.mpr c5
          have c5b1 : (a0 != 803) = false := bne_eq_false_iff_eq.mpr c5
          clear c5
          obtain rfl := Option.some.inj H
          go_wp2
          go_ret
          exact ⟨by first | rfl | (simp; done) | (simp [*]; done), by repeat (first | exact Drawn0.refl _ | apply Drawn0.step)⟩
        · rw [if_neg c5] at H
          have c5b0 : (a0 == 803) = false := beq_eq_false_iff_ne.mpr c5
          have c5b1 : (a0 != 803) = true := bne_iff_ne.mpr c5
          by_cases c6 : a0 = 807
          · rw [if_pos c6] at H
            have c6b0 : (a0 == 807) = true := beq_iff_eq.mpr c6
            have c6b1 : (a0 != 807) = false := bne_eq_false_iff_eq.mpr c6
            clear c6
            obtain rfl := Option.some.inj H
            go_wp2
            go_ret
            exact ⟨by first | rfl | (simp; done) | (simp [*]; done), by repeat (first | exact Drawn0.refl _ | apply Drawn0.step)⟩
          · rw [if_neg c6] at H
            have c6b0 : (a0 == 807) = false := beq_eq_false_iff_ne.mpr c6
            have c6b1 : (a0 != 807) = true := bne_iff_ne.mpr c6
            by_cases c7 : a0 = 808
            · rw [if_pos c7] at H
              have c7b0 : (a0 == 808) = true := beq_iff_eq.mpr c7
              have c7b1 : (a0 != 808) = false := bne_eq_false_iff_eq.mpr c7
              clear c7
              obtain rfl := Option.some.inj H
              go_wp2
              go_ret
              exact ⟨by first | rfl | (simp; done) | (simp [*]; done), by repeat (first | exact Drawn0.refl _ | apply Drawn0.step)⟩
            · rw [if_neg c7] at H
              have c7b0 : (a0 == 808) = false := beq_eq_false_iff_ne.mpr c7
              have c7b1 : (a0 != 808) = true := bne_iff_ne.mpr c7
              replace H := Option.bind_eq_some_iff.mp H
              obtain ⟨t101, A80, H⟩ := H
              replace H : (some t101) = some r := H
              have A8 := Aside0.mk A80
              clear A80
              obtain rfl := Option.some.inj H
              go_wp2_with (first | ((with_reducible refine gate_callee (f := 103) rfl ?_); refine goesL_ (some 12) rfl rfl Tryd.func103 (by kernel_rfl) rfl #[.int .i64 a0, .int .i64 768, .int .i64 780] rfl (by (try simp only [List.map_toArray, List.map_cons, List.map_nil]); first | done | rfl | (simp only [List.length_drop, List.length_take]; rfl)) ?_; (with_reducible refine (repertoire_from.calls a0 768 780 t101 _ A8.out).mono ?_); rintro e w' ⟨rfl, ⟨nd, rfl⟩⟩; refine ⟨_, rfl, ?_⟩))
              go_ret
              exact ⟨by first | rfl | (simp; done) | (simp [*]; done), by repeat (first | exact Drawn0.refl _ | apply Drawn0.step)⟩
def stringslite_HasPrefix.f (a0 : ByteArray) (a1 : ByteArray) : Option (Bool) := if (a0.size : Int) ≥ (a1.size : Int) then (if 0 ≤ (a1.size : Int) then (if (a1.size : Int) ≤ (a0.size : Int) then (some ((a0.extract 0 ((a1.size : Int) : Int).toNat).toList == a1.toList)) else (none)) else (none)) else (some false)
set_option maxHeartbeats 8000000 in
set_option maxRecDepth 100000 in
theorem stringslite_HasPrefix.calls (a0 : ByteArray) (a1 : ByteArray) (r : Bool) (w : World) (h : stringslite_HasPrefix.f a0 a1 = some r) :
    Calls Tryd.prog 77 #[.string a0, .string a1] w fun e w' => e = .returned (.bool r) ∧ Drawn0 w w' := by
  have H : (if (a0.size : Int) ≥ (a1.size : Int) then (if 0 ≤ (a1.size : Int) then (if (a1.size : Int) ≤ (a0.size : Int) then (some ((a0.extract 0 ((a1.size : Int) : Int).toNat).toList == a1.toList)) else (none)) else (none)) else (some false)) = some r := h
  clear h
  by_cases c3 : (a0.size : Int) ≥ (a1.size : Int)
  · rw [if_pos c3] at H
    have c3b0 : decide ((a1.size : Int) ≤ (a0.size : Int)) = true := decide_eq_true c3
    have c3b1 : decide (a1.size ≤ a0.size) = true := decide_eq_true (Int.ofNat_le.mp c3)
    clear c3
    by_cases c4 : 0 ≤ (a1.size : Int)
    · rw [if_pos c4] at H
      have c4b0 := eq_true c4
      have c4b1 : decide (0 ≤ (a1.size : Int)) = true := decide_eq_true c4
      clear c4
      by_cases c5 : (a1.size : Int) ≤ (a0.size : Int)
      · rw [if_pos c5] at H
        have c5b0 := eq_true c5
        have c5b1 : decide ((a1.size : Int) ≤ (a0.size : Int)) = true := decide_eq_true c5
        clear c5
        obtain rfl := Option.some.inj H
        go_enter Tryd.func77, Tryd.ntmps77
        go_wp2
        go_ret
        exact ⟨by first | rfl | (simp; done) | (simp [*]; done), by repeat (first | exact Drawn0.refl _ | apply Drawn0.step)⟩
      · rw [if_neg c5] at H
        exact absurd H (by simp)
    · rw [if_neg c4] at H
      exact absurd H (by simp)
  · rw [if_neg c3] at H
    have c3b0 : decide ((a1.size : Int) ≤ (a0.size : Int)) = false := decide_eq_false c3
    have c3b1 : decide (a1.size ≤ a0.size) = false := decide_eq_false (fun h => c3 (Int.ofNat_le.mpr h))
    clear c3
    obtain rfl := Option.some.inj H
    go_enter Tryd.func77, Tryd.ntmps77
    go_wp2
    go_ret
    exact ⟨by first | rfl | (simp; done) | (simp [*]; done), by repeat (first | exact Drawn0.refl _ | apply Drawn0.step)⟩
def strings_HasPrefix.f (a0 : ByteArray) (a1 : ByteArray) : Option (Bool) := (stringslite_HasPrefix.f a0 a1).bind fun t102 => (some t102)
set_option maxHeartbeats 8000000 in
set_option maxRecDepth 100000 in
theorem strings_HasPrefix.calls (a0 : ByteArray) (a1 : ByteArray) (r : Bool) (w : World) (h : strings_HasPrefix.f a0 a1 = some r) :
    Calls Tryd.prog 54 #[.string a0, .string a1] w fun e w' => e = .returned (.bool r) ∧ Drawn0 w w' := by
  have H : ((stringslite_HasPrefix.f a0 a1).bind fun t102 => (some t102)) = some r := h
  clear h
  replace H := Option.bind_eq_some_iff.mp H
  obtain ⟨t102, A30, H⟩ := H
  replace H : (some t102) = some r := H
  have A3 := Aside0.mk A30
  clear A30
  obtain rfl := Option.some.inj H
  go_enter Tryd.func54, Tryd.ntmps54
  go_wp2_with (first | ((with_reducible refine gate_callee (f := 77) rfl ?_); refine goesL_ (some 7) rfl rfl Tryd.func77 (by kernel_rfl) rfl #[.string a0, .string a1] rfl (by (try simp only [List.map_toArray, List.map_cons, List.map_nil]); first | done | rfl | (simp only [List.length_drop, List.length_take]; rfl)) ?_; (with_reducible refine (stringslite_HasPrefix.calls a0 a1 t102 _ A3.out).mono ?_); rintro e w' ⟨rfl, ⟨nd, rfl⟩⟩; refine ⟨_, rfl, ?_⟩))
  go_ret
  exact ⟨by first | rfl | (simp; done) | (simp [*]; done), by repeat (first | exact Drawn0.refl _ | apply Drawn0.step)⟩
def bookplatelaw07_few.l0 : Nat → List (S34) → Int → Int → Option (Bool)
  | 0, _, _, _ => none
  | k + 1, x0, x5, x6 => if x6 < x5 then (if 0 ≤ x6 then (if x6 < (x0.length : Int) then (if (((rd_T34 x0 x6).f0).size : Int) > 30 then (some false) else (if (((rd_T34 x0 x6).f1).size : Int) > 30 then (some false) else (bookplatelaw07_few.l0 k x0 x5 (wrap64 (x6 + 1))))) else (none)) else (none)) else (some (decide ((x0.length : Int) ≤ 90)))
def bookplatelaw07_few.f (k : Nat) (l0 : List (S34)) : Option (Bool) := bookplatelaw07_few.l0 k l0 (l0.length : Int) 0
set_option maxHeartbeats 8000000 in
set_option maxRecDepth 100000 in
theorem bookplatelaw07_few.calls (k : Nat) (A0 : Option Addr) (c0 : Nat) (l0 : List (S34)) (r : Bool) (w : World) (hr0 : Kd.C k34 w A0 l0.length l0) (hc0 : l0.length ≤ c0) (h : bookplatelaw07_few.f k l0 = some r) :
    Calls Tryd.prog 18 #[.slice A0 l0.length c0] w fun e w' => e = .returned (.bool r) ∧ Drawn0 w w' := by
  have HR0 := Aside0.mk hr0
  have HC0 := Aside0.mk hc0
  clear hr0 hc0
  have H : (bookplatelaw07_few.l0 k l0 (l0.length : Int) 0) = some r := h
  clear h
  have H' := Aside0.mk H
  clear H
  go_enter Tryd.func18, Tryd.ntmps18
  go_wp2
  go_loopg [6] k (fun kq v6 w' => ∃ (x6_1 : Int), v6 = .int .i64 x6_1 ∧ Aside0 (bookplatelaw07_few.l0 kq l0 (l0.length : Int) x6_1 = some r) ∧ Aside0 (kq ≤ k) ∧ Drawn0 w w')
  case atStart => exact ⟨(0), (by first | rfl | (simp; done) | (simp [*]; done)), H', ⟨Nat.le_refl _⟩, by repeat (first | exact Drawn0.refl _ | apply Drawn0.step)⟩
  case round =>
    clear H'
    try clear c1
    obtain ⟨x6_1, rfl, HA, HK1, ⟨m1, rfl⟩⟩ := hrel
    cases gk with
    | zero => exact absurd HA.out (by simp [bookplatelaw07_few.l0])
    | succ k1 =>
      have H := HA.out
      clear HA
      simp only [bookplatelaw07_few.l0] at H
      by_cases c2 : x6_1 < (l0.length : Int)
      · rw [if_pos c2] at H
        have c2b0 : decide (x6_1 < (l0.length : Int)) = true := decide_eq_true c2
        clear c2
        by_cases c3 : 0 ≤ x6_1
        · rw [if_pos c3] at H
          have c3b0 : decide (0 ≤ x6_1) = true := decide_eq_true c3
          clear c3
          by_cases c4 : x6_1 < (l0.length : Int)
          · rw [if_pos c4] at H
            have c4b0 : decide (x6_1 < (l0.length : Int)) = true := decide_eq_true c4
            clear c4
            by_cases c5 : (((rd_T34 l0 x6_1).f0).size : Int) > 30
            · rw [if_pos c5] at H
              have c5b0 : decide (30 < (((rd_T34 l0 x6_1).f0).size : Int)) = true := decide_eq_true c5
              have c5b1 : decide (30 < ((rd_T34 l0 x6_1).f0).size) = true := decide_eq_true (by omega)
              clear c5
              obtain rfl := Option.some.inj H
              have p106 : 0 ≤ (x6_1 : Int) := of_decide_eq_true (by first | (with_reducible assumption) | assumption)
              have q106 : x6_1 < (l0.length : Int) := of_decide_eq_true (by first | (with_reducible assumption) | assumption)
              obtain ⟨ad106, e106, hx106_0, hx106_1⟩ := at_T34 HR0.out x6_1 p106 q106
              cases e106
              replace p106 := eq_true p106
              replace q106 := eq_true q106
              go_wp2
              go_ret
              exact ⟨by first | rfl | (simp; done) | (simp [*]; done), by repeat (first | exact Drawn0.refl _ | apply Drawn0.step)⟩
            · rw [if_neg c5] at H
              have c5b0 : decide (30 < (((rd_T34 l0 x6_1).f0).size : Int)) = false := decide_eq_false c5
              have c5b1 : decide (30 < ((rd_T34 l0 x6_1).f0).size) = false := decide_eq_false (by omega)
              clear c5
              by_cases c6 : (((rd_T34 l0 x6_1).f1).size : Int) > 30
              · rw [if_pos c6] at H
                have c6b0 : decide (30 < (((rd_T34 l0 x6_1).f1).size : Int)) = true := decide_eq_true c6
                have c6b1 : decide (30 < ((rd_T34 l0 x6_1).f1).size) = true := decide_eq_true (by omega)
                clear c6
                obtain rfl := Option.some.inj H
                have p106 : 0 ≤ (x6_1 : Int) := of_decide_eq_true (by first | (with_reducible assumption) | assumption)
                have q106 : x6_1 < (l0.length : Int) := of_decide_eq_true (by first | (with_reducible assumption) | assumption)
                obtain ⟨ad106, e106, hx106_0, hx106_1⟩ := at_T34 HR0.out x6_1 p106 q106
                cases e106
                replace p106 := eq_true p106
                replace q106 := eq_true q106
                have p107 : 0 ≤ (x6_1 : Int) := of_decide_eq_true (by first | (with_reducible assumption) | assumption)
                have q107 : x6_1 < (l0.length : Int) := of_decide_eq_true (by first | (with_reducible assumption) | assumption)
                obtain ⟨ad107, e107, hx107_0, hx107_1⟩ := at_T34 HR0.out x6_1 p107 q107
                obtain rfl : ad106 = ad107 := (by injection e107)
                replace p107 := eq_true p107
                replace q107 := eq_true q107
                go_wp2
                go_ret
                exact ⟨by first | rfl | (simp; done) | (simp [*]; done), by repeat (first | exact Drawn0.refl _ | apply Drawn0.step)⟩
              · rw [if_neg c6] at H
                have c6b0 : decide (30 < (((rd_T34 l0 x6_1).f1).size : Int)) = false := decide_eq_false c6
                have c6b1 : decide (30 < ((rd_T34 l0 x6_1).f1).size) = false := decide_eq_false (by omega)
                clear c6
                have H' := Aside0.mk H
                clear H
                have p106 : 0 ≤ (x6_1 : Int) := of_decide_eq_true (by first | (with_reducible assumption) | assumption)
                have q106 : x6_1 < (l0.length : Int) := of_decide_eq_true (by first | (with_reducible assumption) | assumption)
                obtain ⟨ad106, e106, hx106_0, hx106_1⟩ := at_T34 HR0.out x6_1 p106 q106
                cases e106
                replace p106 := eq_true p106
                replace q106 := eq_true q106
                have p107 : 0 ≤ (x6_1 : Int) := of_decide_eq_true (by first | (with_reducible assumption) | assumption)
                have q107 : x6_1 < (l0.length : Int) := of_decide_eq_true (by first | (with_reducible assumption) | assumption)
                obtain ⟨ad107, e107, hx107_0, hx107_1⟩ := at_T34 HR0.out x6_1 p107 q107
                obtain rfl : ad106 = ad107 := (by injection e107)
                replace p107 := eq_true p107
                replace q107 := eq_true q107
                go_wp2
                go_roundg k1
                case measure => have := HK1.out; omega
                case rel => exact ⟨(wrap64 (x6_1 + 1)), (by first | rfl | (simp; done) | (simp [*]; done)), H', ⟨by have := HK1.out; omega⟩, by repeat (first | exact Drawn0.refl _ | apply Drawn0.step)⟩
          · rw [if_neg c4] at H
            exact absurd H (by simp)
        · rw [if_neg c3] at H
          exact absurd H (by simp)
      · rw [if_neg c2] at H
        have c2b0 : decide (x6_1 < (l0.length : Int)) = false := decide_eq_false c2
        clear c2
        obtain rfl := Option.some.inj H
        go_wp2
        go_ret
        exact ⟨by first | rfl | (simp; done) | (simp [*]; done), by repeat (first | exact Drawn0.refl _ | apply Drawn0.step)⟩
def bookplatelaw07_own.l0 : Nat → List (S41) → List (S34) → Int → Int → Option ((List (S41)))
  | 0, _, _, _, _ => none
  | k + 1, x3, x6, x7, x8 => if x8 < x7 then (if 0 ≤ x8 then (if x8 < (x6.length : Int) then (if x3.length < 4398046511104 then (bookplatelaw07_own.l0 k (x3 ++ [(⟨(rd_T34 x6 x8).f0, (rd_T34 x6 x8).f1⟩ : S41)]) x6 x7 (wrap64 (x8 + 1))) else (none)) else (none)) else (none)) else (some x3)
def bookplatelaw07_own.f (k : Nat) (l0 : List (S34)) : Option ((List (S41))) := bookplatelaw07_own.l0 k ([] : List (S41)) l0 (l0.length : Int) 0
set_option maxHeartbeats 8000000 in
set_option maxRecDepth 100000 in
theorem bookplatelaw07_own.calls (k : Nat) (A0 : Option Addr) (c0 : Nat) (l0 : List (S34)) (r : List (S41)) (w : World) (hr0 : Kd.C k34 w A0 l0.length l0) (hc0 : l0.length ≤ c0) (h : bookplatelaw07_own.f k l0 = some r) :
    Calls Tryd.prog 19 #[.slice A0 l0.length c0] w fun e w' => ∃ v0_ : Value, e = .returned (v0_) ∧ Kd.R k41 41 w' w.heap.size (fun _ => True) v0_ r ∧ Below w.heap.size w w' := by
  have hu34 := Tryd.underlying34
  have HR0 := Aside0.mk hr0
  have HC0 := Aside0.mk hc0
  clear hr0 hc0
  have HB := Aside0.mk (Below.refl w.heap.size w)
  have H : (bookplatelaw07_own.l0 k ([] : List (S41)) l0 (l0.length : Int) 0) = some r := h
  clear h
  have H' := Aside0.mk H
  clear H
  go_enter Tryd.func19, Tryd.ntmps19
  go_wp2
  go_loopg [3, 8] k (fun kq v3 v8 w' => ∃ (x3_1 : List (S41)) (x8_1 : Int), v8 = .int .i64 x8_1 ∧ Aside0 (bookplatelaw07_own.l0 kq x3_1 l0 (l0.length : Int) x8_1 = some r) ∧ Aside0 (kq ≤ k) ∧ Aside0 (Kd.R k41 41 w' w.heap.size (fun _ => True) v3 x3_1) ∧ Aside0 (Below w.heap.size w w'))
  case atStart => exact ⟨(([] : List (S41))), (0), (by first | rfl | (simp; done) | (simp [*]; done)), H', ⟨Nat.le_refl _⟩, ⟨by first | exact Kd.R_nil _ _ _ _ _ | exact Kd.N_nil _ _ _ _ _ | exact Kd.V_nil _ _ _ _ _ | exact Kd.Q_nil _ _ _ _ _ | exact Kd.S_nil _ _ _ _ _⟩, ⟨by repeat (first | (with_reducible first | exact HB.out | apply below_alloc | apply pw_below_drewN | apply below_drew1) | exact HB.out)⟩⟩
  case round =>
    clear H'
    try clear c1
    obtain ⟨x3_1, x8_1, rfl, HA, HK1, HO_3, HB⟩ := hrel
    cases gk with
    | zero => exact absurd HA.out (by simp [bookplatelaw07_own.l0])
    | succ k1 =>
      have H := HA.out
      clear HA
      simp only [bookplatelaw07_own.l0] at H
      by_cases c2 : x8_1 < (l0.length : Int)
      · rw [if_pos c2] at H
        have c2b0 : decide (x8_1 < (l0.length : Int)) = true := decide_eq_true c2
        clear c2
        by_cases c3 : 0 ≤ x8_1
        · rw [if_pos c3] at H
          have c3b0 : decide (0 ≤ x8_1) = true := decide_eq_true c3
          clear c3
          by_cases c4 : x8_1 < (l0.length : Int)
          · rw [if_pos c4] at H
            have c4b0 : decide (x8_1 < (l0.length : Int)) = true := decide_eq_true c4
            clear c4
            by_cases c5 : x3_1.length < 4398046511104
            · rw [if_pos c5] at H
              have LMc5 := Aside0.mk c5
              clear c5
              obtain ⟨y110, hy110⟩ : ∃ y_ : List (S41), y_ = (x3_1 ++ [(⟨(rd_T34 l0 x8_1).f0, (rd_T34 l0 x8_1).f1⟩ : S41)]) := ⟨_, rfl⟩
              replace H : (bookplatelaw07_own.l0 k1 y110 l0 (l0.length : Int) (wrap64 (x8_1 + 1))) = some r := by first | (rw [hy110]; with_reducible exact H) | (have H2_ := (Option.bind_some _ _).symm.trans H; rw [hy110]; with_reducible exact H2_) | (have H2_ := (Option.bind_some _ _).symm.trans H; with_reducible exact H2_) | with_reducible exact H | (rw [hy110]; exact H) | exact H
              have Ny110 := Aside0.mk hy110
              clear hy110
              have H' := Aside0.mk H
              clear H
              have p108 : 0 ≤ (x8_1 : Int) := of_decide_eq_true (by first | (with_reducible assumption) | assumption)
              have q108 : x8_1 < (l0.length : Int) := of_decide_eq_true (by first | (with_reducible assumption) | assumption)
              obtain ⟨ad108, e108, hx108_0, hx108_1⟩ := at_T34 HR0.out x8_1 p108 q108
              cases e108
              replace hx108_0 := (HB.out.cell (World.block_lt_of_cell? w _ hx108_0)).trans hx108_0
              replace hx108_1 := (HB.out.cell (World.block_lt_of_cell? w _ hx108_1)).trans hx108_1
              replace p108 := eq_true p108
              replace q108 := eq_true q108
              go_wp2_with (first | ((with_reducible refine gate_dst (N := 5) rfl ?_); refine box_event ?hg (N := 5) ?hd (cs := #[.string (⟨#[]⟩ : ByteArray), .string (⟨#[]⟩ : ByteArray)]) (t := 34) ?hr ?_; (case hd => rfl); (case hg => rfl); (case hr => first | (go_simp; done) | (go_simp; rfl)); intro gb109 hg w6 hbox hb; have n0_ := Aside0.mk (Kd.R_below (by (with_reducible repeat (first | apply Kd.R_alloc | apply Kd.R_drewN | apply Kd.R_drew)); exact HO_3.out) hb); have n1_ := Aside0.mk (below_step (by repeat (first | (with_reducible first | exact HB.out | apply below_alloc | apply pw_below_drewN | apply below_drew1) | exact HB.out)) hb); have n2_ := Aside0.mk (hbox); have n3_ := Aside0.mk ((by rw [hg]; exact (below_size (by repeat (first | (with_reducible first | exact HB.out | apply below_alloc | apply pw_below_drewN | apply below_drew1) | exact HB.out))) : w.heap.size ≤ gb109)); have n4_ := Aside0.mk ((by rw [hg]; exact (below_size (by repeat (first | (with_reducible first | exact HB.out | apply below_alloc | apply pw_below_drewN | apply below_drew1) | exact HB.out))) : w.heap.size ≤ gb109)); clear HO_3; clear HB; have HO_3 := n0_; have HB := n1_; have BK109 := n2_; have GW109 := n3_; have GE109 := n4_; clear n0_ n1_ n2_ n3_ n4_; clear hb hbox hg; have hcz7_0 : w6.cell? ⟨gb109, 0, none⟩ = some (.string (⟨#[]⟩ : ByteArray)) := (blk_cell BK109.out 0).trans rfl; have hcz7_1 : w6.cell? ⟨gb109, 1, none⟩ = some (.string (⟨#[]⟩ : ByteArray)) := (blk_cell BK109.out 1).trans rfl; have hfz7_0 := blk_frozen BK109.out 0; have hfz7_1 := blk_frozen BK109.out 1) | ((with_reducible refine gate_builtin (b := .append) (xs := #[.tmp 12, .tmp 14]) rfl ?_); at_builtin; refine Kd.R_append k41 (w0 := w) w.heap.size rfl (.tmp 12) (.tmp 14) 25 41 (.agg #[(.string ⟨#[]⟩), (.string ⟨#[]⟩)]) 32 rfl Tryd.underlying25 info41 rfl (by decide) (by omega) u3 x3_1 (⟨(rd_T34 l0 x8_1).f0, (rd_T34 l0 x8_1).f1⟩ : S41) [.string ((rd_T34 l0 x8_1).f0), .string ((rd_T34 l0 x8_1).f1)] (fun _ => True) (fun _ => False) rfl (by first | (go_simp; done) | (go_simp; rfl)) ?aP (fun _ hk => hk.elim) ?aF ?aO ?aB ?aS ?aL ?_; (case aP => exact k41_mkM _ _ _ (⟨(rd_T34 l0 x8_1).f0, (rd_T34 l0 x8_1).f1⟩ : S41)); (case aB => exact (by repeat (first | (with_reducible first | exact HB.out | apply below_alloc | apply pw_below_drewN | apply below_drew1 | refine below_set ?_ GE109.out) | exact HB.out))); (case aF => exact (fun _ _ => trivial)); (case aO => exact (by (with_reducible repeat (first | apply Kd.R_alloc | apply Kd.R_drewN | apply Kd.R_drew)); exact Kd.R_mono (Kd.R_far (p := ⟨gb109, 1, none⟩) (Kd.R_far (p := ⟨gb109, 0, none⟩) (Kd.R_types HO_3.out BK109.out (by decide)) (fun _ hk => hk.2) (.string ((rd_T34 l0 x8_1).f0))) (fun _ hk => hk.2) (.string ((rd_T34 l0 x8_1).f1))) (fun _ hk => trivial))); (case aS => exact (below_size (by repeat (first | (with_reducible first | exact HB.out | apply below_alloc | apply pw_below_drewN | apply below_drew1 | refine below_set ?_ GE109.out) | exact HB.out)))); (case aL => have := LMc5.out; omega); intro v111 w8 ho hb hg hat; rw [← Ny110.out] at ho; have n0_ := Aside0.mk (blk_grown (g := gb109) (o := .cells #[.string ((rd_T34 l0 x8_1).f0), .string ((rd_T34 l0 x8_1).f1)] 34 (0, 0)) (by (with_reducible repeat (first | refine blk_drewN ?_ _ | refine blk_drew ?_ | refine blk_alloc ?_ _)); refine blk_put (cs := #[.string ((rd_T34 l0 x8_1).f0), .string (⟨#[]⟩ : ByteArray)]) ?_ 1 _ rfl; (with_reducible repeat (first | refine blk_drewN ?_ _ | refine blk_drew ?_ | refine blk_alloc ?_ _)); refine blk_put (cs := #[.string (⟨#[]⟩ : ByteArray), .string (⟨#[]⟩ : ByteArray)]) ?_ 0 _ rfl; (with_reducible repeat (first | refine blk_drewN ?_ _ | refine blk_drew ?_ | refine blk_alloc ?_ _)); exact BK109.out) hg (Kd.R_ne HO_3.out BK109.out (by decide))); have n1_ := Aside0.mk (hb); have n2_ := Aside0.mk (ho); clear BK109; clear HB; clear HO_3; have BK109 := n0_; have HB := n1_; have HO112 := n2_; clear n0_ n1_ n2_; clear ho hb hg hat))
              go_roundg k1
              case measure => have := HK1.out; omega
              case rel => exact ⟨(y110), (wrap64 (x8_1 + 1)), (by first | rfl | (simp; done) | (simp [*]; done)), H', ⟨by have := HK1.out; omega⟩, ⟨by (with_reducible repeat (first | apply Kd.R_alloc | apply Kd.R_drewN | apply Kd.R_drew)); exact HO112.out⟩, ⟨by repeat (first | (with_reducible first | exact HB.out | apply below_alloc | apply pw_below_drewN | apply below_drew1 | refine below_set ?_ GE109.out) | exact HB.out)⟩⟩
            · rw [if_neg c5] at H
              exact absurd H (by simp)
          · rw [if_neg c4] at H
            exact absurd H (by simp)
        · rw [if_neg c3] at H
          exact absurd H (by simp)
      · rw [if_neg c2] at H
        have c2b0 : decide (x8_1 < (l0.length : Int)) = false := decide_eq_false c2
        clear c2
        obtain rfl := Option.some.inj H
        go_wp2
        go_ret
        exact ⟨_, by first | rfl | (simp [errW_none, errW_some] <;> rfl) | (simp [*, errW_none, errW_some] <;> rfl), by (with_reducible repeat (first | apply Kd.R_alloc | apply Kd.R_drewN | apply Kd.R_drew)); exact HO_3.out, by repeat (first | (with_reducible first | exact HB.out | apply below_alloc | apply pw_below_drewN | apply below_drew1) | exact HB.out)⟩
end Go.Proofs.YthcpdhniakpbaaaDoor.X
end

section
namespace Go.Proofs.YthcpdhniakpbaaaDoor.X
open Go.RowKit Go.Proofs.YthcpdhniakpbaaaDoorW.PrintWords
theorem wp_scope_fwd {P : Program} {a : Act} {w : World} {Q : Exit → Act → World → Prop} {c rest : Code} (l : Nat) (hf : findLabel c l = some rest)
    (h : c.wp P (Exit.jump l (fun a w => rest.wp P (Exit.jump l (fun _ _ => False) Q) a w) Q) a w) : (Code.scope c).wp P Q a w :=
  wp_scope_jumps l (fun a w => rest.wp P (Exit.jump l (fun _ _ => False) Q) a w) (fun _ _ => 0) hf h
    (fun _ _ hj => wp_mono hj (fun e a w hq => by cases e <;> first | exact hq | exact hq.2.elim))
section
variable {Q : Exit → Act → World → Prop} {J : Act → World → Prop} {a : Act} {w : World} {l : Nat}
theorem jump_normal : Exit.jump l J Q .normal a w = Q .normal a w := rfl
theorem jump_exit (id : Nat) : Exit.jump l J Q (.exit id) a w = Q (.exit id) a w := rfl
theorem jump_ret : Exit.jump l J Q .ret a w = Q .ret a w := rfl
end
attribute [local go_sem] jump_normal jump_exit jump_ret
theorem quiet_add_same {P : Program} {f : FuncId} {args : Array Value} {w : World} {a n : Nat} {v : Value}
    (h : Calls P f args (w.drewN (a + n)) fun e w' => e = .returned v ∧ w' = w.drewN (a + n)) :
    Calls P f args (w.drewN (a + n)) fun e w'' => e = .returned v ∧ ∃ m, w'' = w.drewN (a + m) :=
  h.mono fun _ _ ⟨he, hm⟩ => ⟨he, n, hm⟩
theorem valid_yes (r : Int) (w : World) (h : (128 ≤ r ∧ r ≤ 55295) ∨ (57344 ≤ r ∧ r ≤ 1114111)) : Calls Tryd.prog 115 #[.int .i32 r] w fun e w' => e = .returned (.bool true) ∧ w = w' := by
  rcases h with ⟨h1, h2⟩ | ⟨h1, h2⟩
  · go_enter Tryd.func115, Tryd.ntmps115
    go_wp2
    go_ret
    exact ⟨rfl, rfl⟩
  · go_enter Tryd.func115, Tryd.ntmps115
    go_wp2
    go_ret
    exact ⟨rfl, rfl⟩
theorem valid_no (r : Int) (w : World) (h : (55296 ≤ r ∧ r ≤ 57343) ∨ 1114112 ≤ r ∨ r < 0) : Calls Tryd.prog 115 #[.int .i32 r] w fun e w' => e = .returned (.bool false) ∧ w = w' := by
  rcases h with ⟨h1, h2⟩ | h1 | h1
  · go_enter Tryd.func115, Tryd.ntmps115
    go_wp2
    go_ret
    exact ⟨rfl, rfl⟩
  · go_enter Tryd.func115, Tryd.ntmps115
    go_wp2
    go_ret
    exact ⟨rfl, rfl⟩
  · go_enter Tryd.func115, Tryd.ntmps115
    go_wp2
    go_ret
    exact ⟨rfl, rfl⟩
theorem cut_any (n : Int) (w : World) (h0 : 0 ≤ n) (h : n ≤ 4294967296) : Calls Tryd.prog 116 #[.int .i64 n] w fun e w' => e = .returned (.int .i64 ((n + 16) / 8)) ∧ w = w' := by
  go_enter Tryd.func116, Tryd.ntmps116
  go_wp2
  go_ret
  exact ⟨rfl, rfl⟩
theorem conv_rune (r : Int) (w : World) : (convert 21 9 (.int .i32 r)).run Tryd.prog w = .ok (.string (Utf8.encode r)) w := by
  have h21 := Tryd.underlying21
  have h9 := Tryd.underlying9
  simp [convert, run_underlying h21, run_underlying h9, Conv.intToString]
theorem cut_from (s : ByteArray) (i : Nat) (h : i + 1 ≤ s.size) (w : World) : (Instr.slice 9 (.string s) (some (.int .i64 ((i : Int) + 1))) none none).run Tryd.prog w = .ok (.string (s.extract (i + 1) s.size)) w := by
  have h9 := run_underlying (w := w) Tryd.underlying9
  have b0 : (0 : Int) ≤ (i : Int) + 1 := by omega
  have b1 : (i : Int) + 1 ≤ (s.size : Int) := by omega
  have b2 : ((i : Int) + 1).toNat = i + 1 := by omega
  simp [Instr.slice, h9, Instr.sliceBounds, Instr.sliceBound, asIntOf, go_sem, b0, b1, b2]
def IrInv (s rs : ByteArray) (i f : Nat) : Prop :=
  NoEnd s.data.toList rs.data.toList i ∧ rs.size ≤ i + 1 ∧ i ≤ s.size + rs.size ∧ f ≤ cntTo s.data.toList (rs.data.toList.getD (rs.size - 1) 0) i
def IrHit (s rs : ByteArray) (L i f : Nat) : Prop := IrInv s rs i f ∧ s.data.toList[i]? = rs.data.toList[L]?
def IrPart (s rs : ByteArray) (L i j : Nat) : Prop := ∀ t, t < j → s.data.toList[i - t]? = rs.data.toList[L - t]?
theorem ret_int {k : IntKind} {a b : Int} (h : a = b) : Ending.returned (.int k a) = .returned (.int k b) := by rw [h]
theorem at_get {s : ByteArray} {i : Nat} (h : i < s.size) : s.data.toList[i]? = some s[i] := Lib.data_getElem? s i h
theorem len_of (s : ByteArray) : s.data.toList.length = s.size := data_length s
theorem same_byte {a b : UInt8} (h : (((a.toNat : Nat) : Int) != ((b.toNat : Nat) : Int)) = false) : a = b := Lib.byte_eq_of_toNat (by simpa using h)
theorem other_byte {a b : UInt8} (h : (((a.toNat : Nat) : Int) != ((b.toNat : Nat) : Int)) = true) : a ≠ b := fun e => by subst e; simp at h
theorem hit_here {s rs : ByteArray} {L i f : Nat} (h : IrInv s rs i f) (hi : i < s.size) (hL : L < rs.size) (hb : (((s[i].toNat : Nat) : Int) != ((rs[L].toNat : Nat) : Int)) = false) : IrHit s rs L i f :=
  ⟨h, by rw [at_get hi, at_get hL, same_byte hb]⟩
theorem skip_facts {s rs : ByteArray} {L i k : Nat} (hLb : L < rs.size) (ho : Lib.indexByte (s.extract (i + 1) s.size).data.toList ((rs[L].toNat : Int)).toNat.toUInt8 = (k : Int)) :
    s.data.toList[i + 1 + k]? = rs.data.toList[L]? ∧ ∀ t, t < k → s.data.toList[i + 1 + t]? ≠ rs.data.toList[L]? := by
  rw [Lib.extract_to_end, Lib.byte_back] at ho
  obtain ⟨h1, h2⟩ := Lib.indexByte_some ho
  rw [List.getElem?_drop] at h1
  refine ⟨by rw [h1, at_get hLb], fun t ht => ?_⟩
  have := h2 t ht
  rw [List.getElem?_drop] at this
  rw [at_get hLb]
  exact this
theorem hit_skip {s rs : ByteArray} {L i k f : Nat} (hL : rs.size = L + 1) (h : IrInv s rs i f) (hi : i < s.size) (hLb : L < rs.size) (hb : (((s[i].toNat : Nat) : Int) != ((rs[L].toNat : Nat) : Int)) = true)
    (ho : Lib.indexByte (s.extract (i + 1) s.size).data.toList ((rs[L].toNat : Int)).toNat.toUInt8 = (k : Int)) : i + (k + 1) < s.size ∧ IrHit s rs L (i + (k + 1)) f := by
  obtain ⟨h1, h2⟩ := skip_facts hLb ho
  have hlt : i + (k + 1) < s.size := by
    rw [at_get hLb] at h1
    have := (List.getElem?_eq_some_iff.1 h1).1
    rw [len_of] at this
    omega
  refine ⟨hlt, ⟨?_, by have := h.2.1; omega, by omega, Nat.le_trans h.2.2.2 (cntTo_mono _ _ (by omega))⟩, by rw [← h1, show i + (k + 1) = i + 1 + k by omega]⟩
  refine ir_skip h.1 (by rw [len_of]; omega) (fun q hq1 hq2 => ?_)
  rw [len_of, show rs.size - 1 = L by omega]
  rcases Nat.lt_or_ge i q with hq | hq
  · have := h2 (q - (i + 1)) (by omega)
    rwa [show i + 1 + (q - (i + 1)) = q by omega] at this
  · obtain rfl : q = i := by omega
    rw [at_get hi, at_get hLb]
    exact fun e => other_byte hb (Option.some.inj e)
theorem indexByte_ge : ∀ (l : List UInt8) (c : UInt8), -1 ≤ Lib.indexByte l c
  | [], _ => by simp [Lib.indexByte]
  | b :: l, c => by
    have := indexByte_ge l c
    unfold Lib.indexByte
    split
    · omega
    · split <;> omega
theorem skip_none {s rs : ByteArray} {L i f : Nat} {o : Int} (hL : rs.size = L + 1) (h : IrInv s rs i f) (hi : i < s.size) (hLb : L < rs.size) (hb : (((s[i].toNat : Nat) : Int) != ((rs[L].toNat : Nat) : Int)) = true)
    (ho : Lib.indexByte (s.extract (i + 1) s.size).data.toList ((rs[L].toNat : Int)).toNat.toUInt8 = o) (hneg : o < 0) : Lib.index s.data.toList rs.data.toList = -1 := by
  have hge := indexByte_ge (s.extract (i + 1) s.size).data.toList ((rs[L].toNat : Int)).toNat.toUInt8
  obtain rfl : o = -1 := by omega
  rw [Lib.extract_to_end, Lib.byte_back] at ho
  have hno := Lib.indexByte_none ho
  refine ir_end (i := s.size) (ir_skip h.1 (by rw [len_of]; omega) (fun q hq1 hq2 => ?_)) (by rw [len_of]; exact Nat.le_refl _) (fun e => by have := len_of rs; rw [e] at this; simp at this; omega)
  rw [len_of, show rs.size - 1 = L by omega]
  rcases Nat.lt_or_ge i q with hq | hq
  · have := hno (q - (i + 1))
    rw [List.getElem?_drop, show i + 1 + (q - (i + 1)) = q by omega] at this
    rw [at_get hLb]
    exact this
  · obtain rfl : q = i := by omega
    rw [at_get hi, at_get hLb]
    exact fun e => other_byte hb (Option.some.inj e)
theorem part_start {s rs : ByteArray} {L i f : Nat} (h : IrHit s rs L i f) : IrPart s rs L i 1 := fun t ht => by
  obtain rfl : t = 0 := by omega
  exact h.2
theorem part_step {s rs : ByteArray} {L i j : Nat} (h : IrPart s rs L i j) (hi : i - j < s.size) (hL : L - j < rs.size) (hb : (((s[i - j].toNat : Nat) : Int) != ((rs[L - j].toNat : Nat) : Int)) = false) : IrPart s rs L i (j + 1) := fun t ht => by
  rcases Nat.lt_or_ge t j with h' | h'
  · exact h t h'
  · obtain rfl : t = j := by omega
    rw [at_get hi, at_get hL, same_byte hb]
theorem part_done {s rs : ByteArray} {L i f : Nat} (hL : rs.size = L + 1) (h : IrHit s rs L i f) (hi : i < s.size) (hp : IrPart s rs L i (L + 1)) : Lib.index s.data.toList rs.data.toList = (i : Int) - (L : Int) := by
  have := ir_hit (R := rs.data.toList) h.1.1 (by rw [len_of]; exact hi) (by rw [len_of]; exact h.1.2.1) (by rw [len_of]; omega) (fun t ht => by
    rw [len_of] at ht ⊢
    rw [show rs.size - 1 - t = L - t by omega]
    exact hp t (by omega))
  rw [this, len_of]
  have := h.1.2.1
  omega
theorem part_miss {s rs : ByteArray} {L i j f : Nat} (hL : rs.size = L + 1) (h : IrHit s rs L i f) (hi : i < s.size) (hj : j ≤ L) (hij : i - j < s.size) (hLj : L - j < rs.size) (hb : (((s[i - j].toNat : Nat) : Int) != ((rs[L - j].toNat : Nat) : Int)) = true) : IrInv s rs (i + 1) (f + 1) := by
  have hLb : L < rs.size := by omega
  refine ⟨ir_miss (t := j) h.1.1 (by rw [len_of]; exact h.1.2.1) (by rw [len_of]; omega) ?_, by have := h.1.2.1; omega, by omega, ?_⟩
  · rw [len_of, show rs.size - 1 - j = L - j by omega, at_get hij, at_get hLj]
    exact fun e => other_byte hb (Option.some.inj e)
  · have hc := h.1.2.2.2
    have h2 := h.2
    rw [at_get hLb] at h2
    rw [show rs.size - 1 = L by omega, List.getD_eq_getElem?_getD, at_get hLb, Option.getD_some] at hc ⊢
    rw [cntTo_succ _ _ h2]
    exact Nat.succ_le_succ hc
theorem fails_le {s rs : ByteArray} {L i f : Nat} (hL : rs.size = L + 1) (h : IrInv s rs (i + 1) (f + 1)) (hi : i < s.size) (hcalm : calm s.data.toList (rs.data.toList.getD L 0) = true) : (f : Int) + 1 ≤ ((i : Int) + 1 + 16) / 8 := by
  have h1 := calm_le hcalm (i + 1) (by rw [len_of]; omega)
  have h2 := h.2.2.2
  rw [show rs.size - 1 = L by omega] at h2
  omega
set_option maxHeartbeats 4000000 in
set_option maxRecDepth 100000 in
theorem ir_walk (s : ByteArray) (r : Int) (w : World) (h0 : 128 ≤ r) (hv : (128 ≤ r ∧ r ≤ 55295) ∨ (57344 ≤ r ∧ r ≤ 1114111)) (hne : (r == 65533) = false) (hs : s.size ≤ 4294967000) (rs : ByteArray) (L : Nat) (hL : rs.size = L + 1) (hr2 : 1 ≤ L) (hr4 : L ≤ 3)
    (hconv : ∀ w, (convert 21 9 (.int .i32 r)).run Tryd.prog w = .ok (.string rs) w) (hcalm : calm s.data.toList (rs.data.toList.getD L 0) = true) :
    Calls Tryd.prog 106 #[.string s, .int .i32 r] w fun e w' => e = .returned (.int .i64 (Lib.index s.data.toList rs.data.toList)) ∧ Drawn0 w w' := by
  have HC := Lib.hid hcalm
  clear hcalm
  have HV := Lib.hid hv
  clear hv
  have hs1 : (rs.size : Int) - 1 = (L : Int) := by omega
  have hLb : L < rs.size := by omega
  have HL := Lib.hid hL
  clear hL
  go_enter Tryd.func106, Tryd.ntmps106
  go_wp2_with (go_at_call 115; refine (valid_yes _ _ HV.out).mono ?_; rintro e w' ⟨rfl, rfl⟩)
  go_step3
  go_wp2
  go_loopw [9, 10, 11, 12] (fun v9 v10 v11 v12 wr => ∃ i f : Nat, v9 = .int .i64 (i : Int) ∧ v10 = .int .i64 (f : Int) ∧ Aside0 (IrInv s rs i f) ∧ Aside0 (Drawn0 w wr)) (fun v9 v10 v11 v12 _ => s.size + 8 - (intOf v9).toNat)
  case atStart =>
    have hL := HL.out
    refine ⟨L, 0, rfl, rfl, ⟨NoEnd.start _ _ _ (by rw [len_of]; omega), by omega, by omega, by omega⟩, ⟨Drawn0.refl _⟩⟩
  case round =>
    obtain ⟨i, f, rfl, rfl, HI, HD⟩ := hrel
    by_cases hlt : i < s.size
    · go_wp2
      refine wp_scope_fwd 0 rfl ?_
      go_wp2
      obtain ⟨o, ho⟩ : ∃ o, Lib.indexByte (s.extract (i + 1) s.size).data.toList ((rs[L].toNat : Int)).toNat.toUInt8 = o := ⟨_, rfl⟩
      have HIB := Lib.hid (show ∀ w, Calls Tryd.prog 114 #[.string (s.extract (i + 1) s.size), .int .u8 (rs[L].toNat : Int)] w fun e w' => e = .returned (.int .i64 o) ∧ w' = w from fun w => by rw [← ho]; exact Tryd.strings_IndexByte _ _ w)
      have HO := Lib.hid ho
      clear ho
      have w1 : IntKind.i64.wrap ((i : Int) + 1) = (i : Int) + 1 := IntWalk.i64_in _ (by omega)
      have n1 : (0 : Int) ≤ (i : Int) + 1 := by omega
      have t1 : ((i : Int) + 1).toNat = i + 1 := by omega
      have l1 : i + 1 ≤ s.size := by omega
      have hcut := fun w => cut_from s i l1 w
      by_cases hc : (((s[i].toNat : Nat) : Int) != ((rs[L].toNat : Nat) : Int)) = true
      · by_cases hneg : o < 0
        · have HN := Lib.hid (skip_none HL.out HI.out hlt hLb hc HO.out hneg)
          go_quiet (fail)
          go_wp2
          go_quiet ((go_at_call 114; exact quiet_add_same (HIB.out _)))
          clear w1 n1 t1 hcut
          go_wp2
          change bodyPost Tryd.prog Tryd.f106 (fun e w' => e = Ending.returned (Value.int IntKind.i64 (Lib.index s.data.toList rs.data.toList)) ∧ Drawn0 w w') Exit.ret _ _
          go_ret
          exact ⟨ret_int HN.out.symm, HD.out.step _⟩
        · obtain ⟨k, rfl⟩ : ∃ k : Nat, o = (k : Int) := ⟨o.toNat, by omega⟩
          obtain ⟨i2, hi2⟩ : ∃ i2, i2 = i + (k + 1) := ⟨_, rfl⟩
          have hsk := hit_skip HL.out HI.out hlt hLb hc HO.out
          rw [← hi2] at hsk
          have hlt2 := hsk.1
          have HI2 := Aside0.mk hsk.2
          clear hsk
          have e2 : (i : Int) + ((k : Int) + 1) = (i2 : Int) := by omega
          have hle : i ≤ i2 := by omega
          clear hi2
          go_quiet (fail)
          go_wp2
          go_quiet ((go_at_call 114; exact quiet_add_same (HIB.out _)))
          go_wp2
          clear e2 hc
          clear w1 n1 t1 hcut l1 HO HIB HI
          go_loopw [12] (fun v12 wr1 => ∃ j : Nat, v12 = .int .i64 (j : Int) ∧ 1 ≤ j ∧ j ≤ L + 1 ∧ Aside0 (IrPart s rs L i2 j) ∧ Aside0 (Drawn0 w wr1)) (fun v12 _ => L + 1 - (intOf v12).toNat)
          case atStart => exact ⟨1, rfl, by omega, by omega, ⟨part_start HI2.out⟩, ⟨HD.out.step _⟩⟩
          case round =>
            obtain ⟨j, rfl, hj1, hj2, HP, HD1⟩ := hrel
            have hLi := HI2.out.1.2.1
            have hL := HL.out
            have HLI := Lib.hid (show L ≤ i2 by omega)
            clear hLi hL
            by_cases hjl : j < rs.size
            · have hjL : j ≤ L := by have := HL.out; omega
              have hji : j ≤ i2 := by have := HLI.out; omega
              have b1 : i2 - j < s.size := by omega
              have b2 : L - j < rs.size := by omega
              have c1 : (i2 : Int) - (j : Int) = ((i2 - j : Nat) : Int) := by omega
              have c2 : (L : Int) - (j : Int) = ((L - j : Nat) : Int) := by omega
              have w1 : IntKind.i64.wrap ((i2 : Int) - (j : Int)) = ((i2 - j : Nat) : Int) := by rw [c1]; exact IntWalk.i64_in _ (by omega)
              have w2 : IntKind.i64.wrap ((L : Int) - (j : Int)) = ((L - j : Nat) : Int) := by rw [c2]; exact IntWalk.i64_in _ (by omega)
              by_cases hx : (((s[i2 - j].toNat : Nat) : Int) != ((rs[L - j].toNat : Nat) : Int)) = true
              · have HM := Lib.hid (part_miss HL.out HI2.out hlt2 hjL b1 b2 hx)
                have hfl := fails_le HL.out HM.out hlt2 HC.out
                go_wp2
                go_quiet (fail)
                clear c1 c2 w1 w2
                go_wp2
                go_step3
                refine (show 0 = 0 ∧ _ from ⟨rfl, ?_⟩)
                go_wp2_with (go_at_call 116; refine (cut_any _ _ (by omega) (by omega)).mono ?_; rintro e w' ⟨rfl, rfl⟩)
                go_roundw
                case rel => exact ⟨i2 + 1, f + 1, by go_num, by go_num, ⟨HM.out⟩, ⟨HD1.out.step _⟩⟩
                case measure => simp [intOf]; omega
              · have hx' : (((s[i2 - j].toNat : Nat) : Int) != ((rs[L - j].toNat : Nat) : Int)) = false := by simpa using hx
                clear hx
                have HS := Lib.hid (part_step HP.out b1 b2 hx')
                go_wp2
                go_quiet (fail)
                clear c1 c2 w1 w2
                go_wp2
                go_roundw
                case rel => exact ⟨j + 1, by go_num, by omega, by omega, ⟨HS.out⟩, ⟨HD1.out.step _⟩⟩
                case measure => simp [intOf]; omega
            · obtain rfl : j = L + 1 := by have := HL.out; omega
              have HR := Lib.hid (part_done HL.out HI2.out hlt2 HP.out)
              go_wp2
              change bodyPost Tryd.prog Tryd.f106 (fun e w' => e = Ending.returned (Value.int IntKind.i64 (Lib.index s.data.toList rs.data.toList)) ∧ Drawn0 w w') Exit.ret _ _
              go_ret
              exact ⟨ret_int HR.out.symm, HD1.out⟩
      · have hc' : (((s[i].toNat : Nat) : Int) != ((rs[L].toNat : Nat) : Int)) = false := by simpa using hc
        clear hc
        obtain ⟨i2, hi2⟩ : ∃ i2, i2 = i := ⟨_, rfl⟩
        subst hi2
        have hlt2 := hlt
        have HI2 := Aside0.mk (hit_here HI.out hlt hLb hc')
        go_quiet (fail)
        go_wp2
        clear hc'
        clear w1 n1 t1 hcut l1 HO HIB HI
        go_loopw [12] (fun v12 wr1 => ∃ j : Nat, v12 = .int .i64 (j : Int) ∧ 1 ≤ j ∧ j ≤ L + 1 ∧ Aside0 (IrPart s rs L i2 j) ∧ Aside0 (Drawn0 w wr1)) (fun v12 _ => L + 1 - (intOf v12).toNat)
        case atStart => exact ⟨1, rfl, by omega, by omega, ⟨part_start HI2.out⟩, ⟨HD.out.step _⟩⟩
        case round =>
          obtain ⟨j, rfl, hj1, hj2, HP, HD1⟩ := hrel
          have hLi := HI2.out.1.2.1
          have hL := HL.out
          have HLI := Lib.hid (show L ≤ i2 by omega)
          clear hLi hL
          by_cases hjl : j < rs.size
          · have hjL : j ≤ L := by have := HL.out; omega
            have hji : j ≤ i2 := by have := HLI.out; omega
            have b1 : i2 - j < s.size := by omega
            have b2 : L - j < rs.size := by omega
            have c1 : (i2 : Int) - (j : Int) = ((i2 - j : Nat) : Int) := by omega
            have c2 : (L : Int) - (j : Int) = ((L - j : Nat) : Int) := by omega
            have w1 : IntKind.i64.wrap ((i2 : Int) - (j : Int)) = ((i2 - j : Nat) : Int) := by rw [c1]; exact IntWalk.i64_in _ (by omega)
            have w2 : IntKind.i64.wrap ((L : Int) - (j : Int)) = ((L - j : Nat) : Int) := by rw [c2]; exact IntWalk.i64_in _ (by omega)
            by_cases hx : (((s[i2 - j].toNat : Nat) : Int) != ((rs[L - j].toNat : Nat) : Int)) = true
            · have HM := Lib.hid (part_miss HL.out HI2.out hlt2 hjL b1 b2 hx)
              have hfl := fails_le HL.out HM.out hlt2 HC.out
              go_wp2
              go_quiet (fail)
              clear c1 c2 w1 w2
              go_wp2
              go_step3
              refine (show 0 = 0 ∧ _ from ⟨rfl, ?_⟩)
              go_wp2_with (go_at_call 116; refine (cut_any _ _ (by omega) (by omega)).mono ?_; rintro e w' ⟨rfl, rfl⟩)
              go_roundw
              case rel => exact ⟨i2 + 1, f + 1, by go_num, by go_num, ⟨HM.out⟩, ⟨HD1.out.step _⟩⟩
              case measure => simp [intOf]; omega
            · have hx' : (((s[i2 - j].toNat : Nat) : Int) != ((rs[L - j].toNat : Nat) : Int)) = false := by simpa using hx
              clear hx
              have HS := Lib.hid (part_step HP.out b1 b2 hx')
              go_wp2
              go_quiet (fail)
              clear c1 c2 w1 w2
              go_wp2
              go_roundw
              case rel => exact ⟨j + 1, by go_num, by omega, by omega, ⟨HS.out⟩, ⟨HD1.out.step _⟩⟩
              case measure => simp [intOf]; omega
          · obtain rfl : j = L + 1 := by have := HL.out; omega
            have HR := Lib.hid (part_done HL.out HI2.out hlt2 HP.out)
            go_wp2
            change bodyPost Tryd.prog Tryd.f106 (fun e w' => e = Ending.returned (Value.int IntKind.i64 (Lib.index s.data.toList rs.data.toList)) ∧ Drawn0 w w') Exit.ret _ _
            go_ret
            exact ⟨ret_int HR.out.symm, HD1.out⟩
    · have HE := Lib.hid (ir_end HI.out.1 (by rw [len_of]; omega) (fun e => by have := len_of rs; rw [e] at this; simp at this; omega))
      go_wp2
      change bodyPost Tryd.prog Tryd.f106 (fun e w' => e = Ending.returned (Value.int IntKind.i64 (Lib.index s.data.toList rs.data.toList)) ∧ Drawn0 w w') Exit.ret _ _
      go_ret
      exact ⟨ret_int HE.out.symm, HD.out⟩
set_option maxRecDepth 100000 in
theorem ir_ascii (s : ByteArray) (r : Int) (w : World) (h0 : 0 ≤ r) (h1 : r < 128) :
    Calls Tryd.prog 106 #[.string s, .int .i32 r] w fun e w' => e = .returned (.int .i64 (Lib.indexByte s.data.toList r.toNat.toUInt8)) ∧ w = w' := by
  go_enter Tryd.func106, Tryd.ntmps106
  go_wp2_with (go_at_call 114; refine (Tryd.strings_IndexByte _ _ _).mono ?_; rintro e w' ⟨rfl, rfl⟩)
  go_ret
  exact ⟨rfl, rfl⟩
set_option maxRecDepth 100000 in
theorem ir_bad (s : ByteArray) (r : Int) (w : World) (h : (55296 ≤ r ∧ r ≤ 57343) ∨ 1114112 ≤ r ∨ r < 0) :
    Calls Tryd.prog 106 #[.string s, .int .i32 r] w fun e w' => e = .returned (.int .i64 (-1)) ∧ w = w' := by
  have hne : (r == 65533) = false := by simp; omega
  have HB := Lib.hid h
  rcases h with h | h | h
  · go_enter Tryd.func106, Tryd.ntmps106
    go_wp2_with (go_at_call 115; refine (valid_no _ _ HB.out).mono ?_; rintro e w' ⟨rfl, rfl⟩)
    go_ret
    exact ⟨rfl, rfl⟩
  · go_enter Tryd.func106, Tryd.ntmps106
    go_wp2_with (go_at_call 115; refine (valid_no _ _ HB.out).mono ?_; rintro e w' ⟨rfl, rfl⟩)
    go_ret
    exact ⟨rfl, rfl⟩
  · go_enter Tryd.func106, Tryd.ntmps106
    go_wp2_with (go_at_call 115; refine (valid_no _ _ HB.out).mono ?_; rintro e w' ⟨rfl, rfl⟩)
    go_ret
    exact ⟨rfl, rfl⟩
theorem encode_size (r : Int) (h : (128 ≤ r ∧ r ≤ 55295) ∨ (57344 ≤ r ∧ r ≤ 1114111)) : 2 ≤ (Utf8.encode r).size ∧ (Utf8.encode r).size ≤ 4 := by
  have hv : Utf8.valid r = true := by
    unfold Utf8.valid
    rcases h with h | h
    · simp; omega
    · simp; omega
  unfold Utf8.encode
  simp only [hv, if_true]
  rw [if_neg (by omega)]
  split
  · simp [ByteArray.size]
  · split
    · simp [ByteArray.size]
    · simp [ByteArray.size]
def strings_IndexRune.f (a0 : ByteArray) (a1 : Int) : Option Int :=
  if 0 ≤ a1 ∧ a1 < 128 then some (Lib.indexByte a0.data.toList a1.toNat.toUInt8)
  else if (55296 ≤ a1 ∧ a1 ≤ 57343) ∨ 1114112 ≤ a1 ∨ a1 < 0 then some (-1)
  else if a1 = 65533 then none
  else if a0.size ≤ 4294967000 ∧ calm a0.data.toList ((Utf8.encode a1).data.toList.getD ((Utf8.encode a1).size - 1) 0) = true then some (Lib.index a0.data.toList (Utf8.encode a1).data.toList)
  else none
theorem strings_IndexRune.calls (a0 : ByteArray) (a1 : Int) (r : Int) (w : World) (h : strings_IndexRune.f a0 a1 = some r) :
    Calls Tryd.prog 106 #[.string a0, .int .i32 a1] w fun e w' => e = .returned (.int .i64 r) ∧ Drawn0 w w' := by
  unfold strings_IndexRune.f at h
  split at h
  · rename_i h1
    obtain rfl := Option.some.inj h
    exact (ir_ascii a0 a1 w h1.1 h1.2).mono fun e w' ⟨he, hw⟩ => ⟨he, hw ▸ Drawn0.refl _⟩
  · split at h
    · rename_i h1
      obtain rfl := Option.some.inj h
      exact (ir_bad a0 a1 w h1).mono fun e w' ⟨he, hw⟩ => ⟨he, hw ▸ Drawn0.refl _⟩
    · split at h
      · exact absurd h (by simp)
      · split at h
        · rename_i n1 n2 n3 h4
          obtain rfl := Option.some.inj h
          have hv : (128 ≤ a1 ∧ a1 ≤ 55295) ∨ (57344 ≤ a1 ∧ a1 ≤ 1114111) := by omega
          have hz := encode_size a1 hv
          exact ir_walk a0 a1 w (by omega) hv (by simpa using n3) h4.1 (Utf8.encode a1) ((Utf8.encode a1).size - 1) (by omega) (by omega) (by omega) (fun w => conv_rune a1 w) h4.2
        · exact absurd h (by simp)
end Go.Proofs.YthcpdhniakpbaaaDoor.X
end

section
namespace Go.Proofs.YthcpdhniakpbaaaDoor.X
open Go.RowKit Go.Proofs.YthcpdhniakpbaaaDoorW.PrintWords Go.Proofs.YthcpdhniakpbaaaDoorW.PrintLast Go.Proofs.YthcpdhniakpbaaaDoorW.PrintMore
attribute [local go_sem] max2_int min2_int max_two min_two max_three min_three max_four min_four
set_option linter.unusedVariables false
set_option linter.unusedSimpArgs false
def strings_ContainsRune.f (a0 : ByteArray) (a1 : Int) : Option (Bool) := (strings_IndexRune.f a0 a1).bind fun t373 => (some (decide (t373 ≥ 0)))
set_option maxHeartbeats 8000000 in
set_option maxRecDepth 100000 in
theorem strings_ContainsRune.calls (a0 : ByteArray) (a1 : Int) (r : Bool) (w : World) (h : strings_ContainsRune.f a0 a1 = some r) :
    Calls Tryd.prog 113 #[.string a0, .int .i32 a1] w fun e w' => e = .returned (.bool r) ∧ Drawn0 w w' := by
  have H : ((strings_IndexRune.f a0 a1).bind fun t373 => (some (decide (t373 ≥ 0)))) = some r := h
  clear h
  replace H := Option.bind_eq_some_iff.mp H
  obtain ⟨t373, A30, H⟩ := H
  replace H : (some (decide (t373 ≥ 0))) = some r := H
  have A3 := Aside0.mk A30
  clear A30
  obtain rfl := Option.some.inj H
  go_enter Tryd.func113, Tryd.ntmps113
  go_wp2_with (first | ((with_reducible refine gate_callee (f := 106) rfl ?_); refine goesL_ (some 7) rfl rfl Tryd.func106 (by kernel_rfl) rfl #[.string a0, .int .i32 a1] rfl (by (try simp only [List.map_toArray, List.map_cons, List.map_nil]); first | done | rfl | (simp only [List.length_drop, List.length_take]; rfl)) ?_; (with_reducible refine (strings_IndexRune.calls a0 a1 t373 _ A3.out).mono ?_); rintro e w' ⟨rfl, ⟨nd, rfl⟩⟩; refine ⟨_, rfl, ?_⟩))
  go_ret
  exact ⟨by first | rfl | (simp; done) | (simp [*]; done), by repeat (first | exact Drawn0.refl _ | apply Drawn0.step)⟩
mutual
def repertoire_letter.j0 : Nat → Int → Bool → Option (Int)
  | 0, _, _ => none
  | k + 1, x0, x3 => if x3 = true then (some 1) else (if x0 = 930 then ((repertoire_from.f x0 945 969).bind fun t378 => (if t378 = true then (repertoire_letter.j1 k x0 true) else ((strings_ContainsRune.f (⟨#[206, 134, 206, 136, 206, 137, 206, 138, 206, 140, 206, 142, 206, 143, 206, 172, 206, 173, 206, 174, 206, 175, 207, 140, 207, 141, 207, 142, 206, 170, 206, 171, 207, 138, 207, 139]⟩ : ByteArray) (wrap32 (x0))).bind fun t379 => (repertoire_letter.j1 k x0 t379)))) else ((repertoire_from.f x0 913 937).bind fun t380 => (if t380 = true then (repertoire_letter.j1 k x0 true) else ((repertoire_from.f x0 945 969).bind fun t381 => (if t381 = true then (repertoire_letter.j1 k x0 true) else ((strings_ContainsRune.f (⟨#[206, 134, 206, 136, 206, 137, 206, 138, 206, 140, 206, 142, 206, 143, 206, 172, 206, 173, 206, 174, 206, 175, 207, 140, 207, 141, 207, 142, 206, 170, 206, 171, 207, 138, 207, 139]⟩ : ByteArray) (wrap32 (x0))).bind fun t382 => (repertoire_letter.j1 k x0 t382)))))))
def repertoire_letter.j1 : Nat → Int → Bool → Option (Int)
  | 0, _, _ => none
  | k + 1, x0, x23 => if x23 = true then (some 2) else ((repertoire_from.f x0 1040 1103).bind fun t383 => (if t383 = true then (some 3) else ((strings_ContainsRune.f (⟨#[208, 129, 209, 145, 208, 135, 209, 151, 208, 132, 209, 148, 210, 144, 210, 145, 208, 142, 209, 158, 208, 134, 209, 150]⟩ : ByteArray) (wrap32 (x0))).bind fun t384 => (if t384 = true then (some 3) else (some 0)))))
end
def repertoire_letter.f (k : Nat) (a0 : Int) : Option (Int) := (repertoire_from.f a0 65 90).bind fun t374 => (if t374 = true then (repertoire_letter.j0 k a0 true) else ((repertoire_from.f a0 97 122).bind fun t375 => (if t375 = true then (repertoire_letter.j0 k a0 true) else (if a0 = 383 then (repertoire_letter.j0 k a0 true) else ((repertoire_from.f a0 64257 64258).bind fun t376 => (if t376 = true then (repertoire_letter.j0 k a0 true) else ((strings_ContainsRune.f (⟨#[195, 128, 195, 136, 195, 140, 195, 146, 195, 153, 195, 160, 195, 168, 195, 172, 195, 178, 195, 185, 195, 129, 195, 137, 195, 141, 195, 147, 195, 154, 195, 157, 195, 161, 195, 169, 195, 173, 195, 179, 195, 186, 195, 189, 196, 134, 196, 135, 196, 185, 196, 186, 197, 131, 197, 132, 197, 148, 197, 149, 197, 154, 197, 155, 197, 185, 197, 186, 195, 130, 195, 138, 195, 142, 195, 148, 195, 155, 195, 162, 195, 170, 195, 174, 195, 180, 195, 187, 196, 136, 196, 137, 196, 156, 196, 157, 196, 164, 196, 165, 196, 180, 196, 181, 197, 156, 197, 157, 197, 180, 197, 181, 197, 182, 197, 183, 195, 131, 195, 145, 195, 149, 195, 163, 195, 177, 195, 181, 196, 168, 196, 169, 197, 168, 197, 169, 196, 128, 196, 129, 196, 146, 196, 147, 196, 170, 196, 171, 197, 140, 197, 141, 197, 170, 197, 171, 196, 130, 196, 131, 196, 148, 196, 149, 196, 158, 196, 159, 196, 172, 196, 173, 197, 142, 197, 143, 197, 172, 197, 173, 196, 138, 196, 139, 196, 150, 196, 151, 196, 160, 196, 161, 196, 176, 197, 187, 197, 188, 195, 132, 195, 139, 195, 143, 195, 150, 195, 156, 195, 164, 195, 171, 195, 175, 195, 182, 195, 188, 195, 191, 197, 184, 195, 133, 195, 165, 197, 174, 197, 175, 197, 144, 197, 145, 197, 176, 197, 177, 196, 140, 196, 141, 196, 142, 196, 143, 196, 154, 196, 155, 197, 135, 197, 136, 197, 152, 197, 153, 197, 160, 197, 161, 197, 164, 197, 165, 197, 189, 197, 190, 196, 189, 196, 190, 195, 135, 195, 167, 196, 162, 196, 163, 196, 182, 196, 183, 196, 187, 196, 188, 197, 133, 197, 134, 197, 150, 197, 151, 197, 158, 197, 159, 197, 162, 197, 163, 196, 132, 196, 133, 196, 152, 196, 153, 196, 174, 196, 175, 197, 178, 197, 179, 195, 134, 195, 166, 195, 152, 195, 184, 195, 144, 195, 176, 195, 158, 195, 190, 195, 159, 196, 144, 196, 145, 196, 166, 196, 167, 196, 177, 197, 129, 197, 130, 197, 146, 197, 147, 197, 138, 197, 139, 197, 166, 197, 167]⟩ : ByteArray) (wrap32 (a0))).bind fun t377 => (repertoire_letter.j0 k a0 t377))))))))
set_option maxHeartbeats 8000000 in
set_option maxRecDepth 100000 in
theorem repertoire_letter.calls (k : Nat) (a0 : Int) (r : Int) (w : World) (h : repertoire_letter.f k a0 = some r) :
    Calls Tryd.prog 104 #[.int .i64 a0] w fun e w' => e = .returned (.int .i64 r) ∧ Drawn0 w w' := by
  have H : ((repertoire_from.f a0 65 90).bind fun t374 => (if t374 = true then (repertoire_letter.j0 k a0 true) else ((repertoire_from.f a0 97 122).bind fun t375 => (if t375 = true then (repertoire_letter.j0 k a0 true) else (if a0 = 383 then (repertoire_letter.j0 k a0 true) else ((repertoire_from.f a0 64257 64258).bind fun t376 => (if t376 = true then (repertoire_letter.j0 k a0 true) else ((strings_ContainsRune.f (⟨#[195, 128, 195, 136, 195, 140, 195, 146, 195, 153, 195, 160, 195, 168, 195, 172, 195, 178, 195, 185, 195, 129, 195, 137, 195, 141, 195, 147, 195, 154, 195, 157, 195, 161, 195, 169, 195, 173, 195, 179, 195, 186, 195, 189, 196, 134, 196, 135, 196, 185, 196, 186, 197, 131, 197, 132, 197, 148, 197, 149, 197, 154, 197, 155, 197, 185, 197, 186, 195, 130, 195, 138, 195, 142, 195, 148, 195, 155, 195, 162, 195, 170, 195, 174, 195, 180, 195, 187, 196, 136, 196, 137, 196, 156, 196, 157, 196, 164, 196, 165, 196, 180, 196, 181, 197, 156, 197, 157, 197, 180, 197, 181, 197, 182, 197, 183, 195, 131, 195, 145, 195, 149, 195, 163, 195, 177, 195, 181, 196, 168, 196, 169, 197, 168, 197, 169, 196, 128, 196, 129, 196, 146, 196, 147, 196, 170, 196, 171, 197, 140, 197, 141, 197, 170, 197, 171, 196, 130, 196, 131, 196, 148, 196, 149, 196, 158, 196, 159, 196, 172, 196, 173, 197, 142, 197, 143, 197, 172, 197, 173, 196, 138, 196, 139, 196, 150, 196, 151, 196, 160, 196, 161, 196, 176, 197, 187, 197, 188, 195, 132, 195, 139, 195, 143, 195, 150, 195, 156, 195, 164, 195, 171, 195, 175, 195, 182, 195, 188, 195, 191, 197, 184, 195, 133, 195, 165, 197, 174, 197, 175, 197, 144, 197, 145, 197, 176, 197, 177, 196, 140, 196, 141, 196, 142, 196, 143, 196, 154, 196, 155, 197, 135, 197, 136, 197, 152, 197, 153, 197, 160, 197, 161, 197, 164, 197, 165, 197, 189, 197, 190, 196, 189, 196, 190, 195, 135, 195, 167, 196, 162, 196, 163, 196, 182, 196, 183, 196, 187, 196, 188, 197, 133, 197, 134, 197, 150, 197, 151, 197, 158, 197, 159, 197, 162, 197, 163, 196, 132, 196, 133, 196, 152, 196, 153, 196, 174, 196, 175, 197, 178, 197, 179, 195, 134, 195, 166, 195, 152, 195, 184, 195, 144, 195, 176, 195, 158, 195, 190, 195, 159, 196, 144, 196, 145, 196, 166, 196, 167, 196, 177, 197, 129, 197, 130, 197, 146, 197, 147, 197, 138, 197, 139, 197, 166, 197, 167]⟩ : ByteArray) (wrap32 (a0))).bind fun t377 => (repertoire_letter.j0 k a0 t377))))))))) = some r := h
  clear h
  have HC2 := Aside0.mk H
  clear H
  go_enter Tryd.func104, Tryd.ntmps104
  go_upto_region 1 with (fail)
  go_cut [3] (fun v3 wc => ∃ (kq : Nat) (x3_1 : Bool), v3 = .bool x3_1 ∧ Aside0 (repertoire_letter.j0 kq a0 x3_1 = some r) ∧ Aside0 (kq ≤ k) ∧ Drawn0 w wc)
  case first =>
    have H := HC2.out
    clear HC2
    replace H := Option.bind_eq_some_iff.mp H
    obtain ⟨t374, A30, H⟩ := H
    replace H : (if t374 = true then (repertoire_letter.j0 k a0 true) else ((repertoire_from.f a0 97 122).bind fun t375 => (if t375 = true then (repertoire_letter.j0 k a0 true) else (if a0 = 383 then (repertoire_letter.j0 k a0 true) else ((repertoire_from.f a0 64257 64258).bind fun t376 => (if t376 = true then (repertoire_letter.j0 k a0 true) else ((strings_ContainsRune.f (⟨#[195, 128, 195, 136, 195, 140, 195, 146, 195, 153, 195, 160, 195, 168, 195, 172, 195, 178, 195, 185, 195, 129, 195, 137, 195, 141, 195, 147, 195, 154, 195, 157, 195, 161, 195, 169, 195, 173, 195, 179, 195, 186, 195, 189, 196, 134, 196, 135, 196, 185, 196, 186, 197, 131, 197, 132, 197, 148, 197, 149, 197, 154, 197, 155, 197, 185, 197, 186, 195, 130, 195, 138, 195, 142, 195, 148, 195, 155, 195, 162, 195, 170, 195, 174, 195, 180, 195, 187, 196, 136, 196, 137, 196, 156, 196, 157, 196, 164, 196, 165, 196, 180, 196, 181, 197, 156, 197, 157, 197, 180, 197, 181, 197, 182, 197, 183, 195, 131, 195, 145, 195, 149, 195, 163, 195, 177, 195, 181, 196, 168, 196, 169, 197, 168, 197, 169, 196, 128, 196, 129, 196, 146, 196, 147, 196, 170, 196, 171, 197, 140, 197, 141, 197, 170, 197, 171, 196, 130, 196, 131, 196, 148, 196, 149, 196, 158, 196, 159, 196, 172, 196, 173, 197, 142, 197, 143, 197, 172, 197, 173, 196, 138, 196, 139, 196, 150, 196, 151, 196, 160, 196, 161, 196, 176, 197, 187, 197, 188, 195, 132, 195, 139, 195, 143, 195, 150, 195, 156, 195, 164, 195, 171, 195, 175, 195, 182, 195, 188, 195, 191, 197, 184, 195, 133, 195, 165, 197, 174, 197, 175, 197, 144, 197, 145, 197, 176, 197, 177, 196, 140, 196, 141, 196, 142, 196, 143, 196, 154, 196, 155, 197, 135, 197, 136, 197, 152, 197, 153, 197, 160, 197, 161, 197, 164, 197, 165, 197, 189, 197, 190, 196, 189, 196, 190, 195, 135, 195, 167, 196, 162, 196, 163, 196, 182, 196, 183, 196, 187, 196, 188, 197, 133, 197, 134, 197, 150, 197, 151, 197, 158, 197, 159, 197, 162, 197, 163, 196, 132, 196, 133, 196, 152, 196, 153, 196, 174, 196, 175, 197, 178, 197, 179, 195, 134, 195, 166, 195, 152, 195, 184, 195, 144, 195, 176, 195, 158, 195, 190, 195, 159, 196, 144, 196, 145, 196, 166, 196, 167, 196, 177, 197, 129, 197, 130, 197, 146, 197, 147, 197, 138, 197, 139, 197, 166, 197, 167]⟩ : ByteArray) (wrap32 (a0))).bind fun t377 => (repertoire_letter.j0 k a0 t377)))))))) = some r := H
    have A3 := Aside0.mk A30
    clear A30
    by_cases c4 : t374 = true
    · subst c4
      have H1 : (repertoire_letter.j0 k a0 true) = some r := by rw [if_pos rfl] at H; exact H
      clear H
      have H := H1
      clear H1
      have H' := Aside0.mk H
      clear H
      go_wp2_with (first | ((with_reducible refine gate_callee (f := 103) rfl ?_); refine goesL_ (some 5) rfl rfl Tryd.func103 (by kernel_rfl) rfl #[.int .i64 a0, .int .i64 65, .int .i64 90] rfl (by (try simp only [List.map_toArray, List.map_cons, List.map_nil]); first | done | rfl | (simp only [List.length_drop, List.length_take]; rfl)) ?_; (with_reducible refine (repertoire_from.calls a0 65 90 true _ A3.out).mono ?_); rintro e w' ⟨rfl, ⟨nd, rfl⟩⟩; refine ⟨_, rfl, ?_⟩))
      go_meet
      case rel => exact ⟨_, (true), (by first | rfl | (simp; done) | (simp [*]; done)), H', ⟨by first | omega | exact Nat.le_refl _⟩, by repeat (first | exact Drawn0.refl _ | apply Drawn0.step)⟩
    · replace c4 := Bool.eq_false_iff.mpr c4
      subst c4
      have H1 : ((repertoire_from.f a0 97 122).bind fun t375 => (if t375 = true then (repertoire_letter.j0 k a0 true) else (if a0 = 383 then (repertoire_letter.j0 k a0 true) else ((repertoire_from.f a0 64257 64258).bind fun t376 => (if t376 = true then (repertoire_letter.j0 k a0 true) else ((strings_ContainsRune.f (⟨#[195, 128, 195, 136, 195, 140, 195, 146, 195, 153, 195, 160, 195, 168, 195, 172, 195, 178, 195, 185, 195, 129, 195, 137, 195, 141, 195, 147, 195, 154, 195, 157, 195, 161, 195, 169, 195, 173, 195, 179, 195, 186, 195, 189, 196, 134, 196, 135, 196, 185, 196, 186, 197, 131, 197, 132, 197, 148, 197, 149, 197, 154, 197, 155, 197, 185, 197, 186, 195, 130, 195, 138, 195, 142, 195, 148, 195, 155, 195, 162, 195, 170, 195, 174, 195, 180, 195, 187, 196, 136, 196, 137, 196, 156, 196, 157, 196, 164, 196, 165, 196, 180, 196, 181, 197, 156, 197, 157, 197, 180, 197, 181, 197, 182, 197, 183, 195, 131, 195, 145, 195, 149, 195, 163, 195, 177, 195, 181, 196, 168, 196, 169, 197, 168, 197, 169, 196, 128, 196, 129, 196, 146, 196, 147, 196, 170, 196, 171, 197, 140, 197, 141, 197, 170, 197, 171, 196, 130, 196, 131, 196, 148, 196, 149, 196, 158, 196, 159, 196, 172, 196, 173, 197, 142, 197, 143, 197, 172, 197, 173, 196, 138, 196, 139, 196, 150, 196, 151, 196, 160, 196, 161, 196, 176, 197, 187, 197, 188, 195, 132, 195, 139, 195, 143, 195, 150, 195, 156, 195, 164, 195, 171, 195, 175, 195, 182, 195, 188, 195, 191, 197, 184, 195, 133, 195, 165, 197, 174, 197, 175, 197, 144, 197, 145, 197, 176, 197, 177, 196, 140, 196, 141, 196, 142, 196, 143, 196, 154, 196, 155, 197, 135, 197, 136, 197, 152, 197, 153, 197, 160, 197, 161, 197, 164, 197, 165, 197, 189, 197, 190, 196, 189, 196, 190, 195, 135, 195, 167, 196, 162, 196, 163, 196, 182, 196, 183, 196, 187, 196, 188, 197, 133, 197, 134, 197, 150, 197, 151, 197, 158, 197, 159, 197, 162, 197, 163, 196, 132, 196, 133, 196, 152, 196, 153, 196, 174, 196, 175, 197, 178, 197, 179, 195, 134, 195, 166, 195, 152, 195, 184, 195, 144, 195, 176, 195, 158, 195, 190, 195, 159, 196, 144, 196, 145, 196, 166, 196, 167, 196, 177, 197, 129, 197, 130, 197, 146, 197, 147, 197, 138, 197, 139, 197, 166, 197, 167]⟩ : ByteArray) (wrap32 (a0))).bind fun t377 => (repertoire_letter.j0 k a0 t377))))))) = some r := by rw [if_neg (show ¬ (false = true) by decide)] at H; exact H
      clear H
      have H := H1
      clear H1
      replace H := Option.bind_eq_some_iff.mp H
      obtain ⟨t375, A50, H⟩ := H
      replace H : (if t375 = true then (repertoire_letter.j0 k a0 true) else (if a0 = 383 then (repertoire_letter.j0 k a0 true) else ((repertoire_from.f a0 64257 64258).bind fun t376 => (if t376 = true then (repertoire_letter.j0 k a0 true) else ((strings_ContainsRune.f (⟨#[195, 128, 195, 136, 195, 140, 195, 146, 195, 153, 195, 160, 195, 168, 195, 172, 195, 178, 195, 185, 195, 129, 195, 137, 195, 141, 195, 147, 195, 154, 195, 157, 195, 161, 195, 169, 195, 173, 195, 179, 195, 186, 195, 189, 196, 134, 196, 135, 196, 185, 196, 186, 197, 131, 197, 132, 197, 148, 197, 149, 197, 154, 197, 155, 197, 185, 197, 186, 195, 130, 195, 138, 195, 142, 195, 148, 195, 155, 195, 162, 195, 170, 195, 174, 195, 180, 195, 187, 196, 136, 196, 137, 196, 156, 196, 157, 196, 164, 196, 165, 196, 180, 196, 181, 197, 156, 197, 157, 197, 180, 197, 181, 197, 182, 197, 183, 195, 131, 195, 145, 195, 149, 195, 163, 195, 177, 195, 181, 196, 168, 196, 169, 197, 168, 197, 169, 196, 128, 196, 129, 196, 146, 196, 147, 196, 170, 196, 171, 197, 140, 197, 141, 197, 170, 197, 171, 196, 130, 196, 131, 196, 148, 196, 149, 196, 158, 196, 159, 196, 172, 196, 173, 197, 142, 197, 143, 197, 172, 197, 173, 196, 138, 196, 139, 196, 150, 196, 151, 196, 160, 196, 161, 196, 176, 197, 187, 197, 188, 195, 132, 195, 139, 195, 143, 195, 150, 195, 156, 195, 164, 195, 171, 195, 175, 195, 182, 195, 188, 195, 191, 197, 184, 195, 133, 195, 165, 197, 174, 197, 175, 197, 144, 197, 145, 197, 176, 197, 177, 196, 140, 196, 141, 196, 142, 196, 143, 196, 154, 196, 155, 197, 135, 197, 136, 197, 152, 197, 153, 197, 160, 197, 161, 197, 164, 197, 165, 197, 189, 197, 190, 196, 189, 196, 190, 195, 135, 195, 167, 196, 162, 196, 163, 196, 182, 196, 183, 196, 187, 196, 188, 197, 133, 197, 134, 197, 150, 197, 151, 197, 158, 197, 159, 197, 162, 197, 163, 196, 132, 196, 133, 196, 152, 196, 153, 196, 174, 196, 175, 197, 178, 197, 179, 195, 134, 195, 166, 195, 152, 195, 184, 195, 144, 195, 176, 195, 158, 195, 190, 195, 159, 196, 144, 196, 145, 196, 166, 196, 167, 196, 177, 197, 129, 197, 130, 197, 146, 197, 147, 197, 138, 197, 139, 197, 166, 197, 167]⟩ : ByteArray) (wrap32 (a0))).bind fun t377 => (repertoire_letter.j0 k a0 t377)))))) = some r := H
      have A5 := Aside0.mk A50
      clear A50
      by_cases c6 : t375 = true
      · subst c6
        have H1 : (repertoire_letter.j0 k a0 true) = some r := by rw [if_pos rfl] at H; exact H
        clear H
        have H := H1
        clear H1
        have H' := Aside0.mk H
        clear H
        go_wp2_with (first | ((with_reducible refine gate_callee (f := 103) rfl ?_); refine goesL_ (some 5) rfl rfl Tryd.func103 (by kernel_rfl) rfl #[.int .i64 a0, .int .i64 65, .int .i64 90] rfl (by (try simp only [List.map_toArray, List.map_cons, List.map_nil]); first | done | rfl | (simp only [List.length_drop, List.length_take]; rfl)) ?_; (with_reducible refine (repertoire_from.calls a0 65 90 false _ A3.out).mono ?_); rintro e w' ⟨rfl, ⟨nd, rfl⟩⟩; refine ⟨_, rfl, ?_⟩) | (go_at_call 103; (with_reducible refine (repertoire_from.calls a0 97 122 true _ A5.out).mono ?_); rintro e w' ⟨rfl, ⟨nd, rfl⟩⟩))
        go_meet
        case rel => exact ⟨_, (true), (by first | rfl | (simp; done) | (simp [*]; done)), H', ⟨by first | omega | exact Nat.le_refl _⟩, by repeat (first | exact Drawn0.refl _ | apply Drawn0.step)⟩
      · replace c6 := Bool.eq_false_iff.mpr c6
        subst c6
        have H1 : (if a0 = 383 then (repertoire_letter.j0 k a0 true) else ((repertoire_from.f a0 64257 64258).bind fun t376 => (if t376 = true then (repertoire_letter.j0 k a0 true) else ((strings_ContainsRune.f (⟨#[195, 128, 195, 136, 195, 140, 195, 146, 195, 153, 195, 160, 195, 168, 195, 172, 195, 178, 195, 185, 195, 129, 195, 137, 195, 141, 195, 147, 195, 154, 195, 157, 195, 161, 195, 169, 195, 173, 195, 179, 195, 186, 195, 189, 196, 134, 196, 135, 196, 185, 196, 186, 197, 131, 197, 132, 197, 148, 197, 149, 197, 154, 197, 155, 197, 185, 197, 186, 195, 130, 195, 138, 195, 142, 195, 148, 195, 155, 195, 162, 195, 170, 195, 174, 195, 180, 195, 187, 196, 136, 196, 137, 196, 156, 196, 157, 196, 164, 196, 165, 196, 180, 196, 181, 197, 156, 197, 157, 197, 180, 197, 181, 197, 182, 197, 183, 195, 131, 195, 145, 195, 149, 195, 163, 195, 177, 195, 181, 196, 168, 196, 169, 197, 168, 197, 169, 196, 128, 196, 129, 196, 146, 196, 147, 196, 170, 196, 171, 197, 140, 197, 141, 197, 170, 197, 171, 196, 130, 196, 131, 196, 148, 196, 149, 196, 158, 196, 159, 196, 172, 196, 173, 197, 142, 197, 143, 197, 172, 197, 173, 196, 138, 196, 139, 196, 150, 196, 151, 196, 160, 196, 161, 196, 176, 197, 187, 197, 188, 195, 132, 195, 139, 195, 143, 195, 150, 195, 156, 195, 164, 195, 171, 195, 175, 195, 182, 195, 188, 195, 191, 197, 184, 195, 133, 195, 165, 197, 174, 197, 175, 197, 144, 197, 145, 197, 176, 197, 177, 196, 140, 196, 141, 196, 142, 196, 143, 196, 154, 196, 155, 197, 135, 197, 136, 197, 152, 197, 153, 197, 160, 197, 161, 197, 164, 197, 165, 197, 189, 197, 190, 196, 189, 196, 190, 195, 135, 195, 167, 196, 162, 196, 163, 196, 182, 196, 183, 196, 187, 196, 188, 197, 133, 197, 134, 197, 150, 197, 151, 197, 158, 197, 159, 197, 162, 197, 163, 196, 132, 196, 133, 196, 152, 196, 153, 196, 174, 196, 175, 197, 178, 197, 179, 195, 134, 195, 166, 195, 152, 195, 184, 195, 144, 195, 176, 195, 158, 195, 190, 195, 159, 196, 144, 196, 145, 196, 166, 196, 167, 196, 177, 197, 129, 197, 130, 197, 146, 197, 147, 197, 138, 197, 139, 197, 166, 197, 167]⟩ : ByteArray) (wrap32 (a0))).bind fun t377 => (repertoire_letter.j0 k a0 t377))))) = some r := by rw [if_neg (show ¬ (false = true) by decide)] at H; exact H
        clear H
        have H := H1
        clear H1
        by_cases c7 : a0 = 383
        · rw [if_pos c7] at H
          have c7b0 : (a0 == 383) = true := beq_iff_eq.mpr c7
          have c7b1 : (a0 != 383) = false := bne_eq_false_iff_eq.mpr c7
          clear c7
          (first | rw [c7b0] | (simp only [i64_w, i32_w]; rw [c7b0]) | skip)
          have H' := Aside0.mk H
          clear H
          go_wp2_with (first | ((with_reducible refine gate_callee (f := 103) rfl ?_); refine goesL_ (some 5) rfl rfl Tryd.func103 (by kernel_rfl) rfl #[.int .i64 a0, .int .i64 65, .int .i64 90] rfl (by (try simp only [List.map_toArray, List.map_cons, List.map_nil]); first | done | rfl | (simp only [List.length_drop, List.length_take]; rfl)) ?_; (with_reducible refine (repertoire_from.calls a0 65 90 false _ A3.out).mono ?_); rintro e w' ⟨rfl, ⟨nd, rfl⟩⟩; refine ⟨_, rfl, ?_⟩) | (go_at_call 103; (with_reducible refine (repertoire_from.calls a0 97 122 false _ A5.out).mono ?_); rintro e w' ⟨rfl, ⟨nd, rfl⟩⟩))
          go_meet
          case rel => exact ⟨_, (true), (by first | rfl | (simp; done) | (simp [*]; done)), H', ⟨by first | omega | exact Nat.le_refl _⟩, by repeat (first | exact Drawn0.refl _ | apply Drawn0.step)⟩
        · rw [if_neg c7] at H
          have c7b0 : (a0 == 383) = false := beq_eq_false_iff_ne.mpr c7
          have c7b1 : (a0 != 383) = true := bne_iff_ne.mpr c7
          (first | rw [c7b0] | (simp only [i64_w, i32_w]; rw [c7b0]) | skip)
          replace H := Option.bind_eq_some_iff.mp H
          obtain ⟨t376, A80, H⟩ := H
          replace H : (if t376 = true then (repertoire_letter.j0 k a0 true) else ((strings_ContainsRune.f (⟨#[195, 128, 195, 136, 195, 140, 195, 146, 195, 153, 195, 160, 195, 168, 195, 172, 195, 178, 195, 185, 195, 129, 195, 137, 195, 141, 195, 147, 195, 154, 195, 157, 195, 161, 195, 169, 195, 173, 195, 179, 195, 186, 195, 189, 196, 134, 196, 135, 196, 185, 196, 186, 197, 131, 197, 132, 197, 148, 197, 149, 197, 154, 197, 155, 197, 185, 197, 186, 195, 130, 195, 138, 195, 142, 195, 148, 195, 155, 195, 162, 195, 170, 195, 174, 195, 180, 195, 187, 196, 136, 196, 137, 196, 156, 196, 157, 196, 164, 196, 165, 196, 180, 196, 181, 197, 156, 197, 157, 197, 180, 197, 181, 197, 182, 197, 183, 195, 131, 195, 145, 195, 149, 195, 163, 195, 177, 195, 181, 196, 168, 196, 169, 197, 168, 197, 169, 196, 128, 196, 129, 196, 146, 196, 147, 196, 170, 196, 171, 197, 140, 197, 141, 197, 170, 197, 171, 196, 130, 196, 131, 196, 148, 196, 149, 196, 158, 196, 159, 196, 172, 196, 173, 197, 142, 197, 143, 197, 172, 197, 173, 196, 138, 196, 139, 196, 150, 196, 151, 196, 160, 196, 161, 196, 176, 197, 187, 197, 188, 195, 132, 195, 139, 195, 143, 195, 150, 195, 156, 195, 164, 195, 171, 195, 175, 195, 182, 195, 188, 195, 191, 197, 184, 195, 133, 195, 165, 197, 174, 197, 175, 197, 144, 197, 145, 197, 176, 197, 177, 196, 140, 196, 141, 196, 142, 196, 143, 196, 154, 196, 155, 197, 135, 197, 136, 197, 152, 197, 153, 197, 160, 197, 161, 197, 164, 197, 165, 197, 189, 197, 190, 196, 189, 196, 190, 195, 135, 195, 167, 196, 162, 196, 163, 196, 182, 196, 183, 196, 187, 196, 188, 197, 133, 197, 134, 197, 150, 197, 151, 197, 158, 197, 159, 197, 162, 197, 163, 196, 132, 196, 133, 196, 152, 196, 153, 196, 174, 196, 175, 197, 178, 197, 179, 195, 134, 195, 166, 195, 152, 195, 184, 195, 144, 195, 176, 195, 158, 195, 190, 195, 159, 196, 144, 196, 145, 196, 166, 196, 167, 196, 177, 197, 129, 197, 130, 197, 146, 197, 147, 197, 138, 197, 139, 197, 166, 197, 167]⟩ : ByteArray) (wrap32 (a0))).bind fun t377 => (repertoire_letter.j0 k a0 t377))) = some r := H
          have A8 := Aside0.mk A80
          clear A80
          by_cases c9 : t376 = true
          · subst c9
            have H1 : (repertoire_letter.j0 k a0 true) = some r := by rw [if_pos rfl] at H; exact H
            clear H
            have H := H1
            clear H1
            have H' := Aside0.mk H
            clear H
            go_wp2_with (first | ((with_reducible refine gate_callee (f := 103) rfl ?_); refine goesL_ (some 5) rfl rfl Tryd.func103 (by kernel_rfl) rfl #[.int .i64 a0, .int .i64 65, .int .i64 90] rfl (by (try simp only [List.map_toArray, List.map_cons, List.map_nil]); first | done | rfl | (simp only [List.length_drop, List.length_take]; rfl)) ?_; (with_reducible refine (repertoire_from.calls a0 65 90 false _ A3.out).mono ?_); rintro e w' ⟨rfl, ⟨nd, rfl⟩⟩; refine ⟨_, rfl, ?_⟩) | (go_at_call 103; (with_reducible refine (repertoire_from.calls a0 97 122 false _ A5.out).mono ?_); rintro e w' ⟨rfl, ⟨nd, rfl⟩⟩) | (go_at_call 103; (with_reducible refine (repertoire_from.calls a0 64257 64258 true _ A8.out).mono ?_); rintro e w' ⟨rfl, ⟨nd, rfl⟩⟩))
            go_meet
            case rel => exact ⟨_, (true), (by first | rfl | (simp; done) | (simp [*]; done)), H', ⟨by first | omega | exact Nat.le_refl _⟩, by repeat (first | exact Drawn0.refl _ | apply Drawn0.step)⟩
          · replace c9 := Bool.eq_false_iff.mpr c9
            subst c9
            have H1 : ((strings_ContainsRune.f (⟨#[195, 128, 195, 136, 195, 140, 195, 146, 195, 153, 195, 160, 195, 168, 195, 172, 195, 178, 195, 185, 195, 129, 195, 137, 195, 141, 195, 147, 195, 154, 195, 157, 195, 161, 195, 169, 195, 173, 195, 179, 195, 186, 195, 189, 196, 134, 196, 135, 196, 185, 196, 186, 197, 131, 197, 132, 197, 148, 197, 149, 197, 154, 197, 155, 197, 185, 197, 186, 195, 130, 195, 138, 195, 142, 195, 148, 195, 155, 195, 162, 195, 170, 195, 174, 195, 180, 195, 187, 196, 136, 196, 137, 196, 156, 196, 157, 196, 164, 196, 165, 196, 180, 196, 181, 197, 156, 197, 157, 197, 180, 197, 181, 197, 182, 197, 183, 195, 131, 195, 145, 195, 149, 195, 163, 195, 177, 195, 181, 196, 168, 196, 169, 197, 168, 197, 169, 196, 128, 196, 129, 196, 146, 196, 147, 196, 170, 196, 171, 197, 140, 197, 141, 197, 170, 197, 171, 196, 130, 196, 131, 196, 148, 196, 149, 196, 158, 196, 159, 196, 172, 196, 173, 197, 142, 197, 143, 197, 172, 197, 173, 196, 138, 196, 139, 196, 150, 196, 151, 196, 160, 196, 161, 196, 176, 197, 187, 197, 188, 195, 132, 195, 139, 195, 143, 195, 150, 195, 156, 195, 164, 195, 171, 195, 175, 195, 182, 195, 188, 195, 191, 197, 184, 195, 133, 195, 165, 197, 174, 197, 175, 197, 144, 197, 145, 197, 176, 197, 177, 196, 140, 196, 141, 196, 142, 196, 143, 196, 154, 196, 155, 197, 135, 197, 136, 197, 152, 197, 153, 197, 160, 197, 161, 197, 164, 197, 165, 197, 189, 197, 190, 196, 189, 196, 190, 195, 135, 195, 167, 196, 162, 196, 163, 196, 182, 196, 183, 196, 187, 196, 188, 197, 133, 197, 134, 197, 150, 197, 151, 197, 158, 197, 159, 197, 162, 197, 163, 196, 132, 196, 133, 196, 152, 196, 153, 196, 174, 196, 175, 197, 178, 197, 179, 195, 134, 195, 166, 195, 152, 195, 184, 195, 144, 195, 176, 195, 158, 195, 190, 195, 159, 196, 144, 196, 145, 196, 166, 196, 167, 196, 177, 197, 129, 197, 130, 197, 146, 197, 147, 197, 138, 197, 139, 197, 166, 197, 167]⟩ : ByteArray) (wrap32 (a0))).bind fun t377 => (repertoire_letter.j0 k a0 t377)) = some r := by rw [if_neg (show ¬ (false = true) by decide)] at H; exact H
            clear H
            have H := H1
            clear H1
            replace H := Option.bind_eq_some_iff.mp H
            obtain ⟨t377, A100, H⟩ := H
            replace H : (repertoire_letter.j0 k a0 t377) = some r := H
            have A10 := Aside0.mk A100
            clear A100
            have H' := Aside0.mk H
            clear H
            go_wp2_with (first | ((with_reducible refine gate_callee (f := 103) rfl ?_); refine goesL_ (some 5) rfl rfl Tryd.func103 (by kernel_rfl) rfl #[.int .i64 a0, .int .i64 65, .int .i64 90] rfl (by (try simp only [List.map_toArray, List.map_cons, List.map_nil]); first | done | rfl | (simp only [List.length_drop, List.length_take]; rfl)) ?_; (with_reducible refine (repertoire_from.calls a0 65 90 false _ A3.out).mono ?_); rintro e w' ⟨rfl, ⟨nd, rfl⟩⟩; refine ⟨_, rfl, ?_⟩) | (go_at_call 103; (with_reducible refine (repertoire_from.calls a0 97 122 false _ A5.out).mono ?_); rintro e w' ⟨rfl, ⟨nd, rfl⟩⟩) | (go_at_call 103; (with_reducible refine (repertoire_from.calls a0 64257 64258 false _ A8.out).mono ?_); rintro e w' ⟨rfl, ⟨nd, rfl⟩⟩) | (go_at_call 113; (with_reducible refine (strings_ContainsRune.calls (⟨#[195, 128, 195, 136, 195, 140, 195, 146, 195, 153, 195, 160, 195, 168, 195, 172, 195, 178, 195, 185, 195, 129, 195, 137, 195, 141, 195, 147, 195, 154, 195, 157, 195, 161, 195, 169, 195, 173, 195, 179, 195, 186, 195, 189, 196, 134, 196, 135, 196, 185, 196, 186, 197, 131, 197, 132, 197, 148, 197, 149, 197, 154, 197, 155, 197, 185, 197, 186, 195, 130, 195, 138, 195, 142, 195, 148, 195, 155, 195, 162, 195, 170, 195, 174, 195, 180, 195, 187, 196, 136, 196, 137, 196, 156, 196, 157, 196, 164, 196, 165, 196, 180, 196, 181, 197, 156, 197, 157, 197, 180, 197, 181, 197, 182, 197, 183, 195, 131, 195, 145, 195, 149, 195, 163, 195, 177, 195, 181, 196, 168, 196, 169, 197, 168, 197, 169, 196, 128, 196, 129, 196, 146, 196, 147, 196, 170, 196, 171, 197, 140, 197, 141, 197, 170, 197, 171, 196, 130, 196, 131, 196, 148, 196, 149, 196, 158, 196, 159, 196, 172, 196, 173, 197, 142, 197, 143, 197, 172, 197, 173, 196, 138, 196, 139, 196, 150, 196, 151, 196, 160, 196, 161, 196, 176, 197, 187, 197, 188, 195, 132, 195, 139, 195, 143, 195, 150, 195, 156, 195, 164, 195, 171, 195, 175, 195, 182, 195, 188, 195, 191, 197, 184, 195, 133, 195, 165, 197, 174, 197, 175, 197, 144, 197, 145, 197, 176, 197, 177, 196, 140, 196, 141, 196, 142, 196, 143, 196, 154, 196, 155, 197, 135, 197, 136, 197, 152, 197, 153, 197, 160, 197, 161, 197, 164, 197, 165, 197, 189, 197, 190, 196, 189, 196, 190, 195, 135, 195, 167, 196, 162, 196, 163, 196, 182, 196, 183, 196, 187, 196, 188, 197, 133, 197, 134, 197, 150, 197, 151, 197, 158, 197, 159, 197, 162, 197, 163, 196, 132, 196, 133, 196, 152, 196, 153, 196, 174, 196, 175, 197, 178, 197, 179, 195, 134, 195, 166, 195, 152, 195, 184, 195, 144, 195, 176, 195, 158, 195, 190, 195, 159, 196, 144, 196, 145, 196, 166, 196, 167, 196, 177, 197, 129, 197, 130, 197, 146, 197, 147, 197, 138, 197, 139, 197, 166, 197, 167]⟩ : ByteArray) (wrap32 (a0)) t377 _ A10.out).mono ?_); rintro e w' ⟨rfl, ⟨nd, rfl⟩⟩))
            go_meet
            case rel => exact ⟨_, (t377), (by first | rfl | (simp; done) | (simp [*]; done)), H', ⟨by first | omega | exact Nat.le_refl _⟩, by repeat (first | exact Drawn0.refl _ | apply Drawn0.step)⟩
  case rest =>
    clear HC2
    try clear c1
    try clear p2
    try clear p3
    try clear c4
    try clear c6
    try clear c7
    try clear c7b0
    try clear c7b1
    try clear c9
    try clear c10
    obtain ⟨kq, x3_1, rfl, HA, HJ1, ⟨mc1, rfl⟩⟩ := hcut
    cases kq with
    | zero => exact absurd HA.out (by simp [repertoire_letter.j0])
    | succ kj1 =>
      have H := HA.out
      clear HA
      simp only [repertoire_letter.j0] at H
      by_cases c11 : x3_1 = true
      · subst c11
        have H1 : (some 1) = some r := by rw [if_pos rfl] at H; exact H
        clear H
        have H := H1
        clear H1
        obtain rfl := Option.some.inj H
        go_wp2
        go_ret
        exact ⟨by first | rfl | (simp; done) | (simp [*]; done), by repeat (first | exact Drawn0.refl _ | apply Drawn0.step)⟩
      · replace c11 := Bool.eq_false_iff.mpr c11
        subst c11
        have H1 : (if a0 = 930 then ((repertoire_from.f a0 945 969).bind fun t378 => (if t378 = true then (repertoire_letter.j1 kj1 a0 true) else ((strings_ContainsRune.f (⟨#[206, 134, 206, 136, 206, 137, 206, 138, 206, 140, 206, 142, 206, 143, 206, 172, 206, 173, 206, 174, 206, 175, 207, 140, 207, 141, 207, 142, 206, 170, 206, 171, 207, 138, 207, 139]⟩ : ByteArray) (wrap32 (a0))).bind fun t379 => (repertoire_letter.j1 kj1 a0 t379)))) else ((repertoire_from.f a0 913 937).bind fun t380 => (if t380 = true then (repertoire_letter.j1 kj1 a0 true) else ((repertoire_from.f a0 945 969).bind fun t381 => (if t381 = true then (repertoire_letter.j1 kj1 a0 true) else ((strings_ContainsRune.f (⟨#[206, 134, 206, 136, 206, 137, 206, 138, 206, 140, 206, 142, 206, 143, 206, 172, 206, 173, 206, 174, 206, 175, 207, 140, 207, 141, 207, 142, 206, 170, 206, 171, 207, 138, 207, 139]⟩ : ByteArray) (wrap32 (a0))).bind fun t382 => (repertoire_letter.j1 kj1 a0 t382))))))) = some r := by rw [if_neg (show ¬ (false = true) by decide)] at H; exact H
        clear H
        have H := H1
        clear H1
        have HC12 := Aside0.mk H
        clear H
        go_upto_region 3 with (fail)
        go_cut [23] (fun v23 wc => ∃ (kq : Nat) (x23_11 : Bool), v23 = .bool x23_11 ∧ Aside0 (repertoire_letter.j1 kq a0 x23_11 = some r) ∧ Aside0 (kq ≤ kj1) ∧ Drawn0 w wc)
        case first =>
          have H := HC12.out
          clear HC12
          by_cases c13 : a0 = 930
          · rw [if_pos c13] at H
            have c13b0 : (a0 == 930) = true := beq_iff_eq.mpr c13
            have c13b1 : (a0 != 930) = false := bne_eq_false_iff_eq.mpr c13
            clear c13
            (first | rw [c13b0] | (simp only [i64_w, i32_w]; rw [c13b0]) | skip)
            replace H := Option.bind_eq_some_iff.mp H
            obtain ⟨t378, A140, H⟩ := H
            replace H : (if t378 = true then (repertoire_letter.j1 kj1 a0 true) else ((strings_ContainsRune.f (⟨#[206, 134, 206, 136, 206, 137, 206, 138, 206, 140, 206, 142, 206, 143, 206, 172, 206, 173, 206, 174, 206, 175, 207, 140, 207, 141, 207, 142, 206, 170, 206, 171, 207, 138, 207, 139]⟩ : ByteArray) (wrap32 (a0))).bind fun t379 => (repertoire_letter.j1 kj1 a0 t379))) = some r := H
            have A14 := Aside0.mk A140
            clear A140
            by_cases c15 : t378 = true
            · subst c15
              have H1 : (repertoire_letter.j1 kj1 a0 true) = some r := by rw [if_pos rfl] at H; exact H
              clear H
              have H := H1
              clear H1
              have H' := Aside0.mk H
              clear H
              go_wp2_with (first | (go_at_call 103; (with_reducible refine (repertoire_from.calls a0 945 969 true _ A14.out).mono ?_); rintro e w' ⟨rfl, ⟨nd, rfl⟩⟩))
              go_meet
              case rel => exact ⟨_, (true), (by first | rfl | (simp; done) | (simp [*]; done)), H', ⟨by have := HJ1.out; first | omega | exact Nat.le_refl _⟩, by repeat (first | exact Drawn0.refl _ | apply Drawn0.step)⟩
            · replace c15 := Bool.eq_false_iff.mpr c15
              subst c15
              have H1 : ((strings_ContainsRune.f (⟨#[206, 134, 206, 136, 206, 137, 206, 138, 206, 140, 206, 142, 206, 143, 206, 172, 206, 173, 206, 174, 206, 175, 207, 140, 207, 141, 207, 142, 206, 170, 206, 171, 207, 138, 207, 139]⟩ : ByteArray) (wrap32 (a0))).bind fun t379 => (repertoire_letter.j1 kj1 a0 t379)) = some r := by rw [if_neg (show ¬ (false = true) by decide)] at H; exact H
              clear H
              have H := H1
              clear H1
              replace H := Option.bind_eq_some_iff.mp H
              obtain ⟨t379, A160, H⟩ := H
              replace H : (repertoire_letter.j1 kj1 a0 t379) = some r := H
              have A16 := Aside0.mk A160
              clear A160
              have H' := Aside0.mk H
              clear H
              go_wp2_with (first | (go_at_call 103; (with_reducible refine (repertoire_from.calls a0 945 969 false _ A14.out).mono ?_); rintro e w' ⟨rfl, ⟨nd, rfl⟩⟩) | (go_at_call 113; (with_reducible refine (strings_ContainsRune.calls (⟨#[206, 134, 206, 136, 206, 137, 206, 138, 206, 140, 206, 142, 206, 143, 206, 172, 206, 173, 206, 174, 206, 175, 207, 140, 207, 141, 207, 142, 206, 170, 206, 171, 207, 138, 207, 139]⟩ : ByteArray) (wrap32 (a0)) t379 _ A16.out).mono ?_); rintro e w' ⟨rfl, ⟨nd, rfl⟩⟩))
              go_meet
              case rel => exact ⟨_, (t379), (by first | rfl | (simp; done) | (simp [*]; done)), H', ⟨by have := HJ1.out; first | omega | exact Nat.le_refl _⟩, by repeat (first | exact Drawn0.refl _ | apply Drawn0.step)⟩
          · rw [if_neg c13] at H
            have c13b0 : (a0 == 930) = false := beq_eq_false_iff_ne.mpr c13
            have c13b1 : (a0 != 930) = true := bne_iff_ne.mpr c13
            (first | rw [c13b0] | (simp only [i64_w, i32_w]; rw [c13b0]) | skip)
            replace H := Option.bind_eq_some_iff.mp H
            obtain ⟨t380, A170, H⟩ := H
            replace H : (if t380 = true then (repertoire_letter.j1 kj1 a0 true) else ((repertoire_from.f a0 945 969).bind fun t381 => (if t381 = true then (repertoire_letter.j1 kj1 a0 true) else ((strings_ContainsRune.f (⟨#[206, 134, 206, 136, 206, 137, 206, 138, 206, 140, 206, 142, 206, 143, 206, 172, 206, 173, 206, 174, 206, 175, 207, 140, 207, 141, 207, 142, 206, 170, 206, 171, 207, 138, 207, 139]⟩ : ByteArray) (wrap32 (a0))).bind fun t382 => (repertoire_letter.j1 kj1 a0 t382))))) = some r := H
            have A17 := Aside0.mk A170
            clear A170
            by_cases c18 : t380 = true
            · subst c18
              have H1 : (repertoire_letter.j1 kj1 a0 true) = some r := by rw [if_pos rfl] at H; exact H
              clear H
              have H := H1
              clear H1
              have H' := Aside0.mk H
              clear H
              go_wp2_with (first | (go_at_call 103; (with_reducible refine (repertoire_from.calls a0 913 937 true _ A17.out).mono ?_); rintro e w' ⟨rfl, ⟨nd, rfl⟩⟩))
              go_meet
              case rel => exact ⟨_, (true), (by first | rfl | (simp; done) | (simp [*]; done)), H', ⟨by have := HJ1.out; first | omega | exact Nat.le_refl _⟩, by repeat (first | exact Drawn0.refl _ | apply Drawn0.step)⟩
            · replace c18 := Bool.eq_false_iff.mpr c18
              subst c18
              have H1 : ((repertoire_from.f a0 945 969).bind fun t381 => (if t381 = true then (repertoire_letter.j1 kj1 a0 true) else ((strings_ContainsRune.f (⟨#[206, 134, 206, 136, 206, 137, 206, 138, 206, 140, 206, 142, 206, 143, 206, 172, 206, 173, 206, 174, 206, 175, 207, 140, 207, 141, 207, 142, 206, 170, 206, 171, 207, 138, 207, 139]⟩ : ByteArray) (wrap32 (a0))).bind fun t382 => (repertoire_letter.j1 kj1 a0 t382)))) = some r := by rw [if_neg (show ¬ (false = true) by decide)] at H; exact H
              clear H
              have H := H1
              clear H1
              replace H := Option.bind_eq_some_iff.mp H
              obtain ⟨t381, A190, H⟩ := H
              replace H : (if t381 = true then (repertoire_letter.j1 kj1 a0 true) else ((strings_ContainsRune.f (⟨#[206, 134, 206, 136, 206, 137, 206, 138, 206, 140, 206, 142, 206, 143, 206, 172, 206, 173, 206, 174, 206, 175, 207, 140, 207, 141, 207, 142, 206, 170, 206, 171, 207, 138, 207, 139]⟩ : ByteArray) (wrap32 (a0))).bind fun t382 => (repertoire_letter.j1 kj1 a0 t382))) = some r := H
              have A19 := Aside0.mk A190
              clear A190
              by_cases c20 : t381 = true
              · subst c20
                have H1 : (repertoire_letter.j1 kj1 a0 true) = some r := by rw [if_pos rfl] at H; exact H
                clear H
                have H := H1
                clear H1
                have H' := Aside0.mk H
                clear H
                go_wp2_with (first | (go_at_call 103; (with_reducible refine (repertoire_from.calls a0 913 937 false _ A17.out).mono ?_); rintro e w' ⟨rfl, ⟨nd, rfl⟩⟩) | (go_at_call 103; (with_reducible refine (repertoire_from.calls a0 945 969 true _ A19.out).mono ?_); rintro e w' ⟨rfl, ⟨nd, rfl⟩⟩))
                go_meet
                case rel => exact ⟨_, (true), (by first | rfl | (simp; done) | (simp [*]; done)), H', ⟨by have := HJ1.out; first | omega | exact Nat.le_refl _⟩, by repeat (first | exact Drawn0.refl _ | apply Drawn0.step)⟩
              · replace c20 := Bool.eq_false_iff.mpr c20
                subst c20
                have H1 : ((strings_ContainsRune.f (⟨#[206, 134, 206, 136, 206, 137, 206, 138, 206, 140, 206, 142, 206, 143, 206, 172, 206, 173, 206, 174, 206, 175, 207, 140, 207, 141, 207, 142, 206, 170, 206, 171, 207, 138, 207, 139]⟩ : ByteArray) (wrap32 (a0))).bind fun t382 => (repertoire_letter.j1 kj1 a0 t382)) = some r := by rw [if_neg (show ¬ (false = true) by decide)] at H; exact H
                clear H
                have H := H1
                clear H1
                replace H := Option.bind_eq_some_iff.mp H
                obtain ⟨t382, A210, H⟩ := H
                replace H : (repertoire_letter.j1 kj1 a0 t382) = some r := H
                have A21 := Aside0.mk A210
                clear A210
                have H' := Aside0.mk H
                clear H
                go_wp2_with (first | (go_at_call 103; (with_reducible refine (repertoire_from.calls a0 913 937 false _ A17.out).mono ?_); rintro e w' ⟨rfl, ⟨nd, rfl⟩⟩) | (go_at_call 103; (with_reducible refine (repertoire_from.calls a0 945 969 false _ A19.out).mono ?_); rintro e w' ⟨rfl, ⟨nd, rfl⟩⟩) | (go_at_call 113; (with_reducible refine (strings_ContainsRune.calls (⟨#[206, 134, 206, 136, 206, 137, 206, 138, 206, 140, 206, 142, 206, 143, 206, 172, 206, 173, 206, 174, 206, 175, 207, 140, 207, 141, 207, 142, 206, 170, 206, 171, 207, 138, 207, 139]⟩ : ByteArray) (wrap32 (a0)) t382 _ A21.out).mono ?_); rintro e w' ⟨rfl, ⟨nd, rfl⟩⟩))
                go_meet
                case rel => exact ⟨_, (t382), (by first | rfl | (simp; done) | (simp [*]; done)), H', ⟨by have := HJ1.out; first | omega | exact Nat.le_refl _⟩, by repeat (first | exact Drawn0.refl _ | apply Drawn0.step)⟩
        case rest =>
          clear HC12
          try clear c1
          try clear c2
          try clear p2
          try clear p3
          try clear c4
          try clear c6
          try clear c7
          try clear c7b0
          try clear c7b1
          try clear c9
          try clear c10
          try clear c11
          try clear c13
          try clear c13b0
          try clear c13b1
          try clear c15
          try clear c18
          try clear c20
          try clear p2
          try clear p3
          obtain ⟨kq, x23_11, rfl, HA, HJ11, ⟨mc11, rfl⟩⟩ := hcut
          cases kq with
          | zero => exact absurd HA.out (by simp [repertoire_letter.j1])
          | succ kj11 =>
            have H := HA.out
            clear HA
            simp only [repertoire_letter.j1] at H
            by_cases c22 : x23_11 = true
            · subst c22
              have H1 : (some 2) = some r := by rw [if_pos rfl] at H; exact H
              clear H
              have H := H1
              clear H1
              obtain rfl := Option.some.inj H
              go_wp2
              go_ret
              exact ⟨by first | rfl | (simp; done) | (simp [*]; done), by repeat (first | exact Drawn0.refl _ | apply Drawn0.step)⟩
            · replace c22 := Bool.eq_false_iff.mpr c22
              subst c22
              have H1 : ((repertoire_from.f a0 1040 1103).bind fun t383 => (if t383 = true then (some 3) else ((strings_ContainsRune.f (⟨#[208, 129, 209, 145, 208, 135, 209, 151, 208, 132, 209, 148, 210, 144, 210, 145, 208, 142, 209, 158, 208, 134, 209, 150]⟩ : ByteArray) (wrap32 (a0))).bind fun t384 => (if t384 = true then (some 3) else (some 0))))) = some r := by rw [if_neg (show ¬ (false = true) by decide)] at H; exact H
              clear H
              have H := H1
              clear H1
              replace H := Option.bind_eq_some_iff.mp H
              obtain ⟨t383, A230, H⟩ := H
              replace H : (if t383 = true then (some 3) else ((strings_ContainsRune.f (⟨#[208, 129, 209, 145, 208, 135, 209, 151, 208, 132, 209, 148, 210, 144, 210, 145, 208, 142, 209, 158, 208, 134, 209, 150]⟩ : ByteArray) (wrap32 (a0))).bind fun t384 => (if t384 = true then (some 3) else (some 0)))) = some r := H
              have A23 := Aside0.mk A230
              clear A230
              by_cases c24 : t383 = true
              · subst c24
                have H1 : (some 3) = some r := by rw [if_pos rfl] at H; exact H
                clear H
                have H := H1
                clear H1
                obtain rfl := Option.some.inj H
                go_wp2_with (first | ((with_reducible refine gate_callee (f := 103) rfl ?_); refine goesL_ (some 41) rfl rfl Tryd.func103 (by kernel_rfl) rfl #[.int .i64 a0, .int .i64 1040, .int .i64 1103] rfl (by (try simp only [List.map_toArray, List.map_cons, List.map_nil]); first | done | rfl | (simp only [List.length_drop, List.length_take]; rfl)) ?_; (with_reducible refine (repertoire_from.calls a0 1040 1103 true _ A23.out).mono ?_); rintro e w' ⟨rfl, ⟨nd, rfl⟩⟩; refine ⟨_, rfl, ?_⟩))
                go_ret
                exact ⟨by first | rfl | (simp; done) | (simp [*]; done), by repeat (first | exact Drawn0.refl _ | apply Drawn0.step)⟩
              · replace c24 := Bool.eq_false_iff.mpr c24
                subst c24
                have H1 : ((strings_ContainsRune.f (⟨#[208, 129, 209, 145, 208, 135, 209, 151, 208, 132, 209, 148, 210, 144, 210, 145, 208, 142, 209, 158, 208, 134, 209, 150]⟩ : ByteArray) (wrap32 (a0))).bind fun t384 => (if t384 = true then (some 3) else (some 0))) = some r := by rw [if_neg (show ¬ (false = true) by decide)] at H; exact H
                clear H
                have H := H1
                clear H1
                replace H := Option.bind_eq_some_iff.mp H
                obtain ⟨t384, A250, H⟩ := H
                replace H : (if t384 = true then (some 3) else (some 0)) = some r := H
                have A25 := Aside0.mk A250
                clear A250
                by_cases c26 : t384 = true
                · subst c26
                  have H1 : (some 3) = some r := by rw [if_pos rfl] at H; exact H
                  clear H
                  have H := H1
                  clear H1
                  obtain rfl := Option.some.inj H
                  go_wp2_with (first | ((with_reducible refine gate_callee (f := 103) rfl ?_); refine goesL_ (some 41) rfl rfl Tryd.func103 (by kernel_rfl) rfl #[.int .i64 a0, .int .i64 1040, .int .i64 1103] rfl (by (try simp only [List.map_toArray, List.map_cons, List.map_nil]); first | done | rfl | (simp only [List.length_drop, List.length_take]; rfl)) ?_; (with_reducible refine (repertoire_from.calls a0 1040 1103 false _ A23.out).mono ?_); rintro e w' ⟨rfl, ⟨nd, rfl⟩⟩; refine ⟨_, rfl, ?_⟩) | (go_at_call 113; (with_reducible refine (strings_ContainsRune.calls (⟨#[208, 129, 209, 145, 208, 135, 209, 151, 208, 132, 209, 148, 210, 144, 210, 145, 208, 142, 209, 158, 208, 134, 209, 150]⟩ : ByteArray) (wrap32 (a0)) true _ A25.out).mono ?_); rintro e w' ⟨rfl, ⟨nd, rfl⟩⟩))
                  go_ret
                  exact ⟨by first | rfl | (simp; done) | (simp [*]; done), by repeat (first | exact Drawn0.refl _ | apply Drawn0.step)⟩
                · replace c26 := Bool.eq_false_iff.mpr c26
                  subst c26
                  have H1 : (some 0) = some r := by rw [if_neg (show ¬ (false = true) by decide)] at H; exact H
                  clear H
                  have H := H1
                  clear H1
                  obtain rfl := Option.some.inj H
                  go_wp2_with (first | ((with_reducible refine gate_callee (f := 103) rfl ?_); refine goesL_ (some 41) rfl rfl Tryd.func103 (by kernel_rfl) rfl #[.int .i64 a0, .int .i64 1040, .int .i64 1103] rfl (by (try simp only [List.map_toArray, List.map_cons, List.map_nil]); first | done | rfl | (simp only [List.length_drop, List.length_take]; rfl)) ?_; (with_reducible refine (repertoire_from.calls a0 1040 1103 false _ A23.out).mono ?_); rintro e w' ⟨rfl, ⟨nd, rfl⟩⟩; refine ⟨_, rfl, ?_⟩) | (go_at_call 113; (with_reducible refine (strings_ContainsRune.calls (⟨#[208, 129, 209, 145, 208, 135, 209, 151, 208, 132, 209, 148, 210, 144, 210, 145, 208, 142, 209, 158, 208, 134, 209, 150]⟩ : ByteArray) (wrap32 (a0)) false _ A25.out).mono ?_); rintro e w' ⟨rfl, ⟨nd, rfl⟩⟩))
                  go_ret
                  exact ⟨by first | rfl | (simp; done) | (simp [*]; done), by repeat (first | exact Drawn0.refl _ | apply Drawn0.step)⟩
mutual
def repertoire_Class.j0 : Nat → Int → Option (Int × Int)
  | 0, _ => none
  | k + 1, x0 => if x0 < 32 then (repertoire_Class.j1 k x0 true) else (repertoire_Class.j1 k x0 (decide (x0 > 65535)))
def repertoire_Class.j1 : Nat → Int → Bool → Option (Int × Int)
  | 0, _, _ => none
  | k + 1, x0, x14 => if x14 = true then (some (0, 0)) else ((repertoire_letter.f k x0).bind fun t386 => (if t386 = 0 then (if x0 = 32 then (repertoire_Class.j2 k x0 true) else (repertoire_Class.j2 k x0 (x0 == 160))) else (some (t386, 1))))
def repertoire_Class.j2 : Nat → Int → Bool → Option (Int × Int)
  | 0, _, _ => none
  | k + 1, x0, x21 => if x21 = true then (some (0, 4)) else ((repertoire_from.f x0 48 57).bind fun t387 => (if t387 = true then (repertoire_Class.j3 k x0 true) else (if x0 = 178 then (repertoire_Class.j3 k x0 true) else (if x0 = 179 then (repertoire_Class.j3 k x0 true) else (repertoire_Class.j3 k x0 (x0 == 185))))))
def repertoire_Class.j3 : Nat → Int → Bool → Option (Int × Int)
  | 0, _, _ => none
  | k + 1, x0, x28 => if x28 = true then (some (0, 3)) else ((repertoire_mark.f k x0).bind fun t388 => (if t388 = true then (some (0, 2)) else (if x0 ≤ 126 then (some (0, 5)) else (some (0, 0)))))
end
def repertoire_Class.f (k : Nat) (a0 : Int) : Option (Int × Int) := (repertoire_from.f a0 65281 65374).bind fun t385 => (if t385 = true then (repertoire_Class.j0 k (wrap64 (a0 - 65248))) else (repertoire_Class.j0 k a0))
set_option maxHeartbeats 8000000 in
set_option maxRecDepth 100000 in
theorem repertoire_Class.calls (k : Nat) (a0 : Int) (r1 : Int) (r2 : Int) (w : World) (h : repertoire_Class.f k a0 = some (r1, r2)) :
    Calls Tryd.prog 90 #[.int .i64 a0] w fun e w' => e = .returned (.tuple #[.int .i64 r1, .int .i64 r2]) ∧ Drawn0 w w' := by
  have H : ((repertoire_from.f a0 65281 65374).bind fun t385 => (if t385 = true then (repertoire_Class.j0 k (wrap64 (a0 - 65248))) else (repertoire_Class.j0 k a0))) = some (r1, r2) := h
  clear h
  replace H := Option.bind_eq_some_iff.mp H
  obtain ⟨t385, A20, H⟩ := H
  replace H : (if t385 = true then (repertoire_Class.j0 k (wrap64 (a0 - 65248))) else (repertoire_Class.j0 k a0)) = some (r1, r2) := H
  have A2 := Aside0.mk A20
  clear A20
  have HC3 := Aside0.mk H
  clear H
  go_enter Tryd.func90, Tryd.ntmps90
  go_upto_if 6 with (first | ((with_reducible refine gate_callee (f := 103) rfl ?_); refine goesL_ (some 6) rfl rfl Tryd.func103 (by kernel_rfl) rfl #[.int .i64 a0, .int .i64 65281, .int .i64 65374] rfl (by (try simp only [List.map_toArray, List.map_cons, List.map_nil]); first | done | rfl | (simp only [List.length_drop, List.length_take]; rfl)) ?_; (with_reducible refine (repertoire_from.calls a0 65281 65374 t385 _ A2.out).mono ?_); rintro e w' ⟨rfl, ⟨nd, rfl⟩⟩; refine ⟨_, rfl, ?_⟩))
  (try simp only [Act.put, List.setIfInBounds_toArray, List.set_cons_zero, List.set_cons_succ])
  go_cut [0] (fun v0 wc => ∃ (kq : Nat) (x0_2 : Int), v0 = .int .i64 x0_2 ∧ Aside0 (repertoire_Class.j0 kq x0_2 = some (r1, r2)) ∧ Aside0 (kq ≤ k) ∧ Drawn0 w wc)
  case first =>
    have H := HC3.out
    clear HC3
    by_cases c4 : t385 = true
    · subst c4
      have H1 : (repertoire_Class.j0 k (wrap64 (a0 - 65248))) = some (r1, r2) := by rw [if_pos rfl] at H; exact H
      clear H
      have H := H1
      clear H1
      have H' := Aside0.mk H
      clear H
      go_wp2
      go_meet
      case rel => exact ⟨_, (wrap64 (a0 - 65248)), (by first | rfl | (simp; done) | (simp [*]; done)), H', ⟨by first | omega | exact Nat.le_refl _⟩, by repeat (first | exact Drawn0.refl _ | apply Drawn0.step)⟩
    · replace c4 := Bool.eq_false_iff.mpr c4
      subst c4
      have H1 : (repertoire_Class.j0 k a0) = some (r1, r2) := by rw [if_neg (show ¬ (false = true) by decide)] at H; exact H
      clear H
      have H := H1
      clear H1
      have H' := Aside0.mk H
      clear H
      go_wp2
      go_meet
      case rel => exact ⟨_, (a0), (by first | rfl | (simp; done) | (simp [*]; done)), H', ⟨by first | omega | exact Nat.le_refl _⟩, by repeat (first | exact Drawn0.refl _ | apply Drawn0.step)⟩
  case rest =>
    clear HC3
    try clear c1
    try clear p2
    try clear c4
    obtain ⟨kq, x0_2, rfl, HA, HJ2, ⟨mc2, rfl⟩⟩ := hcut
    cases kq with
    | zero => exact absurd HA.out (by simp [repertoire_Class.j0])
    | succ kj2 =>
      have H := HA.out
      clear HA
      simp only [repertoire_Class.j0] at H
      have HC5 := Aside0.mk H
      clear H
      go_upto_region 3 with (fail)
      go_cut [14] (fun v14 wc => ∃ (kq : Nat) (x14_4 : Bool), v14 = .bool x14_4 ∧ Aside0 (repertoire_Class.j1 kq x0_2 x14_4 = some (r1, r2)) ∧ Aside0 (kq ≤ kj2) ∧ Drawn0 w wc)
      case first =>
        have H := HC5.out
        clear HC5
        by_cases c6 : x0_2 < 32
        · rw [if_pos c6] at H
          have c6b0 : decide (x0_2 < 32) = true := decide_eq_true c6
          clear c6
          (first | rw [c6b0] | (simp only [i64_w, i32_w]; rw [c6b0]) | skip)
          have H' := Aside0.mk H
          clear H
          go_wp2
          go_meet
          case rel => exact ⟨_, (true), (by first | rfl | (simp; done) | (simp [*]; done)), H', ⟨by have := HJ2.out; first | omega | exact Nat.le_refl _⟩, by repeat (first | exact Drawn0.refl _ | apply Drawn0.step)⟩
        · rw [if_neg c6] at H
          have c6b0 : decide (x0_2 < 32) = false := decide_eq_false c6
          clear c6
          (first | rw [c6b0] | (simp only [i64_w, i32_w]; rw [c6b0]) | skip)
          have H' := Aside0.mk H
          clear H
          go_wp2
          go_meet
          case rel => exact ⟨_, (decide (x0_2 > 65535)), (by first | rfl | (simp; done) | (simp [*]; done)), H', ⟨by have := HJ2.out; first | omega | exact Nat.le_refl _⟩, by repeat (first | exact Drawn0.refl _ | apply Drawn0.step)⟩
      case rest =>
        clear HC5
        try clear c1
        try clear c2
        try clear p2
        try clear c4
        try clear c6
        try clear c6b0
        try clear p6
        try clear p2
        obtain ⟨kq, x14_4, rfl, HA, HJ4, ⟨mc4, rfl⟩⟩ := hcut
        cases kq with
        | zero => exact absurd HA.out (by simp [repertoire_Class.j1])
        | succ kj4 =>
          have H := HA.out
          clear HA
          simp only [repertoire_Class.j1] at H
          by_cases c7 : x14_4 = true
          · subst c7
            have H1 : (some (0, 0)) = some (r1, r2) := by rw [if_pos rfl] at H; exact H
            clear H
            have H := H1
            clear H1
            simp only [Option.some.injEq, Prod.mk.injEq] at H
            obtain ⟨rfl, rfl⟩ := H
            go_wp2
            go_ret2
            exact ⟨by first | rfl | (simp; done) | (simp [*]; done), by repeat (first | exact Drawn0.refl _ | apply Drawn0.step)⟩
          · replace c7 := Bool.eq_false_iff.mpr c7
            subst c7
            have H1 : ((repertoire_letter.f kj4 x0_2).bind fun t386 => (if t386 = 0 then (if x0_2 = 32 then (repertoire_Class.j2 kj4 x0_2 true) else (repertoire_Class.j2 kj4 x0_2 (x0_2 == 160))) else (some (t386, 1)))) = some (r1, r2) := by rw [if_neg (show ¬ (false = true) by decide)] at H; exact H
            clear H
            have H := H1
            clear H1
            replace H := Option.bind_eq_some_iff.mp H
            obtain ⟨t386, A80, H⟩ := H
            replace H : (if t386 = 0 then (if x0_2 = 32 then (repertoire_Class.j2 kj4 x0_2 true) else (repertoire_Class.j2 kj4 x0_2 (x0_2 == 160))) else (some (t386, 1))) = some (r1, r2) := H
            have A8 := Aside0.mk A80
            clear A80
            by_cases c9 : t386 = 0
            · rw [if_pos c9] at H
              have c9b0 : (t386 == 0) = true := beq_iff_eq.mpr c9
              have c9b1 : (t386 != 0) = false := bne_eq_false_iff_eq.mpr c9
              clear c9
              have HC10 := Aside0.mk H
              clear H
              go_upto_region 8 with (first | ((with_reducible refine gate_callee (f := 104) rfl ?_); refine goesL_ (some 16) rfl rfl Tryd.func104 (by kernel_rfl) rfl #[.int .i64 x0_2] rfl (by (try simp only [List.map_toArray, List.map_cons, List.map_nil]); first | done | rfl | (simp only [List.length_drop, List.length_take]; rfl)) ?_; (with_reducible refine (repertoire_letter.calls kj4 x0_2 t386 _ A8.out).mono ?_); rintro e w' ⟨rfl, ⟨nd, rfl⟩⟩; refine ⟨_, rfl, ?_⟩))
              (try simp only [Act.put, List.setIfInBounds_toArray, List.set_cons_zero, List.set_cons_succ])
              go_cut [21] (fun v21 wc => ∃ (kq : Nat) (x21_9 : Bool), v21 = .bool x21_9 ∧ Aside0 (repertoire_Class.j2 kq x0_2 x21_9 = some (r1, r2)) ∧ Aside0 (kq ≤ kj4) ∧ Drawn0 w wc)
              case first =>
                have H := HC10.out
                clear HC10
                by_cases c11 : x0_2 = 32
                · rw [if_pos c11] at H
                  have c11b0 : (x0_2 == 32) = true := beq_iff_eq.mpr c11
                  have c11b1 : (x0_2 != 32) = false := bne_eq_false_iff_eq.mpr c11
                  clear c11
                  (first | rw [c11b0] | (simp only [i64_w, i32_w]; rw [c11b0]) | skip)
                  have H' := Aside0.mk H
                  clear H
                  go_wp2
                  go_meet
                  case rel => exact ⟨_, (true), (by first | rfl | (simp; done) | (simp [*]; done)), H', ⟨by have := HJ2.out; have := HJ4.out; first | omega | exact Nat.le_refl _⟩, by repeat (first | exact Drawn0.refl _ | apply Drawn0.step)⟩
                · rw [if_neg c11] at H
                  have c11b0 : (x0_2 == 32) = false := beq_eq_false_iff_ne.mpr c11
                  have c11b1 : (x0_2 != 32) = true := bne_iff_ne.mpr c11
                  (first | rw [c11b0] | (simp only [i64_w, i32_w]; rw [c11b0]) | skip)
                  have H' := Aside0.mk H
                  clear H
                  go_wp2
                  go_meet
                  case rel => exact ⟨_, ((x0_2 == 160)), (by first | rfl | (simp; done) | (simp [*]; done)), H', ⟨by have := HJ2.out; have := HJ4.out; first | omega | exact Nat.le_refl _⟩, by repeat (first | exact Drawn0.refl _ | apply Drawn0.step)⟩
              case rest =>
                clear HC10
                try clear c1
                try clear c2
                try clear p2
                try clear c4
                try clear c6
                try clear c6b0
                try clear p6
                try clear c7
                try clear c9
                try clear c9b0
                try clear c9b1
                try clear c10
                try clear c11
                try clear c11b0
                try clear c11b1
                try clear p2
                try clear p6
                obtain ⟨kq, x21_9, rfl, HA, HJ9, ⟨mc9, rfl⟩⟩ := hcut
                cases kq with
                | zero => exact absurd HA.out (by simp [repertoire_Class.j2])
                | succ kj9 =>
                  have H := HA.out
                  clear HA
                  simp only [repertoire_Class.j2] at H
                  by_cases c12 : x21_9 = true
                  · subst c12
                    have H1 : (some (0, 4)) = some (r1, r2) := by rw [if_pos rfl] at H; exact H
                    clear H
                    have H := H1
                    clear H1
                    simp only [Option.some.injEq, Prod.mk.injEq] at H
                    obtain ⟨rfl, rfl⟩ := H
                    go_wp2
                    go_ret2
                    exact ⟨by first | rfl | (simp; done) | (simp [*]; done), by repeat (first | exact Drawn0.refl _ | apply Drawn0.step)⟩
                  · replace c12 := Bool.eq_false_iff.mpr c12
                    subst c12
                    have H1 : ((repertoire_from.f x0_2 48 57).bind fun t387 => (if t387 = true then (repertoire_Class.j3 kj9 x0_2 true) else (if x0_2 = 178 then (repertoire_Class.j3 kj9 x0_2 true) else (if x0_2 = 179 then (repertoire_Class.j3 kj9 x0_2 true) else (repertoire_Class.j3 kj9 x0_2 (x0_2 == 185)))))) = some (r1, r2) := by rw [if_neg (show ¬ (false = true) by decide)] at H; exact H
                    clear H
                    have H := H1
                    clear H1
                    have HC13 := Aside0.mk H
                    clear H
                    go_upto_region 10 with (fail)
                    go_cut [28] (fun v28 wc => ∃ (kq : Nat) (x28_12 : Bool), v28 = .bool x28_12 ∧ Aside0 (repertoire_Class.j3 kq x0_2 x28_12 = some (r1, r2)) ∧ Aside0 (kq ≤ kj9) ∧ Drawn0 w wc)
                    case first =>
                      have H := HC13.out
                      clear HC13
                      replace H := Option.bind_eq_some_iff.mp H
                      obtain ⟨t387, A140, H⟩ := H
                      replace H : (if t387 = true then (repertoire_Class.j3 kj9 x0_2 true) else (if x0_2 = 178 then (repertoire_Class.j3 kj9 x0_2 true) else (if x0_2 = 179 then (repertoire_Class.j3 kj9 x0_2 true) else (repertoire_Class.j3 kj9 x0_2 (x0_2 == 185))))) = some (r1, r2) := H
                      have A14 := Aside0.mk A140
                      clear A140
                      by_cases c15 : t387 = true
                      · subst c15
                        have H1 : (repertoire_Class.j3 kj9 x0_2 true) = some (r1, r2) := by rw [if_pos rfl] at H; exact H
                        clear H
                        have H := H1
                        clear H1
                        have H' := Aside0.mk H
                        clear H
                        go_wp2_with (first | ((with_reducible refine gate_callee (f := 103) rfl ?_); refine goesL_ (some 30) rfl rfl Tryd.func103 (by kernel_rfl) rfl #[.int .i64 x0_2, .int .i64 48, .int .i64 57] rfl (by (try simp only [List.map_toArray, List.map_cons, List.map_nil]); first | done | rfl | (simp only [List.length_drop, List.length_take]; rfl)) ?_; (with_reducible refine (repertoire_from.calls x0_2 48 57 true _ A14.out).mono ?_); rintro e w' ⟨rfl, ⟨nd, rfl⟩⟩; refine ⟨_, rfl, ?_⟩))
                        go_meet
                        case rel => exact ⟨_, (true), (by first | rfl | (simp; done) | (simp [*]; done)), H', ⟨by have := HJ2.out; have := HJ4.out; have := HJ9.out; first | omega | exact Nat.le_refl _⟩, by repeat (first | exact Drawn0.refl _ | apply Drawn0.step)⟩
                      · replace c15 := Bool.eq_false_iff.mpr c15
                        subst c15
                        have H1 : (if x0_2 = 178 then (repertoire_Class.j3 kj9 x0_2 true) else (if x0_2 = 179 then (repertoire_Class.j3 kj9 x0_2 true) else (repertoire_Class.j3 kj9 x0_2 (x0_2 == 185)))) = some (r1, r2) := by rw [if_neg (show ¬ (false = true) by decide)] at H; exact H
                        clear H
                        have H := H1
                        clear H1
                        by_cases c16 : x0_2 = 178
                        · rw [if_pos c16] at H
                          have c16b0 : (x0_2 == 178) = true := beq_iff_eq.mpr c16
                          have c16b1 : (x0_2 != 178) = false := bne_eq_false_iff_eq.mpr c16
                          clear c16
                          (first | rw [c16b0] | (simp only [i64_w, i32_w]; rw [c16b0]) | skip)
                          have H' := Aside0.mk H
                          clear H
                          go_wp2_with (first | ((with_reducible refine gate_callee (f := 103) rfl ?_); refine goesL_ (some 30) rfl rfl Tryd.func103 (by kernel_rfl) rfl #[.int .i64 x0_2, .int .i64 48, .int .i64 57] rfl (by (try simp only [List.map_toArray, List.map_cons, List.map_nil]); first | done | rfl | (simp only [List.length_drop, List.length_take]; rfl)) ?_; (with_reducible refine (repertoire_from.calls x0_2 48 57 false _ A14.out).mono ?_); rintro e w' ⟨rfl, ⟨nd, rfl⟩⟩; refine ⟨_, rfl, ?_⟩))
                          go_meet
                          case rel => exact ⟨_, (true), (by first | rfl | (simp; done) | (simp [*]; done)), H', ⟨by have := HJ2.out; have := HJ4.out; have := HJ9.out; first | omega | exact Nat.le_refl _⟩, by repeat (first | exact Drawn0.refl _ | apply Drawn0.step)⟩
                        · rw [if_neg c16] at H
                          have c16b0 : (x0_2 == 178) = false := beq_eq_false_iff_ne.mpr c16
                          have c16b1 : (x0_2 != 178) = true := bne_iff_ne.mpr c16
                          (first | rw [c16b0] | (simp only [i64_w, i32_w]; rw [c16b0]) | skip)
                          by_cases c17 : x0_2 = 179
                          · rw [if_pos c17] at H
                            have c17b0 : (x0_2 == 179) = true := beq_iff_eq.mpr c17
                            have c17b1 : (x0_2 != 179) = false := bne_eq_false_iff_eq.mpr c17
                            clear c17
                            have H' := Aside0.mk H
                            clear H
                            go_wp2_with (first | ((with_reducible refine gate_callee (f := 103) rfl ?_); refine goesL_ (some 30) rfl rfl Tryd.func103 (by kernel_rfl) rfl #[.int .i64 x0_2, .int .i64 48, .int .i64 57] rfl (by (try simp only [List.map_toArray, List.map_cons, List.map_nil]); first | done | rfl | (simp only [List.length_drop, List.length_take]; rfl)) ?_; (with_reducible refine (repertoire_from.calls x0_2 48 57 false _ A14.out).mono ?_); rintro e w' ⟨rfl, ⟨nd, rfl⟩⟩; refine ⟨_, rfl, ?_⟩))
                            go_meet
                            case rel => exact ⟨_, (true), (by first | rfl | (simp; done) | (simp [*]; done)), H', ⟨by have := HJ2.out; have := HJ4.out; have := HJ9.out; first | omega | exact Nat.le_refl _⟩, by repeat (first | exact Drawn0.refl _ | apply Drawn0.step)⟩
                          · rw [if_neg c17] at H
                            have c17b0 : (x0_2 == 179) = false := beq_eq_false_iff_ne.mpr c17
                            have c17b1 : (x0_2 != 179) = true := bne_iff_ne.mpr c17
                            have H' := Aside0.mk H
                            clear H
                            go_wp2_with (first | ((with_reducible refine gate_callee (f := 103) rfl ?_); refine goesL_ (some 30) rfl rfl Tryd.func103 (by kernel_rfl) rfl #[.int .i64 x0_2, .int .i64 48, .int .i64 57] rfl (by (try simp only [List.map_toArray, List.map_cons, List.map_nil]); first | done | rfl | (simp only [List.length_drop, List.length_take]; rfl)) ?_; (with_reducible refine (repertoire_from.calls x0_2 48 57 false _ A14.out).mono ?_); rintro e w' ⟨rfl, ⟨nd, rfl⟩⟩; refine ⟨_, rfl, ?_⟩))
                            go_meet
                            case rel => exact ⟨_, ((x0_2 == 185)), (by first | rfl | (simp; done) | (simp [*]; done)), H', ⟨by have := HJ2.out; have := HJ4.out; have := HJ9.out; first | omega | exact Nat.le_refl _⟩, by repeat (first | exact Drawn0.refl _ | apply Drawn0.step)⟩
                    case rest =>
                      clear HC13
                      try clear c1
                      try clear c2
                      try clear p2
                      try clear c4
                      try clear c6
                      try clear c6b0
                      try clear p6
                      try clear c7
                      try clear c9
                      try clear c9b0
                      try clear c9b1
                      try clear c10
                      try clear c11
                      try clear c11b0
                      try clear c11b1
                      try clear c12
                      try clear c15
                      try clear c16
                      try clear c16b0
                      try clear c16b1
                      try clear c17
                      try clear c17b0
                      try clear c17b1
                      try clear p2
                      try clear p6
                      obtain ⟨kq, x28_12, rfl, HA, HJ12, ⟨mc12, rfl⟩⟩ := hcut
                      cases kq with
                      | zero => exact absurd HA.out (by simp [repertoire_Class.j3])
                      | succ kj12 =>
                        have H := HA.out
                        clear HA
                        simp only [repertoire_Class.j3] at H
                        by_cases c18 : x28_12 = true
                        · subst c18
                          have H1 : (some (0, 3)) = some (r1, r2) := by rw [if_pos rfl] at H; exact H
                          clear H
                          have H := H1
                          clear H1
                          simp only [Option.some.injEq, Prod.mk.injEq] at H
                          obtain ⟨rfl, rfl⟩ := H
                          go_wp2
                          go_ret2
                          exact ⟨by first | rfl | (simp; done) | (simp [*]; done), by repeat (first | exact Drawn0.refl _ | apply Drawn0.step)⟩
                        · replace c18 := Bool.eq_false_iff.mpr c18
                          subst c18
                          have H1 : ((repertoire_mark.f kj12 x0_2).bind fun t388 => (if t388 = true then (some (0, 2)) else (if x0_2 ≤ 126 then (some (0, 5)) else (some (0, 0))))) = some (r1, r2) := by rw [if_neg (show ¬ (false = true) by decide)] at H; exact H
                          clear H
                          have H := H1
                          clear H1
                          replace H := Option.bind_eq_some_iff.mp H
                          obtain ⟨t388, A190, H⟩ := H
                          replace H : (if t388 = true then (some (0, 2)) else (if x0_2 ≤ 126 then (some (0, 5)) else (some (0, 0)))) = some (r1, r2) := H
                          have A19 := Aside0.mk A190
                          clear A190
                          by_cases c20 : t388 = true
                          · subst c20
                            have H1 : (some (0, 2)) = some (r1, r2) := by rw [if_pos rfl] at H; exact H
                            clear H
                            have H := H1
                            clear H1
                            simp only [Option.some.injEq, Prod.mk.injEq] at H
                            obtain ⟨rfl, rfl⟩ := H
                            go_wp2_with (first | ((with_reducible refine gate_callee (f := 105) rfl ?_); refine goesL_ (some 45) rfl rfl Tryd.func105 (by kernel_rfl) rfl #[.int .i64 x0_2] rfl (by (try simp only [List.map_toArray, List.map_cons, List.map_nil]); first | done | rfl | (simp only [List.length_drop, List.length_take]; rfl)) ?_; (with_reducible refine (repertoire_mark.calls kj12 x0_2 true _ A19.out).mono ?_); rintro e w' ⟨rfl, ⟨nd, rfl⟩⟩; refine ⟨_, rfl, ?_⟩))
                            go_ret2
                            exact ⟨by first | rfl | (simp; done) | (simp [*]; done), by repeat (first | exact Drawn0.refl _ | apply Drawn0.step)⟩
                          · replace c20 := Bool.eq_false_iff.mpr c20
                            subst c20
                            have H1 : (if x0_2 ≤ 126 then (some (0, 5)) else (some (0, 0))) = some (r1, r2) := by rw [if_neg (show ¬ (false = true) by decide)] at H; exact H
                            clear H
                            have H := H1
                            clear H1
                            by_cases c21 : x0_2 ≤ 126
                            · rw [if_pos c21] at H
                              have c21b0 : decide (x0_2 ≤ 126) = true := decide_eq_true c21
                              clear c21
                              simp only [Option.some.injEq, Prod.mk.injEq] at H
                              obtain ⟨rfl, rfl⟩ := H
                              go_wp2_with (first | ((with_reducible refine gate_callee (f := 105) rfl ?_); refine goesL_ (some 45) rfl rfl Tryd.func105 (by kernel_rfl) rfl #[.int .i64 x0_2] rfl (by (try simp only [List.map_toArray, List.map_cons, List.map_nil]); first | done | rfl | (simp only [List.length_drop, List.length_take]; rfl)) ?_; (with_reducible refine (repertoire_mark.calls kj12 x0_2 false _ A19.out).mono ?_); rintro e w' ⟨rfl, ⟨nd, rfl⟩⟩; refine ⟨_, rfl, ?_⟩))
                              go_ret2
                              exact ⟨by first | rfl | (simp; done) | (simp [*]; done), by repeat (first | exact Drawn0.refl _ | apply Drawn0.step)⟩
                            · rw [if_neg c21] at H
                              have c21b0 : decide (x0_2 ≤ 126) = false := decide_eq_false c21
                              clear c21
                              simp only [Option.some.injEq, Prod.mk.injEq] at H
                              obtain ⟨rfl, rfl⟩ := H
                              go_wp2_with (first | ((with_reducible refine gate_callee (f := 105) rfl ?_); refine goesL_ (some 45) rfl rfl Tryd.func105 (by kernel_rfl) rfl #[.int .i64 x0_2] rfl (by (try simp only [List.map_toArray, List.map_cons, List.map_nil]); first | done | rfl | (simp only [List.length_drop, List.length_take]; rfl)) ?_; (with_reducible refine (repertoire_mark.calls kj12 x0_2 false _ A19.out).mono ?_); rintro e w' ⟨rfl, ⟨nd, rfl⟩⟩; refine ⟨_, rfl, ?_⟩))
                              go_ret2
                              exact ⟨by first | rfl | (simp; done) | (simp [*]; done), by repeat (first | exact Drawn0.refl _ | apply Drawn0.step)⟩
            · rw [if_neg c9] at H
              have c9b0 : (t386 == 0) = false := beq_eq_false_iff_ne.mpr c9
              have c9b1 : (t386 != 0) = true := bne_iff_ne.mpr c9
              simp only [Option.some.injEq, Prod.mk.injEq] at H
              obtain ⟨rfl, rfl⟩ := H
              go_wp2_with (first | ((with_reducible refine gate_callee (f := 104) rfl ?_); refine goesL_ (some 16) rfl rfl Tryd.func104 (by kernel_rfl) rfl #[.int .i64 x0_2] rfl (by (try simp only [List.map_toArray, List.map_cons, List.map_nil]); first | done | rfl | (simp only [List.length_drop, List.length_take]; rfl)) ?_; (with_reducible refine (repertoire_letter.calls kj4 x0_2 t386 _ A8.out).mono ?_); rintro e w' ⟨rfl, ⟨nd, rfl⟩⟩; refine ⟨_, rfl, ?_⟩))
              go_ret2
              exact ⟨by first | rfl | (simp; done) | (simp [*]; done), by repeat (first | exact Drawn0.refl _ | apply Drawn0.step)⟩
end Go.Proofs.YthcpdhniakpbaaaDoor.X
end

section
namespace Go.Proofs.YthcpdhniakpbaaaDoor.X
open Go.RowKit Go.Proofs.YthcpdhniakpbaaaDoorW.PrintWords
def utf8_DecodeRuneInString.f (a0 : ByteArray) : Option (Int × Int) := some ((Lib.decodeGo a0).1, (Lib.decodeGo a0).2)
theorem utf8_DecodeRuneInString.calls (a0 : ByteArray) (r1 : Int) (r2 : Int) (w : World) (hG : GT1 w) (h : utf8_DecodeRuneInString.f a0 = some (r1, r2)) :
    Calls Tryd.prog 79 #[.string a0] w fun e w' => e = .returned (.tuple #[.int .i32 r1, .int .i64 r2]) ∧ Below w.heap.size w w' := by
  obtain ⟨rfl, rfl⟩ := Prod.mk.inj (Option.some.inj h)
  exact Tryd.utf8_DecodeRuneInString a0 w hG.tabs
def strings_Fields.f (a0 : ByteArray) : Option (List ByteArray) := if a0.size < 4294967281 then some ((Lib.fieldsD a0.data.toList).map fun x => (⟨x.toArray⟩ : ByteArray)) else none
theorem strings_Fields.calls (a0 : ByteArray) (r : List ByteArray) (w : World) (hG : GT2 w) (h : strings_Fields.f a0 = some r) :
    Calls Tryd.prog 82 #[.string a0] w fun e w' => ∃ v0_ : Value, e = .returned (v0_) ∧ Kd.R Kd.string 9 w' w.heap.size (fun _ => True) v0_ r ∧ Below w.heap.size w w' := by
  unfold strings_Fields.f at h
  split at h
  · rename_i h1
    obtain rfl := Option.some.inj h
    refine (Tryd.strings_Fields_any a0 w h1 hG.asc hG.wh).mono ?_
    rintro e w' ⟨A, rfl, hA, hown, hb⟩
    refine ⟨_, rfl, Kd.R_of_own ?_ (fun _ _ => trivial), hb⟩
    simpa [encs, Function.comp_def] using hown
  · exact absurd h (by simp)
end Go.Proofs.YthcpdhniakpbaaaDoor.X
end

section
namespace Go.Proofs.YthcpdhniakpbaaaDoor.X
open Go.RowKit Go.Proofs.YthcpdhniakpbaaaDoorW.PrintWords Go.Proofs.YthcpdhniakpbaaaDoorW.PrintLast Go.Proofs.YthcpdhniakpbaaaDoorW.PrintMore
attribute [local go_sem] max2_int min2_int max_two min_two max_three min_three max_four min_four
set_option linter.unusedVariables false
set_option linter.unusedSimpArgs false
def repertoire_Has.f (k : Nat) (a0 : Int) : Option (Bool) := (repertoire_Class.f k a0).bind fun bt389 => (some (bt389.2 != 0))
set_option maxHeartbeats 8000000 in
set_option maxRecDepth 100000 in
theorem repertoire_Has.calls (k : Nat) (a0 : Int) (r : Bool) (w : World) (h : repertoire_Has.f k a0 = some r) :
    Calls Tryd.prog 95 #[.int .i64 a0] w fun e w' => e = .returned (.bool r) ∧ Drawn0 w w' := by
  have H : ((repertoire_Class.f k a0).bind fun bt389 => (some (bt389.2 != 0))) = some r := h
  clear h
  replace H := Option.bind_eq_some_iff.mp H
  obtain ⟨⟨t389, t390⟩, A20, H⟩ := H
  replace H : (some (t390 != 0)) = some r := H
  have A2 := Aside0.mk A20
  clear A20
  obtain rfl := Option.some.inj H
  go_enter Tryd.func95, Tryd.ntmps95
  go_wp2_with (first | ((with_reducible refine gate_callee (f := 90) rfl ?_); refine goesL_ (some 7) rfl rfl Tryd.func90 (by kernel_rfl) rfl #[.int .i64 a0] rfl (by (try simp only [List.map_toArray, List.map_cons, List.map_nil]); first | done | rfl | (simp only [List.length_drop, List.length_take]; rfl)) ?_; (with_reducible refine (repertoire_Class.calls k a0 t389 t390 _ A2.out).mono ?_); rintro e w' ⟨rfl, ⟨nd, rfl⟩⟩; refine ⟨_, rfl, ?_⟩))
  go_ret
  exact ⟨by first | rfl | (simp; done) | (simp [*]; done), by repeat (first | exact Drawn0.refl _ | apply Drawn0.step)⟩
def repertoire_Decode.l0 : Nat → ByteArray → List Int → Option (List Int × Bool)
  | 0, _, _ => none
  | k + 1, x0, x4 => if (x0.size : Int) > 0 then ((utf8_DecodeRuneInString.f x0).bind fun bt394 => (if bt394.1 = 65533 then (some (([] : List Int), false)) else ((repertoire_Has.f k (wrap64 (bt394.1))).bind fun t396 => (if t396 = true then (if x4.length < 17592186044416 then (if 0 ≤ bt394.2 then (if bt394.2 ≤ (x0.size : Int) then (repertoire_Decode.l0 k (x0.extract (bt394.2 : Int).toNat x0.size) (x4 ++ [wrap64 (bt394.1)])) else (none)) else (none)) else (none)) else (some (([] : List Int), false)))))) else (some (x4, true))
def repertoire_Decode.f (k : Nat) (a0 : ByteArray) : Option (List Int × Bool) := if 0 ≤ (a0.size : Int) then (if ((a0.size : Int) : Int).toNat ≤ 35184372088832 then (repertoire_Decode.l0 k a0 (([] : List Int))) else (none)) else (none)
def repertoire_Decode.T6 : Bool × List (List Nat × List Nat) := (true, [([], []), ([], []), ([1], [1]), ([2], [2]), ([0, 3], [0, 3]), ([], []), ([], []), ([5, 6], [5, 6]), ([4, 4, 0, 1, 2, 3, 4], [0, 4]), ([7, 8, 0, 1, 2, 3, 4, 5, 6, 7, 8], [5, 7])])
def repertoire_Decode.B6 : List Nat := [0, 0, 2, 6, 15, 0, 0, 96, 31, 511]
theorem repertoire_Decode.tab6 : rtab .any (opsOf Tryd.f78 6) = repertoire_Decode.T6 := by kernel_rfl
theorem repertoire_Decode.bits6 : waitsOk repertoire_Decode.T6.2 repertoire_Decode.B6 = true := by kernel_rfl
set_option maxHeartbeats 8000000 in
set_option maxRecDepth 100000 in
theorem repertoire_Decode.calls (k : Nat) (a0 : ByteArray) (r1 : List Int) (r2 : Bool) (w : World) (hG : GT1 w) (h : repertoire_Decode.f k a0 = some (r1, r2)) :
    Calls Tryd.prog 78 #[.string a0] w fun e w' => ∃ v0_ : Value, e = .returned (.tuple #[v0_, .bool r2]) ∧ Kd.R (Kd.int .i64) 3 w' w.heap.size (fun _ => True) v0_ r1 ∧ Below w.heap.size w w' := by
  have HG := Aside0.mk hG
  clear hG
  have HB := Aside0.mk (Below.refl w.heap.size w)
  have H : (if 0 ≤ (a0.size : Int) then (if ((a0.size : Int) : Int).toNat ≤ 35184372088832 then (repertoire_Decode.l0 k a0 (([] : List Int))) else (none)) else (none)) = some (r1, r2) := h
  clear h
  by_cases c2 : 0 ≤ (a0.size : Int)
  · rw [if_pos c2] at H
    have c2b0 := eq_true c2
    have c2b1 : decide (0 ≤ (a0.size : Int)) = true := decide_eq_true c2
    clear c2
    by_cases c3 : ((a0.size : Int) : Int).toNat ≤ 35184372088832
    · rw [if_pos c3] at H
      have c3b0 := eq_true c3
      have c3b1 : decide (((a0.size : Int) : Int).toNat ≤ 35184372088832) = true := decide_eq_true c3
      clear c3
      obtain ⟨y391, hy391⟩ : ∃ y_ : List Int, y_ = (([] : List Int)) := ⟨_, rfl⟩
      replace H : (repertoire_Decode.l0 k a0 y391) = some (r1, r2) := by first | (rw [hy391]; with_reducible exact H) | (have H2_ := (Option.bind_some _ _).symm.trans H; rw [hy391]; with_reducible exact H2_) | (have H2_ := (Option.bind_some _ _).symm.trans H; with_reducible exact H2_) | with_reducible exact H | (rw [hy391]; exact H) | exact H
      have Ny391 := Aside0.mk hy391
      clear hy391
      have H' := Aside0.mk H
      clear H
      go_enter Tryd.func78, Tryd.ntmps78
      go_wp2_with (first | ((with_reducible refine gate_dst (N := 9) rfl ?_); refine R_make0 .i64 _ 3 rfl (N := 9) rfl 35 _ _ rfl (a0.size : Int) rfl rfl Tryd.underlying35 8 info3 (by decide) (ok := fun _ => True) trivial (of_decide_eq_true (by first | (with_reducible assumption) | assumption)) (Nat.le_trans (Nat.mul_le_mul_right _ (of_decide_eq_true (by first | (with_reducible assumption) | assumption) : (a0.size : Int).toNat ≤ 35184372088832)) (by omega)) (Below.refl _ _) (Nat.le_refl _) ?_; intro v392 w4 ho5 hb hg_ hnew_; clear hg_ hnew_; (first | rw [← Ny391.out] at ho5 | (simp only [Int.reduceToNat] at ho5; rw [← Ny391.out] at ho5)); have n0_ := Aside0.mk (Kd.R_lower ho5 (below_size (by repeat (first | (with_reducible first | exact HB.out | apply below_alloc | apply pw_below_drewN | apply below_drew1) | exact HB.out)))); have n1_ := Aside0.mk (below_step (by repeat (first | (with_reducible first | exact HB.out | apply below_alloc | apply pw_below_drewN | apply below_drew1) | exact HB.out)) hb); clear HB; have HO393 := n0_; have HB := n1_; clear n0_ n1_; clear hb ho5))
      go_loopg [0, 4] k (fun kq v0 v4 w' => ∃ (x0_1 : ByteArray) (x4_1 : List Int), v0 = .string x0_1 ∧ Aside0 (repertoire_Decode.l0 kq x0_1 x4_1 = some (r1, r2)) ∧ Aside0 (kq ≤ k) ∧ Aside0 (Kd.R (Kd.int .i64) 3 w' w.heap.size (fun _ => True) v4 x4_1) ∧ Aside0 (Below w.heap.size w w'))
      case atStart => exact ⟨(a0), (y391), (by first | rfl | (simp; done) | (simp [*]; done)), H', ⟨Nat.le_refl _⟩, ⟨by (with_reducible repeat (first | apply Kd.R_alloc | apply Kd.R_drewN | apply Kd.R_drew)); exact HO393.out⟩, ⟨by repeat (first | (with_reducible first | exact HB.out | apply below_alloc | apply pw_below_drewN | apply below_drew1) | exact HB.out)⟩⟩
      case round =>
        clear H'
        try clear c2
        try clear c2b0
        try clear c2b1
        try clear p2
        try clear c3
        try clear c3b0
        try clear c3b1
        obtain ⟨x0_1, x4_1, rfl, HA, HK1, HO_4, HB⟩ := hrel
        cases gk with
        | zero => exact absurd HA.out (by simp [repertoire_Decode.l0])
        | succ k1 =>
          have H := HA.out
          clear HA
          simp only [repertoire_Decode.l0] at H
          by_cases c6 : (x0_1.size : Int) > 0
          · rw [if_pos c6] at H
            have c6b0 : decide (0 < (x0_1.size : Int)) = true := decide_eq_true c6
            have c6b1 : decide (0 < x0_1.size) = true := decide_eq_true (by omega)
            clear c6
            replace H := Option.bind_eq_some_iff.mp H
            obtain ⟨⟨t394, t395⟩, A70, H⟩ := H
            replace H : (if t394 = 65533 then (some (([] : List Int), false)) else ((repertoire_Has.f k1 (wrap64 (t394))).bind fun t396 => (if t396 = true then (if x4_1.length < 17592186044416 then (if 0 ≤ t395 then (if t395 ≤ (x0_1.size : Int) then (repertoire_Decode.l0 k1 (x0_1.extract (t395 : Int).toNat x0_1.size) (x4_1 ++ [wrap64 (t394)])) else (none)) else (none)) else (none)) else (some (([] : List Int), false))))) = some (r1, r2) := H
            have A7 := Aside0.mk A70
            clear A70
            by_cases c8 : t394 = 65533
            · rw [if_pos c8] at H
              have c8b0 : (t394 == 65533) = true := beq_iff_eq.mpr c8
              have c8b1 : (t394 != 65533) = false := bne_eq_false_iff_eq.mpr c8
              clear c8
              simp only [Option.some.injEq, Prod.mk.injEq] at H
              obtain ⟨rfl, rfl⟩ := H
              go_wp2_with (first | ((with_reducible refine gate_callee (f := 79) rfl ?_); refine goesL_ (some 15) rfl rfl Tryd.func79 (by kernel_rfl) rfl #[.string x0_1] rfl (by (try simp only [List.map_toArray, List.map_cons, List.map_nil]); first | done | rfl | (simp only [List.length_drop, List.length_take]; rfl)) ?_; (with_reducible refine (utf8_DecodeRuneInString.calls x0_1 t394 t395 _ ?side1 A7.out).mono ?_); (case side1 => exact GT1.below (HG.out) (by repeat (first | (with_reducible first | exact HB.out | apply below_alloc | apply pw_below_drewN | apply below_drew1) | exact HB.out))); rintro e w9 ⟨rfl, hb⟩; refine ⟨_, rfl, ?_⟩; have n0_ := Aside0.mk (Kd.R_below (by (with_reducible repeat (first | apply Kd.R_alloc | apply Kd.R_drewN | apply Kd.R_drew)); exact HO_4.out) hb); have n1_ := Aside0.mk (below_step (by repeat (first | (with_reducible first | exact HB.out | apply below_alloc | apply pw_below_drewN | apply below_drew1) | exact HB.out)) hb); clear HO_4; clear HB; have HO_4 := n0_; have HB := n1_; clear n0_ n1_; (try clear hb); (try clear hb2); (try clear hk); (try clear hi)))
              go_ret2
              exact ⟨_, by first | rfl | (simp [errW_none, errW_some] <;> rfl) | (simp [*, errW_none, errW_some] <;> rfl), by first | exact Kd.R_nil _ _ _ _ _ | exact Kd.N_nil _ _ _ _ _ | exact Kd.V_nil _ _ _ _ _ | exact Kd.Q_nil _ _ _ _ _ | exact Kd.S_nil _ _ _ _ _, by repeat (first | (with_reducible first | exact HB.out | apply below_alloc | apply pw_below_drewN | apply below_drew1) | exact HB.out)⟩
            · rw [if_neg c8] at H
              have c8b0 : (t394 == 65533) = false := beq_eq_false_iff_ne.mpr c8
              have c8b1 : (t394 != 65533) = true := bne_iff_ne.mpr c8
              replace H := Option.bind_eq_some_iff.mp H
              obtain ⟨t396, A100, H⟩ := H
              replace H : (if t396 = true then (if x4_1.length < 17592186044416 then (if 0 ≤ t395 then (if t395 ≤ (x0_1.size : Int) then (repertoire_Decode.l0 k1 (x0_1.extract (t395 : Int).toNat x0_1.size) (x4_1 ++ [wrap64 (t394)])) else (none)) else (none)) else (none)) else (some (([] : List Int), false))) = some (r1, r2) := H
              have A10 := Aside0.mk A100
              clear A100
              by_cases c11 : t396 = true
              · subst c11
                have H1 : (if x4_1.length < 17592186044416 then (if 0 ≤ t395 then (if t395 ≤ (x0_1.size : Int) then (repertoire_Decode.l0 k1 (x0_1.extract (t395 : Int).toNat x0_1.size) (x4_1 ++ [wrap64 (t394)])) else (none)) else (none)) else (none)) = some (r1, r2) := by rw [if_pos rfl] at H; exact H
                clear H
                have H := H1
                clear H1
                by_cases c12 : x4_1.length < 17592186044416
                · rw [if_pos c12] at H
                  have LMc12 := Aside0.mk c12
                  clear c12
                  obtain ⟨y397, hy397⟩ : ∃ y_ : List Int, y_ = (x4_1 ++ [wrap64 (t394)]) := ⟨_, rfl⟩
                  replace H : (if 0 ≤ t395 then (if t395 ≤ (x0_1.size : Int) then (repertoire_Decode.l0 k1 (x0_1.extract (t395 : Int).toNat x0_1.size) y397) else (none)) else (none)) = some (r1, r2) := by first | (rw [hy397]; with_reducible exact H) | (have H2_ := (Option.bind_some _ _).symm.trans H; rw [hy397]; with_reducible exact H2_) | (have H2_ := (Option.bind_some _ _).symm.trans H; with_reducible exact H2_) | with_reducible exact H | (rw [hy397]; exact H) | exact H
                  have Ny397 := Aside0.mk hy397
                  clear hy397
                  by_cases c13 : 0 ≤ t395
                  · rw [if_pos c13] at H
                    have c13b0 := eq_true c13
                    have c13b1 : decide (0 ≤ t395) = true := decide_eq_true c13
                    clear c13
                    by_cases c14 : t395 ≤ (x0_1.size : Int)
                    · rw [if_pos c14] at H
                      have c14b0 := eq_true c14
                      have c14b1 : decide (t395 ≤ (x0_1.size : Int)) = true := decide_eq_true c14
                      clear c14
                      have H' := Aside0.mk H
                      clear H
                      try go_wp2_with (first | ((with_reducible refine gate_callee (f := 79) rfl ?_); refine goesL_ (some 15) rfl rfl Tryd.func79 (by kernel_rfl) rfl #[.string x0_1] rfl (by (try simp only [List.map_toArray, List.map_cons, List.map_nil]); first | done | rfl | (simp only [List.length_drop, List.length_take]; rfl)) ?_; (with_reducible refine (utf8_DecodeRuneInString.calls x0_1 t394 t395 _ ?side1 A7.out).mono ?_); (case side1 => exact GT1.below (HG.out) (by repeat (first | (with_reducible first | exact HB.out | apply below_alloc | apply pw_below_drewN | apply below_drew1) | exact HB.out))); rintro e w15 ⟨rfl, hb⟩; refine ⟨_, rfl, ?_⟩; have n0_ := Aside0.mk (Kd.R_below (by (with_reducible repeat (first | apply Kd.R_alloc | apply Kd.R_drewN | apply Kd.R_drew)); exact HO_4.out) hb); have n1_ := Aside0.mk (below_step (by repeat (first | (with_reducible first | exact HB.out | apply below_alloc | apply pw_below_drewN | apply below_drew1) | exact HB.out)) hb); clear HO_4; clear HB; have HO_4 := n0_; have HB := n1_; clear n0_ n1_; (try clear hb); (try clear hb2); (try clear hk); (try clear hi)) | (go_at_call 95; (with_reducible refine (repertoire_Has.calls k1 (wrap64 (t394)) true _ A10.out).mono ?_); rintro e w' ⟨rfl, ⟨nd, rfl⟩⟩))
                      (try (rw [drewN_self w15]; generalize hq_ : World.drewN w15 _ = w15; have n0_ : Aside0 (Kd.R (Kd.int .i64) 3 w15 w.heap.size (fun _ => True) u4 x4_1) := ⟨by rw [← hq_]; exact (by (with_reducible repeat (first | apply Kd.R_alloc | apply Kd.R_drewN | apply Kd.R_drew)); exact HO_4.out)⟩; have n1_ : Aside0 (Below w.heap.size w w15) := ⟨by rw [← hq_]; exact (by repeat (first | (with_reducible first | exact HB.out | apply below_alloc | apply pw_below_drewN | apply below_drew1) | exact HB.out))⟩; clear HO_4 HB hq_; have HO_4 := n0_; have HB := n1_; clear n0_ n1_))
                      have n0_ := Aside0.mk (Kd.R_drew HO_4.out)
                      have n1_ := Aside0.mk (below_drew1 HB.out)
                      clear HO_4
                      clear HB
                      have HO_4 := n0_
                      have HB := n1_
                      clear n0_ n1_
                      refine start_ (n := 10) (S := fun w' => True) (ds := []) #[false, false, false, false, false, false, false, false, false, false] (by kernel_rfl) rfl rfl trivial (fun hHeld => ?_); refine with_tabW repertoire_Decode.tab6 repertoire_Decode.bits6 (fun HT_ HW_ => ?_)
                      generalize w15.drew = w16 at HO_4 HB hHeld ⊢
                      refine pure_ (i := 0) (N := some 26) (v := ?_) (a' := ?_) #[true, false, false, false, false, false, false, false, false, false] rfl rfl (any_of HT_.out (by kernel_rfl)) (fun _ _ _ h => h) (Or.inl ⟨by rfl, ?_⟩) ?_ ?_
                      rotate_left
                      · intro w'
                        go_simp
                        with_reducible rfl
                      rotate_left
                      · simp only [Act.put, List.setIfInBounds_toArray, List.set_cons_zero, List.set_cons_succ, i64_w, i32_w]
                        rfl
                      refine pure_ (i := 1) (N := some 27) (v := ?_) (a' := ?_) #[true, true, false, false, false, false, false, false, false, false] rfl rfl (any_of HT_.out (by kernel_rfl)) (fun _ _ _ h => h) (Or.inl ⟨by rfl, ?_⟩) ?_ ?_
                      rotate_left
                      · intro w'
                        go_simp
                        with_reducible rfl
                      rotate_left
                      · simp only [Act.put, List.setIfInBounds_toArray, List.set_cons_zero, List.set_cons_succ, i64_w, i32_w]
                        rfl
                      refine pure_ (i := 2) (N := some 28) (v := ?_) (a' := ?_) #[true, true, true, false, false, false, false, false, false, false] rfl rfl (any_of HT_.out (by kernel_rfl)) (fun _ _ _ h => h) (Or.inl ⟨by rfl, ?_⟩) ?_ ?_
                      rotate_left
                      · intro w'
                        go_simp
                        with_reducible rfl
                      rotate_left
                      · simp only [Act.put, List.setIfInBounds_toArray, List.set_cons_zero, List.set_cons_succ, i64_w, i32_w]
                        rfl
                      refine pure_ (i := 5) (N := some 31) (v := ?_) (a' := ?_) #[true, true, true, false, false, true, false, false, false, false] rfl rfl (any_of HT_.out (by kernel_rfl)) (fun _ _ _ h => h) (Or.inl ⟨by rfl, ?_⟩) ?_ ?_
                      rotate_left
                      · intro w'
                        go_simp
                        with_reducible rfl
                      rotate_left
                      · simp only [Act.put, List.setIfInBounds_toArray, List.set_cons_zero, List.set_cons_succ, i64_w, i32_w]
                        rfl
                      refine pure_ (i := 6) (N := some 32) (v := ?_) (a' := ?_) #[true, true, true, false, false, true, true, false, false, false] rfl rfl (any_of HT_.out (by kernel_rfl)) (fun _ _ _ h => h) (Or.inl ⟨by rfl, ?_⟩) ?_ ?_
                      rotate_left
                      · intro w'
                        go_simp
                        with_reducible rfl
                      rotate_left
                      · simp only [Act.put, List.setIfInBounds_toArray, List.set_cons_zero, List.set_cons_succ, i64_w, i32_w]
                        rfl
                      refine pure_ (i := 7) (N := some 33) (v := ?_) (a' := ?_) #[true, true, true, false, false, true, true, true, false, false] rfl rfl (any_of HT_.out (by kernel_rfl)) (fun _ _ _ h => h) (Or.inl ⟨by rfl, ?_⟩) ?_ ?_
                      rotate_left
                      · intro w'
                        go_simp
                        with_reducible rfl
                      rotate_left
                      · simp only [Act.put, List.setIfInBounds_toArray, List.set_cons_zero, List.set_cons_succ, i64_w, i32_w]
                        rfl
                      refine one_ (i := 3) (N := some 29) #[true, true, true, true, false, true, true, true, false, false] rfl rfl (one_of HT_.out (by kernel_rfl)) (by decide) (fun K hK => ?_)
                      refine value_ (w1 := ?_) (v := ?_) (by rfl) rfl ?_ ?_
                      rotate_left 2
                      · go_simp
                        constructor
                        · rfl
                        · rfl
                      refine hK.out _ _ trivial (fun hHeld => ?_)
                      clear hK K
                      refine norm_ (a' := ?_) ?_ ?_
                      rotate_left
                      · show Act.put _ (some 29) _ = _
                        simp only [Act.put, List.setIfInBounds_toArray, List.set_cons_zero, List.set_cons_succ, i64_w, i32_w]
                        rfl
                      refine one_ (i := 4) (N := some 30) #[true, true, true, true, true, true, true, true, false, false] rfl rfl (one_of HT_.out (by kernel_rfl)) (by decide) (fun K hK => ?_)
                      refine Kd.R_append_step (Kd.int .i64) (w0 := w) w.heap.size (by rfl) (.tmp 26) (.tmp 29) 35 3 (.int .i64 0) 8 rfl Tryd.underlying35 info3 rfl (by decide) (by omega) u4 x4_1 (wrap64 (t394)) [.int .i64 (wrap64 (t394))] (fun _ => True) (fun _ => False) rfl rfl ?aP (fun _ hk => hk.elim) ?aF ?aO ?aB ?aS ?aL ?_
                      (case aP => exact rfl)
                      (case aB => exact (by repeat (first | (with_reducible first | exact HB.out | apply below_alloc | apply pw_below_drewN | apply below_drew1) | exact HB.out)))
                      (case aF => exact (fun _ _ => trivial))
                      (case aO => exact (by (with_reducible repeat (first | apply Kd.R_alloc | apply Kd.R_drewN | apply Kd.R_drew)); exact HO_4.out))
                      (case aS => exact (below_size (by repeat (first | (with_reducible first | exact HB.out | apply below_alloc | apply pw_below_drewN | apply below_drew1) | exact HB.out))))
                      (case aL => have := LMc12.out; omega)
                      intro v398 w17 ho hb hg hat
                      rw [← Ny397.out] at ho
                      have n0_ := Aside0.mk (hb)
                      have n1_ := Aside0.mk (ho)
                      clear HB
                      clear HO_4
                      have HB := n0_
                      have HO399 := n1_
                      clear n0_ n1_
                      clear ho hb hg hat
                      refine hK.out _ _ trivial (fun hHeld => ?_)
                      clear hK K
                      refine norm_ (a' := ?_) ?_ ?_
                      rotate_left
                      · show Act.put _ (some 30) _ = _
                        simp only [Act.put, List.setIfInBounds_toArray, List.set_cons_zero, List.set_cons_succ, i64_w, i32_w]
                        rfl
                      refine pure_ (i := 8) (N := some 4) (v := ?_) (a' := ?_) #[true, true, true, true, true, true, true, true, true, false] rfl rfl (any_of HT_.out (by kernel_rfl)) (fun _ _ _ h => h) (Or.inl ⟨by rfl, ?_⟩) ?_ ?_
                      rotate_left
                      · intro w'
                        go_simp
                        with_reducible rfl
                      rotate_left
                      · simp only [Act.put, List.setIfInBounds_toArray, List.set_cons_zero, List.set_cons_succ, i64_w, i32_w]
                        rfl
                      refine pure_ (i := 9) (N := some 0) (v := ?_) (a' := ?_) #[true, true, true, true, true, true, true, true, true, true] rfl rfl (any_of HT_.out (by kernel_rfl)) (fun _ _ _ h => h) (Or.inl ⟨by rfl, ?_⟩) ?_ ?_
                      rotate_left
                      · intro w'
                        go_simp
                        with_reducible rfl
                      rotate_left
                      · simp only [Act.put, List.setIfInBounds_toArray, List.set_cons_zero, List.set_cons_succ, i64_w, i32_w]
                        rfl
                      refine done_ (done_of HT_.out (by kernel_rfl)) ?_
                      try go_wp2
                      go_roundg k1
                      case measure => have := HK1.out; omega
                      case rel => exact ⟨(x0_1.extract (t395 : Int).toNat x0_1.size), (y397), (by first | rfl | (simp; done) | (simp [*]; done)), H', ⟨by have := HK1.out; omega⟩, ⟨by (with_reducible repeat (first | apply Kd.R_alloc | apply Kd.R_drewN | apply Kd.R_drew)); exact HO399.out⟩, ⟨by repeat (first | (with_reducible first | exact HB.out | apply below_alloc | apply pw_below_drewN | apply below_drew1) | exact HB.out)⟩⟩
                    · rw [if_neg c14] at H
                      exact absurd H (by simp)
                  · rw [if_neg c13] at H
                    exact absurd H (by simp)
                · rw [if_neg c12] at H
                  exact absurd H (by simp)
              · replace c11 := Bool.eq_false_iff.mpr c11
                subst c11
                have H1 : (some (([] : List Int), false)) = some (r1, r2) := by rw [if_neg (show ¬ (false = true) by decide)] at H; exact H
                clear H
                have H := H1
                clear H1
                simp only [Option.some.injEq, Prod.mk.injEq] at H
                obtain ⟨rfl, rfl⟩ := H
                go_wp2_with (first | ((with_reducible refine gate_callee (f := 79) rfl ?_); refine goesL_ (some 15) rfl rfl Tryd.func79 (by kernel_rfl) rfl #[.string x0_1] rfl (by (try simp only [List.map_toArray, List.map_cons, List.map_nil]); first | done | rfl | (simp only [List.length_drop, List.length_take]; rfl)) ?_; (with_reducible refine (utf8_DecodeRuneInString.calls x0_1 t394 t395 _ ?side1 A7.out).mono ?_); (case side1 => exact GT1.below (HG.out) (by repeat (first | (with_reducible first | exact HB.out | apply below_alloc | apply pw_below_drewN | apply below_drew1) | exact HB.out))); rintro e w18 ⟨rfl, hb⟩; refine ⟨_, rfl, ?_⟩; have n0_ := Aside0.mk (Kd.R_below (by (with_reducible repeat (first | apply Kd.R_alloc | apply Kd.R_drewN | apply Kd.R_drew)); exact HO_4.out) hb); have n1_ := Aside0.mk (below_step (by repeat (first | (with_reducible first | exact HB.out | apply below_alloc | apply pw_below_drewN | apply below_drew1) | exact HB.out)) hb); clear HO_4; clear HB; have HO_4 := n0_; have HB := n1_; clear n0_ n1_; (try clear hb); (try clear hb2); (try clear hk); (try clear hi)) | (go_at_call 95; (with_reducible refine (repertoire_Has.calls k1 (wrap64 (t394)) false _ A10.out).mono ?_); rintro e w' ⟨rfl, ⟨nd, rfl⟩⟩))
                go_ret2
                exact ⟨_, by first | rfl | (simp [errW_none, errW_some] <;> rfl) | (simp [*, errW_none, errW_some] <;> rfl), by first | exact Kd.R_nil _ _ _ _ _ | exact Kd.N_nil _ _ _ _ _ | exact Kd.V_nil _ _ _ _ _ | exact Kd.Q_nil _ _ _ _ _ | exact Kd.S_nil _ _ _ _ _, by repeat (first | (with_reducible first | exact HB.out | apply below_alloc | apply pw_below_drewN | apply below_drew1) | exact HB.out)⟩
          · rw [if_neg c6] at H
            have c6b0 : decide (0 < (x0_1.size : Int)) = false := decide_eq_false c6
            have c6b1 : decide (0 < x0_1.size) = false := decide_eq_false (by omega)
            clear c6
            simp only [Option.some.injEq, Prod.mk.injEq] at H
            obtain ⟨rfl, rfl⟩ := H
            go_wp2
            go_ret2
            exact ⟨_, by first | rfl | (simp [errW_none, errW_some] <;> rfl) | (simp [*, errW_none, errW_some] <;> rfl), by (with_reducible repeat (first | apply Kd.R_alloc | apply Kd.R_drewN | apply Kd.R_drew)); exact HO_4.out, by repeat (first | (with_reducible first | exact HB.out | apply below_alloc | apply pw_below_drewN | apply below_drew1) | exact HB.out)⟩
    · rw [if_neg c3] at H
      exact absurd H (by simp)
  · rw [if_neg c2] at H
    exact absurd H (by simp)
def repertoire_Count.f (k : Nat) (a0 : ByteArray) : Option (Int) := (repertoire_Decode.f k a0).bind fun bt400 => (some (bt400.1.length : Int))
set_option maxHeartbeats 8000000 in
set_option maxRecDepth 100000 in
theorem repertoire_Count.calls (k : Nat) (a0 : ByteArray) (r : Int) (w : World) (hG : GT1 w) (h : repertoire_Count.f k a0 = some r) :
    Calls Tryd.prog 76 #[.string a0] w fun e w' => e = .returned (.int .i64 r) ∧ Below w.heap.size w w' := by
  have HG := Aside0.mk hG
  clear hG
  have HB := Aside0.mk (Below.refl w.heap.size w)
  have H : ((repertoire_Decode.f k a0).bind fun bt400 => (some (bt400.1.length : Int))) = some r := h
  clear h
  replace H := Option.bind_eq_some_iff.mp H
  obtain ⟨⟨t400, t401⟩, A20, H⟩ := H
  replace H : (some (t400.length : Int)) = some r := H
  have A2 := Aside0.mk A20
  clear A20
  obtain rfl := Option.some.inj H
  go_enter Tryd.func76, Tryd.ntmps76
  go_wp2_with (first | ((with_reducible refine gate_callee (f := 78) rfl ?_); refine goesL_ (some 7) rfl rfl Tryd.func78 (by kernel_rfl) rfl #[.string a0] rfl (by (try simp only [List.map_toArray, List.map_cons, List.map_nil]); first | done | rfl | (simp only [List.length_drop, List.length_take]; rfl)) ?_; (with_reducible refine (repertoire_Decode.calls k a0 t400 t401 _ ?side1 A2.out).mono ?_); (case side1 => exact GT1.below (HG.out) (by repeat (first | (with_reducible first | exact HB.out | apply below_alloc | apply pw_below_drewN | apply below_drew1) | exact HB.out))); rintro e w3 ⟨v402, rfl, ho0, hb⟩; refine ⟨_, rfl, ?_⟩; have n0_ := Aside0.mk (Kd.R_lower ho0 (below_size (by repeat (first | (with_reducible first | exact HB.out | apply below_alloc | apply pw_below_drewN | apply below_drew1) | exact HB.out)))); have n1_ := Aside0.mk (below_step (by repeat (first | (with_reducible first | exact HB.out | apply below_alloc | apply pw_below_drewN | apply below_drew1) | exact HB.out)) hb); clear HB; have HO403 := n0_; have HB := n1_; clear n0_ n1_; (try clear hb); (try clear hb2); (try clear hk); (try clear hi); (try clear ho0); obtain ⟨Ao4, co4, eo4⟩ := Kd.R_slice HO403.out; subst eo4))
  go_ret
  exact ⟨by first | rfl | (simp [errW_none, errW_some] <;> rfl) | (simp [*, errW_none, errW_some] <;> rfl), by repeat (first | (with_reducible first | exact HB.out | apply below_alloc | apply pw_below_drewN | apply below_drew1) | exact HB.out)⟩
def translit_part.f (k : Nat) (a0 : ByteArray) : Option (Bool) := (repertoire_Count.f k a0).bind fun t404 => (if t404 ≥ 1 then (some (decide (t404 ≤ 6))) else (some false))
set_option maxHeartbeats 8000000 in
set_option maxRecDepth 100000 in
theorem translit_part.calls (k : Nat) (a0 : ByteArray) (r : Bool) (w : World) (hG : GT1 w) (h : translit_part.f k a0 = some r) :
    Calls Tryd.prog 52 #[.string a0] w fun e w' => e = .returned (.bool r) ∧ Below w.heap.size w w' := by
  have HG := Aside0.mk hG
  clear hG
  have HB := Aside0.mk (Below.refl w.heap.size w)
  have H : ((repertoire_Count.f k a0).bind fun t404 => (if t404 ≥ 1 then (some (decide (t404 ≤ 6))) else (some false))) = some r := h
  clear h
  replace H := Option.bind_eq_some_iff.mp H
  obtain ⟨t404, A20, H⟩ := H
  replace H : (if t404 ≥ 1 then (some (decide (t404 ≤ 6))) else (some false)) = some r := H
  have A2 := Aside0.mk A20
  clear A20
  by_cases c3 : t404 ≥ 1
  · rw [if_pos c3] at H
    have c3b0 : decide (1 ≤ t404) = true := decide_eq_true c3
    clear c3
    obtain rfl := Option.some.inj H
    go_enter Tryd.func52, Tryd.ntmps52
    go_wp2_with (first | ((with_reducible refine gate_callee (f := 76) rfl ?_); refine goesL_ (some 5) rfl rfl Tryd.func76 (by kernel_rfl) rfl #[.string a0] rfl (by (try simp only [List.map_toArray, List.map_cons, List.map_nil]); first | done | rfl | (simp only [List.length_drop, List.length_take]; rfl)) ?_; (with_reducible refine (repertoire_Count.calls k a0 t404 _ ?side1 A2.out).mono ?_); (case side1 => exact GT1.below (HG.out) (by repeat (first | (with_reducible first | exact HB.out | apply below_alloc | apply pw_below_drewN | apply below_drew1) | exact HB.out))); rintro e w4 ⟨rfl, hb⟩; refine ⟨_, rfl, ?_⟩; have n0_ := Aside0.mk (below_step (by repeat (first | (with_reducible first | exact HB.out | apply below_alloc | apply pw_below_drewN | apply below_drew1) | exact HB.out)) hb); clear HB; have HB := n0_; clear n0_; (try clear hb); (try clear hb2); (try clear hk); (try clear hi)))
    go_ret
    exact ⟨by first | rfl | (simp [errW_none, errW_some] <;> rfl) | (simp [*, errW_none, errW_some] <;> rfl), by repeat (first | (with_reducible first | exact HB.out | apply below_alloc | apply pw_below_drewN | apply below_drew1) | exact HB.out)⟩
  · rw [if_neg c3] at H
    have c3b0 : decide (1 ≤ t404) = false := decide_eq_false c3
    clear c3
    obtain rfl := Option.some.inj H
    go_enter Tryd.func52, Tryd.ntmps52
    go_wp2_with (first | ((with_reducible refine gate_callee (f := 76) rfl ?_); refine goesL_ (some 5) rfl rfl Tryd.func76 (by kernel_rfl) rfl #[.string a0] rfl (by (try simp only [List.map_toArray, List.map_cons, List.map_nil]); first | done | rfl | (simp only [List.length_drop, List.length_take]; rfl)) ?_; (with_reducible refine (repertoire_Count.calls k a0 t404 _ ?side1 A2.out).mono ?_); (case side1 => exact GT1.below (HG.out) (by repeat (first | (with_reducible first | exact HB.out | apply below_alloc | apply pw_below_drewN | apply below_drew1) | exact HB.out))); rintro e w5 ⟨rfl, hb⟩; refine ⟨_, rfl, ?_⟩; have n0_ := Aside0.mk (below_step (by repeat (first | (with_reducible first | exact HB.out | apply below_alloc | apply pw_below_drewN | apply below_drew1) | exact HB.out)) hb); clear HB; have HB := n0_; clear n0_; (try clear hb); (try clear hb2); (try clear hk); (try clear hi)))
    go_ret
    exact ⟨by first | rfl | (simp [errW_none, errW_some] <;> rfl) | (simp [*, errW_none, errW_some] <;> rfl), by repeat (first | (with_reducible first | exact HB.out | apply below_alloc | apply pw_below_drewN | apply below_drew1) | exact HB.out)⟩
def translit_encoded.f (k : Nat) (a0 : ByteArray) : Option (Bool) := (repertoire_Decode.f k a0).bind fun bt405 => (some bt405.2)
set_option maxHeartbeats 8000000 in
set_option maxRecDepth 100000 in
theorem translit_encoded.calls (k : Nat) (a0 : ByteArray) (r : Bool) (w : World) (hG : GT1 w) (h : translit_encoded.f k a0 = some r) :
    Calls Tryd.prog 56 #[.string a0] w fun e w' => e = .returned (.bool r) ∧ Below w.heap.size w w' := by
  have HG := Aside0.mk hG
  clear hG
  have HB := Aside0.mk (Below.refl w.heap.size w)
  have H : ((repertoire_Decode.f k a0).bind fun bt405 => (some bt405.2)) = some r := h
  clear h
  replace H := Option.bind_eq_some_iff.mp H
  obtain ⟨⟨t405, t406⟩, A20, H⟩ := H
  replace H : (some t406) = some r := H
  have A2 := Aside0.mk A20
  clear A20
  obtain rfl := Option.some.inj H
  go_enter Tryd.func56, Tryd.ntmps56
  go_wp2_with (first | ((with_reducible refine gate_callee (f := 78) rfl ?_); refine goesL_ (some 7) rfl rfl Tryd.func78 (by kernel_rfl) rfl #[.string a0] rfl (by (try simp only [List.map_toArray, List.map_cons, List.map_nil]); first | done | rfl | (simp only [List.length_drop, List.length_take]; rfl)) ?_; (with_reducible refine (repertoire_Decode.calls k a0 t405 t406 _ ?side1 A2.out).mono ?_); (case side1 => exact GT1.below (HG.out) (by repeat (first | (with_reducible first | exact HB.out | apply below_alloc | apply pw_below_drewN | apply below_drew1) | exact HB.out))); rintro e w3 ⟨v407, rfl, ho0, hb⟩; refine ⟨_, rfl, ?_⟩; have n0_ := Aside0.mk (Kd.R_lower ho0 (below_size (by repeat (first | (with_reducible first | exact HB.out | apply below_alloc | apply pw_below_drewN | apply below_drew1) | exact HB.out)))); have n1_ := Aside0.mk (below_step (by repeat (first | (with_reducible first | exact HB.out | apply below_alloc | apply pw_below_drewN | apply below_drew1) | exact HB.out)) hb); clear HB; have HO408 := n0_; have HB := n1_; clear n0_ n1_; (try clear hb); (try clear hb2); (try clear hk); (try clear hi); (try clear ho0)))
  go_ret
  exact ⟨by first | rfl | (simp [errW_none, errW_some] <;> rfl) | (simp [*, errW_none, errW_some] <;> rfl), by repeat (first | (with_reducible first | exact HB.out | apply below_alloc | apply pw_below_drewN | apply below_drew1) | exact HB.out)⟩
def translit_table.l0 : Nat → List ByteArray → List (S41) → Int → Option ((List (S41)))
  | 0, _, _, _ => none
  | k + 1, x3, x4, x5 => if (wrap64 (x5 + 1)) < (x3.length : Int) then (if 0 ≤ x5 then (if x5 < (x3.length : Int) then (if 0 ≤ (wrap64 (x5 + 1)) then (if x4.length < 4398046511104 then (translit_table.l0 k x3 (x4 ++ [(⟨rdOf ByteArray.empty x3 x5, rdOf ByteArray.empty x3 (wrap64 (x5 + 1))⟩ : S41)]) (wrap64 (x5 + 2))) else (none)) else (none)) else (none)) else (none)) else (some x4)
def translit_table.f (k : Nat) (a0 : ByteArray) : Option ((List (S41))) := (strings_Fields.f a0).bind fun t409 => (translit_table.l0 k t409 ([] : List (S41)) 0)
theorem translit_table.mono_l : ∀ k, (∀ y0 y1 y2, LeO (translit_table.l0 k y0 y1 y2) (translit_table.l0 (k + 1) y0 y1 y2))
  | 0 => fun _ _ _ r h => by simp [translit_table.l0] at h
  | k + 1 => by
    have ih0 := translit_table.mono_l k
    · intro y0 y1 y2
      unfold translit_table.l0
      repeat' first
      | (with_reducible exact ih0 _ _ _)
      | (with_reducible exact LeO.refl _)
      | (with_reducible exact LeO.none _)
      | (with_reducible refine LeO.ite ?_ ?_)
      | (with_reducible refine LeO.bind ?_ (fun _ => ?_))
      | exact ih0 _ _ _
      | exact LeO.none _
      | refine LeO.ite ?_ ?_
      | refine LeO.bind ?_ (fun _ => ?_)
theorem translit_table.mono : ∀ a0 k, LeO (translit_table.f k a0) (translit_table.f (k + 1) a0) := by
  intro a0 k
  have ih0 := translit_table.mono_l k
  unfold translit_table.f
  repeat' first
      | (with_reducible exact ih0 _ _ _)
      | (with_reducible exact LeO.refl _)
      | (with_reducible exact LeO.none _)
      | (with_reducible refine LeO.ite ?_ ?_)
      | (with_reducible refine LeO.bind ?_ (fun _ => ?_))
      | exact ih0 _ _ _
      | exact LeO.none _
      | refine LeO.ite ?_ ?_
      | refine LeO.bind ?_ (fun _ => ?_)
def translit_table.T6 : Bool × List (List Nat × List Nat) := (true, [([], []), ([], []), ([], []), ([1, 2], [1, 2]), ([3], [3]), ([], []), ([], []), ([6], [6]), ([5, 7], [5, 7]), ([8], [8]), ([4, 9], [4, 9]), ([10], [10]), ([0, 11], [0, 11]), ([12, 12, 0, 1, 2, 3, 4, 5, 6, 7, 8, 9, 10, 11, 12], [0, 12])])
def translit_table.B6 : List Nat := [0, 0, 0, 6, 14, 0, 0, 64, 224, 480, 1022, 2046, 4095, 8191]
theorem translit_table.tab6 : rtab .any (opsOf Tryd.f62 6) = translit_table.T6 := by kernel_rfl
theorem translit_table.bits6 : waitsOk translit_table.T6.2 translit_table.B6 = true := by kernel_rfl
set_option maxHeartbeats 8000000 in
set_option maxRecDepth 100000 in
theorem translit_table.calls (k : Nat) (a0 : ByteArray) (r : List (S41)) (w : World) (hG : GT2 w) (h : translit_table.f k a0 = some r) :
    Calls Tryd.prog 62 #[.string a0] w fun e w' => ∃ v0_ : Value, e = .returned (v0_) ∧ Kd.R k41 41 w' w.heap.size (fun _ => True) v0_ r ∧ Below w.heap.size w w' := by
  have HG := Aside0.mk hG
  clear hG
  have hu41 := Tryd.underlying41
  have HB := Aside0.mk (Below.refl w.heap.size w)
  have H : ((strings_Fields.f a0).bind fun t409 => (translit_table.l0 k t409 ([] : List (S41)) 0)) = some r := h
  clear h
  replace H := Option.bind_eq_some_iff.mp H
  obtain ⟨t409, A20, H⟩ := H
  replace H : (translit_table.l0 k t409 ([] : List (S41)) 0) = some r := H
  have A2 := Aside0.mk A20
  clear A20
  have H' := Aside0.mk H
  clear H
  go_enter Tryd.func62, Tryd.ntmps62
  go_wp2_with (first | ((with_reducible refine gate_callee (f := 82) rfl ?_); refine goesL_ (some 7) rfl rfl Tryd.func82 (by kernel_rfl) rfl #[.string a0] rfl (by (try simp only [List.map_toArray, List.map_cons, List.map_nil]); first | done | rfl | (simp only [List.length_drop, List.length_take]; rfl)) ?_; (with_reducible refine (strings_Fields.calls a0 t409 _ ?side1 A2.out).mono ?_); (case side1 => exact GT2.below (HG.out) (by repeat (first | (with_reducible first | exact HB.out | apply below_alloc | apply pw_below_drewN | apply below_drew1) | exact HB.out))); rintro e w3 ⟨v410, rfl, ho0, hb⟩; refine ⟨_, rfl, ?_⟩; have n0_ := Aside0.mk (Kd.R_lower ho0 (below_size (by repeat (first | (with_reducible first | exact HB.out | apply below_alloc | apply pw_below_drewN | apply below_drew1) | exact HB.out)))); have n1_ := Aside0.mk (below_step (by repeat (first | (with_reducible first | exact HB.out | apply below_alloc | apply pw_below_drewN | apply below_drew1) | exact HB.out)) hb); clear HB; have HO411 := n0_; have HB := n1_; clear n0_ n1_; (try clear hb); (try clear hb2); (try clear hk); (try clear hi); (try clear ho0)))
  go_loopg [4, 5] k (fun kq v4 v5 w' => ∃ (x4_1 : List (S41)) (x5_1 : Int), v5 = .int .i64 x5_1 ∧ Aside0 (translit_table.l0 kq t409 x4_1 x5_1 = some r) ∧ Aside0 (kq ≤ k) ∧ Aside0 (Kd.R Kd.string 9 w' w.heap.size (fun _ => True) v410 t409) ∧ Aside0 (Kd.R k41 41 w' w.heap.size (fun _ => True) v4 x4_1) ∧ Aside0 (Below w.heap.size w w'))
  case atStart => exact ⟨(([] : List (S41))), (0), (by first | rfl | (simp; done) | (simp [*]; done)), H', ⟨Nat.le_refl _⟩, ⟨by (with_reducible repeat (first | apply Kd.R_alloc | apply Kd.R_drewN | apply Kd.R_drew)); exact HO411.out⟩, ⟨by first | exact Kd.R_nil _ _ _ _ _ | exact Kd.N_nil _ _ _ _ _ | exact Kd.V_nil _ _ _ _ _ | exact Kd.Q_nil _ _ _ _ _ | exact Kd.S_nil _ _ _ _ _⟩, ⟨by repeat (first | (with_reducible first | exact HB.out | apply below_alloc | apply pw_below_drewN | apply below_drew1) | exact HB.out)⟩⟩
  case round =>
    clear H'
    try clear p2
    obtain ⟨x4_1, x5_1, rfl, HA, HK1, HO_3, HO_4, HB⟩ := hrel
    cases gk with
    | zero => exact absurd HA.out (by simp [translit_table.l0])
    | succ k1 =>
      have H := HA.out
      clear HA
      simp only [translit_table.l0] at H
      by_cases c4 : (wrap64 (x5_1 + 1)) < (t409.length : Int)
      · rw [if_pos c4] at H
        have c4b0 : decide ((wrap64 (x5_1 + 1)) < (t409.length : Int)) = true := decide_eq_true c4
        clear c4
        by_cases c5 : 0 ≤ x5_1
        · rw [if_pos c5] at H
          have c5b0 : decide (0 ≤ x5_1) = true := decide_eq_true c5
          clear c5
          by_cases c6 : x5_1 < (t409.length : Int)
          · rw [if_pos c6] at H
            have c6b0 : decide (x5_1 < (t409.length : Int)) = true := decide_eq_true c6
            clear c6
            obtain ⟨ji7, hji7⟩ : ∃ j_ : Int, (wrap64 (x5_1 + 1)) = j_ := ⟨_, rfl⟩
            replace H : (if 0 ≤ (ji7) then (if x4_1.length < 4398046511104 then (translit_table.l0 k1 t409 (x4_1 ++ [(⟨rdOf ByteArray.empty t409 x5_1, rdOf ByteArray.empty t409 (ji7)⟩ : S41)]) (wrap64 (x5_1 + 2))) else (none)) else (none)) = some r := by first | (rw [hji7] at H; exact H) | (simp only [hji7] at H ⊢; exact H)
            (try rw [hji7] at c4b0)
            have hji7w : (IntKind.i64.wrap (x5_1 + 1)) = ji7 := (i64_w _).trans hji7
            by_cases c8 : 0 ≤ (ji7)
            · rw [if_pos c8] at H
              have c8b0 : decide (0 ≤ (ji7)) = true := decide_eq_true c8
              clear c8
              by_cases c9 : x4_1.length < 4398046511104
              · rw [if_pos c9] at H
                have LMc9 := Aside0.mk c9
                clear c9
                obtain ⟨y414, hy414⟩ : ∃ y_ : List (S41), y_ = (x4_1 ++ [(⟨rdOf ByteArray.empty t409 x5_1, rdOf ByteArray.empty t409 (ji7)⟩ : S41)]) := ⟨_, rfl⟩
                replace H : (translit_table.l0 k1 t409 y414 (wrap64 (x5_1 + 2))) = some r := by first | (rw [hy414]; with_reducible exact H) | (have H2_ := (Option.bind_some _ _).symm.trans H; rw [hy414]; with_reducible exact H2_) | (have H2_ := (Option.bind_some _ _).symm.trans H; with_reducible exact H2_) | with_reducible exact H | (rw [hy414]; exact H) | exact H
                have Ny414 := Aside0.mk hy414
                clear hy414
                have H' := Aside0.mk H
                clear H
                obtain ⟨Ao10, co10, eo10⟩ := Kd.R_slice HO_3.out
                subst eo10
                try go_wp2
                have n0_ := Aside0.mk (Kd.R_drew HO_3.out)
                have n1_ := Aside0.mk (Kd.R_drew HO_4.out)
                have n2_ := Aside0.mk (below_drew1 HB.out)
                clear HO_3
                clear HO_4
                clear HB
                have HO_3 := n0_
                have HO_4 := n1_
                have HB := n2_
                clear n0_ n1_ n2_
                have p412 : 0 ≤ (x5_1 : Int) := of_decide_eq_true (by first | (with_reducible assumption) | assumption)
                have q412 : x5_1 < (t409.length : Int) := of_decide_eq_true (by first | (with_reducible assumption) | assumption)
                obtain ⟨ad412, e412, hx412_0⟩ := Kd.at_string (Kd.R_reads' HO_3.out).2.2 x5_1 p412 q412
                cases e412
                replace p412 := eq_true p412
                replace q412 := eq_true q412
                have p413 : 0 ≤ ((ji7) : Int) := of_decide_eq_true (by first | (with_reducible assumption) | assumption)
                have q413 : (ji7) < (t409.length : Int) := of_decide_eq_true (by first | (with_reducible assumption) | assumption)
                obtain ⟨ad413, e413, hx413_0⟩ := Kd.at_string (Kd.R_reads' HO_3.out).2.2 (ji7) p413 q413
                obtain rfl : ad412 = ad413 := (by injection e413)
                replace p413 := eq_true p413
                replace q413 := eq_true q413
                refine start_ (n := 14) (S := fun w' => w'.cell? (ad412.add (x5_1).toNat) = some (.string (rdOf ByteArray.empty t409 x5_1)) ∧ w'.cell? (ad412.add ((ji7)).toNat) = some (.string (rdOf ByteArray.empty t409 (ji7)))) (ds := [11, 12]) #[false, false, false, false, false, false, false, false, false, false, false, false, false, false] (by kernel_rfl) rfl rfl ⟨hx412_0, hx413_0⟩ (fun hHeld => ?_); refine with_tabW translit_table.tab6 translit_table.bits6 (fun HT_ HW_ => ?_)
                generalize wr.drew = w11 at HO_3 HO_4 HB hx412_0 hx413_0 hHeld ⊢
                refine pure_ (i := 0) (N := some 15) (v := ?_) (a' := ?_) #[true, false, false, false, false, false, false, false, false, false, false, false, false, false] rfl rfl (any_of HT_.out (by kernel_rfl)) (fun _ _ _ h => h) (Or.inl ⟨by rfl, ?_⟩) ?_ ?_
                rotate_left
                · intro w'
                  go_simp
                  with_reducible rfl
                rotate_left
                · simp only [Act.put, List.setIfInBounds_toArray, List.set_cons_zero, List.set_cons_succ, i64_w, i32_w]
                  rfl
                refine pure_ (i := 1) (N := some 16) (v := ?_) (a' := ?_) #[true, true, false, false, false, false, false, false, false, false, false, false, false, false] rfl rfl (any_of HT_.out (by kernel_rfl)) (fun _ _ _ h => h) (Or.inl ⟨by rfl, ?_⟩) ?_ ?_
                rotate_left
                · intro w'
                  go_simp
                  with_reducible rfl
                rotate_left
                · simp only [Act.put, List.setIfInBounds_toArray, List.set_cons_zero, List.set_cons_succ, i64_w, i32_w]
                  rfl
                refine pure_ (i := 2) (N := some 17) (v := ?_) (a' := ?_) #[true, true, true, false, false, false, false, false, false, false, false, false, false, false] rfl rfl (any_of HT_.out (by kernel_rfl)) (fun _ _ _ h => h) (Or.inl ⟨by rfl, ?_⟩) ?_ ?_
                rotate_left
                · intro w'
                  go_simp
                  with_reducible rfl
                rotate_left
                · simp only [Act.put, List.setIfInBounds_toArray, List.set_cons_zero, List.set_cons_succ, i64_w, i32_w]
                  rfl
                refine pure_ (i := 3) (N := some 18) (v := ?_) (a' := ?_) #[true, true, true, true, false, false, false, false, false, false, false, false, false, false] rfl rfl (any_of HT_.out (by kernel_rfl)) (fun _ _ _ h => h) (Or.inl ⟨by rfl, ?_⟩) ?_ ?_
                rotate_left
                · intro w'
                  go_simp
                  with_reducible rfl
                rotate_left
                · simp only [Act.put, List.setIfInBounds_toArray, List.set_cons_zero, List.set_cons_succ, i64_w, i32_w]
                  rfl
                refine pure_ (i := 5) (N := some 20) (v := ?_) (a' := ?_) #[true, true, true, true, false, true, false, false, false, false, false, false, false, false] rfl rfl (any_of HT_.out (by kernel_rfl)) (fun _ _ _ h => h) (Or.inl ⟨by rfl, ?_⟩) ?_ ?_
                rotate_left
                · intro w'
                  go_simp
                  with_reducible rfl
                rotate_left
                · simp only [Act.put, List.setIfInBounds_toArray, List.set_cons_zero, List.set_cons_succ, i64_w, i32_w]
                  rfl
                refine pure_ (i := 6) (N := some 21) (v := ?_) (a' := ?_) #[true, true, true, true, false, true, true, false, false, false, false, false, false, false] rfl rfl (any_of HT_.out (by kernel_rfl)) (fun _ _ _ h => h) (Or.inl ⟨by rfl, ?_⟩) ?_ ?_
                rotate_left
                · intro w'
                  go_simp
                  with_reducible rfl
                rotate_left
                · simp only [Act.put, List.setIfInBounds_toArray, List.set_cons_zero, List.set_cons_succ, i64_w, i32_w]
                  rfl
                refine pure_ (i := 7) (N := some 22) (v := ?_) (a' := ?_) #[true, true, true, true, false, true, true, true, false, false, false, false, false, false] rfl rfl (any_of HT_.out (by kernel_rfl)) (fun _ _ _ h => h) (Or.inl ⟨by rfl, ?_⟩) ?_ ?_
                rotate_left
                · intro w'
                  go_simp
                  with_reducible rfl
                rotate_left
                · simp only [Act.put, List.setIfInBounds_toArray, List.set_cons_zero, List.set_cons_succ, i64_w, i32_w]
                  rfl
                refine pure_ (i := 8) (N := some 23) (v := ?_) (a' := ?_) #[true, true, true, true, false, true, true, true, true, false, false, false, false, false] rfl rfl (any_of HT_.out (by kernel_rfl)) (fun _ _ _ h => h) (Or.inl ⟨by rfl, ?_⟩) ?_ ?_
                rotate_left
                · intro w'
                  go_simp
                  with_reducible rfl
                rotate_left
                · simp only [Act.put, List.setIfInBounds_toArray, List.set_cons_zero, List.set_cons_succ, i64_w, i32_w]
                  rfl
                refine take_ (i := 4) (N := some 19) (v := ?_) (a' := ?_) #[true, true, true, true, true, true, true, true, true, false, false, false, false, false] rfl rfl (take_ofW HT_.out HW_.out (by kernel_rfl)) (fun _ _ _ h => h) (Or.inl ⟨by rfl, ?_⟩) hHeld ?_ ?_
                rotate_left
                · rintro w' ⟨s0, s1⟩
                  go_simp
                  with_reducible rfl
                rotate_left
                · simp only [Act.put, List.setIfInBounds_toArray, List.set_cons_zero, List.set_cons_succ, i64_w, i32_w]
                  rfl
                refine take_ (i := 9) (N := some 24) (v := ?_) (a' := ?_) #[true, true, true, true, true, true, true, true, true, true, false, false, false, false] rfl rfl (take_ofW HT_.out HW_.out (by kernel_rfl)) (fun _ _ _ h => h) (Or.inl ⟨by rfl, ?_⟩) hHeld ?_ ?_
                rotate_left
                · rintro w' ⟨s0, s1⟩
                  go_simp
                  with_reducible rfl
                rotate_left
                · simp only [Act.put, List.setIfInBounds_toArray, List.set_cons_zero, List.set_cons_succ, i64_w, i32_w]
                  rfl
                refine pure_ (i := 10) (N := some 25) (v := ?_) (a' := ?_) #[true, true, true, true, true, true, true, true, true, true, true, false, false, false] rfl rfl (any_of HT_.out (by kernel_rfl)) (fun _ _ _ h => h) (Or.inl ⟨by rfl, ?_⟩) ?_ ?_
                rotate_left
                · intro w'
                  go_simp
                  with_reducible rfl
                rotate_left
                · simp only [Act.put, List.setIfInBounds_toArray, List.set_cons_zero, List.set_cons_succ, i64_w, i32_w]
                  rfl
                refine last_ (i := 11) (N := some 26) #[true, true, true, true, true, true, true, true, true, true, true, true, false, false] rfl rfl (one_of HT_.out (by kernel_rfl)) (by decide) (fun K hK => ?_)
                refine value_ (w1 := ?_) (v := ?_) (by rfl) rfl ?_ ?_
                rotate_left 2
                · go_simp
                  constructor
                  · rfl
                  · rfl
                refine hK.out _ _ ?_
                clear hK K
                refine norm_ (a' := ?_) ?_ ?_
                rotate_left
                · show Act.put _ (some 26) _ = _
                  simp only [Act.put, List.setIfInBounds_toArray, List.set_cons_zero, List.set_cons_succ, i64_w, i32_w]
                  rfl
                refine last_ (i := 12) (N := some 27) #[true, true, true, true, true, true, true, true, true, true, true, true, true, false] rfl rfl (one_of HT_.out (by kernel_rfl)) (by decide) (fun K hK => ?_)
                refine Kd.R_append_step k41 (w0 := w) w.heap.size (by rfl) (.tmp 15) (.tmp 26) 25 41 (.agg #[(.string ⟨#[]⟩), (.string ⟨#[]⟩)]) 32 rfl Tryd.underlying25 info41 rfl (by decide) (by omega) u4 x4_1 (⟨rdOf ByteArray.empty t409 x5_1, rdOf ByteArray.empty t409 (ji7)⟩ : S41) [.string (rdOf ByteArray.empty t409 x5_1), .string (rdOf ByteArray.empty t409 (ji7))] (fun _ => True) (fun _ => False) rfl rfl ?aP (fun _ hk => hk.elim) ?aF ?aO ?aB ?aS ?aL ?_
                (case aP => exact k41_mkM _ _ _ (⟨rdOf ByteArray.empty t409 x5_1, rdOf ByteArray.empty t409 (ji7)⟩ : S41))
                (case aB => exact (by repeat (first | (with_reducible first | exact HB.out | apply below_alloc | apply pw_below_drewN | apply below_drew1) | exact HB.out)))
                (case aF => exact (fun _ _ => trivial))
                (case aO => exact (by (with_reducible repeat (first | apply Kd.R_alloc | apply Kd.R_drewN | apply Kd.R_drew)); exact HO_4.out))
                (case aS => exact (below_size (by repeat (first | (with_reducible first | exact HB.out | apply below_alloc | apply pw_below_drewN | apply below_drew1) | exact HB.out))))
                (case aL => have := LMc9.out; omega)
                intro v415 w12 ho hb hg hat
                rw [← Ny414.out] at ho
                have n0_ := Aside0.mk (Kd.R_over' (by (with_reducible repeat (first | apply Kd.R_alloc | apply Kd.R_drewN | apply Kd.R_drew)); exact HO_3.out) (Kd.R_typed (by (with_reducible repeat (first | apply Kd.R_alloc | apply Kd.R_drewN | apply Kd.R_drew)); exact HO_4.out)) (by decide) hg)
                have n1_ := Aside0.mk (hb)
                have n2_ := Aside0.mk (ho)
                clear HO_3
                clear HB
                clear HO_4
                have HO_3 := n0_
                have HB := n1_
                have HO416 := n2_
                clear n0_ n1_ n2_
                clear ho hb hg hat
                refine hK.out _ _ ?_
                clear hK K
                refine norm_ (a' := ?_) ?_ ?_
                rotate_left
                · show Act.put _ (some 27) _ = _
                  simp only [Act.put, List.setIfInBounds_toArray, List.set_cons_zero, List.set_cons_succ, i64_w, i32_w]
                  rfl
                refine pure_ (i := 13) (N := some 4) (v := ?_) (a' := ?_) #[true, true, true, true, true, true, true, true, true, true, true, true, true, true] rfl rfl (any_of HT_.out (by kernel_rfl)) (fun _ _ _ h => h) (Or.inl ⟨by rfl, ?_⟩) ?_ ?_
                rotate_left
                · intro w'
                  go_simp
                  with_reducible rfl
                rotate_left
                · simp only [Act.put, List.setIfInBounds_toArray, List.set_cons_zero, List.set_cons_succ, i64_w, i32_w]
                  rfl
                refine done_ (done_of HT_.out (by kernel_rfl)) ?_
                try go_wp2
                go_roundg k1
                case measure => have := HK1.out; omega
                case rel => exact ⟨(y414), (wrap64 (x5_1 + 2)), (by first | rfl | (simp; done) | (simp [*]; done)), H', ⟨by have := HK1.out; omega⟩, ⟨by (with_reducible repeat (first | apply Kd.R_alloc | apply Kd.R_drewN | apply Kd.R_drew)); exact HO_3.out⟩, ⟨by (with_reducible repeat (first | apply Kd.R_alloc | apply Kd.R_drewN | apply Kd.R_drew)); exact HO416.out⟩, ⟨by repeat (first | (with_reducible first | exact HB.out | apply below_alloc | apply pw_below_drewN | apply below_drew1) | exact HB.out)⟩⟩
              · rw [if_neg c9] at H
                exact absurd H (by simp)
            · rw [if_neg c8] at H
              exact absurd H (by simp)
          · rw [if_neg c6] at H
            exact absurd H (by simp)
        · rw [if_neg c5] at H
          exact absurd H (by simp)
      · rw [if_neg c4] at H
        have c4b0 : decide ((wrap64 (x5_1 + 1)) < (t409.length : Int)) = false := decide_eq_false c4
        clear c4
        obtain rfl := Option.some.inj H
        obtain ⟨Ao13, co13, eo13⟩ := Kd.R_slice HO_3.out
        subst eo13
        go_wp2
        go_ret
        exact ⟨_, by first | rfl | (simp [errW_none, errW_some] <;> rfl) | (simp [*, errW_none, errW_some] <;> rfl), by (with_reducible repeat (first | apply Kd.R_alloc | apply Kd.R_drewN | apply Kd.R_drew)); exact HO_4.out, by repeat (first | (with_reducible first | exact HB.out | apply below_alloc | apply pw_below_drewN | apply below_drew1) | exact HB.out)⟩
def translit_Cyrillic.f (k : Nat)  : Option ((List (S41))) := (translit_table.f k (⟨#[208, 176, 32, 97, 32, 208, 177, 32, 98, 32, 208, 178, 32, 118, 32, 208, 179, 32, 103, 32, 208, 180, 32, 100, 32, 208, 181, 32, 101, 32, 209, 145, 32, 195, 171, 32, 208, 182, 32, 197, 190, 32, 208, 183, 32, 122, 32, 208, 184, 32, 105, 32, 208, 185, 32, 106, 32, 208, 186, 32, 107, 32, 208, 187, 32, 108, 32, 208, 188, 32, 109, 32, 208, 189, 32, 110, 32, 208, 190, 32, 111, 32, 208, 191, 32, 112, 32, 209, 128, 32, 114, 32, 209, 129, 32, 115, 32, 209, 130, 32, 116, 32, 209, 131, 32, 117, 32, 209, 132, 32, 102, 32, 209, 133, 32, 104, 32, 209, 134, 32, 99, 32, 209, 135, 32, 196, 141, 32, 209, 136, 32, 197, 161, 32, 209, 137, 32, 197, 157, 32, 209, 138, 32, 34, 32, 209, 139, 32, 121, 32, 209, 140, 32, 39, 32, 209, 141, 32, 195, 168, 32, 209, 142, 32, 195, 187, 32, 209, 143, 32, 195, 162, 32, 208, 144, 32, 65, 32, 208, 145, 32, 66, 32, 208, 146, 32, 86, 32, 208, 147, 32, 71, 32, 208, 148, 32, 68, 32, 208, 149, 32, 69, 32, 208, 129, 32, 195, 139, 32, 208, 150, 32, 197, 189, 32, 208, 151, 32, 90, 32, 208, 152, 32, 73, 32, 208, 153, 32, 74, 32, 208, 154, 32, 75, 32, 208, 155, 32, 76, 32, 208, 156, 32, 77, 32, 208, 157, 32, 78, 32, 208, 158, 32, 79, 32, 208, 159, 32, 80, 32, 208, 160, 32, 82, 32, 208, 161, 32, 83, 32, 208, 162, 32, 84, 32, 208, 163, 32, 85, 32, 208, 164, 32, 70, 32, 208, 165, 32, 72, 32, 208, 166, 32, 67, 32, 208, 167, 32, 196, 140, 32, 208, 168, 32, 197, 160, 32, 208, 169, 32, 197, 156, 32, 208, 171, 32, 89, 32, 208, 173, 32, 195, 136, 32, 208, 174, 32, 195, 155, 32, 208, 175, 32, 195, 130]⟩ : ByteArray)).bind fun t417 => (some t417)
set_option maxHeartbeats 8000000 in
set_option maxRecDepth 100000 in
theorem translit_Cyrillic.calls (k : Nat)  (r : List (S41)) (w : World) (hG : GT2 w) (h : translit_Cyrillic.f k  = some r) :
    Calls Tryd.prog 32 #[] w fun e w' => ∃ v0_ : Value, e = .returned (v0_) ∧ Kd.R k41 41 w' w.heap.size (fun _ => True) v0_ r ∧ Below w.heap.size w w' := by
  have HG := Aside0.mk hG
  clear hG
  have HB := Aside0.mk (Below.refl w.heap.size w)
  have H : ((translit_table.f k (⟨#[208, 176, 32, 97, 32, 208, 177, 32, 98, 32, 208, 178, 32, 118, 32, 208, 179, 32, 103, 32, 208, 180, 32, 100, 32, 208, 181, 32, 101, 32, 209, 145, 32, 195, 171, 32, 208, 182, 32, 197, 190, 32, 208, 183, 32, 122, 32, 208, 184, 32, 105, 32, 208, 185, 32, 106, 32, 208, 186, 32, 107, 32, 208, 187, 32, 108, 32, 208, 188, 32, 109, 32, 208, 189, 32, 110, 32, 208, 190, 32, 111, 32, 208, 191, 32, 112, 32, 209, 128, 32, 114, 32, 209, 129, 32, 115, 32, 209, 130, 32, 116, 32, 209, 131, 32, 117, 32, 209, 132, 32, 102, 32, 209, 133, 32, 104, 32, 209, 134, 32, 99, 32, 209, 135, 32, 196, 141, 32, 209, 136, 32, 197, 161, 32, 209, 137, 32, 197, 157, 32, 209, 138, 32, 34, 32, 209, 139, 32, 121, 32, 209, 140, 32, 39, 32, 209, 141, 32, 195, 168, 32, 209, 142, 32, 195, 187, 32, 209, 143, 32, 195, 162, 32, 208, 144, 32, 65, 32, 208, 145, 32, 66, 32, 208, 146, 32, 86, 32, 208, 147, 32, 71, 32, 208, 148, 32, 68, 32, 208, 149, 32, 69, 32, 208, 129, 32, 195, 139, 32, 208, 150, 32, 197, 189, 32, 208, 151, 32, 90, 32, 208, 152, 32, 73, 32, 208, 153, 32, 74, 32, 208, 154, 32, 75, 32, 208, 155, 32, 76, 32, 208, 156, 32, 77, 32, 208, 157, 32, 78, 32, 208, 158, 32, 79, 32, 208, 159, 32, 80, 32, 208, 160, 32, 82, 32, 208, 161, 32, 83, 32, 208, 162, 32, 84, 32, 208, 163, 32, 85, 32, 208, 164, 32, 70, 32, 208, 165, 32, 72, 32, 208, 166, 32, 67, 32, 208, 167, 32, 196, 140, 32, 208, 168, 32, 197, 160, 32, 208, 169, 32, 197, 156, 32, 208, 171, 32, 89, 32, 208, 173, 32, 195, 136, 32, 208, 174, 32, 195, 155, 32, 208, 175, 32, 195, 130]⟩ : ByteArray)).bind fun t417 => (some t417)) = some r := h
  clear h
  replace H := Option.bind_eq_some_iff.mp H
  obtain ⟨t417, A10, H⟩ := H
  replace H : (some t417) = some r := H
  have A1 := Aside0.mk A10
  clear A10
  obtain rfl := Option.some.inj H
  go_enter Tryd.func32, Tryd.ntmps32
  go_wp2_with (first | ((with_reducible refine gate_callee (f := 62) rfl ?_); refine goesL_ (some 1) rfl rfl Tryd.func62 (by kernel_rfl) rfl #[.string (⟨#[208, 176, 32, 97, 32, 208, 177, 32, 98, 32, 208, 178, 32, 118, 32, 208, 179, 32, 103, 32, 208, 180, 32, 100, 32, 208, 181, 32, 101, 32, 209, 145, 32, 195, 171, 32, 208, 182, 32, 197, 190, 32, 208, 183, 32, 122, 32, 208, 184, 32, 105, 32, 208, 185, 32, 106, 32, 208, 186, 32, 107, 32, 208, 187, 32, 108, 32, 208, 188, 32, 109, 32, 208, 189, 32, 110, 32, 208, 190, 32, 111, 32, 208, 191, 32, 112, 32, 209, 128, 32, 114, 32, 209, 129, 32, 115, 32, 209, 130, 32, 116, 32, 209, 131, 32, 117, 32, 209, 132, 32, 102, 32, 209, 133, 32, 104, 32, 209, 134, 32, 99, 32, 209, 135, 32, 196, 141, 32, 209, 136, 32, 197, 161, 32, 209, 137, 32, 197, 157, 32, 209, 138, 32, 34, 32, 209, 139, 32, 121, 32, 209, 140, 32, 39, 32, 209, 141, 32, 195, 168, 32, 209, 142, 32, 195, 187, 32, 209, 143, 32, 195, 162, 32, 208, 144, 32, 65, 32, 208, 145, 32, 66, 32, 208, 146, 32, 86, 32, 208, 147, 32, 71, 32, 208, 148, 32, 68, 32, 208, 149, 32, 69, 32, 208, 129, 32, 195, 139, 32, 208, 150, 32, 197, 189, 32, 208, 151, 32, 90, 32, 208, 152, 32, 73, 32, 208, 153, 32, 74, 32, 208, 154, 32, 75, 32, 208, 155, 32, 76, 32, 208, 156, 32, 77, 32, 208, 157, 32, 78, 32, 208, 158, 32, 79, 32, 208, 159, 32, 80, 32, 208, 160, 32, 82, 32, 208, 161, 32, 83, 32, 208, 162, 32, 84, 32, 208, 163, 32, 85, 32, 208, 164, 32, 70, 32, 208, 165, 32, 72, 32, 208, 166, 32, 67, 32, 208, 167, 32, 196, 140, 32, 208, 168, 32, 197, 160, 32, 208, 169, 32, 197, 156, 32, 208, 171, 32, 89, 32, 208, 173, 32, 195, 136, 32, 208, 174, 32, 195, 155, 32, 208, 175, 32, 195, 130]⟩ : ByteArray)] rfl (by (try simp only [List.map_toArray, List.map_cons, List.map_nil]); first | done | rfl | (simp only [List.length_drop, List.length_take]; rfl)) ?_; (with_reducible refine (translit_table.calls k (⟨#[208, 176, 32, 97, 32, 208, 177, 32, 98, 32, 208, 178, 32, 118, 32, 208, 179, 32, 103, 32, 208, 180, 32, 100, 32, 208, 181, 32, 101, 32, 209, 145, 32, 195, 171, 32, 208, 182, 32, 197, 190, 32, 208, 183, 32, 122, 32, 208, 184, 32, 105, 32, 208, 185, 32, 106, 32, 208, 186, 32, 107, 32, 208, 187, 32, 108, 32, 208, 188, 32, 109, 32, 208, 189, 32, 110, 32, 208, 190, 32, 111, 32, 208, 191, 32, 112, 32, 209, 128, 32, 114, 32, 209, 129, 32, 115, 32, 209, 130, 32, 116, 32, 209, 131, 32, 117, 32, 209, 132, 32, 102, 32, 209, 133, 32, 104, 32, 209, 134, 32, 99, 32, 209, 135, 32, 196, 141, 32, 209, 136, 32, 197, 161, 32, 209, 137, 32, 197, 157, 32, 209, 138, 32, 34, 32, 209, 139, 32, 121, 32, 209, 140, 32, 39, 32, 209, 141, 32, 195, 168, 32, 209, 142, 32, 195, 187, 32, 209, 143, 32, 195, 162, 32, 208, 144, 32, 65, 32, 208, 145, 32, 66, 32, 208, 146, 32, 86, 32, 208, 147, 32, 71, 32, 208, 148, 32, 68, 32, 208, 149, 32, 69, 32, 208, 129, 32, 195, 139, 32, 208, 150, 32, 197, 189, 32, 208, 151, 32, 90, 32, 208, 152, 32, 73, 32, 208, 153, 32, 74, 32, 208, 154, 32, 75, 32, 208, 155, 32, 76, 32, 208, 156, 32, 77, 32, 208, 157, 32, 78, 32, 208, 158, 32, 79, 32, 208, 159, 32, 80, 32, 208, 160, 32, 82, 32, 208, 161, 32, 83, 32, 208, 162, 32, 84, 32, 208, 163, 32, 85, 32, 208, 164, 32, 70, 32, 208, 165, 32, 72, 32, 208, 166, 32, 67, 32, 208, 167, 32, 196, 140, 32, 208, 168, 32, 197, 160, 32, 208, 169, 32, 197, 156, 32, 208, 171, 32, 89, 32, 208, 173, 32, 195, 136, 32, 208, 174, 32, 195, 155, 32, 208, 175, 32, 195, 130]⟩ : ByteArray) t417 _ ?side1 A1.out).mono ?_); (case side1 => exact GT2.below (HG.out) (by repeat (first | (with_reducible first | exact HB.out | apply below_alloc | apply pw_below_drewN | apply below_drew1) | exact HB.out))); rintro e w2 ⟨v418, rfl, ho0, hb⟩; refine ⟨_, rfl, ?_⟩; have n0_ := Aside0.mk (Kd.R_lower ho0 (below_size (by repeat (first | (with_reducible first | exact HB.out | apply below_alloc | apply pw_below_drewN | apply below_drew1) | exact HB.out)))); have n1_ := Aside0.mk (below_step (by repeat (first | (with_reducible first | exact HB.out | apply below_alloc | apply pw_below_drewN | apply below_drew1) | exact HB.out)) hb); clear HB; have HO419 := n0_; have HB := n1_; clear n0_ n1_; (try clear hb); (try clear hb2); (try clear hk); (try clear hi); (try clear ho0)))
  go_ret
  exact ⟨_, by first | rfl | (simp [errW_none, errW_some] <;> rfl) | (simp [*, errW_none, errW_some] <;> rfl), by (with_reducible repeat (first | apply Kd.R_alloc | apply Kd.R_drewN | apply Kd.R_drew)); exact HO419.out, by repeat (first | (with_reducible first | exact HB.out | apply below_alloc | apply pw_below_drewN | apply below_drew1) | exact HB.out)⟩
def translit_Greek.f (k : Nat)  : Option ((List (S41))) := (translit_table.f k (⟨#[206, 177, 32, 97, 32, 206, 178, 32, 98, 32, 206, 179, 32, 103, 32, 206, 180, 32, 100, 32, 206, 181, 32, 101, 32, 206, 182, 32, 122, 32, 206, 183, 32, 196, 147, 32, 206, 184, 32, 116, 104, 32, 206, 185, 32, 105, 32, 206, 186, 32, 107, 32, 206, 187, 32, 108, 32, 206, 188, 32, 109, 32, 206, 189, 32, 110, 32, 206, 190, 32, 120, 32, 206, 191, 32, 111, 32, 207, 128, 32, 112, 32, 207, 129, 32, 114, 32, 207, 131, 32, 115, 32, 207, 130, 32, 115, 32, 207, 132, 32, 116, 32, 207, 133, 32, 121, 32, 207, 134, 32, 112, 104, 32, 207, 135, 32, 99, 104, 32, 207, 136, 32, 112, 115, 32, 207, 137, 32, 197, 141, 32, 206, 191, 207, 133, 32, 111, 117, 32, 206, 179, 206, 179, 32, 110, 103, 32, 206, 179, 206, 186, 32, 110, 107]⟩ : ByteArray)).bind fun t420 => (some t420)
set_option maxHeartbeats 8000000 in
set_option maxRecDepth 100000 in
theorem translit_Greek.calls (k : Nat)  (r : List (S41)) (w : World) (hG : GT2 w) (h : translit_Greek.f k  = some r) :
    Calls Tryd.prog 33 #[] w fun e w' => ∃ v0_ : Value, e = .returned (v0_) ∧ Kd.R k41 41 w' w.heap.size (fun _ => True) v0_ r ∧ Below w.heap.size w w' := by
  have HG := Aside0.mk hG
  clear hG
  have HB := Aside0.mk (Below.refl w.heap.size w)
  have H : ((translit_table.f k (⟨#[206, 177, 32, 97, 32, 206, 178, 32, 98, 32, 206, 179, 32, 103, 32, 206, 180, 32, 100, 32, 206, 181, 32, 101, 32, 206, 182, 32, 122, 32, 206, 183, 32, 196, 147, 32, 206, 184, 32, 116, 104, 32, 206, 185, 32, 105, 32, 206, 186, 32, 107, 32, 206, 187, 32, 108, 32, 206, 188, 32, 109, 32, 206, 189, 32, 110, 32, 206, 190, 32, 120, 32, 206, 191, 32, 111, 32, 207, 128, 32, 112, 32, 207, 129, 32, 114, 32, 207, 131, 32, 115, 32, 207, 130, 32, 115, 32, 207, 132, 32, 116, 32, 207, 133, 32, 121, 32, 207, 134, 32, 112, 104, 32, 207, 135, 32, 99, 104, 32, 207, 136, 32, 112, 115, 32, 207, 137, 32, 197, 141, 32, 206, 191, 207, 133, 32, 111, 117, 32, 206, 179, 206, 179, 32, 110, 103, 32, 206, 179, 206, 186, 32, 110, 107]⟩ : ByteArray)).bind fun t420 => (some t420)) = some r := h
  clear h
  replace H := Option.bind_eq_some_iff.mp H
  obtain ⟨t420, A10, H⟩ := H
  replace H : (some t420) = some r := H
  have A1 := Aside0.mk A10
  clear A10
  obtain rfl := Option.some.inj H
  go_enter Tryd.func33, Tryd.ntmps33
  go_wp2_with (first | ((with_reducible refine gate_callee (f := 62) rfl ?_); refine goesL_ (some 1) rfl rfl Tryd.func62 (by kernel_rfl) rfl #[.string (⟨#[206, 177, 32, 97, 32, 206, 178, 32, 98, 32, 206, 179, 32, 103, 32, 206, 180, 32, 100, 32, 206, 181, 32, 101, 32, 206, 182, 32, 122, 32, 206, 183, 32, 196, 147, 32, 206, 184, 32, 116, 104, 32, 206, 185, 32, 105, 32, 206, 186, 32, 107, 32, 206, 187, 32, 108, 32, 206, 188, 32, 109, 32, 206, 189, 32, 110, 32, 206, 190, 32, 120, 32, 206, 191, 32, 111, 32, 207, 128, 32, 112, 32, 207, 129, 32, 114, 32, 207, 131, 32, 115, 32, 207, 130, 32, 115, 32, 207, 132, 32, 116, 32, 207, 133, 32, 121, 32, 207, 134, 32, 112, 104, 32, 207, 135, 32, 99, 104, 32, 207, 136, 32, 112, 115, 32, 207, 137, 32, 197, 141, 32, 206, 191, 207, 133, 32, 111, 117, 32, 206, 179, 206, 179, 32, 110, 103, 32, 206, 179, 206, 186, 32, 110, 107]⟩ : ByteArray)] rfl (by (try simp only [List.map_toArray, List.map_cons, List.map_nil]); first | done | rfl | (simp only [List.length_drop, List.length_take]; rfl)) ?_; (with_reducible refine (translit_table.calls k (⟨#[206, 177, 32, 97, 32, 206, 178, 32, 98, 32, 206, 179, 32, 103, 32, 206, 180, 32, 100, 32, 206, 181, 32, 101, 32, 206, 182, 32, 122, 32, 206, 183, 32, 196, 147, 32, 206, 184, 32, 116, 104, 32, 206, 185, 32, 105, 32, 206, 186, 32, 107, 32, 206, 187, 32, 108, 32, 206, 188, 32, 109, 32, 206, 189, 32, 110, 32, 206, 190, 32, 120, 32, 206, 191, 32, 111, 32, 207, 128, 32, 112, 32, 207, 129, 32, 114, 32, 207, 131, 32, 115, 32, 207, 130, 32, 115, 32, 207, 132, 32, 116, 32, 207, 133, 32, 121, 32, 207, 134, 32, 112, 104, 32, 207, 135, 32, 99, 104, 32, 207, 136, 32, 112, 115, 32, 207, 137, 32, 197, 141, 32, 206, 191, 207, 133, 32, 111, 117, 32, 206, 179, 206, 179, 32, 110, 103, 32, 206, 179, 206, 186, 32, 110, 107]⟩ : ByteArray) t420 _ ?side1 A1.out).mono ?_); (case side1 => exact GT2.below (HG.out) (by repeat (first | (with_reducible first | exact HB.out | apply below_alloc | apply pw_below_drewN | apply below_drew1) | exact HB.out))); rintro e w2 ⟨v421, rfl, ho0, hb⟩; refine ⟨_, rfl, ?_⟩; have n0_ := Aside0.mk (Kd.R_lower ho0 (below_size (by repeat (first | (with_reducible first | exact HB.out | apply below_alloc | apply pw_below_drewN | apply below_drew1) | exact HB.out)))); have n1_ := Aside0.mk (below_step (by repeat (first | (with_reducible first | exact HB.out | apply below_alloc | apply pw_below_drewN | apply below_drew1) | exact HB.out)) hb); clear HB; have HO422 := n0_; have HB := n1_; clear n0_ n1_; (try clear hb); (try clear hb2); (try clear hk); (try clear hi); (try clear ho0)))
  go_ret
  exact ⟨_, by first | rfl | (simp [errW_none, errW_some] <;> rfl) | (simp [*, errW_none, errW_some] <;> rfl), by (with_reducible repeat (first | apply Kd.R_alloc | apply Kd.R_drewN | apply Kd.R_drew)); exact HO422.out, by repeat (first | (with_reducible first | exact HB.out | apply below_alloc | apply pw_below_drewN | apply below_drew1) | exact HB.out)⟩
end Go.Proofs.YthcpdhniakpbaaaDoor.X
end

section
namespace Go.Proofs.YthcpdhniakpbaaaDoor.X
set_option linter.unusedVariables false
set_option linter.unusedSimpArgs false
open Go.RowKit Go.Proofs.YthcpdhniakpbaaaDoorW.PrintWords
theorem enc_eq {c : Int} (h : (0 ≤ c ∧ c ≤ 55295) ∨ (57344 ≤ c ∧ c ≤ 65535)) : (Utf8.encode c).data.toList = encC c := by
  have hv : Utf8.valid c = true := by
    unfold Utf8.valid
    rcases h with h | h
    · simp; omega
    · simp; omega
  unfold Utf8.encode
  simp only [hv, if_true]
  by_cases c1 : c < 128
  · rw [if_pos (by omega), encC_one c1]
  · rw [if_neg (by omega)]
    by_cases c2 : c < 2048
    · rw [if_pos (by omega), encC_two (by omega) c2]
      have e1 : (192 + c / 64).toNat = 192 + c.toNat / 64 := by omega
      have e2 : (128 + c % 64).toNat = 128 + c.toNat % 64 := by omega
      rw [e1, e2]
    · rw [if_neg (by omega), if_pos (by omega), encC_three (by omega)]
      have e1 : (224 + c / 4096).toNat = 224 + c.toNat / 4096 := by omega
      have e2 : (128 + c / 64 % 64).toNat = 128 + c.toNat / 64 % 64 := by omega
      have e3 : (128 + c % 64).toNat = 128 + c.toNat % 64 := by omega
      rw [e1, e2, e3]
theorem indexRune_eq {B : ByteArray} {xs : List Int} (he : B.data.toList = encL xs) (hs : ∀ x ∈ xs, 0 ≤ x ∧ x < 2048) (hn : B.size ≤ 4294967000)
    (hc : ∀ c : UInt8, 128 ≤ c.toNat ∧ c.toNat < 192 → calm B.data.toList c = true) {c : Int} (h0 : 0 ≤ c) (h1 : c ≤ 65535) (hne : c ≠ 65533) :
    strings_IndexRune.f B c = some (placeB xs c) := by
  unfold strings_IndexRune.f
  by_cases c1 : c < 128
  · rw [if_pos ⟨h0, c1⟩, ← index_enc xs c hs ⟨h0, by omega⟩, ← he, encC_one c1, Lib.index_one]
  · rw [if_neg (by omega)]
    by_cases c2 : 55296 ≤ c ∧ c ≤ 57343
    · rw [if_pos (.inl c2)]
      have : c ∉ xs := fun hm => by have := hs c hm; omega
      simp [placeB, this]
    · have hv : (0 ≤ c ∧ c ≤ 55295) ∨ (57344 ≤ c ∧ c ≤ 65535) := by omega
      have hsz : (Utf8.encode c).size = (encC c).length := by rw [← enc_eq hv, len_of]
      rw [if_neg (by omega), if_neg hne, if_pos ⟨hn, by rw [enc_eq hv, hsz]; exact hc _ (encC_last c (by omega))⟩, enc_eq hv, he, index_enc xs c hs ⟨h0, by omega⟩]
theorem contains_eq {B : ByteArray} {xs : List Int} (he : B.data.toList = encL xs) (hs : ∀ x ∈ xs, 0 ≤ x ∧ x < 2048) (hn : B.size ≤ 4294967000)
    (hc : ∀ c : UInt8, 128 ≤ c.toNat ∧ c.toNat < 192 → calm B.data.toList c = true) {c : Int} (h0 : 0 ≤ c) (h1 : c ≤ 65535) (hne : c ≠ 65533) :
    strings_ContainsRune.f B (wrap32 c) = some (decide (c ∈ xs)) := by
  have hw : wrap32 c = c := by unfold wrap32; omega
  unfold strings_ContainsRune.f
  rw [hw, indexRune_eq he hs hn hc h0 h1 hne]
  simp only [Option.bind_some, Option.some.injEq, ge_iff_le]
  exact decide_eq_decide.2 (placeB_ge xs c)
theorem from_eq (a lo hi : Int) : repertoire_from.f a lo hi = some (decide (lo ≤ a ∧ a ≤ hi)) := by
  unfold repertoire_from.f
  by_cases h : a ≥ lo
  · rw [if_pos h]; simp [h]
  · rw [if_neg h]; simp; omega
theorem letter_eq {c : Int} (h0 : 0 ≤ c) (h1 : c ≤ 65535) (hne : c ≠ 65533) (k : Nat) : repertoire_letter.f (k + 3) c = some (letterS c) := by
  have cl := contains_eq (c := c) latin_enc latin_small (by decide +kernel) latin_calm h0 h1 hne
  have cg := contains_eq (c := c) greek_enc greek_small (by decide +kernel) greek_calm h0 h1 hne
  have cc := contains_eq (c := c) cyr_enc cyr_small (by decide +kernel) cyr_calm h0 h1 hne
  unfold latinB at cl
  unfold greekB at cg
  unfold cyrB at cc
  have j1 : ∀ b : Bool, ∀ k, repertoire_letter.j1 (k + 1) c b = some (if b = true then 2 else if (1040 ≤ c ∧ c ≤ 1103) ∨ c ∈ cyrL then 3 else 0) := fun b k => by
    rw [repertoire_letter.j1]
    cases b with
    | true => simp
    | false =>
      rw [from_eq, cc]
      by_cases h2 : 1040 ≤ c ∧ c ≤ 1103 <;> by_cases h3 : c ∈ cyrL <;> simp [h2, h3]
  have j0 : ∀ b : Bool, ∀ k, repertoire_letter.j0 (k + 2) c b = some (if b = true then 1 else if (c ≠ 930 ∧ 913 ≤ c ∧ c ≤ 937) ∨ (945 ≤ c ∧ c ≤ 969) ∨ c ∈ greekL then 2
      else if (1040 ≤ c ∧ c ≤ 1103) ∨ c ∈ cyrL then 3 else 0) := fun b k => by
    rw [repertoire_letter.j0]
    cases b with
    | true => simp
    | false =>
      rw [from_eq, from_eq, cg]
      simp only [Option.bind_some, j1]
      by_cases h1 : c = 930 <;> by_cases h2 : 945 ≤ c ∧ c ≤ 969 <;> by_cases h3 : c ∈ greekL <;> by_cases h4 : 913 ≤ c ∧ c ≤ 937 <;> simp [h1, h2, h3, h4]
  unfold repertoire_letter.f letterS
  rw [from_eq, from_eq, from_eq, cl]
  simp only [Option.bind_some, j0]
  by_cases a1 : 65 ≤ c ∧ c ≤ 90 <;> by_cases a2 : 97 ≤ c ∧ c ≤ 122 <;> by_cases a3 : c = 383 <;> by_cases a4 : 64257 ≤ c ∧ c ≤ 64258 <;> by_cases a5 : c ∈ latinL <;> simp [a1, a2, a3, a4, a5]
theorem mark_eq (c : Int) (k : Nat) : repertoire_mark.f (k + 1) c = some (markS c) := by
  unfold repertoire_mark.f markS
  rw [repertoire_mark.j0, repertoire_mark.j0, from_eq]
  by_cases a1 : c = 773 <;> by_cases a2 : c = 777 <;> by_cases a3 : c = 803 <;> by_cases a4 : c = 807 <;> by_cases a5 : c = 808 <;> simp [a1, a2, a3, a4, a5]
theorem classN_eq {c : Int} (hne : c ≠ 65533) (k : Nat) : repertoire_Class.j0 (k + 7) c = some (classN c) := by
  have j3 : ∀ b : Bool, ∀ k, repertoire_Class.j3 (k + 2) c b = some (if b = true then (0, 3) else if markS c = true then (0, 2) else if c ≤ 126 then (0, 5) else (0, 0)) := fun b k => by
    rw [repertoire_Class.j3]
    cases b with
    | true => simp
    | false =>
      rw [mark_eq]
      simp only [Option.bind_some]
      by_cases h : markS c = true <;> by_cases h2 : c ≤ 126 <;> simp [h, h2]
  have j2 : ∀ b : Bool, ∀ k, repertoire_Class.j2 (k + 3) c b = some (if b = true then (0, 4) else if (48 ≤ c ∧ c ≤ 57) ∨ c = 178 ∨ c = 179 ∨ c = 185 then (0, 3) else if markS c = true then (0, 2) else if c ≤ 126 then (0, 5) else (0, 0)) := fun b k => by
    rw [repertoire_Class.j2]
    cases b with
    | true => simp
    | false =>
      rw [from_eq]
      simp only [Option.bind_some, j3]
      by_cases a1 : 48 ≤ c ∧ c ≤ 57 <;> by_cases a2 : c = 178 <;> by_cases a3 : c = 179 <;> by_cases a4 : c = 185 <;> simp [a1, a2, a3, a4]
  rw [repertoire_Class.j0]
  unfold classN
  by_cases h0 : c < 32
  · rw [if_pos h0, if_pos (.inl h0), repertoire_Class.j1]
    simp
  · rw [if_neg h0, repertoire_Class.j1]
    by_cases h1 : c > 65535
    · rw [if_pos (by simpa using h1), if_pos (.inr h1)]
    · rw [if_neg (by simpa using h1), if_neg (show ¬ (c < 32 ∨ 65535 < c) by omega), letter_eq (by omega) (by omega) hne]
      simp only [Option.bind_some, j2]
      by_cases hl : letterS c = 0
      · rw [if_pos hl, if_neg (show ¬ (letterS c ≠ 0) from fun h => h hl)]
        by_cases a1 : c = 32
        · rw [if_pos a1, if_pos trivial, if_pos (show c = 32 ∨ c = 160 from .inl a1)]
        · rw [if_neg a1]
          by_cases a2 : c = 160
          · rw [if_pos (show (c == 160) = true by simpa using a2), if_pos (show c = 32 ∨ c = 160 from .inr a2)]
          · rw [if_neg (show ¬ (c == 160) = true by simpa using a2), if_neg (show ¬ (c = 32 ∨ c = 160) by omega)]
      · rw [if_neg hl, if_pos hl]
theorem class_eq {c : Int} (hne : c ≠ 65533) (k : Nat) : repertoire_Class.f (k + 7) c = some (classS c) := by
  unfold repertoire_Class.f classS narrow
  rw [from_eq]
  simp only [Option.bind_some]
  by_cases h : 65281 ≤ c ∧ c ≤ 65374
  · rw [if_pos (by simpa using h), if_pos h, show wrap64 (c - 65248) = c - 65248 by unfold wrap64; omega, classN_eq (by omega)]
  · rw [if_neg (by simpa using h), if_neg h, classN_eq hne]
theorem has_eq {c : Int} (hne : c ≠ 65533) (k : Nat) : repertoire_Has.f (k + 7) c = some (hasS c) := by
  unfold repertoire_Has.f hasS
  rw [class_eq hne]
  rfl
end Go.Proofs.YthcpdhniakpbaaaDoor.X
end

section
namespace Go.Proofs.YthcpdhniakpbaaaDoor.X
set_option linter.unusedVariables false
set_option linter.unusedSimpArgs false
open Go.RowKit Go.Proofs.YthcpdhniakpbaaaDoorW.PrintWords
theorem decGo_more (p : Int → Bool) : ∀ (f : Nat) (l : List UInt8), l.length < f → decGo p f l = decGo p (l.length + 1) l
  | 0, l, h => by omega
  | f + 1, l, h => by
    rw [decGo, decGo]
    by_cases e : l = []
    · rw [if_pos e, if_pos e]
    · rw [if_neg e, if_neg e]
      cases hc : charS l with
      | none => rfl
      | some q =>
        obtain ⟨c, n⟩ := q
        have hp := charS_pos hc
        simp only
        have h1 := decGo_more p f (l.drop n) (by rw [List.length_drop]; omega)
        have h2 := decGo_more p l.length (l.drop n) (by rw [List.length_drop]; omega)
        rw [h1, h2]
theorem decS_nil (p : Int → Bool) : decS p [] = some [] := by simp [decS, decGo]
theorem decS_cons (p : Int → Bool) {l : List UInt8} (e : l ≠ []) : decS p l = match charS l with | none => none | some (c, n) => if p c then (decS p (l.drop n)).map (c :: ·) else none := by
  unfold decS
  rw [decGo, if_neg e]
  cases hc : charS l with
  | none => rfl
  | some q =>
    obtain ⟨c, n⟩ := q
    have hp := charS_pos hc
    simp only
    rw [decGo_more p l.length (l.drop n) (by rw [List.length_drop]; omega)]
theorem decN_lt (n b0 b1 b2 b3 : Nat) (h : b0 < 256) : (Lib.decodeN n b0 b1 b2 b3).1 < 2097152 := by
  unfold Lib.decodeN
  repeat' split
  all_goals simp only <;> omega
theorem decode_lt (s : ByteArray) : (Utf8.decode s 0).1 < 2097152 := by rw [Lib.decode_at]; exact decN_lt _ _ _ _ _ (s.get! 0).toNat_lt
def decR (acc : List Int) (l : List UInt8) : List Int × Bool := match decS hasS l with | some cs => (acc ++ cs, true) | none => ([], false)
theorem hasS_65533 : hasS 65533 = false := by decide +kernel
theorem decode_loop : ∀ (n : Nat) (s : ByteArray) (acc : List Int) (k : Nat), s.size ≤ n → n + 8 ≤ k → acc.length + s.size ≤ 8796093022208 → repertoire_Decode.l0 k s acc = some (decR acc s.data.toList)
  | n, s, acc, 0, hn, hk, ha => by omega
  | n, s, acc, k + 1, hn, hk, ha => by
    rw [repertoire_Decode.l0]
    have hl : s.data.toList.length = s.size := Array.length_toList
    by_cases e : s.size = 0
    · rw [if_neg (by omega)]
      have : s.data.toList = [] := List.length_eq_zero_iff.1 (by omega)
      rw [this]
      simp [decR, decS_nil]
    · rw [if_pos (by omega)]
      have hne : s.data.toList ≠ [] := fun h => e (by rw [← hl, h]; rfl)
      have hlt := decode_lt s
      have hd : utf8_DecodeRuneInString.f s = some (((Utf8.decode s 0).1 : Int), ((Utf8.decode s 0).2 : Int)) := by
        unfold utf8_DecodeRuneInString.f Lib.decodeGo
        rw [if_neg e]
      rw [hd]
      simp only [Option.bind_some]
      have hw : wrap64 ((Utf8.decode s 0).1 : Int) = ((Utf8.decode s 0).1 : Int) := by unfold wrap64; omega
      unfold decR
      rw [decS_cons hasS hne]
      obtain ⟨k, rfl⟩ : ∃ m, k = m + 7 := ⟨k - 7, by omega⟩
      cases hc : charS s.data.toList with
      | none =>
        simp only
        rcases decode_none s (by omega) hc with h | h
        · rw [if_pos (by omega)]
        · rw [if_neg (by omega), hw, has_eq (by omega)]
          have : hasS ((Utf8.decode s 0).1 : Int) = false := by
            cases hh : hasS ((Utf8.decode s 0).1 : Int) with
            | false => rfl
            | true => have := hasS_range hh; omega
          rw [this]
          simp
      | some q =>
        obtain ⟨c, m⟩ := q
        have hp := charS_pos hc
        simp only
        rcases decode_some s hc with ⟨h1, h2⟩ | ⟨h1, h2⟩
        · rw [if_pos (by omega)]
          have : hasS c = false := by
            cases hh : hasS c with
            | false => rfl
            | true => have := hasS_range hh; omega
          rw [this]
          simp
        · have hc0 := (charS_back hc).1.1
          rw [h2] at hw ⊢
          simp only at hw ⊢
          rw [show ((c.toNat : Nat) : Int) = c by omega] at hw ⊢
          by_cases h3 : c = 65533
          · rw [if_pos h3, h3, hasS_65533]
            simp
          · rw [if_neg h3, hw, has_eq h3]
            simp only [Option.bind_some]
            cases hh : hasS c with
            | false => simp
            | true =>
              rw [if_pos rfl, if_pos (by omega), if_pos (by omega), if_pos (by omega)]
              have hx : (s.extract ((m : Int).toNat) s.size).data.toList = s.data.toList.drop m := by
                rw [Lib.extract_to_end]
                simp
              have hsz : (s.extract ((m : Int).toNat) s.size).size = s.size - m := by
                have : (s.extract ((m : Int).toNat) s.size).data.toList.length = (s.extract ((m : Int).toNat) s.size).size := Array.length_toList
                rw [← this, hx, List.length_drop, hl]
              rw [decode_loop (n - 1) _ _ (k + 7) (by rw [hsz]; omega) (by omega) (by rw [hsz, List.length_append]; simp; omega)]
              rw [hx]
              unfold decR
              cases decS hasS (s.data.toList.drop m) with
              | none => simp
              | some cs => simp
  termination_by _ _ _ k => k
theorem decode_eq (s : ByteArray) (h : s.size ≤ 8796093022208) {k : Nat} (hk : s.size + 8 ≤ k) : repertoire_Decode.f k s = some (decR [] s.data.toList) := by
  unfold repertoire_Decode.f
  rw [if_pos (by omega), if_pos (by omega)]
  exact decode_loop s.size s [] k (Nat.le_refl _) hk (by simpa using h)
def cntS (l : List UInt8) : Nat := (decR [] l).1.length
def partS (l : List UInt8) : Bool := decide (1 ≤ cntS l ∧ cntS l ≤ 6)
theorem part_eq (s : ByteArray) (h : s.size ≤ 8796093022208) {k : Nat} (hk : s.size + 8 ≤ k) : translit_part.f k s = some (partS s.data.toList) := by
  unfold translit_part.f repertoire_Count.f partS cntS
  rw [decode_eq s h hk]
  simp only [Option.bind_some]
  by_cases h1 : 1 ≤ (decR [] s.data.toList).1.length
  · rw [if_pos (by omega)]
    simp [h1]
    omega
  · rw [if_neg (by omega)]
    simp [h1]
end Go.Proofs.YthcpdhniakpbaaaDoor.X
end

section
namespace Go.Proofs.YthcpdhniakpbaaaDoor.X
open Go.RowKit Go.Proofs.YthcpdhniakpbaaaDoorW.PrintWords Go.Proofs.YthcpdhniakpbaaaDoorW.PrintLast Go.Proofs.YthcpdhniakpbaaaDoorW.PrintMore
attribute [local go_sem] max2_int min2_int max_two min_two max_three min_three max_four min_four
set_option linter.unusedVariables false
set_option linter.unusedSimpArgs false
mutual
def bookplateref04_at.j0 : Nat → ByteArray → Int → Int → Bool → Option (Int × Int)
  | 0, _, _, _, _ => none
  | k + 1, x0, x1, x6, x35 => if x35 = true then (if 0 ≤ (wrap64 (x1 + 1)) then (if (wrap64 (x1 + 1)) < (x0.size : Int) then (some (wrap64 ((wrap64 ((wrap64 (x6 - 192)) * 64)) + (((bt x0 (wrap64 (x1 + 1))) - 128) % 256)), 2)) else (none)) else (none)) else (if x6 ≥ 224 then (if x6 < 240 then (if (wrap64 (x1 + 2)) < (x0.size : Int) then (if 0 ≤ (wrap64 (x1 + 1)) then (if (wrap64 (x1 + 1)) < (x0.size : Int) then (if ((bt x0 (wrap64 (x1 + 1))) / 64) = 2 then (if 0 ≤ (wrap64 (x1 + 2)) then (bookplateref04_at.j1 k x0 x1 x6 (((bt x0 (wrap64 (x1 + 2))) / 64) == 2)) else (none)) else (bookplateref04_at.j1 k x0 x1 x6 false)) else (none)) else (none)) else (bookplateref04_at.j1 k x0 x1 x6 false)) else (bookplateref04_at.j1 k x0 x1 x6 false)) else (bookplateref04_at.j1 k x0 x1 x6 false))
def bookplateref04_at.j1 : Nat → ByteArray → Int → Int → Bool → Option (Int × Int)
  | 0, _, _, _, _ => none
  | k + 1, x0, x1, x6, x74 => if x74 = true then (if 0 ≤ (wrap64 (x1 + 1)) then (if (wrap64 (x1 + 1)) < (x0.size : Int) then (if 0 ≤ (wrap64 (x1 + 2)) then (if (wrap64 (x1 + 2)) < (x0.size : Int) then (if (wrap64 ((wrap64 ((wrap64 ((wrap64 (x6 - 224)) * 4096)) + ((((bt x0 (wrap64 (x1 + 1))) - 128) % 256) * 64))) + (((bt x0 (wrap64 (x1 + 2))) - 128) % 256))) ≥ 2048 then (some (wrap64 ((wrap64 ((wrap64 ((wrap64 (x6 - 224)) * 4096)) + ((((bt x0 (wrap64 (x1 + 1))) - 128) % 256) * 64))) + (((bt x0 (wrap64 (x1 + 2))) - 128) % 256)), 3)) else (some (0, 0))) else (none)) else (none)) else (none)) else (none)) else (some (0, 0))
end
def bookplateref04_at.f (k : Nat) (a0 : ByteArray) (a1 : Int) : Option (Int × Int) := if 0 ≤ a1 then (if a1 < (a0.size : Int) then (if (wrap64 (bt a0 a1)) < 128 then (some (wrap64 (bt a0 a1), 1)) else (if (wrap64 (bt a0 a1)) ≥ 194 then (if (wrap64 (bt a0 a1)) < 224 then (if (wrap64 (a1 + 1)) < (a0.size : Int) then (if 0 ≤ (wrap64 (a1 + 1)) then (bookplateref04_at.j0 k a0 a1 (wrap64 (bt a0 a1)) (((bt a0 (wrap64 (a1 + 1))) / 64) == 2)) else (none)) else (bookplateref04_at.j0 k a0 a1 (wrap64 (bt a0 a1)) false)) else (bookplateref04_at.j0 k a0 a1 (wrap64 (bt a0 a1)) false)) else (bookplateref04_at.j0 k a0 a1 (wrap64 (bt a0 a1)) false))) else (none)) else (none)
set_option maxHeartbeats 8000000 in
set_option maxRecDepth 100000 in
theorem bookplateref04_at.calls (k : Nat) (a0 : ByteArray) (a1 : Int) (r1 : Int) (r2 : Int) (w : World) (h : bookplateref04_at.f k a0 a1 = some (r1, r2)) :
    Calls Tryd.prog 60 #[.string a0, .int .i64 a1] w fun e w' => e = .returned (.tuple #[.int .i64 r1, .int .i64 r2]) ∧ Drawn0 w w' := by
  have H : (if 0 ≤ a1 then (if a1 < (a0.size : Int) then (if (wrap64 (bt a0 a1)) < 128 then (some (wrap64 (bt a0 a1), 1)) else (if (wrap64 (bt a0 a1)) ≥ 194 then (if (wrap64 (bt a0 a1)) < 224 then (if (wrap64 (a1 + 1)) < (a0.size : Int) then (if 0 ≤ (wrap64 (a1 + 1)) then (bookplateref04_at.j0 k a0 a1 (wrap64 (bt a0 a1)) (((bt a0 (wrap64 (a1 + 1))) / 64) == 2)) else (none)) else (bookplateref04_at.j0 k a0 a1 (wrap64 (bt a0 a1)) false)) else (bookplateref04_at.j0 k a0 a1 (wrap64 (bt a0 a1)) false)) else (bookplateref04_at.j0 k a0 a1 (wrap64 (bt a0 a1)) false))) else (none)) else (none)) = some (r1, r2) := h
  clear h
  by_cases c3 : 0 ≤ a1
  · rw [if_pos c3] at H
    have c3b0 : decide (0 ≤ a1) = true := decide_eq_true c3
    clear c3
    by_cases c4 : a1 < (a0.size : Int)
    · rw [if_pos c4] at H
      have c4b0 : decide (a1 < (a0.size : Int)) = true := decide_eq_true c4
      clear c4
      by_cases c6 : (wrap64 (bt a0 a1)) < 128
      · rw [if_pos c6] at H
        have c6b0 : decide ((wrap64 (bt a0 a1)) < 128) = true := decide_eq_true c6
        clear c6
        simp only [Option.some.injEq, Prod.mk.injEq] at H
        obtain ⟨rfl, rfl⟩ := H
        have p5 : 0 ≤ (a1 : Int) := of_decide_eq_true (by first | (with_reducible assumption) | assumption)
        have q5 : a1 < (a0.size : Int) := of_decide_eq_true (by first | (with_reducible assumption) | assumption)
        have hx5 := bt_at a0 a1
        replace p5 := eq_true p5
        replace q5 := eq_true q5
        go_enter Tryd.func60, Tryd.ntmps60
        go_wp2
        repeat (go_quiet (fail); try go_wp2)
        go_ret2
        exact ⟨by first | rfl | (simp; done) | (simp [*]; done), by repeat (first | exact Drawn0.refl _ | apply Drawn0.step)⟩
      · rw [if_neg c6] at H
        have c6b0 : decide ((wrap64 (bt a0 a1)) < 128) = false := decide_eq_false c6
        clear c6
        have HC7 := Aside0.mk H
        clear H
        have p5 : 0 ≤ (a1 : Int) := of_decide_eq_true (by first | (with_reducible assumption) | assumption)
        have q5 : a1 < (a0.size : Int) := of_decide_eq_true (by first | (with_reducible assumption) | assumption)
        have hx5 := bt_at a0 a1
        replace p5 := eq_true p5
        replace q5 := eq_true q5
        go_enter Tryd.func60, Tryd.ntmps60
        go_upto_region 4 with (fail)
        repeat (go_quiet (fail); go_upto_region 4 with (fail))
        go_cut [35] (fun v35 wc => ∃ (kq : Nat) (x35_6 : Bool), v35 = .bool x35_6 ∧ Aside0 (bookplateref04_at.j0 kq a0 a1 (wrap64 (bt a0 a1)) x35_6 = some (r1, r2)) ∧ Aside0 (kq ≤ k) ∧ Drawn0 w wc)
        case first =>
          have H := HC7.out
          clear HC7
          by_cases c8 : (wrap64 (bt a0 a1)) ≥ 194
          · rw [if_pos c8] at H
            have c8b0 : decide (194 ≤ (wrap64 (bt a0 a1))) = true := decide_eq_true c8
            clear c8
            (first | rw [c8b0] | (simp only [i64_w, i32_w]; rw [c8b0]) | skip)
            by_cases c9 : (wrap64 (bt a0 a1)) < 224
            · rw [if_pos c9] at H
              have c9b0 : decide ((wrap64 (bt a0 a1)) < 224) = true := decide_eq_true c9
              clear c9
              by_cases c10 : (wrap64 (a1 + 1)) < (a0.size : Int)
              · rw [if_pos c10] at H
                have c10b0 : decide ((wrap64 (a1 + 1)) < (a0.size : Int)) = true := decide_eq_true c10
                clear c10
                obtain ⟨ji11, hji11⟩ : ∃ j_ : Int, (wrap64 (a1 + 1)) = j_ := ⟨_, rfl⟩
                replace H : (if 0 ≤ (ji11) then (bookplateref04_at.j0 k a0 a1 (wrap64 (bt a0 a1)) (((bt a0 (ji11)) / 64) == 2)) else (none)) = some (r1, r2) := by first | (rw [hji11] at H; exact H) | (simp only [hji11] at H ⊢; exact H)
                (try rw [hji11] at c10b0)
                have hji11w : (IntKind.i64.wrap (a1 + 1)) = ji11 := (i64_w _).trans hji11
                by_cases c12 : 0 ≤ (ji11)
                · rw [if_pos c12] at H
                  have c12b0 : decide (0 ≤ (ji11)) = true := decide_eq_true c12
                  clear c12
                  have H' := Aside0.mk H
                  clear H
                  have p13 : 0 ≤ ((ji11) : Int) := of_decide_eq_true (by first | (with_reducible assumption) | assumption)
                  have q13 : (ji11) < (a0.size : Int) := of_decide_eq_true (by first | (with_reducible assumption) | assumption)
                  have hx13 := bt_at a0 (ji11)
                  replace p13 := eq_true p13
                  replace q13 := eq_true q13
                  go_wp2
                  repeat (go_quiet (fail); try go_wp2)
                  go_meet
                  case rel => exact ⟨_, ((((bt a0 (ji11)) / 64) == 2)), (by first | rfl | (simp; done) | (simp only [← hji11] <;> (first | rfl | simp)) | (simp [*]; done)), H', ⟨by first | omega | exact Nat.le_refl _⟩, by repeat (first | exact Drawn0.refl _ | apply Drawn0.step)⟩
                · rw [if_neg c12] at H
                  exact absurd H (by simp)
              · rw [if_neg c10] at H
                have c10b0 : decide ((wrap64 (a1 + 1)) < (a0.size : Int)) = false := decide_eq_false c10
                clear c10
                have H' := Aside0.mk H
                clear H
                go_wp2
                repeat (go_quiet (fail); try go_wp2)
                go_meet
                case rel => exact ⟨_, (false), (by first | rfl | (simp; done) | (simp [*]; done)), H', ⟨by first | omega | exact Nat.le_refl _⟩, by repeat (first | exact Drawn0.refl _ | apply Drawn0.step)⟩
            · rw [if_neg c9] at H
              have c9b0 : decide ((wrap64 (bt a0 a1)) < 224) = false := decide_eq_false c9
              clear c9
              have H' := Aside0.mk H
              clear H
              go_wp2
              repeat (go_quiet (fail); try go_wp2)
              go_meet
              case rel => exact ⟨_, (false), (by first | rfl | (simp; done) | (simp [*]; done)), H', ⟨by first | omega | exact Nat.le_refl _⟩, by repeat (first | exact Drawn0.refl _ | apply Drawn0.step)⟩
          · rw [if_neg c8] at H
            have c8b0 : decide (194 ≤ (wrap64 (bt a0 a1))) = false := decide_eq_false c8
            clear c8
            (first | rw [c8b0] | (simp only [i64_w, i32_w]; rw [c8b0]) | skip)
            have H' := Aside0.mk H
            clear H
            go_wp2
            repeat (go_quiet (fail); try go_wp2)
            go_meet
            case rel => exact ⟨_, (false), (by first | rfl | (simp; done) | (simp [*]; done)), H', ⟨by first | omega | exact Nat.le_refl _⟩, by repeat (first | exact Drawn0.refl _ | apply Drawn0.step)⟩
        case rest =>
          clear HC7
          try clear c1
          try clear p1
          try clear q1
          try clear hx1
          try clear p2
          try clear c3
          try clear c3b0
          try clear c4
          try clear c4b0
          try clear p5
          try clear q5
          try clear hx5
          try clear c6
          try clear c6b0
          try clear p6
          try clear c8
          try clear c8b0
          try clear c9
          try clear c9b0
          try clear c10
          try clear c10b0
          try clear c12
          try clear c12b0
          try clear p13
          try clear q13
          try clear hx13
          try clear p13
          try clear p5
          try clear q13
          try clear q5
          obtain ⟨kq, x35_6, rfl, HA, HJ6, ⟨mc6, rfl⟩⟩ := hcut
          cases kq with
          | zero => exact absurd HA.out (by simp [bookplateref04_at.j0])
          | succ kj6 =>
            have H := HA.out
            clear HA
            simp only [bookplateref04_at.j0] at H
            by_cases c14 : x35_6 = true
            · subst c14
              have H1 : (if 0 ≤ (wrap64 (a1 + 1)) then (if (wrap64 (a1 + 1)) < (a0.size : Int) then (some (wrap64 ((wrap64 ((wrap64 ((wrap64 (bt a0 a1)) - 192)) * 64)) + (((bt a0 (wrap64 (a1 + 1))) - 128) % 256)), 2)) else (none)) else (none)) = some (r1, r2) := by rw [if_pos rfl] at H; exact H
              clear H
              have H := H1
              clear H1
              obtain ⟨ji15, hji15⟩ : ∃ j_ : Int, (wrap64 (a1 + 1)) = j_ := ⟨_, rfl⟩
              replace H : (if 0 ≤ (ji15) then (if (ji15) < (a0.size : Int) then (some (wrap64 ((wrap64 ((wrap64 ((wrap64 (bt a0 a1)) - 192)) * 64)) + (((bt a0 (ji15)) - 128) % 256)), 2)) else (none)) else (none)) = some (r1, r2) := by first | (rw [hji15] at H; exact H) | (simp only [hji15] at H ⊢; exact H)
              have hji15w : (IntKind.i64.wrap (a1 + 1)) = ji15 := (i64_w _).trans hji15
              by_cases c16 : 0 ≤ (ji15)
              · rw [if_pos c16] at H
                have c16b0 : decide (0 ≤ (ji15)) = true := decide_eq_true c16
                clear c16
                by_cases c17 : (ji15) < (a0.size : Int)
                · rw [if_pos c17] at H
                  have c17b0 : decide ((ji15) < (a0.size : Int)) = true := decide_eq_true c17
                  clear c17
                  simp only [Option.some.injEq, Prod.mk.injEq] at H
                  obtain ⟨rfl, rfl⟩ := H
                  have p18 : 0 ≤ ((ji15) : Int) := of_decide_eq_true (by first | (with_reducible assumption) | assumption)
                  have q18 : (ji15) < (a0.size : Int) := of_decide_eq_true (by first | (with_reducible assumption) | assumption)
                  have hx18 := bt_at a0 (ji15)
                  replace p18 := eq_true p18
                  replace q18 := eq_true q18
                  go_wp2
                  repeat (go_quiet (fail); try go_wp2)
                  go_ret2
                  exact ⟨by first | rfl | (simp; done) | (simp only [← hji15] <;> (first | rfl | simp)) | (simp [*]; done), by repeat (first | exact Drawn0.refl _ | apply Drawn0.step)⟩
                · rw [if_neg c17] at H
                  exact absurd H (by simp)
              · rw [if_neg c16] at H
                exact absurd H (by simp)
            · replace c14 := Bool.eq_false_iff.mpr c14
              subst c14
              have H1 : (if (wrap64 (bt a0 a1)) ≥ 224 then (if (wrap64 (bt a0 a1)) < 240 then (if (wrap64 (a1 + 2)) < (a0.size : Int) then (if 0 ≤ (wrap64 (a1 + 1)) then (if (wrap64 (a1 + 1)) < (a0.size : Int) then (if ((bt a0 (wrap64 (a1 + 1))) / 64) = 2 then (if 0 ≤ (wrap64 (a1 + 2)) then (bookplateref04_at.j1 kj6 a0 a1 (wrap64 (bt a0 a1)) (((bt a0 (wrap64 (a1 + 2))) / 64) == 2)) else (none)) else (bookplateref04_at.j1 kj6 a0 a1 (wrap64 (bt a0 a1)) false)) else (none)) else (none)) else (bookplateref04_at.j1 kj6 a0 a1 (wrap64 (bt a0 a1)) false)) else (bookplateref04_at.j1 kj6 a0 a1 (wrap64 (bt a0 a1)) false)) else (bookplateref04_at.j1 kj6 a0 a1 (wrap64 (bt a0 a1)) false)) = some (r1, r2) := by rw [if_neg (show ¬ (false = true) by decide)] at H; exact H
              clear H
              have H := H1
              clear H1
              have HC19 := Aside0.mk H
              clear H
              go_upto_region 6 with (fail)
              repeat (go_quiet (fail); go_upto_region 6 with (fail))
              go_cut [74] (fun v74 wc => ∃ (kq : Nat) (x74_18 : Bool), v74 = .bool x74_18 ∧ Aside0 (bookplateref04_at.j1 kq a0 a1 (wrap64 (bt a0 a1)) x74_18 = some (r1, r2)) ∧ Aside0 (kq ≤ kj6) ∧ Drawn0 w wc)
              case first =>
                have H := HC19.out
                clear HC19
                by_cases c20 : (wrap64 (bt a0 a1)) ≥ 224
                · rw [if_pos c20] at H
                  have c20b0 : decide (224 ≤ (wrap64 (bt a0 a1))) = true := decide_eq_true c20
                  clear c20
                  (first | rw [c20b0] | (simp only [i64_w, i32_w]; rw [c20b0]) | skip)
                  by_cases c21 : (wrap64 (bt a0 a1)) < 240
                  · rw [if_pos c21] at H
                    have c21b0 : decide ((wrap64 (bt a0 a1)) < 240) = true := decide_eq_true c21
                    clear c21
                    by_cases c22 : (wrap64 (a1 + 2)) < (a0.size : Int)
                    · rw [if_pos c22] at H
                      have c22b0 : decide ((wrap64 (a1 + 2)) < (a0.size : Int)) = true := decide_eq_true c22
                      clear c22
                      obtain ⟨ji23, hji23⟩ : ∃ j_ : Int, (wrap64 (a1 + 1)) = j_ := ⟨_, rfl⟩
                      replace H : (if 0 ≤ (ji23) then (if (ji23) < (a0.size : Int) then (if ((bt a0 (ji23)) / 64) = 2 then (if 0 ≤ (wrap64 (a1 + 2)) then (bookplateref04_at.j1 kj6 a0 a1 (wrap64 (bt a0 a1)) (((bt a0 (wrap64 (a1 + 2))) / 64) == 2)) else (none)) else (bookplateref04_at.j1 kj6 a0 a1 (wrap64 (bt a0 a1)) false)) else (none)) else (none)) = some (r1, r2) := by first | (rw [hji23] at H; exact H) | (simp only [hji23] at H ⊢; exact H)
                      have hji23w : (IntKind.i64.wrap (a1 + 1)) = ji23 := (i64_w _).trans hji23
                      by_cases c24 : 0 ≤ (ji23)
                      · rw [if_pos c24] at H
                        have c24b0 : decide (0 ≤ (ji23)) = true := decide_eq_true c24
                        clear c24
                        by_cases c25 : (ji23) < (a0.size : Int)
                        · rw [if_pos c25] at H
                          have c25b0 : decide ((ji23) < (a0.size : Int)) = true := decide_eq_true c25
                          clear c25
                          by_cases c27 : ((bt a0 (ji23)) / 64) = 2
                          · rw [if_pos c27] at H
                            have c27b0 : (((bt a0 (ji23)) / 64) == 2) = true := beq_iff_eq.mpr c27
                            have c27b1 : (((bt a0 (ji23)) / 64) != 2) = false := bne_eq_false_iff_eq.mpr c27
                            clear c27
                            obtain ⟨ji28, hji28⟩ : ∃ j_ : Int, (wrap64 (a1 + 2)) = j_ := ⟨_, rfl⟩
                            replace H : (if 0 ≤ (ji28) then (bookplateref04_at.j1 kj6 a0 a1 (wrap64 (bt a0 a1)) (((bt a0 (ji28)) / 64) == 2)) else (none)) = some (r1, r2) := by first | (rw [hji28] at H; exact H) | (simp only [hji28] at H ⊢; exact H)
                            (try rw [hji28] at c22b0)
                            have hji28w : (IntKind.i64.wrap (a1 + 2)) = ji28 := (i64_w _).trans hji28
                            by_cases c29 : 0 ≤ (ji28)
                            · rw [if_pos c29] at H
                              have c29b0 : decide (0 ≤ (ji28)) = true := decide_eq_true c29
                              clear c29
                              have H' := Aside0.mk H
                              clear H
                              have p26 : 0 ≤ ((ji23) : Int) := of_decide_eq_true (by first | (with_reducible assumption) | assumption)
                              have q26 : (ji23) < (a0.size : Int) := of_decide_eq_true (by first | (with_reducible assumption) | assumption)
                              have hx26 := bt_at a0 (ji23)
                              replace p26 := eq_true p26
                              replace q26 := eq_true q26
                              have p30 : 0 ≤ ((ji28) : Int) := of_decide_eq_true (by first | (with_reducible assumption) | assumption)
                              have q30 : (ji28) < (a0.size : Int) := of_decide_eq_true (by first | (with_reducible assumption) | assumption)
                              have hx30 := bt_at a0 (ji28)
                              replace p30 := eq_true p30
                              replace q30 := eq_true q30
                              go_wp2
                              repeat (go_quiet (fail); try go_wp2)
                              go_meet
                              case rel => exact ⟨_, ((((bt a0 (ji28)) / 64) == 2)), (by first | rfl | (simp; done) | (simp only [← hji28] <;> (first | rfl | simp)) | (simp [*]; done)), H', ⟨by have := HJ6.out; first | omega | exact Nat.le_refl _⟩, by repeat (first | exact Drawn0.refl _ | apply Drawn0.step)⟩
                            · rw [if_neg c29] at H
                              exact absurd H (by simp)
                          · rw [if_neg c27] at H
                            have c27b0 : (((bt a0 (ji23)) / 64) == 2) = false := beq_eq_false_iff_ne.mpr c27
                            have c27b1 : (((bt a0 (ji23)) / 64) != 2) = true := bne_iff_ne.mpr c27
                            have H' := Aside0.mk H
                            clear H
                            have p26 : 0 ≤ ((ji23) : Int) := of_decide_eq_true (by first | (with_reducible assumption) | assumption)
                            have q26 : (ji23) < (a0.size : Int) := of_decide_eq_true (by first | (with_reducible assumption) | assumption)
                            have hx26 := bt_at a0 (ji23)
                            replace p26 := eq_true p26
                            replace q26 := eq_true q26
                            go_wp2
                            repeat (go_quiet (fail); try go_wp2)
                            go_meet
                            case rel => exact ⟨_, (false), (by first | rfl | (simp; done) | (simp [*]; done)), H', ⟨by have := HJ6.out; first | omega | exact Nat.le_refl _⟩, by repeat (first | exact Drawn0.refl _ | apply Drawn0.step)⟩
                        · rw [if_neg c25] at H
                          exact absurd H (by simp)
                      · rw [if_neg c24] at H
                        exact absurd H (by simp)
                    · rw [if_neg c22] at H
                      have c22b0 : decide ((wrap64 (a1 + 2)) < (a0.size : Int)) = false := decide_eq_false c22
                      clear c22
                      have H' := Aside0.mk H
                      clear H
                      go_wp2
                      repeat (go_quiet (fail); try go_wp2)
                      go_meet
                      case rel => exact ⟨_, (false), (by first | rfl | (simp; done) | (simp [*]; done)), H', ⟨by have := HJ6.out; first | omega | exact Nat.le_refl _⟩, by repeat (first | exact Drawn0.refl _ | apply Drawn0.step)⟩
                  · rw [if_neg c21] at H
                    have c21b0 : decide ((wrap64 (bt a0 a1)) < 240) = false := decide_eq_false c21
                    clear c21
                    have H' := Aside0.mk H
                    clear H
                    go_wp2
                    repeat (go_quiet (fail); try go_wp2)
                    go_meet
                    case rel => exact ⟨_, (false), (by first | rfl | (simp; done) | (simp [*]; done)), H', ⟨by have := HJ6.out; first | omega | exact Nat.le_refl _⟩, by repeat (first | exact Drawn0.refl _ | apply Drawn0.step)⟩
                · rw [if_neg c20] at H
                  have c20b0 : decide (224 ≤ (wrap64 (bt a0 a1))) = false := decide_eq_false c20
                  clear c20
                  (first | rw [c20b0] | (simp only [i64_w, i32_w]; rw [c20b0]) | skip)
                  have H' := Aside0.mk H
                  clear H
                  go_wp2
                  repeat (go_quiet (fail); try go_wp2)
                  go_meet
                  case rel => exact ⟨_, (false), (by first | rfl | (simp; done) | (simp [*]; done)), H', ⟨by have := HJ6.out; first | omega | exact Nat.le_refl _⟩, by repeat (first | exact Drawn0.refl _ | apply Drawn0.step)⟩
              case rest =>
                clear HC19
                try clear c1
                try clear p1
                try clear q1
                try clear hx1
                try clear c2
                try clear p2
                try clear q2
                try clear hx2
                try clear c3
                try clear c3b0
                try clear p3
                try clear q3
                try clear hx3
                try clear c4
                try clear c4b0
                try clear p5
                try clear q5
                try clear hx5
                try clear c6
                try clear c6b0
                try clear p6
                try clear c8
                try clear c8b0
                try clear c9
                try clear c9b0
                try clear c10
                try clear c10b0
                try clear c12
                try clear c12b0
                try clear p13
                try clear q13
                try clear hx13
                try clear c14
                try clear c16
                try clear c16b0
                try clear c17
                try clear c17b0
                try clear p18
                try clear q18
                try clear hx18
                try clear c20
                try clear c20b0
                try clear c21
                try clear c21b0
                try clear c22
                try clear c22b0
                try clear c24
                try clear c24b0
                try clear c25
                try clear c25b0
                try clear p26
                try clear q26
                try clear hx26
                try clear c27
                try clear c27b0
                try clear c27b1
                try clear c29
                try clear c29b0
                try clear p30
                try clear q30
                try clear hx30
                try clear p1
                try clear p13
                try clear p18
                try clear p2
                try clear p26
                try clear p30
                try clear p5
                try clear p6
                try clear q1
                try clear q13
                try clear q18
                try clear q26
                try clear q30
                try clear q5
                obtain ⟨kq, x74_18, rfl, HA, HJ18, ⟨mc18, rfl⟩⟩ := hcut
                cases kq with
                | zero => exact absurd HA.out (by simp [bookplateref04_at.j1])
                | succ kj18 =>
                  have H := HA.out
                  clear HA
                  simp only [bookplateref04_at.j1] at H
                  by_cases c31 : x74_18 = true
                  · subst c31
                    have H1 : (if 0 ≤ (wrap64 (a1 + 1)) then (if (wrap64 (a1 + 1)) < (a0.size : Int) then (if 0 ≤ (wrap64 (a1 + 2)) then (if (wrap64 (a1 + 2)) < (a0.size : Int) then (if (wrap64 ((wrap64 ((wrap64 ((wrap64 ((wrap64 (bt a0 a1)) - 224)) * 4096)) + ((((bt a0 (wrap64 (a1 + 1))) - 128) % 256) * 64))) + (((bt a0 (wrap64 (a1 + 2))) - 128) % 256))) ≥ 2048 then (some (wrap64 ((wrap64 ((wrap64 ((wrap64 ((wrap64 (bt a0 a1)) - 224)) * 4096)) + ((((bt a0 (wrap64 (a1 + 1))) - 128) % 256) * 64))) + (((bt a0 (wrap64 (a1 + 2))) - 128) % 256)), 3)) else (some (0, 0))) else (none)) else (none)) else (none)) else (none)) = some (r1, r2) := by rw [if_pos rfl] at H; exact H
                    clear H
                    have H := H1
                    clear H1
                    obtain ⟨ji32, hji32⟩ : ∃ j_ : Int, (wrap64 (a1 + 1)) = j_ := ⟨_, rfl⟩
                    replace H : (if 0 ≤ (ji32) then (if (ji32) < (a0.size : Int) then (if 0 ≤ (wrap64 (a1 + 2)) then (if (wrap64 (a1 + 2)) < (a0.size : Int) then (if (wrap64 ((wrap64 ((wrap64 ((wrap64 ((wrap64 (bt a0 a1)) - 224)) * 4096)) + ((((bt a0 (ji32)) - 128) % 256) * 64))) + (((bt a0 (wrap64 (a1 + 2))) - 128) % 256))) ≥ 2048 then (some (wrap64 ((wrap64 ((wrap64 ((wrap64 ((wrap64 (bt a0 a1)) - 224)) * 4096)) + ((((bt a0 (ji32)) - 128) % 256) * 64))) + (((bt a0 (wrap64 (a1 + 2))) - 128) % 256)), 3)) else (some (0, 0))) else (none)) else (none)) else (none)) else (none)) = some (r1, r2) := by first | (rw [hji32] at H; exact H) | (simp only [hji32] at H ⊢; exact H)
                    have hji32w : (IntKind.i64.wrap (a1 + 1)) = ji32 := (i64_w _).trans hji32
                    by_cases c33 : 0 ≤ (ji32)
                    · rw [if_pos c33] at H
                      have c33b0 : decide (0 ≤ (ji32)) = true := decide_eq_true c33
                      clear c33
                      by_cases c34 : (ji32) < (a0.size : Int)
                      · rw [if_pos c34] at H
                        have c34b0 : decide ((ji32) < (a0.size : Int)) = true := decide_eq_true c34
                        clear c34
                        obtain ⟨ji36, hji36⟩ : ∃ j_ : Int, (wrap64 (a1 + 2)) = j_ := ⟨_, rfl⟩
                        replace H : (if 0 ≤ (ji36) then (if (ji36) < (a0.size : Int) then (if (wrap64 ((wrap64 ((wrap64 ((wrap64 ((wrap64 (bt a0 a1)) - 224)) * 4096)) + ((((bt a0 (ji32)) - 128) % 256) * 64))) + (((bt a0 (ji36)) - 128) % 256))) ≥ 2048 then (some (wrap64 ((wrap64 ((wrap64 ((wrap64 ((wrap64 (bt a0 a1)) - 224)) * 4096)) + ((((bt a0 (ji32)) - 128) % 256) * 64))) + (((bt a0 (ji36)) - 128) % 256)), 3)) else (some (0, 0))) else (none)) else (none)) = some (r1, r2) := by first | (rw [hji36] at H; exact H) | (simp only [hji36] at H ⊢; exact H)
                        have hji36w : (IntKind.i64.wrap (a1 + 2)) = ji36 := (i64_w _).trans hji36
                        by_cases c37 : 0 ≤ (ji36)
                        · rw [if_pos c37] at H
                          have c37b0 : decide (0 ≤ (ji36)) = true := decide_eq_true c37
                          clear c37
                          by_cases c38 : (ji36) < (a0.size : Int)
                          · rw [if_pos c38] at H
                            have c38b0 : decide ((ji36) < (a0.size : Int)) = true := decide_eq_true c38
                            clear c38
                            by_cases c40 : (wrap64 ((wrap64 ((wrap64 ((wrap64 ((wrap64 (bt a0 a1)) - 224)) * 4096)) + ((((bt a0 (ji32)) - 128) % 256) * 64))) + (((bt a0 (ji36)) - 128) % 256))) ≥ 2048
                            · rw [if_pos c40] at H
                              have c40b0 : decide (2048 ≤ (wrap64 ((wrap64 ((wrap64 ((wrap64 ((wrap64 (bt a0 a1)) - 224)) * 4096)) + ((((bt a0 (ji32)) - 128) % 256) * 64))) + (((bt a0 (ji36)) - 128) % 256)))) = true := decide_eq_true c40
                              clear c40
                              simp only [Option.some.injEq, Prod.mk.injEq] at H
                              obtain ⟨rfl, rfl⟩ := H
                              have p35 : 0 ≤ ((ji32) : Int) := of_decide_eq_true (by first | (with_reducible assumption) | assumption)
                              have q35 : (ji32) < (a0.size : Int) := of_decide_eq_true (by first | (with_reducible assumption) | assumption)
                              have hx35 := bt_at a0 (ji32)
                              replace p35 := eq_true p35
                              replace q35 := eq_true q35
                              have p39 : 0 ≤ ((ji36) : Int) := of_decide_eq_true (by first | (with_reducible assumption) | assumption)
                              have q39 : (ji36) < (a0.size : Int) := of_decide_eq_true (by first | (with_reducible assumption) | assumption)
                              have hx39 := bt_at a0 (ji36)
                              replace p39 := eq_true p39
                              replace q39 := eq_true q39
                              go_wp2
                              repeat (go_quiet (fail); try go_wp2)
                              go_ret2
                              exact ⟨by first | rfl | (simp; done) | (simp only [← hji32, ← hji36] <;> (first | rfl | simp)) | (simp [*]; done), by repeat (first | exact Drawn0.refl _ | apply Drawn0.step)⟩
                            · rw [if_neg c40] at H
                              have c40b0 : decide (2048 ≤ (wrap64 ((wrap64 ((wrap64 ((wrap64 ((wrap64 (bt a0 a1)) - 224)) * 4096)) + ((((bt a0 (ji32)) - 128) % 256) * 64))) + (((bt a0 (ji36)) - 128) % 256)))) = false := decide_eq_false c40
                              clear c40
                              simp only [Option.some.injEq, Prod.mk.injEq] at H
                              obtain ⟨rfl, rfl⟩ := H
                              have p35 : 0 ≤ ((ji32) : Int) := of_decide_eq_true (by first | (with_reducible assumption) | assumption)
                              have q35 : (ji32) < (a0.size : Int) := of_decide_eq_true (by first | (with_reducible assumption) | assumption)
                              have hx35 := bt_at a0 (ji32)
                              replace p35 := eq_true p35
                              replace q35 := eq_true q35
                              have p39 : 0 ≤ ((ji36) : Int) := of_decide_eq_true (by first | (with_reducible assumption) | assumption)
                              have q39 : (ji36) < (a0.size : Int) := of_decide_eq_true (by first | (with_reducible assumption) | assumption)
                              have hx39 := bt_at a0 (ji36)
                              replace p39 := eq_true p39
                              replace q39 := eq_true q39
                              go_wp2
                              repeat (go_quiet (fail); try go_wp2)
                              go_ret2
                              exact ⟨by first | rfl | (simp; done) | (simp only [← hji32, ← hji36] <;> (first | rfl | simp)) | (simp [*]; done), by repeat (first | exact Drawn0.refl _ | apply Drawn0.step)⟩
                          · rw [if_neg c38] at H
                            exact absurd H (by simp)
                        · rw [if_neg c37] at H
                          exact absurd H (by simp)
                      · rw [if_neg c34] at H
                        exact absurd H (by simp)
                    · rw [if_neg c33] at H
                      exact absurd H (by simp)
                  · replace c31 := Bool.eq_false_iff.mpr c31
                    subst c31
                    have H1 : (some (0, 0)) = some (r1, r2) := by rw [if_neg (show ¬ (false = true) by decide)] at H; exact H
                    clear H
                    have H := H1
                    clear H1
                    simp only [Option.some.injEq, Prod.mk.injEq] at H
                    obtain ⟨rfl, rfl⟩ := H
                    go_wp2
                    repeat (go_quiet (fail); try go_wp2)
                    go_ret2
                    exact ⟨by first | rfl | (simp; done) | (simp [*]; done), by repeat (first | exact Drawn0.refl _ | apply Drawn0.step)⟩
    · rw [if_neg c4] at H
      exact absurd H (by simp)
  · rw [if_neg c3] at H
    exact absurd H (by simp)
def bookplateref04_in.f (a0 : Int) (a1 : Int) (a2 : Int) : Option (Bool) := if a0 ≥ a1 then (some (decide (a0 ≤ a2))) else (some false)
set_option maxHeartbeats 8000000 in
set_option maxRecDepth 100000 in
theorem bookplateref04_in.calls (a0 : Int) (a1 : Int) (a2 : Int) (r : Bool) (w : World) (h : bookplateref04_in.f a0 a1 a2 = some r) :
    Calls Tryd.prog 83 #[.int .i64 a0, .int .i64 a1, .int .i64 a2] w fun e w' => e = .returned (.bool r) ∧ Drawn0 w w' := by
  have H : (if a0 ≥ a1 then (some (decide (a0 ≤ a2))) else (some false)) = some r := h
  clear h
  by_cases c4 : a0 ≥ a1
  · rw [if_pos c4] at H
    have c4b0 : decide (a1 ≤ a0) = true := decide_eq_true c4
    clear c4
    obtain rfl := Option.some.inj H
    go_enter Tryd.func83, Tryd.ntmps83
    go_wp2
    go_ret
    exact ⟨by first | rfl | (simp; done) | (simp [*]; done), by repeat (first | exact Drawn0.refl _ | apply Drawn0.step)⟩
  · rw [if_neg c4] at H
    have c4b0 : decide (a1 ≤ a0) = false := decide_eq_false c4
    clear c4
    obtain rfl := Option.some.inj H
    go_enter Tryd.func83, Tryd.ntmps83
    go_wp2
    go_ret
    exact ⟨by first | rfl | (simp; done) | (simp [*]; done), by repeat (first | exact Drawn0.refl _ | apply Drawn0.step)⟩
def bookplateref04_listed.l0 : Nat → ByteArray → Int → Int → Option (Bool)
  | 0, _, _, _ => none
  | k + 1, x0, x1, x5 => if x5 < (x0.size : Int) then ((bookplateref04_at.f k x0 x5).bind fun bt113 => (if bt113.1 = x1 then (some true) else (bookplateref04_listed.l0 k x0 x1 (wrap64 (x5 + bt113.2))))) else (some false)
def bookplateref04_listed.f (k : Nat) (a0 : ByteArray) (a1 : Int) : Option (Bool) := bookplateref04_listed.l0 k a0 a1 0
set_option maxHeartbeats 8000000 in
set_option maxRecDepth 100000 in
theorem bookplateref04_listed.calls (k : Nat) (a0 : ByteArray) (a1 : Int) (r : Bool) (w : World) (h : bookplateref04_listed.f k a0 a1 = some r) :
    Calls Tryd.prog 84 #[.string a0, .int .i64 a1] w fun e w' => e = .returned (.bool r) ∧ Drawn0 w w' := by
  have H : (bookplateref04_listed.l0 k a0 a1 0) = some r := h
  clear h
  have H' := Aside0.mk H
  clear H
  go_enter Tryd.func84, Tryd.ntmps84
  go_wp2
  go_loopg [5] k (fun kq v5 w' => ∃ (x5_1 : Int), v5 = .int .i64 x5_1 ∧ Aside0 (bookplateref04_listed.l0 kq a0 a1 x5_1 = some r) ∧ Aside0 (kq ≤ k) ∧ Drawn0 w w')
  case atStart => exact ⟨(0), (by first | rfl | (simp; done) | (simp [*]; done)), H', ⟨Nat.le_refl _⟩, by repeat (first | exact Drawn0.refl _ | apply Drawn0.step)⟩
  case round =>
    clear H'
    try clear p2
    obtain ⟨x5_1, rfl, HA, HK1, ⟨m1, rfl⟩⟩ := hrel
    cases gk with
    | zero => exact absurd HA.out (by simp [bookplateref04_listed.l0])
    | succ k1 =>
      have H := HA.out
      clear HA
      simp only [bookplateref04_listed.l0] at H
      by_cases c3 : x5_1 < (a0.size : Int)
      · rw [if_pos c3] at H
        have c3b0 : decide (x5_1 < (a0.size : Int)) = true := decide_eq_true c3
        clear c3
        replace H := Option.bind_eq_some_iff.mp H
        obtain ⟨⟨t113, t114⟩, A40, H⟩ := H
        replace H : (if t113 = a1 then (some true) else (bookplateref04_listed.l0 k1 a0 a1 (wrap64 (x5_1 + t114)))) = some r := H
        have A4 := Aside0.mk A40
        clear A40
        by_cases c5 : t113 = a1
        · rw [if_pos c5] at H
          have c5b0 : (t113 == a1) = true := beq_iff_eq.mpr c5
          have c5b1 : (t113 != a1) = false := bne_eq_false_iff_eq.mpr c5
          clear c5
          obtain rfl := Option.some.inj H
          go_wp2_with (first | ((with_reducible refine gate_callee (f := 60) rfl ?_); refine goesL_ (some 15) rfl rfl Tryd.func60 (by kernel_rfl) rfl #[.string a0, .int .i64 x5_1] rfl (by (try simp only [List.map_toArray, List.map_cons, List.map_nil]); first | done | rfl | (simp only [List.length_drop, List.length_take]; rfl)) ?_; (with_reducible refine (bookplateref04_at.calls k1 a0 x5_1 t113 t114 _ A4.out).mono ?_); rintro e w' ⟨rfl, ⟨nd, rfl⟩⟩; refine ⟨_, rfl, ?_⟩))
          go_ret
          exact ⟨by first | rfl | (simp; done) | (simp [*]; done), by repeat (first | exact Drawn0.refl _ | apply Drawn0.step)⟩
        · rw [if_neg c5] at H
          have c5b0 : (t113 == a1) = false := beq_eq_false_iff_ne.mpr c5
          have c5b1 : (t113 != a1) = true := bne_iff_ne.mpr c5
          have H' := Aside0.mk H
          clear H
          go_wp2_with (first | ((with_reducible refine gate_callee (f := 60) rfl ?_); refine goesL_ (some 15) rfl rfl Tryd.func60 (by kernel_rfl) rfl #[.string a0, .int .i64 x5_1] rfl (by (try simp only [List.map_toArray, List.map_cons, List.map_nil]); first | done | rfl | (simp only [List.length_drop, List.length_take]; rfl)) ?_; (with_reducible refine (bookplateref04_at.calls k1 a0 x5_1 t113 t114 _ A4.out).mono ?_); rintro e w' ⟨rfl, ⟨nd, rfl⟩⟩; refine ⟨_, rfl, ?_⟩))
          go_roundg k1
          case measure => have := HK1.out; omega
          case rel => exact ⟨(wrap64 (x5_1 + t114)), (by first | rfl | (simp; done) | (simp [*]; done)), H', ⟨by have := HK1.out; omega⟩, by repeat (first | exact Drawn0.refl _ | apply Drawn0.step)⟩
      · rw [if_neg c3] at H
        have c3b0 : decide (x5_1 < (a0.size : Int)) = false := decide_eq_false c3
        clear c3
        obtain rfl := Option.some.inj H
        go_wp2
        go_ret
        exact ⟨by first | rfl | (simp; done) | (simp [*]; done), by repeat (first | exact Drawn0.refl _ | apply Drawn0.step)⟩
end Go.Proofs.YthcpdhniakpbaaaDoor.X
end
