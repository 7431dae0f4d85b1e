/- The law NormalStrips returns true for every input, the package variables that it reads holding what the row lists. Part 3 of the texts that its proof stands on; put together by a program. -/
import Derived.Test.YthcpdhniakpbaaaDoorNormalStripsB
import Derived.Shelf.Strings.Builder1
import Derived.Shelf.Small.Utf8
import Derived.Shelf.Small.Strs
import Derived.Shelf.Strings.BuilderF
import Derived.Shelf.Strings.BuilderK
import Derived.Shelf.Strings.BuilderRune
import Derived.Shelf.Utf8.AppendRune
import Derived.Shelf.Utf8.RuneCount
import Derived.Shelf.Strings.Search1
import Derived.Shelf.Strings.Prefix
import Derived.Shelf.Strings.Fields
import Derived.Shelf.Unicode.Latin
import Derived.Shelf.Strings.Runes
import Derived.Shelf.Strings.RuneCount
import Derived.Shelf.Unicode.DecodeSlow
import Derived.Shelf.Unicode.DecodeAny
import Derived.Shelf.Unicode.Is16White
import Derived.Shelf.Unicode.IsSpaceAny
import Derived.Shelf.Unicode.Is16WhiteD
import Derived.Shelf.Unicode.IsSpaceAnyD
import Derived.Shelf.Strings.FieldsAny
import Derived.Shelf.Strings.FieldsFuncAny
import Derived.Shelf.Unicode.Is16Any
import Derived.Shelf.Unicode.Is32Any
import Derived.Shelf.Unicode.ExclAny
import Derived.Shelf.Slices.Equal
import Derived.Shelf.Slices.Empties2
import Derived.Ground.SlgnProg
import Derived.Shelf.SlicesE.Equal
import Derived.Ground.SlgfProg
import Derived.Shelf.SlicesE.IndexFunc
import Derived.Shelf.SlicesE.DeleteFunc
import Derived.Test.YthcpdhniakpbaaaDoorProg
import Derived.WalkKit
import Derived.WalkSmall
import Derived.Below
import Derived.Deep.Draws
import Derived.Deep.AppendLies
import Derived.Maps.AppendAt
import Derived.OwnWalk
import Derived.Laws.BytesArg
import Derived.Laws.MakeOwn
import Derived.Laws.OwnMore
import Derived.Deep.OwnRows
import Derived.Tactics
import Derived.Lib.ConvBytes
import Derived.Laws.Slices
import Derived.KernelRfl
import Derived.RowKit3
import Derived.Deep.LoopGhost
import Derived.Deep.QuietTactic
import Derived.BigQuiet
import Derived.WideLaws
import Derived.Deep.DeepCutAuto
import Derived.Deep.CutBlock
import Derived.Deep.RegionHeld3
import Derived.Laws.Rows
import Derived.Lib.AppendStr
import Derived.ArgAppend
import Derived.Laws.IdiomCopy
import Derived.OrdersHeld
import Derived.Laws.BitsLemmas
import Derived.RowKit
import Derived.Sort.WalkA
import Derived.Lib.Hide
import Derived.Shelf.SlSortCmp.Insertion1
import Derived.Deep.Cut
import Derived.Deep.CutRange
import Derived.Outline
import Derived.WalkMore
import Derived.ScopeJumps
import Derived.Lib.IndexLaws
import Derived.Lib.IndexBytes
import Derived.Lib.RuneBytes
import Derived.WalkSpells
import Derived.Deep.WholeRow
import Derived.Laws.IdiomStrings
section
namespace Go.Proofs
open Go.Shelf
open Go.Shelf
def Tryd.lays169_ren : Go.Shelf.Ren := ⟨fun | 169 => 81 | n => n, fun | 70 => 70 | 9 => 9 | 0 => 0 | 72 => 72 | 37 => 42 | 127 => 98 | 3 => 3 | 5 => 5 | n => n, fun | n => n⟩
theorem Tryd.lays169 : Go.Proofs.Lays.n169 Tryd.prog Tryd.lays169_ren := {
  mixed := by kernel_rfl
  f169 := Tryd.func81.trans (congrArg some (by kernel_rfl))
  t0 := Tryd.underlying0
  a0 := Tryd.isAgg0
  z0 := Tryd.sizeOf0
  v0 := Tryd.zeroValue0
  t3 := Tryd.underlying3
  a3 := Tryd.isAgg3
  z3 := Tryd.sizeOf3
  v3 := Tryd.zeroValue3
  t9 := Tryd.underlying9
  a9 := Tryd.isAgg9
  z9 := Tryd.sizeOf9
  v9 := Tryd.zeroValue9
  t37 := Tryd.underlying42
  a37 := Tryd.isAgg42
  z37 := Tryd.sizeOf42
  v37 := Tryd.zeroValue42
  t70 := Tryd.underlying70
  a70 := Tryd.isAgg70
  z70 := Tryd.sizeOf70
  v70 := Tryd.zeroValue70
  t72 := Tryd.underlying72
  a72 := Tryd.isAgg72
  z72 := Tryd.sizeOf72
  v72 := Tryd.zeroValue72
  t127 := Tryd.underlying98
  a127 := Tryd.isAgg98
  z127 := Tryd.sizeOf98
  v127 := Tryd.zeroValue98 }
theorem Tryd.Builder_Extra_169 : Builder.Extra Tryd.prog Tryd.lays169_ren := {
  sizeBuilder := by kernel_rfl
  liesBuilder := by kernel_rfl
  t5 := Tryd.underlying5
  a5 := Tryd.isAgg5
  z5 := Tryd.sizeOf5
  v5 := Tryd.zeroValue5
  infoByte := by kernel_rfl
  cellsByte := by kernel_rfl
  sizeByte := by kernel_rfl
  neB5 := by decide }
def Tryd.lays137_ren : Go.Shelf.Ren := ⟨fun | 137 => 114 | 217 => 122 | 266 => 124 | n => n, fun | 9 => 9 | 5 => 5 | 3 => 3 | n => n, fun | n => n⟩
theorem Tryd.lays137 : Go.Proofs.Lays.n137 Tryd.prog Tryd.lays137_ren := {
  mixed := by kernel_rfl
  f137 := Tryd.func114.trans (congrArg some (by kernel_rfl))
  f217 := Tryd.func122.trans (congrArg some (by kernel_rfl))
  f266 := Tryd.func124.trans (congrArg some (by kernel_rfl))
  t3 := Tryd.underlying3
  a3 := Tryd.isAgg3
  z3 := Tryd.sizeOf3
  v3 := Tryd.zeroValue3
  t5 := Tryd.underlying5
  a5 := Tryd.isAgg5
  z5 := Tryd.sizeOf5
  v5 := Tryd.zeroValue5
  t9 := Tryd.underlying9
  a9 := Tryd.isAgg9
  z9 := Tryd.sizeOf9
  v9 := Tryd.zeroValue9 }
open Go.RowKit in
theorem Tryd.strings_IndexByte (s : ByteArray) (c : Int) (w : World) :
    Calls Tryd.prog 114 #[.string s, .int .u8 c] w fun e w' => e = .returned (.int .i64 (Lib.indexByte s.data.toList c.toNat.toUInt8)) ∧ w' = w := Any.strings_IndexByte Tryd.lays137 s c w
open Go.RowKit in
theorem Tryd.Builder_String_any_k (B b : Nat) (l : List UInt8) (w : World) (h : Lib.IsBuilderF 72 5 B b (Lib.byteCells l) w) (hBw : B ≤ w.heap.size) :
    Calls Tryd.prog 81 #[.pointer (some ⟨b, 0, none⟩)] w fun e w' => e = .returned (.string ⟨l.toArray⟩) ∧ (Lib.IsBuilderF 72 5 B b (Lib.byteCells l) w' ∧ Below B w w' ∧ Lib.OthersKept 5 (some b) w w') := Any.Builder_String_any_k Tryd.lays169 Tryd.Builder_Extra_169 B b l w h hBw
def Tryd.lays242_ren : Go.Shelf.Ren := ⟨fun | 242 => 112 | 278 => 121 | n => n, fun | 37 => 42 | 21 => 21 | 51 => 113 | 4 => 4 | 5 => 5 | 46 => 80 | n => n, fun | n => n⟩
theorem Tryd.lays242 : Go.Proofs.Lays.n242 Tryd.prog Tryd.lays242_ren := {
  mixed := by kernel_rfl
  f242 := Tryd.func112.trans (congrArg some (by kernel_rfl))
  f278 := Tryd.func121.trans (congrArg some (by kernel_rfl))
  t4 := Tryd.underlying4
  a4 := Tryd.isAgg4
  z4 := Tryd.sizeOf4
  v4 := Tryd.zeroValue4
  t5 := Tryd.underlying5
  a5 := Tryd.isAgg5
  z5 := Tryd.sizeOf5
  v5 := Tryd.zeroValue5
  t21 := Tryd.underlying21
  a21 := Tryd.isAgg21
  z21 := Tryd.sizeOf21
  v21 := Tryd.zeroValue21
  t37 := Tryd.underlying42
  a37 := Tryd.isAgg42
  z37 := Tryd.sizeOf42
  v37 := Tryd.zeroValue42
  t46 := Tryd.underlying80
  a46 := Tryd.isAgg80
  z46 := Tryd.sizeOf80
  v46 := Tryd.zeroValue80
  t51 := Tryd.underlying113
  a51 := Tryd.isAgg113
  z51 := Tryd.sizeOf113
  v51 := Tryd.zeroValue113 }
open Go.RowKit in
theorem Tryd.utf8_AppendRune_row (B : Nat) (v : Value) (n : Nat) (xs : List Value) (r : Int) (hr0 : -2147483648 ≤ r) (hr1 : r ≤ 2147483647) (w : World) (hown : w.ownsRowF B 5 1 v n xs) (hlen : n + 4 ≤ 140737488355328) (hBw : B ≤ w.heap.size) :
    Calls Tryd.prog 112 #[v, .int .i32 r] w fun e w' => ∃ v', e = .returned v' ∧ w'.ownsRowF B 5 1 v' (n + (Lib.runeCells r).length) (xs ++ Lib.runeCells r) ∧ ∃ o, (w.alloc o).grownBy w' v.ownBlock := Any.utf8_AppendRune_row Tryd.lays242 (by kernel_rfl) B v n xs r hr0 hr1 w hown hlen hBw
def Tryd.lays195_ren : Go.Shelf.Ren := ⟨fun | 195 => 107 | n => n, fun | 9 => 9 | 3 => 3 | 0 => 0 | 4 => 4 | n => n, fun | n => n⟩
theorem Tryd.lays195 : Go.Proofs.Lays.n195 Tryd.prog Tryd.lays195_ren := {
  mixed := by kernel_rfl
  f195 := Tryd.func107.trans (congrArg some (by kernel_rfl))
  t0 := Tryd.underlying0
  a0 := Tryd.isAgg0
  z0 := Tryd.sizeOf0
  v0 := Tryd.zeroValue0
  t3 := Tryd.underlying3
  a3 := Tryd.isAgg3
  z3 := Tryd.sizeOf3
  v3 := Tryd.zeroValue3
  t4 := Tryd.underlying4
  a4 := Tryd.isAgg4
  z4 := Tryd.sizeOf4
  v4 := Tryd.zeroValue4
  t9 := Tryd.underlying9
  a9 := Tryd.isAgg9
  z9 := Tryd.sizeOf9
  v9 := Tryd.zeroValue9 }
open Go.RowKit in
theorem Tryd.utf8_RuneCountInString (s : ByteArray) (w : World) (hs : s.size < 9223372036854775807) :
    Calls Tryd.prog 107 #[.string s] w fun e w' => e = .returned (.int .i64 (Lib.runeCount s)) ∧ ∃ pos, w' = w.iter s pos := Any.utf8_RuneCountInString Tryd.lays195 s w hs
def Tryd.lays157_ren : Go.Shelf.Ren := ⟨fun | 157 => 82 | 229 => 98 | 199 => 99 | 261 => 109 | 311 => 118 | 312 => 119 | n => n, fun | 9 => 9 | 31 => 81 | 3 => 3 | 5 => 5 | 4 => 4 | 119 => 99 | 0 => 0 | 40 => 101 | 152 => 110 | 21 => 21 | 154 => 112 | 51 => 113 | 141 => 115 | 196 => 125 | 193 => 122 | 198 => 128 | 49 => 126 | 194 => 123 | 201 => 131 | 226 => 133 | 46 => 80 | 227 => 134 | n => n, fun | 0 => 0 | 6 => 3 | n => n⟩
def Tryd.lays197_ren : Go.Shelf.Ren := ⟨fun | 197 => 79 | 260 => 96 | n => n, fun | 9 => 9 | 21 => 21 | 3 => 3 | 4 => 4 | 5 => 5 | 105 => 73 | 119 => 99 | 0 => 0 | 46 => 80 | 139 => 107 | 138 => 106 | n => n, fun | 3 => 1 | 4 => 2 | n => n⟩
theorem Tryd.lays197 : Go.Proofs.Lays.n197 Tryd.prog Tryd.lays197_ren := {
  mixed := by kernel_rfl
  f197 := Tryd.func79.trans (congrArg some (by kernel_rfl))
  f260 := Tryd.func96.trans (congrArg some (by kernel_rfl))
  t0 := Tryd.underlying0
  a0 := Tryd.isAgg0
  z0 := Tryd.sizeOf0
  v0 := Tryd.zeroValue0
  t3 := Tryd.underlying3
  a3 := Tryd.isAgg3
  z3 := Tryd.sizeOf3
  v3 := Tryd.zeroValue3
  t4 := Tryd.underlying4
  a4 := Tryd.isAgg4
  z4 := Tryd.sizeOf4
  v4 := Tryd.zeroValue4
  t5 := Tryd.underlying5
  a5 := Tryd.isAgg5
  z5 := Tryd.sizeOf5
  v5 := Tryd.zeroValue5
  t9 := Tryd.underlying9
  a9 := Tryd.isAgg9
  z9 := Tryd.sizeOf9
  v9 := Tryd.zeroValue9
  t21 := Tryd.underlying21
  a21 := Tryd.isAgg21
  z21 := Tryd.sizeOf21
  v21 := Tryd.zeroValue21
  t46 := Tryd.underlying80
  a46 := Tryd.isAgg80
  z46 := Tryd.sizeOf80
  v46 := Tryd.zeroValue80
  t105 := Tryd.underlying73
  a105 := Tryd.isAgg73
  z105 := Tryd.sizeOf73
  v105 := Tryd.zeroValue73
  t119 := Tryd.underlying99
  a119 := Tryd.isAgg99
  z119 := Tryd.sizeOf99
  t138 := Tryd.underlying106
  a138 := Tryd.isAgg106
  z138 := Tryd.sizeOf106
  v138 := Tryd.zeroValue106
  t139 := Tryd.underlying107
  a139 := Tryd.isAgg107
  z139 := Tryd.sizeOf107
  v139 := Tryd.zeroValue107
  g3 := by kernel_rfl
  g4 := by kernel_rfl }
open Go.RowKit Go.Lib in
theorem Tryd.utf8_DecodeRuneInString (s : ByteArray) (w : World) (hT : Lib.Utf8Tabs 1 2 w) :
    Calls Tryd.prog 79 #[.string s] w fun e w' => e = .returned (.tuple #[.int .i32 (Lib.decodeGo s).1, .int .i64 (Lib.decodeGo s).2]) ∧ Below w.heap.size w w' := Any.utf8_DecodeRuneInString Tryd.lays197 s w hT
def Tryd.laysSlH6_f94_ren : Go.Shelf.Ren := ⟨fun | 6 => 94 | n => n, fun | 22 => 35 | 23 => 3 | 25 => 52 | 3 => 3 | 0 => 0 | 4 => 4 | n => n, fun | n => n⟩
theorem Tryd.laysSlH6_f94 : Go.Proofs.SlLaysH.n6 Tryd.prog Tryd.laysSlH6_f94_ren := {
  mixed := by kernel_rfl
  f6 := ⟨Tryd.f94.name, by decide, Tryd.func94.trans (congrArg some (by kernel_rfl))⟩
  t0 := Tryd.underlying0
  a0 := Tryd.isAgg0
  z0 := Tryd.sizeOf0
  v0 := Tryd.zeroValue0
  t3 := Tryd.underlying3
  a3 := Tryd.isAgg3
  z3 := Tryd.sizeOf3
  v3 := Tryd.zeroValue3
  t4 := Tryd.underlying4
  a4 := Tryd.isAgg4
  z4 := Tryd.sizeOf4
  v4 := Tryd.zeroValue4
  t22 := Tryd.underlying35
  a22 := Tryd.isAgg35
  z22 := Tryd.sizeOf35
  v22 := Tryd.zeroValue35
  a23 := Tryd.isAgg3
  z23 := Tryd.sizeOf3
  t25 := Tryd.underlying52
  a25 := Tryd.isAgg52
  z25 := Tryd.sizeOf52
  v25 := Tryd.zeroValue52 }
open Go.RowKit Go.Lib in
theorem Tryd.slices_IndexFunc_empty {α : Type} [Inhabited α] (a : Option Addr) (c : Nat) (fv : Value) (w : World) :
    Calls Tryd.prog 94 #[.slice a 0 c, fv] w fun e w' => e = .returned (.int .i64 (-1)) ∧ w' = w := AnyE.slices_IndexFunc_empty Tryd.laysSlH6_f94 a c fv w
def Tryd.laysSlH10_f73_ren : Go.Shelf.Ren := ⟨fun | 10 => 73 | 6 => 94 | n => n, fun | 22 => 35 | 23 => 3 | 25 => 52 | 3 => 3 | 4 => 4 | 0 => 0 | n => n, fun | n => n⟩
theorem Tryd.laysSlH10_f73 : Go.Proofs.SlLaysH.n10 Tryd.prog Tryd.laysSlH10_f73_ren := {
  mixed := by kernel_rfl
  f6 := ⟨Tryd.f94.name, by decide, Tryd.func94.trans (congrArg some (by kernel_rfl))⟩
  f10 := ⟨Tryd.f73.name, by decide, Tryd.func73.trans (congrArg some (by kernel_rfl))⟩
  t0 := Tryd.underlying0
  a0 := Tryd.isAgg0
  z0 := Tryd.sizeOf0
  v0 := Tryd.zeroValue0
  t3 := Tryd.underlying3
  a3 := Tryd.isAgg3
  z3 := Tryd.sizeOf3
  v3 := Tryd.zeroValue3
  t4 := Tryd.underlying4
  a4 := Tryd.isAgg4
  z4 := Tryd.sizeOf4
  v4 := Tryd.zeroValue4
  t22 := Tryd.underlying35
  a22 := Tryd.isAgg35
  z22 := Tryd.sizeOf35
  v22 := Tryd.zeroValue35
  a23 := Tryd.isAgg3
  z23 := Tryd.sizeOf3
  t25 := Tryd.underlying52
  a25 := Tryd.isAgg52
  z25 := Tryd.sizeOf52
  v25 := Tryd.zeroValue52 }
open Go.RowKit Go.Lib Go.Sort in
theorem Tryd.slices_DeleteFunc {α : Type} [Inhabited α] (enc : α → Value) (hO : OneCell enc) (p : α → Bool) (g : Nat) (lb : Array Value) (eg : ∀ args w, (callFunc g args).run Tryd.prog w = .ok (.enter g args) w) (zr : α) (v23 : ∀ w, (zeroValue 3).run Tryd.prog w = .ok (enc zr) w) (blk off cap : Nat) (d : Array α) (w : World) (hp : PredAt Tryd.prog g lb enc p w) (hpo : PredOver Tryd.prog g lb enc p blk off d.size w) (hH : Holds enc w blk off d) (hsz : d.size ≤ 9223372036854775807) (hcap : d.size ≤ cap) :
    Calls Tryd.prog 73 #[.slice (some ⟨blk, off, none⟩) d.size cap, .func (.func g) #[] lb] w fun e w' => e = .returned (.slice (some ⟨blk, off, none⟩) (d.toList.filter fun x => !p x).length cap) ∧ ∃ q, w' = putRow enc (Sort.ahead w q) blk off ((d.toList.filter fun x => !p x) ++ List.replicate (d.size - (d.toList.filter fun x => !p x).length) zr).toArray := AnyE.slices_DeleteFunc Tryd.laysSlH10_f73 enc hO p g lb eg zr v23 blk off cap d w hp hpo hH hsz hcap
end Go.Proofs
end

section
namespace Go.Proofs.YthcpdhniakpbaaaDoor.X
open Go.RowKit
theorem lt_of_cell {w : World} {a : Addr} {v : Value} (hc : w.cell? a = some v) : a.block < w.heap.size := by
  rcases Nat.lt_or_ge a.block w.heap.size with h' | h'
  · exact h'
  · simp [World.cell?, Array.getElem?_eq_none h'] at hc
structure GT1 (w : World) : Prop where
  tabs : Lib.Utf8Tabs 1 2 w
structure GT2 (w : World) : Prop where
  one : GT1 w
  asc : Lib.TabIs Tryd.prog w "strings.asciiSpace" .u8 Lib.asciiSpaceTab
  wh : Lib.WhiteTab 3 w
theorem GT1.below {w w' : World} (h : GT1 w) (hb : Below w.heap.size w w') : GT1 w' :=
  ⟨fun c hc => (hb.cell (lt_of_cell (h.tabs.1 c hc))).trans (h.tabs.1 c hc),
   fun i hi => ⟨(hb.cell (lt_of_cell (h.tabs.2 i hi).1)).trans (h.tabs.2 i hi).1, (hb.cell (lt_of_cell (h.tabs.2 i hi).2)).trans (h.tabs.2 i hi).2⟩⟩
theorem gSpace : Tryd.prog.globalNamed "strings.asciiSpace" = some 0 := by kernel_rfl
theorem GT2.below {w w' : World} (h : GT2 w) (hb : Below w.heap.size w w') : GT2 w' := by
  refine ⟨h.one.below hb, ?_, WhiteTab_below h.wh hb⟩
  have h0 : 0 < w.heap.size := by
    rcases Nat.eq_zero_or_pos w.heap.size with e | e
    · have ha := h.asc
      unfold Lib.TabIs World.var? at ha
      rw [gSpace] at ha
      simp [Array.getElem?_eq_none (Nat.le_of_eq e)] at ha
    · exact e
  exact var?_below hb gSpace h0 h.asc
end Go.Proofs.YthcpdhniakpbaaaDoor.X
end

section
namespace Go.Proofs.YthcpdhniakpbaaaDoor.X
open Go.RowKit Go.Proofs.YthcpdhniakpbaaaDoorW.PrintWords Go.Proofs.YthcpdhniakpbaaaDoorW.PrintLast Go.Proofs.YthcpdhniakpbaaaDoorW.PrintMore
variable {P : Program} {ops : Array Oper} {rest : List Oper} {o : Oper} {a : Act} {Q : Exit → Act → World → Prop}
theorem R_make0 (k : IntKind) {w0 W : World} (base e : Nat) (hgd : o.guard = none) {N : Tmp} (_hd : o.dst = some N) (t : TypeId) (x y : Operand) (ho : o.op = .makeSlice t x y) (n : Int) (hx : a.eval x = .int .i64 0) (hy : a.eval y = .int .i64 n)
    (ht : P.underlying t = some (.slice e)) (bytes : Nat) (hinfo : (P.info? e).map (fun i => (i.zero, i.size, i.bytes)) = some (some (.int k 0), 1, bytes)) (hb0 : 0 < bytes)
    {ok : Nat → Prop} (hfresh : ok W.heap.size) (h0 : 0 ≤ n) (hl : n.toNat * bytes ≤ 281474976710656) (HB : Below base w0 W) (hbase : base ≤ W.heap.size)
    (h : ∀ v1 w1, (Kd.int k).R e w1 base ok v1 [] → Below base w0 w1 → W.grownBy w1 none → (∃ b, v1.ownBlock = some b ∧ W.heap.size ≤ b) → wpList P ops Q rest (a.put o.dst v1) w1) : wpList P ops Q (o :: rest) a W := by
  obtain ⟨m, rfl⟩ := Int.eq_ofNat_of_zero_le h0
  simp only [Int.toNat_natCast] at hl
  obtain ⟨i0, hi, hzz⟩ := Option.map_eq_some_iff.1 hinfo
  simp only [Prod.mk.injEq] at hzz
  obtain ⟨hz0, hz1, hz2⟩ := hzz
  have hm : m ≤ 281474976710656 := Nat.le_trans (Nat.le_mul_of_pos_right _ hb0) hl
  have hr := run_make (P := P) W t e i0 (.int k 0) ht hi hz0 .i64 .i64 (0 : Int) (m : Int) (by omega) (by omega)
    (by
      have h3 : ((i0.bytes * m : Nat) : Int) ≤ 281474976710656 := by rw [hz2, Nat.mul_comm]; omega
      rwa [Int.natCast_mul] at h3) (by omega)
  simp only [Int.toNat_natCast] at hr
  rw [hz1] at hr
  have hc : (Value.int k 0).cells = #[.int k 0] := rfl
  rw [hc, Nat.mul_one] at hr
  have own := own_take (own_made W base e k m hbase (by omega)) (Nat.zero_le m)
  have own' : (W.alloc (.cells (madeCells #[.int k 0] m) e)).ownsRow base e 1 (.slice (some ⟨W.heap.size, 0, none⟩) 0 m) ([] : List Int).length (encs (Value.int k) []) := by simpa [encs] using own
  have hR : (Kd.int k).R e (W.alloc (.cells (madeCells #[.int k 0] m) e)) base ok (.slice (some ⟨W.heap.size, 0, none⟩) 0 m) [] :=
    Kd.R_of_own own' (fun q hq => by
      have : W.heap.size = q := by simpa [Value.ownBlock] using hq
      exact this ▸ hfresh)
  refine Kd.event_run hgd ?_ (h _ _ hR (HB.alloc hbase _) (World.grownBy_alloc W _ none) ⟨W.heap.size, by simp [Value.ownBlock], Nat.le_refl _⟩)
  simp [execOp, ho, hx, hy, hr]
end Go.Proofs.YthcpdhniakpbaaaDoor.X
end

section
namespace Go.Proofs.YthcpdhniakpbaaaDoor.X
open Go.RowKit Go.Proofs.YthcpdhniakpbaaaDoorW.PrintWords Go.Proofs.YthcpdhniakpbaaaDoorW.PrintLast Go.Proofs.YthcpdhniakpbaaaDoorW.PrintMore
attribute [local go_sem] max2_int min2_int max_two min_two max_three min_three max_four min_four
set_option linter.unusedVariables false
set_option linter.unusedSimpArgs false
def errW : Option Int → Value
  | none => .nilIface
  | some c => .iface 0 (.int .i64 c)
theorem errW_none : errW none = .nilIface := rfl
theorem errW_some (c : Int) : errW (some c) = .iface 0 (.int .i64 c) := rfl
theorem info3 : (Tryd.prog.info? 3).map (fun i => (i.zero, i.size, i.bytes)) = some (some (.int .i64 0), 1, 8) := by kernel_rfl
structure S128 where
  f0 : Int
  f1 : Int
  f2 : Int
structure S131 where
  f0 : Int
  f1 : Int
  f2 : Int
structure S34 where
  f0 : ByteArray
  f1 : ByteArray
structure S41 where
  f0 : ByteArray
  f1 : ByteArray
structure S96 where
  f0 : Int
  f1 : ByteArray
  f2 : ByteArray
end Go.Proofs.YthcpdhniakpbaaaDoor.X
end

section
namespace Go.Proofs.YthcpdhniakpbaaaDoor.X
set_option linter.unusedVariables false
set_option linter.unusedSimpArgs false
open Go.Sort
def clsN (c : Int) : Int := if c = 807 ∨ c = 808 then 1 else if c = 803 then 2 else 3
theorem clsN_range (c : Int) : clsN c = 1 ∨ clsN c = 2 ∨ clsN c = 3 := by
  unfold clsN
  split
  · simp
  · split <;> simp
def flt (k : Int) (l : List Int) : List Int := l.filter fun c => decide (clsN c = k)
def sortS (l : List Int) : List Int := flt 1 l ++ flt 2 l ++ flt 3 l
def Srt (l : List Int) : Prop := l.Pairwise fun a b => clsN a ≤ clsN b
theorem flt_append (k : Int) (a b : List Int) : flt k (a ++ b) = flt k a ++ flt k b := List.filter_append ..
theorem flt_mem {k c : Int} {l : List Int} : c ∈ flt k l ↔ c ∈ l ∧ clsN c = k := by unfold flt; rw [List.mem_filter]; simp
theorem flt_flt (k j : Int) (l : List Int) : flt k (flt j l) = if k = j then flt j l else [] := by
  split
  · rename_i h
    subst h
    exact List.filter_eq_self.2 fun c hc => by have := (flt_mem.1 hc).2; simp [this]
  · rename_i h
    exact List.filter_eq_nil_iff.2 fun c hc => by have := (flt_mem.1 hc).2; simp; omega
theorem flt_none {k : Int} {l : List Int} (h : ∀ c ∈ l, clsN c ≠ k) : flt k l = [] := List.filter_eq_nil_iff.2 fun c hc => by simpa using h c hc
theorem flt_sortS (k : Int) (l : List Int) : flt k (sortS l) = flt k l := by
  unfold sortS
  rw [flt_append, flt_append, flt_flt, flt_flt, flt_flt]
  by_cases h1 : k = 1
  · subst h1; simp
  · by_cases h2 : k = 2
    · subst h2; simp
    · by_cases h3 : k = 3
      · subst h3; simp
      · rw [if_neg h1, if_neg h2, if_neg h3]
        exact (flt_none fun c _ => by have := clsN_range c; omega).symm
theorem sortS_mem {c : Int} {l : List Int} : c ∈ sortS l ↔ c ∈ l := by
  unfold sortS
  simp only [List.mem_append, flt_mem]
  have := clsN_range c
  constructor
  · rintro ((h | h) | h) <;> exact h.1
  · intro h
    rcases this with e | e | e <;> simp [h, e]
theorem flt_srt (k : Int) (l : List Int) : Srt (flt k l) := by
  unfold Srt
  rw [List.pairwise_iff_forall_sublist]
  intro a b h
  have ha := (flt_mem.1 (h.subset (by simp : a ∈ [a, b]))).2
  have hb := (flt_mem.1 (h.subset (by simp : b ∈ [a, b]))).2
  omega
theorem srt_append {a b : List Int} : Srt (a ++ b) ↔ Srt a ∧ Srt b ∧ ∀ x ∈ a, ∀ y ∈ b, clsN x ≤ clsN y := List.pairwise_append
theorem sortS_srt (l : List Int) : Srt (sortS l) := by
  unfold sortS
  refine srt_append.2 ⟨srt_append.2 ⟨flt_srt _ _, flt_srt _ _, fun x hx y hy => ?_⟩, flt_srt _ _, fun x hx y hy => ?_⟩
  · have := (flt_mem.1 hx).2; have := (flt_mem.1 hy).2; omega
  · have := (flt_mem.1 hy).2
    rcases List.mem_append.1 hx with hx | hx <;> have := (flt_mem.1 hx).2 <;> omega
theorem sortS_nil : sortS [] = [] := rfl
theorem flt_cons (k c : Int) (l : List Int) : flt k (c :: l) = if clsN c = k then c :: flt k l else flt k l := by
  unfold flt
  rw [List.filter_cons]
  simp
theorem sortS_id : ∀ {l : List Int}, Srt l → sortS l = l
  | [], _ => rfl
  | c :: l, h => by
    have ih := sortS_id (List.pairwise_cons.1 h).2
    have hc := (List.pairwise_cons.1 h).1
    unfold sortS at ih ⊢
    rw [flt_cons, flt_cons, flt_cons]
    rcases clsN_range c with e | e | e
    · rw [if_pos e, if_neg (by omega), if_neg (by omega)]
      rw [List.cons_append, List.cons_append, ih]
    · have h1 : flt 1 l = [] := flt_none fun x hx => by have := hc x hx; omega
      rw [h1] at ih ⊢
      rw [if_neg (by omega), if_pos e, if_neg (by omega)]
      rw [List.nil_append] at ih ⊢
      rw [List.cons_append, ih]
    · have h1 : flt 1 l = [] := flt_none fun x hx => by have := hc x hx; omega
      have h2 : flt 2 l = [] := flt_none fun x hx => by have := hc x hx; omega
      rw [h1, h2] at ih ⊢
      rw [if_neg (by omega), if_neg (by omega), if_pos e]
      rw [List.nil_append] at ih ⊢
      rw [List.nil_append] at ih ⊢
      rw [ih]
def Same (a b : List Int) : Prop := ∀ k, flt k a = flt k b
theorem Same.refl (a : List Int) : Same a a := fun _ => rfl
theorem Same.symm {a b : List Int} (h : Same a b) : Same b a := fun k => (h k).symm
theorem Same.trans {a b c : List Int} (h : Same a b) (h' : Same b c) : Same a c := fun k => (h k).trans (h' k)
theorem Same.append {a b c d : List Int} (h : Same a b) (h' : Same c d) : Same (a ++ c) (b ++ d) := fun k => by rw [flt_append, flt_append, h k, h' k]
theorem Same.sort (a : List Int) : Same (sortS a) a := fun k => flt_sortS k a
theorem Same.eq {a b : List Int} (h : Same a b) : sortS a = sortS b := by unfold sortS; rw [h 1, h 2, h 3]
theorem same_swap {u v : List Int} (h : ∀ x ∈ u, ∀ y ∈ v, clsN y < clsN x) : Same (u ++ v) (v ++ u) := fun k => by
  rw [flt_append, flt_append]
  by_cases hu : flt k u = []
  · rw [hu]; simp
  · obtain ⟨x, hx⟩ := List.exists_mem_of_ne_nil _ hu
    have hv : flt k v = [] := flt_none fun y hy => by have := h x (flt_mem.1 hx).1 y hy; have := (flt_mem.1 hx).2; omega
    rw [hv]; simp
theorem sortS_append {a b : List Int} (h : ∀ x ∈ a, ∀ y ∈ b, clsN x ≤ clsN y) : sortS (a ++ b) = sortS a ++ sortS b := by
  have h1 : Srt (sortS a ++ sortS b) := srt_append.2 ⟨sortS_srt _, sortS_srt _, fun x hx y hy => h x (sortS_mem.1 hx) y (sortS_mem.1 hy)⟩
  rw [← sortS_id h1]
  exact ((Same.sort a).append (Same.sort b)).symm.eq
theorem sortS_length (l : List Int) : (sortS l).length = l.length := by
  induction l with
  | nil => rfl
  | cons c l ih =>
    unfold sortS at ih ⊢
    rw [flt_cons, flt_cons, flt_cons]
    simp only [List.length_append] at ih ⊢
    rcases clsN_range c with e | e | e <;> simp [e] <;> omega
theorem sortS_in (p u q : List Int) : sortS (p ++ sortS u ++ q) = sortS (p ++ u ++ q) :=
  (((Same.refl p).append (Same.sort u)).append (Same.refl q)).eq
theorem sortS_merge {u1 u2 v1 v2 : List Int} (h1 : ∀ x ∈ u2, ∀ y ∈ v1, clsN y < clsN x) (h2 : ∀ x ∈ u1 ++ v1, ∀ y ∈ u2 ++ v2, clsN x ≤ clsN y) :
    sortS ((u1 ++ u2) ++ (v1 ++ v2)) = sortS (u1 ++ v1) ++ sortS (u2 ++ v2) := by
  rw [← sortS_append h2]
  refine Same.eq ?_
  have := ((Same.refl u1).append (same_swap h1)).append (Same.refl v2)
  simpa [List.append_assoc] using this
theorem at_split {d : Array Int} {p q : List Int} {x : Int} (h : d.toList = p ++ x :: q) : d[p.length]! = x ∧ p.length < d.size := by
  cases d with
  | mk l =>
    simp only at h
    subst h
    simp
theorem size_split {d : Array Int} {l : List Int} (h : d.toList = l) : d.size = l.length := by rw [← h]; simp
theorem swp_comm {d : Array Int} {i j : Nat} (h : i ≠ j) : swp d i j = swp d j i := by
  unfold swp
  exact Array.setIfInBounds_comm _ _ h
theorem swp_split {d : Array Int} {p m q : List Int} {x y : Int} (h : d.toList = p ++ x :: (m ++ y :: q)) : (swp d p.length (p.length + 1 + m.length)).toList = p ++ y :: (m ++ x :: q) := by
  have h1 := (at_split h).1
  have h2 := at_split (d := d) (p := p ++ x :: m) (x := y) (q := q) (by rw [h]; simp)
  have e : (p ++ x :: m).length = p.length + 1 + m.length := by simp; omega
  rw [e] at h2
  unfold swp
  rw [h1, h2.1, Array.toList_setIfInBounds, Array.toList_setIfInBounds, h]
  have e1 : (p ++ x :: (m ++ y :: q)).set p.length y = p ++ y :: (m ++ y :: q) := by simp
  rw [e1, show p ++ y :: (m ++ y :: q) = (p ++ y :: m) ++ y :: q by simp, show p.length + 1 + m.length = (p ++ y :: m).length by simp; omega]
  rw [List.set_append_right _ _ (Nat.le_refl _)]
  simp
theorem swp_split' {d : Array Int} {p m q : List Int} {x y : Int} (h : d.toList = p ++ x :: (m ++ y :: q)) : (swp d (p.length + 1 + m.length) p.length).toList = p ++ y :: (m ++ x :: q) := by
  rw [swp_comm (by omega)]
  exact swp_split h
def ltC (x y : Int) : Bool := decide (clsN x - clsN y < 0)
theorem ltC_iff {x y : Int} : ltC x y = true ↔ clsN x < clsN y := by unfold ltC; rw [decide_eq_true_iff]; omega
theorem insInner_sort : ∀ (u : List Int) (d : Array Int) (p : List Int) (x : Int) (q : List Int), d.toList = p ++ u ++ x :: q → Srt u →
    (insInner ltC p.length (p.length + u.length) d).toList = p ++ sortS (u ++ [x]) ++ q := by
  intro u
  induction h : u.length generalizing u with
  | zero =>
    intro d p x q hd hs
    obtain rfl := List.length_eq_zero_iff.1 h
    rw [insInner_stop _ _ _ _ (.inl (by omega))]
    have : sortS ([] ++ [x]) = [x] := sortS_id (by simp [Srt])
    rw [this, hd]
    simp
  | succ n ih =>
    intro d p x q hd hs
    have hne : u ≠ [] := fun e => by rw [e] at h; simp at h
    obtain ⟨u', y, rfl⟩ : ∃ u' y, u = u' ++ [y] := ⟨_, _, (List.dropLast_concat_getLast hne).symm⟩
    have hn : u'.length = n := by simpa using h
    have hd' : d.toList = (p ++ u') ++ y :: ([] ++ x :: q) := by rw [hd]; simp
    have a1 := at_split hd'
    have a2 := at_split (d := d) (p := p ++ u' ++ [y]) (x := x) (q := q) (by rw [hd]; simp)
    have e1 : (p ++ u').length = p.length + n := by simp [hn]
    have e2 : (p ++ u' ++ [y]).length = p.length + (n + 1) := by simp only [List.length_append, List.length_cons, List.length_nil, hn]; omega
    rw [e1] at a1
    rw [e2] at a2
    obtain ⟨s1, s2, s3⟩ := srt_append.1 hs
    cases hl : ltC x y with
    | true =>
      have hlt := ltC_iff.1 hl
      rw [insInner_go _ _ _ _ (by omega) (by rw [a2.1, show p.length + (n + 1) - 1 = p.length + n by omega, a1.1]; exact hl)]
      have hsw := swp_split' hd'
      rw [e1] at hsw
      rw [show p.length + (n + 1) - 1 = p.length + n by omega]
      rw [show p.length + n + 1 + ([] : List Int).length = p.length + (n + 1) by simp; omega] at hsw
      rw [ih u' hn _ p x (y :: q) (by rw [hsw]; simp) s1]
      have hm : sortS (u' ++ [y] ++ [x]) = sortS (u' ++ [x]) ++ [y] := by
        have hsame : Same (u' ++ [y] ++ [x]) (u' ++ [x] ++ [y]) := by
          have := (Same.refl u').append (same_swap (u := [y]) (v := [x]) (by simp; exact hlt))
          simpa [List.append_assoc] using this
        rw [hsame.eq, sortS_append (b := [y])]
        · rw [sortS_id (l := [y]) (by simp [Srt])]
        · intro z hz w hw
          obtain rfl := List.mem_singleton.1 hw
          rcases List.mem_append.1 hz with hz | hz
          · exact s3 z hz _ (by simp)
          · obtain rfl := List.mem_singleton.1 hz; omega
      rw [hm]
      simp
    | false =>
      have hge : clsN y ≤ clsN x := by
        have : ¬ clsN x < clsN y := fun hh => by rw [ltC_iff.2 hh] at hl; exact absurd hl (by decide)
        omega
      rw [insInner_stop _ _ _ _ (.inr (by rw [a2.1, show p.length + (n + 1) - 1 = p.length + n by omega, a1.1]; exact hl))]
      have hsr : Srt (u' ++ [y] ++ [x]) := by
        refine srt_append.2 ⟨hs, by simp [Srt], fun z hz w hw => ?_⟩
        obtain rfl := List.mem_singleton.1 hw
        rcases List.mem_append.1 hz with hz | hz
        · exact Int.le_trans (s3 z hz y (by simp)) hge
        · obtain rfl := List.mem_singleton.1 hz; exact hge
      rw [sortS_id hsr, hd]
      simp
theorem insOuter_sort : ∀ (v u : List Int) (d : Array Int) (p q : List Int), d.toList = p ++ u ++ v ++ q → Srt u →
    (insOuter ltC p.length (p.length + u.length + v.length) (p.length + u.length) d).toList = p ++ sortS (u ++ v) ++ q
  | [], u, d, p, q, hd, hs => by
    rw [insOuter_stop _ _ _ _ _ (by simp), hd, List.append_nil, List.append_nil, sortS_id hs]
  | x :: v, u, d, p, q, hd, hs => by
    rw [insOuter_go _ _ _ _ _ (by simp)]
    have h1 := insInner_sort u d p x (v ++ q) (by rw [hd]; simp) hs
    have h2 := insOuter_sort v (sortS (u ++ [x])) (insInner ltC p.length (p.length + u.length) d) p q (by rw [h1]; simp) (sortS_srt _)
    rw [sortS_length] at h2
    have e : p.length + u.length + (x :: v).length = p.length + (u ++ [x]).length + v.length := by simp; omega
    rw [e, show p.length + u.length + 1 = p.length + (u ++ [x]).length by simp; omega, h2]
    have : sortS (sortS (u ++ [x]) ++ v) = sortS (u ++ (x :: v)) := by
      have := sortS_in [] (u ++ [x]) v
      simpa using this
    rw [this]
theorem insertion_sort {d : Array Int} {p u q : List Int} (hd : d.toList = p ++ u ++ q) : (insertionSort ltC d p.length (p.length + u.length)).toList = p ++ sortS u ++ q := by
  unfold insertionSort
  cases u with
  | nil =>
    rw [insOuter_stop _ _ _ _ _ (by simp), hd]
    rfl
  | cons x u =>
    have := insOuter_sort u [x] d p q (by rw [hd]; simp) (by simp [Srt])
    rw [show p.length + (x :: u).length = p.length + [x].length + u.length by simp; omega]
    simpa using this
theorem insInner_size : ∀ (a j : Nat) (d : Array Int), (insInner ltC a j d).size = d.size
  | a, 0, d => rfl
  | a, j + 1, d => by
    rw [insInner]
    split
    · rw [insInner_size, size_swp]
    · rfl
theorem insOuter_size (a b : Nat) : ∀ (n i : Nat) (d : Array Int), b - i = n → (insOuter ltC a b i d).size = d.size
  | 0, i, d, h => by rw [insOuter_stop _ _ _ _ _ (by omega)]
  | n + 1, i, d, h => by rw [insOuter_go _ _ _ _ _ (by omega), insOuter_size a b n _ _ (by omega), insInner_size]
inductive Blk (B : Nat) : List Int → Prop
  | last (l : List Int) : l.length ≤ B → Srt l → Blk B l
  | cons (x l : List Int) : x.length = B → Srt x → Blk B l → Blk B (x ++ l)
def Full (B : Nat) (X : List Int) : Prop := ∀ Z, Blk B Z → Blk B (X ++ Z)
theorem Full.nil (B : Nat) : Full B [] := fun Z h => h
theorem Full.snoc {B : Nat} {X x : List Int} (h : Full B X) (hx : x.length = B) (hs : Srt x) : Full B (X ++ x) := fun Z hz => by
  rw [List.append_assoc]
  exact h _ (Blk.cons x Z hx hs hz)
theorem Blk.nil (B : Nat) : Blk B [] := Blk.last [] (Nat.zero_le _) (by simp [Srt])
theorem Blk.one {B : Nat} {Y : List Int} (h : Blk B Y) (hl : Y.length ≤ B) (hB : 0 < B) : Srt Y := by
  cases h with
  | last _ _ hs => exact hs
  | cons x l hx hs hb =>
    have : l = [] := by
      have : (x ++ l).length = x.length + l.length := List.length_append
      exact List.length_eq_zero_iff.1 (by omega)
    rw [this, List.append_nil]; exact hs
theorem Blk.cut {B : Nat} {Y : List Int} (h : Blk B Y) (hl : B ≤ Y.length) (hB : 0 < B) : ∃ x Z, Y = x ++ Z ∧ x.length = B ∧ Srt x ∧ Blk B Z := by
  cases h with
  | last _ h1 hs => exact ⟨Y, [], by simp, by omega, hs, Blk.nil B⟩
  | cons x l hx hs hb => exact ⟨x, l, rfl, hx, hs, hb⟩
end Go.Proofs.YthcpdhniakpbaaaDoor.X
end

section
namespace Go.Proofs.YthcpdhniakpbaaaDoor.X
open Go.RowKit Go.Proofs.YthcpdhniakpbaaaDoorW.PrintWords Go.Proofs.YthcpdhniakpbaaaDoorW.PrintLast Go.Proofs.YthcpdhniakpbaaaDoorW.PrintMore
attribute [local go_sem] max2_int min2_int max_two min_two max_three min_three max_four min_four
set_option linter.unusedVariables false
set_option linter.unusedSimpArgs false
def normal_class.j0 : Nat → Int → Bool → Option (Int)
  | 0, _, _ => none
  | k + 1, x3, x4 => if x4 = true then (some 1) else (if x3 = 803 then (some 2) else (some 3))
def normal_class.f (k : Nat) (a0 : Int) : Option (Int) := if a0 = 807 then (normal_class.j0 k a0 (a0 == 807)) else (normal_class.j0 k a0 (a0 == 808))
set_option maxHeartbeats 8000000 in
set_option maxRecDepth 100000 in
theorem normal_class.calls (k : Nat) (a0 : Int) (r : Int) (w : World) (h : normal_class.f k a0 = some r) :
    Calls Tryd.prog 68 #[.int .i64 a0] w fun e w' => e = .returned (.int .i64 r) ∧ Drawn0 w w' := by
  have H : (if a0 = 807 then (normal_class.j0 k a0 (a0 == 807)) else (normal_class.j0 k a0 (a0 == 808))) = some r := h
  clear h
  have HC2 := Aside0.mk H
  clear H
  go_enter Tryd.func68, Tryd.ntmps68
  go_upto_if 4 with (fail)
  go_cut [4] (fun v4 wc => ∃ (kq : Nat) (x4_1 : Bool), v4 = .bool x4_1 ∧ Aside0 (normal_class.j0 kq a0 x4_1 = some r) ∧ Aside0 (kq ≤ k) ∧ Drawn0 w wc)
  case first =>
    have H := HC2.out
    clear HC2
    by_cases c3 : a0 = 807
    · rw [if_pos c3] at H
      have c3b0 : (a0 == 807) = true := beq_iff_eq.mpr c3
      have c3b1 : (a0 != 807) = false := bne_eq_false_iff_eq.mpr c3
      clear c3
      (first | rw [c3b0] | (simp only [i64_w, i32_w]; rw [c3b0]) | skip)
      have H' := Aside0.mk H
      clear H
      go_wp2
      go_meet
      case rel => exact ⟨_, ((a0 == 807)), (by first | rfl | (simp; done) | (simp [*]; done)), H', ⟨by first | omega | exact Nat.le_refl _⟩, by repeat (first | exact Drawn0.refl _ | apply Drawn0.step)⟩
    · rw [if_neg c3] at H
      have c3b0 : (a0 == 807) = false := beq_eq_false_iff_ne.mpr c3
      have c3b1 : (a0 != 807) = true := bne_iff_ne.mpr c3
      (first | rw [c3b0] | (simp only [i64_w, i32_w]; rw [c3b0]) | skip)
      have H' := Aside0.mk H
      clear H
      go_wp2
      go_meet
      case rel => exact ⟨_, ((a0 == 808)), (by first | rfl | (simp; done) | (simp [*]; done)), H', ⟨by first | omega | exact Nat.le_refl _⟩, by repeat (first | exact Drawn0.refl _ | apply Drawn0.step)⟩
  case rest =>
    clear HC2
    try clear p2
    try clear c3
    try clear c3b0
    try clear c3b1
    obtain ⟨kq, x4_1, rfl, HA, HJ1, ⟨mc1, rfl⟩⟩ := hcut
    cases kq with
    | zero => exact absurd HA.out (by simp [normal_class.j0])
    | succ kj1 =>
      have H := HA.out
      clear HA
      simp only [normal_class.j0] at H
      by_cases c4 : x4_1 = true
      · subst c4
        have H1 : (some 1) = some r := by rw [if_pos rfl] at H; exact H
        clear H
        have H := H1
        clear H1
        obtain rfl := Option.some.inj H
        go_wp2
        go_ret
        exact ⟨by first | rfl | (simp; done) | (simp [*]; done), by repeat (first | exact Drawn0.refl _ | apply Drawn0.step)⟩
      · replace c4 := Bool.eq_false_iff.mpr c4
        subst c4
        have H1 : (if a0 = 803 then (some 2) else (some 3)) = some r := by rw [if_neg (show ¬ (false = true) by decide)] at H; exact H
        clear H
        have H := H1
        clear H1
        by_cases c5 : a0 = 803
        · rw [if_pos c5] at H
          have c5b0 : (a0 == 803) = true := beq_iff_eq.mpr c5
          have c5b1 : (a0 != 803) = false := bne_eq_false_iff_eq.mpr c5
          clear c5
          obtain rfl := Option.some.inj H
          go_wp2
          go_ret
          exact ⟨by first | rfl | (simp; done) | (simp [*]; done), by repeat (first | exact Drawn0.refl _ | apply Drawn0.step)⟩
        · rw [if_neg c5] at H
          have c5b0 : (a0 == 803) = false := beq_eq_false_iff_ne.mpr c5
          have c5b1 : (a0 != 803) = true := bne_iff_ne.mpr c5
          obtain rfl := Option.some.inj H
          go_wp2
          go_ret
          exact ⟨by first | rfl | (simp; done) | (simp [*]; done), by repeat (first | exact Drawn0.refl _ | apply Drawn0.step)⟩
end Go.Proofs.YthcpdhniakpbaaaDoor.X
end

section
namespace Go.Proofs
open Go.Shelf
def Tryd.laysSlF20_f110_ren : Go.Shelf.Ren := ⟨fun | 20 => 110 | n => n, fun | 22 => 35 | 24 => 3 | 25 => 66 | 3 => 3 | 0 => 0 | 4 => 4 | n => n, fun | n => n⟩
theorem Tryd.laysSlF20_f110 : Go.Proofs.SlLaysF.n20 Tryd.prog Tryd.laysSlF20_f110_ren := {
  mixed := by kernel_rfl
  f20 := ⟨Tryd.f110.name, by decide, Tryd.func110.trans (congrArg some (by kernel_rfl))⟩
  t0 := Tryd.underlying0
  a0 := Tryd.isAgg0
  z0 := Tryd.sizeOf0
  v0 := Tryd.zeroValue0
  t3 := Tryd.underlying3
  a3 := Tryd.isAgg3
  z3 := Tryd.sizeOf3
  v3 := Tryd.zeroValue3
  t4 := Tryd.underlying4
  a4 := Tryd.isAgg4
  z4 := Tryd.sizeOf4
  v4 := Tryd.zeroValue4
  t22 := Tryd.underlying35
  a22 := Tryd.isAgg35
  z22 := Tryd.sizeOf35
  v22 := Tryd.zeroValue35
  a24 := Tryd.isAgg3
  z24 := Tryd.sizeOf3
  t25 := Tryd.underlying66
  a25 := Tryd.isAgg66
  z25 := Tryd.sizeOf66
  v25 := Tryd.zeroValue66 }
end Go.Proofs
namespace Go.Proofs.YthcpdhniakpbaaaDoor.X
set_option linter.unusedVariables false
set_option linter.unusedSimpArgs false
open Go.RowKit Go.Lib Go.Sort Go.Proofs.YthcpdhniakpbaaaDoorW.PrintWords Go.Proofs.YthcpdhniakpbaaaDoorW.PrintLast Go.Proofs.YthcpdhniakpbaaaDoorW.PrintMore
theorem nclass_eq (c : Int) (k : Nat) : normal_class.f (k + 1) c = some (clsN c) := by
  unfold normal_class.f normal_class.j0 clsN
  by_cases h1 : c = 807
  · subst h1; rfl
  · by_cases h2 : c = 808
    · subst h2; rfl
    · by_cases h3 : c = 803
      · subst h3; rfl
      · simp [h1, h2, h3]
theorem nclass_any (c : Int) (w : World) : Calls Tryd.prog 68 #[.int .i64 c] w fun e w' => e = .returned (.int .i64 (clsN c)) ∧ Drawn0 w w' := normal_class.calls 1 c _ w (nclass_eq c 0)
def cfC (x y : Int) : Int := clsN x - clsN y
theorem ltOf_cfC : ltOf cfC = ltC := rfl
theorem closure87 (x y : Int) (W : World) : Calls Tryd.prog 87 #[.int .i64 x, .int .i64 y] W fun e w' => e = .returned (.int .i64 (cfC x y)) ∧ ∃ q, w' = W.drewN q := by
  have hx := clsN_range x
  have hy := clsN_range y
  have CX := Lib.hid (fun W => nclass_any x W)
  have CY := Lib.hid (fun W => nclass_any y W)
  unfold cfC
  generalize clsN x = a at hx CX ⊢
  generalize clsN y = b at hy CY ⊢
  have hw : IntKind.i64.wrap (a - b) = a - b := by rw [IntKind.wrap_i64]; omega
  go_enter Tryd.func87, Tryd.ntmps87
  go_wp2_with (go_at_call 68; first | (refine (CX.out _).mono ?_; rintro e w' ⟨rfl, ⟨n1, rfl⟩⟩; clear CX) | (refine (CY.out _).mono ?_; rintro e w' ⟨rfl, ⟨n2, rfl⟩⟩; clear CY))
  go_ret
  exact ⟨rfl, _, rfl⟩
abbrev encI : Int → Value := Value.int .i64
theorem encI_one : OneCell encI := fun _ => rfl
theorem cmp87 (blk off size : Nat) (w : World) : CmpLays1 Tryd.prog 87 #[] encI cfC blk off size w :=
  fun m os dk hs x y => (closure87 x y _).mono fun _ _ ⟨he, q, hq⟩ => ⟨he, q, #[], by rw [hq, grow_empty]⟩
theorem eg87 : ∀ args w, (callFunc 87 args).run Tryd.prog w = .ok (.enter 87 args) w := enters_of Tryd.func87 (by kernel_rfl) rfl
abbrev SWI (w0 : World) (blk off : Nat) (dk : Array Int) (W : World) : Prop := SW encI w0 blk off dk W
theorem insertion_calls (blk off cap : Nat) (d0 d : Array Int) (w0 w : World) (R : Row1 encI w0 blk off d0) (hs : d0.size = d.size) (S : SWI w0 blk off d w) (p u q : List Int) (hd : d.toList = p ++ u ++ q) (hsz : d.size < 1048576) (a b : Nat) (ha : a = p.length) (hb : b = p.length + u.length) :
    Calls Tryd.prog 110 #[.slice (some ⟨blk, off, none⟩) d.size cap, .int .i64 a, .int .i64 b, .func (.func 87) #[] #[]] w fun e w' => e = .returned (.tuple #[]) ∧ ∃ d' : Array Int, d'.size = d.size ∧ d'.toList = p ++ sortS u ++ q ∧ SWI w0 blk off d' w' := by
  have hsp : d.size = p.length + u.length + q.length := by rw [size_split hd]; simp; omega
  subst ha
  subst hb
  refine (Any.insertionSortCmpFunc_s Tryd.laysSlF20_f110 encI cfC 87 #[] blk off cap p.length (p.length + u.length) d0 d w0 w eg87 (cmp87 _ _ _ _) R hs S (by omega) (by omega) (by omega)).mono ?_
  rintro e w' ⟨he, hS⟩
  refine ⟨he, _, ?_, ?_, hS⟩
  · rw [ltOf_cfC]; unfold insertionSort; exact insOuter_size _ _ _ _ _ rfl
  · rw [ltOf_cfC]; exact insertion_sort hd
end Go.Proofs.YthcpdhniakpbaaaDoor.X
end

section
namespace Go.Proofs.YthcpdhniakpbaaaDoor.X
set_option linter.unusedVariables false
set_option linter.unusedSimpArgs false
open Go.RowKit Go.Lib Go.Sort Go.Proofs.YthcpdhniakpbaaaDoorW.PrintWords Go.Proofs.YthcpdhniakpbaaaDoorW.PrintLast Go.Proofs.YthcpdhniakpbaaaDoorW.PrintMore
theorem sw_exch {w0 W : World} {blk off : Nat} {d0 dk : Array Int} (S : SWI w0 blk off dk W) (R : Row1 encI w0 blk off d0) (hs : dk.size = d0.size) {p m q : List Int} {x y : Int} (h : dk.toList = p ++ x :: (m ++ y :: q)) (i j : Nat) (hi : i = p.length) (hj : j = p.length + 1 + m.length) :
    SWI w0 blk off (swp dk i j) ((W.setCell ⟨blk, off + i, none⟩ (Value.int .i64 y)).setCell ⟨blk, off + j, none⟩ (Value.int .i64 x)).drew ∧ W.cell? ⟨blk, off + i, none⟩ = some (Value.int .i64 x) ∧ W.cell? ⟨blk, off + j, none⟩ = some (Value.int .i64 y) ∧ W.frozen? ⟨blk, off + i, none⟩ = false ∧ W.frozen? ⟨blk, off + j, none⟩ = false ∧ (∃ u, (W.setCell ⟨blk, off + i, none⟩ (Value.int .i64 y)).cell? ⟨blk, off + j, none⟩ = some u) ∧ i < dk.size ∧ j < dk.size := by
  have h1 := at_split h
  have h2 := at_split (d := dk) (p := p ++ x :: m) (x := y) (q := q) (by rw [h]; simp)
  have e : (p ++ x :: m).length = j := by subst hj; simp; omega
  rw [e] at h2
  rw [← hi] at h1
  have s := S.swapped R i j h1.2 h2.2
  have c1 := S.c1 R hs i h1.2
  have c2 := S.c1 R hs j h2.2
  have c3 := S.c2 R hs i j h1.2 h2.2 (Value.int .i64 y)
  rw [h1.1, h2.1] at s
  rw [h1.1] at c1
  rw [h2.1] at c2
  exact ⟨s, c1, c2, S.f1 R hs i h1.2, S.f1 R hs j h2.2, c3, h1.2, h2.2⟩
theorem sw_exch' {w0 W : World} {blk off : Nat} {d0 dk : Array Int} (S : SWI w0 blk off dk W) (R : Row1 encI w0 blk off d0) (hs : dk.size = d0.size) {p m q : List Int} {x y : Int} (h : dk.toList = p ++ x :: (m ++ y :: q)) (i j : Nat) (hi : i = p.length) (hj : j = p.length + 1 + m.length) :
    SWI w0 blk off (swp dk j i) ((W.setCell ⟨blk, off + j, none⟩ (Value.int .i64 x)).setCell ⟨blk, off + i, none⟩ (Value.int .i64 y)).drew ∧ W.cell? ⟨blk, off + i, none⟩ = some (Value.int .i64 x) ∧ W.cell? ⟨blk, off + j, none⟩ = some (Value.int .i64 y) ∧ W.frozen? ⟨blk, off + i, none⟩ = false ∧ W.frozen? ⟨blk, off + j, none⟩ = false ∧ (∃ u, (W.setCell ⟨blk, off + j, none⟩ (Value.int .i64 x)).cell? ⟨blk, off + i, none⟩ = some u) ∧ i < dk.size ∧ j < dk.size := by
  have h1 := at_split h
  have h2 := at_split (d := dk) (p := p ++ x :: m) (x := y) (q := q) (by rw [h]; simp)
  have e : (p ++ x :: m).length = j := by subst hj; simp; omega
  rw [e] at h2
  rw [← hi] at h1
  have s := S.swapped R j i h2.2 h1.2
  have c1 := S.c1 R hs i h1.2
  have c2 := S.c1 R hs j h2.2
  have c3 := S.c2 R hs j i h2.2 h1.2 (Value.int .i64 x)
  rw [h1.1, h2.1] at s
  rw [h1.1] at c1
  rw [h2.1] at c2
  exact ⟨s, c1, c2, S.f1 R hs i h1.2, S.f1 R hs j h2.2, c3, h1.2, h2.2⟩
def SwInv (p x m y q : List Int) (i : Nat) (dk : Array Int) : Prop := ∃ x1 x2 y1 y2, x = x1 ++ x2 ∧ y = y1 ++ y2 ∧ x1.length = i ∧ y1.length = i ∧ dk.toList = p ++ y1 ++ x2 ++ m ++ x1 ++ y2 ++ q
theorem SwInv.start {p x m y q : List Int} {d : Array Int} (h : d.toList = p ++ x ++ m ++ y ++ q) : SwInv p x m y q 0 d := ⟨[], x, [], y, rfl, rfl, rfl, rfl, by rw [h]; simp⟩
theorem SwInv.stop {p x m y q : List Int} {dk : Array Int} {n : Nat} (h : SwInv p x m y q n dk) (hx : x.length = n) (hy : y.length = n) : dk.toList = p ++ y ++ m ++ x ++ q := by
  obtain ⟨x1, x2, y1, y2, rfl, rfl, e1, e2, h⟩ := h
  have : x2 = [] := List.length_eq_zero_iff.1 (by simp at hx; omega)
  subst this
  have : y2 = [] := List.length_eq_zero_iff.1 (by simp at hy; omega)
  subst this
  rw [h]; simp
theorem SwInv.step {p x m y q : List Int} {dk : Array Int} {i n : Nat} (h : SwInv p x m y q i dk) (hx : x.length = n) (hy : y.length = n) (hi : i < n) :
    ∃ p' m' q' a b, dk.toList = p' ++ a :: (m' ++ b :: q') ∧ p.length + i = p'.length ∧ p.length + n + m.length + i = p'.length + 1 + m'.length ∧ SwInv p x m y q (i + 1) (swp dk (p.length + i) (p.length + n + m.length + i)) := by
  obtain ⟨x1, x2, y1, y2, rfl, rfl, e1, e2, h⟩ := h
  rw [List.length_append] at hx hy
  obtain ⟨a, x2, rfl⟩ : ∃ a l, x2 = a :: l := List.exists_cons_of_length_pos (by omega)
  obtain ⟨b, y2, rfl⟩ : ∃ a l, y2 = a :: l := List.exists_cons_of_length_pos (by omega)
  simp only [List.length_cons] at hx hy
  have h' : dk.toList = (p ++ y1) ++ a :: ((x2 ++ m ++ x1) ++ b :: (y2 ++ q)) := by rw [h]; simp
  have l1 : p.length + i = (p ++ y1).length := by simp [e2]
  have l2 : p.length + n + m.length + i = (p ++ y1).length + 1 + (x2 ++ m ++ x1).length := by simp; omega
  refine ⟨_, _, _, _, _, h', l1, l2, x1 ++ [a], x2, y1 ++ [b], y2, by simp, by simp, by simp; omega, by simp; omega, ?_⟩
  rw [l1, show p.length + n + m.length + i = (p ++ y1).length + 1 + (x2 ++ m ++ x1).length from l2, swp_split h']
  simp
set_option maxHeartbeats 8000000 in
set_option maxRecDepth 1000000 in
theorem swapRange_calls (blk off cap : Nat) (d0 d : Array Int) (w0 w : World) (R : Row1 encI w0 blk off d0) (hs : d.size = d0.size) (S : SWI w0 blk off d w) (p x m y q : List Int) (hd : d.toList = p ++ x ++ m ++ y ++ q) (hsz : d.size < 1048576) (a b n : Nat) (ha : a = p.length) (hb : b = p.length + n + m.length) (hx : x.length = n) (hy : y.length = n) :
    Calls Tryd.prog 123 #[.slice (some ⟨blk, off, none⟩) d.size cap, .int .i64 a, .int .i64 b, .int .i64 n, .func (.func 87) #[] #[]] w fun e w' => e = .returned (.tuple #[]) ∧ ∃ d' : Array Int, d'.size = d.size ∧ d'.toList = p ++ y ++ m ++ x ++ q ∧ SWI w0 blk off d' w' := by
  have hsp : d.size = p.length + n + m.length + n + q.length := by rw [size_split hd]; simp; omega
  have hba : b + n ≤ d.size := by omega
  have hab : a + n ≤ d.size := by omega
  have hn : d.size < 1048576 := hsz
  have S0 : Aside (SWI w0 blk off d w) := S
  have I0 : Aside (SwInv p x m y q 0 d) := SwInv.start hd
  have HX : Hid (x.length = n ∧ y.length = n) := ⟨hx, hy⟩
  have HA : Hid (p.length = a ∧ p.length + n + m.length = b) := ⟨ha.symm, hb.symm⟩
  have HS : Hid (d.size = d0.size) := hs
  have mixed : Tryd.prog.follows .mixedOrders = true := by kernel_rfl
  clear S hd hx hy ha hb hsp hs
  go_enter Tryd.func123, Tryd.ntmps123
  go_wp2
  go_loopg [10] n (fun g1 vi wr => ∃ (i : Nat) (dk : Array Int), vi = .int .i64 i ∧ i ≤ n ∧ n - i ≤ g1 ∧ dk.size = d.size ∧ Aside (SWI w0 blk off dk wr) ∧ Aside (SwInv p x m y q i dk))
  case atStart => exact ⟨0, d, rfl, by omega, by omega, rfl, S0, I0⟩
  case round =>
    clear S0 I0
    obtain ⟨i, dk, rfl, hin, hg1, hsk, S1, I1⟩ := hrel
    by_cases hlt : i < n
    · have hltz : (i : Int) < (n : Int) := by omega
      obtain ⟨p', m', q', u, v, hsp, hpi, hpj, I2⟩ := I1.out.step HX.out.1 HX.out.2 hlt
      rw [HA.out.2] at hpj I2
      rw [HA.out.1] at hpi I2
      obtain ⟨iN, hiN⟩ : ∃ q, q = a + i := ⟨_, rfl⟩
      obtain ⟨jN, hjN⟩ : ∃ q, q = b + i := ⟨_, rfl⟩
      rw [← hiN] at hpi I2
      rw [← hjN] at hpj I2
      obtain ⟨S2, c1, c2, f1, f2, ⟨u2, c3⟩, -, -⟩ := sw_exch S1.out R (hsk.trans HS.out) hsp iN jN hpi hpj
      have S3 := Aside0.mk S2
      have I3 := Aside0.mk I2
      have ea : ((a : Int) + (i : Int)).toNat = iN := by omega
      have pa : (0 : Int) ≤ (a : Int) + (i : Int) := by omega
      have ba : (a : Int) + (i : Int) < (d.size : Int) := by omega
      have ra : IntKind.i64.wrap ((a : Int) + (i : Int)) = (a : Int) + (i : Int) := by rw [IntKind.wrap_i64]; omega
      have eb : ((b : Int) + (i : Int)).toNat = jN := by omega
      have pb : (0 : Int) ≤ (b : Int) + (i : Int) := by omega
      have bb : (b : Int) + (i : Int) < (d.size : Int) := by omega
      have rb : IntKind.i64.wrap ((b : Int) + (i : Int)) = (b : Int) + (i : Int) := by rw [IntKind.wrap_i64]; omega
      have hsw : (swp dk iN jN).size = d.size := by rw [size_swp]; exact hsk
      clear S2 I2 S1 I1 hsp hpi hpj hiN hjN
      go_wp2_with fail
      go_big_region_o
      clear c1 c2 c3 f1 f2
      generalize ((wr.setCell ⟨blk, off + iN, none⟩ (Value.int .i64 v)).setCell ⟨blk, off + jN, none⟩ (Value.int .i64 u)).drew = w3 at S3 ⊢
      clear ea eb
      go_wp2
      go_roundg (n - (i + 1))
      case measure => omega
      case rel => exact ⟨i + 1, swp dk iN jN, by go_num, by omega, by omega, hsw, S3.out, I3.out⟩
    · have hltz : ¬ (i : Int) < (n : Int) := by omega
      obtain rfl : i = n := by omega
      go_wp2
      go_end0
      exact ⟨rfl, dk, hsk, by have := I1.out.stop HX.out.1 HX.out.2; simpa only [List.append_assoc] using this, S1.out⟩
theorem swapRange_at (blk off cap : Nat) (d0 d : Array Int) (w0 w : World) (R : Row1 encI w0 blk off d0) (hs : d.size = d0.size) (S : SWI w0 blk off d w) (p x m y q : List Int) (hd : d.toList = p ++ x ++ m ++ y ++ q) (hsz : d.size < 1048576) (A B N : Int) (ha : A = p.length) (hb : B = p.length + x.length + m.length) (hx : N = x.length) (hy : y.length = x.length) :
    Calls Tryd.prog 123 #[.slice (some ⟨blk, off, none⟩) d.size cap, .int .i64 A, .int .i64 B, .int .i64 N, .func (.func 87) #[] #[]] w fun e w' => e = .returned (.tuple #[]) ∧ ∃ d' : Array Int, d'.size = d.size ∧ d'.toList = p ++ y ++ m ++ x ++ q ∧ SWI w0 blk off d' w' := by
  subst ha
  subst hx
  rw [show B = ((p.length + x.length + m.length : Nat) : Int) by omega]
  exact swapRange_calls blk off cap d0 d w0 w R hs S p x m y q hd hsz _ _ _ rfl rfl rfl hy
def RotInv (T : List Int) (m i j : Nat) (dk : Array Int) : Prop := ∃ P U V Q, dk.toList = P ++ U ++ V ++ Q ∧ P ++ V ++ U ++ Q = T ∧ U.length = i ∧ V.length = j ∧ P.length + i = m
set_option maxHeartbeats 8000000 in
set_option maxRecDepth 1000000 in
theorem rotate_calls (blk off cap : Nat) (d0 d : Array Int) (w0 w : World) (R : Row1 encI w0 blk off d0) (hs : d.size = d0.size) (S : SWI w0 blk off d w) (T : List Int) (m i0 j0 : Nat) (hd : RotInv T m i0 j0 d) (hsz : d.size < 1048576) (h1 : 1 ≤ i0) (h2 : 1 ≤ j0) (him : i0 ≤ m) (hjm : m + j0 ≤ d.size) :
    Calls Tryd.prog 120 #[.slice (some ⟨blk, off, none⟩) d.size cap, .int .i64 ((m : Int) - i0), .int .i64 m, .int .i64 ((m : Int) + j0), .func (.func 87) #[] #[]] w fun e w' => e = .returned (.tuple #[]) ∧ ∃ d' : Array Int, d'.size = d.size ∧ d'.toList = T ∧ SWI w0 blk off d' w' := by
  have S0 : Aside (SWI w0 blk off d w) := S
  have I0 : Aside (RotInv T m i0 j0 d) := hd
  have HS : Hid (d.size = d0.size) := hs
  have mixed : Tryd.prog.follows .mixedOrders = true := by kernel_rfl
  clear S hd hs
  go_enter Tryd.func120, Tryd.ntmps120
  go_wp2
  go_loopg [10, 11] (i0 + j0) (fun g1 vi vj wr => ∃ (i j : Nat) (dk : Array Int), vi = .int .i64 i ∧ vj = .int .i64 j ∧ i + j ≤ g1 ∧ 1 ≤ i ∧ 1 ≤ j ∧ i ≤ m ∧ m + j ≤ d.size ∧ dk.size = d.size ∧ Aside (SWI w0 blk off dk wr) ∧ Aside (RotInv T m i j dk))
  case atStart => exact ⟨i0, j0, d, by go_num, by go_num, by omega, h1, h2, him, hjm, rfl, S0, I0⟩
  case round =>
    clear S0 I0
    obtain ⟨i, j, dk, rfl, rfl, hg1, hi1, hj1, hi2, hj2, hsk, S1, I1⟩ := hrel
    by_cases hij : i = j
    · subst hij
      obtain ⟨P, U, V, Q, e1, e2, e3, e4, e5⟩ := I1.out
      have C := swapRange_at blk off cap d0 dk w0 wr R (hsk.trans HS.out) S1.out P U [] V Q (by rw [e1]; simp) (by omega) ((m : Int) - i) m i (by omega) (by simp; omega) (by omega) (by omega)
      rw [hsk] at C
      have CC := Lib.hid C
      have ET : Hid (P ++ V ++ [] ++ U ++ Q = T) := by show _ = _; rw [← e2]; simp
      clear e1 e2 e3 e4 e5 C S1 I1
      have hne : decide ((i : Int) ≠ (i : Int)) = false := by simp
      go_wp2_with fail
      refine CC.out.mono ?_
      rintro e w' ⟨rfl, d', hs', hd', S'⟩
      rw [ET.out] at hd'
      go_wp2
      go_end0
      exact ⟨rfl, d', hs', hd', S'⟩
    · have hne : (i : Int) ≠ (j : Int) := by omega
      by_cases hgt : j < i
      · have hgtz : (j : Int) < (i : Int) := by omega
        obtain ⟨P, U, V, Q, e1, e2, e3, e4, e5⟩ := I1.out
        have eU : U = U.take j ++ U.drop j := (List.take_append_drop _ _).symm
        have l1 : (U.take j).length = j := by simp; omega
        have l2 : (U.drop j).length = i - j := by simp; omega
        have C := swapRange_at blk off cap d0 dk w0 wr R (hsk.trans HS.out) S1.out P (U.take j) (U.drop j) V Q (by rw [e1]; simp) (by omega) ((m : Int) - i) m j (by omega) (by omega) (by omega) (by omega)
        rw [hsk] at C
        have CC := Lib.hid C
        have ET : Hid (∀ d' : Array Int, d'.toList = P ++ V ++ U.drop j ++ U.take j ++ Q → RotInv T m (i - j) j d') := fun d' h => ⟨P ++ V, U.drop j, U.take j, Q, h, by rw [← e2]; simp, l2, l1, by simp; omega⟩
        clear e1 e2 e3 e4 e5 C S1 I1 eU l1 l2
        go_wp2_with fail
        refine CC.out.mono ?_
        rintro e w' ⟨rfl, d', hs', hd', S'⟩
        have I' := Aside0.mk (ET.out d' hd')
        have S2 := Aside0.mk S'
        clear hd' S' ET CC
        go_wp2
        go_roundg (i - j + j)
        case measure => omega
        case rel => exact ⟨i - j, j, d', by go_num, rfl, by omega, by omega, by omega, by omega, by omega, hs', S2.out, I'.out⟩
      · have hgtz : ¬ (j : Int) < (i : Int) := by omega
        obtain ⟨P, U, V, Q, e1, e2, e3, e4, e5⟩ := I1.out
        have l1 : (V.take (j - i)).length = j - i := by simp; omega
        have l2 : (V.drop (j - i)).length = i := by simp; omega
        have C := swapRange_at blk off cap d0 dk w0 wr R (hsk.trans HS.out) S1.out P U (V.take (j - i)) (V.drop (j - i)) Q (by rw [e1]; simp) (by omega) ((m : Int) - i) ((m : Int) + j - i) i (by omega) (by omega) (by omega) (by omega)
        rw [hsk] at C
        have CC := Lib.hid C
        have ET : Hid (∀ d' : Array Int, d'.toList = P ++ V.drop (j - i) ++ V.take (j - i) ++ U ++ Q → RotInv T m i (j - i) d') := fun d' h => ⟨P, V.drop (j - i), V.take (j - i), U ++ Q, by rw [h]; simp, by rw [← e2]; simp, l2, l1, by omega⟩
        clear e1 e2 e3 e4 e5 C S1 I1 l1 l2
        go_wp2_with fail
        refine CC.out.mono ?_
        rintro e w' ⟨rfl, d', hs', hd', S'⟩
        have I' := Aside0.mk (ET.out d' hd')
        have S2 := Aside0.mk S'
        clear hd' S' ET CC
        go_wp2
        go_roundg (i + (j - i))
        case measure => omega
        case rel => exact ⟨i, j - i, d', rfl, by go_num, by omega, by omega, by omega, by omega, by omega, hs', S2.out, I'.out⟩
end Go.Proofs.YthcpdhniakpbaaaDoor.X
end

section
namespace Go.Proofs.YthcpdhniakpbaaaDoor.X
set_option linter.unusedVariables false
set_option linter.unusedSimpArgs false
open Go.RowKit Go.Lib Go.Sort Go.Proofs.YthcpdhniakpbaaaDoorW.PrintWords Go.Proofs.YthcpdhniakpbaaaDoorW.PrintLast Go.Proofs.YthcpdhniakpbaaaDoorW.PrintMore
theorem split_at {v : List Int} {k : Nat} (h : k < v.length) : ∃ y, v = v.take k ++ y :: v.drop (k + 1) ∧ v.drop k = y :: v.drop (k + 1) ∧ v.take (k + 1) = v.take k ++ [y] := by
  refine ⟨v[k], ?_, ?_, ?_⟩
  · rw [← List.drop_eq_getElem_cons h, List.take_append_drop]
  · exact List.drop_eq_getElem_cons h
  · rw [List.take_succ_eq_append_getElem h]
theorem srt_parts {v : List Int} (s : Srt v) (k : Nat) : Srt (v.take k) ∧ Srt (v.drop k) := by
  have := srt_append.1 (show Srt (v.take k ++ v.drop k) by rw [List.take_append_drop]; exact s)
  exact ⟨this.1, this.2.1⟩
theorem cut_take {d : Array Int} {p v q : List Int} (h : d.toList = p ++ v ++ q) (s : Srt v) {k : Nat} (hk : k < v.length) : ∀ y ∈ v.take (k + 1), clsN y ≤ clsN d[p.length + k]! := by
  obtain ⟨z, e1, e2, e3⟩ := split_at hk
  have ha := (at_split (d := d) (p := p ++ v.take k) (x := z) (q := v.drop (k + 1) ++ q) (by rw [h]; simp only [List.append_assoc]; rw [← List.cons_append, ← List.append_assoc (v.take k), ← e1])).1
  have hl : (p ++ v.take k).length = p.length + k := by simp; omega
  rw [hl] at ha
  intro y hy
  rw [ha]
  rw [e1] at s
  have s3 := (srt_append.1 s).2.2
  rw [e3] at hy
  rcases List.mem_append.1 hy with hy | hy
  · exact s3 y hy z (by simp)
  · obtain rfl := List.mem_singleton.1 hy; exact Int.le_refl _
theorem cut_drop {d : Array Int} {p v q : List Int} (h : d.toList = p ++ v ++ q) (s : Srt v) {k : Nat} (hk : k < v.length) : ∀ y ∈ v.drop k, clsN d[p.length + k]! ≤ clsN y := by
  obtain ⟨z, e1, e2, e3⟩ := split_at hk
  have ha := (at_split (d := d) (p := p ++ v.take k) (x := z) (q := v.drop (k + 1) ++ q) (by rw [h]; simp only [List.append_assoc]; rw [← List.cons_append, ← List.append_assoc (v.take k), ← e1])).1
  have hl : (p ++ v.take k).length = p.length + k := by simp; omega
  rw [hl] at ha
  intro y hy
  rw [ha]
  have s2 := (srt_parts s k).2
  rw [e2] at s2 hy
  rcases List.mem_cons.1 hy with rfl | hy
  · exact Int.le_refl _
  · exact (List.pairwise_cons.1 s2).1 y hy
theorem cut_lt {d : Array Int} {p v q : List Int} (h : d.toList = p ++ v ++ q) (s : Srt v) {i : Nat} {c : Int} (h1 : p.length ≤ i) (h2 : i ≤ p.length + v.length) (hc : i = p.length ∨ clsN d[i - 1]! < c) : ∀ y ∈ v.take (i - p.length), clsN y < c := by
  intro y hy
  by_cases e : i = p.length
  · subst e; simp at hy
  · have hc' := hc.resolve_left e
    have := cut_take h s (k := i - p.length - 1) (by omega) y (by rw [show i - p.length - 1 + 1 = i - p.length by omega]; exact hy)
    rw [show p.length + (i - p.length - 1) = i - 1 by omega] at this
    omega
theorem cut_gt {d : Array Int} {p v q : List Int} (h : d.toList = p ++ v ++ q) (s : Srt v) {i : Nat} {c : Int} (h1 : p.length ≤ i) (h2 : i ≤ p.length + v.length) (hc : i = p.length + v.length ∨ c < clsN d[i]!) : ∀ y ∈ v.drop (i - p.length), c < clsN y := by
  intro y hy
  by_cases e : i = p.length + v.length
  · subst e; simp at hy
  · have hc' := hc.resolve_left e
    have := cut_drop h s (k := i - p.length) (by omega) y hy
    rw [show p.length + (i - p.length) = i by omega] at this
    omega
def MovR (p : List Int) (x : Int) (v1 r : List Int) (k : Nat) (dk : Array Int) : Prop := ∃ s t, v1 = s ++ t ∧ s.length = k ∧ dk.toList = p ++ s ++ x :: (t ++ r)
theorem MovR.step {p v1 r : List Int} {x : Int} {k : Nat} {dk : Array Int} (h : MovR p x v1 r k dk) (hk : k < v1.length) :
    ∃ p' m' q' a b, dk.toList = p' ++ a :: (m' ++ b :: q') ∧ p.length + k = p'.length ∧ p.length + k + 1 = p'.length + 1 + m'.length ∧ MovR p x v1 r (k + 1) (swp dk (p.length + k) (p.length + k + 1)) := by
  obtain ⟨s, t, rfl, e, h⟩ := h
  rw [List.length_append] at hk
  obtain ⟨b, t, rfl⟩ : ∃ a l, t = a :: l := List.exists_cons_of_length_pos (by omega)
  have h' : dk.toList = (p ++ s) ++ x :: ([] ++ b :: (t ++ r)) := by rw [h]; simp
  have l1 : p.length + k = (p ++ s).length := by simp [e]
  refine ⟨_, _, _, _, _, h', l1, by simp [e], s ++ [b], t, by simp, by simp [e], ?_⟩
  rw [show p.length + k + 1 = (p ++ s).length + 1 + ([] : List Int).length by simp [e], l1, swp_split h']
  simp
def MovL (p : List Int) (x : Int) (u2 r : List Int) (k : Nat) (dk : Array Int) : Prop := ∃ s t, u2 = s ++ t ∧ s.length = k ∧ dk.toList = p ++ s ++ x :: (t ++ r)
theorem MovL.step {p u2 r : List Int} {x : Int} {k : Nat} {dk : Array Int} (h : MovL p x u2 r (k + 1) dk) :
    ∃ p' m' q' a b, dk.toList = p' ++ a :: (m' ++ b :: q') ∧ p.length + k = p'.length ∧ p.length + k + 1 = p'.length + 1 + m'.length ∧ MovL p x u2 r k (swp dk (p.length + k + 1) (p.length + k)) := by
  obtain ⟨s, t, rfl, e, h⟩ := h
  have hne : s ≠ [] := fun e' => by rw [e'] at e; simp at e
  obtain ⟨s', y, rfl⟩ : ∃ u' y, s = u' ++ [y] := ⟨_, _, (List.dropLast_concat_getLast hne).symm⟩
  have e' : s'.length = k := by simpa using e
  have h' : dk.toList = (p ++ s') ++ y :: ([] ++ x :: (t ++ r)) := by rw [h]; simp
  have l1 : p.length + k = (p ++ s').length := by simp [e']
  refine ⟨_, _, _, _, _, h', l1, by simp [e'], s', y :: t, by simp, e', ?_⟩
  rw [show p.length + k + 1 = (p ++ s').length + 1 + ([] : List Int).length by simp [e'], l1, swp_split' h']
  simp
set_option maxHeartbeats 16000000 in
set_option maxRecDepth 1000000 in
theorem symMerge_left (blk off cap : Nat) (d0 d : Array Int) (w0 w : World) (R : Row1 encI w0 blk off d0) (hs : d.size = d0.size) (S : SWI w0 blk off d w) (p : List Int) (x : Int) (v q : List Int) (hd : d.toList = p ++ x :: (v ++ q)) (sv : Srt v) (hsz : d.size < 1048576)
    (a m b : Nat) (ha : a = p.length) (hm : m = a + 1) (hb : b = m + v.length) :
    Calls Tryd.prog 111 #[.slice (some ⟨blk, off, none⟩) d.size cap, .int .i64 a, .int .i64 m, .int .i64 b, .func (.func 87) #[] #[]] w fun e w' => e = .returned (.tuple #[]) ∧ ∃ d' : Array Int, d'.size = d.size ∧ d'.toList = p ++ sortS (x :: v) ++ q ∧ SWI w0 blk off d' w' := by
  have hbs : b ≤ d.size := by have := size_split hd; simp at this; omega
  have S0 : Aside (SWI w0 blk off d w) := S
  have HD : Hid (d.toList = p ++ x :: (v ++ q)) := hd
  have HSV : Hid (Srt v) := sv
  have HL : Hid (a = p.length ∧ b = m + v.length) := ⟨ha, hb⟩
  have HS : Hid (d.size = d0.size) := hs
  have mixed : Tryd.prog.follows .mixedOrders = true := by kernel_rfl
  have hmb : m ≤ b := by omega
  have hma : m ≤ a + 1 := by omega
  have ham : a + 1 ≤ m := by omega
  have hmc : ((m : Int) - (a : Int) == 1) = true := by rw [beq_iff_eq]; omega
  have HC := Aside0.mk (cmp87 blk off d.size w0)
  clear S hd hs ha hb sv hm
  go_enter Tryd.func111, Tryd.ntmps111
  go_wp2
  go_loopg [10, 11] (b - m) (fun g1 vi vj wr => ∃ (i j : Nat), vi = .int .i64 i ∧ vj = .int .i64 j ∧ m ≤ i ∧ i ≤ j ∧ j ≤ b ∧ j - i ≤ g1 ∧ Aside (SWI w0 blk off d wr) ∧ Hid ((i = m ∨ clsN d[i - 1]! < clsN x) ∧ (j = b ∨ ¬ clsN d[j]! < clsN x)))
  case atStart => exact ⟨m, b, by go_num, by go_num, by omega, by omega, by omega, by omega, S0, ⟨.inl rfl, .inl rfl⟩⟩
  case round =>
    clear S0
    obtain ⟨i, j, rfl, rfl, hmi, hij, hjb, hg1, S1, I1⟩ := hrel
    by_cases hlt : i < j
    · have hltz : (i : Int) < (j : Int) := by omega
      obtain ⟨hN, hhN⟩ : ∃ h, h = (i + j) / 2 := ⟨_, rfl⟩
      have hxa : d[a]! = x := by have := (at_split HD.out).1; rw [← HL.out.1] at this; exact this
      obtain ⟨y, hy⟩ : ∃ y, y = d[hN]! := ⟨_, rfl⟩
      have l1 := S1.out.cl R HS.out a (by omega)
      have l2 := S1.out.cl R HS.out hN (by omega)
      rw [hxa] at l1
      rw [← hy] at l2
      rw [hhN] at l2
      have ea : ((a : Int)).toNat = a := by omega
      have pa : (0 : Int) ≤ (a : Int) := by omega
      have ba : (a : Int) < (d.size : Int) := by omega
      have eh : (((i : Int) + (j : Int)) / 2).toNat = hN := by omega
      have ph : (0 : Int) ≤ ((i : Int) + (j : Int)) / 2 := by omega
      have bh : ((i : Int) + (j : Int)) / 2 < (d.size : Int) := by omega
      have hc := S1.out.cmp HC.out rfl y x
      cases hlv : decide (cfC y x < 0) with
      | true =>
        have hv : cfC y x < 0 := of_decide_eq_true hlv
        have HV : Hid (clsN d[hN]! < clsN x) := by show _ < _; rw [← hy]; unfold cfC at hv; omega
        clear hy hxa
        go_wp2_with fail
        go_quiet_grown (first | (go_at_call 87; refine Calls.grown_of (hc _ _)))
        have S2 : Aside (SWI w0 blk off d (grow (wr.drewN nq) osq)) := S1.out.grown nq osq
        clear l1 l2 hc S1
        generalize grow (wr.drewN nq) osq = w2 at S2 ⊢
        clear nq osq
        go_wp2
        go_roundg (j - (hN + 1))
        case measure => omega
        case rel => exact ⟨hN + 1, j, by rw [show ((i : Int) + (j : Int)) / 2 + 1 = ((hN + 1 : Nat) : Int) by omega], rfl, by omega, by omega, by omega, by omega, S2, ⟨.inr HV.out, I1.out.2⟩⟩
      | false =>
        have hv : ¬ cfC y x < 0 := of_decide_eq_false hlv
        have HV : Hid (¬ clsN d[hN]! < clsN x) := by show ¬ _; rw [← hy]; unfold cfC at hv; omega
        clear hy hxa
        go_wp2_with fail
        go_quiet_grown (first | (go_at_call 87; refine Calls.grown_of (hc _ _)))
        have S2 : Aside (SWI w0 blk off d (grow (wr.drewN nq) osq)) := S1.out.grown nq osq
        clear l1 l2 hc S1
        generalize grow (wr.drewN nq) osq = w2 at S2 ⊢
        clear nq osq
        go_wp2
        go_roundg (hN - i)
        case measure => omega
        case rel => exact ⟨i, hN, rfl, by rw [show ((i : Int) + (j : Int)) / 2 = (hN : Int) by omega], by omega, by omega, by omega, by omega, S2, ⟨I1.out.1, .inr HV.out⟩⟩
    · obtain rfl : i = j := by omega
      have hltz : ¬ (i : Int) < (i : Int) := by omega
      have hD := HD.out
      have hla := HL.out.1
      have hlb := HL.out.2
      have hdv : d.toList = (p ++ [x]) ++ v ++ q := by rw [hD]; simp
      have hlm : (p ++ [x]).length = m := by simp; omega
      have t1 := cut_lt hdv HSV.out (i := i) (c := clsN x) (by omega) (by omega) (by rw [hlm]; exact I1.out.1)
      have t2 := cut_gt hdv HSV.out (i := i) (c := clsN x - 1) (by omega) (by omega) (by rw [hlm, ← hlb]; rcases I1.out.2 with h | h; exact .inl h; exact .inr (by omega))
      rw [hlm] at t1 t2
      have hsort : sortS (x :: v) = v.take (i - m) ++ x :: v.drop (i - m) := by
        have h := sortS_merge (u1 := []) (u2 := [x]) (v1 := v.take (i - m)) (v2 := v.drop (i - m)) (fun a ha y hy => by obtain rfl := List.mem_singleton.1 ha; exact t1 y hy) (fun a ha y hy => by
          have e1 := t1 a (by simpa using ha)
          rcases List.mem_append.1 hy with hy | hy
          · obtain rfl := List.mem_singleton.1 hy; omega
          · have := t2 y hy; omega)
        rw [List.take_append_drop] at h
        rw [show x :: v = ([] ++ [x]) ++ v by simp, h]
        have s1 := srt_parts HSV.out (i - m)
        rw [sortS_id (l := [] ++ v.take (i - m)) (by simpa using s1.1), sortS_id (l := [x] ++ v.drop (i - m)) (by
          refine List.pairwise_cons.2 ⟨fun y hy => ?_, s1.2⟩
          have := t2 y hy
          omega)]
        simp
      have I2 : Aside (MovR p x (v.take (i - m)) (v.drop (i - m) ++ q) 0 d) := ⟨[], v.take (i - m), rfl, rfl, by rw [hD, ← List.append_assoc (v.take (i - m)), List.take_append_drop]; simp⟩
      have HT : Hid ((v.take (i - m)).length = i - m ∧ sortS (x :: v) = v.take (i - m) ++ x :: v.drop (i - m)) := ⟨by simp; omega, hsort⟩
      clear hD hla hlb hdv hlm t1 t2 hsort I1
      go_wp2
      go_loopg [13] (i - m) (fun g1 vk wr => ∃ (k : Nat) (dk : Array Int), vk = .int .i64 ((a : Int) + k) ∧ k ≤ i - m ∧ i - m - k ≤ g1 ∧ dk.size = d.size ∧ Aside (SWI w0 blk off dk wr) ∧ Aside (MovR p x (v.take (i - m)) (v.drop (i - m) ++ q) k dk))
      case atStart => exact ⟨0, d, by go_num, by omega, by omega, rfl, S1, I2⟩
      case round =>
        clear S1 I2
        obtain ⟨k, dk, rfl, hk, hg2, hsk, S1, I1⟩ := hrel
        by_cases hlt2 : k < i - m
        · have hltz2 : (a : Int) + (k : Int) < (i : Int) - 1 := by omega
          obtain ⟨p', m', q', u, v', hsp, hpi, hpj, I2⟩ := I1.out.step (by rw [HT.out.1]; exact hlt2)
          rw [← HL.out.1] at hpi hpj I2
          obtain ⟨iN, hiN⟩ : ∃ q, q = a + k := ⟨_, rfl⟩
          obtain ⟨jN, hjN⟩ : ∃ q, q = a + k + 1 := ⟨_, rfl⟩
          rw [← hjN] at hpj I2
          rw [← hiN] at hpi I2
          obtain ⟨S2, c1, c2, f1, f2, ⟨u2, c3⟩, -, -⟩ := sw_exch S1.out R (hsk.trans HS.out) hsp iN jN hpi hpj
          have S3 := Aside0.mk S2
          have I3 := Aside0.mk I2
          have ea : ((a : Int) + (k : Int)).toNat = iN := by omega
          have pa : (0 : Int) ≤ (a : Int) + (k : Int) := by omega
          have ba : (a : Int) + (k : Int) < (d.size : Int) := by omega
          have eb : ((a : Int) + (k : Int) + 1).toNat = jN := by omega
          have pb : (0 : Int) ≤ (a : Int) + (k : Int) + 1 := by omega
          have bb : (a : Int) + (k : Int) + 1 < (d.size : Int) := by omega
          have rb : IntKind.i64.wrap ((a : Int) + (k : Int) + 1) = (a : Int) + (k : Int) + 1 := by rw [IntKind.wrap_i64]; omega
          have hsw : (swp dk iN jN).size = d.size := by rw [size_swp]; exact hsk
          clear S2 I2 S1 I1 hsp hpi hpj hiN hjN
          go_wp2_with fail
          go_big_region_o
          clear c1 c2 c3 f1 f2
          generalize ((wr.setCell ⟨blk, off + iN, none⟩ (Value.int .i64 v')).setCell ⟨blk, off + jN, none⟩ (Value.int .i64 u)).drew = w3 at S3 ⊢
          clear ea eb
          go_wp2
          go_roundg (i - m - (k + 1))
          case measure => omega
          case rel => exact ⟨k + 1, swp dk iN jN, by go_num, by omega, by omega, hsw, S3.out, I3.out⟩
        · have hltz2 : ¬ (a : Int) + (k : Int) < (i : Int) - 1 := by omega
          obtain rfl : k = i - m := by omega
          go_wp2
          (try simp only [Exit.inBlock, Exit.then]); refine bodyPost_ret (results_none rfl _ _ _) rfl ?_
          refine ⟨rfl, dk, hsk, ?_, S1.out⟩
          obtain ⟨s, t, e1, e2, e3⟩ := I1.out
          have ht : t = [] := by
            have := HT.out.1
            rw [e1, List.length_append] at this
            exact List.length_eq_zero_iff.1 (by omega)
          subst ht
          rw [e3, HT.out.2, e1]
          simp
end Go.Proofs.YthcpdhniakpbaaaDoor.X
end

section
namespace Go.Proofs.YthcpdhniakpbaaaDoor.X
set_option linter.unusedVariables false
set_option linter.unusedSimpArgs false
open Go.RowKit Go.Lib Go.Sort Go.Proofs.YthcpdhniakpbaaaDoorW.PrintWords Go.Proofs.YthcpdhniakpbaaaDoorW.PrintLast Go.Proofs.YthcpdhniakpbaaaDoorW.PrintMore
set_option maxHeartbeats 16000000 in
set_option maxRecDepth 1000000 in
theorem symMerge_right (blk off cap : Nat) (d0 d : Array Int) (w0 w : World) (R : Row1 encI w0 blk off d0) (hs : d.size = d0.size) (S : SWI w0 blk off d w) (p u : List Int) (x : Int) (q : List Int) (hd : d.toList = p ++ u ++ x :: q) (su : Srt u) (hsz : d.size < 1048576)
    (a m b : Nat) (ha : a = p.length) (hm : m = a + u.length) (hu : 2 ≤ u.length) (hb : b = m + 1) :
    Calls Tryd.prog 111 #[.slice (some ⟨blk, off, none⟩) d.size cap, .int .i64 a, .int .i64 m, .int .i64 b, .func (.func 87) #[] #[]] w fun e w' => e = .returned (.tuple #[]) ∧ ∃ d' : Array Int, d'.size = d.size ∧ d'.toList = p ++ sortS (u ++ [x]) ++ q ∧ SWI w0 blk off d' w' := by
  have hbs : b ≤ d.size := by have := size_split hd; simp at this; omega
  have S0 : Aside (SWI w0 blk off d w) := S
  have HD : Hid (d.toList = p ++ u ++ x :: q) := hd
  have HSU : Hid (Srt u) := su
  have HL : Hid (a = p.length ∧ m = a + u.length) := ⟨ha, hm⟩
  have HS : Hid (d.size = d0.size) := hs
  have mixed : Tryd.prog.follows .mixedOrders = true := by kernel_rfl
  have ham : a + 2 ≤ m := by omega
  have hmb : m + 1 ≤ b := by omega
  have hbm : b ≤ m + 1 := by omega
  have hmc : ((m : Int) - (a : Int) == 1) = false := by rw [beq_eq_false_iff_ne]; omega
  have hbc : ((b : Int) - (m : Int) == 1) = true := by rw [beq_iff_eq]; omega
  have HC := Aside0.mk (cmp87 blk off d.size w0)
  clear S hd hs ha hb su hm hu
  go_enter Tryd.func111, Tryd.ntmps111
  go_wp2
  go_loopg [14, 15] (m - a) (fun g1 vi vj wr => ∃ (i j : Nat), vi = .int .i64 i ∧ vj = .int .i64 j ∧ a ≤ i ∧ i ≤ j ∧ j ≤ m ∧ j - i ≤ g1 ∧ Aside (SWI w0 blk off d wr) ∧ Hid ((i = a ∨ ¬ clsN x < clsN d[i - 1]!) ∧ (j = m ∨ clsN x < clsN d[j]!)))
  case atStart => exact ⟨a, m, by go_num, by go_num, by omega, by omega, by omega, by omega, S0, ⟨.inl rfl, .inl rfl⟩⟩
  case round =>
    clear S0
    obtain ⟨i, j, rfl, rfl, hmi, hij, hjb, hg1, S1, I1⟩ := hrel
    by_cases hlt : i < j
    · have hltz : (i : Int) < (j : Int) := by omega
      obtain ⟨hN, hhN⟩ : ∃ h, h = (i + j) / 2 := ⟨_, rfl⟩
      have hxa : d[m]! = x := by
        have := (at_split HD.out).1
        have e := HL.out
        rw [show (p ++ u).length = m by simp; omega] at this
        exact this
      obtain ⟨y, hy⟩ : ∃ y, y = d[hN]! := ⟨_, rfl⟩
      have l1 := S1.out.cl R HS.out m (by omega)
      have l2 := S1.out.cl R HS.out hN (by omega)
      rw [hxa] at l1
      rw [← hy] at l2
      rw [hhN] at l2
      have ea : ((m : Int)).toNat = m := by omega
      have pa : (0 : Int) ≤ (m : Int) := by omega
      have ba : (m : Int) < (d.size : Int) := by omega
      have eh : (((i : Int) + (j : Int)) / 2).toNat = hN := by omega
      have ph : (0 : Int) ≤ ((i : Int) + (j : Int)) / 2 := by omega
      have bh : ((i : Int) + (j : Int)) / 2 < (d.size : Int) := by omega
      have hc := S1.out.cmp HC.out rfl x y
      cases hlv : decide (cfC x y < 0) with
      | true =>
        have hv : cfC x y < 0 := of_decide_eq_true hlv
        have HV : Hid (clsN x < clsN d[hN]!) := by show _ < _; rw [← hy]; unfold cfC at hv; omega
        clear hy hxa
        go_wp2_with fail
        go_quiet_grown (first | (go_at_call 87; refine Calls.grown_of (hc _ _)))
        have S2 : Aside (SWI w0 blk off d (grow (wr.drewN nq) osq)) := S1.out.grown nq osq
        clear l1 l2 hc S1
        generalize grow (wr.drewN nq) osq = w2 at S2 ⊢
        clear nq osq
        go_wp2
        go_roundg (hN - i)
        case measure => omega
        case rel => exact ⟨i, hN, rfl, by rw [show ((i : Int) + (j : Int)) / 2 = (hN : Int) by omega], by omega, by omega, by omega, by omega, S2, ⟨I1.out.1, .inr HV.out⟩⟩
      | false =>
        have hv : ¬ cfC x y < 0 := of_decide_eq_false hlv
        have HV : Hid (¬ clsN x < clsN d[hN]!) := by show ¬ _; rw [← hy]; unfold cfC at hv; omega
        clear hy hxa
        go_wp2_with fail
        go_quiet_grown (first | (go_at_call 87; refine Calls.grown_of (hc _ _)))
        have S2 : Aside (SWI w0 blk off d (grow (wr.drewN nq) osq)) := S1.out.grown nq osq
        clear l1 l2 hc S1
        generalize grow (wr.drewN nq) osq = w2 at S2 ⊢
        clear nq osq
        go_wp2
        go_roundg (j - (hN + 1))
        case measure => omega
        case rel => exact ⟨hN + 1, j, by rw [show ((i : Int) + (j : Int)) / 2 + 1 = ((hN + 1 : Nat) : Int) by omega], rfl, by omega, by omega, by omega, by omega, S2, ⟨.inr HV.out, I1.out.2⟩⟩
    · obtain rfl : i = j := by omega
      have hltz : ¬ (i : Int) < (i : Int) := by omega
      have hD := HD.out
      have hla := HL.out.1
      have hlb := HL.out.2
      have t1 := cut_lt hD HSU.out (i := i) (c := clsN x + 1) (by omega) (by omega) (by rw [← hla]; rcases I1.out.1 with h | h; exact .inl h; exact .inr (by omega))
      have t2 := cut_gt hD HSU.out (i := i) (c := clsN x) (by omega) (by omega) (by rw [← hla, ← hlb]; exact I1.out.2)
      rw [← hla] at t1 t2
      have hsort : sortS (u ++ [x]) = u.take (i - a) ++ x :: u.drop (i - a) := by
        have h := sortS_merge (u1 := u.take (i - a)) (u2 := u.drop (i - a)) (v1 := [x]) (v2 := []) (fun a ha y hy => by obtain rfl := List.mem_singleton.1 hy; exact t2 a ha) (fun a ha y hy => by
          have e1 := t2 y (by simpa using hy)
          rcases List.mem_append.1 ha with ha | ha
          · have := t1 a ha; omega
          · obtain rfl := List.mem_singleton.1 ha; omega)
        rw [List.take_append_drop, List.append_nil, List.append_nil] at h
        rw [h]
        have s1 := srt_parts HSU.out (i - a)
        rw [sortS_id s1.2, sortS_id (l := u.take (i - a) ++ [x]) (srt_append.2 ⟨s1.1, by simp [Srt], fun y hy z hz => by
          obtain rfl := List.mem_singleton.1 hz
          have := t1 y hy
          omega⟩)]
        simp
      have I2 : Aside (MovL (p ++ u.take (i - a)) x (u.drop (i - a)) q (m - i) d) := ⟨u.drop (i - a), [], by simp, by simp; omega, by rw [hD, List.append_assoc p (u.take (i - a)) (u.drop (i - a)), List.take_append_drop]; simp⟩
      have HT : Hid ((p ++ u.take (i - a)).length = i ∧ sortS (u ++ [x]) = u.take (i - a) ++ x :: u.drop (i - a)) := ⟨by simp; omega, hsort⟩
      clear hD hla hlb t1 t2 hsort I1
      go_wp2
      go_loopg [17] (m - i) (fun g1 vk wr => ∃ (k : Nat) (dk : Array Int), vk = .int .i64 (k : Int) ∧ i ≤ k ∧ k ≤ m ∧ k - i ≤ g1 ∧ dk.size = d.size ∧ Aside (SWI w0 blk off dk wr) ∧ Aside (MovL (p ++ u.take (i - a)) x (u.drop (i - a)) q (k - i) dk))
      case atStart => exact ⟨m, d, by go_num, by omega, by omega, by omega, rfl, S1, I2⟩
      case round =>
        clear S1 I2
        obtain ⟨k, dk, rfl, hk, hkm, hg2, hsk, S1, I1⟩ := hrel
        by_cases hlt2 : i < k
        · obtain ⟨jp, rfl⟩ : ∃ q, k = q + 1 := ⟨k - 1, by omega⟩
          have hltz2 : (jp : Int) + 1 > (i : Int) := by omega
          have I1' := I1.out
          rw [show jp + 1 - i = (jp - i) + 1 by omega] at I1'
          obtain ⟨p', m', q', u', v', hsp, hpi, hpj, I2⟩ := I1'.step
          rw [HT.out.1] at hpi hpj I2
          obtain ⟨iN, hiN⟩ : ∃ q, q = jp := ⟨_, rfl⟩
          obtain ⟨jN, hjN⟩ : ∃ q, q = jp + 1 := ⟨_, rfl⟩
          rw [show i + (jp - i) + 1 = jN by omega] at hpj I2
          rw [show i + (jp - i) = iN by omega] at hpi I2
          obtain ⟨S2, c1, c2, f1, f2, ⟨u2, c3⟩, -, -⟩ := sw_exch' S1.out R (hsk.trans HS.out) hsp iN jN hpi hpj
          have S3 := Aside0.mk S2
          have I3 := Aside0.mk I2
          have ea : ((jp : Int) + 1).toNat = jN := by omega
          have pa : (0 : Int) ≤ (jp : Int) + 1 := by omega
          have ba : (jp : Int) + 1 < (d.size : Int) := by omega
          have eb : ((jp : Int)).toNat = iN := by omega
          have pb : (0 : Int) ≤ (jp : Int) := by omega
          have bb : (jp : Int) < (d.size : Int) := by omega
          have rb : IntKind.i64.wrap ((jp : Int)) = (jp : Int) := by rw [IntKind.wrap_i64]; omega
          have ra : IntKind.i64.wrap ((jp : Int) + 1) = (jp : Int) + 1 := by rw [IntKind.wrap_i64]; omega
          have hsw : (swp dk jN iN).size = d.size := by rw [size_swp]; exact hsk
          clear S2 I2 S1 I1 I1' hsp hpi hpj hiN hjN
          go_wp2_with fail
          go_big_region_o
          clear c1 c2 c3 f1 f2
          generalize ((wr.setCell ⟨blk, off + jN, none⟩ (Value.int .i64 u')).setCell ⟨blk, off + iN, none⟩ (Value.int .i64 v')).drew = w3 at S3 ⊢
          clear ea eb
          go_wp2
          go_roundg (jp - i)
          case measure => omega
          case rel => exact ⟨jp, swp dk jN iN, by first | rfl | go_num | (congr 1; omega), by omega, by omega, by omega, hsw, S3.out, I3.out⟩
        · have hltz2 : ¬ (k : Int) > (i : Int) := by omega
          obtain rfl : k = i := by omega
          go_wp2
          (try simp only [Exit.inBlock, Exit.then]); refine bodyPost_ret (results_none rfl _ _ _) rfl ?_
          refine ⟨rfl, dk, hsk, ?_, S1.out⟩
          obtain ⟨s, t, e1, e2, e3⟩ := I1.out
          have hs0 : s = [] := List.length_eq_zero_iff.1 (by omega)
          subst hs0
          rw [e3, HT.out.2, e1]
          simp
end Go.Proofs.YthcpdhniakpbaaaDoor.X
end

section
namespace Go.Proofs.YthcpdhniakpbaaaDoor.X
set_option linter.unusedVariables false
set_option linter.unusedSimpArgs false
open Go.RowKit Go.Lib Go.Sort Go.Proofs.YthcpdhniakpbaaaDoorW.PrintWords Go.Proofs.YthcpdhniakpbaaaDoorW.PrintLast Go.Proofs.YthcpdhniakpbaaaDoorW.PrintMore
def SMGood (blk off cap : Nat) (d0 : Array Int) (w0 : World) (n : Nat) : Prop :=
  ∀ (d : Array Int) (w : World) (p u v q : List Int) (A M B : Int), d.size = d0.size → SWI w0 blk off d w → d.toList = p ++ u ++ v ++ q → Srt u → Srt v → 1 ≤ u.length → 1 ≤ v.length → u.length + v.length ≤ n →
    A = p.length → M = p.length + u.length → B = p.length + u.length + v.length →
    Calls Tryd.prog 111 #[.slice (some ⟨blk, off, none⟩) d0.size cap, .int .i64 A, .int .i64 M, .int .i64 B, .func (.func 87) #[] #[]] w fun e w' => e = .returned (.tuple #[]) ∧ ∃ d' : Array Int, d'.size = d0.size ∧ d'.toList = p ++ sortS (u ++ v) ++ q ∧ SWI w0 blk off d' w'
theorem rotate_at (blk off cap : Nat) (d0 d : Array Int) (w0 w : World) (R : Row1 encI w0 blk off d0) (hs : d.size = d0.size) (S : SWI w0 blk off d w) (P U V Q : List Int) (hd : d.toList = P ++ U ++ V ++ Q) (hsz : d.size < 1048576) (h1 : 1 ≤ U.length) (h2 : 1 ≤ V.length) (A M B : Int) (hA : A = P.length) (hM : M = P.length + U.length) (hB : B = P.length + U.length + V.length) :
    Calls Tryd.prog 120 #[.slice (some ⟨blk, off, none⟩) d0.size cap, .int .i64 A, .int .i64 M, .int .i64 B, .func (.func 87) #[] #[]] w fun e w' => e = .returned (.tuple #[]) ∧ ∃ d' : Array Int, d'.size = d0.size ∧ d'.toList = P ++ V ++ U ++ Q ∧ SWI w0 blk off d' w' := by
  have hsp : d.size = P.length + U.length + V.length + Q.length := by rw [size_split hd]; simp; omega
  have := rotate_calls blk off cap d0 d w0 w R hs S (P ++ V ++ U ++ Q) (P.length + U.length) U.length V.length ⟨P, U, V, Q, hd, rfl, rfl, rfl, rfl⟩ hsz h1 h2 (by omega) (by omega)
  rw [show A = ((P.length + U.length : Nat) : Int) - U.length by omega, show M = ((P.length + U.length : Nat) : Int) by omega, show B = ((P.length + U.length : Nat) : Int) + V.length by omega, ← hs]
  exact this
theorem merge_cut {d : Array Int} {p u v q : List Int} (hd : d.toList = p ++ u ++ v ++ q) (su : Srt u) (sv : Srt v) {a m b s e : Nat} (ha : a = p.length) (hm : m = a + u.length) (hb : b = m + v.length)
    (h1 : a ≤ s) (h2 : s ≤ m) (h3 : m ≤ e) (h4 : e ≤ b) (hA : s = a ∨ e = b ∨ clsN d[s - 1]! ≤ clsN d[e]!) (hB : s = m ∨ e = m ∨ clsN d[e - 1]! < clsN d[s]!) :
    (∀ x ∈ u.drop (s - a), ∀ y ∈ v.take (e - m), clsN y < clsN x) ∧ (∀ x ∈ u.take (s - a) ++ v.take (e - m), ∀ y ∈ u.drop (s - a) ++ v.drop (e - m), clsN x ≤ clsN y) := by
  have hu' : d.toList = p ++ u ++ (v ++ q) := by rw [hd]; simp
  have hlm : (p ++ u).length = m := by simp; omega
  have su' := srt_append.1 (show Srt (u.take (s - a) ++ u.drop (s - a)) by rw [List.take_append_drop]; exact su)
  have sv' := srt_append.1 (show Srt (v.take (e - m) ++ v.drop (e - m)) by rw [List.take_append_drop]; exact sv)
  have f1 : ∀ x ∈ u.drop (s - a), ∀ y ∈ v.take (e - m), clsN y < clsN x := by
    intro x hx y hy
    rcases hB with h | h | h
    · rw [h, show m - a = u.length by omega] at hx; simp at hx
    · rw [h] at hy; simp at hy
    · by_cases es : s = m
      · rw [es, show m - a = u.length by omega] at hx; simp at hx
      · by_cases ee : e = m
        · rw [ee] at hy; simp at hy
        · have t1 := cut_drop hu' su (k := s - a) (by omega) x hx
          have t2 := cut_take hd sv (k := e - m - 1) (by omega) y (by rw [show e - m - 1 + 1 = e - m by omega]; exact hy)
          rw [show p.length + (s - a) = s by omega] at t1
          rw [hlm, show m + (e - m - 1) = e - 1 by omega] at t2
          omega
  refine ⟨f1, fun x hx y hy => ?_⟩
  rcases List.mem_append.1 hx with hx | hx <;> rcases List.mem_append.1 hy with hy | hy
  · exact su'.2.2 x hx y hy
  · by_cases es : s = a
    · rw [es] at hx; simp at hx
    · by_cases ee : e = b
      · rw [ee, show b - m = v.length by omega] at hy; simp at hy
      · have h := (hA.resolve_left es).resolve_left ee
        have t1 := cut_take hu' su (k := s - a - 1) (by omega) x (by rw [show s - a - 1 + 1 = s - a by omega]; exact hx)
        have t2 := cut_drop hd sv (k := e - m) (by omega) y hy
        rw [show p.length + (s - a - 1) = s - 1 by omega] at t1
        rw [hlm, show m + (e - m) = e by omega] at t2
        omega
  · exact Int.le_of_lt (f1 y hy x hx)
  · exact sv'.2.2 x hx y hy
set_option maxHeartbeats 16000000 in
set_option maxRecDepth 1000000 in
theorem symMerge_big (blk off cap : Nat) (d0 d : Array Int) (w0 w : World) (R : Row1 encI w0 blk off d0) (hs : d.size = d0.size) (S : SWI w0 blk off d w) (p u v q : List Int) (hd : d.toList = p ++ u ++ v ++ q) (su : Srt u) (sv : Srt v) (hsz : d0.size < 1048576)
    (a m b : Nat) (ha : a = p.length) (hm : m = a + u.length) (hu : 2 ≤ u.length) (hv : 2 ≤ v.length) (hb : b = m + v.length) (n : Nat) (hn : u.length + v.length ≤ n + 1) (IH : SMGood blk off cap d0 w0 n) :
    Calls Tryd.prog 111 #[.slice (some ⟨blk, off, none⟩) d0.size cap, .int .i64 a, .int .i64 m, .int .i64 b, .func (.func 87) #[] #[]] w fun e w' => e = .returned (.tuple #[]) ∧ ∃ d' : Array Int, d'.size = d0.size ∧ d'.toList = p ++ sortS (u ++ v) ++ q ∧ SWI w0 blk off d' w' := by
  have hbs : b ≤ d0.size := by have := size_split hd; simp at this; omega
  have S0 : Aside (SWI w0 blk off d w) := S
  have HD : Hid (d.toList = p ++ u ++ v ++ q) := hd
  have HSU : Hid (Srt u ∧ Srt v) := ⟨su, sv⟩
  have HL : Hid (a = p.length ∧ m = a + u.length ∧ b = m + v.length ∧ u.length + v.length ≤ n + 1) := ⟨ha, hm, hb, hn⟩
  have HS : Hid (d.size = d0.size) := hs
  have HI : Aside (SMGood blk off cap d0 w0 n) := IH
  have mixed : Tryd.prog.follows .mixedOrders = true := by kernel_rfl
  have ham : a + 2 ≤ m := by omega
  have hmb : m + 2 ≤ b := by omega
  have hmc : ((m : Int) - (a : Int) == 1) = false := by rw [beq_eq_false_iff_ne]; omega
  have hbc : ((b : Int) - (m : Int) == 1) = false := by rw [beq_eq_false_iff_ne]; omega
  have HC := Aside0.mk (cmp87 blk off d0.size w0)
  obtain ⟨mid, hmid⟩ : ∃ x, x = (a + b) / 2 := ⟨_, rfl⟩
  have hmidz : ((a : Int) + (b : Int)) / 2 = (mid : Int) := by omega
  have hmid1 : a + b ≤ mid + mid + 1 := by omega
  have hmid2 : mid + mid ≤ a + b := by omega
  clear S hd hs ha hb su sv hm hu hv IH hn hmid
  go_enter Tryd.func111, Tryd.ntmps111
  go_upto_if 140 with fail
  go_cut [20, 21] from 141 (fun v20 v21 wc => w = wc ∧ ∃ lo hi : Nat, v20 = .int .i64 lo ∧ v21 = .int .i64 hi ∧ a ≤ lo ∧ lo ≤ hi ∧ hi ≤ m ∧ hi ≤ mid ∧ mid + m ≤ lo + b ∧ Hid ((lo = a ∨ lo + b = mid + m) ∧ (hi = m ∨ hi = mid)))
  case first =>
    by_cases hc : mid < m
    · go_wp2_with fail
      go_meet
      exact ⟨rfl, mid + m - b, mid, by go_num, rfl, by omega, by omega, by omega, by omega, by omega, ⟨.inr (by omega), .inr rfl⟩⟩
    · go_wp2_with fail
      go_meet
      exact ⟨rfl, a, m, rfl, rfl, by omega, by omega, by omega, by omega, by omega, ⟨.inl rfl, .inl rfl⟩⟩
  case rest =>
    obtain ⟨rfl, lo, hi, rfl, rfl, hlo1, hlo2, hhi1, hhi2, hlo3, HLH⟩ := hcut
    go_wp2_with fail
    go_loopg [20, 21] (hi - lo) (fun g1 vi vj wr => ∃ (s r : Nat), vi = .int .i64 s ∧ vj = .int .i64 r ∧ lo ≤ s ∧ s ≤ r ∧ r ≤ hi ∧ r - s ≤ g1 ∧ Aside (SWI w0 blk off d wr) ∧ Hid ((s = lo ∨ clsN d[s - 1]! ≤ clsN d[mid + m - s]!) ∧ (r = hi ∨ clsN d[mid + m - 1 - r]! < clsN d[r]!)))
    case atStart => exact ⟨lo, hi, rfl, rfl, by omega, by omega, by omega, by omega, S0, ⟨.inl rfl, .inl rfl⟩⟩
    case round =>
      clear S0
      obtain ⟨s, r, rfl, rfl, hls, hsr, hrh, hg1, S1, I1⟩ := hrel
      by_cases hlt : s < r
      · have hltz : (s : Int) < (r : Int) := by omega
        obtain ⟨cN, hcN⟩ : ∃ h, h = (s + r) / 2 := ⟨_, rfl⟩
        have hcz : ((s : Int) + (r : Int)) / 2 = (cN : Int) := by omega
        have hc1 : s ≤ cN := by omega
        have hc2 : cN < r := by omega
        obtain ⟨pN, hpN⟩ : ∃ h, h = mid + m - 1 - cN := ⟨_, rfl⟩
        have hpz : (mid : Int) + (m : Int) - 1 - (cN : Int) = (pN : Int) := by omega
        have HPN : Hid (pN = mid + m - 1 - cN) := hpN
        have hpb : pN < d0.size := by omega
        have hcb : cN < d0.size := by omega
        clear hcN hpN
        obtain ⟨x, hx⟩ : ∃ x, x = d[cN]! := ⟨_, rfl⟩
        obtain ⟨y, hy⟩ : ∃ y, y = d[pN]! := ⟨_, rfl⟩
        have l1 := S1.out.cl R HS.out cN (by have := HS.out; omega)
        have l2 := S1.out.cl R HS.out pN (by have := HS.out; omega)
        rw [← hx] at l1
        rw [← hy] at l2
        have pa : (0 : Int) ≤ (cN : Int) := by omega
        have ba : (cN : Int) < (d0.size : Int) := by omega
        have pb : (0 : Int) ≤ (pN : Int) := by omega
        have bb : (pN : Int) < (d0.size : Int) := by omega
        have rb : IntKind.i64.wrap ((pN : Int)) = (pN : Int) := by rw [IntKind.wrap_i64]; omega
        have hc := S1.out.cmp HC.out HS.out y x
        cases hlv : decide (cfC y x < 0) with
        | true =>
          have hv : cfC y x < 0 := of_decide_eq_true hlv
          have HV : Hid (clsN d[mid + m - 1 - cN]! < clsN d[cN]!) := by show _ < _; rw [← HPN.out, ← hy, ← hx]; unfold cfC at hv; omega
          clear hy hx
          go_wp2_with fail
          go_quiet_grown (first | (go_at_call 87; refine Calls.grown_of (hc _ _)))
          have S2 : Aside (SWI w0 blk off d (grow (wr.drewN nq) osq)) := S1.out.grown nq osq
          clear l1 l2 hc S1
          generalize grow (wr.drewN nq) osq = w2 at S2 ⊢
          clear nq osq
          go_wp2
          go_roundg (cN - s)
          case measure => omega
          case rel => exact ⟨s, cN, rfl, rfl, by omega, by omega, by omega, by omega, S2, ⟨I1.out.1, .inr HV.out⟩⟩
        | false =>
          have hv : ¬ cfC y x < 0 := of_decide_eq_false hlv
          have HV : Hid (clsN d[cN + 1 - 1]! ≤ clsN d[mid + m - (cN + 1)]!) := by show _ ≤ _; rw [Nat.add_sub_cancel, show mid + m - (cN + 1) = pN by have := HPN.out; omega, ← hy, ← hx]; unfold cfC at hv; omega
          clear hy hx
          go_wp2_with fail
          go_quiet_grown (first | (go_at_call 87; refine Calls.grown_of (hc _ _)))
          have S2 : Aside (SWI w0 blk off d (grow (wr.drewN nq) osq)) := S1.out.grown nq osq
          clear l1 l2 hc S1
          generalize grow (wr.drewN nq) osq = w2 at S2 ⊢
          clear nq osq
          go_wp2
          go_roundg (r - (cN + 1))
          case measure => omega
          case rel => exact ⟨cN + 1, r, by go_num, rfl, by omega, by omega, by omega, by omega, S2, ⟨.inr HV.out, I1.out.2⟩⟩
      · obtain rfl : s = r := by omega
        have hltz : ¬ (s : Int) < (s : Int) := by omega
        obtain ⟨eN, heN⟩ : ∃ e, e = mid + m - s := ⟨_, rfl⟩
        have hez : (mid : Int) + (m : Int) - (s : Int) = (eN : Int) := by omega
        have heN1 : eN + s ≤ mid + m := by omega
        have heN2 : mid + m ≤ eN + s := by omega
        have heN3 : m ≤ eN := by omega
        have heN4 : eN ≤ b := by omega
        have hsm : s ≤ m := by omega
        have has : a ≤ s := by omega
        have hL := HL.out
        obtain ⟨k1, k2⟩ := merge_cut (s := s) (e := eN) HD.out HSU.out.1 HSU.out.2 hL.1 hL.2.1 hL.2.2.1 has hsm heN3 heN4
          (by rw [heN]; rcases I1.out.1 with h | h
              · rcases HLH.out.1 with g | g
                · exact .inl (by omega)
                · exact .inr (.inl (by omega))
              · exact .inr (.inr h))
          (by rcases I1.out.2 with h | h
              · rcases HLH.out.2 with g | g
                · exact .inl (by omega)
                · exact .inr (.inl (by omega))
              · exact .inr (.inr (by rw [heN, show mid + m - s - 1 = mid + m - 1 - s by omega]; exact h)))
        obtain ⟨u1, hu1⟩ : ∃ x, x = u.take (s - a) := ⟨_, rfl⟩
        obtain ⟨u2, hu2⟩ : ∃ x, x = u.drop (s - a) := ⟨_, rfl⟩
        obtain ⟨v1, hv1⟩ : ∃ x, x = v.take (eN - m) := ⟨_, rfl⟩
        obtain ⟨v2, hv2⟩ : ∃ x, x = v.drop (eN - m) := ⟨_, rfl⟩
        rw [← hu1, ← hu2, ← hv1, ← hv2] at k2
        rw [← hu2, ← hv1] at k1
        have eu : u1 ++ u2 = u := by rw [hu1, hu2, List.take_append_drop]
        have ev : v1 ++ v2 = v := by rw [hv1, hv2, List.take_append_drop]
        have ks := sortS_merge k1 k2
        rw [eu, ev] at ks
        have lu1 : u1.length = s - a := by rw [hu1]; simp; omega
        have lu2 : u2.length = m - s := by rw [hu2]; simp; omega
        have lv1 : v1.length = eN - m := by rw [hv1]; simp; omega
        have lv2 : v2.length = b - eN := by rw [hv2]; simp; omega
        have su' := srt_append.1 (show Srt (u1 ++ u2) by rw [eu]; exact HSU.out.1)
        have sv' := srt_append.1 (show Srt (v1 ++ v2) by rw [ev]; exact HSU.out.2)
        have hD := HD.out
        rw [← eu, ← ev] at hD
        have HD1 : Hid (d.toList = p ++ u1 ++ u2 ++ v1 ++ v2 ++ q) := by show _ = _; rw [hD]; simp
        have HLL : Hid (u1.length = s - a ∧ u2.length = m - s ∧ v1.length = eN - m ∧ v2.length = b - eN ∧ a = p.length ∧ (m - a) + (b - m) ≤ n + 1) := ⟨lu1, lu2, lv1, lv2, hL.1, by omega⟩
        have HSS : Hid (Srt u1 ∧ Srt u2 ∧ Srt v1 ∧ Srt v2) := ⟨su'.1, su'.2.1, sv'.1, sv'.2.1⟩
        have HKS : Hid (sortS (u ++ v) = sortS (u1 ++ v1) ++ sortS (u2 ++ v2)) := ks
        clear heN hL k1 k2 hu1 hu2 hv1 hv2 eu ev ks lu1 lu2 lv1 lv2 su' sv' hD HD HL HSU I1 HLH hls hrh hsr hg1 hlo1 hlo2 hhi1 hhi2 hlo3
        go_upto_region 39 with fail
        go_cut [185] from 178 (fun v185 wc => wr = wc ∧ v185 = .bool (decide (s < m ∧ m < eN)))
        case first =>
          by_cases c1 : s < m
          · by_cases c2 : m < eN
            · go_wp2_with fail
              go_meet
              exact ⟨rfl, by simp [c1, c2]⟩
            · go_wp2_with fail
              go_meet
              exact ⟨rfl, by simp [c2]⟩
          · go_wp2_with fail
            go_meet
            exact ⟨rfl, by simp [c1]⟩
        case rest =>
          obtain ⟨rfl, rfl⟩ := hcut
          go_upto_if 185 with fail
          go_cut [24, 185] from 186 (fun v24 v185 wc => v24 = .int .i64 eN ∧ ∃ d1 : Array Int, d1.size = d0.size ∧ Aside (SWI w0 blk off d1 wc) ∧ Hid (d1.toList = p ++ u1 ++ v1 ++ u2 ++ v2 ++ q))
          case first =>
            by_cases c1 : s < m ∧ m < eN
            · have C := rotate_at blk off cap d0 d w0 wr R HS.out S1.out (p ++ u1) u2 v1 (v2 ++ q) (by rw [HD1.out]; simp) (by have := HS.out; omega) (by have := HLL.out; omega) (by have := HLL.out; omega) (s : Int) (m : Int) (eN : Int) (by have := HLL.out; rw [List.length_append]; omega) (by have := HLL.out; rw [List.length_append]; omega) (by have := HLL.out; rw [List.length_append]; omega)
              have CC := Lib.hid C
              clear C
              have c1d : decide (s < m ∧ m < eN) = true := decide_eq_true c1
              go_wp2_with fail
              refine CC.out.mono ?_
              rintro e w' ⟨rfl, d', hs', hd', S'⟩
              have S2 := Aside0.mk S'
              have D2 : Hid (d'.toList = p ++ u1 ++ v1 ++ u2 ++ v2 ++ q) := by show _ = _; rw [hd']; simp
              clear S' hd' CC
              go_wp2_with fail
              go_meet
              exact ⟨rfl, d', hs', S2.out, D2⟩
            · have c1d : decide (s < m ∧ m < eN) = false := decide_eq_false c1
              go_wp2_with fail
              go_meet
              refine ⟨rfl, d, HS.out, S1, ?_⟩
              show _ = _
              have hll := HLL.out
              rw [HD1.out]
              by_cases c2 : s < m
              · have : v1 = [] := List.length_eq_zero_iff.1 (by omega)
                rw [this]; simp
              · have : u2 = [] := List.length_eq_zero_iff.1 (by omega)
                rw [this]; simp
          case rest =>
            clear S1
            obtain ⟨rfl, d1, hs1, S1, HD2⟩ := hcut
            go_upto_region 41 with fail
            go_cut [199] from 192 (fun v199 wd => wc = wd ∧ v199 = .bool (decide (a < s ∧ s < mid)))
            case first =>
              by_cases c1 : a < s
              · by_cases c2 : s < mid
                · go_wp2_with fail
                  go_meet
                  exact ⟨rfl, by simp [c1, c2]⟩
                · go_wp2_with fail
                  go_meet
                  exact ⟨rfl, by simp [c2]⟩
              · go_wp2_with fail
                go_meet
                exact ⟨rfl, by simp [c1]⟩
            case rest =>
              obtain ⟨rfl, rfl⟩ := hcut
              go_upto_if 199 with fail
              go_cut [24, 199] from 200 (fun v24 v199 wd => v24 = .int .i64 eN ∧ ∃ d2 : Array Int, d2.size = d0.size ∧ Aside (SWI w0 blk off d2 wd) ∧ Hid (d2.toList = p ++ sortS (u1 ++ v1) ++ u2 ++ v2 ++ q))
              case first =>
                by_cases c1 : a < s ∧ s < mid
                · have C := HI.out d1 wc p u1 v1 (u2 ++ v2 ++ q) (a : Int) (s : Int) (mid : Int) hs1 S1.out (by rw [HD2.out]; simp) HSS.out.1 HSS.out.2.2.1 (by have := HLL.out; omega) (by have := HLL.out; omega) (by have := HLL.out; omega) (by have := HLL.out; omega) (by have := HLL.out; omega) (by have := HLL.out; omega)
                  have CC := Lib.hid C
                  clear C
                  have c1d : decide (a < s ∧ s < mid) = true := decide_eq_true c1
                  go_wp2_with fail
                  refine CC.out.mono ?_
                  rintro e w' ⟨rfl, d', hs', hd', S'⟩
                  have S2 := Aside0.mk S'
                  have D2 : Hid (d'.toList = p ++ sortS (u1 ++ v1) ++ u2 ++ v2 ++ q) := by show _ = _; rw [hd']; simp
                  clear S' hd' CC
                  go_wp2_with fail
                  go_meet
                  exact ⟨rfl, d', hs', S2.out, D2⟩
                · have c1d : decide (a < s ∧ s < mid) = false := decide_eq_false c1
                  go_wp2_with fail
                  go_meet
                  refine ⟨rfl, d1, hs1, S1, ?_⟩
                  show _ = _
                  have hll := HLL.out
                  rw [HD2.out]
                  by_cases c2 : a < s
                  · have : v1 = [] := List.length_eq_zero_iff.1 (by omega)
                    rw [this, List.append_nil u1, sortS_id HSS.out.1]; simp
                  · have : u1 = [] := List.length_eq_zero_iff.1 (by omega)
                    rw [this, List.nil_append, sortS_id HSS.out.2.2.1]; simp
              case rest =>
                clear S1 HD2
                obtain ⟨rfl, d2, hs2, S1, HD2⟩ := hcut
                go_upto_region 43 with fail
                go_cut [213] from 206 (fun v213 we => wc = we ∧ v213 = .bool (decide (mid < eN ∧ eN < b)))
                case first =>
                  by_cases c1 : mid < eN
                  · by_cases c2 : eN < b
                    · go_wp2_with fail
                      go_meet
                      exact ⟨rfl, by simp [c1, c2]⟩
                    · go_wp2_with fail
                      go_meet
                      exact ⟨rfl, by simp [c2]⟩
                  · go_wp2_with fail
                    go_meet
                    exact ⟨rfl, by simp [c1]⟩
                case rest =>
                  obtain ⟨rfl, rfl⟩ := hcut
                  by_cases c1 : mid < eN ∧ eN < b
                  · have C := HI.out d2 wc (p ++ sortS (u1 ++ v1)) u2 v2 q (mid : Int) (eN : Int) (b : Int) hs2 S1.out (by rw [HD2.out]) HSS.out.2.1 HSS.out.2.2.2 (by have := HLL.out; omega) (by have := HLL.out; omega) (by have := HLL.out; omega) (by have := HLL.out; rw [List.length_append, sortS_length, List.length_append]; omega) (by have := HLL.out; rw [List.length_append, sortS_length, List.length_append]; omega) (by have := HLL.out; rw [List.length_append, sortS_length, List.length_append]; omega)
                    have CC := Lib.hid C
                    clear C
                    have c1d : decide (mid < eN ∧ eN < b) = true := decide_eq_true c1
                    go_wp2_with fail
                    refine CC.out.mono ?_
                    rintro e w' ⟨rfl, d', hs', hd', S'⟩
                    have S2 := Aside0.mk S'
                    have D2 : Hid (d'.toList = p ++ sortS (u ++ v) ++ q) := by show _ = _; rw [hd', HKS.out]; simp
                    clear S' hd' CC
                    go_wp2_with fail
                    go_end0
                    exact ⟨rfl, d', hs', D2.out, S2.out⟩
                  · have c1d : decide (mid < eN ∧ eN < b) = false := decide_eq_false c1
                    go_wp2_with fail
                    go_end0
                    refine ⟨rfl, d2, hs2, ?_, S1.out⟩
                    have hll := HLL.out
                    rw [HD2.out, HKS.out]
                    by_cases c2 : mid < eN
                    · have : v2 = [] := List.length_eq_zero_iff.1 (by omega)
                      rw [this, List.append_nil u2, sortS_id HSS.out.2.1]; simp
                    · have : u2 = [] := List.length_eq_zero_iff.1 (by omega)
                      rw [this, List.nil_append, sortS_id HSS.out.2.2.2]; simp
theorem symMerge_all (blk off cap : Nat) (d0 : Array Int) (w0 : World) (R : Row1 encI w0 blk off d0) (hsz : d0.size < 1048576) : ∀ n, SMGood blk off cap d0 w0 n
  | 0 => fun d w p u v q A M B hs S hd su sv hu hv hn _ _ _ => by omega
  | n + 1 => fun d w p u v q A M B hs S hd su sv hu hv hn hA hM hB => by
    have IH := symMerge_all blk off cap d0 w0 R hsz n
    have hM' : M = ((p.length + u.length : Nat) : Int) := by omega
    have hB' : B = ((p.length + u.length + v.length : Nat) : Int) := by omega
    by_cases h1 : u.length = 1
    · obtain ⟨x, rfl⟩ := List.length_eq_one_iff.1 h1
      have C := symMerge_left blk off cap d0 d w0 w R hs S p x v q (by rw [hd]; simp) sv (by omega) p.length (p.length + 1) (p.length + 1 + v.length) rfl rfl rfl
      rw [hs] at C
      rw [hA, hM', hB']
      exact C
    · by_cases h2 : v.length = 1
      · obtain ⟨x, rfl⟩ := List.length_eq_one_iff.1 h2
        have C := symMerge_right blk off cap d0 d w0 w R hs S p u x q (by rw [hd]; simp) su (by omega) p.length (p.length + u.length) (p.length + u.length + 1) rfl rfl (by omega) rfl
        rw [hs] at C
        rw [hA, hM', hB']
        exact C
      · rw [hA, hM', hB']
        exact symMerge_big blk off cap d0 d w0 w R hs S p u v q hd su sv hsz p.length (p.length + u.length) (p.length + u.length + v.length) rfl rfl (by omega) (by omega) rfl n (by omega) IH
end Go.Proofs.YthcpdhniakpbaaaDoor.X
end

section
namespace Go.Proofs.YthcpdhniakpbaaaDoor.X
set_option linter.unusedVariables false
set_option linter.unusedSimpArgs false
open Go.RowKit Go.Lib Go.Sort Go.Proofs.YthcpdhniakpbaaaDoorW.PrintWords Go.Proofs.YthcpdhniakpbaaaDoorW.PrintLast Go.Proofs.YthcpdhniakpbaaaDoorW.PrintMore
theorem insertion_at (blk off cap : Nat) (d0 d : Array Int) (w0 w : World) (R : Row1 encI w0 blk off d0) (hs : d.size = d0.size) (S : SWI w0 blk off d w) (p u q : List Int) (hd : d.toList = p ++ u ++ q) (hsz : d0.size < 1048576) (A B : Int) (hA : A = p.length) (hB : B = p.length + u.length) :
    Calls Tryd.prog 110 #[.slice (some ⟨blk, off, none⟩) d0.size cap, .int .i64 A, .int .i64 B, .func (.func 87) #[] #[]] w fun e w' => e = .returned (.tuple #[]) ∧ ∃ d' : Array Int, d'.size = d0.size ∧ d'.toList = p ++ sortS u ++ q ∧ SWI w0 blk off d' w' := by
  have C := insertion_calls blk off cap d0 d w0 w R hs.symm S p u q hd (by omega) p.length (p.length + u.length) rfl rfl
  rw [hs] at C
  rw [hA, show B = ((p.length + u.length : Nat) : Int) by omega]
  exact C
def StA (d : Array Int) (B a : Nat) (dk : Array Int) : Prop := ∃ X Y, dk.toList = X ++ Y ∧ X.length = a ∧ Full B X ∧ sortS dk.toList = sortS d.toList
def StC (d : Array Int) (B a : Nat) (dk : Array Int) : Prop := ∃ X Y, dk.toList = X ++ Y ∧ X.length = a ∧ Full (2 * B) X ∧ Blk B Y ∧ sortS dk.toList = sortS d.toList
def StB (d : Array Int) (B : Nat) (dk : Array Int) : Prop := Blk B dk.toList ∧ sortS dk.toList = sortS d.toList
set_option maxHeartbeats 16000000 in
set_option maxRecDepth 1000000 in
theorem stable_calls (blk off cap : Nat) (d : Array Int) (w : World) (R : Row1 encI w blk off d) (hsz : d.size < 1048576) :
    Calls Tryd.prog 100 #[.slice (some ⟨blk, off, none⟩) d.size cap, .int .i64 d.size, .func (.func 87) #[] #[]] w fun e w' => e = .returned (.tuple #[]) ∧ ∃ d' : Array Int, d'.size = d.size ∧ d'.toList = sortS d.toList ∧ SWI w blk off d' w' := by
  have S0 : Aside (SWI w blk off d w) := SW.start R.hH
  have I0 : Aside (StA d 20 0 d) := ⟨[], d.toList, rfl, rfl, Full.nil _, rfl⟩
  obtain ⟨n, hn⟩ : ∃ n, n = d.size := ⟨_, rfl⟩
  have HN : Hid (d.size = n) := hn.symm
  have mixed : Tryd.prog.follows .mixedOrders = true := by kernel_rfl
  rw [← hn] at hsz ⊢
  clear hn
  go_enter Tryd.func100, Tryd.ntmps100
  go_wp2
  go_loopg [7, 8] n (fun g1 va vb wr => ∃ (a : Nat) (dk : Array Int), va = .int .i64 a ∧ vb = .int .i64 ((a : Int) + 20) ∧ a ≤ n ∧ n - a ≤ g1 ∧ dk.size = n ∧ Aside (SWI w blk off dk wr) ∧ Aside (StA d 20 a dk))
  case atStart => exact ⟨0, d, rfl, by go_num, by omega, by omega, HN.out, S0, I0⟩
  case round =>
    clear S0 I0
    obtain ⟨a, dk, rfl, rfl, han, hg1, hsk, S1, I1⟩ := hrel
    obtain ⟨X, Y, e1, e2, e3, e4⟩ := I1.out
    have hXY : X.length + Y.length = n := by rw [← hsk, size_split e1]; simp
    by_cases hlt : a + 20 ≤ n
    · have hltz : (a : Int) + 20 ≤ (n : Int) := by omega
      have l1 : (Y.take 20).length = 20 := by simp; omega
      have C := insertion_at blk off cap d dk w wr R (hsk.trans HN.out.symm) S1.out X (Y.take 20) (Y.drop 20) (by rw [e1]; simp) (by have := HN.out; omega) (a : Int) ((a : Int) + 20) (by omega) (by omega)
      rw [HN.out] at C
      have CC := Lib.hid C
      have HX : Hid (∀ d' : Array Int, d'.toList = X ++ sortS (Y.take 20) ++ Y.drop 20 → StA d 20 (a + 20) d') := fun d' h => ⟨X ++ sortS (Y.take 20), Y.drop 20, h, by rw [List.length_append, sortS_length, l1, e2], e3.snoc (by rw [sortS_length, l1]) (sortS_srt _), by rw [h, sortS_in, List.append_assoc, List.take_append_drop, ← e1, e4]⟩
      clear C e1 e2 e3 e4 l1 S1 I1 hXY
      go_wp2_with fail
      refine CC.out.mono ?_
      rintro e w' ⟨rfl, d', hs', hd', S'⟩
      have S2 := Aside0.mk S'
      have I2 := Aside0.mk (HX.out d' hd')
      clear S' hd' CC HX
      go_wp2
      go_roundg (n - (a + 20))
      case measure => omega
      case rel => exact ⟨a + 20, d', by go_num, by go_num, by omega, by omega, hs', S2.out, I2.out⟩
    · have hltz : ¬ (a : Int) + 20 ≤ (n : Int) := by omega
      have C := insertion_at blk off cap d dk w wr R (hsk.trans HN.out.symm) S1.out X Y [] (by rw [e1]; simp) (by have := HN.out; omega) (a : Int) (n : Int) (by omega) (by omega)
      rw [HN.out] at C
      have CC := Lib.hid C
      have HX : Hid (∀ d' : Array Int, d'.toList = X ++ sortS Y ++ [] → StB d 20 d') := fun d' h => by
        refine ⟨?_, by rw [h, sortS_in, List.append_nil, ← e1, e4]⟩
        rw [h, List.append_nil]
        exact e3 _ (Blk.last _ (by rw [sortS_length]; omega) (sortS_srt _))
      clear C e1 e2 e3 e4 S1 I1 hXY
      go_wp2_with fail
      refine CC.out.mono ?_
      rintro e w' ⟨rfl, d', hs', hd', S'⟩
      have S2 := Aside0.mk S'
      have I2 := Aside0.mk (HX.out d' hd')
      clear S' hd' CC HX
      go_wp2_with fail
      go_loopg [6, 7, 8, 9] n (fun g1 vB va vb vm wr => ∃ (B : Nat) (dk : Array Int), vB = .int .i64 B ∧ 20 ≤ B ∧ B ≤ n + n + 20 ∧ n - B ≤ g1 ∧ dk.size = n ∧ Aside (SWI w blk off dk wr) ∧ Aside (StB d B dk))
      case atStart => exact ⟨20, d', rfl, by omega, by omega, by omega, hs', S2.out, I2.out⟩
      case round =>
        clear S2 I2 hs' hsk hg1 hlt hltz
        obtain ⟨B, dj, rfl, hB1, hB2, hg2, hsj, S1, I1⟩ := hrel
        by_cases hlt : B < n
        · have hltz : (B : Int) < (n : Int) := by omega
          have I2 : Aside (StC d B 0 dj) := ⟨[], dj.toList, rfl, rfl, Full.nil _, I1.out.1, I1.out.2⟩
          clear I1
          go_wp2_with fail
          go_loopg [7, 8] n (fun g3 va vb wr => ∃ (a : Nat) (dk : Array Int), va = .int .i64 a ∧ vb = .int .i64 ((a : Int) + 2 * (B : Int)) ∧ a ≤ n ∧ n - a ≤ g3 ∧ dk.size = n ∧ Aside (SWI w blk off dk wr) ∧ Aside (StC d B a dk))
          case atStart => exact ⟨0, dj, by go_num, by go_num, by omega, by omega, hsj, S1, I2⟩
          case round =>
            clear S1 I2 hsj
            obtain ⟨a, dk, rfl, rfl, han, hg3, hsk, S1, I1⟩ := hrel
            obtain ⟨X, Y, e1, e2, e3, e5, e4⟩ := I1.out
            have hXY : X.length + Y.length = n := by rw [← hsk, size_split e1]; simp
            by_cases hle : a + 2 * B ≤ n
            · have hlez : (a : Int) + 2 * (B : Int) ≤ (n : Int) := by omega
              obtain ⟨x1, Z, rfl, lx1, sx1, hZ⟩ := e5.cut (by omega) (by omega)
              rw [List.length_append] at hXY
              obtain ⟨x2, Z2, rfl, lx2, sx2, hZ2⟩ := hZ.cut (by omega) (by omega)
              rw [List.length_append] at hXY
              have C := symMerge_all blk off cap d w R (by have := HN.out; omega) (2 * B) dk wr X x1 x2 Z2 (a : Int) ((a : Int) + (B : Int)) ((a : Int) + 2 * (B : Int)) (hsk.trans HN.out.symm) S1.out (by rw [e1]; simp) sx1 sx2 (by omega) (by omega) (by omega) (by omega) (by omega) (by omega)
              rw [HN.out] at C
              have CC := Lib.hid C
              have HX : Hid (∀ d' : Array Int, d'.toList = X ++ sortS (x1 ++ x2) ++ Z2 → StC d B (a + 2 * B) d') := fun d' h => ⟨X ++ sortS (x1 ++ x2), Z2, h, by rw [List.length_append, sortS_length, List.length_append]; omega, e3.snoc (by rw [sortS_length, List.length_append]; omega) (sortS_srt _), hZ2, by rw [h, sortS_in, ← e4, e1]; simp⟩
              clear C e1 e2 e3 e4 e5 S1 I1 hXY lx1 sx1 hZ lx2 sx2 hZ2
              go_wp2_with fail
              refine CC.out.mono ?_
              rintro e w' ⟨rfl, d', hs', hd', S'⟩
              have S2 := Aside0.mk S'
              have I2 := Aside0.mk (HX.out d' hd')
              clear S' hd' CC HX
              go_wp2
              go_roundg (n - (a + 2 * B))
              case measure => omega
              case rel => exact ⟨a + 2 * B, d', by go_num, by go_num, by omega, by omega, hs', S2.out, I2.out⟩
            · have hlez : ¬ (a : Int) + 2 * (B : Int) ≤ (n : Int) := by omega
              by_cases hm : a + B < n
              · have hmz : (a : Int) + (B : Int) < (n : Int) := by omega
                obtain ⟨x1, Z, rfl, lx1, sx1, hZ⟩ := e5.cut (by omega) (by omega)
                rw [List.length_append] at hXY
                have sZ := hZ.one (by omega) (by omega)
                have C := symMerge_all blk off cap d w R (by have := HN.out; omega) (2 * B) dk wr X x1 Z [] (a : Int) ((a : Int) + (B : Int)) (n : Int) (hsk.trans HN.out.symm) S1.out (by rw [e1]; simp) sx1 sZ (by omega) (by omega) (by omega) (by omega) (by omega) (by omega)
                rw [HN.out] at C
                have CC := Lib.hid C
                have HX : Hid (∀ d' : Array Int, d'.toList = X ++ sortS (x1 ++ Z) ++ [] → StB d (B * 2) d') := fun d' h => by
                  refine ⟨?_, by rw [h, sortS_in, ← e4, e1]; simp⟩
                  rw [h, List.append_nil, Nat.mul_comm]
                  exact e3 _ (Blk.last _ (by rw [sortS_length, List.length_append]; omega) (sortS_srt _))
                clear C e1 e2 e3 e4 e5 S1 I1 hXY lx1 sx1 hZ sZ
                go_wp2_with fail
                refine CC.out.mono ?_
                rintro e w' ⟨rfl, d', hs', hd', S'⟩
                have S2 := Aside0.mk S'
                have I2 := Aside0.mk (HX.out d' hd')
                clear S' hd' CC HX
                go_wp2
                go_roundg (n - B * 2)
                case measure => omega
                case rel => exact ⟨B * 2, d', by go_num, by omega, by omega, by omega, hs', S2.out, I2.out⟩
              · have hmz : ¬ (a : Int) + (B : Int) < (n : Int) := by omega
                have I2 : Aside (StB d (B * 2) dk) := by
                  refine ⟨?_, e4⟩
                  rw [e1, Nat.mul_comm]
                  exact e3 _ (Blk.last _ (by omega) (e5.one (by omega) (by omega)))
                clear e1 e2 e3 e4 e5 I1 hXY
                go_wp2_with fail
                go_roundg (n - B * 2)
                case measure => omega
                case rel => exact ⟨B * 2, dk, by go_num, by omega, by omega, by omega, hsk, S1, I2⟩
        · have hltz : ¬ (B : Int) < (n : Int) := by omega
          go_wp2_with fail
          go_end0
          refine ⟨rfl, dj, hsj, ?_, S1.out⟩
          have hl : dj.toList.length ≤ B := by simp; omega
          rw [← I1.out.2, sortS_id (I1.out.1.one hl (by omega))]
theorem sortStable_calls (blk off cap : Nat) (d : Array Int) (w : World) (R : Row1 encI w blk off d) (hsz : d.size < 1048576) :
    Calls Tryd.prog 86 #[.slice (some ⟨blk, off, none⟩) d.size cap, .func (.func 87) #[] #[]] w fun e w' => e = .returned (.tuple #[]) ∧ ∃ d' : Array Int, d'.size = d.size ∧ d'.toList = sortS d.toList ∧ SWI w blk off d' w' := by
  have C := Lib.hid (stable_calls blk off cap d w R hsz)
  go_enter Tryd.func86, Tryd.ntmps86
  go_wp2_with fail
  refine C.out.mono ?_
  rintro e w' ⟨rfl, d', hs', hd', S'⟩
  have CC := Lib.hid (And.intro hs' (And.intro hd' S'))
  clear hs' hd' S'
  go_wp2_with fail
  go_end0
  exact ⟨rfl, d', CC.out⟩
end Go.Proofs.YthcpdhniakpbaaaDoor.X
end

section
namespace Go.Proofs.YthcpdhniakpbaaaDoor.X
open Go.RowKit Go.Proofs.YthcpdhniakpbaaaDoorW.PrintWords Go.Proofs.YthcpdhniakpbaaaDoorW.PrintLast Go.Proofs.YthcpdhniakpbaaaDoorW.PrintMore
attribute [local go_sem] max2_int min2_int max_two min_two max_three min_three max_four min_four
set_option linter.unusedVariables false
set_option linter.unusedSimpArgs false
def repertoire_from.f (a0 : Int) (a1 : Int) (a2 : Int) : Option (Bool) := if a0 ≥ a1 then (some (decide (a0 ≤ a2))) else (some false)
set_option maxHeartbeats 8000000 in
set_option maxRecDepth 100000 in
theorem repertoire_from.calls (a0 : Int) (a1 : Int) (a2 : Int) (r : Bool) (w : World) (h : repertoire_from.f a0 a1 a2 = some r) :
    Calls Tryd.prog 103 #[.int .i64 a0, .int .i64 a1, .int .i64 a2] w fun e w' => e = .returned (.bool r) ∧ Drawn0 w w' := by
  have H : (if a0 ≥ a1 then (some (decide (a0 ≤ a2))) else (some false)) = some r := h
  clear h
  by_cases c4 : a0 ≥ a1
  · rw [if_pos c4] at H
    have c4b0 : decide (a1 ≤ a0) = true := decide_eq_true c4
    clear c4
    obtain rfl := Option.some.inj H
    go_enter Tryd.func103, Tryd.ntmps103
    go_wp2
    go_ret
    exact ⟨by first | rfl | (simp; done) | (simp [*]; done), by repeat (first | exact Drawn0.refl _ | apply Drawn0.step)⟩
  · rw [if_neg c4] at H
    have c4b0 : decide (a1 ≤ a0) = false := decide_eq_false c4
    clear c4
    obtain rfl := Option.some.inj H
    go_enter Tryd.func103, Tryd.ntmps103
    go_wp2
    go_ret
    exact ⟨by first | rfl | (simp; done) | (simp [*]; done), by repeat (first | exact Drawn0.refl _ | apply Drawn0.step)⟩
def repertoire_mark.j0 : Nat → Int → Int → Bool → Option (Bool)
  | 0, _, _, _ => none
  | k + 1, x0, x3, x4 => if x4 = true then (some false) else (if x3 = 803 then (some true) else (if x3 = 807 then (some true) else (if x3 = 808 then (some true) else ((repertoire_from.f x0 768 780).bind fun t101 => (some t101)))))
def repertoire_mark.f (k : Nat) (a0 : Int) : Option (Bool) := if a0 = 773 then (repertoire_mark.j0 k a0 a0 (a0 == 773)) else (repertoire_mark.j0 k a0 a0 (a0 == 777))
set_option maxHeartbeats 8000000 in
set_option maxRecDepth 100000 in
theorem repertoire_mark.calls (k : Nat) (a0 : Int) (r : Bool) (w : World) (h : repertoire_mark.f k a0 = some r) :
    Calls Tryd.prog 105 #[.int .i64 a0] w fun e w' => e = .returned (.bool r) ∧ Drawn0 w w' := by
  have H : (if a0 = 773 then (repertoire_mark.j0 k a0 a0 (a0 == 773)) else (repertoire_mark.j0 k a0 a0 (a0 == 777))) = some r := h
  clear h
  have HC2 := Aside0.mk H
  clear H
  go_enter Tryd.func105, Tryd.ntmps105
  go_upto_if 4 with (fail)
  go_cut [4] (fun v4 wc => ∃ (kq : Nat) (x4_1 : Bool), v4 = .bool x4_1 ∧ Aside0 (repertoire_mark.j0 kq a0 a0 x4_1 = some r) ∧ Aside0 (kq ≤ k) ∧ Drawn0 w wc)
  case first =>
    have H := HC2.out
    clear HC2
    by_cases c3 : a0 = 773
    · rw [if_pos c3] at H
      have c3b0 : (a0 == 773) = true := beq_iff_eq.mpr c3
      have c3b1 : (a0 != 773) = false := bne_eq_false_iff_eq.mpr c3
      clear c3
      (first | rw [c3b0] | (simp only [i64_w, i32_w]; rw [c3b0]) | skip)
      have H' := Aside0.mk H
      clear H
      go_wp2
      go_meet
      case rel => exact ⟨_, ((a0 == 773)), (by first | rfl | (simp; done) | (simp [*]; done)), H', ⟨by first | omega | exact Nat.le_refl _⟩, by repeat (first | exact Drawn0.refl _ | apply Drawn0.step)⟩
    · rw [if_neg c3] at H
      have c3b0 : (a0 == 773) = false := beq_eq_false_iff_ne.mpr c3
      have c3b1 : (a0 != 773) = true := bne_iff_ne.mpr c3
      (first | rw [c3b0] | (simp only [i64_w, i32_w]; rw [c3b0]) | skip)
      have H' := Aside0.mk H
      clear H
      go_wp2
      go_meet
      case rel => exact ⟨_, ((a0 == 777)), (by first | rfl | (simp; done) | (simp [*]; done)), H', ⟨by first | omega | exact Nat.le_refl _⟩, by repeat (first | exact Drawn0.refl _ | apply Drawn0.step)⟩
  case rest =>
    clear HC2
    try clear c1
    try clear p2
    try clear c3
    try clear c3b0
    try clear c3b1
    obtain ⟨kq, x4_1, rfl, HA, HJ1, ⟨mc1, rfl⟩⟩ := hcut
    cases kq with
    | zero => exact absurd HA.out (by simp [repertoire_mark.j0])
    | succ kj1 =>
      have H := HA.out
      clear HA
      simp only [repertoire_mark.j0] at H
      by_cases c4 : x4_1 = true
      · subst c4
        have H1 : (some false) = some r := by rw [if_pos rfl] at H; exact H
        clear H
        have H := H1
        clear H1
        obtain rfl := Option.some.inj H
        go_wp2
        go_ret
        exact ⟨by first | rfl | (simp; done) | (simp [*]; done), by repeat (first | exact Drawn0.refl _ | apply Drawn0.step)⟩
      · replace c4 := Bool.eq_false_iff.mpr c4
        subst c4
        have H1 : (if a0 = 803 then (some true) else (if a0 = 807 then (some true) else (if a0 = 808 then (some true) else ((repertoire_from.f a0 768 780).bind fun t101 => (some t101))))) = some r := by rw [if_neg (show ¬ (false = true) by decide)] at H; exact H
        clear H
        have H := H1
        clear H1
        by_cases c5 : a0 = 803
        · rw [if_pos c5] at H
          have c5b0 : (a0 == 803) = true := beq_iff_eq.mpr c5
          have c5b1 : (a0 != 803) = false := bne_eq_false_iff_eq.mpr c5
          clear c5
          obtain rfl := Option.some.inj H
          go_wp2
          go_ret
          exact ⟨by first | rfl | (simp; done) | (simp [*]; done), by repeat (first | exact Drawn0.refl _ | apply Drawn0.step)⟩
        · rw [if_neg c5] at H
          have c5b0 : (a0 == 803) = false := beq_eq_false_iff_ne.mpr c5
          have c5b1 : (a0 != 803) = true := bne_iff_ne.mpr c5
          by_cases c6 : a0 = 807
          · rw [if_pos c6] at H
            have c6b0 : (a0 == 807) = true := beq_iff_eq.mpr c6
            have c6b1 : (a0 != 807) = false := bne_eq_false_iff_eq.mpr c6
            clear c6
            obtain rfl := Option.some.inj H
            go_wp2
            go_ret
            exact ⟨by first | rfl | (simp; done) | (simp [*]; done), by repeat (first | exact Drawn0.refl _ | apply Drawn0.step)⟩
          · rw [if_neg c6] at H
            have c6b0 : (a0 == 807) = false := beq_eq_false_iff_ne.mpr c6
            have c6b1 : (a0 != 807) = true := bne_iff_ne.mpr c6
            by_cases c7 : a0 = 808
            · rw [if_pos c7] at H
              have c7b0 : (a0 == 808) = true := beq_iff_eq.mpr c7
              have c7b1 : (a0 != 808) = false := bne_eq_false_iff_eq.mpr c7
              clear c7
              obtain rfl := Option.some.inj H
              go_wp2
              go_ret
              exact ⟨by first | rfl | (simp; done) | (simp [*]; done), by repeat (first | exact Drawn0.refl _ | apply Drawn0.step)⟩
            · rw [if_neg c7] at H
              have c7b0 : (a0 == 808) = false := beq_eq_false_iff_ne.mpr c7
              have c7b1 : (a0 != 808) = true := bne_iff_ne.mpr c7
              replace H := Option.bind_eq_some_iff.mp H
              obtain ⟨t101, A80, H⟩ := H
              replace H : (some t101) = some r := H
              have A8 := Aside0.mk A80
              clear A80
              obtain rfl := Option.some.inj H
              go_wp2_with (first | ((with_reducible refine gate_callee (f := 103) rfl ?_); refine goesL_ (some 12) rfl rfl Tryd.func103 (by kernel_rfl) rfl #[.int .i64 a0, .int .i64 768, .int .i64 780] rfl (by (try simp only [List.map_toArray, List.map_cons, List.map_nil]); first | done | rfl | (simp only [List.length_drop, List.length_take]; rfl)) ?_; (with_reducible refine (repertoire_from.calls a0 768 780 t101 _ A8.out).mono ?_); rintro e w' ⟨rfl, ⟨nd, rfl⟩⟩; refine ⟨_, rfl, ?_⟩))
              go_ret
              exact ⟨by first | rfl | (simp; done) | (simp [*]; done), by repeat (first | exact Drawn0.refl _ | apply Drawn0.step)⟩
end Go.Proofs.YthcpdhniakpbaaaDoor.X
end

section
namespace Go.Proofs.YthcpdhniakpbaaaDoor.X
open Go.RowKit Go.Proofs.YthcpdhniakpbaaaDoorW.PrintWords
theorem wp_scope_fwd {P : Program} {a : Act} {w : World} {Q : Exit → Act → World → Prop} {c rest : Code} (l : Nat) (hf : findLabel c l = some rest)
    (h : c.wp P (Exit.jump l (fun a w => rest.wp P (Exit.jump l (fun _ _ => False) Q) a w) Q) a w) : (Code.scope c).wp P Q a w :=
  wp_scope_jumps l (fun a w => rest.wp P (Exit.jump l (fun _ _ => False) Q) a w) (fun _ _ => 0) hf h
    (fun _ _ hj => wp_mono hj (fun e a w hq => by cases e <;> first | exact hq | exact hq.2.elim))
section
variable {Q : Exit → Act → World → Prop} {J : Act → World → Prop} {a : Act} {w : World} {l : Nat}
theorem jump_normal : Exit.jump l J Q .normal a w = Q .normal a w := rfl
theorem jump_exit (id : Nat) : Exit.jump l J Q (.exit id) a w = Q (.exit id) a w := rfl
theorem jump_ret : Exit.jump l J Q .ret a w = Q .ret a w := rfl
end
attribute [local go_sem] jump_normal jump_exit jump_ret
theorem quiet_add_same {P : Program} {f : FuncId} {args : Array Value} {w : World} {a n : Nat} {v : Value}
    (h : Calls P f args (w.drewN (a + n)) fun e w' => e = .returned v ∧ w' = w.drewN (a + n)) :
    Calls P f args (w.drewN (a + n)) fun e w'' => e = .returned v ∧ ∃ m, w'' = w.drewN (a + m) :=
  h.mono fun _ _ ⟨he, hm⟩ => ⟨he, n, hm⟩
theorem valid_yes (r : Int) (w : World) (h : (128 ≤ r ∧ r ≤ 55295) ∨ (57344 ≤ r ∧ r ≤ 1114111)) : Calls Tryd.prog 115 #[.int .i32 r] w fun e w' => e = .returned (.bool true) ∧ w = w' := by
  rcases h with ⟨h1, h2⟩ | ⟨h1, h2⟩
  · go_enter Tryd.func115, Tryd.ntmps115
    go_wp2
    go_ret
    exact ⟨rfl, rfl⟩
  · go_enter Tryd.func115, Tryd.ntmps115
    go_wp2
    go_ret
    exact ⟨rfl, rfl⟩
theorem valid_no (r : Int) (w : World) (h : (55296 ≤ r ∧ r ≤ 57343) ∨ 1114112 ≤ r ∨ r < 0) : Calls Tryd.prog 115 #[.int .i32 r] w fun e w' => e = .returned (.bool false) ∧ w = w' := by
  rcases h with ⟨h1, h2⟩ | h1 | h1
  · go_enter Tryd.func115, Tryd.ntmps115
    go_wp2
    go_ret
    exact ⟨rfl, rfl⟩
  · go_enter Tryd.func115, Tryd.ntmps115
    go_wp2
    go_ret
    exact ⟨rfl, rfl⟩
  · go_enter Tryd.func115, Tryd.ntmps115
    go_wp2
    go_ret
    exact ⟨rfl, rfl⟩
theorem cut_any (n : Int) (w : World) (h0 : 0 ≤ n) (h : n ≤ 4294967296) : Calls Tryd.prog 116 #[.int .i64 n] w fun e w' => e = .returned (.int .i64 ((n + 16) / 8)) ∧ w = w' := by
  go_enter Tryd.func116, Tryd.ntmps116
  go_wp2
  go_ret
  exact ⟨rfl, rfl⟩
theorem conv_rune (r : Int) (w : World) : (convert 21 9 (.int .i32 r)).run Tryd.prog w = .ok (.string (Utf8.encode r)) w := by
  have h21 := Tryd.underlying21
  have h9 := Tryd.underlying9
  simp [convert, run_underlying h21, run_underlying h9, Conv.intToString]
theorem cut_from (s : ByteArray) (i : Nat) (h : i + 1 ≤ s.size) (w : World) : (Instr.slice 9 (.string s) (some (.int .i64 ((i : Int) + 1))) none none).run Tryd.prog w = .ok (.string (s.extract (i + 1) s.size)) w := by
  have h9 := run_underlying (w := w) Tryd.underlying9
  have b0 : (0 : Int) ≤ (i : Int) + 1 := by omega
  have b1 : (i : Int) + 1 ≤ (s.size : Int) := by omega
  have b2 : ((i : Int) + 1).toNat = i + 1 := by omega
  simp [Instr.slice, h9, Instr.sliceBounds, Instr.sliceBound, asIntOf, go_sem, b0, b1, b2]
def IrInv (s rs : ByteArray) (i f : Nat) : Prop :=
  NoEnd s.data.toList rs.data.toList i ∧ rs.size ≤ i + 1 ∧ i ≤ s.size + rs.size ∧ f ≤ cntTo s.data.toList (rs.data.toList.getD (rs.size - 1) 0) i
def IrHit (s rs : ByteArray) (L i f : Nat) : Prop := IrInv s rs i f ∧ s.data.toList[i]? = rs.data.toList[L]?
def IrPart (s rs : ByteArray) (L i j : Nat) : Prop := ∀ t, t < j → s.data.toList[i - t]? = rs.data.toList[L - t]?
theorem ret_int {k : IntKind} {a b : Int} (h : a = b) : Ending.returned (.int k a) = .returned (.int k b) := by rw [h]
theorem at_get {s : ByteArray} {i : Nat} (h : i < s.size) : s.data.toList[i]? = some s[i] := Lib.data_getElem? s i h
theorem len_of (s : ByteArray) : s.data.toList.length = s.size := data_length s
theorem same_byte {a b : UInt8} (h : (((a.toNat : Nat) : Int) != ((b.toNat : Nat) : Int)) = false) : a = b := Lib.byte_eq_of_toNat (by simpa using h)
theorem other_byte {a b : UInt8} (h : (((a.toNat : Nat) : Int) != ((b.toNat : Nat) : Int)) = true) : a ≠ b := fun e => by subst e; simp at h
theorem hit_here {s rs : ByteArray} {L i f : Nat} (h : IrInv s rs i f) (hi : i < s.size) (hL : L < rs.size) (hb : (((s[i].toNat : Nat) : Int) != ((rs[L].toNat : Nat) : Int)) = false) : IrHit s rs L i f :=
  ⟨h, by rw [at_get hi, at_get hL, same_byte hb]⟩
theorem skip_facts {s rs : ByteArray} {L i k : Nat} (hLb : L < rs.size) (ho : Lib.indexByte (s.extract (i + 1) s.size).data.toList ((rs[L].toNat : Int)).toNat.toUInt8 = (k : Int)) :
    s.data.toList[i + 1 + k]? = rs.data.toList[L]? ∧ ∀ t, t < k → s.data.toList[i + 1 + t]? ≠ rs.data.toList[L]? := by
  rw [Lib.extract_to_end, Lib.byte_back] at ho
  obtain ⟨h1, h2⟩ := Lib.indexByte_some ho
  rw [List.getElem?_drop] at h1
  refine ⟨by rw [h1, at_get hLb], fun t ht => ?_⟩
  have := h2 t ht
  rw [List.getElem?_drop] at this
  rw [at_get hLb]
  exact this
theorem hit_skip {s rs : ByteArray} {L i k f : Nat} (hL : rs.size = L + 1) (h : IrInv s rs i f) (hi : i < s.size) (hLb : L < rs.size) (hb : (((s[i].toNat : Nat) : Int) != ((rs[L].toNat : Nat) : Int)) = true)
    (ho : Lib.indexByte (s.extract (i + 1) s.size).data.toList ((rs[L].toNat : Int)).toNat.toUInt8 = (k : Int)) : i + (k + 1) < s.size ∧ IrHit s rs L (i + (k + 1)) f := by
  obtain ⟨h1, h2⟩ := skip_facts hLb ho
  have hlt : i + (k + 1) < s.size := by
    rw [at_get hLb] at h1
    have := (List.getElem?_eq_some_iff.1 h1).1
    rw [len_of] at this
    omega
  refine ⟨hlt, ⟨?_, by have := h.2.1; omega, by omega, Nat.le_trans h.2.2.2 (cntTo_mono _ _ (by omega))⟩, by rw [← h1, show i + (k + 1) = i + 1 + k by omega]⟩
  refine ir_skip h.1 (by rw [len_of]; omega) (fun q hq1 hq2 => ?_)
  rw [len_of, show rs.size - 1 = L by omega]
  rcases Nat.lt_or_ge i q with hq | hq
  · have := h2 (q - (i + 1)) (by omega)
    rwa [show i + 1 + (q - (i + 1)) = q by omega] at this
  · obtain rfl : q = i := by omega
    rw [at_get hi, at_get hLb]
    exact fun e => other_byte hb (Option.some.inj e)
theorem indexByte_ge : ∀ (l : List UInt8) (c : UInt8), -1 ≤ Lib.indexByte l c
  | [], _ => by simp [Lib.indexByte]
  | b :: l, c => by
    have := indexByte_ge l c
    unfold Lib.indexByte
    split
    · omega
    · split <;> omega
theorem skip_none {s rs : ByteArray} {L i f : Nat} {o : Int} (hL : rs.size = L + 1) (h : IrInv s rs i f) (hi : i < s.size) (hLb : L < rs.size) (hb : (((s[i].toNat : Nat) : Int) != ((rs[L].toNat : Nat) : Int)) = true)
    (ho : Lib.indexByte (s.extract (i + 1) s.size).data.toList ((rs[L].toNat : Int)).toNat.toUInt8 = o) (hneg : o < 0) : Lib.index s.data.toList rs.data.toList = -1 := by
  have hge := indexByte_ge (s.extract (i + 1) s.size).data.toList ((rs[L].toNat : Int)).toNat.toUInt8
  obtain rfl : o = -1 := by omega
  rw [Lib.extract_to_end, Lib.byte_back] at ho
  have hno := Lib.indexByte_none ho
  refine ir_end (i := s.size) (ir_skip h.1 (by rw [len_of]; omega) (fun q hq1 hq2 => ?_)) (by rw [len_of]; exact Nat.le_refl _) (fun e => by have := len_of rs; rw [e] at this; simp at this; omega)
  rw [len_of, show rs.size - 1 = L by omega]
  rcases Nat.lt_or_ge i q with hq | hq
  · have := hno (q - (i + 1))
    rw [List.getElem?_drop, show i + 1 + (q - (i + 1)) = q by omega] at this
    rw [at_get hLb]
    exact this
  · obtain rfl : q = i := by omega
    rw [at_get hi, at_get hLb]
    exact fun e => other_byte hb (Option.some.inj e)
theorem part_start {s rs : ByteArray} {L i f : Nat} (h : IrHit s rs L i f) : IrPart s rs L i 1 := fun t ht => by
  obtain rfl : t = 0 := by omega
  exact h.2
theorem part_step {s rs : ByteArray} {L i j : Nat} (h : IrPart s rs L i j) (hi : i - j < s.size) (hL : L - j < rs.size) (hb : (((s[i - j].toNat : Nat) : Int) != ((rs[L - j].toNat : Nat) : Int)) = false) : IrPart s rs L i (j + 1) := fun t ht => by
  rcases Nat.lt_or_ge t j with h' | h'
  · exact h t h'
  · obtain rfl : t = j := by omega
    rw [at_get hi, at_get hL, same_byte hb]
theorem part_done {s rs : ByteArray} {L i f : Nat} (hL : rs.size = L + 1) (h : IrHit s rs L i f) (hi : i < s.size) (hp : IrPart s rs L i (L + 1)) : Lib.index s.data.toList rs.data.toList = (i : Int) - (L : Int) := by
  have := ir_hit (R := rs.data.toList) h.1.1 (by rw [len_of]; exact hi) (by rw [len_of]; exact h.1.2.1) (by rw [len_of]; omega) (fun t ht => by
    rw [len_of] at ht ⊢
    rw [show rs.size - 1 - t = L - t by omega]
    exact hp t (by omega))
  rw [this, len_of]
  have := h.1.2.1
  omega
theorem part_miss {s rs : ByteArray} {L i j f : Nat} (hL : rs.size = L + 1) (h : IrHit s rs L i f) (hi : i < s.size) (hj : j ≤ L) (hij : i - j < s.size) (hLj : L - j < rs.size) (hb : (((s[i - j].toNat : Nat) : Int) != ((rs[L - j].toNat : Nat) : Int)) = true) : IrInv s rs (i + 1) (f + 1) := by
  have hLb : L < rs.size := by omega
  refine ⟨ir_miss (t := j) h.1.1 (by rw [len_of]; exact h.1.2.1) (by rw [len_of]; omega) ?_, by have := h.1.2.1; omega, by omega, ?_⟩
  · rw [len_of, show rs.size - 1 - j = L - j by omega, at_get hij, at_get hLj]
    exact fun e => other_byte hb (Option.some.inj e)
  · have hc := h.1.2.2.2
    have h2 := h.2
    rw [at_get hLb] at h2
    rw [show rs.size - 1 = L by omega, List.getD_eq_getElem?_getD, at_get hLb, Option.getD_some] at hc ⊢
    rw [cntTo_succ _ _ h2]
    exact Nat.succ_le_succ hc
theorem fails_le {s rs : ByteArray} {L i f : Nat} (hL : rs.size = L + 1) (h : IrInv s rs (i + 1) (f + 1)) (hi : i < s.size) (hcalm : calm s.data.toList (rs.data.toList.getD L 0) = true) : (f : Int) + 1 ≤ ((i : Int) + 1 + 16) / 8 := by
  have h1 := calm_le hcalm (i + 1) (by rw [len_of]; omega)
  have h2 := h.2.2.2
  rw [show rs.size - 1 = L by omega] at h2
  omega
set_option maxHeartbeats 4000000 in
set_option maxRecDepth 100000 in
theorem ir_walk (s : ByteArray) (r : Int) (w : World) (h0 : 128 ≤ r) (hv : (128 ≤ r ∧ r ≤ 55295) ∨ (57344 ≤ r ∧ r ≤ 1114111)) (hne : (r == 65533) = false) (hs : s.size ≤ 4294967000) (rs : ByteArray) (L : Nat) (hL : rs.size = L + 1) (hr2 : 1 ≤ L) (hr4 : L ≤ 3)
    (hconv : ∀ w, (convert 21 9 (.int .i32 r)).run Tryd.prog w = .ok (.string rs) w) (hcalm : calm s.data.toList (rs.data.toList.getD L 0) = true) :
    Calls Tryd.prog 106 #[.string s, .int .i32 r] w fun e w' => e = .returned (.int .i64 (Lib.index s.data.toList rs.data.toList)) ∧ Drawn0 w w' := by
  have HC := Lib.hid hcalm
  clear hcalm
  have HV := Lib.hid hv
  clear hv
  have hs1 : (rs.size : Int) - 1 = (L : Int) := by omega
  have hLb : L < rs.size := by omega
  have HL := Lib.hid hL
  clear hL
  go_enter Tryd.func106, Tryd.ntmps106
  go_wp2_with (go_at_call 115; refine (valid_yes _ _ HV.out).mono ?_; rintro e w' ⟨rfl, rfl⟩)
  go_step3
  go_wp2
  go_loopw [9, 10, 11, 12] (fun v9 v10 v11 v12 wr => ∃ i f : Nat, v9 = .int .i64 (i : Int) ∧ v10 = .int .i64 (f : Int) ∧ Aside0 (IrInv s rs i f) ∧ Aside0 (Drawn0 w wr)) (fun v9 v10 v11 v12 _ => s.size + 8 - (intOf v9).toNat)
  case atStart =>
    have hL := HL.out
    refine ⟨L, 0, rfl, rfl, ⟨NoEnd.start _ _ _ (by rw [len_of]; omega), by omega, by omega, by omega⟩, ⟨Drawn0.refl _⟩⟩
  case round =>
    obtain ⟨i, f, rfl, rfl, HI, HD⟩ := hrel
    by_cases hlt : i < s.size
    · go_wp2
      refine wp_scope_fwd 0 rfl ?_
      go_wp2
      obtain ⟨o, ho⟩ : ∃ o, Lib.indexByte (s.extract (i + 1) s.size).data.toList ((rs[L].toNat : Int)).toNat.toUInt8 = o := ⟨_, rfl⟩
      have HIB := Lib.hid (show ∀ w, Calls Tryd.prog 114 #[.string (s.extract (i + 1) s.size), .int .u8 (rs[L].toNat : Int)] w fun e w' => e = .returned (.int .i64 o) ∧ w' = w from fun w => by rw [← ho]; exact Tryd.strings_IndexByte _ _ w)
      have HO := Lib.hid ho
      clear ho
      have w1 : IntKind.i64.wrap ((i : Int) + 1) = (i : Int) + 1 := IntWalk.i64_in _ (by omega)
      have n1 : (0 : Int) ≤ (i : Int) + 1 := by omega
      have t1 : ((i : Int) + 1).toNat = i + 1 := by omega
      have l1 : i + 1 ≤ s.size := by omega
      have hcut := fun w => cut_from s i l1 w
      by_cases hc : (((s[i].toNat : Nat) : Int) != ((rs[L].toNat : Nat) : Int)) = true
      · by_cases hneg : o < 0
        · have HN := Lib.hid (skip_none HL.out HI.out hlt hLb hc HO.out hneg)
          go_quiet (fail)
          go_wp2
          go_quiet ((go_at_call 114; exact quiet_add_same (HIB.out _)))
          clear w1 n1 t1 hcut
          go_wp2
          change bodyPost Tryd.prog Tryd.f106 (fun e w' => e = Ending.returned (Value.int IntKind.i64 (Lib.index s.data.toList rs.data.toList)) ∧ Drawn0 w w') Exit.ret _ _
          go_ret
          exact ⟨ret_int HN.out.symm, HD.out.step _⟩
        · obtain ⟨k, rfl⟩ : ∃ k : Nat, o = (k : Int) := ⟨o.toNat, by omega⟩
          obtain ⟨i2, hi2⟩ : ∃ i2, i2 = i + (k + 1) := ⟨_, rfl⟩
          have hsk := hit_skip HL.out HI.out hlt hLb hc HO.out
          rw [← hi2] at hsk
          have hlt2 := hsk.1
          have HI2 := Aside0.mk hsk.2
          clear hsk
          have e2 : (i : Int) + ((k : Int) + 1) = (i2 : Int) := by omega
          have hle : i ≤ i2 := by omega
          clear hi2
          go_quiet (fail)
          go_wp2
          go_quiet ((go_at_call 114; exact quiet_add_same (HIB.out _)))
          go_wp2
          clear e2 hc
          clear w1 n1 t1 hcut l1 HO HIB HI
          go_loopw [12] (fun v12 wr1 => ∃ j : Nat, v12 = .int .i64 (j : Int) ∧ 1 ≤ j ∧ j ≤ L + 1 ∧ Aside0 (IrPart s rs L i2 j) ∧ Aside0 (Drawn0 w wr1)) (fun v12 _ => L + 1 - (intOf v12).toNat)
          case atStart => exact ⟨1, rfl, by omega, by omega, ⟨part_start HI2.out⟩, ⟨HD.out.step _⟩⟩
          case round =>
            obtain ⟨j, rfl, hj1, hj2, HP, HD1⟩ := hrel
            have hLi := HI2.out.1.2.1
            have hL := HL.out
            have HLI := Lib.hid (show L ≤ i2 by omega)
            clear hLi hL
            by_cases hjl : j < rs.size
            · have hjL : j ≤ L := by have := HL.out; omega
              have hji : j ≤ i2 := by have := HLI.out; omega
              have b1 : i2 - j < s.size := by omega
              have b2 : L - j < rs.size := by omega
              have c1 : (i2 : Int) - (j : Int) = ((i2 - j : Nat) : Int) := by omega
              have c2 : (L : Int) - (j : Int) = ((L - j : Nat) : Int) := by omega
              have w1 : IntKind.i64.wrap ((i2 : Int) - (j : Int)) = ((i2 - j : Nat) : Int) := by rw [c1]; exact IntWalk.i64_in _ (by omega)
              have w2 : IntKind.i64.wrap ((L : Int) - (j : Int)) = ((L - j : Nat) : Int) := by rw [c2]; exact IntWalk.i64_in _ (by omega)
              by_cases hx : (((s[i2 - j].toNat : Nat) : Int) != ((rs[L - j].toNat : Nat) : Int)) = true
              · have HM := Lib.hid (part_miss HL.out HI2.out hlt2 hjL b1 b2 hx)
                have hfl := fails_le HL.out HM.out hlt2 HC.out
                go_wp2
                go_quiet (fail)
                clear c1 c2 w1 w2
                go_wp2
                go_step3
                refine (show 0 = 0 ∧ _ from ⟨rfl, ?_⟩)
                go_wp2_with (go_at_call 116; refine (cut_any _ _ (by omega) (by omega)).mono ?_; rintro e w' ⟨rfl, rfl⟩)
                go_roundw
                case rel => exact ⟨i2 + 1, f + 1, by go_num, by go_num, ⟨HM.out⟩, ⟨HD1.out.step _⟩⟩
                case measure => simp [intOf]; omega
              · have hx' : (((s[i2 - j].toNat : Nat) : Int) != ((rs[L - j].toNat : Nat) : Int)) = false := by simpa using hx
                clear hx
                have HS := Lib.hid (part_step HP.out b1 b2 hx')
                go_wp2
                go_quiet (fail)
                clear c1 c2 w1 w2
                go_wp2
                go_roundw
                case rel => exact ⟨j + 1, by go_num, by omega, by omega, ⟨HS.out⟩, ⟨HD1.out.step _⟩⟩
                case measure => simp [intOf]; omega
            · obtain rfl : j = L + 1 := by have := HL.out; omega
              have HR := Lib.hid (part_done HL.out HI2.out hlt2 HP.out)
              go_wp2
              change bodyPost Tryd.prog Tryd.f106 (fun e w' => e = Ending.returned (Value.int IntKind.i64 (Lib.index s.data.toList rs.data.toList)) ∧ Drawn0 w w') Exit.ret _ _
              go_ret
              exact ⟨ret_int HR.out.symm, HD1.out⟩
      · have hc' : (((s[i].toNat : Nat) : Int) != ((rs[L].toNat : Nat) : Int)) = false := by simpa using hc
        clear hc
        obtain ⟨i2, hi2⟩ : ∃ i2, i2 = i := ⟨_, rfl⟩
        subst hi2
        have hlt2 := hlt
        have HI2 := Aside0.mk (hit_here HI.out hlt hLb hc')
        go_quiet (fail)
        go_wp2
        clear hc'
        clear w1 n1 t1 hcut l1 HO HIB HI
        go_loopw [12] (fun v12 wr1 => ∃ j : Nat, v12 = .int .i64 (j : Int) ∧ 1 ≤ j ∧ j ≤ L + 1 ∧ Aside0 (IrPart s rs L i2 j) ∧ Aside0 (Drawn0 w wr1)) (fun v12 _ => L + 1 - (intOf v12).toNat)
        case atStart => exact ⟨1, rfl, by omega, by omega, ⟨part_start HI2.out⟩, ⟨HD.out.step _⟩⟩
        case round =>
          obtain ⟨j, rfl, hj1, hj2, HP, HD1⟩ := hrel
          have hLi := HI2.out.1.2.1
          have hL := HL.out
          have HLI := Lib.hid (show L ≤ i2 by omega)
          clear hLi hL
          by_cases hjl : j < rs.size
          · have hjL : j ≤ L := by have := HL.out; omega
            have hji : j ≤ i2 := by have := HLI.out; omega
            have b1 : i2 - j < s.size := by omega
            have b2 : L - j < rs.size := by omega
            have c1 : (i2 : Int) - (j : Int) = ((i2 - j : Nat) : Int) := by omega
            have c2 : (L : Int) - (j : Int) = ((L - j : Nat) : Int) := by omega
            have w1 : IntKind.i64.wrap ((i2 : Int) - (j : Int)) = ((i2 - j : Nat) : Int) := by rw [c1]; exact IntWalk.i64_in _ (by omega)
            have w2 : IntKind.i64.wrap ((L : Int) - (j : Int)) = ((L - j : Nat) : Int) := by rw [c2]; exact IntWalk.i64_in _ (by omega)
            by_cases hx : (((s[i2 - j].toNat : Nat) : Int) != ((rs[L - j].toNat : Nat) : Int)) = true
            · have HM := Lib.hid (part_miss HL.out HI2.out hlt2 hjL b1 b2 hx)
              have hfl := fails_le HL.out HM.out hlt2 HC.out
              go_wp2
              go_quiet (fail)
              clear c1 c2 w1 w2
              go_wp2
              go_step3
              refine (show 0 = 0 ∧ _ from ⟨rfl, ?_⟩)
              go_wp2_with (go_at_call 116; refine (cut_any _ _ (by omega) (by omega)).mono ?_; rintro e w' ⟨rfl, rfl⟩)
              go_roundw
              case rel => exact ⟨i2 + 1, f + 1, by go_num, by go_num, ⟨HM.out⟩, ⟨HD1.out.step _⟩⟩
              case measure => simp [intOf]; omega
            · have hx' : (((s[i2 - j].toNat : Nat) : Int) != ((rs[L - j].toNat : Nat) : Int)) = false := by simpa using hx
              clear hx
              have HS := Lib.hid (part_step HP.out b1 b2 hx')
              go_wp2
              go_quiet (fail)
              clear c1 c2 w1 w2
              go_wp2
              go_roundw
              case rel => exact ⟨j + 1, by go_num, by omega, by omega, ⟨HS.out⟩, ⟨HD1.out.step _⟩⟩
              case measure => simp [intOf]; omega
          · obtain rfl : j = L + 1 := by have := HL.out; omega
            have HR := Lib.hid (part_done HL.out HI2.out hlt2 HP.out)
            go_wp2
            change bodyPost Tryd.prog Tryd.f106 (fun e w' => e = Ending.returned (Value.int IntKind.i64 (Lib.index s.data.toList rs.data.toList)) ∧ Drawn0 w w') Exit.ret _ _
            go_ret
            exact ⟨ret_int HR.out.symm, HD1.out⟩
    · have HE := Lib.hid (ir_end HI.out.1 (by rw [len_of]; omega) (fun e => by have := len_of rs; rw [e] at this; simp at this; omega))
      go_wp2
      change bodyPost Tryd.prog Tryd.f106 (fun e w' => e = Ending.returned (Value.int IntKind.i64 (Lib.index s.data.toList rs.data.toList)) ∧ Drawn0 w w') Exit.ret _ _
      go_ret
      exact ⟨ret_int HE.out.symm, HD.out⟩
set_option maxRecDepth 100000 in
theorem ir_ascii (s : ByteArray) (r : Int) (w : World) (h0 : 0 ≤ r) (h1 : r < 128) :
    Calls Tryd.prog 106 #[.string s, .int .i32 r] w fun e w' => e = .returned (.int .i64 (Lib.indexByte s.data.toList r.toNat.toUInt8)) ∧ w = w' := by
  go_enter Tryd.func106, Tryd.ntmps106
  go_wp2_with (go_at_call 114; refine (Tryd.strings_IndexByte _ _ _).mono ?_; rintro e w' ⟨rfl, rfl⟩)
  go_ret
  exact ⟨rfl, rfl⟩
set_option maxRecDepth 100000 in
theorem ir_bad (s : ByteArray) (r : Int) (w : World) (h : (55296 ≤ r ∧ r ≤ 57343) ∨ 1114112 ≤ r ∨ r < 0) :
    Calls Tryd.prog 106 #[.string s, .int .i32 r] w fun e w' => e = .returned (.int .i64 (-1)) ∧ w = w' := by
  have hne : (r == 65533) = false := by simp; omega
  have HB := Lib.hid h
  rcases h with h | h | h
  · go_enter Tryd.func106, Tryd.ntmps106
    go_wp2_with (go_at_call 115; refine (valid_no _ _ HB.out).mono ?_; rintro e w' ⟨rfl, rfl⟩)
    go_ret
    exact ⟨rfl, rfl⟩
  · go_enter Tryd.func106, Tryd.ntmps106
    go_wp2_with (go_at_call 115; refine (valid_no _ _ HB.out).mono ?_; rintro e w' ⟨rfl, rfl⟩)
    go_ret
    exact ⟨rfl, rfl⟩
  · go_enter Tryd.func106, Tryd.ntmps106
    go_wp2_with (go_at_call 115; refine (valid_no _ _ HB.out).mono ?_; rintro e w' ⟨rfl, rfl⟩)
    go_ret
    exact ⟨rfl, rfl⟩
theorem encode_size (r : Int) (h : (128 ≤ r ∧ r ≤ 55295) ∨ (57344 ≤ r ∧ r ≤ 1114111)) : 2 ≤ (Utf8.encode r).size ∧ (Utf8.encode r).size ≤ 4 := by
  have hv : Utf8.valid r = true := by
    unfold Utf8.valid
    rcases h with h | h
    · simp; omega
    · simp; omega
  unfold Utf8.encode
  simp only [hv, if_true]
  rw [if_neg (by omega)]
  split
  · simp [ByteArray.size]
  · split
    · simp [ByteArray.size]
    · simp [ByteArray.size]
def strings_IndexRune.f (a0 : ByteArray) (a1 : Int) : Option Int :=
  if 0 ≤ a1 ∧ a1 < 128 then some (Lib.indexByte a0.data.toList a1.toNat.toUInt8)
  else if (55296 ≤ a1 ∧ a1 ≤ 57343) ∨ 1114112 ≤ a1 ∨ a1 < 0 then some (-1)
  else if a1 = 65533 then none
  else if a0.size ≤ 4294967000 ∧ calm a0.data.toList ((Utf8.encode a1).data.toList.getD ((Utf8.encode a1).size - 1) 0) = true then some (Lib.index a0.data.toList (Utf8.encode a1).data.toList)
  else none
theorem strings_IndexRune.calls (a0 : ByteArray) (a1 : Int) (r : Int) (w : World) (h : strings_IndexRune.f a0 a1 = some r) :
    Calls Tryd.prog 106 #[.string a0, .int .i32 a1] w fun e w' => e = .returned (.int .i64 r) ∧ Drawn0 w w' := by
  unfold strings_IndexRune.f at h
  split at h
  · rename_i h1
    obtain rfl := Option.some.inj h
    exact (ir_ascii a0 a1 w h1.1 h1.2).mono fun e w' ⟨he, hw⟩ => ⟨he, hw ▸ Drawn0.refl _⟩
  · split at h
    · rename_i h1
      obtain rfl := Option.some.inj h
      exact (ir_bad a0 a1 w h1).mono fun e w' ⟨he, hw⟩ => ⟨he, hw ▸ Drawn0.refl _⟩
    · split at h
      · exact absurd h (by simp)
      · split at h
        · rename_i n1 n2 n3 h4
          obtain rfl := Option.some.inj h
          have hv : (128 ≤ a1 ∧ a1 ≤ 55295) ∨ (57344 ≤ a1 ∧ a1 ≤ 1114111) := by omega
          have hz := encode_size a1 hv
          exact ir_walk a0 a1 w (by omega) hv (by simpa using n3) h4.1 (Utf8.encode a1) ((Utf8.encode a1).size - 1) (by omega) (by omega) (by omega) (fun w => conv_rune a1 w) h4.2
        · exact absurd h (by simp)
end Go.Proofs.YthcpdhniakpbaaaDoor.X
end

section
namespace Go.Proofs.YthcpdhniakpbaaaDoor.X
open Go.RowKit Go.Proofs.YthcpdhniakpbaaaDoorW.PrintWords Go.Proofs.YthcpdhniakpbaaaDoorW.PrintLast Go.Proofs.YthcpdhniakpbaaaDoorW.PrintMore
attribute [local go_sem] max2_int min2_int max_two min_two max_three min_three max_four min_four
set_option linter.unusedVariables false
set_option linter.unusedSimpArgs false
def strings_ContainsRune.f (a0 : ByteArray) (a1 : Int) : Option (Bool) := (strings_IndexRune.f a0 a1).bind fun t373 => (some (decide (t373 ≥ 0)))
set_option maxHeartbeats 8000000 in
set_option maxRecDepth 100000 in
theorem strings_ContainsRune.calls (a0 : ByteArray) (a1 : Int) (r : Bool) (w : World) (h : strings_ContainsRune.f a0 a1 = some r) :
    Calls Tryd.prog 113 #[.string a0, .int .i32 a1] w fun e w' => e = .returned (.bool r) ∧ Drawn0 w w' := by
  have H : ((strings_IndexRune.f a0 a1).bind fun t373 => (some (decide (t373 ≥ 0)))) = some r := h
  clear h
  replace H := Option.bind_eq_some_iff.mp H
  obtain ⟨t373, A30, H⟩ := H
  replace H : (some (decide (t373 ≥ 0))) = some r := H
  have A3 := Aside0.mk A30
  clear A30
  obtain rfl := Option.some.inj H
  go_enter Tryd.func113, Tryd.ntmps113
  go_wp2_with (first | ((with_reducible refine gate_callee (f := 106) rfl ?_); refine goesL_ (some 7) rfl rfl Tryd.func106 (by kernel_rfl) rfl #[.string a0, .int .i32 a1] rfl (by (try simp only [List.map_toArray, List.map_cons, List.map_nil]); first | done | rfl | (simp only [List.length_drop, List.length_take]; rfl)) ?_; (with_reducible refine (strings_IndexRune.calls a0 a1 t373 _ A3.out).mono ?_); rintro e w' ⟨rfl, ⟨nd, rfl⟩⟩; refine ⟨_, rfl, ?_⟩))
  go_ret
  exact ⟨by first | rfl | (simp; done) | (simp [*]; done), by repeat (first | exact Drawn0.refl _ | apply Drawn0.step)⟩
mutual
def repertoire_letter.j0 : Nat → Int → Bool → Option (Int)
  | 0, _, _ => none
  | k + 1, x0, x3 => if x3 = true then (some 1) else (if x0 = 930 then ((repertoire_from.f x0 945 969).bind fun t378 => (if t378 = true then (repertoire_letter.j1 k x0 true) else ((strings_ContainsRune.f (⟨#[206, 134, 206, 136, 206, 137, 206, 138, 206, 140, 206, 142, 206, 143, 206, 172, 206, 173, 206, 174, 206, 175, 207, 140, 207, 141, 207, 142, 206, 170, 206, 171, 207, 138, 207, 139]⟩ : ByteArray) (wrap32 (x0))).bind fun t379 => (repertoire_letter.j1 k x0 t379)))) else ((repertoire_from.f x0 913 937).bind fun t380 => (if t380 = true then (repertoire_letter.j1 k x0 true) else ((repertoire_from.f x0 945 969).bind fun t381 => (if t381 = true then (repertoire_letter.j1 k x0 true) else ((strings_ContainsRune.f (⟨#[206, 134, 206, 136, 206, 137, 206, 138, 206, 140, 206, 142, 206, 143, 206, 172, 206, 173, 206, 174, 206, 175, 207, 140, 207, 141, 207, 142, 206, 170, 206, 171, 207, 138, 207, 139]⟩ : ByteArray) (wrap32 (x0))).bind fun t382 => (repertoire_letter.j1 k x0 t382)))))))
def repertoire_letter.j1 : Nat → Int → Bool → Option (Int)
  | 0, _, _ => none
  | k + 1, x0, x23 => if x23 = true then (some 2) else ((repertoire_from.f x0 1040 1103).bind fun t383 => (if t383 = true then (some 3) else ((strings_ContainsRune.f (⟨#[208, 129, 209, 145, 208, 135, 209, 151, 208, 132, 209, 148, 210, 144, 210, 145, 208, 142, 209, 158, 208, 134, 209, 150]⟩ : ByteArray) (wrap32 (x0))).bind fun t384 => (if t384 = true then (some 3) else (some 0)))))
end
def repertoire_letter.f (k : Nat) (a0 : Int) : Option (Int) := (repertoire_from.f a0 65 90).bind fun t374 => (if t374 = true then (repertoire_letter.j0 k a0 true) else ((repertoire_from.f a0 97 122).bind fun t375 => (if t375 = true then (repertoire_letter.j0 k a0 true) else (if a0 = 383 then (repertoire_letter.j0 k a0 true) else ((repertoire_from.f a0 64257 64258).bind fun t376 => (if t376 = true then (repertoire_letter.j0 k a0 true) else ((strings_ContainsRune.f (⟨#[195, 128, 195, 136, 195, 140, 195, 146, 195, 153, 195, 160, 195, 168, 195, 172, 195, 178, 195, 185, 195, 129, 195, 137, 195, 141, 195, 147, 195, 154, 195, 157, 195, 161, 195, 169, 195, 173, 195, 179, 195, 186, 195, 189, 196, 134, 196, 135, 196, 185, 196, 186, 197, 131, 197, 132, 197, 148, 197, 149, 197, 154, 197, 155, 197, 185, 197, 186, 195, 130, 195, 138, 195, 142, 195, 148, 195, 155, 195, 162, 195, 170, 195, 174, 195, 180, 195, 187, 196, 136, 196, 137, 196, 156, 196, 157, 196, 164, 196, 165, 196, 180, 196, 181, 197, 156, 197, 157, 197, 180, 197, 181, 197, 182, 197, 183, 195, 131, 195, 145, 195, 149, 195, 163, 195, 177, 195, 181, 196, 168, 196, 169, 197, 168, 197, 169, 196, 128, 196, 129, 196, 146, 196, 147, 196, 170, 196, 171, 197, 140, 197, 141, 197, 170, 197, 171, 196, 130, 196, 131, 196, 148, 196, 149, 196, 158, 196, 159, 196, 172, 196, 173, 197, 142, 197, 143, 197, 172, 197, 173, 196, 138, 196, 139, 196, 150, 196, 151, 196, 160, 196, 161, 196, 176, 197, 187, 197, 188, 195, 132, 195, 139, 195, 143, 195, 150, 195, 156, 195, 164, 195, 171, 195, 175, 195, 182, 195, 188, 195, 191, 197, 184, 195, 133, 195, 165, 197, 174, 197, 175, 197, 144, 197, 145, 197, 176, 197, 177, 196, 140, 196, 141, 196, 142, 196, 143, 196, 154, 196, 155, 197, 135, 197, 136, 197, 152, 197, 153, 197, 160, 197, 161, 197, 164, 197, 165, 197, 189, 197, 190, 196, 189, 196, 190, 195, 135, 195, 167, 196, 162, 196, 163, 196, 182, 196, 183, 196, 187, 196, 188, 197, 133, 197, 134, 197, 150, 197, 151, 197, 158, 197, 159, 197, 162, 197, 163, 196, 132, 196, 133, 196, 152, 196, 153, 196, 174, 196, 175, 197, 178, 197, 179, 195, 134, 195, 166, 195, 152, 195, 184, 195, 144, 195, 176, 195, 158, 195, 190, 195, 159, 196, 144, 196, 145, 196, 166, 196, 167, 196, 177, 197, 129, 197, 130, 197, 146, 197, 147, 197, 138, 197, 139, 197, 166, 197, 167]⟩ : ByteArray) (wrap32 (a0))).bind fun t377 => (repertoire_letter.j0 k a0 t377))))))))
set_option maxHeartbeats 8000000 in
set_option maxRecDepth 100000 in
theorem repertoire_letter.calls (k : Nat) (a0 : Int) (r : Int) (w : World) (h : repertoire_letter.f k a0 = some r) :
    Calls Tryd.prog 104 #[.int .i64 a0] w fun e w' => e = .returned (.int .i64 r) ∧ Drawn0 w w' := by
  have H : ((repertoire_from.f a0 65 90).bind fun t374 => (if t374 = true then (repertoire_letter.j0 k a0 true) else ((repertoire_from.f a0 97 122).bind fun t375 => (if t375 = true then (repertoire_letter.j0 k a0 true) else (if a0 = 383 then (repertoire_letter.j0 k a0 true) else ((repertoire_from.f a0 64257 64258).bind fun t376 => (if t376 = true then (repertoire_letter.j0 k a0 true) else ((strings_ContainsRune.f (⟨#[195, 128, 195, 136, 195, 140, 195, 146, 195, 153, 195, 160, 195, 168, 195, 172, 195, 178, 195, 185, 195, 129, 195, 137, 195, 141, 195, 147, 195, 154, 195, 157, 195, 161, 195, 169, 195, 173, 195, 179, 195, 186, 195, 189, 196, 134, 196, 135, 196, 185, 196, 186, 197, 131, 197, 132, 197, 148, 197, 149, 197, 154, 197, 155, 197, 185, 197, 186, 195, 130, 195, 138, 195, 142, 195, 148, 195, 155, 195, 162, 195, 170, 195, 174, 195, 180, 195, 187, 196, 136, 196, 137, 196, 156, 196, 157, 196, 164, 196, 165, 196, 180, 196, 181, 197, 156, 197, 157, 197, 180, 197, 181, 197, 182, 197, 183, 195, 131, 195, 145, 195, 149, 195, 163, 195, 177, 195, 181, 196, 168, 196, 169, 197, 168, 197, 169, 196, 128, 196, 129, 196, 146, 196, 147, 196, 170, 196, 171, 197, 140, 197, 141, 197, 170, 197, 171, 196, 130, 196, 131, 196, 148, 196, 149, 196, 158, 196, 159, 196, 172, 196, 173, 197, 142, 197, 143, 197, 172, 197, 173, 196, 138, 196, 139, 196, 150, 196, 151, 196, 160, 196, 161, 196, 176, 197, 187, 197, 188, 195, 132, 195, 139, 195, 143, 195, 150, 195, 156, 195, 164, 195, 171, 195, 175, 195, 182, 195, 188, 195, 191, 197, 184, 195, 133, 195, 165, 197, 174, 197, 175, 197, 144, 197, 145, 197, 176, 197, 177, 196, 140, 196, 141, 196, 142, 196, 143, 196, 154, 196, 155, 197, 135, 197, 136, 197, 152, 197, 153, 197, 160, 197, 161, 197, 164, 197, 165, 197, 189, 197, 190, 196, 189, 196, 190, 195, 135, 195, 167, 196, 162, 196, 163, 196, 182, 196, 183, 196, 187, 196, 188, 197, 133, 197, 134, 197, 150, 197, 151, 197, 158, 197, 159, 197, 162, 197, 163, 196, 132, 196, 133, 196, 152, 196, 153, 196, 174, 196, 175, 197, 178, 197, 179, 195, 134, 195, 166, 195, 152, 195, 184, 195, 144, 195, 176, 195, 158, 195, 190, 195, 159, 196, 144, 196, 145, 196, 166, 196, 167, 196, 177, 197, 129, 197, 130, 197, 146, 197, 147, 197, 138, 197, 139, 197, 166, 197, 167]⟩ : ByteArray) (wrap32 (a0))).bind fun t377 => (repertoire_letter.j0 k a0 t377))))))))) = some r := h
  clear h
  have HC2 := Aside0.mk H
  clear H
  go_enter Tryd.func104, Tryd.ntmps104
  go_upto_region 1 with (fail)
  go_cut [3] (fun v3 wc => ∃ (kq : Nat) (x3_1 : Bool), v3 = .bool x3_1 ∧ Aside0 (repertoire_letter.j0 kq a0 x3_1 = some r) ∧ Aside0 (kq ≤ k) ∧ Drawn0 w wc)
  case first =>
    have H := HC2.out
    clear HC2
    replace H := Option.bind_eq_some_iff.mp H
    obtain ⟨t374, A30, H⟩ := H
    replace H : (if t374 = true then (repertoire_letter.j0 k a0 true) else ((repertoire_from.f a0 97 122).bind fun t375 => (if t375 = true then (repertoire_letter.j0 k a0 true) else (if a0 = 383 then (repertoire_letter.j0 k a0 true) else ((repertoire_from.f a0 64257 64258).bind fun t376 => (if t376 = true then (repertoire_letter.j0 k a0 true) else ((strings_ContainsRune.f (⟨#[195, 128, 195, 136, 195, 140, 195, 146, 195, 153, 195, 160, 195, 168, 195, 172, 195, 178, 195, 185, 195, 129, 195, 137, 195, 141, 195, 147, 195, 154, 195, 157, 195, 161, 195, 169, 195, 173, 195, 179, 195, 186, 195, 189, 196, 134, 196, 135, 196, 185, 196, 186, 197, 131, 197, 132, 197, 148, 197, 149, 197, 154, 197, 155, 197, 185, 197, 186, 195, 130, 195, 138, 195, 142, 195, 148, 195, 155, 195, 162, 195, 170, 195, 174, 195, 180, 195, 187, 196, 136, 196, 137, 196, 156, 196, 157, 196, 164, 196, 165, 196, 180, 196, 181, 197, 156, 197, 157, 197, 180, 197, 181, 197, 182, 197, 183, 195, 131, 195, 145, 195, 149, 195, 163, 195, 177, 195, 181, 196, 168, 196, 169, 197, 168, 197, 169, 196, 128, 196, 129, 196, 146, 196, 147, 196, 170, 196, 171, 197, 140, 197, 141, 197, 170, 197, 171, 196, 130, 196, 131, 196, 148, 196, 149, 196, 158, 196, 159, 196, 172, 196, 173, 197, 142, 197, 143, 197, 172, 197, 173, 196, 138, 196, 139, 196, 150, 196, 151, 196, 160, 196, 161, 196, 176, 197, 187, 197, 188, 195, 132, 195, 139, 195, 143, 195, 150, 195, 156, 195, 164, 195, 171, 195, 175, 195, 182, 195, 188, 195, 191, 197, 184, 195, 133, 195, 165, 197, 174, 197, 175, 197, 144, 197, 145, 197, 176, 197, 177, 196, 140, 196, 141, 196, 142, 196, 143, 196, 154, 196, 155, 197, 135, 197, 136, 197, 152, 197, 153, 197, 160, 197, 161, 197, 164, 197, 165, 197, 189, 197, 190, 196, 189, 196, 190, 195, 135, 195, 167, 196, 162, 196, 163, 196, 182, 196, 183, 196, 187, 196, 188, 197, 133, 197, 134, 197, 150, 197, 151, 197, 158, 197, 159, 197, 162, 197, 163, 196, 132, 196, 133, 196, 152, 196, 153, 196, 174, 196, 175, 197, 178, 197, 179, 195, 134, 195, 166, 195, 152, 195, 184, 195, 144, 195, 176, 195, 158, 195, 190, 195, 159, 196, 144, 196, 145, 196, 166, 196, 167, 196, 177, 197, 129, 197, 130, 197, 146, 197, 147, 197, 138, 197, 139, 197, 166, 197, 167]⟩ : ByteArray) (wrap32 (a0))).bind fun t377 => (repertoire_letter.j0 k a0 t377)))))))) = some r := H
    have A3 := Aside0.mk A30
    clear A30
    by_cases c4 : t374 = true
    · subst c4
      have H1 : (repertoire_letter.j0 k a0 true) = some r := by rw [if_pos rfl] at H; exact H
      clear H
      have H := H1
      clear H1
      have H' := Aside0.mk H
      clear H
      go_wp2_with (first | ((with_reducible refine gate_callee (f := 103) rfl ?_); refine goesL_ (some 5) rfl rfl Tryd.func103 (by kernel_rfl) rfl #[.int .i64 a0, .int .i64 65, .int .i64 90] rfl (by (try simp only [List.map_toArray, List.map_cons, List.map_nil]); first | done | rfl | (simp only [List.length_drop, List.length_take]; rfl)) ?_; (with_reducible refine (repertoire_from.calls a0 65 90 true _ A3.out).mono ?_); rintro e w' ⟨rfl, ⟨nd, rfl⟩⟩; refine ⟨_, rfl, ?_⟩))
      go_meet
      case rel => exact ⟨_, (true), (by first | rfl | (simp; done) | (simp [*]; done)), H', ⟨by first | omega | exact Nat.le_refl _⟩, by repeat (first | exact Drawn0.refl _ | apply Drawn0.step)⟩
    · replace c4 := Bool.eq_false_iff.mpr c4
      subst c4
      have H1 : ((repertoire_from.f a0 97 122).bind fun t375 => (if t375 = true then (repertoire_letter.j0 k a0 true) else (if a0 = 383 then (repertoire_letter.j0 k a0 true) else ((repertoire_from.f a0 64257 64258).bind fun t376 => (if t376 = true then (repertoire_letter.j0 k a0 true) else ((strings_ContainsRune.f (⟨#[195, 128, 195, 136, 195, 140, 195, 146, 195, 153, 195, 160, 195, 168, 195, 172, 195, 178, 195, 185, 195, 129, 195, 137, 195, 141, 195, 147, 195, 154, 195, 157, 195, 161, 195, 169, 195, 173, 195, 179, 195, 186, 195, 189, 196, 134, 196, 135, 196, 185, 196, 186, 197, 131, 197, 132, 197, 148, 197, 149, 197, 154, 197, 155, 197, 185, 197, 186, 195, 130, 195, 138, 195, 142, 195, 148, 195, 155, 195, 162, 195, 170, 195, 174, 195, 180, 195, 187, 196, 136, 196, 137, 196, 156, 196, 157, 196, 164, 196, 165, 196, 180, 196, 181, 197, 156, 197, 157, 197, 180, 197, 181, 197, 182, 197, 183, 195, 131, 195, 145, 195, 149, 195, 163, 195, 177, 195, 181, 196, 168, 196, 169, 197, 168, 197, 169, 196, 128, 196, 129, 196, 146, 196, 147, 196, 170, 196, 171, 197, 140, 197, 141, 197, 170, 197, 171, 196, 130, 196, 131, 196, 148, 196, 149, 196, 158, 196, 159, 196, 172, 196, 173, 197, 142, 197, 143, 197, 172, 197, 173, 196, 138, 196, 139, 196, 150, 196, 151, 196, 160, 196, 161, 196, 176, 197, 187, 197, 188, 195, 132, 195, 139, 195, 143, 195, 150, 195, 156, 195, 164, 195, 171, 195, 175, 195, 182, 195, 188, 195, 191, 197, 184, 195, 133, 195, 165, 197, 174, 197, 175, 197, 144, 197, 145, 197, 176, 197, 177, 196, 140, 196, 141, 196, 142, 196, 143, 196, 154, 196, 155, 197, 135, 197, 136, 197, 152, 197, 153, 197, 160, 197, 161, 197, 164, 197, 165, 197, 189, 197, 190, 196, 189, 196, 190, 195, 135, 195, 167, 196, 162, 196, 163, 196, 182, 196, 183, 196, 187, 196, 188, 197, 133, 197, 134, 197, 150, 197, 151, 197, 158, 197, 159, 197, 162, 197, 163, 196, 132, 196, 133, 196, 152, 196, 153, 196, 174, 196, 175, 197, 178, 197, 179, 195, 134, 195, 166, 195, 152, 195, 184, 195, 144, 195, 176, 195, 158, 195, 190, 195, 159, 196, 144, 196, 145, 196, 166, 196, 167, 196, 177, 197, 129, 197, 130, 197, 146, 197, 147, 197, 138, 197, 139, 197, 166, 197, 167]⟩ : ByteArray) (wrap32 (a0))).bind fun t377 => (repertoire_letter.j0 k a0 t377))))))) = some r := by rw [if_neg (show ¬ (false = true) by decide)] at H; exact H
      clear H
      have H := H1
      clear H1
      replace H := Option.bind_eq_some_iff.mp H
      obtain ⟨t375, A50, H⟩ := H
      replace H : (if t375 = true then (repertoire_letter.j0 k a0 true) else (if a0 = 383 then (repertoire_letter.j0 k a0 true) else ((repertoire_from.f a0 64257 64258).bind fun t376 => (if t376 = true then (repertoire_letter.j0 k a0 true) else ((strings_ContainsRune.f (⟨#[195, 128, 195, 136, 195, 140, 195, 146, 195, 153, 195, 160, 195, 168, 195, 172, 195, 178, 195, 185, 195, 129, 195, 137, 195, 141, 195, 147, 195, 154, 195, 157, 195, 161, 195, 169, 195, 173, 195, 179, 195, 186, 195, 189, 196, 134, 196, 135, 196, 185, 196, 186, 197, 131, 197, 132, 197, 148, 197, 149, 197, 154, 197, 155, 197, 185, 197, 186, 195, 130, 195, 138, 195, 142, 195, 148, 195, 155, 195, 162, 195, 170, 195, 174, 195, 180, 195, 187, 196, 136, 196, 137, 196, 156, 196, 157, 196, 164, 196, 165, 196, 180, 196, 181, 197, 156, 197, 157, 197, 180, 197, 181, 197, 182, 197, 183, 195, 131, 195, 145, 195, 149, 195, 163, 195, 177, 195, 181, 196, 168, 196, 169, 197, 168, 197, 169, 196, 128, 196, 129, 196, 146, 196, 147, 196, 170, 196, 171, 197, 140, 197, 141, 197, 170, 197, 171, 196, 130, 196, 131, 196, 148, 196, 149, 196, 158, 196, 159, 196, 172, 196, 173, 197, 142, 197, 143, 197, 172, 197, 173, 196, 138, 196, 139, 196, 150, 196, 151, 196, 160, 196, 161, 196, 176, 197, 187, 197, 188, 195, 132, 195, 139, 195, 143, 195, 150, 195, 156, 195, 164, 195, 171, 195, 175, 195, 182, 195, 188, 195, 191, 197, 184, 195, 133, 195, 165, 197, 174, 197, 175, 197, 144, 197, 145, 197, 176, 197, 177, 196, 140, 196, 141, 196, 142, 196, 143, 196, 154, 196, 155, 197, 135, 197, 136, 197, 152, 197, 153, 197, 160, 197, 161, 197, 164, 197, 165, 197, 189, 197, 190, 196, 189, 196, 190, 195, 135, 195, 167, 196, 162, 196, 163, 196, 182, 196, 183, 196, 187, 196, 188, 197, 133, 197, 134, 197, 150, 197, 151, 197, 158, 197, 159, 197, 162, 197, 163, 196, 132, 196, 133, 196, 152, 196, 153, 196, 174, 196, 175, 197, 178, 197, 179, 195, 134, 195, 166, 195, 152, 195, 184, 195, 144, 195, 176, 195, 158, 195, 190, 195, 159, 196, 144, 196, 145, 196, 166, 196, 167, 196, 177, 197, 129, 197, 130, 197, 146, 197, 147, 197, 138, 197, 139, 197, 166, 197, 167]⟩ : ByteArray) (wrap32 (a0))).bind fun t377 => (repertoire_letter.j0 k a0 t377)))))) = some r := H
      have A5 := Aside0.mk A50
      clear A50
      by_cases c6 : t375 = true
      · subst c6
        have H1 : (repertoire_letter.j0 k a0 true) = some r := by rw [if_pos rfl] at H; exact H
        clear H
        have H := H1
        clear H1
        have H' := Aside0.mk H
        clear H
        go_wp2_with (first | ((with_reducible refine gate_callee (f := 103) rfl ?_); refine goesL_ (some 5) rfl rfl Tryd.func103 (by kernel_rfl) rfl #[.int .i64 a0, .int .i64 65, .int .i64 90] rfl (by (try simp only [List.map_toArray, List.map_cons, List.map_nil]); first | done | rfl | (simp only [List.length_drop, List.length_take]; rfl)) ?_; (with_reducible refine (repertoire_from.calls a0 65 90 false _ A3.out).mono ?_); rintro e w' ⟨rfl, ⟨nd, rfl⟩⟩; refine ⟨_, rfl, ?_⟩) | (go_at_call 103; (with_reducible refine (repertoire_from.calls a0 97 122 true _ A5.out).mono ?_); rintro e w' ⟨rfl, ⟨nd, rfl⟩⟩))
        go_meet
        case rel => exact ⟨_, (true), (by first | rfl | (simp; done) | (simp [*]; done)), H', ⟨by first | omega | exact Nat.le_refl _⟩, by repeat (first | exact Drawn0.refl _ | apply Drawn0.step)⟩
      · replace c6 := Bool.eq_false_iff.mpr c6
        subst c6
        have H1 : (if a0 = 383 then (repertoire_letter.j0 k a0 true) else ((repertoire_from.f a0 64257 64258).bind fun t376 => (if t376 = true then (repertoire_letter.j0 k a0 true) else ((strings_ContainsRune.f (⟨#[195, 128, 195, 136, 195, 140, 195, 146, 195, 153, 195, 160, 195, 168, 195, 172, 195, 178, 195, 185, 195, 129, 195, 137, 195, 141, 195, 147, 195, 154, 195, 157, 195, 161, 195, 169, 195, 173, 195, 179, 195, 186, 195, 189, 196, 134, 196, 135, 196, 185, 196, 186, 197, 131, 197, 132, 197, 148, 197, 149, 197, 154, 197, 155, 197, 185, 197, 186, 195, 130, 195, 138, 195, 142, 195, 148, 195, 155, 195, 162, 195, 170, 195, 174, 195, 180, 195, 187, 196, 136, 196, 137, 196, 156, 196, 157, 196, 164, 196, 165, 196, 180, 196, 181, 197, 156, 197, 157, 197, 180, 197, 181, 197, 182, 197, 183, 195, 131, 195, 145, 195, 149, 195, 163, 195, 177, 195, 181, 196, 168, 196, 169, 197, 168, 197, 169, 196, 128, 196, 129, 196, 146, 196, 147, 196, 170, 196, 171, 197, 140, 197, 141, 197, 170, 197, 171, 196, 130, 196, 131, 196, 148, 196, 149, 196, 158, 196, 159, 196, 172, 196, 173, 197, 142, 197, 143, 197, 172, 197, 173, 196, 138, 196, 139, 196, 150, 196, 151, 196, 160, 196, 161, 196, 176, 197, 187, 197, 188, 195, 132, 195, 139, 195, 143, 195, 150, 195, 156, 195, 164, 195, 171, 195, 175, 195, 182, 195, 188, 195, 191, 197, 184, 195, 133, 195, 165, 197, 174, 197, 175, 197, 144, 197, 145, 197, 176, 197, 177, 196, 140, 196, 141, 196, 142, 196, 143, 196, 154, 196, 155, 197, 135, 197, 136, 197, 152, 197, 153, 197, 160, 197, 161, 197, 164, 197, 165, 197, 189, 197, 190, 196, 189, 196, 190, 195, 135, 195, 167, 196, 162, 196, 163, 196, 182, 196, 183, 196, 187, 196, 188, 197, 133, 197, 134, 197, 150, 197, 151, 197, 158, 197, 159, 197, 162, 197, 163, 196, 132, 196, 133, 196, 152, 196, 153, 196, 174, 196, 175, 197, 178, 197, 179, 195, 134, 195, 166, 195, 152, 195, 184, 195, 144, 195, 176, 195, 158, 195, 190, 195, 159, 196, 144, 196, 145, 196, 166, 196, 167, 196, 177, 197, 129, 197, 130, 197, 146, 197, 147, 197, 138, 197, 139, 197, 166, 197, 167]⟩ : ByteArray) (wrap32 (a0))).bind fun t377 => (repertoire_letter.j0 k a0 t377))))) = some r := by rw [if_neg (show ¬ (false = true) by decide)] at H; exact H
        clear H
        have H := H1
        clear H1
        by_cases c7 : a0 = 383
        · rw [if_pos c7] at H
          have c7b0 : (a0 == 383) = true := beq_iff_eq.mpr c7
          have c7b1 : (a0 != 383) = false := bne_eq_false_iff_eq.mpr c7
          clear c7
          (first | rw [c7b0] | (simp only [i64_w, i32_w]; rw [c7b0]) | skip)
          have H' := Aside0.mk H
          clear H
          go_wp2_with (first | ((with_reducible refine gate_callee (f := 103) rfl ?_); refine goesL_ (some 5) rfl rfl Tryd.func103 (by kernel_rfl) rfl #[.int .i64 a0, .int .i64 65, .int .i64 90] rfl (by (try simp only [List.map_toArray, List.map_cons, List.map_nil]); first | done | rfl | (simp only [List.length_drop, List.length_take]; rfl)) ?_; (with_reducible refine (repertoire_from.calls a0 65 90 false _ A3.out).mono ?_); rintro e w' ⟨rfl, ⟨nd, rfl⟩⟩; refine ⟨_, rfl, ?_⟩) | (go_at_call 103; (with_reducible refine (repertoire_from.calls a0 97 122 false _ A5.out).mono ?_); rintro e w' ⟨rfl, ⟨nd, rfl⟩⟩))
          go_meet
          case rel => exact ⟨_, (true), (by first | rfl | (simp; done) | (simp [*]; done)), H', ⟨by first | omega | exact Nat.le_refl _⟩, by repeat (first | exact Drawn0.refl _ | apply Drawn0.step)⟩
        · rw [if_neg c7] at H
          have c7b0 : (a0 == 383) = false := beq_eq_false_iff_ne.mpr c7
          have c7b1 : (a0 != 383) = true := bne_iff_ne.mpr c7
          (first | rw [c7b0] | (simp only [i64_w, i32_w]; rw [c7b0]) | skip)
          replace H := Option.bind_eq_some_iff.mp H
          obtain ⟨t376, A80, H⟩ := H
          replace H : (if t376 = true then (repertoire_letter.j0 k a0 true) else ((strings_ContainsRune.f (⟨#[195, 128, 195, 136, 195, 140, 195, 146, 195, 153, 195, 160, 195, 168, 195, 172, 195, 178, 195, 185, 195, 129, 195, 137, 195, 141, 195, 147, 195, 154, 195, 157, 195, 161, 195, 169, 195, 173, 195, 179, 195, 186, 195, 189, 196, 134, 196, 135, 196, 185, 196, 186, 197, 131, 197, 132, 197, 148, 197, 149, 197, 154, 197, 155, 197, 185, 197, 186, 195, 130, 195, 138, 195, 142, 195, 148, 195, 155, 195, 162, 195, 170, 195, 174, 195, 180, 195, 187, 196, 136, 196, 137, 196, 156, 196, 157, 196, 164, 196, 165, 196, 180, 196, 181, 197, 156, 197, 157, 197, 180, 197, 181, 197, 182, 197, 183, 195, 131, 195, 145, 195, 149, 195, 163, 195, 177, 195, 181, 196, 168, 196, 169, 197, 168, 197, 169, 196, 128, 196, 129, 196, 146, 196, 147, 196, 170, 196, 171, 197, 140, 197, 141, 197, 170, 197, 171, 196, 130, 196, 131, 196, 148, 196, 149, 196, 158, 196, 159, 196, 172, 196, 173, 197, 142, 197, 143, 197, 172, 197, 173, 196, 138, 196, 139, 196, 150, 196, 151, 196, 160, 196, 161, 196, 176, 197, 187, 197, 188, 195, 132, 195, 139, 195, 143, 195, 150, 195, 156, 195, 164, 195, 171, 195, 175, 195, 182, 195, 188, 195, 191, 197, 184, 195, 133, 195, 165, 197, 174, 197, 175, 197, 144, 197, 145, 197, 176, 197, 177, 196, 140, 196, 141, 196, 142, 196, 143, 196, 154, 196, 155, 197, 135, 197, 136, 197, 152, 197, 153, 197, 160, 197, 161, 197, 164, 197, 165, 197, 189, 197, 190, 196, 189, 196, 190, 195, 135, 195, 167, 196, 162, 196, 163, 196, 182, 196, 183, 196, 187, 196, 188, 197, 133, 197, 134, 197, 150, 197, 151, 197, 158, 197, 159, 197, 162, 197, 163, 196, 132, 196, 133, 196, 152, 196, 153, 196, 174, 196, 175, 197, 178, 197, 179, 195, 134, 195, 166, 195, 152, 195, 184, 195, 144, 195, 176, 195, 158, 195, 190, 195, 159, 196, 144, 196, 145, 196, 166, 196, 167, 196, 177, 197, 129, 197, 130, 197, 146, 197, 147, 197, 138, 197, 139, 197, 166, 197, 167]⟩ : ByteArray) (wrap32 (a0))).bind fun t377 => (repertoire_letter.j0 k a0 t377))) = some r := H
          have A8 := Aside0.mk A80
          clear A80
          by_cases c9 : t376 = true
          · subst c9
            have H1 : (repertoire_letter.j0 k a0 true) = some r := by rw [if_pos rfl] at H; exact H
            clear H
            have H := H1
            clear H1
            have H' := Aside0.mk H
            clear H
            go_wp2_with (first | ((with_reducible refine gate_callee (f := 103) rfl ?_); refine goesL_ (some 5) rfl rfl Tryd.func103 (by kernel_rfl) rfl #[.int .i64 a0, .int .i64 65, .int .i64 90] rfl (by (try simp only [List.map_toArray, List.map_cons, List.map_nil]); first | done | rfl | (simp only [List.length_drop, List.length_take]; rfl)) ?_; (with_reducible refine (repertoire_from.calls a0 65 90 false _ A3.out).mono ?_); rintro e w' ⟨rfl, ⟨nd, rfl⟩⟩; refine ⟨_, rfl, ?_⟩) | (go_at_call 103; (with_reducible refine (repertoire_from.calls a0 97 122 false _ A5.out).mono ?_); rintro e w' ⟨rfl, ⟨nd, rfl⟩⟩) | (go_at_call 103; (with_reducible refine (repertoire_from.calls a0 64257 64258 true _ A8.out).mono ?_); rintro e w' ⟨rfl, ⟨nd, rfl⟩⟩))
            go_meet
            case rel => exact ⟨_, (true), (by first | rfl | (simp; done) | (simp [*]; done)), H', ⟨by first | omega | exact Nat.le_refl _⟩, by repeat (first | exact Drawn0.refl _ | apply Drawn0.step)⟩
          · replace c9 := Bool.eq_false_iff.mpr c9
            subst c9
            have H1 : ((strings_ContainsRune.f (⟨#[195, 128, 195, 136, 195, 140, 195, 146, 195, 153, 195, 160, 195, 168, 195, 172, 195, 178, 195, 185, 195, 129, 195, 137, 195, 141, 195, 147, 195, 154, 195, 157, 195, 161, 195, 169, 195, 173, 195, 179, 195, 186, 195, 189, 196, 134, 196, 135, 196, 185, 196, 186, 197, 131, 197, 132, 197, 148, 197, 149, 197, 154, 197, 155, 197, 185, 197, 186, 195, 130, 195, 138, 195, 142, 195, 148, 195, 155, 195, 162, 195, 170, 195, 174, 195, 180, 195, 187, 196, 136, 196, 137, 196, 156, 196, 157, 196, 164, 196, 165, 196, 180, 196, 181, 197, 156, 197, 157, 197, 180, 197, 181, 197, 182, 197, 183, 195, 131, 195, 145, 195, 149, 195, 163, 195, 177, 195, 181, 196, 168, 196, 169, 197, 168, 197, 169, 196, 128, 196, 129, 196, 146, 196, 147, 196, 170, 196, 171, 197, 140, 197, 141, 197, 170, 197, 171, 196, 130, 196, 131, 196, 148, 196, 149, 196, 158, 196, 159, 196, 172, 196, 173, 197, 142, 197, 143, 197, 172, 197, 173, 196, 138, 196, 139, 196, 150, 196, 151, 196, 160, 196, 161, 196, 176, 197, 187, 197, 188, 195, 132, 195, 139, 195, 143, 195, 150, 195, 156, 195, 164, 195, 171, 195, 175, 195, 182, 195, 188, 195, 191, 197, 184, 195, 133, 195, 165, 197, 174, 197, 175, 197, 144, 197, 145, 197, 176, 197, 177, 196, 140, 196, 141, 196, 142, 196, 143, 196, 154, 196, 155, 197, 135, 197, 136, 197, 152, 197, 153, 197, 160, 197, 161, 197, 164, 197, 165, 197, 189, 197, 190, 196, 189, 196, 190, 195, 135, 195, 167, 196, 162, 196, 163, 196, 182, 196, 183, 196, 187, 196, 188, 197, 133, 197, 134, 197, 150, 197, 151, 197, 158, 197, 159, 197, 162, 197, 163, 196, 132, 196, 133, 196, 152, 196, 153, 196, 174, 196, 175, 197, 178, 197, 179, 195, 134, 195, 166, 195, 152, 195, 184, 195, 144, 195, 176, 195, 158, 195, 190, 195, 159, 196, 144, 196, 145, 196, 166, 196, 167, 196, 177, 197, 129, 197, 130, 197, 146, 197, 147, 197, 138, 197, 139, 197, 166, 197, 167]⟩ : ByteArray) (wrap32 (a0))).bind fun t377 => (repertoire_letter.j0 k a0 t377)) = some r := by rw [if_neg (show ¬ (false = true) by decide)] at H; exact H
            clear H
            have H := H1
            clear H1
            replace H := Option.bind_eq_some_iff.mp H
            obtain ⟨t377, A100, H⟩ := H
            replace H : (repertoire_letter.j0 k a0 t377) = some r := H
            have A10 := Aside0.mk A100
            clear A100
            have H' := Aside0.mk H
            clear H
            go_wp2_with (first | ((with_reducible refine gate_callee (f := 103) rfl ?_); refine goesL_ (some 5) rfl rfl Tryd.func103 (by kernel_rfl) rfl #[.int .i64 a0, .int .i64 65, .int .i64 90] rfl (by (try simp only [List.map_toArray, List.map_cons, List.map_nil]); first | done | rfl | (simp only [List.length_drop, List.length_take]; rfl)) ?_; (with_reducible refine (repertoire_from.calls a0 65 90 false _ A3.out).mono ?_); rintro e w' ⟨rfl, ⟨nd, rfl⟩⟩; refine ⟨_, rfl, ?_⟩) | (go_at_call 103; (with_reducible refine (repertoire_from.calls a0 97 122 false _ A5.out).mono ?_); rintro e w' ⟨rfl, ⟨nd, rfl⟩⟩) | (go_at_call 103; (with_reducible refine (repertoire_from.calls a0 64257 64258 false _ A8.out).mono ?_); rintro e w' ⟨rfl, ⟨nd, rfl⟩⟩) | (go_at_call 113; (with_reducible refine (strings_ContainsRune.calls (⟨#[195, 128, 195, 136, 195, 140, 195, 146, 195, 153, 195, 160, 195, 168, 195, 172, 195, 178, 195, 185, 195, 129, 195, 137, 195, 141, 195, 147, 195, 154, 195, 157, 195, 161, 195, 169, 195, 173, 195, 179, 195, 186, 195, 189, 196, 134, 196, 135, 196, 185, 196, 186, 197, 131, 197, 132, 197, 148, 197, 149, 197, 154, 197, 155, 197, 185, 197, 186, 195, 130, 195, 138, 195, 142, 195, 148, 195, 155, 195, 162, 195, 170, 195, 174, 195, 180, 195, 187, 196, 136, 196, 137, 196, 156, 196, 157, 196, 164, 196, 165, 196, 180, 196, 181, 197, 156, 197, 157, 197, 180, 197, 181, 197, 182, 197, 183, 195, 131, 195, 145, 195, 149, 195, 163, 195, 177, 195, 181, 196, 168, 196, 169, 197, 168, 197, 169, 196, 128, 196, 129, 196, 146, 196, 147, 196, 170, 196, 171, 197, 140, 197, 141, 197, 170, 197, 171, 196, 130, 196, 131, 196, 148, 196, 149, 196, 158, 196, 159, 196, 172, 196, 173, 197, 142, 197, 143, 197, 172, 197, 173, 196, 138, 196, 139, 196, 150, 196, 151, 196, 160, 196, 161, 196, 176, 197, 187, 197, 188, 195, 132, 195, 139, 195, 143, 195, 150, 195, 156, 195, 164, 195, 171, 195, 175, 195, 182, 195, 188, 195, 191, 197, 184, 195, 133, 195, 165, 197, 174, 197, 175, 197, 144, 197, 145, 197, 176, 197, 177, 196, 140, 196, 141, 196, 142, 196, 143, 196, 154, 196, 155, 197, 135, 197, 136, 197, 152, 197, 153, 197, 160, 197, 161, 197, 164, 197, 165, 197, 189, 197, 190, 196, 189, 196, 190, 195, 135, 195, 167, 196, 162, 196, 163, 196, 182, 196, 183, 196, 187, 196, 188, 197, 133, 197, 134, 197, 150, 197, 151, 197, 158, 197, 159, 197, 162, 197, 163, 196, 132, 196, 133, 196, 152, 196, 153, 196, 174, 196, 175, 197, 178, 197, 179, 195, 134, 195, 166, 195, 152, 195, 184, 195, 144, 195, 176, 195, 158, 195, 190, 195, 159, 196, 144, 196, 145, 196, 166, 196, 167, 196, 177, 197, 129, 197, 130, 197, 146, 197, 147, 197, 138, 197, 139, 197, 166, 197, 167]⟩ : ByteArray) (wrap32 (a0)) t377 _ A10.out).mono ?_); rintro e w' ⟨rfl, ⟨nd, rfl⟩⟩))
            go_meet
            case rel => exact ⟨_, (t377), (by first | rfl | (simp; done) | (simp [*]; done)), H', ⟨by first | omega | exact Nat.le_refl _⟩, by repeat (first | exact Drawn0.refl _ | apply Drawn0.step)⟩
  case rest =>
    clear HC2
    try clear c1
    try clear p2
    try clear p3
    try clear c4
    try clear c6
    try clear c7
    try clear c7b0
    try clear c7b1
    try clear c9
    try clear c10
    obtain ⟨kq, x3_1, rfl, HA, HJ1, ⟨mc1, rfl⟩⟩ := hcut
    cases kq with
    | zero => exact absurd HA.out (by simp [repertoire_letter.j0])
    | succ kj1 =>
      have H := HA.out
      clear HA
      simp only [repertoire_letter.j0] at H
      by_cases c11 : x3_1 = true
      · subst c11
        have H1 : (some 1) = some r := by rw [if_pos rfl] at H; exact H
        clear H
        have H := H1
        clear H1
        obtain rfl := Option.some.inj H
        go_wp2
        go_ret
        exact ⟨by first | rfl | (simp; done) | (simp [*]; done), by repeat (first | exact Drawn0.refl _ | apply Drawn0.step)⟩
      · replace c11 := Bool.eq_false_iff.mpr c11
        subst c11
        have H1 : (if a0 = 930 then ((repertoire_from.f a0 945 969).bind fun t378 => (if t378 = true then (repertoire_letter.j1 kj1 a0 true) else ((strings_ContainsRune.f (⟨#[206, 134, 206, 136, 206, 137, 206, 138, 206, 140, 206, 142, 206, 143, 206, 172, 206, 173, 206, 174, 206, 175, 207, 140, 207, 141, 207, 142, 206, 170, 206, 171, 207, 138, 207, 139]⟩ : ByteArray) (wrap32 (a0))).bind fun t379 => (repertoire_letter.j1 kj1 a0 t379)))) else ((repertoire_from.f a0 913 937).bind fun t380 => (if t380 = true then (repertoire_letter.j1 kj1 a0 true) else ((repertoire_from.f a0 945 969).bind fun t381 => (if t381 = true then (repertoire_letter.j1 kj1 a0 true) else ((strings_ContainsRune.f (⟨#[206, 134, 206, 136, 206, 137, 206, 138, 206, 140, 206, 142, 206, 143, 206, 172, 206, 173, 206, 174, 206, 175, 207, 140, 207, 141, 207, 142, 206, 170, 206, 171, 207, 138, 207, 139]⟩ : ByteArray) (wrap32 (a0))).bind fun t382 => (repertoire_letter.j1 kj1 a0 t382))))))) = some r := by rw [if_neg (show ¬ (false = true) by decide)] at H; exact H
        clear H
        have H := H1
        clear H1
        have HC12 := Aside0.mk H
        clear H
        go_upto_region 3 with (fail)
        go_cut [23] (fun v23 wc => ∃ (kq : Nat) (x23_11 : Bool), v23 = .bool x23_11 ∧ Aside0 (repertoire_letter.j1 kq a0 x23_11 = some r) ∧ Aside0 (kq ≤ kj1) ∧ Drawn0 w wc)
        case first =>
          have H := HC12.out
          clear HC12
          by_cases c13 : a0 = 930
          · rw [if_pos c13] at H
            have c13b0 : (a0 == 930) = true := beq_iff_eq.mpr c13
            have c13b1 : (a0 != 930) = false := bne_eq_false_iff_eq.mpr c13
            clear c13
            (first | rw [c13b0] | (simp only [i64_w, i32_w]; rw [c13b0]) | skip)
            replace H := Option.bind_eq_some_iff.mp H
            obtain ⟨t378, A140, H⟩ := H
            replace H : (if t378 = true then (repertoire_letter.j1 kj1 a0 true) else ((strings_ContainsRune.f (⟨#[206, 134, 206, 136, 206, 137, 206, 138, 206, 140, 206, 142, 206, 143, 206, 172, 206, 173, 206, 174, 206, 175, 207, 140, 207, 141, 207, 142, 206, 170, 206, 171, 207, 138, 207, 139]⟩ : ByteArray) (wrap32 (a0))).bind fun t379 => (repertoire_letter.j1 kj1 a0 t379))) = some r := H
            have A14 := Aside0.mk A140
            clear A140
            by_cases c15 : t378 = true
            · subst c15
              have H1 : (repertoire_letter.j1 kj1 a0 true) = some r := by rw [if_pos rfl] at H; exact H
              clear H
              have H := H1
              clear H1
              have H' := Aside0.mk H
              clear H
              go_wp2_with (first | (go_at_call 103; (with_reducible refine (repertoire_from.calls a0 945 969 true _ A14.out).mono ?_); rintro e w' ⟨rfl, ⟨nd, rfl⟩⟩))
              go_meet
              case rel => exact ⟨_, (true), (by first | rfl | (simp; done) | (simp [*]; done)), H', ⟨by have := HJ1.out; first | omega | exact Nat.le_refl _⟩, by repeat (first | exact Drawn0.refl _ | apply Drawn0.step)⟩
            · replace c15 := Bool.eq_false_iff.mpr c15
              subst c15
              have H1 : ((strings_ContainsRune.f (⟨#[206, 134, 206, 136, 206, 137, 206, 138, 206, 140, 206, 142, 206, 143, 206, 172, 206, 173, 206, 174, 206, 175, 207, 140, 207, 141, 207, 142, 206, 170, 206, 171, 207, 138, 207, 139]⟩ : ByteArray) (wrap32 (a0))).bind fun t379 => (repertoire_letter.j1 kj1 a0 t379)) = some r := by rw [if_neg (show ¬ (false = true) by decide)] at H; exact H
              clear H
              have H := H1
              clear H1
              replace H := Option.bind_eq_some_iff.mp H
              obtain ⟨t379, A160, H⟩ := H
              replace H : (repertoire_letter.j1 kj1 a0 t379) = some r := H
              have A16 := Aside0.mk A160
              clear A160
              have H' := Aside0.mk H
              clear H
              go_wp2_with (first | (go_at_call 103; (with_reducible refine (repertoire_from.calls a0 945 969 false _ A14.out).mono ?_); rintro e w' ⟨rfl, ⟨nd, rfl⟩⟩) | (go_at_call 113; (with_reducible refine (strings_ContainsRune.calls (⟨#[206, 134, 206, 136, 206, 137, 206, 138, 206, 140, 206, 142, 206, 143, 206, 172, 206, 173, 206, 174, 206, 175, 207, 140, 207, 141, 207, 142, 206, 170, 206, 171, 207, 138, 207, 139]⟩ : ByteArray) (wrap32 (a0)) t379 _ A16.out).mono ?_); rintro e w' ⟨rfl, ⟨nd, rfl⟩⟩))
              go_meet
              case rel => exact ⟨_, (t379), (by first | rfl | (simp; done) | (simp [*]; done)), H', ⟨by have := HJ1.out; first | omega | exact Nat.le_refl _⟩, by repeat (first | exact Drawn0.refl _ | apply Drawn0.step)⟩
          · rw [if_neg c13] at H
            have c13b0 : (a0 == 930) = false := beq_eq_false_iff_ne.mpr c13
            have c13b1 : (a0 != 930) = true := bne_iff_ne.mpr c13
            (first | rw [c13b0] | (simp only [i64_w, i32_w]; rw [c13b0]) | skip)
            replace H := Option.bind_eq_some_iff.mp H
            obtain ⟨t380, A170, H⟩ := H
            replace H : (if t380 = true then (repertoire_letter.j1 kj1 a0 true) else ((repertoire_from.f a0 945 969).bind fun t381 => (if t381 = true then (repertoire_letter.j1 kj1 a0 true) else ((strings_ContainsRune.f (⟨#[206, 134, 206, 136, 206, 137, 206, 138, 206, 140, 206, 142, 206, 143, 206, 172, 206, 173, 206, 174, 206, 175, 207, 140, 207, 141, 207, 142, 206, 170, 206, 171, 207, 138, 207, 139]⟩ : ByteArray) (wrap32 (a0))).bind fun t382 => (repertoire_letter.j1 kj1 a0 t382))))) = some r := H
            have A17 := Aside0.mk A170
            clear A170
            by_cases c18 : t380 = true
            · subst c18
              have H1 : (repertoire_letter.j1 kj1 a0 true) = some r := by rw [if_pos rfl] at H; exact H
              clear H
              have H := H1
              clear H1
              have H' := Aside0.mk H
              clear H
              go_wp2_with (first | (go_at_call 103; (with_reducible refine (repertoire_from.calls a0 913 937 true _ A17.out).mono ?_); rintro e w' ⟨rfl, ⟨nd, rfl⟩⟩))
              go_meet
              case rel => exact ⟨_, (true), (by first | rfl | (simp; done) | (simp [*]; done)), H', ⟨by have := HJ1.out; first | omega | exact Nat.le_refl _⟩, by repeat (first | exact Drawn0.refl _ | apply Drawn0.step)⟩
            · replace c18 := Bool.eq_false_iff.mpr c18
              subst c18
              have H1 : ((repertoire_from.f a0 945 969).bind fun t381 => (if t381 = true then (repertoire_letter.j1 kj1 a0 true) else ((strings_ContainsRune.f (⟨#[206, 134, 206, 136, 206, 137, 206, 138, 206, 140, 206, 142, 206, 143, 206, 172, 206, 173, 206, 174, 206, 175, 207, 140, 207, 141, 207, 142, 206, 170, 206, 171, 207, 138, 207, 139]⟩ : ByteArray) (wrap32 (a0))).bind fun t382 => (repertoire_letter.j1 kj1 a0 t382)))) = some r := by rw [if_neg (show ¬ (false = true) by decide)] at H; exact H
              clear H
              have H := H1
              clear H1
              replace H := Option.bind_eq_some_iff.mp H
              obtain ⟨t381, A190, H⟩ := H
              replace H : (if t381 = true then (repertoire_letter.j1 kj1 a0 true) else ((strings_ContainsRune.f (⟨#[206, 134, 206, 136, 206, 137, 206, 138, 206, 140, 206, 142, 206, 143, 206, 172, 206, 173, 206, 174, 206, 175, 207, 140, 207, 141, 207, 142, 206, 170, 206, 171, 207, 138, 207, 139]⟩ : ByteArray) (wrap32 (a0))).bind fun t382 => (repertoire_letter.j1 kj1 a0 t382))) = some r := H
              have A19 := Aside0.mk A190
              clear A190
              by_cases c20 : t381 = true
              · subst c20
                have H1 : (repertoire_letter.j1 kj1 a0 true) = some r := by rw [if_pos rfl] at H; exact H
                clear H
                have H := H1
                clear H1
                have H' := Aside0.mk H
                clear H
                go_wp2_with (first | (go_at_call 103; (with_reducible refine (repertoire_from.calls a0 913 937 false _ A17.out).mono ?_); rintro e w' ⟨rfl, ⟨nd, rfl⟩⟩) | (go_at_call 103; (with_reducible refine (repertoire_from.calls a0 945 969 true _ A19.out).mono ?_); rintro e w' ⟨rfl, ⟨nd, rfl⟩⟩))
                go_meet
                case rel => exact ⟨_, (true), (by first | rfl | (simp; done) | (simp [*]; done)), H', ⟨by have := HJ1.out; first | omega | exact Nat.le_refl _⟩, by repeat (first | exact Drawn0.refl _ | apply Drawn0.step)⟩
              · replace c20 := Bool.eq_false_iff.mpr c20
                subst c20
                have H1 : ((strings_ContainsRune.f (⟨#[206, 134, 206, 136, 206, 137, 206, 138, 206, 140, 206, 142, 206, 143, 206, 172, 206, 173, 206, 174, 206, 175, 207, 140, 207, 141, 207, 142, 206, 170, 206, 171, 207, 138, 207, 139]⟩ : ByteArray) (wrap32 (a0))).bind fun t382 => (repertoire_letter.j1 kj1 a0 t382)) = some r := by rw [if_neg (show ¬ (false = true) by decide)] at H; exact H
                clear H
                have H := H1
                clear H1
                replace H := Option.bind_eq_some_iff.mp H
                obtain ⟨t382, A210, H⟩ := H
                replace H : (repertoire_letter.j1 kj1 a0 t382) = some r := H
                have A21 := Aside0.mk A210
                clear A210
                have H' := Aside0.mk H
                clear H
                go_wp2_with (first | (go_at_call 103; (with_reducible refine (repertoire_from.calls a0 913 937 false _ A17.out).mono ?_); rintro e w' ⟨rfl, ⟨nd, rfl⟩⟩) | (go_at_call 103; (with_reducible refine (repertoire_from.calls a0 945 969 false _ A19.out).mono ?_); rintro e w' ⟨rfl, ⟨nd, rfl⟩⟩) | (go_at_call 113; (with_reducible refine (strings_ContainsRune.calls (⟨#[206, 134, 206, 136, 206, 137, 206, 138, 206, 140, 206, 142, 206, 143, 206, 172, 206, 173, 206, 174, 206, 175, 207, 140, 207, 141, 207, 142, 206, 170, 206, 171, 207, 138, 207, 139]⟩ : ByteArray) (wrap32 (a0)) t382 _ A21.out).mono ?_); rintro e w' ⟨rfl, ⟨nd, rfl⟩⟩))
                go_meet
                case rel => exact ⟨_, (t382), (by first | rfl | (simp; done) | (simp [*]; done)), H', ⟨by have := HJ1.out; first | omega | exact Nat.le_refl _⟩, by repeat (first | exact Drawn0.refl _ | apply Drawn0.step)⟩
        case rest =>
          clear HC12
          try clear c1
          try clear c2
          try clear p2
          try clear p3
          try clear c4
          try clear c6
          try clear c7
          try clear c7b0
          try clear c7b1
          try clear c9
          try clear c10
          try clear c11
          try clear c13
          try clear c13b0
          try clear c13b1
          try clear c15
          try clear c18
          try clear c20
          try clear p2
          try clear p3
          obtain ⟨kq, x23_11, rfl, HA, HJ11, ⟨mc11, rfl⟩⟩ := hcut
          cases kq with
          | zero => exact absurd HA.out (by simp [repertoire_letter.j1])
          | succ kj11 =>
            have H := HA.out
            clear HA
            simp only [repertoire_letter.j1] at H
            by_cases c22 : x23_11 = true
            · subst c22
              have H1 : (some 2) = some r := by rw [if_pos rfl] at H; exact H
              clear H
              have H := H1
              clear H1
              obtain rfl := Option.some.inj H
              go_wp2
              go_ret
              exact ⟨by first | rfl | (simp; done) | (simp [*]; done), by repeat (first | exact Drawn0.refl _ | apply Drawn0.step)⟩
            · replace c22 := Bool.eq_false_iff.mpr c22
              subst c22
              have H1 : ((repertoire_from.f a0 1040 1103).bind fun t383 => (if t383 = true then (some 3) else ((strings_ContainsRune.f (⟨#[208, 129, 209, 145, 208, 135, 209, 151, 208, 132, 209, 148, 210, 144, 210, 145, 208, 142, 209, 158, 208, 134, 209, 150]⟩ : ByteArray) (wrap32 (a0))).bind fun t384 => (if t384 = true then (some 3) else (some 0))))) = some r := by rw [if_neg (show ¬ (false = true) by decide)] at H; exact H
              clear H
              have H := H1
              clear H1
              replace H := Option.bind_eq_some_iff.mp H
              obtain ⟨t383, A230, H⟩ := H
              replace H : (if t383 = true then (some 3) else ((strings_ContainsRune.f (⟨#[208, 129, 209, 145, 208, 135, 209, 151, 208, 132, 209, 148, 210, 144, 210, 145, 208, 142, 209, 158, 208, 134, 209, 150]⟩ : ByteArray) (wrap32 (a0))).bind fun t384 => (if t384 = true then (some 3) else (some 0)))) = some r := H
              have A23 := Aside0.mk A230
              clear A230
              by_cases c24 : t383 = true
              · subst c24
                have H1 : (some 3) = some r := by rw [if_pos rfl] at H; exact H
                clear H
                have H := H1
                clear H1
                obtain rfl := Option.some.inj H
                go_wp2_with (first | ((with_reducible refine gate_callee (f := 103) rfl ?_); refine goesL_ (some 41) rfl rfl Tryd.func103 (by kernel_rfl) rfl #[.int .i64 a0, .int .i64 1040, .int .i64 1103] rfl (by (try simp only [List.map_toArray, List.map_cons, List.map_nil]); first | done | rfl | (simp only [List.length_drop, List.length_take]; rfl)) ?_; (with_reducible refine (repertoire_from.calls a0 1040 1103 true _ A23.out).mono ?_); rintro e w' ⟨rfl, ⟨nd, rfl⟩⟩; refine ⟨_, rfl, ?_⟩))
                go_ret
                exact ⟨by first | rfl | (simp; done) | (simp [*]; done), by repeat (first | exact Drawn0.refl _ | apply Drawn0.step)⟩
              · replace c24 := Bool.eq_false_iff.mpr c24
                subst c24
                have H1 : ((strings_ContainsRune.f (⟨#[208, 129, 209, 145, 208, 135, 209, 151, 208, 132, 209, 148, 210, 144, 210, 145, 208, 142, 209, 158, 208, 134, 209, 150]⟩ : ByteArray) (wrap32 (a0))).bind fun t384 => (if t384 = true then (some 3) else (some 0))) = some r := by rw [if_neg (show ¬ (false = true) by decide)] at H; exact H
                clear H
                have H := H1
                clear H1
                replace H := Option.bind_eq_some_iff.mp H
                obtain ⟨t384, A250, H⟩ := H
                replace H : (if t384 = true then (some 3) else (some 0)) = some r := H
                have A25 := Aside0.mk A250
                clear A250
                by_cases c26 : t384 = true
                · subst c26
                  have H1 : (some 3) = some r := by rw [if_pos rfl] at H; exact H
                  clear H
                  have H := H1
                  clear H1
                  obtain rfl := Option.some.inj H
                  go_wp2_with (first | ((with_reducible refine gate_callee (f := 103) rfl ?_); refine goesL_ (some 41) rfl rfl Tryd.func103 (by kernel_rfl) rfl #[.int .i64 a0, .int .i64 1040, .int .i64 1103] rfl (by (try simp only [List.map_toArray, List.map_cons, List.map_nil]); first | done | rfl | (simp only [List.length_drop, List.length_take]; rfl)) ?_; (with_reducible refine (repertoire_from.calls a0 1040 1103 false _ A23.out).mono ?_); rintro e w' ⟨rfl, ⟨nd, rfl⟩⟩; refine ⟨_, rfl, ?_⟩) | (go_at_call 113; (with_reducible refine (strings_ContainsRune.calls (⟨#[208, 129, 209, 145, 208, 135, 209, 151, 208, 132, 209, 148, 210, 144, 210, 145, 208, 142, 209, 158, 208, 134, 209, 150]⟩ : ByteArray) (wrap32 (a0)) true _ A25.out).mono ?_); rintro e w' ⟨rfl, ⟨nd, rfl⟩⟩))
                  go_ret
                  exact ⟨by first | rfl | (simp; done) | (simp [*]; done), by repeat (first | exact Drawn0.refl _ | apply Drawn0.step)⟩
                · replace c26 := Bool.eq_false_iff.mpr c26
                  subst c26
                  have H1 : (some 0) = some r := by rw [if_neg (show ¬ (false = true) by decide)] at H; exact H
                  clear H
                  have H := H1
                  clear H1
                  obtain rfl := Option.some.inj H
                  go_wp2_with (first | ((with_reducible refine gate_callee (f := 103) rfl ?_); refine goesL_ (some 41) rfl rfl Tryd.func103 (by kernel_rfl) rfl #[.int .i64 a0, .int .i64 1040, .int .i64 1103] rfl (by (try simp only [List.map_toArray, List.map_cons, List.map_nil]); first | done | rfl | (simp only [List.length_drop, List.length_take]; rfl)) ?_; (with_reducible refine (repertoire_from.calls a0 1040 1103 false _ A23.out).mono ?_); rintro e w' ⟨rfl, ⟨nd, rfl⟩⟩; refine ⟨_, rfl, ?_⟩) | (go_at_call 113; (with_reducible refine (strings_ContainsRune.calls (⟨#[208, 129, 209, 145, 208, 135, 209, 151, 208, 132, 209, 148, 210, 144, 210, 145, 208, 142, 209, 158, 208, 134, 209, 150]⟩ : ByteArray) (wrap32 (a0)) false _ A25.out).mono ?_); rintro e w' ⟨rfl, ⟨nd, rfl⟩⟩))
                  go_ret
                  exact ⟨by first | rfl | (simp; done) | (simp [*]; done), by repeat (first | exact Drawn0.refl _ | apply Drawn0.step)⟩
mutual
def repertoire_Class.j0 : Nat → Int → Option (Int × Int)
  | 0, _ => none
  | k + 1, x0 => if x0 < 32 then (repertoire_Class.j1 k x0 true) else (repertoire_Class.j1 k x0 (decide (x0 > 65535)))
def repertoire_Class.j1 : Nat → Int → Bool → Option (Int × Int)
  | 0, _, _ => none
  | k + 1, x0, x14 => if x14 = true then (some (0, 0)) else ((repertoire_letter.f k x0).bind fun t386 => (if t386 = 0 then (if x0 = 32 then (repertoire_Class.j2 k x0 true) else (repertoire_Class.j2 k x0 (x0 == 160))) else (some (t386, 1))))
def repertoire_Class.j2 : Nat → Int → Bool → Option (Int × Int)
  | 0, _, _ => none
  | k + 1, x0, x21 => if x21 = true then (some (0, 4)) else ((repertoire_from.f x0 48 57).bind fun t387 => (if t387 = true then (repertoire_Class.j3 k x0 true) else (if x0 = 178 then (repertoire_Class.j3 k x0 true) else (if x0 = 179 then (repertoire_Class.j3 k x0 true) else (repertoire_Class.j3 k x0 (x0 == 185))))))
def repertoire_Class.j3 : Nat → Int → Bool → Option (Int × Int)
  | 0, _, _ => none
  | k + 1, x0, x28 => if x28 = true then (some (0, 3)) else ((repertoire_mark.f k x0).bind fun t388 => (if t388 = true then (some (0, 2)) else (if x0 ≤ 126 then (some (0, 5)) else (some (0, 0)))))
end
def repertoire_Class.f (k : Nat) (a0 : Int) : Option (Int × Int) := (repertoire_from.f a0 65281 65374).bind fun t385 => (if t385 = true then (repertoire_Class.j0 k (wrap64 (a0 - 65248))) else (repertoire_Class.j0 k a0))
set_option maxHeartbeats 8000000 in
set_option maxRecDepth 100000 in
theorem repertoire_Class.calls (k : Nat) (a0 : Int) (r1 : Int) (r2 : Int) (w : World) (h : repertoire_Class.f k a0 = some (r1, r2)) :
    Calls Tryd.prog 90 #[.int .i64 a0] w fun e w' => e = .returned (.tuple #[.int .i64 r1, .int .i64 r2]) ∧ Drawn0 w w' := by
  have H : ((repertoire_from.f a0 65281 65374).bind fun t385 => (if t385 = true then (repertoire_Class.j0 k (wrap64 (a0 - 65248))) else (repertoire_Class.j0 k a0))) = some (r1, r2) := h
  clear h
  replace H := Option.bind_eq_some_iff.mp H
  obtain ⟨t385, A20, H⟩ := H
  replace H : (if t385 = true then (repertoire_Class.j0 k (wrap64 (a0 - 65248))) else (repertoire_Class.j0 k a0)) = some (r1, r2) := H
  have A2 := Aside0.mk A20
  clear A20
  have HC3 := Aside0.mk H
  clear H
  go_enter Tryd.func90, Tryd.ntmps90
  go_upto_if 6 with (first | ((with_reducible refine gate_callee (f := 103) rfl ?_); refine goesL_ (some 6) rfl rfl Tryd.func103 (by kernel_rfl) rfl #[.int .i64 a0, .int .i64 65281, .int .i64 65374] rfl (by (try simp only [List.map_toArray, List.map_cons, List.map_nil]); first | done | rfl | (simp only [List.length_drop, List.length_take]; rfl)) ?_; (with_reducible refine (repertoire_from.calls a0 65281 65374 t385 _ A2.out).mono ?_); rintro e w' ⟨rfl, ⟨nd, rfl⟩⟩; refine ⟨_, rfl, ?_⟩))
  (try simp only [Act.put, List.setIfInBounds_toArray, List.set_cons_zero, List.set_cons_succ])
  go_cut [0] (fun v0 wc => ∃ (kq : Nat) (x0_2 : Int), v0 = .int .i64 x0_2 ∧ Aside0 (repertoire_Class.j0 kq x0_2 = some (r1, r2)) ∧ Aside0 (kq ≤ k) ∧ Drawn0 w wc)
  case first =>
    have H := HC3.out
    clear HC3
    by_cases c4 : t385 = true
    · subst c4
      have H1 : (repertoire_Class.j0 k (wrap64 (a0 - 65248))) = some (r1, r2) := by rw [if_pos rfl] at H; exact H
      clear H
      have H := H1
      clear H1
      have H' := Aside0.mk H
      clear H
      go_wp2
      go_meet
      case rel => exact ⟨_, (wrap64 (a0 - 65248)), (by first | rfl | (simp; done) | (simp [*]; done)), H', ⟨by first | omega | exact Nat.le_refl _⟩, by repeat (first | exact Drawn0.refl _ | apply Drawn0.step)⟩
    · replace c4 := Bool.eq_false_iff.mpr c4
      subst c4
      have H1 : (repertoire_Class.j0 k a0) = some (r1, r2) := by rw [if_neg (show ¬ (false = true) by decide)] at H; exact H
      clear H
      have H := H1
      clear H1
      have H' := Aside0.mk H
      clear H
      go_wp2
      go_meet
      case rel => exact ⟨_, (a0), (by first | rfl | (simp; done) | (simp [*]; done)), H', ⟨by first | omega | exact Nat.le_refl _⟩, by repeat (first | exact Drawn0.refl _ | apply Drawn0.step)⟩
  case rest =>
    clear HC3
    try clear c1
    try clear p2
    try clear c4
    obtain ⟨kq, x0_2, rfl, HA, HJ2, ⟨mc2, rfl⟩⟩ := hcut
    cases kq with
    | zero => exact absurd HA.out (by simp [repertoire_Class.j0])
    | succ kj2 =>
      have H := HA.out
      clear HA
      simp only [repertoire_Class.j0] at H
      have HC5 := Aside0.mk H
      clear H
      go_upto_region 3 with (fail)
      go_cut [14] (fun v14 wc => ∃ (kq : Nat) (x14_4 : Bool), v14 = .bool x14_4 ∧ Aside0 (repertoire_Class.j1 kq x0_2 x14_4 = some (r1, r2)) ∧ Aside0 (kq ≤ kj2) ∧ Drawn0 w wc)
      case first =>
        have H := HC5.out
        clear HC5
        by_cases c6 : x0_2 < 32
        · rw [if_pos c6] at H
          have c6b0 : decide (x0_2 < 32) = true := decide_eq_true c6
          clear c6
          (first | rw [c6b0] | (simp only [i64_w, i32_w]; rw [c6b0]) | skip)
          have H' := Aside0.mk H
          clear H
          go_wp2
          go_meet
          case rel => exact ⟨_, (true), (by first | rfl | (simp; done) | (simp [*]; done)), H', ⟨by have := HJ2.out; first | omega | exact Nat.le_refl _⟩, by repeat (first | exact Drawn0.refl _ | apply Drawn0.step)⟩
        · rw [if_neg c6] at H
          have c6b0 : decide (x0_2 < 32) = false := decide_eq_false c6
          clear c6
          (first | rw [c6b0] | (simp only [i64_w, i32_w]; rw [c6b0]) | skip)
          have H' := Aside0.mk H
          clear H
          go_wp2
          go_meet
          case rel => exact ⟨_, (decide (x0_2 > 65535)), (by first | rfl | (simp; done) | (simp [*]; done)), H', ⟨by have := HJ2.out; first | omega | exact Nat.le_refl _⟩, by repeat (first | exact Drawn0.refl _ | apply Drawn0.step)⟩
      case rest =>
        clear HC5
        try clear c1
        try clear c2
        try clear p2
        try clear c4
        try clear c6
        try clear c6b0
        try clear p6
        try clear p2
        obtain ⟨kq, x14_4, rfl, HA, HJ4, ⟨mc4, rfl⟩⟩ := hcut
        cases kq with
        | zero => exact absurd HA.out (by simp [repertoire_Class.j1])
        | succ kj4 =>
          have H := HA.out
          clear HA
          simp only [repertoire_Class.j1] at H
          by_cases c7 : x14_4 = true
          · subst c7
            have H1 : (some (0, 0)) = some (r1, r2) := by rw [if_pos rfl] at H; exact H
            clear H
            have H := H1
            clear H1
            simp only [Option.some.injEq, Prod.mk.injEq] at H
            obtain ⟨rfl, rfl⟩ := H
            go_wp2
            go_ret2
            exact ⟨by first | rfl | (simp; done) | (simp [*]; done), by repeat (first | exact Drawn0.refl _ | apply Drawn0.step)⟩
          · replace c7 := Bool.eq_false_iff.mpr c7
            subst c7
            have H1 : ((repertoire_letter.f kj4 x0_2).bind fun t386 => (if t386 = 0 then (if x0_2 = 32 then (repertoire_Class.j2 kj4 x0_2 true) else (repertoire_Class.j2 kj4 x0_2 (x0_2 == 160))) else (some (t386, 1)))) = some (r1, r2) := by rw [if_neg (show ¬ (false = true) by decide)] at H; exact H
            clear H
            have H := H1
            clear H1
            replace H := Option.bind_eq_some_iff.mp H
            obtain ⟨t386, A80, H⟩ := H
            replace H : (if t386 = 0 then (if x0_2 = 32 then (repertoire_Class.j2 kj4 x0_2 true) else (repertoire_Class.j2 kj4 x0_2 (x0_2 == 160))) else (some (t386, 1))) = some (r1, r2) := H
            have A8 := Aside0.mk A80
            clear A80
            by_cases c9 : t386 = 0
            · rw [if_pos c9] at H
              have c9b0 : (t386 == 0) = true := beq_iff_eq.mpr c9
              have c9b1 : (t386 != 0) = false := bne_eq_false_iff_eq.mpr c9
              clear c9
              have HC10 := Aside0.mk H
              clear H
              go_upto_region 8 with (first | ((with_reducible refine gate_callee (f := 104) rfl ?_); refine goesL_ (some 16) rfl rfl Tryd.func104 (by kernel_rfl) rfl #[.int .i64 x0_2] rfl (by (try simp only [List.map_toArray, List.map_cons, List.map_nil]); first | done | rfl | (simp only [List.length_drop, List.length_take]; rfl)) ?_; (with_reducible refine (repertoire_letter.calls kj4 x0_2 t386 _ A8.out).mono ?_); rintro e w' ⟨rfl, ⟨nd, rfl⟩⟩; refine ⟨_, rfl, ?_⟩))
              (try simp only [Act.put, List.setIfInBounds_toArray, List.set_cons_zero, List.set_cons_succ])
              go_cut [21] (fun v21 wc => ∃ (kq : Nat) (x21_9 : Bool), v21 = .bool x21_9 ∧ Aside0 (repertoire_Class.j2 kq x0_2 x21_9 = some (r1, r2)) ∧ Aside0 (kq ≤ kj4) ∧ Drawn0 w wc)
              case first =>
                have H := HC10.out
                clear HC10
                by_cases c11 : x0_2 = 32
                · rw [if_pos c11] at H
                  have c11b0 : (x0_2 == 32) = true := beq_iff_eq.mpr c11
                  have c11b1 : (x0_2 != 32) = false := bne_eq_false_iff_eq.mpr c11
                  clear c11
                  (first | rw [c11b0] | (simp only [i64_w, i32_w]; rw [c11b0]) | skip)
                  have H' := Aside0.mk H
                  clear H
                  go_wp2
                  go_meet
                  case rel => exact ⟨_, (true), (by first | rfl | (simp; done) | (simp [*]; done)), H', ⟨by have := HJ2.out; have := HJ4.out; first | omega | exact Nat.le_refl _⟩, by repeat (first | exact Drawn0.refl _ | apply Drawn0.step)⟩
                · rw [if_neg c11] at H
                  have c11b0 : (x0_2 == 32) = false := beq_eq_false_iff_ne.mpr c11
                  have c11b1 : (x0_2 != 32) = true := bne_iff_ne.mpr c11
                  (first | rw [c11b0] | (simp only [i64_w, i32_w]; rw [c11b0]) | skip)
                  have H' := Aside0.mk H
                  clear H
                  go_wp2
                  go_meet
                  case rel => exact ⟨_, ((x0_2 == 160)), (by first | rfl | (simp; done) | (simp [*]; done)), H', ⟨by have := HJ2.out; have := HJ4.out; first | omega | exact Nat.le_refl _⟩, by repeat (first | exact Drawn0.refl _ | apply Drawn0.step)⟩
              case rest =>
                clear HC10
                try clear c1
                try clear c2
                try clear p2
                try clear c4
                try clear c6
                try clear c6b0
                try clear p6
                try clear c7
                try clear c9
                try clear c9b0
                try clear c9b1
                try clear c10
                try clear c11
                try clear c11b0
                try clear c11b1
                try clear p2
                try clear p6
                obtain ⟨kq, x21_9, rfl, HA, HJ9, ⟨mc9, rfl⟩⟩ := hcut
                cases kq with
                | zero => exact absurd HA.out (by simp [repertoire_Class.j2])
                | succ kj9 =>
                  have H := HA.out
                  clear HA
                  simp only [repertoire_Class.j2] at H
                  by_cases c12 : x21_9 = true
                  · subst c12
                    have H1 : (some (0, 4)) = some (r1, r2) := by rw [if_pos rfl] at H; exact H
                    clear H
                    have H := H1
                    clear H1
                    simp only [Option.some.injEq, Prod.mk.injEq] at H
                    obtain ⟨rfl, rfl⟩ := H
                    go_wp2
                    go_ret2
                    exact ⟨by first | rfl | (simp; done) | (simp [*]; done), by repeat (first | exact Drawn0.refl _ | apply Drawn0.step)⟩
                  · replace c12 := Bool.eq_false_iff.mpr c12
                    subst c12
                    have H1 : ((repertoire_from.f x0_2 48 57).bind fun t387 => (if t387 = true then (repertoire_Class.j3 kj9 x0_2 true) else (if x0_2 = 178 then (repertoire_Class.j3 kj9 x0_2 true) else (if x0_2 = 179 then (repertoire_Class.j3 kj9 x0_2 true) else (repertoire_Class.j3 kj9 x0_2 (x0_2 == 185)))))) = some (r1, r2) := by rw [if_neg (show ¬ (false = true) by decide)] at H; exact H
                    clear H
                    have H := H1
                    clear H1
                    have HC13 := Aside0.mk H
                    clear H
                    go_upto_region 10 with (fail)
                    go_cut [28] (fun v28 wc => ∃ (kq : Nat) (x28_12 : Bool), v28 = .bool x28_12 ∧ Aside0 (repertoire_Class.j3 kq x0_2 x28_12 = some (r1, r2)) ∧ Aside0 (kq ≤ kj9) ∧ Drawn0 w wc)
                    case first =>
                      have H := HC13.out
                      clear HC13
                      replace H := Option.bind_eq_some_iff.mp H
                      obtain ⟨t387, A140, H⟩ := H
                      replace H : (if t387 = true then (repertoire_Class.j3 kj9 x0_2 true) else (if x0_2 = 178 then (repertoire_Class.j3 kj9 x0_2 true) else (if x0_2 = 179 then (repertoire_Class.j3 kj9 x0_2 true) else (repertoire_Class.j3 kj9 x0_2 (x0_2 == 185))))) = some (r1, r2) := H
                      have A14 := Aside0.mk A140
                      clear A140
                      by_cases c15 : t387 = true
                      · subst c15
                        have H1 : (repertoire_Class.j3 kj9 x0_2 true) = some (r1, r2) := by rw [if_pos rfl] at H; exact H
                        clear H
                        have H := H1
                        clear H1
                        have H' := Aside0.mk H
                        clear H
                        go_wp2_with (first | ((with_reducible refine gate_callee (f := 103) rfl ?_); refine goesL_ (some 30) rfl rfl Tryd.func103 (by kernel_rfl) rfl #[.int .i64 x0_2, .int .i64 48, .int .i64 57] rfl (by (try simp only [List.map_toArray, List.map_cons, List.map_nil]); first | done | rfl | (simp only [List.length_drop, List.length_take]; rfl)) ?_; (with_reducible refine (repertoire_from.calls x0_2 48 57 true _ A14.out).mono ?_); rintro e w' ⟨rfl, ⟨nd, rfl⟩⟩; refine ⟨_, rfl, ?_⟩))
                        go_meet
                        case rel => exact ⟨_, (true), (by first | rfl | (simp; done) | (simp [*]; done)), H', ⟨by have := HJ2.out; have := HJ4.out; have := HJ9.out; first | omega | exact Nat.le_refl _⟩, by repeat (first | exact Drawn0.refl _ | apply Drawn0.step)⟩
                      · replace c15 := Bool.eq_false_iff.mpr c15
                        subst c15
                        have H1 : (if x0_2 = 178 then (repertoire_Class.j3 kj9 x0_2 true) else (if x0_2 = 179 then (repertoire_Class.j3 kj9 x0_2 true) else (repertoire_Class.j3 kj9 x0_2 (x0_2 == 185)))) = some (r1, r2) := by rw [if_neg (show ¬ (false = true) by decide)] at H; exact H
                        clear H
                        have H := H1
                        clear H1
                        by_cases c16 : x0_2 = 178
                        · rw [if_pos c16] at H
                          have c16b0 : (x0_2 == 178) = true := beq_iff_eq.mpr c16
                          have c16b1 : (x0_2 != 178) = false := bne_eq_false_iff_eq.mpr c16
                          clear c16
                          (first | rw [c16b0] | (simp only [i64_w, i32_w]; rw [c16b0]) | skip)
                          have H' := Aside0.mk H
                          clear H
                          go_wp2_with (first | ((with_reducible refine gate_callee (f := 103) rfl ?_); refine goesL_ (some 30) rfl rfl Tryd.func103 (by kernel_rfl) rfl #[.int .i64 x0_2, .int .i64 48, .int .i64 57] rfl (by (try simp only [List.map_toArray, List.map_cons, List.map_nil]); first | done | rfl | (simp only [List.length_drop, List.length_take]; rfl)) ?_; (with_reducible refine (repertoire_from.calls x0_2 48 57 false _ A14.out).mono ?_); rintro e w' ⟨rfl, ⟨nd, rfl⟩⟩; refine ⟨_, rfl, ?_⟩))
                          go_meet
                          case rel => exact ⟨_, (true), (by first | rfl | (simp; done) | (simp [*]; done)), H', ⟨by have := HJ2.out; have := HJ4.out; have := HJ9.out; first | omega | exact Nat.le_refl _⟩, by repeat (first | exact Drawn0.refl _ | apply Drawn0.step)⟩
                        · rw [if_neg c16] at H
                          have c16b0 : (x0_2 == 178) = false := beq_eq_false_iff_ne.mpr c16
                          have c16b1 : (x0_2 != 178) = true := bne_iff_ne.mpr c16
                          (first | rw [c16b0] | (simp only [i64_w, i32_w]; rw [c16b0]) | skip)
                          by_cases c17 : x0_2 = 179
                          · rw [if_pos c17] at H
                            have c17b0 : (x0_2 == 179) = true := beq_iff_eq.mpr c17
                            have c17b1 : (x0_2 != 179) = false := bne_eq_false_iff_eq.mpr c17
                            clear c17
                            have H' := Aside0.mk H
                            clear H
                            go_wp2_with (first | ((with_reducible refine gate_callee (f := 103) rfl ?_); refine goesL_ (some 30) rfl rfl Tryd.func103 (by kernel_rfl) rfl #[.int .i64 x0_2, .int .i64 48, .int .i64 57] rfl (by (try simp only [List.map_toArray, List.map_cons, List.map_nil]); first | done | rfl | (simp only [List.length_drop, List.length_take]; rfl)) ?_; (with_reducible refine (repertoire_from.calls x0_2 48 57 false _ A14.out).mono ?_); rintro e w' ⟨rfl, ⟨nd, rfl⟩⟩; refine ⟨_, rfl, ?_⟩))
                            go_meet
                            case rel => exact ⟨_, (true), (by first | rfl | (simp; done) | (simp [*]; done)), H', ⟨by have := HJ2.out; have := HJ4.out; have := HJ9.out; first | omega | exact Nat.le_refl _⟩, by repeat (first | exact Drawn0.refl _ | apply Drawn0.step)⟩
                          · rw [if_neg c17] at H
                            have c17b0 : (x0_2 == 179) = false := beq_eq_false_iff_ne.mpr c17
                            have c17b1 : (x0_2 != 179) = true := bne_iff_ne.mpr c17
                            have H' := Aside0.mk H
                            clear H
                            go_wp2_with (first | ((with_reducible refine gate_callee (f := 103) rfl ?_); refine goesL_ (some 30) rfl rfl Tryd.func103 (by kernel_rfl) rfl #[.int .i64 x0_2, .int .i64 48, .int .i64 57] rfl (by (try simp only [List.map_toArray, List.map_cons, List.map_nil]); first | done | rfl | (simp only [List.length_drop, List.length_take]; rfl)) ?_; (with_reducible refine (repertoire_from.calls x0_2 48 57 false _ A14.out).mono ?_); rintro e w' ⟨rfl, ⟨nd, rfl⟩⟩; refine ⟨_, rfl, ?_⟩))
                            go_meet
                            case rel => exact ⟨_, ((x0_2 == 185)), (by first | rfl | (simp; done) | (simp [*]; done)), H', ⟨by have := HJ2.out; have := HJ4.out; have := HJ9.out; first | omega | exact Nat.le_refl _⟩, by repeat (first | exact Drawn0.refl _ | apply Drawn0.step)⟩
                    case rest =>
                      clear HC13
                      try clear c1
                      try clear c2
                      try clear p2
                      try clear c4
                      try clear c6
                      try clear c6b0
                      try clear p6
                      try clear c7
                      try clear c9
                      try clear c9b0
                      try clear c9b1
                      try clear c10
                      try clear c11
                      try clear c11b0
                      try clear c11b1
                      try clear c12
                      try clear c15
                      try clear c16
                      try clear c16b0
                      try clear c16b1
                      try clear c17
                      try clear c17b0
                      try clear c17b1
                      try clear p2
                      try clear p6
                      obtain ⟨kq, x28_12, rfl, HA, HJ12, ⟨mc12, rfl⟩⟩ := hcut
                      cases kq with
                      | zero => exact absurd HA.out (by simp [repertoire_Class.j3])
                      | succ kj12 =>
                        have H := HA.out
                        clear HA
                        simp only [repertoire_Class.j3] at H
                        by_cases c18 : x28_12 = true
                        · subst c18
                          have H1 : (some (0, 3)) = some (r1, r2) := by rw [if_pos rfl] at H; exact H
                          clear H
                          have H := H1
                          clear H1
                          simp only [Option.some.injEq, Prod.mk.injEq] at H
                          obtain ⟨rfl, rfl⟩ := H
                          go_wp2
                          go_ret2
                          exact ⟨by first | rfl | (simp; done) | (simp [*]; done), by repeat (first | exact Drawn0.refl _ | apply Drawn0.step)⟩
                        · replace c18 := Bool.eq_false_iff.mpr c18
                          subst c18
                          have H1 : ((repertoire_mark.f kj12 x0_2).bind fun t388 => (if t388 = true then (some (0, 2)) else (if x0_2 ≤ 126 then (some (0, 5)) else (some (0, 0))))) = some (r1, r2) := by rw [if_neg (show ¬ (false = true) by decide)] at H; exact H
                          clear H
                          have H := H1
                          clear H1
                          replace H := Option.bind_eq_some_iff.mp H
                          obtain ⟨t388, A190, H⟩ := H
                          replace H : (if t388 = true then (some (0, 2)) else (if x0_2 ≤ 126 then (some (0, 5)) else (some (0, 0)))) = some (r1, r2) := H
                          have A19 := Aside0.mk A190
                          clear A190
                          by_cases c20 : t388 = true
                          · subst c20
                            have H1 : (some (0, 2)) = some (r1, r2) := by rw [if_pos rfl] at H; exact H
                            clear H
                            have H := H1
                            clear H1
                            simp only [Option.some.injEq, Prod.mk.injEq] at H
                            obtain ⟨rfl, rfl⟩ := H
                            go_wp2_with (first | ((with_reducible refine gate_callee (f := 105) rfl ?_); refine goesL_ (some 45) rfl rfl Tryd.func105 (by kernel_rfl) rfl #[.int .i64 x0_2] rfl (by (try simp only [List.map_toArray, List.map_cons, List.map_nil]); first | done | rfl | (simp only [List.length_drop, List.length_take]; rfl)) ?_; (with_reducible refine (repertoire_mark.calls kj12 x0_2 true _ A19.out).mono ?_); rintro e w' ⟨rfl, ⟨nd, rfl⟩⟩; refine ⟨_, rfl, ?_⟩))
                            go_ret2
                            exact ⟨by first | rfl | (simp; done) | (simp [*]; done), by repeat (first | exact Drawn0.refl _ | apply Drawn0.step)⟩
                          · replace c20 := Bool.eq_false_iff.mpr c20
                            subst c20
                            have H1 : (if x0_2 ≤ 126 then (some (0, 5)) else (some (0, 0))) = some (r1, r2) := by rw [if_neg (show ¬ (false = true) by decide)] at H; exact H
                            clear H
                            have H := H1
                            clear H1
                            by_cases c21 : x0_2 ≤ 126
                            · rw [if_pos c21] at H
                              have c21b0 : decide (x0_2 ≤ 126) = true := decide_eq_true c21
                              clear c21
                              simp only [Option.some.injEq, Prod.mk.injEq] at H
                              obtain ⟨rfl, rfl⟩ := H
                              go_wp2_with (first | ((with_reducible refine gate_callee (f := 105) rfl ?_); refine goesL_ (some 45) rfl rfl Tryd.func105 (by kernel_rfl) rfl #[.int .i64 x0_2] rfl (by (try simp only [List.map_toArray, List.map_cons, List.map_nil]); first | done | rfl | (simp only [List.length_drop, List.length_take]; rfl)) ?_; (with_reducible refine (repertoire_mark.calls kj12 x0_2 false _ A19.out).mono ?_); rintro e w' ⟨rfl, ⟨nd, rfl⟩⟩; refine ⟨_, rfl, ?_⟩))
                              go_ret2
                              exact ⟨by first | rfl | (simp; done) | (simp [*]; done), by repeat (first | exact Drawn0.refl _ | apply Drawn0.step)⟩
                            · rw [if_neg c21] at H
                              have c21b0 : decide (x0_2 ≤ 126) = false := decide_eq_false c21
                              clear c21
                              simp only [Option.some.injEq, Prod.mk.injEq] at H
                              obtain ⟨rfl, rfl⟩ := H
                              go_wp2_with (first | ((with_reducible refine gate_callee (f := 105) rfl ?_); refine goesL_ (some 45) rfl rfl Tryd.func105 (by kernel_rfl) rfl #[.int .i64 x0_2] rfl (by (try simp only [List.map_toArray, List.map_cons, List.map_nil]); first | done | rfl | (simp only [List.length_drop, List.length_take]; rfl)) ?_; (with_reducible refine (repertoire_mark.calls kj12 x0_2 false _ A19.out).mono ?_); rintro e w' ⟨rfl, ⟨nd, rfl⟩⟩; refine ⟨_, rfl, ?_⟩))
                              go_ret2
                              exact ⟨by first | rfl | (simp; done) | (simp [*]; done), by repeat (first | exact Drawn0.refl _ | apply Drawn0.step)⟩
            · rw [if_neg c9] at H
              have c9b0 : (t386 == 0) = false := beq_eq_false_iff_ne.mpr c9
              have c9b1 : (t386 != 0) = true := bne_iff_ne.mpr c9
              simp only [Option.some.injEq, Prod.mk.injEq] at H
              obtain ⟨rfl, rfl⟩ := H
              go_wp2_with (first | ((with_reducible refine gate_callee (f := 104) rfl ?_); refine goesL_ (some 16) rfl rfl Tryd.func104 (by kernel_rfl) rfl #[.int .i64 x0_2] rfl (by (try simp only [List.map_toArray, List.map_cons, List.map_nil]); first | done | rfl | (simp only [List.length_drop, List.length_take]; rfl)) ?_; (with_reducible refine (repertoire_letter.calls kj4 x0_2 t386 _ A8.out).mono ?_); rintro e w' ⟨rfl, ⟨nd, rfl⟩⟩; refine ⟨_, rfl, ?_⟩))
              go_ret2
              exact ⟨by first | rfl | (simp; done) | (simp [*]; done), by repeat (first | exact Drawn0.refl _ | apply Drawn0.step)⟩
end Go.Proofs.YthcpdhniakpbaaaDoor.X
end

section
namespace Go.Proofs.YthcpdhniakpbaaaDoor.X
open Go.RowKit Go.Proofs.YthcpdhniakpbaaaDoorW.PrintWords
def utf8_RuneCountInString.f (a0 : ByteArray) : Option Int := if a0.size < 9223372036854775807 then some (Lib.runeCount a0 : Int) else none
theorem utf8_RuneCountInString.calls (a0 : ByteArray) (r : Int) (w : World) (h : utf8_RuneCountInString.f a0 = some r) :
    Calls Tryd.prog 107 #[.string a0] w fun e w' => e = .returned (.int .i64 r) ∧ Below w.heap.size w w' := by
  unfold utf8_RuneCountInString.f at h
  split at h
  · rename_i h1
    obtain rfl := Option.some.inj h
    refine (Tryd.utf8_RuneCountInString a0 w h1).mono ?_
    rintro e w' ⟨rfl, pos, rfl⟩
    exact ⟨rfl, below_alloc (Below.refl _ _) _⟩
  · exact absurd h (by simp)
def utf8_DecodeRuneInString.f (a0 : ByteArray) : Option (Int × Int) := some ((Lib.decodeGo a0).1, (Lib.decodeGo a0).2)
theorem utf8_DecodeRuneInString.calls (a0 : ByteArray) (r1 : Int) (r2 : Int) (w : World) (hG : GT1 w) (h : utf8_DecodeRuneInString.f a0 = some (r1, r2)) :
    Calls Tryd.prog 79 #[.string a0] w fun e w' => e = .returned (.tuple #[.int .i32 r1, .int .i64 r2]) ∧ Below w.heap.size w w' := by
  obtain ⟨rfl, rfl⟩ := Prod.mk.inj (Option.some.inj h)
  exact Tryd.utf8_DecodeRuneInString a0 w hG.tabs
end Go.Proofs.YthcpdhniakpbaaaDoor.X
end

section
namespace Go.Proofs.YthcpdhniakpbaaaDoor.X
open Go.RowKit Go.Proofs.YthcpdhniakpbaaaDoorW.PrintWords Go.Proofs.YthcpdhniakpbaaaDoorW.PrintLast Go.Proofs.YthcpdhniakpbaaaDoorW.PrintMore
attribute [local go_sem] max2_int min2_int max_two min_two max_three min_three max_four min_four
set_option linter.unusedVariables false
set_option linter.unusedSimpArgs false
def repertoire_Has.f (k : Nat) (a0 : Int) : Option (Bool) := (repertoire_Class.f k a0).bind fun bt389 => (some (bt389.2 != 0))
set_option maxHeartbeats 8000000 in
set_option maxRecDepth 100000 in
theorem repertoire_Has.calls (k : Nat) (a0 : Int) (r : Bool) (w : World) (h : repertoire_Has.f k a0 = some r) :
    Calls Tryd.prog 95 #[.int .i64 a0] w fun e w' => e = .returned (.bool r) ∧ Drawn0 w w' := by
  have H : ((repertoire_Class.f k a0).bind fun bt389 => (some (bt389.2 != 0))) = some r := h
  clear h
  replace H := Option.bind_eq_some_iff.mp H
  obtain ⟨⟨t389, t390⟩, A20, H⟩ := H
  replace H : (some (t390 != 0)) = some r := H
  have A2 := Aside0.mk A20
  clear A20
  obtain rfl := Option.some.inj H
  go_enter Tryd.func95, Tryd.ntmps95
  go_wp2_with (first | ((with_reducible refine gate_callee (f := 90) rfl ?_); refine goesL_ (some 7) rfl rfl Tryd.func90 (by kernel_rfl) rfl #[.int .i64 a0] rfl (by (try simp only [List.map_toArray, List.map_cons, List.map_nil]); first | done | rfl | (simp only [List.length_drop, List.length_take]; rfl)) ?_; (with_reducible refine (repertoire_Class.calls k a0 t389 t390 _ A2.out).mono ?_); rintro e w' ⟨rfl, ⟨nd, rfl⟩⟩; refine ⟨_, rfl, ?_⟩))
  go_ret
  exact ⟨by first | rfl | (simp; done) | (simp [*]; done), by repeat (first | exact Drawn0.refl _ | apply Drawn0.step)⟩
def repertoire_Decode.l0 : Nat → ByteArray → List Int → Option (List Int × Bool)
  | 0, _, _ => none
  | k + 1, x0, x4 => if (x0.size : Int) > 0 then ((utf8_DecodeRuneInString.f x0).bind fun bt394 => (if bt394.1 = 65533 then (some (([] : List Int), false)) else ((repertoire_Has.f k (wrap64 (bt394.1))).bind fun t396 => (if t396 = true then (if x4.length < 17592186044416 then (if 0 ≤ bt394.2 then (if bt394.2 ≤ (x0.size : Int) then (repertoire_Decode.l0 k (x0.extract (bt394.2 : Int).toNat x0.size) (x4 ++ [wrap64 (bt394.1)])) else (none)) else (none)) else (none)) else (some (([] : List Int), false)))))) else (some (x4, true))
def repertoire_Decode.f (k : Nat) (a0 : ByteArray) : Option (List Int × Bool) := if 0 ≤ (a0.size : Int) then (if ((a0.size : Int) : Int).toNat ≤ 35184372088832 then (repertoire_Decode.l0 k a0 (([] : List Int))) else (none)) else (none)
def repertoire_Decode.T6 : Bool × List (List Nat × List Nat) := (true, [([], []), ([], []), ([1], [1]), ([2], [2]), ([0, 3], [0, 3]), ([], []), ([], []), ([5, 6], [5, 6]), ([4, 4, 0, 1, 2, 3, 4], [0, 4]), ([7, 8, 0, 1, 2, 3, 4, 5, 6, 7, 8], [5, 7])])
def repertoire_Decode.B6 : List Nat := [0, 0, 2, 6, 15, 0, 0, 96, 31, 511]
theorem repertoire_Decode.tab6 : rtab .any (opsOf Tryd.f78 6) = repertoire_Decode.T6 := by kernel_rfl
theorem repertoire_Decode.bits6 : waitsOk repertoire_Decode.T6.2 repertoire_Decode.B6 = true := by kernel_rfl
set_option maxHeartbeats 8000000 in
set_option maxRecDepth 100000 in
theorem repertoire_Decode.calls (k : Nat) (a0 : ByteArray) (r1 : List Int) (r2 : Bool) (w : World) (hG : GT1 w) (h : repertoire_Decode.f k a0 = some (r1, r2)) :
    Calls Tryd.prog 78 #[.string a0] w fun e w' => ∃ v0_ : Value, e = .returned (.tuple #[v0_, .bool r2]) ∧ Kd.R (Kd.int .i64) 3 w' w.heap.size (fun _ => True) v0_ r1 ∧ Below w.heap.size w w' := by
  have HG := Aside0.mk hG
  clear hG
  have HB := Aside0.mk (Below.refl w.heap.size w)
  have H : (if 0 ≤ (a0.size : Int) then (if ((a0.size : Int) : Int).toNat ≤ 35184372088832 then (repertoire_Decode.l0 k a0 (([] : List Int))) else (none)) else (none)) = some (r1, r2) := h
  clear h
  by_cases c2 : 0 ≤ (a0.size : Int)
  · rw [if_pos c2] at H
    have c2b0 := eq_true c2
    have c2b1 : decide (0 ≤ (a0.size : Int)) = true := decide_eq_true c2
    clear c2
    by_cases c3 : ((a0.size : Int) : Int).toNat ≤ 35184372088832
    · rw [if_pos c3] at H
      have c3b0 := eq_true c3
      have c3b1 : decide (((a0.size : Int) : Int).toNat ≤ 35184372088832) = true := decide_eq_true c3
      clear c3
      obtain ⟨y391, hy391⟩ : ∃ y_ : List Int, y_ = (([] : List Int)) := ⟨_, rfl⟩
      replace H : (repertoire_Decode.l0 k a0 y391) = some (r1, r2) := by first | (rw [hy391]; with_reducible exact H) | (have H2_ := (Option.bind_some _ _).symm.trans H; rw [hy391]; with_reducible exact H2_) | (have H2_ := (Option.bind_some _ _).symm.trans H; with_reducible exact H2_) | with_reducible exact H | (rw [hy391]; exact H) | exact H
      have Ny391 := Aside0.mk hy391
      clear hy391
      have H' := Aside0.mk H
      clear H
      go_enter Tryd.func78, Tryd.ntmps78
      go_wp2_with (first | ((with_reducible refine gate_dst (N := 9) rfl ?_); refine R_make0 .i64 _ 3 rfl (N := 9) rfl 35 _ _ rfl (a0.size : Int) rfl rfl Tryd.underlying35 8 info3 (by decide) (ok := fun _ => True) trivial (of_decide_eq_true (by first | (with_reducible assumption) | assumption)) (Nat.le_trans (Nat.mul_le_mul_right _ (of_decide_eq_true (by first | (with_reducible assumption) | assumption) : (a0.size : Int).toNat ≤ 35184372088832)) (by omega)) (Below.refl _ _) (Nat.le_refl _) ?_; intro v392 w4 ho5 hb hg_ hnew_; clear hg_ hnew_; (first | rw [← Ny391.out] at ho5 | (simp only [Int.reduceToNat] at ho5; rw [← Ny391.out] at ho5)); have n0_ := Aside0.mk (Kd.R_lower ho5 (below_size (by repeat (first | (with_reducible first | exact HB.out | apply below_alloc | apply pw_below_drewN | apply below_drew1) | exact HB.out)))); have n1_ := Aside0.mk (below_step (by repeat (first | (with_reducible first | exact HB.out | apply below_alloc | apply pw_below_drewN | apply below_drew1) | exact HB.out)) hb); clear HB; have HO393 := n0_; have HB := n1_; clear n0_ n1_; clear hb ho5))
      go_loopg [0, 4] k (fun kq v0 v4 w' => ∃ (x0_1 : ByteArray) (x4_1 : List Int), v0 = .string x0_1 ∧ Aside0 (repertoire_Decode.l0 kq x0_1 x4_1 = some (r1, r2)) ∧ Aside0 (kq ≤ k) ∧ Aside0 (Kd.R (Kd.int .i64) 3 w' w.heap.size (fun _ => True) v4 x4_1) ∧ Aside0 (Below w.heap.size w w'))
      case atStart => exact ⟨(a0), (y391), (by first | rfl | (simp; done) | (simp [*]; done)), H', ⟨Nat.le_refl _⟩, ⟨by (with_reducible repeat (first | apply Kd.R_alloc | apply Kd.R_drewN | apply Kd.R_drew)); exact HO393.out⟩, ⟨by repeat (first | (with_reducible first | exact HB.out | apply below_alloc | apply pw_below_drewN | apply below_drew1) | exact HB.out)⟩⟩
      case round =>
        clear H'
        try clear c2
        try clear c2b0
        try clear c2b1
        try clear p2
        try clear c3
        try clear c3b0
        try clear c3b1
        obtain ⟨x0_1, x4_1, rfl, HA, HK1, HO_4, HB⟩ := hrel
        cases gk with
        | zero => exact absurd HA.out (by simp [repertoire_Decode.l0])
        | succ k1 =>
          have H := HA.out
          clear HA
          simp only [repertoire_Decode.l0] at H
          by_cases c6 : (x0_1.size : Int) > 0
          · rw [if_pos c6] at H
            have c6b0 : decide (0 < (x0_1.size : Int)) = true := decide_eq_true c6
            have c6b1 : decide (0 < x0_1.size) = true := decide_eq_true (by omega)
            clear c6
            replace H := Option.bind_eq_some_iff.mp H
            obtain ⟨⟨t394, t395⟩, A70, H⟩ := H
            replace H : (if t394 = 65533 then (some (([] : List Int), false)) else ((repertoire_Has.f k1 (wrap64 (t394))).bind fun t396 => (if t396 = true then (if x4_1.length < 17592186044416 then (if 0 ≤ t395 then (if t395 ≤ (x0_1.size : Int) then (repertoire_Decode.l0 k1 (x0_1.extract (t395 : Int).toNat x0_1.size) (x4_1 ++ [wrap64 (t394)])) else (none)) else (none)) else (none)) else (some (([] : List Int), false))))) = some (r1, r2) := H
            have A7 := Aside0.mk A70
            clear A70
            by_cases c8 : t394 = 65533
            · rw [if_pos c8] at H
              have c8b0 : (t394 == 65533) = true := beq_iff_eq.mpr c8
              have c8b1 : (t394 != 65533) = false := bne_eq_false_iff_eq.mpr c8
              clear c8
              simp only [Option.some.injEq, Prod.mk.injEq] at H
              obtain ⟨rfl, rfl⟩ := H
              go_wp2_with (first | ((with_reducible refine gate_callee (f := 79) rfl ?_); refine goesL_ (some 15) rfl rfl Tryd.func79 (by kernel_rfl) rfl #[.string x0_1] rfl (by (try simp only [List.map_toArray, List.map_cons, List.map_nil]); first | done | rfl | (simp only [List.length_drop, List.length_take]; rfl)) ?_; (with_reducible refine (utf8_DecodeRuneInString.calls x0_1 t394 t395 _ ?side1 A7.out).mono ?_); (case side1 => exact GT1.below (HG.out) (by repeat (first | (with_reducible first | exact HB.out | apply below_alloc | apply pw_below_drewN | apply below_drew1) | exact HB.out))); rintro e w9 ⟨rfl, hb⟩; refine ⟨_, rfl, ?_⟩; have n0_ := Aside0.mk (Kd.R_below (by (with_reducible repeat (first | apply Kd.R_alloc | apply Kd.R_drewN | apply Kd.R_drew)); exact HO_4.out) hb); have n1_ := Aside0.mk (below_step (by repeat (first | (with_reducible first | exact HB.out | apply below_alloc | apply pw_below_drewN | apply below_drew1) | exact HB.out)) hb); clear HO_4; clear HB; have HO_4 := n0_; have HB := n1_; clear n0_ n1_; (try clear hb); (try clear hb2); (try clear hk); (try clear hi)))
              go_ret2
              exact ⟨_, by first | rfl | (simp [errW_none, errW_some] <;> rfl) | (simp [*, errW_none, errW_some] <;> rfl), by first | exact Kd.R_nil _ _ _ _ _ | exact Kd.N_nil _ _ _ _ _ | exact Kd.V_nil _ _ _ _ _ | exact Kd.Q_nil _ _ _ _ _ | exact Kd.S_nil _ _ _ _ _, by repeat (first | (with_reducible first | exact HB.out | apply below_alloc | apply pw_below_drewN | apply below_drew1) | exact HB.out)⟩
            · rw [if_neg c8] at H
              have c8b0 : (t394 == 65533) = false := beq_eq_false_iff_ne.mpr c8
              have c8b1 : (t394 != 65533) = true := bne_iff_ne.mpr c8
              replace H := Option.bind_eq_some_iff.mp H
              obtain ⟨t396, A100, H⟩ := H
              replace H : (if t396 = true then (if x4_1.length < 17592186044416 then (if 0 ≤ t395 then (if t395 ≤ (x0_1.size : Int) then (repertoire_Decode.l0 k1 (x0_1.extract (t395 : Int).toNat x0_1.size) (x4_1 ++ [wrap64 (t394)])) else (none)) else (none)) else (none)) else (some (([] : List Int), false))) = some (r1, r2) := H
              have A10 := Aside0.mk A100
              clear A100
              by_cases c11 : t396 = true
              · subst c11
                have H1 : (if x4_1.length < 17592186044416 then (if 0 ≤ t395 then (if t395 ≤ (x0_1.size : Int) then (repertoire_Decode.l0 k1 (x0_1.extract (t395 : Int).toNat x0_1.size) (x4_1 ++ [wrap64 (t394)])) else (none)) else (none)) else (none)) = some (r1, r2) := by rw [if_pos rfl] at H; exact H
                clear H
                have H := H1
                clear H1
                by_cases c12 : x4_1.length < 17592186044416
                · rw [if_pos c12] at H
                  have LMc12 := Aside0.mk c12
                  clear c12
                  obtain ⟨y397, hy397⟩ : ∃ y_ : List Int, y_ = (x4_1 ++ [wrap64 (t394)]) := ⟨_, rfl⟩
                  replace H : (if 0 ≤ t395 then (if t395 ≤ (x0_1.size : Int) then (repertoire_Decode.l0 k1 (x0_1.extract (t395 : Int).toNat x0_1.size) y397) else (none)) else (none)) = some (r1, r2) := by first | (rw [hy397]; with_reducible exact H) | (have H2_ := (Option.bind_some _ _).symm.trans H; rw [hy397]; with_reducible exact H2_) | (have H2_ := (Option.bind_some _ _).symm.trans H; with_reducible exact H2_) | with_reducible exact H | (rw [hy397]; exact H) | exact H
                  have Ny397 := Aside0.mk hy397
                  clear hy397
                  by_cases c13 : 0 ≤ t395
                  · rw [if_pos c13] at H
                    have c13b0 := eq_true c13
                    have c13b1 : decide (0 ≤ t395) = true := decide_eq_true c13
                    clear c13
                    by_cases c14 : t395 ≤ (x0_1.size : Int)
                    · rw [if_pos c14] at H
                      have c14b0 := eq_true c14
                      have c14b1 : decide (t395 ≤ (x0_1.size : Int)) = true := decide_eq_true c14
                      clear c14
                      have H' := Aside0.mk H
                      clear H
                      try go_wp2_with (first | ((with_reducible refine gate_callee (f := 79) rfl ?_); refine goesL_ (some 15) rfl rfl Tryd.func79 (by kernel_rfl) rfl #[.string x0_1] rfl (by (try simp only [List.map_toArray, List.map_cons, List.map_nil]); first | done | rfl | (simp only [List.length_drop, List.length_take]; rfl)) ?_; (with_reducible refine (utf8_DecodeRuneInString.calls x0_1 t394 t395 _ ?side1 A7.out).mono ?_); (case side1 => exact GT1.below (HG.out) (by repeat (first | (with_reducible first | exact HB.out | apply below_alloc | apply pw_below_drewN | apply below_drew1) | exact HB.out))); rintro e w15 ⟨rfl, hb⟩; refine ⟨_, rfl, ?_⟩; have n0_ := Aside0.mk (Kd.R_below (by (with_reducible repeat (first | apply Kd.R_alloc | apply Kd.R_drewN | apply Kd.R_drew)); exact HO_4.out) hb); have n1_ := Aside0.mk (below_step (by repeat (first | (with_reducible first | exact HB.out | apply below_alloc | apply pw_below_drewN | apply below_drew1) | exact HB.out)) hb); clear HO_4; clear HB; have HO_4 := n0_; have HB := n1_; clear n0_ n1_; (try clear hb); (try clear hb2); (try clear hk); (try clear hi)) | (go_at_call 95; (with_reducible refine (repertoire_Has.calls k1 (wrap64 (t394)) true _ A10.out).mono ?_); rintro e w' ⟨rfl, ⟨nd, rfl⟩⟩))
                      (try (rw [drewN_self w15]; generalize hq_ : World.drewN w15 _ = w15; have n0_ : Aside0 (Kd.R (Kd.int .i64) 3 w15 w.heap.size (fun _ => True) u4 x4_1) := ⟨by rw [← hq_]; exact (by (with_reducible repeat (first | apply Kd.R_alloc | apply Kd.R_drewN | apply Kd.R_drew)); exact HO_4.out)⟩; have n1_ : Aside0 (Below w.heap.size w w15) := ⟨by rw [← hq_]; exact (by repeat (first | (with_reducible first | exact HB.out | apply below_alloc | apply pw_below_drewN | apply below_drew1) | exact HB.out))⟩; clear HO_4 HB hq_; have HO_4 := n0_; have HB := n1_; clear n0_ n1_))
                      have n0_ := Aside0.mk (Kd.R_drew HO_4.out)
                      have n1_ := Aside0.mk (below_drew1 HB.out)
                      clear HO_4
                      clear HB
                      have HO_4 := n0_
                      have HB := n1_
                      clear n0_ n1_
                      refine start_ (n := 10) (S := fun w' => True) (ds := []) #[false, false, false, false, false, false, false, false, false, false] (by kernel_rfl) rfl rfl trivial (fun hHeld => ?_); refine with_tabW repertoire_Decode.tab6 repertoire_Decode.bits6 (fun HT_ HW_ => ?_)
                      generalize w15.drew = w16 at HO_4 HB hHeld ⊢
                      refine pure_ (i := 0) (N := some 26) (v := ?_) (a' := ?_) #[true, false, false, false, false, false, false, false, false, false] rfl rfl (any_of HT_.out (by kernel_rfl)) (fun _ _ _ h => h) (Or.inl ⟨by rfl, ?_⟩) ?_ ?_
                      rotate_left
                      · intro w'
                        go_simp
                        with_reducible rfl
                      rotate_left
                      · simp only [Act.put, List.setIfInBounds_toArray, List.set_cons_zero, List.set_cons_succ, i64_w, i32_w]
                        rfl
                      refine pure_ (i := 1) (N := some 27) (v := ?_) (a' := ?_) #[true, true, false, false, false, false, false, false, false, false] rfl rfl (any_of HT_.out (by kernel_rfl)) (fun _ _ _ h => h) (Or.inl ⟨by rfl, ?_⟩) ?_ ?_
                      rotate_left
                      · intro w'
                        go_simp
                        with_reducible rfl
                      rotate_left
                      · simp only [Act.put, List.setIfInBounds_toArray, List.set_cons_zero, List.set_cons_succ, i64_w, i32_w]
                        rfl
                      refine pure_ (i := 2) (N := some 28) (v := ?_) (a' := ?_) #[true, true, true, false, false, false, false, false, false, false] rfl rfl (any_of HT_.out (by kernel_rfl)) (fun _ _ _ h => h) (Or.inl ⟨by rfl, ?_⟩) ?_ ?_
                      rotate_left
                      · intro w'
                        go_simp
                        with_reducible rfl
                      rotate_left
                      · simp only [Act.put, List.setIfInBounds_toArray, List.set_cons_zero, List.set_cons_succ, i64_w, i32_w]
                        rfl
                      refine pure_ (i := 5) (N := some 31) (v := ?_) (a' := ?_) #[true, true, true, false, false, true, false, false, false, false] rfl rfl (any_of HT_.out (by kernel_rfl)) (fun _ _ _ h => h) (Or.inl ⟨by rfl, ?_⟩) ?_ ?_
                      rotate_left
                      · intro w'
                        go_simp
                        with_reducible rfl
                      rotate_left
                      · simp only [Act.put, List.setIfInBounds_toArray, List.set_cons_zero, List.set_cons_succ, i64_w, i32_w]
                        rfl
                      refine pure_ (i := 6) (N := some 32) (v := ?_) (a' := ?_) #[true, true, true, false, false, true, true, false, false, false] rfl rfl (any_of HT_.out (by kernel_rfl)) (fun _ _ _ h => h) (Or.inl ⟨by rfl, ?_⟩) ?_ ?_
                      rotate_left
                      · intro w'
                        go_simp
                        with_reducible rfl
                      rotate_left
                      · simp only [Act.put, List.setIfInBounds_toArray, List.set_cons_zero, List.set_cons_succ, i64_w, i32_w]
                        rfl
                      refine pure_ (i := 7) (N := some 33) (v := ?_) (a' := ?_) #[true, true, true, false, false, true, true, true, false, false] rfl rfl (any_of HT_.out (by kernel_rfl)) (fun _ _ _ h => h) (Or.inl ⟨by rfl, ?_⟩) ?_ ?_
                      rotate_left
                      · intro w'
                        go_simp
                        with_reducible rfl
                      rotate_left
                      · simp only [Act.put, List.setIfInBounds_toArray, List.set_cons_zero, List.set_cons_succ, i64_w, i32_w]
                        rfl
                      refine one_ (i := 3) (N := some 29) #[true, true, true, true, false, true, true, true, false, false] rfl rfl (one_of HT_.out (by kernel_rfl)) (by decide) (fun K hK => ?_)
                      refine value_ (w1 := ?_) (v := ?_) (by rfl) rfl ?_ ?_
                      rotate_left 2
                      · go_simp
                        constructor
                        · rfl
                        · rfl
                      refine hK.out _ _ trivial (fun hHeld => ?_)
                      clear hK K
                      refine norm_ (a' := ?_) ?_ ?_
                      rotate_left
                      · show Act.put _ (some 29) _ = _
                        simp only [Act.put, List.setIfInBounds_toArray, List.set_cons_zero, List.set_cons_succ, i64_w, i32_w]
                        rfl
                      refine one_ (i := 4) (N := some 30) #[true, true, true, true, true, true, true, true, false, false] rfl rfl (one_of HT_.out (by kernel_rfl)) (by decide) (fun K hK => ?_)
                      refine Kd.R_append_step (Kd.int .i64) (w0 := w) w.heap.size (by rfl) (.tmp 26) (.tmp 29) 35 3 (.int .i64 0) 8 rfl Tryd.underlying35 info3 rfl (by decide) (by omega) u4 x4_1 (wrap64 (t394)) [.int .i64 (wrap64 (t394))] (fun _ => True) (fun _ => False) rfl rfl ?aP (fun _ hk => hk.elim) ?aF ?aO ?aB ?aS ?aL ?_
                      (case aP => exact rfl)
                      (case aB => exact (by repeat (first | (with_reducible first | exact HB.out | apply below_alloc | apply pw_below_drewN | apply below_drew1) | exact HB.out)))
                      (case aF => exact (fun _ _ => trivial))
                      (case aO => exact (by (with_reducible repeat (first | apply Kd.R_alloc | apply Kd.R_drewN | apply Kd.R_drew)); exact HO_4.out))
                      (case aS => exact (below_size (by repeat (first | (with_reducible first | exact HB.out | apply below_alloc | apply pw_below_drewN | apply below_drew1) | exact HB.out))))
                      (case aL => have := LMc12.out; omega)
                      intro v398 w17 ho hb hg hat
                      rw [← Ny397.out] at ho
                      have n0_ := Aside0.mk (hb)
                      have n1_ := Aside0.mk (ho)
                      clear HB
                      clear HO_4
                      have HB := n0_
                      have HO399 := n1_
                      clear n0_ n1_
                      clear ho hb hg hat
                      refine hK.out _ _ trivial (fun hHeld => ?_)
                      clear hK K
                      refine norm_ (a' := ?_) ?_ ?_
                      rotate_left
                      · show Act.put _ (some 30) _ = _
                        simp only [Act.put, List.setIfInBounds_toArray, List.set_cons_zero, List.set_cons_succ, i64_w, i32_w]
                        rfl
                      refine pure_ (i := 8) (N := some 4) (v := ?_) (a' := ?_) #[true, true, true, true, true, true, true, true, true, false] rfl rfl (any_of HT_.out (by kernel_rfl)) (fun _ _ _ h => h) (Or.inl ⟨by rfl, ?_⟩) ?_ ?_
                      rotate_left
                      · intro w'
                        go_simp
                        with_reducible rfl
                      rotate_left
                      · simp only [Act.put, List.setIfInBounds_toArray, List.set_cons_zero, List.set_cons_succ, i64_w, i32_w]
                        rfl
                      refine pure_ (i := 9) (N := some 0) (v := ?_) (a' := ?_) #[true, true, true, true, true, true, true, true, true, true] rfl rfl (any_of HT_.out (by kernel_rfl)) (fun _ _ _ h => h) (Or.inl ⟨by rfl, ?_⟩) ?_ ?_
                      rotate_left
                      · intro w'
                        go_simp
                        with_reducible rfl
                      rotate_left
                      · simp only [Act.put, List.setIfInBounds_toArray, List.set_cons_zero, List.set_cons_succ, i64_w, i32_w]
                        rfl
                      refine done_ (done_of HT_.out (by kernel_rfl)) ?_
                      try go_wp2
                      go_roundg k1
                      case measure => have := HK1.out; omega
                      case rel => exact ⟨(x0_1.extract (t395 : Int).toNat x0_1.size), (y397), (by first | rfl | (simp; done) | (simp [*]; done)), H', ⟨by have := HK1.out; omega⟩, ⟨by (with_reducible repeat (first | apply Kd.R_alloc | apply Kd.R_drewN | apply Kd.R_drew)); exact HO399.out⟩, ⟨by repeat (first | (with_reducible first | exact HB.out | apply below_alloc | apply pw_below_drewN | apply below_drew1) | exact HB.out)⟩⟩
                    · rw [if_neg c14] at H
                      exact absurd H (by simp)
                  · rw [if_neg c13] at H
                    exact absurd H (by simp)
                · rw [if_neg c12] at H
                  exact absurd H (by simp)
              · replace c11 := Bool.eq_false_iff.mpr c11
                subst c11
                have H1 : (some (([] : List Int), false)) = some (r1, r2) := by rw [if_neg (show ¬ (false = true) by decide)] at H; exact H
                clear H
                have H := H1
                clear H1
                simp only [Option.some.injEq, Prod.mk.injEq] at H
                obtain ⟨rfl, rfl⟩ := H
                go_wp2_with (first | ((with_reducible refine gate_callee (f := 79) rfl ?_); refine goesL_ (some 15) rfl rfl Tryd.func79 (by kernel_rfl) rfl #[.string x0_1] rfl (by (try simp only [List.map_toArray, List.map_cons, List.map_nil]); first | done | rfl | (simp only [List.length_drop, List.length_take]; rfl)) ?_; (with_reducible refine (utf8_DecodeRuneInString.calls x0_1 t394 t395 _ ?side1 A7.out).mono ?_); (case side1 => exact GT1.below (HG.out) (by repeat (first | (with_reducible first | exact HB.out | apply below_alloc | apply pw_below_drewN | apply below_drew1) | exact HB.out))); rintro e w18 ⟨rfl, hb⟩; refine ⟨_, rfl, ?_⟩; have n0_ := Aside0.mk (Kd.R_below (by (with_reducible repeat (first | apply Kd.R_alloc | apply Kd.R_drewN | apply Kd.R_drew)); exact HO_4.out) hb); have n1_ := Aside0.mk (below_step (by repeat (first | (with_reducible first | exact HB.out | apply below_alloc | apply pw_below_drewN | apply below_drew1) | exact HB.out)) hb); clear HO_4; clear HB; have HO_4 := n0_; have HB := n1_; clear n0_ n1_; (try clear hb); (try clear hb2); (try clear hk); (try clear hi)) | (go_at_call 95; (with_reducible refine (repertoire_Has.calls k1 (wrap64 (t394)) false _ A10.out).mono ?_); rintro e w' ⟨rfl, ⟨nd, rfl⟩⟩))
                go_ret2
                exact ⟨_, by first | rfl | (simp [errW_none, errW_some] <;> rfl) | (simp [*, errW_none, errW_some] <;> rfl), by first | exact Kd.R_nil _ _ _ _ _ | exact Kd.N_nil _ _ _ _ _ | exact Kd.V_nil _ _ _ _ _ | exact Kd.Q_nil _ _ _ _ _ | exact Kd.S_nil _ _ _ _ _, by repeat (first | (with_reducible first | exact HB.out | apply below_alloc | apply pw_below_drewN | apply below_drew1) | exact HB.out)⟩
          · rw [if_neg c6] at H
            have c6b0 : decide (0 < (x0_1.size : Int)) = false := decide_eq_false c6
            have c6b1 : decide (0 < x0_1.size) = false := decide_eq_false (by omega)
            clear c6
            simp only [Option.some.injEq, Prod.mk.injEq] at H
            obtain ⟨rfl, rfl⟩ := H
            go_wp2
            go_ret2
            exact ⟨_, by first | rfl | (simp [errW_none, errW_some] <;> rfl) | (simp [*, errW_none, errW_some] <;> rfl), by (with_reducible repeat (first | apply Kd.R_alloc | apply Kd.R_drewN | apply Kd.R_drew)); exact HO_4.out, by repeat (first | (with_reducible first | exact HB.out | apply below_alloc | apply pw_below_drewN | apply below_drew1) | exact HB.out)⟩
    · rw [if_neg c3] at H
      exact absurd H (by simp)
  · rw [if_neg c2] at H
    exact absurd H (by simp)
def normal_mark.f (k : Nat) (a0 : Int) : Option (Bool) := (repertoire_Class.f k a0).bind fun bt423 => (some (bt423.2 == 2))
set_option maxHeartbeats 8000000 in
set_option maxRecDepth 100000 in
theorem normal_mark.calls (k : Nat) (a0 : Int) (r : Bool) (w : World) (h : normal_mark.f k a0 = some r) :
    Calls Tryd.prog 67 #[.int .i64 a0] w fun e w' => e = .returned (.bool r) ∧ Drawn0 w w' := by
  have H : ((repertoire_Class.f k a0).bind fun bt423 => (some (bt423.2 == 2))) = some r := h
  clear h
  replace H := Option.bind_eq_some_iff.mp H
  obtain ⟨⟨t423, t424⟩, A20, H⟩ := H
  replace H : (some (t424 == 2)) = some r := H
  have A2 := Aside0.mk A20
  clear A20
  obtain rfl := Option.some.inj H
  go_enter Tryd.func67, Tryd.ntmps67
  go_wp2_with (first | ((with_reducible refine gate_callee (f := 90) rfl ?_); refine goesL_ (some 7) rfl rfl Tryd.func90 (by kernel_rfl) rfl #[.int .i64 a0] rfl (by (try simp only [List.map_toArray, List.map_cons, List.map_nil]); first | done | rfl | (simp only [List.length_drop, List.length_take]; rfl)) ?_; (with_reducible refine (repertoire_Class.calls k a0 t423 t424 _ A2.out).mono ?_); rintro e w' ⟨rfl, ⟨nd, rfl⟩⟩; refine ⟨_, rfl, ?_⟩))
  go_ret
  exact ⟨by first | rfl | (simp; done) | (simp [*]; done), by repeat (first | exact Drawn0.refl _ | apply Drawn0.step)⟩
def normal_place.f (a0 : ByteArray) (a1 : Int) : Option (Int) := (strings_IndexRune.f a0 (wrap32 (a1))).bind fun t425 => (if t425 < 0 then (some (-1)) else (if 0 ≤ t425 then (if t425 ≤ (a0.size : Int) then ((utf8_RuneCountInString.f (a0.extract 0 (t425 : Int).toNat)).bind fun t426 => (some t426)) else (none)) else (none)))
set_option maxHeartbeats 8000000 in
set_option maxRecDepth 100000 in
theorem normal_place.calls (a0 : ByteArray) (a1 : Int) (r : Int) (w : World) (h : normal_place.f a0 a1 = some r) :
    Calls Tryd.prog 92 #[.string a0, .int .i64 a1] w fun e w' => e = .returned (.int .i64 r) ∧ Below w.heap.size w w' := by
  have HB := Aside0.mk (Below.refl w.heap.size w)
  have H : ((strings_IndexRune.f a0 (wrap32 (a1))).bind fun t425 => (if t425 < 0 then (some (-1)) else (if 0 ≤ t425 then (if t425 ≤ (a0.size : Int) then ((utf8_RuneCountInString.f (a0.extract 0 (t425 : Int).toNat)).bind fun t426 => (some t426)) else (none)) else (none)))) = some r := h
  clear h
  replace H := Option.bind_eq_some_iff.mp H
  obtain ⟨t425, A30, H⟩ := H
  replace H : (if t425 < 0 then (some (-1)) else (if 0 ≤ t425 then (if t425 ≤ (a0.size : Int) then ((utf8_RuneCountInString.f (a0.extract 0 (t425 : Int).toNat)).bind fun t426 => (some t426)) else (none)) else (none))) = some r := H
  have A3 := Aside0.mk A30
  clear A30
  by_cases c4 : t425 < 0
  · rw [if_pos c4] at H
    have c4b0 : decide (t425 < 0) = true := decide_eq_true c4
    clear c4
    obtain rfl := Option.some.inj H
    go_enter Tryd.func92, Tryd.ntmps92
    go_wp2_with (first | ((with_reducible refine gate_callee (f := 106) rfl ?_); refine goesL_ (some 9) rfl rfl Tryd.func106 (by kernel_rfl) rfl #[.string a0, .int .i32 (wrap32 (a1))] rfl (by (try simp only [List.map_toArray, List.map_cons, List.map_nil]); first | done | rfl | (simp only [List.length_drop, List.length_take]; rfl)) ?_; (with_reducible refine (strings_IndexRune.calls a0 (wrap32 (a1)) t425 _ A3.out).mono ?_); rintro e w' ⟨rfl, ⟨nd, rfl⟩⟩; refine ⟨_, rfl, ?_⟩))
    go_ret
    exact ⟨by first | rfl | (simp [errW_none, errW_some] <;> rfl) | (simp [*, errW_none, errW_some] <;> rfl), by repeat (first | (with_reducible first | exact HB.out | apply below_alloc | apply pw_below_drewN | apply below_drew1) | exact HB.out)⟩
  · rw [if_neg c4] at H
    have c4b0 : decide (t425 < 0) = false := decide_eq_false c4
    clear c4
    by_cases c5 : 0 ≤ t425
    · rw [if_pos c5] at H
      have c5b0 := eq_true c5
      have c5b1 : decide (0 ≤ t425) = true := decide_eq_true c5
      clear c5
      by_cases c6 : t425 ≤ (a0.size : Int)
      · rw [if_pos c6] at H
        have c6b0 := eq_true c6
        have c6b1 : decide (t425 ≤ (a0.size : Int)) = true := decide_eq_true c6
        clear c6
        replace H := Option.bind_eq_some_iff.mp H
        obtain ⟨t426, A70, H⟩ := H
        replace H : (some t426) = some r := H
        have A7 := Aside0.mk A70
        clear A70
        obtain rfl := Option.some.inj H
        go_enter Tryd.func92, Tryd.ntmps92
        go_wp2_with (first | ((with_reducible refine gate_callee (f := 106) rfl ?_); refine goesL_ (some 9) rfl rfl Tryd.func106 (by kernel_rfl) rfl #[.string a0, .int .i32 (wrap32 (a1))] rfl (by (try simp only [List.map_toArray, List.map_cons, List.map_nil]); first | done | rfl | (simp only [List.length_drop, List.length_take]; rfl)) ?_; (with_reducible refine (strings_IndexRune.calls a0 (wrap32 (a1)) t425 _ A3.out).mono ?_); rintro e w' ⟨rfl, ⟨nd, rfl⟩⟩; refine ⟨_, rfl, ?_⟩) | ((with_reducible refine gate_callee (f := 107) rfl ?_); refine goesL_ (some 15) rfl rfl Tryd.func107 (by kernel_rfl) rfl #[.string (a0.extract 0 (t425 : Int).toNat)] rfl (by (try simp only [List.map_toArray, List.map_cons, List.map_nil]); first | done | rfl | (simp only [List.length_drop, List.length_take]; rfl)) ?_; (with_reducible refine (utf8_RuneCountInString.calls (a0.extract 0 (t425 : Int).toNat) t426 _ A7.out).mono ?_); rintro e w8 ⟨rfl, hb⟩; refine ⟨_, rfl, ?_⟩; have n0_ := Aside0.mk (below_step (by repeat (first | (with_reducible first | exact HB.out | apply below_alloc | apply pw_below_drewN | apply below_drew1) | exact HB.out)) hb); clear HB; have HB := n0_; clear n0_; (try clear hb); (try clear hb2); (try clear hk); (try clear hi)))
        go_ret
        exact ⟨by first | rfl | (simp [errW_none, errW_some] <;> rfl) | (simp [*, errW_none, errW_some] <;> rfl), by repeat (first | (with_reducible first | exact HB.out | apply below_alloc | apply pw_below_drewN | apply below_drew1) | exact HB.out)⟩
      · rw [if_neg c6] at H
        exact absurd H (by simp)
    · rw [if_neg c5] at H
      exact absurd H (by simp)
end Go.Proofs.YthcpdhniakpbaaaDoor.X
end

section
namespace Go.Proofs.YthcpdhniakpbaaaDoor.X
set_option linter.unusedVariables false
set_option linter.unusedSimpArgs false
open Go.RowKit Go.Proofs.YthcpdhniakpbaaaDoorW.PrintWords
theorem enc_eq {c : Int} (h : (0 ≤ c ∧ c ≤ 55295) ∨ (57344 ≤ c ∧ c ≤ 65535)) : (Utf8.encode c).data.toList = encC c := by
  have hv : Utf8.valid c = true := by
    unfold Utf8.valid
    rcases h with h | h
    · simp; omega
    · simp; omega
  unfold Utf8.encode
  simp only [hv, if_true]
  by_cases c1 : c < 128
  · rw [if_pos (by omega), encC_one c1]
  · rw [if_neg (by omega)]
    by_cases c2 : c < 2048
    · rw [if_pos (by omega), encC_two (by omega) c2]
      have e1 : (192 + c / 64).toNat = 192 + c.toNat / 64 := by omega
      have e2 : (128 + c % 64).toNat = 128 + c.toNat % 64 := by omega
      rw [e1, e2]
    · rw [if_neg (by omega), if_pos (by omega), encC_three (by omega)]
      have e1 : (224 + c / 4096).toNat = 224 + c.toNat / 4096 := by omega
      have e2 : (128 + c / 64 % 64).toNat = 128 + c.toNat / 64 % 64 := by omega
      have e3 : (128 + c % 64).toNat = 128 + c.toNat % 64 := by omega
      rw [e1, e2, e3]
theorem indexRune_eq {B : ByteArray} {xs : List Int} (he : B.data.toList = encL xs) (hs : ∀ x ∈ xs, 0 ≤ x ∧ x < 2048) (hn : B.size ≤ 4294967000)
    (hc : ∀ c : UInt8, 128 ≤ c.toNat ∧ c.toNat < 192 → calm B.data.toList c = true) {c : Int} (h0 : 0 ≤ c) (h1 : c ≤ 65535) (hne : c ≠ 65533) :
    strings_IndexRune.f B c = some (placeB xs c) := by
  unfold strings_IndexRune.f
  by_cases c1 : c < 128
  · rw [if_pos ⟨h0, c1⟩, ← index_enc xs c hs ⟨h0, by omega⟩, ← he, encC_one c1, Lib.index_one]
  · rw [if_neg (by omega)]
    by_cases c2 : 55296 ≤ c ∧ c ≤ 57343
    · rw [if_pos (.inl c2)]
      have : c ∉ xs := fun hm => by have := hs c hm; omega
      simp [placeB, this]
    · have hv : (0 ≤ c ∧ c ≤ 55295) ∨ (57344 ≤ c ∧ c ≤ 65535) := by omega
      have hsz : (Utf8.encode c).size = (encC c).length := by rw [← enc_eq hv, len_of]
      rw [if_neg (by omega), if_neg hne, if_pos ⟨hn, by rw [enc_eq hv, hsz]; exact hc _ (encC_last c (by omega))⟩, enc_eq hv, he, index_enc xs c hs ⟨h0, by omega⟩]
theorem contains_eq {B : ByteArray} {xs : List Int} (he : B.data.toList = encL xs) (hs : ∀ x ∈ xs, 0 ≤ x ∧ x < 2048) (hn : B.size ≤ 4294967000)
    (hc : ∀ c : UInt8, 128 ≤ c.toNat ∧ c.toNat < 192 → calm B.data.toList c = true) {c : Int} (h0 : 0 ≤ c) (h1 : c ≤ 65535) (hne : c ≠ 65533) :
    strings_ContainsRune.f B (wrap32 c) = some (decide (c ∈ xs)) := by
  have hw : wrap32 c = c := by unfold wrap32; omega
  unfold strings_ContainsRune.f
  rw [hw, indexRune_eq he hs hn hc h0 h1 hne]
  simp only [Option.bind_some, Option.some.injEq, ge_iff_le]
  exact decide_eq_decide.2 (placeB_ge xs c)
theorem from_eq (a lo hi : Int) : repertoire_from.f a lo hi = some (decide (lo ≤ a ∧ a ≤ hi)) := by
  unfold repertoire_from.f
  by_cases h : a ≥ lo
  · rw [if_pos h]; simp [h]
  · rw [if_neg h]; simp; omega
theorem letter_eq {c : Int} (h0 : 0 ≤ c) (h1 : c ≤ 65535) (hne : c ≠ 65533) (k : Nat) : repertoire_letter.f (k + 3) c = some (letterS c) := by
  have cl := contains_eq (c := c) latin_enc latin_small (by decide +kernel) latin_calm h0 h1 hne
  have cg := contains_eq (c := c) greek_enc greek_small (by decide +kernel) greek_calm h0 h1 hne
  have cc := contains_eq (c := c) cyr_enc cyr_small (by decide +kernel) cyr_calm h0 h1 hne
  unfold latinB at cl
  unfold greekB at cg
  unfold cyrB at cc
  have j1 : ∀ b : Bool, ∀ k, repertoire_letter.j1 (k + 1) c b = some (if b = true then 2 else if (1040 ≤ c ∧ c ≤ 1103) ∨ c ∈ cyrL then 3 else 0) := fun b k => by
    rw [repertoire_letter.j1]
    cases b with
    | true => simp
    | false =>
      rw [from_eq, cc]
      by_cases h2 : 1040 ≤ c ∧ c ≤ 1103 <;> by_cases h3 : c ∈ cyrL <;> simp [h2, h3]
  have j0 : ∀ b : Bool, ∀ k, repertoire_letter.j0 (k + 2) c b = some (if b = true then 1 else if (c ≠ 930 ∧ 913 ≤ c ∧ c ≤ 937) ∨ (945 ≤ c ∧ c ≤ 969) ∨ c ∈ greekL then 2
      else if (1040 ≤ c ∧ c ≤ 1103) ∨ c ∈ cyrL then 3 else 0) := fun b k => by
    rw [repertoire_letter.j0]
    cases b with
    | true => simp
    | false =>
      rw [from_eq, from_eq, cg]
      simp only [Option.bind_some, j1]
      by_cases h1 : c = 930 <;> by_cases h2 : 945 ≤ c ∧ c ≤ 969 <;> by_cases h3 : c ∈ greekL <;> by_cases h4 : 913 ≤ c ∧ c ≤ 937 <;> simp [h1, h2, h3, h4]
  unfold repertoire_letter.f letterS
  rw [from_eq, from_eq, from_eq, cl]
  simp only [Option.bind_some, j0]
  by_cases a1 : 65 ≤ c ∧ c ≤ 90 <;> by_cases a2 : 97 ≤ c ∧ c ≤ 122 <;> by_cases a3 : c = 383 <;> by_cases a4 : 64257 ≤ c ∧ c ≤ 64258 <;> by_cases a5 : c ∈ latinL <;> simp [a1, a2, a3, a4, a5]
theorem mark_eq (c : Int) (k : Nat) : repertoire_mark.f (k + 1) c = some (markS c) := by
  unfold repertoire_mark.f markS
  rw [repertoire_mark.j0, repertoire_mark.j0, from_eq]
  by_cases a1 : c = 773 <;> by_cases a2 : c = 777 <;> by_cases a3 : c = 803 <;> by_cases a4 : c = 807 <;> by_cases a5 : c = 808 <;> simp [a1, a2, a3, a4, a5]
theorem classN_eq {c : Int} (hne : c ≠ 65533) (k : Nat) : repertoire_Class.j0 (k + 7) c = some (classN c) := by
  have j3 : ∀ b : Bool, ∀ k, repertoire_Class.j3 (k + 2) c b = some (if b = true then (0, 3) else if markS c = true then (0, 2) else if c ≤ 126 then (0, 5) else (0, 0)) := fun b k => by
    rw [repertoire_Class.j3]
    cases b with
    | true => simp
    | false =>
      rw [mark_eq]
      simp only [Option.bind_some]
      by_cases h : markS c = true <;> by_cases h2 : c ≤ 126 <;> simp [h, h2]
  have j2 : ∀ b : Bool, ∀ k, repertoire_Class.j2 (k + 3) c b = some (if b = true then (0, 4) else if (48 ≤ c ∧ c ≤ 57) ∨ c = 178 ∨ c = 179 ∨ c = 185 then (0, 3) else if markS c = true then (0, 2) else if c ≤ 126 then (0, 5) else (0, 0)) := fun b k => by
    rw [repertoire_Class.j2]
    cases b with
    | true => simp
    | false =>
      rw [from_eq]
      simp only [Option.bind_some, j3]
      by_cases a1 : 48 ≤ c ∧ c ≤ 57 <;> by_cases a2 : c = 178 <;> by_cases a3 : c = 179 <;> by_cases a4 : c = 185 <;> simp [a1, a2, a3, a4]
  rw [repertoire_Class.j0]
  unfold classN
  by_cases h0 : c < 32
  · rw [if_pos h0, if_pos (.inl h0), repertoire_Class.j1]
    simp
  · rw [if_neg h0, repertoire_Class.j1]
    by_cases h1 : c > 65535
    · rw [if_pos (by simpa using h1), if_pos (.inr h1)]
    · rw [if_neg (by simpa using h1), if_neg (show ¬ (c < 32 ∨ 65535 < c) by omega), letter_eq (by omega) (by omega) hne]
      simp only [Option.bind_some, j2]
      by_cases hl : letterS c = 0
      · rw [if_pos hl, if_neg (show ¬ (letterS c ≠ 0) from fun h => h hl)]
        by_cases a1 : c = 32
        · rw [if_pos a1, if_pos trivial, if_pos (show c = 32 ∨ c = 160 from .inl a1)]
        · rw [if_neg a1]
          by_cases a2 : c = 160
          · rw [if_pos (show (c == 160) = true by simpa using a2), if_pos (show c = 32 ∨ c = 160 from .inr a2)]
          · rw [if_neg (show ¬ (c == 160) = true by simpa using a2), if_neg (show ¬ (c = 32 ∨ c = 160) by omega)]
      · rw [if_neg hl, if_pos hl]
theorem class_eq {c : Int} (hne : c ≠ 65533) (k : Nat) : repertoire_Class.f (k + 7) c = some (classS c) := by
  unfold repertoire_Class.f classS narrow
  rw [from_eq]
  simp only [Option.bind_some]
  by_cases h : 65281 ≤ c ∧ c ≤ 65374
  · rw [if_pos (by simpa using h), if_pos h, show wrap64 (c - 65248) = c - 65248 by unfold wrap64; omega, classN_eq (by omega)]
  · rw [if_neg (by simpa using h), if_neg h, classN_eq hne]
theorem has_eq {c : Int} (hne : c ≠ 65533) (k : Nat) : repertoire_Has.f (k + 7) c = some (hasS c) := by
  unfold repertoire_Has.f hasS
  rw [class_eq hne]
  rfl
theorem isMark_eq {c : Int} (hne : c ≠ 65533) (k : Nat) : normal_mark.f (k + 7) c = some ((classS c).2 == 2) := by
  unfold normal_mark.f
  rw [class_eq hne]
  rfl
end Go.Proofs.YthcpdhniakpbaaaDoor.X
end

section
namespace Go.Proofs.YthcpdhniakpbaaaDoor.X
set_option linter.unusedVariables false
set_option linter.unusedSimpArgs false
open Go.RowKit Go.Proofs.YthcpdhniakpbaaaDoorW.PrintWords
theorem decGo_more (p : Int → Bool) : ∀ (f : Nat) (l : List UInt8), l.length < f → decGo p f l = decGo p (l.length + 1) l
  | 0, l, h => by omega
  | f + 1, l, h => by
    rw [decGo, decGo]
    by_cases e : l = []
    · rw [if_pos e, if_pos e]
    · rw [if_neg e, if_neg e]
      cases hc : charS l with
      | none => rfl
      | some q =>
        obtain ⟨c, n⟩ := q
        have hp := charS_pos hc
        simp only
        have h1 := decGo_more p f (l.drop n) (by rw [List.length_drop]; omega)
        have h2 := decGo_more p l.length (l.drop n) (by rw [List.length_drop]; omega)
        rw [h1, h2]
theorem decS_nil (p : Int → Bool) : decS p [] = some [] := by simp [decS, decGo]
theorem decS_cons (p : Int → Bool) {l : List UInt8} (e : l ≠ []) : decS p l = match charS l with | none => none | some (c, n) => if p c then (decS p (l.drop n)).map (c :: ·) else none := by
  unfold decS
  rw [decGo, if_neg e]
  cases hc : charS l with
  | none => rfl
  | some q =>
    obtain ⟨c, n⟩ := q
    have hp := charS_pos hc
    simp only
    rw [decGo_more p l.length (l.drop n) (by rw [List.length_drop]; omega)]
theorem decN_lt (n b0 b1 b2 b3 : Nat) (h : b0 < 256) : (Lib.decodeN n b0 b1 b2 b3).1 < 2097152 := by
  unfold Lib.decodeN
  repeat' split
  all_goals simp only <;> omega
theorem decode_lt (s : ByteArray) : (Utf8.decode s 0).1 < 2097152 := by rw [Lib.decode_at]; exact decN_lt _ _ _ _ _ (s.get! 0).toNat_lt
def decR (acc : List Int) (l : List UInt8) : List Int × Bool := match decS hasS l with | some cs => (acc ++ cs, true) | none => ([], false)
theorem hasS_65533 : hasS 65533 = false := by decide +kernel
theorem decode_loop : ∀ (n : Nat) (s : ByteArray) (acc : List Int) (k : Nat), s.size ≤ n → n + 8 ≤ k → acc.length + s.size ≤ 8796093022208 → repertoire_Decode.l0 k s acc = some (decR acc s.data.toList)
  | n, s, acc, 0, hn, hk, ha => by omega
  | n, s, acc, k + 1, hn, hk, ha => by
    rw [repertoire_Decode.l0]
    have hl : s.data.toList.length = s.size := Array.length_toList
    by_cases e : s.size = 0
    · rw [if_neg (by omega)]
      have : s.data.toList = [] := List.length_eq_zero_iff.1 (by omega)
      rw [this]
      simp [decR, decS_nil]
    · rw [if_pos (by omega)]
      have hne : s.data.toList ≠ [] := fun h => e (by rw [← hl, h]; rfl)
      have hlt := decode_lt s
      have hd : utf8_DecodeRuneInString.f s = some (((Utf8.decode s 0).1 : Int), ((Utf8.decode s 0).2 : Int)) := by
        unfold utf8_DecodeRuneInString.f Lib.decodeGo
        rw [if_neg e]
      rw [hd]
      simp only [Option.bind_some]
      have hw : wrap64 ((Utf8.decode s 0).1 : Int) = ((Utf8.decode s 0).1 : Int) := by unfold wrap64; omega
      unfold decR
      rw [decS_cons hasS hne]
      obtain ⟨k, rfl⟩ : ∃ m, k = m + 7 := ⟨k - 7, by omega⟩
      cases hc : charS s.data.toList with
      | none =>
        simp only
        rcases decode_none s (by omega) hc with h | h
        · rw [if_pos (by omega)]
        · rw [if_neg (by omega), hw, has_eq (by omega)]
          have : hasS ((Utf8.decode s 0).1 : Int) = false := by
            cases hh : hasS ((Utf8.decode s 0).1 : Int) with
            | false => rfl
            | true => have := hasS_range hh; omega
          rw [this]
          simp
      | some q =>
        obtain ⟨c, m⟩ := q
        have hp := charS_pos hc
        simp only
        rcases decode_some s hc with ⟨h1, h2⟩ | ⟨h1, h2⟩
        · rw [if_pos (by omega)]
          have : hasS c = false := by
            cases hh : hasS c with
            | false => rfl
            | true => have := hasS_range hh; omega
          rw [this]
          simp
        · have hc0 := (charS_back hc).1.1
          rw [h2] at hw ⊢
          simp only at hw ⊢
          rw [show ((c.toNat : Nat) : Int) = c by omega] at hw ⊢
          by_cases h3 : c = 65533
          · rw [if_pos h3, h3, hasS_65533]
            simp
          · rw [if_neg h3, hw, has_eq h3]
            simp only [Option.bind_some]
            cases hh : hasS c with
            | false => simp
            | true =>
              rw [if_pos rfl, if_pos (by omega), if_pos (by omega), if_pos (by omega)]
              have hx : (s.extract ((m : Int).toNat) s.size).data.toList = s.data.toList.drop m := by
                rw [Lib.extract_to_end]
                simp
              have hsz : (s.extract ((m : Int).toNat) s.size).size = s.size - m := by
                have : (s.extract ((m : Int).toNat) s.size).data.toList.length = (s.extract ((m : Int).toNat) s.size).size := Array.length_toList
                rw [← this, hx, List.length_drop, hl]
              rw [decode_loop (n - 1) _ _ (k + 7) (by rw [hsz]; omega) (by omega) (by rw [hsz, List.length_append]; simp; omega)]
              rw [hx]
              unfold decR
              cases decS hasS (s.data.toList.drop m) with
              | none => simp
              | some cs => simp
  termination_by _ _ _ k => k
theorem decode_eq (s : ByteArray) (h : s.size ≤ 8796093022208) {k : Nat} (hk : s.size + 8 ≤ k) : repertoire_Decode.f k s = some (decR [] s.data.toList) := by
  unfold repertoire_Decode.f
  rw [if_pos (by omega), if_pos (by omega)]
  exact decode_loop s.size s [] k (Nat.le_refl _) hk (by simpa using h)
end Go.Proofs.YthcpdhniakpbaaaDoor.X
end

section
namespace Go.Proofs.YthcpdhniakpbaaaDoor.X
open Go.RowKit Go.Proofs.YthcpdhniakpbaaaDoorW.PrintWords Go.Proofs.YthcpdhniakpbaaaDoorW.PrintLast Go.Proofs.YthcpdhniakpbaaaDoorW.PrintMore
set_option linter.unusedVariables false
set_option linter.unusedSimpArgs false
theorem results_cell_new {fn : Func} {p : Tmp} {ty : TypeId} (h : fn.results = #[.cell p ty]) (tmps : Array Value) (P : Program) (w : World) (c : Array Value) {n : Nat} {e : TypeId} (hp : tmps.getD p undef = .pointer (some ⟨w.heap.size, 0, none⟩)) (hu : P.underlying ty = some (.array n e)) (hi : (P.info? ty).map (·.size) = some c.size) :
    (results fn tmps).run P (w.alloc (.cells c ty)) = .ok (.agg c) (w.alloc (.cells c ty)) := by
  simp only [results, h]
  have hp' : tmps[p]?.getD undef = .pointer (some ⟨w.heap.size, 0, none⟩) := by simpa using hp
  simp [Sem.run_bind, Result.andThen, hp', asAddr, run_loadVar_new w ty c n e hu hi]
theorem store_new {P : Program} {ops : Array Oper} {rest : List Oper} {o : Oper} {a : Act} {Q : Exit → Act → World → Prop} {w : World} (hN : o.dst = none) (hgd : o.guard = none) {t : TypeId} {p x : Operand} (ho : o.op = .store t p x) (c c' : Array Value)
    (haddr : a.eval p = .pointer (some ⟨w.heap.size, 0, none⟩)) (hx : a.eval x = .agg c') (hi : (P.info? t).map (·.size) = some c'.size) (hs : c.size = c'.size) (h1 : c'.all (·.oneCell') = true)
    (h : wpList P ops Q rest a (w.alloc (.cells c' t))) : wpList P ops Q (o :: rest) a (w.alloc (.cells c t)) := by
  refine wpList_plain hgd fun K hK => ?_
  have hrun := run_storeAt_new w t c c' hi hs h1
  unfold Oper.wp execOp
  simp only [ho, haddr, hx, Sem.run_bind, Sem.run_pure, Result.andThen_ok, hrun]
  show K (a.put o.dst undef) _
  rw [hN]
  exact hK a _ h
def nL0 : ByteArray := ⟨#[195, 128, 195, 136, 195, 140, 195, 146, 195, 153, 195, 160, 195, 168, 195, 172, 195, 178, 195, 185]⟩
def nL0c : List Int := [192, 200, 204, 210, 217, 224, 232, 236, 242, 249]
def nB0 : ByteArray := ⟨#[65, 69, 73, 79, 85, 97, 101, 105, 111, 117]⟩
def nB0c : List Int := [65, 69, 73, 79, 85, 97, 101, 105, 111, 117]
def nL1 : ByteArray := ⟨([195, 129, 195, 137, 195, 141, 195, 147, 195, 154, 195, 157, 195, 161, 195, 169, 195, 173, 195, 179, 195, 186, 195, 189, 196, 134, 196, 135, 196, 185, 196, 186, 197, 131, 197, 132, 197, 148].append [197, 149, 197, 154, 197, 155, 197, 185, 197, 186, 206, 134, 206, 136, 206, 137, 206, 138, 206, 140, 206, 142, 206, 143, 206, 172, 206, 173, 206, 174, 206, 175, 207, 140, 207, 141, 207, 142]).toArray⟩
def nL1c : List Int := [193, 201, 205, 211, 218, 221, 225, 233, 237, 243, 250, 253, 262, 263, 313, 314, 323, 324, 340, 341, 346, 347, 377, 378, 902, 904, 905, 906, 908, 910, 911, 940, 941, 942, 943, 972, 973, 974]
def nB1 : ByteArray := ⟨#[65, 69, 73, 79, 85, 89, 97, 101, 105, 111, 117, 121, 67, 99, 76, 108, 78, 110, 82, 114, 83, 115, 90, 122, 206, 145, 206, 149, 206, 151, 206, 153, 206, 159, 206, 165, 206, 169, 206, 177, 206, 181, 206, 183, 206, 185, 206, 191, 207, 133, 207, 137]⟩
def nB1c : List Int := [65, 69, 73, 79, 85, 89, 97, 101, 105, 111, 117, 121, 67, 99, 76, 108, 78, 110, 82, 114, 83, 115, 90, 122, 913, 917, 919, 921, 927, 933, 937, 945, 949, 951, 953, 959, 965, 969]
def nL2 : ByteArray := ⟨#[195, 130, 195, 138, 195, 142, 195, 148, 195, 155, 195, 162, 195, 170, 195, 174, 195, 180, 195, 187, 196, 136, 196, 137, 196, 156, 196, 157, 196, 164, 196, 165, 196, 180, 196, 181, 197, 156, 197, 157, 197, 180, 197, 181, 197, 182, 197, 183]⟩
def nL2c : List Int := [194, 202, 206, 212, 219, 226, 234, 238, 244, 251, 264, 265, 284, 285, 292, 293, 308, 309, 348, 349, 372, 373, 374, 375]
def nB2 : ByteArray := ⟨#[65, 69, 73, 79, 85, 97, 101, 105, 111, 117, 67, 99, 71, 103, 72, 104, 74, 106, 83, 115, 87, 119, 89, 121]⟩
def nB2c : List Int := [65, 69, 73, 79, 85, 97, 101, 105, 111, 117, 67, 99, 71, 103, 72, 104, 74, 106, 83, 115, 87, 119, 89, 121]
def nL3 : ByteArray := ⟨#[195, 131, 195, 145, 195, 149, 195, 163, 195, 177, 195, 181, 196, 168, 196, 169, 197, 168, 197, 169]⟩
def nL3c : List Int := [195, 209, 213, 227, 241, 245, 296, 297, 360, 361]
def nB3 : ByteArray := ⟨#[65, 78, 79, 97, 110, 111, 73, 105, 85, 117]⟩
def nB3c : List Int := [65, 78, 79, 97, 110, 111, 73, 105, 85, 117]
def nL4 : ByteArray := ⟨#[196, 128, 196, 129, 196, 146, 196, 147, 196, 170, 196, 171, 197, 140, 197, 141, 197, 170, 197, 171]⟩
def nL4c : List Int := [256, 257, 274, 275, 298, 299, 332, 333, 362, 363]
def nB4 : ByteArray := ⟨#[65, 97, 69, 101, 73, 105, 79, 111, 85, 117]⟩
def nB4c : List Int := [65, 97, 69, 101, 73, 105, 79, 111, 85, 117]
def nL5 : ByteArray := ⟨#[196, 130, 196, 131, 196, 148, 196, 149, 196, 158, 196, 159, 196, 172, 196, 173, 197, 142, 197, 143, 197, 172, 197, 173, 208, 153, 208, 185, 208, 142, 209, 158]⟩
def nL5c : List Int := [258, 259, 276, 277, 286, 287, 300, 301, 334, 335, 364, 365, 1049, 1081, 1038, 1118]
def nB5 : ByteArray := ⟨#[65, 97, 69, 101, 71, 103, 73, 105, 79, 111, 85, 117, 208, 152, 208, 184, 208, 163, 209, 131]⟩
def nB5c : List Int := [65, 97, 69, 101, 71, 103, 73, 105, 79, 111, 85, 117, 1048, 1080, 1059, 1091]
def nL6 : ByteArray := ⟨#[196, 138, 196, 139, 196, 150, 196, 151, 196, 160, 196, 161, 196, 176, 197, 187, 197, 188]⟩
def nL6c : List Int := [266, 267, 278, 279, 288, 289, 304, 379, 380]
def nB6 : ByteArray := ⟨#[67, 99, 69, 101, 71, 103, 73, 90, 122]⟩
def nB6c : List Int := [67, 99, 69, 101, 71, 103, 73, 90, 122]
def nL7 : ByteArray := ⟨#[195, 132, 195, 139, 195, 143, 195, 150, 195, 156, 195, 164, 195, 171, 195, 175, 195, 182, 195, 188, 195, 191, 197, 184, 206, 170, 206, 171, 207, 138, 207, 139, 208, 129, 209, 145, 208, 135, 209, 151]⟩
def nL7c : List Int := [196, 203, 207, 214, 220, 228, 235, 239, 246, 252, 255, 376, 938, 939, 970, 971, 1025, 1105, 1031, 1111]
def nB7 : ByteArray := ⟨#[65, 69, 73, 79, 85, 97, 101, 105, 111, 117, 121, 89, 206, 153, 206, 165, 206, 185, 207, 133, 208, 149, 208, 181, 208, 134, 209, 150]⟩
def nB7c : List Int := [65, 69, 73, 79, 85, 97, 101, 105, 111, 117, 121, 89, 921, 933, 953, 965, 1045, 1077, 1030, 1110]
def nL8 : ByteArray := ⟨#[195, 133, 195, 165, 197, 174, 197, 175]⟩
def nL8c : List Int := [197, 229, 366, 367]
def nB8 : ByteArray := ⟨#[65, 97, 85, 117]⟩
def nB8c : List Int := [65, 97, 85, 117]
def nL9 : ByteArray := ⟨#[197, 144, 197, 145, 197, 176, 197, 177]⟩
def nL9c : List Int := [336, 337, 368, 369]
def nB9 : ByteArray := ⟨#[79, 111, 85, 117]⟩
def nB9c : List Int := [79, 111, 85, 117]
def nL10 : ByteArray := ⟨#[196, 140, 196, 141, 196, 142, 196, 143, 196, 154, 196, 155, 197, 135, 197, 136, 197, 152, 197, 153, 197, 160, 197, 161, 197, 164, 197, 165, 197, 189, 197, 190, 196, 189, 196, 190]⟩
def nL10c : List Int := [268, 269, 270, 271, 282, 283, 327, 328, 344, 345, 352, 353, 356, 357, 381, 382, 317, 318]
def nB10 : ByteArray := ⟨#[67, 99, 68, 100, 69, 101, 78, 110, 82, 114, 83, 115, 84, 116, 90, 122, 76, 108]⟩
def nB10c : List Int := [67, 99, 68, 100, 69, 101, 78, 110, 82, 114, 83, 115, 84, 116, 90, 122, 76, 108]
def nL11 : ByteArray := ⟨#[195, 135, 195, 167, 196, 162, 196, 163, 196, 182, 196, 183, 196, 187, 196, 188, 197, 133, 197, 134, 197, 150, 197, 151, 197, 158, 197, 159, 197, 162, 197, 163]⟩
def nL11c : List Int := [199, 231, 290, 291, 310, 311, 315, 316, 325, 326, 342, 343, 350, 351, 354, 355]
def nB11 : ByteArray := ⟨#[67, 99, 71, 103, 75, 107, 76, 108, 78, 110, 82, 114, 83, 115, 84, 116]⟩
def nB11c : List Int := [67, 99, 71, 103, 75, 107, 76, 108, 78, 110, 82, 114, 83, 115, 84, 116]
def nL12 : ByteArray := ⟨#[196, 132, 196, 133, 196, 152, 196, 153, 196, 174, 196, 175, 197, 178, 197, 179]⟩
def nL12c : List Int := [260, 261, 280, 281, 302, 303, 370, 371]
def nB12 : ByteArray := ⟨#[65, 97, 69, 101, 73, 105, 85, 117]⟩
def nB12c : List Int := [65, 97, 69, 101, 73, 105, 85, 117]
def rowsC : Array Value := #[.int .i64 768, .string nL0, .string nB0, .int .i64 769, .string nL1, .string nB1, .int .i64 770, .string nL2, .string nB2, .int .i64 771, .string nL3, .string nB3, .int .i64 772, .string nL4, .string nB4, .int .i64 774, .string nL5, .string nB5, .int .i64 775, .string nL6, .string nB6, .int .i64 776, .string nL7, .string nB7, .int .i64 778, .string nL8, .string nB8, .int .i64 779, .string nL9, .string nB9, .int .i64 780, .string nL10, .string nB10, .int .i64 807, .string nL11, .string nB11, .int .i64 808, .string nL12, .string nB12]
structure NRow where
  mark : Int
  lb : ByteArray
  bb : ByteArray
  l : List Int
  b : List Int
def nrows : List NRow := [⟨768, nL0, nB0, nL0c, nB0c⟩, ⟨769, nL1, nB1, nL1c, nB1c⟩, ⟨770, nL2, nB2, nL2c, nB2c⟩, ⟨771, nL3, nB3, nL3c, nB3c⟩, ⟨772, nL4, nB4, nL4c, nB4c⟩, ⟨774, nL5, nB5, nL5c, nB5c⟩, ⟨775, nL6, nB6, nL6c, nB6c⟩, ⟨776, nL7, nB7, nL7c, nB7c⟩, ⟨778, nL8, nB8, nL8c, nB8c⟩, ⟨779, nL9, nB9, nL9c, nB9c⟩, ⟨780, nL10, nB10, nL10c, nB10c⟩, ⟨807, nL11, nB11, nL11c, nB11c⟩, ⟨808, nL12, nB12, nL12c, nB12c⟩]
set_option maxHeartbeats 4000000 in
set_option maxRecDepth 100000 in
theorem rows_calls (w : World) : Calls Tryd.prog 91 #[] w fun e w' => e = .returned (.agg rowsC) ∧ Below w.heap.size w w' := by
  unfold rowsC nL0 nB0 nL1 nB1 nL2 nB2 nL3 nB3 nL4 nB4 nL5 nB5 nL6 nB6 nL7 nB7 nL8 nB8 nL9 nB9 nL10 nB10 nL11 nB11 nL12 nB12
  go_enter Tryd.func91, Tryd.ntmps91
  generalize (⟨#[195, 128, 195, 136, 195, 140, 195, 146, 195, 153, 195, 160, 195, 168, 195, 172, 195, 178, 195, 185]⟩ : ByteArray) = sl0
  generalize (⟨#[65, 69, 73, 79, 85, 97, 101, 105, 111, 117]⟩ : ByteArray) = sb0
  generalize (⟨([195, 129, 195, 137, 195, 141, 195, 147, 195, 154, 195, 157, 195, 161, 195, 169, 195, 173, 195, 179, 195, 186, 195, 189, 196, 134, 196, 135, 196, 185, 196, 186, 197, 131, 197, 132, 197, 148].append [197, 149, 197, 154, 197, 155, 197, 185, 197, 186, 206, 134, 206, 136, 206, 137, 206, 138, 206, 140, 206, 142, 206, 143, 206, 172, 206, 173, 206, 174, 206, 175, 207, 140, 207, 141, 207, 142]).toArray⟩ : ByteArray) = sl1
  generalize (⟨#[65, 69, 73, 79, 85, 89, 97, 101, 105, 111, 117, 121, 67, 99, 76, 108, 78, 110, 82, 114, 83, 115, 90, 122, 206, 145, 206, 149, 206, 151, 206, 153, 206, 159, 206, 165, 206, 169, 206, 177, 206, 181, 206, 183, 206, 185, 206, 191, 207, 133, 207, 137]⟩ : ByteArray) = sb1
  generalize (⟨#[195, 130, 195, 138, 195, 142, 195, 148, 195, 155, 195, 162, 195, 170, 195, 174, 195, 180, 195, 187, 196, 136, 196, 137, 196, 156, 196, 157, 196, 164, 196, 165, 196, 180, 196, 181, 197, 156, 197, 157, 197, 180, 197, 181, 197, 182, 197, 183]⟩ : ByteArray) = sl2
  generalize (⟨#[65, 69, 73, 79, 85, 97, 101, 105, 111, 117, 67, 99, 71, 103, 72, 104, 74, 106, 83, 115, 87, 119, 89, 121]⟩ : ByteArray) = sb2
  generalize (⟨#[195, 131, 195, 145, 195, 149, 195, 163, 195, 177, 195, 181, 196, 168, 196, 169, 197, 168, 197, 169]⟩ : ByteArray) = sl3
  generalize (⟨#[65, 78, 79, 97, 110, 111, 73, 105, 85, 117]⟩ : ByteArray) = sb3
  generalize (⟨#[196, 128, 196, 129, 196, 146, 196, 147, 196, 170, 196, 171, 197, 140, 197, 141, 197, 170, 197, 171]⟩ : ByteArray) = sl4
  generalize (⟨#[65, 97, 69, 101, 73, 105, 79, 111, 85, 117]⟩ : ByteArray) = sb4
  generalize (⟨#[196, 130, 196, 131, 196, 148, 196, 149, 196, 158, 196, 159, 196, 172, 196, 173, 197, 142, 197, 143, 197, 172, 197, 173, 208, 153, 208, 185, 208, 142, 209, 158]⟩ : ByteArray) = sl5
  generalize (⟨#[65, 97, 69, 101, 71, 103, 73, 105, 79, 111, 85, 117, 208, 152, 208, 184, 208, 163, 209, 131]⟩ : ByteArray) = sb5
  generalize (⟨#[196, 138, 196, 139, 196, 150, 196, 151, 196, 160, 196, 161, 196, 176, 197, 187, 197, 188]⟩ : ByteArray) = sl6
  generalize (⟨#[67, 99, 69, 101, 71, 103, 73, 90, 122]⟩ : ByteArray) = sb6
  generalize (⟨#[195, 132, 195, 139, 195, 143, 195, 150, 195, 156, 195, 164, 195, 171, 195, 175, 195, 182, 195, 188, 195, 191, 197, 184, 206, 170, 206, 171, 207, 138, 207, 139, 208, 129, 209, 145, 208, 135, 209, 151]⟩ : ByteArray) = sl7
  generalize (⟨#[65, 69, 73, 79, 85, 97, 101, 105, 111, 117, 121, 89, 206, 153, 206, 165, 206, 185, 207, 133, 208, 149, 208, 181, 208, 134, 209, 150]⟩ : ByteArray) = sb7
  generalize (⟨#[195, 133, 195, 165, 197, 174, 197, 175]⟩ : ByteArray) = sl8
  generalize (⟨#[65, 97, 85, 117]⟩ : ByteArray) = sb8
  generalize (⟨#[197, 144, 197, 145, 197, 176, 197, 177]⟩ : ByteArray) = sl9
  generalize (⟨#[79, 111, 85, 117]⟩ : ByteArray) = sb9
  generalize (⟨#[196, 140, 196, 141, 196, 142, 196, 143, 196, 154, 196, 155, 197, 135, 197, 136, 197, 152, 197, 153, 197, 160, 197, 161, 197, 164, 197, 165, 197, 189, 197, 190, 196, 189, 196, 190]⟩ : ByteArray) = sl10
  generalize (⟨#[67, 99, 68, 100, 69, 101, 78, 110, 82, 114, 83, 115, 84, 116, 90, 122, 76, 108]⟩ : ByteArray) = sb10
  generalize (⟨#[195, 135, 195, 167, 196, 162, 196, 163, 196, 182, 196, 183, 196, 187, 196, 188, 197, 133, 197, 134, 197, 150, 197, 151, 197, 158, 197, 159, 197, 162, 197, 163]⟩ : ByteArray) = sl11
  generalize (⟨#[67, 99, 71, 103, 75, 107, 76, 108, 78, 110, 82, 114, 83, 115, 84, 116]⟩ : ByteArray) = sb11
  generalize (⟨#[196, 132, 196, 133, 196, 152, 196, 153, 196, 174, 196, 175, 197, 178, 197, 179]⟩ : ByteArray) = sl12
  generalize (⟨#[65, 97, 69, 101, 73, 105, 85, 117]⟩ : ByteArray) = sb12
  go_wp2_with (first | ((with_reducible refine gate_dst (N := 14) rfl ?_); refine event_run rfl (v := .agg #[.int .i64 768, .string sl0, .string sb0, .int .i64 769, .string sl1, .string sb1, .int .i64 770, .string sl2, .string sb2, .int .i64 771, .string sl3, .string sb3, .int .i64 772, .string sl4, .string sb4, .int .i64 774, .string sl5, .string sb5, .int .i64 775, .string sl6, .string sb6, .int .i64 776, .string sl7, .string sb7, .int .i64 778, .string sl8, .string sb8, .int .i64 779, .string sl9, .string sb9, .int .i64 780, .string sl10, .string sb10, .int .i64 807, .string sl11, .string sb11, .int .i64 808, .string sl12, .string sb12]) ?hr ?_; (case hr => kernel_rfl)) | ((with_reducible refine gate_store (t := 89) (p := 0) rfl ?_); refine store_new rfl rfl rfl _ #[.int .i64 768, .string sl0, .string sb0, .int .i64 769, .string sl1, .string sb1, .int .i64 770, .string sl2, .string sb2, .int .i64 771, .string sl3, .string sb3, .int .i64 772, .string sl4, .string sb4, .int .i64 774, .string sl5, .string sb5, .int .i64 775, .string sl6, .string sb6, .int .i64 776, .string sl7, .string sb7, .int .i64 778, .string sl8, .string sb8, .int .i64 779, .string sl9, .string sb9, .int .i64 780, .string sl10, .string sb10, .int .i64 807, .string sl11, .string sb11, .int .i64 808, .string sl12, .string sb12] rfl rfl (by kernel_rfl) rfl (by simp [Value.oneCell']) ?_))
  (try simp only [Exit.inBlock, Exit.then]); refine bodyPost_ret (results_cell_new rfl _ _ _ _ rfl Tryd.underlying89 (by kernel_rfl)) rfl ?_
  exact ⟨rfl, below_alloc (Below.refl _ _) _⟩
end Go.Proofs.YthcpdhniakpbaaaDoor.X
end

section
namespace Go.Proofs.YthcpdhniakpbaaaDoor.X
open Go.RowKit Go.Lib Go.Proofs.YthcpdhniakpbaaaDoorW.PrintWords Go.Proofs.YthcpdhniakpbaaaDoorW.PrintLast Go.Proofs.YthcpdhniakpbaaaDoorW.PrintMore
set_option linter.unusedVariables false
set_option linter.unusedSimpArgs false
def strB (B : ByteArray) (xs : List Int) : Bool :=
  (B.data.toList == encL xs) && xs.all (fun x => decide (0 ≤ x ∧ x < 2048)) && decide (B.size ≤ 1000) && (List.range 64).all (fun n => calm B.data.toList (UInt8.ofNat (128 + n))) && (List.range (xs.length + 1)).all (fun k => runeCount (B.extract 0 (encL (xs.take k)).length) == k)
theorem rows_strB : nrows.all (fun r => strB r.lb r.l && strB r.bb r.b && (r.l.length == r.b.length)) = true := by decide +kernel
theorem row_str {r : NRow} (h : r ∈ nrows) : strB r.lb r.l = true ∧ strB r.bb r.b = true ∧ r.l.length = r.b.length := by
  have := List.all_eq_true.1 rows_strB r h
  simpa [and_assoc] using this
def plc (xs : List Int) (c : Int) : Int := if c ∈ xs then ((xs.takeWhile (fun y => y != c)).length : Int) else -1
theorem place_eq {B : ByteArray} {xs : List Int} (h : strB B xs = true) {c : Int} (h0 : 0 ≤ c) (h1 : c ≤ 65535) (hne : c ≠ 65533) : normal_place.f B c = some (plc xs c) := by
  unfold strB at h
  simp only [Bool.and_eq_true, beq_iff_eq, List.all_eq_true, decide_eq_true_eq] at h
  obtain ⟨⟨⟨⟨he, hs⟩, hz⟩, hc⟩, hr⟩ := h
  have hw : wrap32 c = c := by unfold wrap32; omega
  unfold normal_place.f
  rw [hw, indexRune_eq he hs (by omega) (fun d hd => calm_all (List.all_eq_true.2 hc) d hd) h0 h1 hne]
  simp only [Option.bind_some]
  unfold placeB plc
  by_cases hm : c ∈ xs
  · rw [if_pos hm, if_pos hm]
    have hp : xs.takeWhile (fun y => y != c) = xs.take (xs.takeWhile (fun y => y != c)).length := List.prefix_iff_eq_take.1 (List.takeWhile_prefix _)
    have hl : (xs.takeWhile (fun y => y != c)).length ≤ xs.length := by rw [hp]; simp; omega
    have hk := hr _ (List.mem_range.2 (Nat.lt_succ_of_le hl))
    rw [← hp] at hk
    have hb : (encL (xs.takeWhile (fun y => y != c))).length ≤ B.size := by
      rw [show B.size = B.data.toList.length from Array.length_toList.symm, he]
      conv => rhs; rw [← List.takeWhile_append_dropWhile (p := fun y => y != c) (l := xs), encL_append, List.length_append]
      omega
    rw [if_neg (by omega), if_pos (by omega), if_pos (by omega)]
    unfold utf8_RuneCountInString.f
    have hx : (B.extract 0 (encL (xs.takeWhile (fun y => y != c))).length).size < 9223372036854775807 := by simp; omega
    simp only [Int.toNat_natCast]
    rw [if_pos hx, hk]
    rfl
  · rw [if_neg hm, if_neg hm]
    rfl
theorem plc_ge {xs : List Int} {c : Int} : 0 ≤ plc xs c ↔ c ∈ xs := by
  unfold plc
  by_cases h : c ∈ xs
  · rw [if_pos h]; simp [h]
  · rw [if_neg h]; simp [h]
theorem plc_go {c : Int} : ∀ {xs : List Int}, c ∈ xs → (xs.takeWhile (fun y => y != c)).length < xs.length
  | x :: xs, h => by
    by_cases e : x = c
    · subst e; simp
    · have := plc_go (xs := xs) (by rcases List.mem_cons.1 h with h | h; exact absurd h.symm e; exact h)
      rw [List.takeWhile_cons, if_pos (by simpa using e)]
      simpa using this
theorem plc_lt {xs : List Int} {c : Int} (h : c ∈ xs) : plc xs c < xs.length := by
  unfold plc
  rw [if_pos h]
  have := plc_go h
  omega
def runeCellsL (xs : List Int) : Array Value := (xs.map fun x => Value.int .i32 x).toArray
def strR (B : ByteArray) (xs : List Int) : Prop := Conv.runesFrom B B.size 0 #[] = runeCellsL xs
set_option maxRecDepth 100000 in
theorem row_runes {r : NRow} (h : r ∈ nrows) : strR r.lb r.l ∧ strR r.bb r.b := by
  unfold nrows at h
  simp only [List.mem_cons, List.not_mem_nil, or_false] at h
  rcases h with rfl | rfl | rfl | rfl | rfl | rfl | rfl | rfl | rfl | rfl | rfl | rfl | rfl
  all_goals exact ⟨by unfold strR; kernel_rfl, by unfold strR; kernel_rfl⟩
theorem runes_run {B : ByteArray} {xs : List Int} (h : strR B xs) (hl : xs.length ≤ 1000) (W : World) : ∃ cap w1, (convert 9 92 (.string B)).run Tryd.prog W = .ok (.slice (some ⟨W.heap.size, 0, none⟩) xs.length cap) w1 ∧ Below W.heap.size W w1 ∧ w1.heap.size = W.heap.size + 1 ∧
    ∀ j (hj : j < xs.length), w1.cell? ⟨W.heap.size, j, none⟩ = some (.int .i32 xs[j]) := by
  have hsz : (Conv.runesFrom B B.size 0 #[]).size = xs.length := by rw [h]; simp [runeCellsL]
  have hrun := run_runes_of_string (P := Tryd.prog) W 9 92 21 B Tryd.underlying9 Tryd.underlying92 Tryd.underlying21 (by omega)
  rw [hsz, h] at hrun
  refine ⟨_, _, hrun, below_alloc (below_drew (Below.refl _ _)) _, by simp, fun j hj => ?_⟩
  show (W.drew.alloc _).cell? ⟨W.drew.heap.size, j, none⟩ = _
  rw [World.cell?_alloc_mark W.drew]
  rw [Array.getElem?_append_left (by simp [runeCellsL]; exact hj)]
  simp [runeCellsL, hj]
end Go.Proofs.YthcpdhniakpbaaaDoor.X
end
