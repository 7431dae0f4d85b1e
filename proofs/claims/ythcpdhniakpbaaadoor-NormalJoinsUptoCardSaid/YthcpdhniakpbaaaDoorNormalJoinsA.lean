/- The law NormalJoins returns true for every input of the sizes that the row's condition lets in, the package variables that it reads holding what the row lists. Part 1 of the texts that its proof stands on; put together by a program. -/
import GoSem.Core.Utf8
import Derived.Lib.IndexLaws
import Derived.Lib.IndexBytes
import Derived.Lib.DecodeN
section
namespace Go.Proofs.YthcpdhniakpbaaaDoor.X
set_option linter.unusedVariables false
set_option linter.unusedSimpArgs false
open Go.Lib
def encC (c : Int) : List UInt8 :=
  if c < 128 then [c.toNat.toUInt8]
  else if c < 2048 then [(192 + c / 64).toNat.toUInt8, (128 + c % 64).toNat.toUInt8]
  else [(224 + c / 4096).toNat.toUInt8, (128 + c / 64 % 64).toNat.toUInt8, (128 + c % 64).toNat.toUInt8]
def encL (l : List Int) : List UInt8 := l.flatMap encC
theorem encL_nil : encL [] = [] := rfl
theorem encL_cons (c : Int) (l : List Int) : encL (c :: l) = encC c ++ encL l := rfl
theorem encL_append (a b : List Int) : encL (a ++ b) = encL a ++ encL b := by simp [encL]
theorem u8_nat {n : Int} (h0 : 0 ≤ n) (h1 : n < 256) : ((n.toNat.toUInt8).toNat : Int) = n := by
  have : n.toNat < 256 := by omega
  rw [show n.toNat.toUInt8 = UInt8.ofNat n.toNat from rfl, UInt8.toNat_ofNat', Nat.mod_eq_of_lt this]
  omega
def Ok (c : Int) : Prop := 0 ≤ c ∧ c < 65536
theorem encC_one {c : Int} (h : c < 128) : encC c = [c.toNat.toUInt8] := by simp [encC, h]
theorem encC_two {c : Int} (h : 128 ≤ c) (h2 : c < 2048) : encC c = [(192 + c / 64).toNat.toUInt8, (128 + c % 64).toNat.toUInt8] := by
  rw [encC, if_neg (by omega), if_pos h2]
theorem encC_three {c : Int} (h : 2048 ≤ c) : encC c = [(224 + c / 4096).toNat.toUInt8, (128 + c / 64 % 64).toNat.toUInt8, (128 + c % 64).toNat.toUInt8] := by
  rw [encC, if_neg (by omega), if_neg (by omega)]
theorem encC_length (c : Int) : 1 ≤ (encC c).length ∧ (encC c).length ≤ 3 := by
  unfold encC
  split
  · simp
  · split <;> simp
theorem encC_ne (c : Int) : encC c ≠ [] := fun e => by have := (encC_length c).1; rw [e] at this; simp at this
def byN (l : List UInt8) (i : Nat) : Int := ((l.getD i 0).toNat : Int)
theorem byN_range (l : List UInt8) (i : Nat) : 0 ≤ byN l i ∧ byN l i < 256 := by
  unfold byN
  have := (l.getD i 0).toNat_lt
  omega
theorem byN_zero (a : UInt8) (l : List UInt8) : byN (a :: l) 0 = (a.toNat : Int) := rfl
def charS (l : List UInt8) : Option (Int × Nat) :=
  if l.length = 0 then none
  else if byN l 0 < 128 then some (byN l 0, 1)
  else if 194 ≤ byN l 0 ∧ byN l 0 < 224 ∧ 1 < l.length ∧ byN l 1 / 64 = 2 then some ((byN l 0 - 192) * 64 + (byN l 1 - 128), 2)
  else if 224 ≤ byN l 0 ∧ byN l 0 < 240 ∧ 2 < l.length ∧ byN l 1 / 64 = 2 ∧ byN l 2 / 64 = 2 ∧ 2048 ≤ (byN l 0 - 224) * 4096 + (byN l 1 - 128) * 64 + (byN l 2 - 128) then
    some ((byN l 0 - 224) * 4096 + (byN l 1 - 128) * 64 + (byN l 2 - 128), 3)
  else none
theorem charS_enc (c : Int) (h : Ok c) (l : List UInt8) : charS (encC c ++ l) = some (c, (encC c).length) := by
  obtain ⟨h0, h1⟩ := h
  by_cases c1 : c < 128
  · rw [encC_one c1]
    have e : byN ([c.toNat.toUInt8] ++ l) 0 = c := u8_nat h0 (by omega : c < 256)
    unfold charS
    rw [if_neg (by simp), e, if_pos c1]
    rfl
  · by_cases c2 : c < 2048
    · rw [encC_two (by omega) c2]
      have e : byN ([(192 + c / 64).toNat.toUInt8, (128 + c % 64).toNat.toUInt8] ++ l) 0 = 192 + c / 64 := u8_nat (by omega) (by omega)
      have f : byN ([(192 + c / 64).toNat.toUInt8, (128 + c % 64).toNat.toUInt8] ++ l) 1 = 128 + c % 64 := u8_nat (by omega) (by omega)
      unfold charS
      rw [if_neg (by simp), e, f, if_neg (by omega), if_pos (by simp; omega)]
      simp
      omega
    · rw [encC_three (by omega)]
      have e : byN ([(224 + c / 4096).toNat.toUInt8, (128 + c / 64 % 64).toNat.toUInt8, (128 + c % 64).toNat.toUInt8] ++ l) 0 = 224 + c / 4096 := u8_nat (by omega) (by omega)
      have f : byN ([(224 + c / 4096).toNat.toUInt8, (128 + c / 64 % 64).toNat.toUInt8, (128 + c % 64).toNat.toUInt8] ++ l) 1 = 128 + c / 64 % 64 := u8_nat (by omega) (by omega)
      have g : byN ([(224 + c / 4096).toNat.toUInt8, (128 + c / 64 % 64).toNat.toUInt8, (128 + c % 64).toNat.toUInt8] ++ l) 2 = 128 + c % 64 := u8_nat (by omega) (by omega)
      unfold charS
      rw [if_neg (by simp), e, f, g, if_neg (by omega), if_neg (by omega), if_pos ⟨by omega, by omega, by simp, by omega, by omega, by omega⟩]
      simp
      omega
theorem u8_of {a : UInt8} {n : Int} (h : n = (a.toNat : Int)) : n.toNat.toUInt8 = a := by
  subst h
  simp
theorem charS_back {l : List UInt8} {c : Int} {n : Nat} (h : charS l = some (c, n)) : Ok c ∧ n = (encC c).length ∧ l = encC c ++ l.drop n := by
  unfold charS at h
  split at h
  · exact absurd h (by simp)
  · rename_i hl
    cases l with
    | nil => exact absurd rfl hl
    | cons a t =>
      have ra := byN_range (a :: t) 0
      split at h
      · rename_i ha
        obtain ⟨rfl, rfl⟩ := Prod.mk.inj (Option.some.inj h)
        have hc : encC (byN (a :: t) 0) = [a] := by rw [encC_one ha, u8_of (byN_zero a t)]
        exact ⟨⟨by omega, by omega⟩, by rw [hc]; rfl, by rw [hc]; rfl⟩
      · split at h
        · rename_i h1 h2
          cases t with
          | nil => exact absurd h2.2.2.1 (by simp)
          | cons b t =>
            have rb := byN_range (a :: b :: t) 1
            have q0 : byN (a :: b :: t) 0 = (a.toNat : Int) := rfl
            have q1 : byN (a :: b :: t) 1 = (b.toNat : Int) := rfl
            obtain ⟨rfl, rfl⟩ := Prod.mk.inj (Option.some.inj h)
            have hc : encC ((byN (a :: b :: t) 0 - 192) * 64 + (byN (a :: b :: t) 1 - 128)) = [a, b] := by
              rw [encC_two (by omega) (by omega), u8_of (a := a) (by omega), u8_of (a := b) (by omega)]
            exact ⟨⟨by omega, by omega⟩, by rw [hc]; rfl, by rw [hc]; rfl⟩
        · split at h
          · rename_i h1 h2 h3
            match t with
            | [] => exact absurd h3.2.2.1 (by simp)
            | [_] => exact absurd h3.2.2.1 (by simp)
            | b :: d :: t =>
              have rb := byN_range (a :: b :: d :: t) 1
              have rd := byN_range (a :: b :: d :: t) 2
              have q0 : byN (a :: b :: d :: t) 0 = (a.toNat : Int) := rfl
              have q1 : byN (a :: b :: d :: t) 1 = (b.toNat : Int) := rfl
              have q2 : byN (a :: b :: d :: t) 2 = (d.toNat : Int) := rfl
              obtain ⟨rfl, rfl⟩ := Prod.mk.inj (Option.some.inj h)
              have hc : encC ((byN (a :: b :: d :: t) 0 - 224) * 4096 + (byN (a :: b :: d :: t) 1 - 128) * 64 + (byN (a :: b :: d :: t) 2 - 128)) = [a, b, d] := by
                rw [encC_three (by omega), u8_of (a := a) (by omega), u8_of (a := b) (by omega), u8_of (a := d) (by omega)]
              exact ⟨⟨by omega, by omega⟩, by rw [hc]; rfl, by rw [hc]; rfl⟩
          · exact absurd h (by simp)
theorem charS_pos {l : List UInt8} {c : Int} {n : Nat} (h : charS l = some (c, n)) : 1 ≤ n ∧ n ≤ l.length := by
  obtain ⟨_, h2, h3⟩ := charS_back h
  have := (encC_length c).1
  refine ⟨by omega, ?_⟩
  rcases Nat.lt_or_ge l.length n with h' | h'
  · rw [List.drop_of_length_le (by omega), List.append_nil] at h3
    rw [h3] at h'
    omega
  · exact h'
def decGo (p : Int → Bool) : Nat → List UInt8 → Option (List Int)
  | 0, _ => none
  | f + 1, l => if l = [] then some [] else
    match charS l with
    | none => none
    | some (c, n) => if p c then (decGo p f (l.drop n)).map (c :: ·) else none
def decS (p : Int → Bool) (l : List UInt8) : Option (List Int) := decGo p (l.length + 1) l
theorem decGo_enc (p : Int → Bool) : ∀ (cs : List Int) (f : Nat), (∀ c ∈ cs, Ok c ∧ p c = true) → (encL cs).length < f → decGo p f (encL cs) = some cs
  | [], f + 1, _, _ => by simp [decGo, encL]
  | c :: cs, f + 1, h, hf => by
    have hc := h c (by simp)
    have hl := (encC_length c).1
    rw [encL_cons] at hf ⊢
    rw [List.length_append] at hf
    unfold decGo
    rw [if_neg (by intro e; exact encC_ne c (List.append_eq_nil_iff.1 e).1), charS_enc c hc.1]
    simp only [hc.2, if_true]
    rw [List.drop_left, decGo_enc p cs f (fun d hd => h d (by simp [hd])) (by omega)]
    rfl
theorem decS_enc (p : Int → Bool) (cs : List Int) (h : ∀ c ∈ cs, Ok c ∧ p c = true) : decS p (encL cs) = some cs := decGo_enc p cs _ h (by omega)
theorem decGo_back (p : Int → Bool) : ∀ (f : Nat) (l : List UInt8) (cs : List Int), decGo p f l = some cs → l = encL cs ∧ ∀ c ∈ cs, Ok c ∧ p c = true
  | 0, l, cs, h => by simp [decGo] at h
  | f + 1, l, cs, h => by
    unfold decGo at h
    split at h
    · rename_i e
      obtain rfl := Option.some.inj h
      exact ⟨e, by simp⟩
    · split at h
      · exact absurd h (by simp)
      · rename_i c n hc
        split at h
        · rename_i hp
          obtain ⟨ds, hd, rfl⟩ := Option.map_eq_some_iff.1 h
          obtain ⟨h1, h2, h3⟩ := charS_back hc
          obtain ⟨i1, i2⟩ := decGo_back p f _ ds hd
          refine ⟨by rw [encL_cons, ← i1]; exact h3, fun d hd => ?_⟩
          rcases List.mem_cons.1 hd with rfl | hd
          · exact ⟨h1, hp⟩
          · exact i2 d hd
        · exact absurd h (by simp)
theorem decS_back {p : Int → Bool} {l : List UInt8} {cs : List Int} (h : decS p l = some cs) : l = encL cs ∧ ∀ c ∈ cs, Ok c ∧ p c = true := decGo_back p _ l cs h
theorem encC_prefix {c d : Int} (hc : Ok c) (hd : Ok d) {a b : List UInt8} (h : encC c ++ a = encC d ++ b) : c = d ∧ a = b := by
  have h1 := charS_enc c hc a
  rw [h, charS_enc d hd b] at h1
  obtain ⟨rfl, -⟩ := Prod.mk.inj (Option.some.inj h1)
  exact ⟨rfl, List.append_cancel_left h⟩
end Go.Proofs.YthcpdhniakpbaaaDoor.X
end

section
namespace Go.Proofs.YthcpdhniakpbaaaDoor.X
open Go.Lib
def NoEnd (S R : List UInt8) (i : Nat) : Prop := ∀ j, j + R.length ≤ i → occAt S R j = false
theorem occAt_get {S R : List UInt8} {j : Nat} (h : occAt S R j = true) (t : Nat) (ht : t < R.length) : S[j + t]? = R[t]? := by
  unfold occAt at h
  rw [List.isPrefixOf_iff_prefix] at h
  obtain ⟨q, hq⟩ := h
  have : (S.drop j)[t]? = R[t]? := by rw [← hq, List.getElem?_append_left ht]
  rwa [List.getElem?_drop] at this
theorem occAt_mk {S R : List UInt8} {j : Nat} (h : ∀ t, t < R.length → S[j + t]? = R[t]?) (hl : j + R.length ≤ S.length) : occAt S R j = true := by
  rw [occAt_iff_take S R j hl]
  have : (S.drop j).take R.length = R := by
    apply List.ext_getElem?
    intro t
    by_cases ht : t < R.length
    · rw [List.getElem?_take, if_pos ht, List.getElem?_drop, h t ht]
    · rw [List.getElem?_take, if_neg ht, List.getElem?_eq_none (by omega)]
  simp [this]
theorem NoEnd.start (S R : List UInt8) (i : Nat) (h : i + 1 = R.length) : NoEnd S R i := fun j hj => by omega
theorem ir_end {S R : List UInt8} {i : Nat} (h : NoEnd S R i) (hi : S.length ≤ i) (hR : R ≠ []) : index S R = -1 := by
  apply index_none
  intro j _
  by_cases c : j + R.length ≤ i
  · exact h j c
  · cases ho : occAt S R j with
    | false => rfl
    | true => rcases occAt_room ho with h' | h'
              · omega
              · exact absurd h' hR
theorem ir_hit {S R : List UInt8} {i : Nat} (h : NoEnd S R i) (hi : i < S.length) (hR : R.length ≤ i + 1) (hR1 : 1 ≤ R.length)
    (hm : ∀ t, t < R.length → S[i - t]? = R[R.length - 1 - t]?) : index S R = ((i + 1 - R.length : Nat) : Int) := by
  refine index_first (by omega) (occAt_mk (fun t ht => ?_) (by omega)) (fun j hj => h j (by omega))
  have := hm (R.length - 1 - t) (by omega)
  rw [show i - (R.length - 1 - t) = i + 1 - R.length + t by omega, show R.length - 1 - (R.length - 1 - t) = t by omega] at this
  exact this
theorem ir_miss {S R : List UInt8} {i t : Nat} (h : NoEnd S R i) (hR : R.length ≤ i + 1) (ht : t < R.length) (hm : S[i - t]? ≠ R[R.length - 1 - t]?) : NoEnd S R (i + 1) := by
  intro j hj
  by_cases c : j + R.length ≤ i
  · exact h j c
  · cases ho : occAt S R j with
    | false => rfl
    | true =>
      exfalso
      apply hm
      have := occAt_get ho (R.length - 1 - t) (by omega)
      rw [show j + (R.length - 1 - t) = i - t by omega] at this
      exact this
theorem ir_skip {S R : List UInt8} {i i2 : Nat} (h : NoEnd S R i) (hR1 : 1 ≤ R.length) (hm : ∀ k, i ≤ k → k < i2 → S[k]? ≠ R[R.length - 1]?) : NoEnd S R i2 := by
  intro j hj
  by_cases c : j + R.length ≤ i
  · exact h j c
  · cases ho : occAt S R j with
    | false => rfl
    | true =>
      exfalso
      have := occAt_get ho (R.length - 1) (by omega)
      exact hm (j + (R.length - 1)) (by omega) (by omega) this
def cntTo (S : List UInt8) (c : UInt8) (i : Nat) : Nat := (S.take i).count c
theorem cntTo_mono (S : List UInt8) (c : UInt8) {i k : Nat} (h : i ≤ k) : cntTo S c i ≤ cntTo S c k := by
  unfold cntTo
  have : S.take i = (S.take k).take i := by rw [List.take_take, Nat.min_eq_left h]
  rw [this]
  exact (List.take_sublist i (S.take k)).count_le c
theorem cntTo_succ (S : List UInt8) (c : UInt8) {i : Nat} (h : S[i]? = some c) : cntTo S c (i + 1) = cntTo S c i + 1 := by
  unfold cntTo
  obtain ⟨hi, e⟩ := List.getElem?_eq_some_iff.1 h
  rw [List.take_succ_eq_append_getElem hi, List.count_append, e]
  simp
def calmGo (c : UInt8) : Nat → Nat → List UInt8 → Bool
  | _, _, [] => true
  | i, n, b :: l => if b == c then decide (n + 1 ≤ (i + 17) / 8) && calmGo c (i + 1) (n + 1) l else calmGo c (i + 1) n l
def calm (S : List UInt8) (c : UInt8) : Bool := calmGo c 0 0 S
theorem calmGo_le (c : UInt8) : ∀ (l : List UInt8) (i n k : Nat), calmGo c i n l = true → n ≤ (i + 16) / 8 → k ≤ l.length → n + (l.take k).count c ≤ (i + k + 16) / 8
  | [], i, n, k, _, hn, hk => by
    have : k = 0 := by simpa using hk
    subst this; simpa using hn
  | b :: l, i, n, 0, _, hn, _ => by simpa using hn
  | b :: l, i, n, k + 1, h, hn, hk => by
    have hk' : k ≤ l.length := by simpa using hk
    unfold calmGo at h
    by_cases e : b == c
    · rw [if_pos e, Bool.and_eq_true] at h
      have := calmGo_le c l (i + 1) (n + 1) k h.2 (by have := of_decide_eq_true h.1; omega) hk'
      rw [List.take_succ_cons, List.count_cons, if_pos e]
      omega
    · rw [if_neg e] at h
      have := calmGo_le c l (i + 1) n k h (by omega) hk'
      rw [List.take_succ_cons, List.count_cons, if_neg e]
      omega
theorem calm_le {S : List UInt8} {c : UInt8} (h : calm S c = true) (k : Nat) (hk : k ≤ S.length) : cntTo S c k ≤ (k + 16) / 8 := by
  have := calmGo_le c S 0 0 k h (by omega) hk
  simpa [cntTo] using this
end Go.Proofs.YthcpdhniakpbaaaDoor.X
end

section
namespace Go.Proofs.YthcpdhniakpbaaaDoor.X
set_option linter.unusedVariables false
set_option linter.unusedSimpArgs false
open Go.Lib
def latinL : List Int := [192, 200, 204, 210, 217, 224, 232, 236, 242, 249, 193, 201, 205, 211, 218, 221, 225, 233, 237, 243, 250, 253, 262, 263, 313, 314, 323, 324, 340, 341, 346, 347, 377, 378, 194, 202, 206, 212, 219, 226, 234, 238, 244, 251, 264, 265, 284, 285, 292, 293, 308, 309, 348, 349, 372, 373, 374, 375, 195, 209, 213, 227, 241, 245, 296, 297, 360, 361, 256, 257, 274, 275, 298, 299, 332, 333, 362, 363, 258, 259, 276, 277, 286, 287, 300, 301, 334, 335, 364, 365, 266, 267, 278, 279, 288, 289, 304, 379, 380, 196, 203, 207, 214, 220, 228, 235, 239, 246, 252, 255, 376, 197, 229, 366, 367, 336, 337, 368, 369, 268, 269, 270, 271, 282, 283, 327, 328, 344, 345, 352, 353, 356, 357, 381, 382, 317, 318, 199, 231, 290, 291, 310, 311, 315, 316, 325, 326, 342, 343, 350, 351, 354, 355, 260, 261, 280, 281, 302, 303, 370, 371, 198, 230, 216, 248, 208, 240, 222, 254, 223, 272, 273, 294, 295, 305, 321, 322, 338, 339, 330, 331, 358, 359]
def greekL : List Int := [902, 904, 905, 906, 908, 910, 911, 940, 941, 942, 943, 972, 973, 974, 938, 939, 970, 971]
def cyrL : List Int := [1025, 1105, 1031, 1111, 1028, 1108, 1168, 1169, 1038, 1118, 1030, 1110]
def latinB : ByteArray := (⟨#[195, 128, 195, 136, 195, 140, 195, 146, 195, 153, 195, 160, 195, 168, 195, 172, 195, 178, 195, 185, 195, 129, 195, 137, 195, 141, 195, 147, 195, 154, 195, 157, 195, 161, 195, 169, 195, 173, 195, 179, 195, 186, 195, 189, 196, 134, 196, 135, 196, 185, 196, 186, 197, 131, 197, 132, 197, 148, 197, 149, 197, 154, 197, 155, 197, 185, 197, 186, 195, 130, 195, 138, 195, 142, 195, 148, 195, 155, 195, 162, 195, 170, 195, 174, 195, 180, 195, 187, 196, 136, 196, 137, 196, 156, 196, 157, 196, 164, 196, 165, 196, 180, 196, 181, 197, 156, 197, 157, 197, 180, 197, 181, 197, 182, 197, 183, 195, 131, 195, 145, 195, 149, 195, 163, 195, 177, 195, 181, 196, 168, 196, 169, 197, 168, 197, 169, 196, 128, 196, 129, 196, 146, 196, 147, 196, 170, 196, 171, 197, 140, 197, 141, 197, 170, 197, 171, 196, 130, 196, 131, 196, 148, 196, 149, 196, 158, 196, 159, 196, 172, 196, 173, 197, 142, 197, 143, 197, 172, 197, 173, 196, 138, 196, 139, 196, 150, 196, 151, 196, 160, 196, 161, 196, 176, 197, 187, 197, 188, 195, 132, 195, 139, 195, 143, 195, 150, 195, 156, 195, 164, 195, 171, 195, 175, 195, 182, 195, 188, 195, 191, 197, 184, 195, 133, 195, 165, 197, 174, 197, 175, 197, 144, 197, 145, 197, 176, 197, 177, 196, 140, 196, 141, 196, 142, 196, 143, 196, 154, 196, 155, 197, 135, 197, 136, 197, 152, 197, 153, 197, 160, 197, 161, 197, 164, 197, 165, 197, 189, 197, 190, 196, 189, 196, 190, 195, 135, 195, 167, 196, 162, 196, 163, 196, 182, 196, 183, 196, 187, 196, 188, 197, 133, 197, 134, 197, 150, 197, 151, 197, 158, 197, 159, 197, 162, 197, 163, 196, 132, 196, 133, 196, 152, 196, 153, 196, 174, 196, 175, 197, 178, 197, 179, 195, 134, 195, 166, 195, 152, 195, 184, 195, 144, 195, 176, 195, 158, 195, 190, 195, 159, 196, 144, 196, 145, 196, 166, 196, 167, 196, 177, 197, 129, 197, 130, 197, 146, 197, 147, 197, 138, 197, 139, 197, 166, 197, 167]⟩ : ByteArray)
def greekB : ByteArray := (⟨#[206, 134, 206, 136, 206, 137, 206, 138, 206, 140, 206, 142, 206, 143, 206, 172, 206, 173, 206, 174, 206, 175, 207, 140, 207, 141, 207, 142, 206, 170, 206, 171, 207, 138, 207, 139]⟩ : ByteArray)
def cyrB : ByteArray := (⟨#[208, 129, 209, 145, 208, 135, 209, 151, 208, 132, 209, 148, 210, 144, 210, 145, 208, 142, 209, 158, 208, 134, 209, 150]⟩ : ByteArray)
def letterS (c : Int) : Int :=
  if (65 ≤ c ∧ c ≤ 90) ∨ (97 ≤ c ∧ c ≤ 122) ∨ c = 383 ∨ (64257 ≤ c ∧ c ≤ 64258) ∨ c ∈ latinL then 1
  else if (c ≠ 930 ∧ 913 ≤ c ∧ c ≤ 937) ∨ (945 ≤ c ∧ c ≤ 969) ∨ c ∈ greekL then 2
  else if (1040 ≤ c ∧ c ≤ 1103) ∨ c ∈ cyrL then 3 else 0
def markS (c : Int) : Bool := decide (c ≠ 773 ∧ c ≠ 777 ∧ (c = 803 ∨ c = 807 ∨ c = 808 ∨ (768 ≤ c ∧ c ≤ 780)))
def narrow (c : Int) : Int := if 65281 ≤ c ∧ c ≤ 65374 then c - 65248 else c
def classN (c : Int) : Int × Int :=
  if c < 32 ∨ 65535 < c then (0, 0)
  else if letterS c ≠ 0 then (letterS c, 1)
  else if c = 32 ∨ c = 160 then (0, 4)
  else if (48 ≤ c ∧ c ≤ 57) ∨ c = 178 ∨ c = 179 ∨ c = 185 then (0, 3)
  else if markS c = true then (0, 2)
  else if c ≤ 126 then (0, 5) else (0, 0)
def classS (c : Int) : Int × Int := classN (narrow c)
def hasS (c : Int) : Bool := (classS c).2 != 0
theorem encC_head (c : Int) (h : Ok c) : ∃ a t, encC c = a :: t ∧ (a.toNat < 128 ∨ 192 ≤ a.toNat) := by
  obtain ⟨h0, h1⟩ := h
  by_cases c1 : c < 128
  · exact ⟨_, _, encC_one c1, by have := u8_nat h0 (by omega : c < 256); omega⟩
  · by_cases c2 : c < 2048
    · exact ⟨_, _, encC_two (by omega) c2, by have := u8_nat (n := 192 + c / 64) (by omega) (by omega); omega⟩
    · exact ⟨_, _, encC_three (by omega), by have := u8_nat (n := 224 + c / 4096) (by omega) (by omega); omega⟩
theorem index_step {b : UInt8} {l sub : List UInt8} (h : sub.isPrefixOf (b :: l) = false) : index (b :: l) sub = if index l sub = -1 then -1 else index l sub + 1 := by
  rw [index, h]
  simp
theorem prefix_false {c d : Int} (hc : Ok c) (hd : Ok d) (hne : c ≠ d) (l : List UInt8) : (encC c).isPrefixOf (encC d ++ l) = false := by
  cases hp : (encC c).isPrefixOf (encC d ++ l) with
  | false => rfl
  | true =>
    exfalso
    obtain ⟨r, hr⟩ := List.isPrefixOf_iff_prefix.1 hp
    exact hne (encC_prefix hc hd hr).1
def placeB (xs : List Int) (c : Int) : Int := if c ∈ xs then ((encL (xs.takeWhile (fun y => y != c))).length : Int) else -1
theorem placeB_nil (c : Int) : placeB [] c = -1 := by simp [placeB]
theorem placeB_same (c : Int) (xs : List Int) : placeB (c :: xs) c = 0 := by simp [placeB, encL]
theorem placeB_other {c d : Int} (h : c ≠ d) (xs : List Int) : placeB (d :: xs) c = if placeB xs c = -1 then -1 else placeB xs c + (encC d).length := by
  unfold placeB
  by_cases hm : c ∈ xs
  · rw [if_pos hm, if_pos (List.mem_cons_of_mem _ hm), if_neg (by omega), List.takeWhile_cons, if_pos (by simpa using fun e => h e.symm), encL_cons, List.length_append]
    omega
  · rw [if_neg hm, if_neg (by simp [h, hm])]
    rfl
theorem index_enc : ∀ (xs : List Int) (c : Int), (∀ x ∈ xs, 0 ≤ x ∧ x < 2048) → Ok c → index (encL xs) (encC c) = placeB xs c
  | [], c, _, _ => by
    rw [placeB_nil]
    obtain ⟨a, t, e, _⟩ := encC_head c (by assumption)
    rw [e]
    rfl
  | x :: xs, c, hx, hc => by
    have ih := index_enc xs c (fun y hy => hx y (by simp [hy])) hc
    have hx0 := hx x (by simp)
    by_cases hcx : c = x
    · subst hcx
      rw [placeB_same, encL_cons]
      obtain ⟨a, t, e, _⟩ := encC_head c hc
      have hp : (encC c).isPrefixOf (encC c ++ encL xs) = true := List.isPrefixOf_iff_prefix.2 ⟨_, rfl⟩
      rw [e] at hp ⊢
      rw [List.cons_append] at hp ⊢
      rw [index, hp]
      rfl
    · have hok : Ok x := ⟨hx0.1, by omega⟩
      have hp := prefix_false hc hok hcx (encL xs)
      rw [placeB_other hcx, encL_cons, ← ih]
      by_cases c1 : x < 128
      · rw [encC_one c1] at hp ⊢
        rw [List.cons_append, List.nil_append] at hp ⊢
        rw [index_step hp]
        rfl
      · rw [encC_two (by omega) hx0.2] at hp ⊢
        rw [List.cons_append, List.cons_append, List.nil_append] at hp ⊢
        have h2 : (encC c).isPrefixOf ((128 + x % 64).toNat.toUInt8 :: encL xs) = false := by
          obtain ⟨a, t, e, ha⟩ := encC_head c hc
          rw [e]
          cases hq : (a :: t).isPrefixOf ((128 + x % 64).toNat.toUInt8 :: encL xs) with
          | false => rfl
          | true =>
            exfalso
            obtain ⟨r, hr⟩ := List.isPrefixOf_iff_prefix.1 hq
            rw [List.cons_append] at hr
            have he := (List.cons.inj hr).1
            have hb := u8_nat (n := 128 + x % 64) (by omega) (by omega)
            rw [← he] at hb
            omega
        rw [index_step hp, index_step h2]
        have hge := index_ge (encL xs) (encC c)
        by_cases hz : index (encL xs) (encC c) = -1
        · simp [hz]
        · rw [if_neg hz, if_neg hz, if_neg (by omega)]
          simp
          omega
theorem placeB_ge (xs : List Int) (c : Int) : 0 ≤ placeB xs c ↔ c ∈ xs := by
  unfold placeB
  by_cases h : c ∈ xs
  · rw [if_pos h]; simp [h]
  · rw [if_neg h]; simp [h]
theorem latin_enc : latinB.data.toList = encL latinL := by decide +kernel
theorem greek_enc : greekB.data.toList = encL greekL := by decide +kernel
theorem cyr_enc : cyrB.data.toList = encL cyrL := by decide +kernel
theorem latin_small : ∀ x ∈ latinL, 0 ≤ x ∧ x < 2048 := by decide +kernel
theorem greek_small : ∀ x ∈ greekL, 0 ≤ x ∧ x < 2048 := by decide +kernel
theorem cyr_small : ∀ x ∈ cyrL, 0 ≤ x ∧ x < 2048 := by decide +kernel
theorem calm_all {l : List UInt8} (h : (List.range 64).all (fun n => calm l (UInt8.ofNat (128 + n))) = true) (c : UInt8) (hc : 128 ≤ c.toNat ∧ c.toNat < 192) : calm l c = true := by
  have := List.all_eq_true.1 h (c.toNat - 128) (List.mem_range.2 (by omega))
  rw [show 128 + (c.toNat - 128) = c.toNat by omega] at this
  simpa using this
theorem latin_calm (c : UInt8) (hc : 128 ≤ c.toNat ∧ c.toNat < 192) : calm latinB.data.toList c = true := calm_all (by decide +kernel) c hc
theorem greek_calm (c : UInt8) (hc : 128 ≤ c.toNat ∧ c.toNat < 192) : calm greekB.data.toList c = true := calm_all (by decide +kernel) c hc
theorem cyr_calm (c : UInt8) (hc : 128 ≤ c.toNat ∧ c.toNat < 192) : calm cyrB.data.toList c = true := calm_all (by decide +kernel) c hc
theorem encC_last (c : Int) (h : 128 ≤ c) : 128 ≤ ((encC c).getD ((encC c).length - 1) 0).toNat ∧ ((encC c).getD ((encC c).length - 1) 0).toNat < 192 := by
  have g := u8_nat (n := 128 + c % 64) (by omega) (by omega)
  by_cases c2 : c < 2048
  · rw [encC_two h c2]
    simp only [List.length_cons, List.length_nil, List.getD_cons_succ, List.getD_cons_zero]
    omega
  · rw [encC_three (by omega)]
    simp only [List.length_cons, List.length_nil, List.getD_cons_succ, List.getD_cons_zero]
    omega
end Go.Proofs.YthcpdhniakpbaaaDoor.X
end

section
namespace Go.Proofs.YthcpdhniakpbaaaDoor.X
set_option linter.unusedVariables false
set_option linter.unusedSimpArgs false
open Go.Lib
theorem letterS_range {c : Int} (h : letterS c ≠ 0) : (32 ≤ c ∧ c < 2048) ∨ (64257 ≤ c ∧ c ≤ 64258) := by
  unfold letterS at h
  split at h
  · rename_i h1
    rcases h1 with h1 | h1 | h1 | h1 | h1
    · omega
    · omega
    · omega
    · omega
    · have : ∀ x ∈ latinL, 32 ≤ x ∧ x < 2048 := by decide +kernel
      exact .inl (this c h1)
  · split at h
    · rename_i h1
      rcases h1 with h1 | h1 | h1
      · omega
      · omega
      · have : ∀ x ∈ greekL, 32 ≤ x ∧ x < 2048 := by decide +kernel
        exact .inl (this c h1)
    · split at h
      · rename_i h1
        rcases h1 with h1 | h1
        · omega
        · have : ∀ x ∈ cyrL, 32 ≤ x ∧ x < 2048 := by decide +kernel
          exact .inl (this c h1)
      · exact absurd rfl h
theorem classN_range {c : Int} (h : (classN c).2 ≠ 0) : (32 ≤ c ∧ c < 2048) ∨ (64257 ≤ c ∧ c ≤ 64258) := by
  unfold classN at h
  split at h
  · exact absurd rfl h
  · split at h
    · rename_i h1; exact letterS_range h1
    · split at h
      · omega
      · split at h
        · omega
        · split at h
          · rename_i h1
            unfold markS at h1
            have := of_decide_eq_true h1
            omega
          · split at h
            · omega
            · exact absurd rfl h
theorem hasS_range {c : Int} (h : hasS c = true) : (32 ≤ c ∧ c < 2048) ∨ (64257 ≤ c ∧ c ≤ 64258) ∨ (65281 ≤ c ∧ c ≤ 65374) := by
  have h2 : (classN (narrow c)).2 ≠ 0 := by simpa [hasS, classS] using h
  have h1 := classN_range h2
  unfold narrow at h1
  split at h1
  · rename_i h3; exact .inr (.inr h3)
  · omega
theorem hasS_ok {c : Int} (h : hasS c = true) : Ok c := by have := hasS_range h; unfold Ok; omega
theorem get_byN (s : ByteArray) (i : Nat) : ((s.get! i).toNat : Int) = byN s.data.toList i := by
  unfold byN
  rw [List.getD_eq_getElem?_getD, Array.getElem?_toList]
  show (((s.data[i]!).toNat : Nat) : Int) = _
  rw [getElem!_def]
  cases s.data[i]? <;> rfl
def charN (n : Nat) (b0 b1 b2 : Int) : Option (Int × Nat) :=
  if n = 0 then none
  else if b0 < 128 then some (b0, 1)
  else if 194 ≤ b0 ∧ b0 < 224 ∧ 1 < n ∧ b1 / 64 = 2 then some ((b0 - 192) * 64 + (b1 - 128), 2)
  else if 224 ≤ b0 ∧ b0 < 240 ∧ 2 < n ∧ b1 / 64 = 2 ∧ b2 / 64 = 2 ∧ 2048 ≤ (b0 - 224) * 4096 + (b1 - 128) * 64 + (b2 - 128) then some ((b0 - 224) * 4096 + (b1 - 128) * 64 + (b2 - 128), 3)
  else none
theorem charS_N (l : List UInt8) : charS l = charN l.length (byN l 0) (byN l 1) (byN l 2) := rfl
theorem decN_some {n b0 b1 b2 b3 : Nat} (h0 : b0 < 256) (h1 : b1 < 256) (h2 : b2 < 256) {c : Int} {k : Nat} (h : charN n b0 b1 b2 = some (c, k)) :
    ((55296 ≤ c ∧ c ≤ 57343) ∧ (decodeN n b0 b1 b2 b3).1 = 65533) ∨ (¬ (55296 ≤ c ∧ c ≤ 57343) ∧ decodeN n b0 b1 b2 b3 = (c.toNat, k)) := by
  unfold charN at h
  unfold decodeN
  split at h
  · exact absurd h (by simp)
  · split at h
    · obtain ⟨rfl, rfl⟩ := Prod.mk.inj (Option.some.inj h)
      rw [if_pos (by omega)]
      exact .inr ⟨by omega, by simp⟩
    · split at h
      · obtain ⟨rfl, rfl⟩ := Prod.mk.inj (Option.some.inj h)
        rw [if_neg (by omega), if_pos (by omega), if_pos (by omega)]
        exact .inr ⟨by omega, by simp; omega⟩
      · split at h
        · obtain ⟨rfl, rfl⟩ := Prod.mk.inj (Option.some.inj h)
          rw [if_neg (by omega), if_neg (by omega), if_pos (by omega)]
          by_cases hs : 55296 ≤ ((b0 : Int) - 224) * 4096 + ((b1 : Int) - 128) * 64 + ((b2 : Int) - 128) ∧ ((b0 : Int) - 224) * 4096 + ((b1 : Int) - 128) * 64 + ((b2 : Int) - 128) ≤ 57343
          · rw [if_neg (by omega)]
            exact .inl ⟨hs, rfl⟩
          · rw [if_pos (by omega)]
            exact .inr ⟨hs, by simp; omega⟩
        · exact absurd h (by simp)
theorem decN_none {n b0 b1 b2 b3 : Nat} (hn : 0 < n) (h0 : b0 < 256) (h1 : b1 < 256) (h2 : b2 < 256) (h : charN n b0 b1 b2 = none) : (decodeN n b0 b1 b2 b3).1 = 65533 ∨ 65536 ≤ (decodeN n b0 b1 b2 b3).1 := by
  unfold charN at h
  rw [if_neg (by omega)] at h
  split at h
  · exact absurd h (by simp)
  · split at h
    · exact absurd h (by simp)
    · split at h
      · exact absurd h (by simp)
      · unfold decodeN
        repeat' split
        all_goals first | (left; rfl) | (right; simp only; omega) | (exfalso; omega)
theorem decode_some (s : ByteArray) {c : Int} {n : Nat} (h : charS s.data.toList = some (c, n)) :
    ((55296 ≤ c ∧ c ≤ 57343) ∧ (Utf8.decode s 0).1 = 65533) ∨ (¬ (55296 ≤ c ∧ c ≤ 57343) ∧ Utf8.decode s 0 = (c.toNat, n)) := by
  rw [charS_N, ← get_byN, ← get_byN, ← get_byN, show s.data.toList.length = s.size from Array.length_toList] at h
  rw [decode_at]
  exact decN_some (s.get! 0).toNat_lt (s.get! 1).toNat_lt (s.get! 2).toNat_lt h
theorem decode_none (s : ByteArray) (hne : 0 < s.size) (h : charS s.data.toList = none) : (Utf8.decode s 0).1 = 65533 ∨ 65536 ≤ (Utf8.decode s 0).1 := by
  rw [charS_N, ← get_byN, ← get_byN, ← get_byN, show s.data.toList.length = s.size from Array.length_toList] at h
  rw [decode_at]
  exact decN_none hne (s.get! 0).toNat_lt (s.get! 1).toNat_lt (s.get! 2).toNat_lt h
end Go.Proofs.YthcpdhniakpbaaaDoor.X
end
