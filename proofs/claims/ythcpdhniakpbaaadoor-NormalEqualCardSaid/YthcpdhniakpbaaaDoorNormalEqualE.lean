/- The law NormalEqual returns true for every input, the package variables that it reads holding what the row lists. Part 5 of the texts that its proof stands on; put together by a program. -/
import Derived.Test.YthcpdhniakpbaaaDoorNormalEqualD
import Derived.Deep.Cut
import Derived.Deep.CutRange
import Derived.Deep.CutBlock
import Derived.Deep.RegionHeld3
import Derived.Deep.AppendLies
import Derived.Outline
section
namespace Go.Proofs.YthcpdhniakpbaaaDoor.X
open Go.RowKit Go.Sort Go.Lib Go.Proofs.YthcpdhniakpbaaaDoorW.PrintWords Go.Proofs.YthcpdhniakpbaaaDoorW.PrintLast Go.Proofs.YthcpdhniakpbaaaDoorW.PrintMore
set_option linter.unusedVariables false
set_option linter.unusedSimpArgs false
theorem join_any (c m : Int) (h : hasS c = true) (W : World) : Calls Tryd.prog 69 #[.int .i64 c, .int .i64 m] W fun e w' => e = .returned (joinV (joinS c m)) ∧ Below W.heap.size W w' := by
  have hne : c ≠ 65533 := fun e => by rw [e, hasS_65533] at h; exact absurd h (by decide)
  have hr := hasS_range h
  exact join_walk c m (by omega) (by omega) hne W
def ComposeOk (l : List Int) : Prop := l.length ≤ 200000 ∧ ∀ c ∈ l, hasS c = true
instance (l : List Int) : Decidable (ComposeOk l) := by unfold ComposeOk; infer_instance
def leftB (kept : List Int) : Array Value := #[.bool false, .bool (kept.any fun x => clsN x == 1), .bool (kept.any fun x => clsN x == 2), .bool (kept.any fun x => clsN x == 3)]
theorem cl_alloc {w : World} {a : Addr} {v : Value} (o : Obj) (h : w.cell? a = some v) : (w.alloc o).drew.cell? a = some v := by
  have := World.block_lt_of_cell? w _ h
  show (w.alloc o).cell? a = some v
  rw [cell_alloc_old _ _ _ this]
  exact h
theorem st_other {w : World} {b k : Nat} {a : Addr} {v : Value} (u : Value) (h : w.cell? a = some v) (hne : a.block ≠ b) : (w.setCell ⟨b, k, none⟩ u).cell? a = some v := by
  rw [World.cell?_setCell_other _ _ _ _ (fun e => hne (by rw [← e]))]
  exact h
theorem st_same {w : World} {b k : Nat} {v : Value} (u : Value) (h : w.cell? ⟨b, k, none⟩ = some v) : (w.setCell ⟨b, k, none⟩ u).cell? ⟨b, k, none⟩ = some u := World.cell?_setCell_same _ _ _ h
theorem st_frozen {w : World} {a p : Addr} (u : Value) (h : w.frozen? a = false) : (w.setCell p u).frozen? a = false := by
  rw [World.frozen?_setCell]
  exact h
theorem fz_alloc {w : World} {a : Addr} (o : Obj) (h : w.frozen? a = false) (hb : a.block < w.heap.size) : (w.alloc o).drew.frozen? a = false := by
  show (w.alloc o).frozen? a = false
  rw [World.frozen?_of_block (w := w) (Lib.alloc_old w o _ hb)]
  exact h
set_option maxHeartbeats 8000000 in
set_option maxRecDepth 100000 in
theorem compose_walk (s : ByteArray) (w : World) (hG : GT1 w) (l : List Int) (okb : Bool) (hd : normal_decomposed.f s = some (l, okb)) (ho : ComposeOk l) (r : ByteArray) (ht : normal_text.f (compS l) = some r) :
    Calls Tryd.prog 40 #[.string s] w fun e w' => e = .returned (.string r) ∧ Below w.heap.size w w' := by
  have HD := Lib.hid (normal_decomposed.calls s l okb w hG hd)
  obtain ⟨hl, hh⟩ := ho
  have HH := Lib.hid hh
  obtain ⟨T, hT⟩ : ∃ T, T = compS l := ⟨_, rfl⟩
  rw [← hT] at ht
  have HT : Hid (compF l.length l = T) := hT.symm
  have HX : Hid (∀ (A : Option Addr) (c : Nat) W, Kd.C (Kd.int .i64) W A T.length T → T.length ≤ c → Calls Tryd.prog 65 #[.slice A T.length c] W fun e w' => e = .returned (.string r) ∧ Below W.heap.size W w') := fun A c W hC hc => normal_text.calls A c T r W hC hc ht
  clear hG hd hh hT ht
  have hi3 := @info3
  go_enter Tryd.func40, Tryd.ntmps40
  go_wp2_with fail
  refine HD.out.mono ?_
  rintro e w1 ⟨v3, rfl, hr3, hb1⟩
  obtain ⟨A, c3, rfl⟩ := Kd.R_slice hr3
  have hC := Aside0.mk (Kd.R_reads' hr3).2.2
  have HB1 := Aside0.mk hb1
  clear hr3 hb1 HD
  obtain ⟨n, hn⟩ : ∃ n, n = l.length := ⟨_, rfl⟩
  have HN : Hid (l.length = n) := hn.symm
  rw [← hn] at hC hl ⊢
  clear hn
  go_wp2_with fail
  go_loopg [5, 6, 7, 8, 9, 10, 11, 12] n (fun g1 v5 v6 v7 v8 v9 v10 v11 v12 wr => ∃ (i : Nat) (out : List Int) (vo : Value) (f : Nat), v6 = .int .i64 (i : Int) ∧ vo = v5 ∧ i ≤ n ∧ n - i ≤ g1 ∧ n - i ≤ f ∧ out.length ≤ i ∧ Aside0 (Kd.R (Kd.int .i64) 3 wr w1.heap.size (fun _ => True) vo out) ∧ Aside0 (Below w1.heap.size w1 wr) ∧ Hid (out ++ compF f (l.drop i) = T))
  case atStart => exact ⟨0, [], _, n, rfl, rfl, by omega, by omega, by omega, by simp, ⟨Kd.R_nil _ _ _ _ _⟩, ⟨Below.refl _ _⟩, by show _ = _; rw [← HT.out, HN.out]; rfl⟩
  case round =>
    clear HT
    obtain ⟨i, out, vo, f, rfl, rfl, hin, hg1, hf, hol, HO, HB, HT⟩ := hrel
    obtain ⟨wo, rfl⟩ : ∃ wo : World, wo = wr := ⟨_, rfl⟩
    by_cases hlt : i < n
    · have hltz : (i : Int) < (n : Int) := by omega
      have hil : i < l.length := by have := HN.out; omega
      obtain ⟨ad, rfl, hx⟩ := Kd.at_int hC.out (i : Int) (by omega) (by omega)
      simp only [Int.toNat_natCast] at hx
      replace hx := (HB.out.cell (World.block_lt_of_cell? w1 _ hx)).trans hx
      have hrd : rd l (i : Int) = l[i] := by unfold rd; simp [hil]
      have hhc := HH.out _ (List.getElem_mem hil)
      rw [hrd] at hx
      have hT := HT.out
      rw [List.drop_eq_getElem_cons hil] at hT
      obtain ⟨f, rfl⟩ : ∃ q, f = q + 1 := ⟨f - 1, by omega⟩
      rw [compF] at hT
      have HMK := Lib.hid (mark_any l[i] hhc)
      obtain ⟨mb, hmb⟩ : ∃ b, isMk l[i] = b := ⟨_, rfl⟩
      rw [hmb] at hT HMK
      clear HT hmb hrd
      generalize l[i] = c at hx HMK hhc hT
      have hsz := HB.out.size
      cases mb with
      | true =>
        rw [if_pos rfl] at hT
        have HT2 : Hid ((out ++ [c]) ++ compF f (l.drop (i + 1)) = T) := by show _ = _; rw [← hT]; simp
        clear hT
        go_wp2_with (first | (go_at_call 67; refine (HMK.out _).mono ?_; rintro e w' ⟨rfl, ⟨nd, rfl⟩⟩) | ((with_reducible refine gate_dst (N := 33) rfl ?_); refine Kd.R_append_row (Value.int .i64) 0 (w0 := w1) w1.heap.size rfl (.tmp 30) (.tmp 32) 35 3 (.int .i64 0) 8 rfl Tryd.underlying35 info3 rfl (by decide) vo out [c] (some ⟨wo.heap.size, 0, none⟩) 1 1 (fun _ => True) rfl rfl (fun _ _ => trivial) (Kd.R_alloc (Kd.R_drewN HO.out nd) _) (Kd.R_reads' (R_lits (wo.drewN nd) wo.heap.size w1.heap.size [c] rfl hsz (by simp))).2.2 (below_alloc (pw_below_drewN HB.out nd) _) (by simp; omega) (by omega) ?_; intro v1 w3 hr3 hb3 hg3 hat3; clear hg3 hat3))
        go_roundg (n - (i + 1))
        case measure => omega
        case rel => exact ⟨i + 1, out ++ [c], v1, f, by go_num, rfl, by omega, by omega, by omega, by simp; omega, ⟨hr3⟩, ⟨hb3⟩, HT2⟩
      | false =>
        rw [if_neg (by decide)] at hT
        have HT2 : Hid (out ++ (((compM ((l.drop (i + 1)).takeWhile isMk) c []).1 :: (compM ((l.drop (i + 1)).takeWhile isMk) c []).2) ++ compF f ((l.drop (i + 1)).dropWhile isMk)) = T) := hT
        clear hT
        go_upto_block 2 with (first | (go_at_call 67; refine (HMK.out _).mono ?_; rintro e w' ⟨rfl, ⟨nd, rfl⟩⟩))
        have HBW : Aside0 (Below wo.heap.size wo ((wo.drewN nd).alloc (.cells (leftB []) 63))) := ⟨below_alloc (pw_below_drewN (Below.refl _ _) nd) _⟩
        have HLB : Aside0 (((wo.drewN nd).alloc (.cells (leftB []) 63)).heap[wo.heap.size]? = some (.cells (leftB []) 63 (0, 0))) := ⟨heap_alloc_last (wo.drewN nd) _⟩
        clear HMK hx
        go_cut [6, 7, 8, 10, 11, 12] from 34 to 77 (fun v6 v7 v8 v10 v11 v12 wx => ∃ (j : Nat) (c' : Int) (kept : List Int) (vk : Value), v6 = .int .i64 (j : Int) ∧ v7 = .int .i64 c' ∧ vk = v8 ∧ i + 1 ≤ j ∧ j ≤ n ∧ kept.length + i + 1 ≤ j ∧ Aside0 (Kd.R (Kd.int .i64) 3 wx wo.heap.size (fun _ => True) vk kept) ∧ Aside0 (Below wo.heap.size wo wx) ∧ Hid (compM ((l.drop (i + 1)).takeWhile isMk) c [] = (c', kept)) ∧ Hid ((l.drop (i + 1)).dropWhile isMk = l.drop j))
        case first =>
          go_wp2_with fail
          go_loopg [6, 7, 8, 10, 11, 12] n (fun g2 v6 v7 v8 v10 v11 v12 wx => ∃ (j : Nat) (c' : Int) (kept : List Int) (vk : Value), v6 = .int .i64 (j : Int) ∧ v7 = .int .i64 c' ∧ vk = v8 ∧ i + 1 ≤ j ∧ j ≤ n ∧ n - j ≤ g2 ∧ kept.length + i + 1 ≤ j ∧ Aside0 (Kd.R (Kd.int .i64) 3 wx wo.heap.size (fun _ => True) vk kept) ∧ Aside0 (Below wo.heap.size wo wx) ∧ Aside0 (wx.heap[wo.heap.size]? = some (.cells (leftB kept) 63 (0, 0))) ∧ Hid (hasS c' = true) ∧ Hid (compM ((l.drop (i + 1)).takeWhile isMk) c [] = compM ((l.drop j).takeWhile isMk) c' kept) ∧ Hid ((l.drop (i + 1)).dropWhile isMk = (l.drop j).dropWhile isMk))
          case atStart => exact ⟨i + 1, c, [], _, by go_num, rfl, rfl, by omega, by omega, by omega, by simp, ⟨Kd.R_nil _ _ _ _ _⟩, HBW, HLB, hhc, rfl, rfl⟩
          case round =>
            clear HBW HLB
            obtain ⟨j, c', kept, vk, rfl, rfl, rfl, hij, hjn, hg2, hkl, HK, HBW, HLB, HC, HE, HDr⟩ := hrel
            by_cases hjlt : j < n
            · have hjz : (j : Int) < (n : Int) := by omega
              have hjl : j < l.length := by have := HN.out; omega
              obtain ⟨ad', he, hx2⟩ := Kd.at_int hC.out (j : Int) (by omega) (by omega)
              obtain rfl := Option.some.inj he
              clear he
              simp only [Int.toNat_natCast] at hx2
              have had1 : (ad.add j).block < w1.heap.size := World.block_lt_of_cell? w1 _ hx2
              have HBX := Aside0.mk (below_step HB.out HBW.out)
              replace hx2 := (HBX.out.cell (World.block_lt_of_cell? w1 _ hx2)).trans hx2
              have hadb : (ad.add j).block < wr.heap.size := World.block_lt_of_cell? wr _ hx2
              have hrd2 : rd l (j : Int) = l[j] := by unfold rd; simp [hjl]
              rw [hrd2] at hx2
              have hhc2 := HH.out _ (List.getElem_mem hjl)
              have hE := HE.out
              have hDr := HDr.out
              rw [List.drop_eq_getElem_cons hjl] at hE hDr
              have HMK2 := Lib.hid (mark_any l[j] hhc2)
              have HDj : Hid (l.drop j = l[j] :: l.drop (j + 1)) := List.drop_eq_getElem_cons hjl
              obtain ⟨mb, hmb⟩ : ∃ b, isMk l[j] = b := ⟨_, rfl⟩
              rw [hmb] at HMK2
              rw [List.takeWhile_cons, hmb] at hE
              rw [List.dropWhile_cons, hmb] at hDr
              clear hmb hrd2 HE HDr
              generalize l[j] = c2 at hx2 HMK2 hhc2 hE hDr HDj
              have hszx := HBW.out.size
              cases mb with
              | false =>
                rw [if_neg (by decide)] at hE hDr
                have HE2 : Hid (compM ((l.drop (i + 1)).takeWhile isMk) c [] = (c', kept)) := hE
                have HD2 : Hid ((l.drop (i + 1)).dropWhile isMk = l.drop j) := by show _ = _; rw [hDr, HDj.out]
                clear hE hDr
                go_wp2_with (go_at_call 67; refine (HMK2.out _).mono ?_; rintro e w' ⟨rfl, ⟨nq, rfl⟩⟩)
                go_meet
                exact ⟨j, c', kept, vk, rfl, rfl, rfl, hij, hjn, hkl, ⟨Kd.R_drewN HK.out nq⟩, ⟨pw_below_drewN HBW.out nq⟩, HE2, HD2⟩
              | true =>
                rw [if_pos rfl, compM] at hE
                rw [if_pos rfl] at hDr
                have HD2 : Hid ((l.drop (i + 1)).dropWhile isMk = (l.drop (j + 1)).dropWhile isMk) := hDr
                have HCL := Lib.hid (nclass_any c2)
                have HJA := Lib.hid (join_any c' c2 HC.out)
                have hkr := clsN_range c2
                obtain ⟨kN, hkN⟩ : ∃ q : Nat, (q : Int) = clsN c2 := ⟨(clsN c2).toNat, by omega⟩
                have HKN : Hid ((kN : Int) = clsN c2) := hkN
                have hcl : ∀ W : World, W.heap[wo.heap.size]? = some (.cells (leftB kept) 63 (0, 0)) → W.cell? ⟨wo.heap.size, kN, none⟩ = some (.bool (taken kept c2)) := fun W hW => by
                  rw [blk_cell hW]
                  unfold leftB taken
                  rcases hkr with e | e | e
                  · have : kN = 1 := by omega
                    subst this; rw [e]; rfl
                  · have : kN = 2 := by omega
                    subst this; rw [e]; rfl
                  · have : kN = 3 := by omega
                    subst this; rw [e]; rfl
                have HCELL := Lib.hid hcl
                have hkb1 : 1 ≤ kN := by omega
                have hkb2 : kN ≤ 3 := by omega
                have HSET : Hid ((leftB kept).setIfInBounds kN (.bool true) = leftB (kept ++ [c2])) := by
                  show _ = _
                  unfold leftB
                  rcases hkr with e | e | e
                  · have : kN = 1 := by omega
                    subst this; simp [e]
                  · have : kN = 2 := by omega
                    subst this; simp [e]
                  · have : kN = 3 := by omega
                    subst this; simp [e]
                rw [← hkN] at HCL
                obtain ⟨tk, htk⟩ : ∃ b, b = taken kept c2 := ⟨_, rfl⟩
                rw [← htk] at hE HCELL
                clear hDr hkr hkN hcl htk
                cases hJ : joinS c' c2 with
                | none =>
                  rw [hJ] at hE HJA
                  rw [joinV_none] at HJA
                  have HE2 : Hid (compM ((l.drop (i + 1)).takeWhile isMk) c [] = compM ((l.drop (j + 1)).takeWhile isMk) c' (kept ++ [c2])) := hE
                  clear hE hJ
                  go_wp2_with (first | (go_at_call 67; refine (HMK2.out _).mono ?_; rintro e w' ⟨rfl, ⟨nq, rfl⟩⟩) | (go_at_call 68; refine (HCL.out _).mono ?_; rintro e w' ⟨rfl, ⟨nk, rfl⟩⟩))
                  refine (HJA.out _).mono ?_
                  rintro e w3 ⟨rfl, hb3⟩
                  have hx3 := (hb3.cell hadb).trans hx2
                  have HLB3 := Aside0.mk ((hb3.block _ (blk_lt HLB.out)).trans HLB.out)
                  have HK3 := Aside0.mk (Kd.R_below (Kd.R_drewN HK.out (nq + nk)) hb3)
                  have HBW3 : Aside0 (Below wo.heap.size wo w3) := ⟨HBW.out.trans ((pw_below_drewN (Below.refl _ _) (nq + nk)).trans (hb3.mono hszx))⟩
                  have hk3 := HCELL.out w3 HLB3.out
                  have hf3 : w3.frozen? ⟨wo.heap.size, kN, none⟩ = false := blk_frozen HLB3.out kN
                  clear HK HLB HBW HMK2 HCL HJA hb3 hx2
                  have hszy := HBW3.out.size
                  obtain ⟨Ak, ck, rfl⟩ := Kd.R_slice HK3.out
                  have hown := Kd.own_of_R HK3.out
                  obtain ⟨i0, hi0, hz0, hz1, hz2⟩ := info_parts info3
                  have hne3 := Kd.R_ne HK3.out HLB3.out (by decide)
                  have hj0 : (0 : Int) ≤ (j : Int) := Int.natCast_nonneg _
                  have hk0 : (0 : Int) ≤ (kN : Int) := Int.natCast_nonneg _
                  have hk4 : (kN : Int) < 4 := by omega
                  have hkl2 : kept.length + 1 ≤ 200001 := by omega
                  have hwo : wo.heap.size < w3.heap.size := blk_lt HLB3.out
                  have hfar : ∀ a : Addr, a.block < w1.heap.size → some a.block ≠ (Value.slice Ak kept.length ck).ownBlock := fun a ha e => by have := Kd.R_base HK3.out _ e.symm; omega
                  have had3 : (ad.add j).block < w3.heap.size := by omega
                  obtain ⟨cv, hcv⟩ : ∃ cv : World → Value, ∀ (w' : World) (v : Value), w'.cell? ⟨wo.heap.size, kN, none⟩ = some v → w'.cell? ⟨wo.heap.size, kN, none⟩ = some (cv w') := ⟨fun w' => (w'.cell? ⟨wo.heap.size, kN, none⟩).getD undef, fun w' v h => by simp [h]⟩
                  have HCV := Lib.hid hcv
                  have hadw : ad.block < w1.heap.size := by have := had1; unfold Addr.add at this; split at this <;> exact this
                  have hadne : (ad.add j).block ≠ wo.heap.size := by omega
                  clear hcv
                  go_wp2_with fail
                  go_region_held3 (fun w' => w'.cell? (ad.add j) = some (.int .i64 c2) ∧ w'.cell? ⟨wo.heap.size, kN, none⟩ = some (cv w') ∧ w'.frozen? ⟨wo.heap.size, kN, none⟩ = false) (first | exact ⟨cl_alloc _ hx3, HCV.out _ _ (cl_alloc _ hk3), fz_alloc _ hf3 hwo⟩ | exact ⟨(hgrow.cell_far _ (by simp; omega) (hfar _ had1)).trans (cl_alloc _ hx3), HCV.out _ _ ((hgrow.cell_far _ (by simp; omega) hne3).trans (cl_alloc _ hk3)), (hgrow.frozen_far _ (by simp; omega) hne3).trans (fz_alloc _ hf3 hwo)⟩ | exact ⟨st_other _ ((hgrow.cell_far _ (by simp; omega) (hfar _ had1)).trans (cl_alloc _ hx3)) hadne, HCV.out _ (.bool true) (st_same _ ((hgrow.cell_far _ (by simp; omega) hne3).trans (cl_alloc _ hk3))), st_frozen _ ((hgrow.frozen_far _ (by simp; omega) hne3).trans (fz_alloc _ hf3 hwo))⟩ | exact ⟨hx3, HCV.out _ _ hk3, hf3⟩ | go_keep) ((refine step_append_lies _ (by rfl) _ _ _ (by rfl) wo.heap.size 3 i0 _ 1 8 Tryd.underlying35 hi0 hz0 hz1 hz2 rfl (by omega) (.slice Ak kept.length ck) kept.length (encs (Value.int .i64) kept) (by rfl) ((hown.alloc _).drew) ⟨w3.heap.size, 0, none⟩ 1 1 [.int .i64 c2] (by rfl) (by rfl) (World.news_of_block (cs := #[.int .i64 c2]) (t := 3) (fr := (0, 0)) (heap_alloc_new w3 _)) (by simp [Value.oneCell']) (by omega) (by unfold maxLen; omega) (by omega) (by simp; omega) (w3.heap.size + 1) (by simp) ?_; intro gg cap w5 hown1 hgrow hat hlt))
                  have HLB5 : w5.heap[wo.heap.size]? = some (.cells (leftB kept) 63 (0, 0)) := blk_grown (g := wo.heap.size) (w := (w3.alloc (.cells #[.int .i64 c2] 3)).drew) ((Lib.alloc_old w3 _ _ hwo).trans HLB3.out) hgrow hne3
                  have HR5 : Kd.R (Kd.int .i64) 3 w5 wo.heap.size (fun _ => True) (.slice (some ⟨gg, 0, none⟩) (kept.length + 1) cap) (kept ++ [c2]) := Kd.R_of_own (by simpa [encs] using hown1) (fun _ _ => trivial)
                  have HR6 := Aside0.mk (Kd.R_set HR5 HLB5 (by intro q hq; simp [Kd.int, Kd.scalar] at hq; omega) kN (.bool true))
                  have HLB6 := Aside0.mk (blk_put HLB5 kN (.bool true) HSET.out)
                  have HBW6 := Aside0.mk ((((HBW3.out.alloc hszy (.cells #[.int .i64 c2] 3)).drew).grown hgrow (by simp; omega) (fun k hk => Kd.R_base HK3.out k hk)).setCell (p := ⟨wo.heap.size, kN, none⟩) (Nat.le_refl _) (.bool true))
                  clear hgrow hat hlt hown1 HLB5 HR5 HK3 HLB3 HBW3 hown hx3 hk3 hf3 hne3
                  go_wp2_with fail
                  go_roundg (n - (j + 1))
                  case measure => omega
                  case rel => exact ⟨j + 1, c', kept ++ [c2], _, by go_num, rfl, rfl, by omega, by omega, by omega, by simp; omega, HR6, HBW6, HLB6, HC, HE2, HD2⟩
                | some x =>
                  rw [hJ] at hE HJA
                  rw [joinV_some] at HJA
                  cases tk with
                  | false =>
                    have HE2 : Hid (compM ((l.drop (i + 1)).takeWhile isMk) c [] = compM ((l.drop (j + 1)).takeWhile isMk) x kept) := hE.trans (if_neg Bool.false_ne_true)
                    have hxx : Hid (hasS x = true) := join_has hJ
                    clear hE hJ
                    go_wp2_with (first | (go_at_call 67; refine (HMK2.out _).mono ?_; rintro e w' ⟨rfl, ⟨nq, rfl⟩⟩) | (go_at_call 68; refine (HCL.out _).mono ?_; rintro e w' ⟨rfl, ⟨nk, rfl⟩⟩))
                    refine (HJA.out _).mono ?_
                    rintro e w3 ⟨rfl, hb3⟩
                    have HLB3 := Aside0.mk ((hb3.block _ (blk_lt HLB.out)).trans HLB.out)
                    have HK3 := Aside0.mk (Kd.R_below (Kd.R_drewN HK.out (nq + nk)) hb3)
                    have HBW3 : Aside0 (Below wo.heap.size wo w3) := ⟨HBW.out.trans ((pw_below_drewN (Below.refl _ _) (nq + nk)).trans (hb3.mono hszx))⟩
                    have hk3 := HCELL.out w3 HLB3.out
                    clear HK HLB HBW HMK2 HCL HJA hb3 hx2
                    go_wp2_with fail
                    go_roundg (n - (j + 1))
                    case measure => omega
                    case rel => exact ⟨j + 1, x, kept, vk, by go_num, rfl, rfl, by omega, by omega, by omega, by omega, HK3, HBW3, HLB3, hxx, HE2, HD2⟩
                  | true =>
                    have HE2 : Hid (compM ((l.drop (i + 1)).takeWhile isMk) c [] = compM ((l.drop (j + 1)).takeWhile isMk) c' (kept ++ [c2])) := hE.trans (if_pos rfl)
                    clear hE hJ
                    go_wp2_with (first | (go_at_call 67; refine (HMK2.out _).mono ?_; rintro e w' ⟨rfl, ⟨nq, rfl⟩⟩) | (go_at_call 68; refine (HCL.out _).mono ?_; rintro e w' ⟨rfl, ⟨nk, rfl⟩⟩))
                    refine (HJA.out _).mono ?_
                    rintro e w3 ⟨rfl, hb3⟩
                    have hx3 := (hb3.cell hadb).trans hx2
                    have HLB3 := Aside0.mk ((hb3.block _ (blk_lt HLB.out)).trans HLB.out)
                    have HK3 := Aside0.mk (Kd.R_below (Kd.R_drewN HK.out (nq + nk)) hb3)
                    have HBW3 : Aside0 (Below wo.heap.size wo w3) := ⟨HBW.out.trans ((pw_below_drewN (Below.refl _ _) (nq + nk)).trans (hb3.mono hszx))⟩
                    have hk3 := HCELL.out w3 HLB3.out
                    have hf3 : w3.frozen? ⟨wo.heap.size, kN, none⟩ = false := blk_frozen HLB3.out kN
                    clear HK HLB HBW HMK2 HCL HJA hb3 hx2
                    have hszy := HBW3.out.size
                    obtain ⟨Ak, ck, rfl⟩ := Kd.R_slice HK3.out
                    have hown := Kd.own_of_R HK3.out
                    obtain ⟨i0, hi0, hz0, hz1, hz2⟩ := info_parts info3
                    have hne3 := Kd.R_ne HK3.out HLB3.out (by decide)
                    have hj0 : (0 : Int) ≤ (j : Int) := Int.natCast_nonneg _
                    have hk0 : (0 : Int) ≤ (kN : Int) := Int.natCast_nonneg _
                    have hk4 : (kN : Int) < 4 := by omega
                    have hkl2 : kept.length + 1 ≤ 200001 := by omega
                    have hwo : wo.heap.size < w3.heap.size := blk_lt HLB3.out
                    have hfar : ∀ a : Addr, a.block < w1.heap.size → some a.block ≠ (Value.slice Ak kept.length ck).ownBlock := fun a ha e => by have := Kd.R_base HK3.out _ e.symm; omega
                    have had3 : (ad.add j).block < w3.heap.size := by omega
                    obtain ⟨cv, hcv⟩ : ∃ cv : World → Value, ∀ (w' : World) (v : Value), w'.cell? ⟨wo.heap.size, kN, none⟩ = some v → w'.cell? ⟨wo.heap.size, kN, none⟩ = some (cv w') := ⟨fun w' => (w'.cell? ⟨wo.heap.size, kN, none⟩).getD undef, fun w' v h => by simp [h]⟩
                    have HCV := Lib.hid hcv
                    have hadw : ad.block < w1.heap.size := by have := had1; unfold Addr.add at this; split at this <;> exact this
                    have hadne : (ad.add j).block ≠ wo.heap.size := by omega
                    clear hcv
                    go_wp2_with fail
                    go_region_held3 (fun w' => w'.cell? (ad.add j) = some (.int .i64 c2) ∧ w'.cell? ⟨wo.heap.size, kN, none⟩ = some (cv w') ∧ w'.frozen? ⟨wo.heap.size, kN, none⟩ = false) (first | exact ⟨cl_alloc _ hx3, HCV.out _ _ (cl_alloc _ hk3), fz_alloc _ hf3 hwo⟩ | exact ⟨(hgrow.cell_far _ (by simp; omega) (hfar _ had1)).trans (cl_alloc _ hx3), HCV.out _ _ ((hgrow.cell_far _ (by simp; omega) hne3).trans (cl_alloc _ hk3)), (hgrow.frozen_far _ (by simp; omega) hne3).trans (fz_alloc _ hf3 hwo)⟩ | exact ⟨st_other _ ((hgrow.cell_far _ (by simp; omega) (hfar _ had1)).trans (cl_alloc _ hx3)) hadne, HCV.out _ (.bool true) (st_same _ ((hgrow.cell_far _ (by simp; omega) hne3).trans (cl_alloc _ hk3))), st_frozen _ ((hgrow.frozen_far _ (by simp; omega) hne3).trans (fz_alloc _ hf3 hwo))⟩ | exact ⟨hx3, HCV.out _ _ hk3, hf3⟩ | go_keep) ((refine step_append_lies _ (by rfl) _ _ _ (by rfl) wo.heap.size 3 i0 _ 1 8 Tryd.underlying35 hi0 hz0 hz1 hz2 rfl (by omega) (.slice Ak kept.length ck) kept.length (encs (Value.int .i64) kept) (by rfl) ((hown.alloc _).drew) ⟨w3.heap.size, 0, none⟩ 1 1 [.int .i64 c2] (by rfl) (by rfl) (World.news_of_block (cs := #[.int .i64 c2]) (t := 3) (fr := (0, 0)) (heap_alloc_new w3 _)) (by simp [Value.oneCell']) (by omega) (by unfold maxLen; omega) (by omega) (by simp; omega) (w3.heap.size + 1) (by simp) ?_; intro gg cap w5 hown1 hgrow hat hlt))
                    have HLB5 : w5.heap[wo.heap.size]? = some (.cells (leftB kept) 63 (0, 0)) := blk_grown (g := wo.heap.size) (w := (w3.alloc (.cells #[.int .i64 c2] 3)).drew) ((Lib.alloc_old w3 _ _ hwo).trans HLB3.out) hgrow hne3
                    have HR5 : Kd.R (Kd.int .i64) 3 w5 wo.heap.size (fun _ => True) (.slice (some ⟨gg, 0, none⟩) (kept.length + 1) cap) (kept ++ [c2]) := Kd.R_of_own (by simpa [encs] using hown1) (fun _ _ => trivial)
                    have HR6 := Aside0.mk (Kd.R_set HR5 HLB5 (by intro q hq; simp [Kd.int, Kd.scalar] at hq; omega) kN (.bool true))
                    have HLB6 := Aside0.mk (blk_put HLB5 kN (.bool true) HSET.out)
                    have HBW6 := Aside0.mk ((((HBW3.out.alloc hszy (.cells #[.int .i64 c2] 3)).drew).grown hgrow (by simp; omega) (fun k hk => Kd.R_base HK3.out k hk)).setCell (p := ⟨wo.heap.size, kN, none⟩) (Nat.le_refl _) (.bool true))
                    clear hgrow hat hlt hown1 HLB5 HR5 HK3 HLB3 HBW3 hown hx3 hk3 hf3 hne3
                    go_wp2_with fail
                    go_roundg (n - (j + 1))
                    case measure => omega
                    case rel => exact ⟨j + 1, c', kept ++ [c2], _, by go_num, rfl, rfl, by omega, by omega, by omega, by simp; omega, HR6, HBW6, HLB6, HC, HE2, HD2⟩
            · have hjz : ¬ (j : Int) < (n : Int) := by omega
              have hjd : l.drop j = [] := List.drop_of_length_le (by have := HN.out; omega)
              have HE2 : Hid (compM ((l.drop (i + 1)).takeWhile isMk) c [] = (c', kept)) := by have := HE.out; rw [hjd] at this; exact this
              have HD2 : Hid ((l.drop (i + 1)).dropWhile isMk = l.drop j) := by have := HDr.out; rw [hjd] at this ⊢; exact this
              clear HE HDr hjd
              go_wp2_with fail
              go_meet
              exact ⟨j, c', kept, vk, rfl, rfl, rfl, hij, hjn, hkl, HK, HBW, HE2, HD2⟩
        case rest =>
          clear HBW HLB
          obtain ⟨j, c', kept, vk, rfl, rfl, rfl, hij, hjn, hkl, HK, HBW, HE, HDr⟩ := hcut
          have HT3 : Hid ((out ++ [c'] ++ kept) ++ compF f (l.drop j) = T) := by
            have := HT2.out
            rw [HE.out, HDr.out] at this
            show _ = _
            rw [← this]
            simp
          clear HT2 HE HDr
          have hszx := HBW.out.size
          have HO2 := Aside0.mk (Kd.R_below HO.out HBW.out)
          have HB2 := Aside0.mk (below_step HB.out HBW.out)
          obtain ⟨Ak, ck, rfl⟩ := Kd.R_slice HK.out
          have HKB := Aside0.mk (Kd.R_mono (ok' := fun k => wo.heap.size ≤ k) (Kd.R_bound HK.out) (fun _ hk => hk.2.1))
          have HVB : Hid (∀ k, vo.ownBlock = some k → k < wo.heap.size) := fun k hk => Kd.R_lt HO.out k hk
          have hsz2 := HB2.out.size
          clear HO HB HK HBW
          go_wp2_with (first | ((with_reducible refine gate_dst (N := 81) rfl ?_); refine Kd.R_append_row (Value.int .i64) 0 (w0 := w1) w1.heap.size rfl (.tmp 78) (.tmp 80) 35 3 (.int .i64 0) 8 rfl Tryd.underlying35 info3 rfl (by decide) vo out [c'] (some ⟨wc.heap.size, 0, none⟩) 1 1 (fun _ => True) rfl rfl (fun _ _ => trivial) (Kd.R_alloc HO2.out _) (Kd.R_reads' (R_lits wc wc.heap.size w1.heap.size [c'] rfl hsz2 (by simp))).2.2 (below_alloc HB2.out _) (by simp; omega) (by omega) ?_; intro v1 w3 hr3 hb3 hg3 hat3; clear hat3; (try dsimp only [Act.put]); (try simp only [List.set_toArray, List.setIfInBounds_toArray, List.set_cons_succ, List.set_cons_zero])) | ((with_reducible refine gate_dst (N := 83) rfl ?_); refine Kd.R_append_row (Value.int .i64) 0 (w0 := w1) w1.heap.size rfl (.tmp 81) (.tmp 82) 35 3 (.int .i64 0) 8 rfl Tryd.underlying35 info3 rfl (by decide) v1 (out ++ [c']) kept Ak kept.length ck (fun _ => True) rfl rfl (fun _ _ => trivial) hr3 ?kc hb3 hb3.size (by simp; omega) ?_; (case kc => exact (Kd.R_reads' (Kd.R_grown (Kd.R_alloc HKB.out _) hg3 (fun k hk e => by have := HVB.out k e.symm; omega))).2.2); intro v2 w4 hr4 hb4 hg4 hat4; clear hg4 hat4; (try dsimp only [Act.put]); (try simp only [List.set_toArray, List.setIfInBounds_toArray, List.set_cons_succ, List.set_cons_zero])))
          go_roundg (n - j)
          case measure => omega
          case rel => exact ⟨j, out ++ [c'] ++ kept, v2, f, by go_num, rfl, by omega, by omega, by omega, by simp; omega, ⟨hr4⟩, ⟨hb4⟩, HT3⟩
    · have hltz : ¬ (i : Int) < (n : Int) := by omega
      have hfin : out = T := by have := HT.out; rw [List.drop_of_length_le (by have := HN.out; omega), compF_nil, List.append_nil] at this; exact this
      subst hfin
      obtain ⟨Ao, co, rfl⟩ := Kd.R_slice HO.out
      have HF := Lib.hid (HX.out Ao co wo (Kd.R_reads' HO.out).2.2 (Kd.R_reads' HO.out).2.1)
      go_wp2_with fail
      refine HF.out.mono ?_
      rintro e w3 ⟨rfl, hb3⟩
      have HB3 := Lib.hid (below_step (below_step HB1.out HB.out) hb3)
      clear hb3
      go_wp2_with fail
      go_ret
      exact ⟨rfl, HB3.out⟩
def normal_Compose.f (a0 : ByteArray) : Option ByteArray := (normal_decomposed.f a0).bind fun b => if ComposeOk b.1 then normal_text.f (compS b.1) else none
theorem normal_Compose.calls (a0 : ByteArray) (r : ByteArray) (w : World) (hG : GT1 w) (h : normal_Compose.f a0 = some r) :
    Calls Tryd.prog 40 #[.string a0] w fun e w' => e = .returned (.string r) ∧ Below w.heap.size w w' := by
  unfold normal_Compose.f at h
  obtain ⟨⟨l, okb⟩, h1, h2⟩ := Option.bind_eq_some_iff.1 h
  simp only at h2
  split at h2
  · rename_i ho
    exact compose_walk a0 w hG l okb h1 ho r h2
  · exact absurd h2 (by simp)
end Go.Proofs.YthcpdhniakpbaaaDoor.X
end

section
namespace Go.Proofs.YthcpdhniakpbaaaDoor.X
open Go.RowKit Go.Sort Go.Lib
set_option linter.unusedVariables false
set_option linter.unusedSimpArgs false
def NoHead (l : List Int) : Prop := ∀ c r, l = c :: r → isMk c = false
theorem NoHead.nil : NoHead [] := fun _ _ h => by cases h
theorem NoHead.cons {c : Int} {r : List Int} (h : isMk c = false) : NoHead (c :: r) := fun _ _ e => by injection e with e _; rw [← e]; exact h
theorem NoHead.take {l : List Int} (h : NoHead l) : l.takeWhile isMk = [] := by
  cases l with
  | nil => rfl
  | cons c r => rw [List.takeWhile_cons, h c r rfl]; rfl
theorem NoHead.drop {l : List Int} (h : NoHead l) : l.dropWhile isMk = l := by
  cases l with
  | nil => rfl
  | cons c r => rw [List.dropWhile_cons, h c r rfl]; rfl
theorem drop_noHead : ∀ l : List Int, NoHead (l.dropWhile isMk)
  | [] => NoHead.nil
  | c :: r => by
    rw [List.dropWhile_cons]
    cases h : isMk c with
    | true => simpa using drop_noHead r
    | false => simpa [h] using NoHead.cons (r := r) h
theorem take_marks (l : List Int) : ∀ x ∈ l.takeWhile isMk, isMk x = true := by
  intro x hx
  induction l with
  | nil => simp at hx
  | cons c r ih =>
    rw [List.takeWhile_cons] at hx
    split at hx
    · rename_i h
      rcases List.mem_cons.1 hx with rfl | hx
      · exact h
      · exact ih hx
    · simp at hx
theorem runF_more : ∀ (f : Nat) (l : List Int), l.length ≤ f → runF f l = runF l.length l
  | f, [], h => by rw [runF_nil, runF_nil]
  | 0, c :: r, h => by simp at h
  | f + 1, c :: r, h => by
    rw [List.length_cons, runF, runF]
    have hl : ((c :: r).dropWhile isMk).length ≤ r.length + 1 := by have := takeDrop_len (c :: r); simp at this ⊢; omega
    congr 1
    cases hd : (c :: r).dropWhile isMk with
    | nil => rfl
    | cons x y =>
      rw [hd] at hl
      simp only
      rw [runF_more f y (by simp at hl h; omega), runF_more r.length y (by simp at hl; omega)]
theorem runS_eq (l : List Int) : runS l = sortS (l.takeWhile isMk) ++ (match l.dropWhile isMk with | [] => [] | c :: r => c :: runS r) := by
  unfold runS
  rw [← runF_more (l.length + 1) l (by omega), runF]
  have hl := takeDrop_len l
  congr 1
  cases hd : l.dropWhile isMk with
  | nil => rfl
  | cons x y =>
    rw [hd] at hl
    simp only
    rw [runF_more l.length y (by simp at hl; omega)]
theorem runS_nil : runS [] = [] := rfl
theorem runS_cons {c : Int} (h : isMk c = false) (r : List Int) : runS (c :: r) = c :: runS r := by
  rw [runS_eq, List.takeWhile_cons, List.dropWhile_cons, h]
  rfl
theorem runS_marks {M X : List Int} (hM : ∀ x ∈ M, isMk x = true) (hX : NoHead X) : runS (M ++ X) = sortS M ++ runS X := by
  rw [runS_eq, runS_eq X, List.takeWhile_append_of_pos hM, List.dropWhile_append_of_pos hM, hX.take, hX.drop]
  simp [sortS_nil]
theorem runS_length : ∀ (n : Nat) (l : List Int), l.length ≤ n → (runS l).length = l.length
  | 0, l, h => by
    have : l = [] := List.length_eq_zero_iff.1 (by omega)
    subst this; rfl
  | n + 1, l, h => by
    have hl := takeDrop_len l
    rw [runS_eq, List.length_append, sortS_length]
    cases hd : l.dropWhile isMk with
    | nil => rw [hd] at hl; simpa using hl
    | cons c r =>
      rw [hd] at hl
      simp only [List.length_cons] at hl ⊢
      rw [runS_length n r (by omega)]
      omega
theorem runS_mem : ∀ (n : Nat) (l : List Int), l.length ≤ n → ∀ x, x ∈ runS l ↔ x ∈ l
  | 0, l, h, x => by
    have : l = [] := List.length_eq_zero_iff.1 (by omega)
    subst this; rfl
  | n + 1, l, h, x => by
    have hl := takeDrop_len l
    have e : x ∈ l ↔ x ∈ l.takeWhile isMk ∨ x ∈ l.dropWhile isMk := by rw [← List.mem_append, List.takeWhile_append_dropWhile]
    rw [runS_eq, List.mem_append, sortS_mem, e]
    cases hd : l.dropWhile isMk with
    | nil => rfl
    | cons c r =>
      rw [hd] at hl
      simp only [List.mem_cons, List.length_cons] at hl ⊢
      rw [runS_mem n r (by omega)]
theorem runS_idem : ∀ (n : Nat) (l : List Int), l.length ≤ n → runS (runS l) = runS l
  | 0, l, h => by
    have : l = [] := List.length_eq_zero_iff.1 (by omega)
    subst this; rfl
  | n + 1, l, h => by
    have hl := takeDrop_len l
    have hm : ∀ x ∈ sortS (l.takeWhile isMk), isMk x = true := fun x hx => take_marks l x (sortS_mem.1 hx)
    rw [runS_eq l]
    cases hd : l.dropWhile isMk with
    | nil =>
      simp only [List.append_nil]
      have h2 := runS_marks hm NoHead.nil
      rw [List.append_nil, runS_nil, List.append_nil] at h2
      rw [h2, sortS_id (sortS_srt _)]
    | cons c r =>
      rw [hd] at hl
      have hc : isMk c = false := drop_noHead l c r hd
      simp only
      rw [runS_marks hm (NoHead.cons hc), sortS_id (sortS_srt _), runS_cons hc, runS_idem n r (by simp at hl; omega)]
def Atom (c : Int) : Prop := splitS c = [c] ∧ hasS c = true
theorem flat_atoms : ∀ l : List Int, (∀ x ∈ l, Atom x) → l.flatMap splitS = l
  | [], _ => rfl
  | c :: r, h => by rw [List.flatMap_cons, (h c (by simp)).1, flat_atoms r (fun x hx => h x (by simp [hx]))]; rfl
def nrowsB : Bool := nrows.all fun r => (r.b.all fun x => splitS x == [x] && !isMk x) && splitS r.mark == [r.mark] && isMk r.mark && (r.l.all fun x => !isMk x && nrows.all fun q => !q.b.contains x)
  && ((List.range r.l.length).all fun i => splitS (r.l.getD i 0) == [r.b.getD i 0, r.mark] && joinS (r.b.getD i 0) r.mark == some (r.l.getD i 0) && plc r.l (r.l.getD i 0) == i && plc r.b (r.b.getD i 0) == i)
theorem nrowsB_true : nrowsB = true := by decide +kernel
structure RowFacts (r : NRow) : Prop where
  base : ∀ x ∈ r.b, splitS x = [x] ∧ isMk x = false
  mark : splitS r.mark = [r.mark] ∧ isMk r.mark = true
  letter : ∀ x ∈ r.l, isMk x = false ∧ ∀ q ∈ nrows, x ∉ q.b
  pair : ∀ i, i < r.l.length → splitS (r.l.getD i 0) = [r.b.getD i 0, r.mark] ∧ joinS (r.b.getD i 0) r.mark = some (r.l.getD i 0) ∧ plc r.l (r.l.getD i 0) = i ∧ plc r.b (r.b.getD i 0) = i
theorem row_facts {r : NRow} (h : r ∈ nrows) : RowFacts r := by
  have h0 := List.all_eq_true.1 nrowsB_true r h
  simp only [Bool.and_eq_true, List.all_eq_true, beq_iff_eq, Bool.not_eq_true', List.mem_range] at h0
  obtain ⟨⟨⟨⟨h1, h2⟩, h3⟩, h4⟩, h5⟩ := h0
  exact ⟨fun x hx => h1 x hx, ⟨h2, h3⟩, fun x hx => ⟨(h4 x hx).1, fun q hq hm => by have := (h4 x hx).2 q hq; simp at this; exact this hm⟩, fun i hi => by have := h5 i hi; exact ⟨this.1.1.1, this.1.1.2, this.1.2, this.2⟩⟩
theorem marks_atoms : ((List.range 64).all fun n => !isMk (768 + n) || splitS (768 + n) == [(768 + n : Int)]) = true := by decide +kernel
theorem isMk_range {c : Int} (h : isMk c = true) : 768 ≤ c ∧ c ≤ 808 := by
  have h2 : (classS c).2 = 2 := by unfold isMk at h; simpa using h
  unfold classS classN at h2
  have hn : narrow c = c ∨ (65281 ≤ c ∧ c ≤ 65374 ∧ narrow c = c - 65248) := by unfold narrow; split <;> omega
  split at h2
  · simp at h2
  · split at h2
    · simp at h2
    · split at h2
      · simp at h2
      · split at h2
        · simp at h2
        · split at h2
          · rename_i hm
            unfold markS at hm
            have hm := of_decide_eq_true hm
            omega
          · split at h2 <;> simp at h2
theorem mark_atom {c : Int} (h : isMk c = true) : Atom c := by
  have hr := isMk_range h
  have := List.all_eq_true.1 marks_atoms (c - 768).toNat (List.mem_range.2 (by omega))
  rw [show (768 : Int) + ((c - 768).toNat : Int) = c by omega, h] at this
  exact ⟨by simpa using this, isMk_has h⟩
end Go.Proofs.YthcpdhniakpbaaaDoor.X
end

section
namespace Go.Proofs.YthcpdhniakpbaaaDoor.X
open Go.RowKit Go.Proofs.YthcpdhniakpbaaaDoorW.PrintWords Go.Proofs.YthcpdhniakpbaaaDoorW.PrintLast Go.Proofs.YthcpdhniakpbaaaDoorW.PrintMore
attribute [local go_sem] max2_int min2_int max_two min_two max_three min_three max_four min_four
set_option linter.unusedVariables false
set_option linter.unusedSimpArgs false
def slices_Equal_int_int.l0 : Nat → List Int → List Int → Int → Int → Option (Bool)
  | 0, _, _, _, _ => none
  | k + 1, x0, x1, x12, x13 => if x13 < x12 then (if 0 ≤ x13 then (if x13 < (x0.length : Int) then (if x13 < (x1.length : Int) then (if (rd x0 x13) = (rd x1 x13) then (slices_Equal_int_int.l0 k x0 x1 x12 (wrap64 (x13 + 1))) else (some false)) else (none)) else (none)) else (none)) else (some true)
def slices_Equal_int_int.f (k : Nat) (l0 : List Int) (l1 : List Int) : Option (Bool) := if (l0.length : Int) = (l1.length : Int) then (slices_Equal_int_int.l0 k l0 l1 (l0.length : Int) 0) else (some false)
set_option maxHeartbeats 8000000 in
set_option maxRecDepth 100000 in
theorem slices_Equal_int_int.calls (k : Nat) (A0 : Option Addr) (c0 : Nat) (l0 : List Int) (A1 : Option Addr) (c1 : Nat) (l1 : List Int) (r : Bool) (w : World) (hr0 : Kd.C (Kd.int .i64) w A0 l0.length l0) (hc0 : l0.length ≤ c0) (hr1 : Kd.C (Kd.int .i64) w A1 l1.length l1) (hc1 : l1.length ≤ c1) (h : slices_Equal_int_int.f k l0 l1 = some r) :
    Calls Tryd.prog 74 #[.slice A0 l0.length c0, .slice A1 l1.length c1] w fun e w' => e = .returned (.bool r) ∧ Drawn0 w w' := by
  have HR0 := Aside0.mk hr0
  have HC0 := Aside0.mk hc0
  clear hr0 hc0
  have HR1 := Aside0.mk hr1
  have HC1 := Aside0.mk hc1
  clear hr1 hc1
  have H : (if (l0.length : Int) = (l1.length : Int) then (slices_Equal_int_int.l0 k l0 l1 (l0.length : Int) 0) else (some false)) = some r := h
  clear h
  by_cases c3 : (l0.length : Int) = (l1.length : Int)
  · rw [if_pos c3] at H
    have c3b0 : ((l0.length : Int) == (l1.length : Int)) = true := beq_iff_eq.mpr c3
    have c3b1 : ((l0.length : Int) != (l1.length : Int)) = false := bne_eq_false_iff_eq.mpr c3
    have c3b2 : (l0.length == l1.length) = true := by first | simpa using c3 | (simp at c3 ⊢; omega)
    clear c3
    have H' := Aside0.mk H
    clear H
    go_enter Tryd.func74, Tryd.ntmps74
    go_wp2
    repeat (go_quiet (fail); try go_wp2)
    go_loopg [13] k (fun kq v13 w' => ∃ (x13_1 : Int), v13 = .int .i64 x13_1 ∧ Aside0 (slices_Equal_int_int.l0 kq l0 l1 (l0.length : Int) x13_1 = some r) ∧ Aside0 (kq ≤ k) ∧ Drawn0 w w')
    case atStart => exact ⟨(0), (by first | rfl | (simp; done) | (simp [*]; done)), H', ⟨Nat.le_refl _⟩, by repeat (first | exact Drawn0.refl _ | apply Drawn0.step)⟩
    case round =>
      clear H'
      try clear c1
      try clear p2
      try clear c3
      try clear c3b0
      try clear c3b1
      try clear c3b2
      obtain ⟨x13_1, rfl, HA, HK1, ⟨m1, rfl⟩⟩ := hrel
      cases gk with
      | zero => exact absurd HA.out (by simp [slices_Equal_int_int.l0])
      | succ k1 =>
        have H := HA.out
        clear HA
        simp only [slices_Equal_int_int.l0] at H
        by_cases c4 : x13_1 < (l0.length : Int)
        · rw [if_pos c4] at H
          have c4b0 : decide (x13_1 < (l0.length : Int)) = true := decide_eq_true c4
          clear c4
          by_cases c5 : 0 ≤ x13_1
          · rw [if_pos c5] at H
            have c5b0 : decide (0 ≤ x13_1) = true := decide_eq_true c5
            clear c5
            by_cases c6 : x13_1 < (l0.length : Int)
            · rw [if_pos c6] at H
              have c6b0 : decide (x13_1 < (l0.length : Int)) = true := decide_eq_true c6
              clear c6
              by_cases c7 : x13_1 < (l1.length : Int)
              · rw [if_pos c7] at H
                have c7b0 : decide (x13_1 < (l1.length : Int)) = true := decide_eq_true c7
                clear c7
                by_cases c8 : (rd l0 x13_1) = (rd l1 x13_1)
                · rw [if_pos c8] at H
                  have c8b0 : ((rd l0 x13_1) == (rd l1 x13_1)) = true := beq_iff_eq.mpr c8
                  have c8b1 : ((rd l0 x13_1) != (rd l1 x13_1)) = false := bne_eq_false_iff_eq.mpr c8
                  clear c8
                  have H' := Aside0.mk H
                  clear H
                  have p213 : 0 ≤ (x13_1 : Int) := of_decide_eq_true (by first | (with_reducible assumption) | assumption)
                  have q213 : x13_1 < (l0.length : Int) := of_decide_eq_true (by first | (with_reducible assumption) | assumption)
                  obtain ⟨ad213, e213, hx213_0⟩ := Kd.at_int HR0.out x13_1 p213 q213
                  cases e213
                  replace p213 := eq_true p213
                  replace q213 := eq_true q213
                  have p214 : 0 ≤ (x13_1 : Int) := of_decide_eq_true (by first | (with_reducible assumption) | assumption)
                  have q214 : x13_1 < (l1.length : Int) := of_decide_eq_true (by first | (with_reducible assumption) | assumption)
                  obtain ⟨ad214, e214, hx214_0⟩ := Kd.at_int HR1.out x13_1 p214 q214
                  cases e214
                  replace p214 := eq_true p214
                  replace q214 := eq_true q214
                  go_wp2
                  repeat (go_quiet (fail); try go_wp2)
                  go_roundg k1
                  case measure => have := HK1.out; omega
                  case rel => exact ⟨(wrap64 (x13_1 + 1)), (by first | rfl | (simp; done) | (simp [*]; done)), H', ⟨by have := HK1.out; omega⟩, by repeat (first | exact Drawn0.refl _ | apply Drawn0.step)⟩
                · rw [if_neg c8] at H
                  have c8b0 : ((rd l0 x13_1) == (rd l1 x13_1)) = false := beq_eq_false_iff_ne.mpr c8
                  have c8b1 : ((rd l0 x13_1) != (rd l1 x13_1)) = true := bne_iff_ne.mpr c8
                  obtain rfl := Option.some.inj H
                  have p213 : 0 ≤ (x13_1 : Int) := of_decide_eq_true (by first | (with_reducible assumption) | assumption)
                  have q213 : x13_1 < (l0.length : Int) := of_decide_eq_true (by first | (with_reducible assumption) | assumption)
                  obtain ⟨ad213, e213, hx213_0⟩ := Kd.at_int HR0.out x13_1 p213 q213
                  cases e213
                  replace p213 := eq_true p213
                  replace q213 := eq_true q213
                  have p214 : 0 ≤ (x13_1 : Int) := of_decide_eq_true (by first | (with_reducible assumption) | assumption)
                  have q214 : x13_1 < (l1.length : Int) := of_decide_eq_true (by first | (with_reducible assumption) | assumption)
                  obtain ⟨ad214, e214, hx214_0⟩ := Kd.at_int HR1.out x13_1 p214 q214
                  cases e214
                  replace p214 := eq_true p214
                  replace q214 := eq_true q214
                  go_wp2
                  repeat (go_quiet (fail); try go_wp2)
                  go_ret
                  exact ⟨by first | rfl | (simp; done) | (simp [*]; done), by repeat (first | exact Drawn0.refl _ | apply Drawn0.step)⟩
              · rw [if_neg c7] at H
                exact absurd H (by simp)
            · rw [if_neg c6] at H
              exact absurd H (by simp)
          · rw [if_neg c5] at H
            exact absurd H (by simp)
        · rw [if_neg c4] at H
          have c4b0 : decide (x13_1 < (l0.length : Int)) = false := decide_eq_false c4
          clear c4
          obtain rfl := Option.some.inj H
          go_wp2
          repeat (go_quiet (fail); try go_wp2)
          go_ret
          exact ⟨by first | rfl | (simp; done) | (simp [*]; done), by repeat (first | exact Drawn0.refl _ | apply Drawn0.step)⟩
  · rw [if_neg c3] at H
    have c3b0 : ((l0.length : Int) == (l1.length : Int)) = false := beq_eq_false_iff_ne.mpr c3
    have c3b1 : ((l0.length : Int) != (l1.length : Int)) = true := bne_iff_ne.mpr c3
    have c3b2 : (l0.length == l1.length) = false := by first | simpa using c3 | (simp at c3 ⊢; omega)
    obtain rfl := Option.some.inj H
    go_enter Tryd.func74, Tryd.ntmps74
    go_wp2
    repeat (go_quiet (fail); try go_wp2)
    go_ret
    exact ⟨by first | rfl | (simp; done) | (simp [*]; done), by repeat (first | exact Drawn0.refl _ | apply Drawn0.step)⟩
def bookplateref05_class.j0 : Nat → Int → Bool → Option (Int)
  | 0, _, _ => none
  | k + 1, x12, x13 => if x13 = true then (some 1) else (if x12 = 803 then (some 2) else (some 3))
def bookplateref05_class.f (k : Nat) (a0 : Int) : Option (Int) := (bookplateref04_Class.f k a0).bind fun bt215 => (if bt215.2 = 2 then (if a0 = 807 then (bookplateref05_class.j0 k a0 (a0 == 807)) else (bookplateref05_class.j0 k a0 (a0 == 808))) else (some 0))
set_option maxHeartbeats 8000000 in
set_option maxRecDepth 100000 in
theorem bookplateref05_class.calls (k : Nat) (a0 : Int) (r : Int) (w : World) (h : bookplateref05_class.f k a0 = some r) :
    Calls Tryd.prog 70 #[.int .i64 a0] w fun e w' => e = .returned (.int .i64 r) ∧ Drawn0 w w' := by
  have H : ((bookplateref04_Class.f k a0).bind fun bt215 => (if bt215.2 = 2 then (if a0 = 807 then (bookplateref05_class.j0 k a0 (a0 == 807)) else (bookplateref05_class.j0 k a0 (a0 == 808))) else (some 0))) = some r := h
  clear h
  replace H := Option.bind_eq_some_iff.mp H
  obtain ⟨⟨t215, t216⟩, A20, H⟩ := H
  replace H : (if t216 = 2 then (if a0 = 807 then (bookplateref05_class.j0 k a0 (a0 == 807)) else (bookplateref05_class.j0 k a0 (a0 == 808))) else (some 0)) = some r := H
  have A2 := Aside0.mk A20
  clear A20
  by_cases c3 : t216 = 2
  · rw [if_pos c3] at H
    have c3b0 : (t216 == 2) = true := beq_iff_eq.mpr c3
    have c3b1 : (t216 != 2) = false := bne_eq_false_iff_eq.mpr c3
    clear c3
    have HC4 := Aside0.mk H
    clear H
    go_enter Tryd.func70, Tryd.ntmps70
    go_upto_if 13 with (first | ((with_reducible refine gate_callee (f := 63) rfl ?_); refine goesL_ (some 7) rfl rfl Tryd.func63 (by kernel_rfl) rfl #[.int .i64 a0] rfl (by (try simp only [List.map_toArray, List.map_cons, List.map_nil]); first | done | rfl | (simp only [List.length_drop, List.length_take]; rfl)) ?_; (with_reducible refine (bookplateref04_Class.calls k a0 t215 t216 _ A2.out).mono ?_); rintro e w' ⟨rfl, ⟨nd, rfl⟩⟩; refine ⟨_, rfl, ?_⟩))
    (try simp only [Act.put, List.setIfInBounds_toArray, List.set_cons_zero, List.set_cons_succ])
    go_cut [13] (fun v13 wc => ∃ (kq : Nat) (x13_3 : Bool), v13 = .bool x13_3 ∧ Aside0 (bookplateref05_class.j0 kq a0 x13_3 = some r) ∧ Aside0 (kq ≤ k) ∧ Drawn0 w wc)
    case first =>
      have H := HC4.out
      clear HC4
      by_cases c5 : a0 = 807
      · rw [if_pos c5] at H
        have c5b0 : (a0 == 807) = true := beq_iff_eq.mpr c5
        have c5b1 : (a0 != 807) = false := bne_eq_false_iff_eq.mpr c5
        clear c5
        (first | rw [c5b0] | (simp only [i64_w, i32_w]; rw [c5b0]) | skip)
        have H' := Aside0.mk H
        clear H
        go_wp2
        go_meet
        case rel => exact ⟨_, ((a0 == 807)), (by first | rfl | (simp; done) | (simp [*]; done)), H', ⟨by first | omega | exact Nat.le_refl _⟩, by repeat (first | exact Drawn0.refl _ | apply Drawn0.step)⟩
      · rw [if_neg c5] at H
        have c5b0 : (a0 == 807) = false := beq_eq_false_iff_ne.mpr c5
        have c5b1 : (a0 != 807) = true := bne_iff_ne.mpr c5
        (first | rw [c5b0] | (simp only [i64_w, i32_w]; rw [c5b0]) | skip)
        have H' := Aside0.mk H
        clear H
        go_wp2
        go_meet
        case rel => exact ⟨_, ((a0 == 808)), (by first | rfl | (simp; done) | (simp [*]; done)), H', ⟨by first | omega | exact Nat.le_refl _⟩, by repeat (first | exact Drawn0.refl _ | apply Drawn0.step)⟩
    case rest =>
      clear HC4
      try clear p2
      try clear c3
      try clear c3b0
      try clear c3b1
      try clear c5
      try clear c5b0
      try clear c5b1
      obtain ⟨kq, x13_3, rfl, HA, HJ3, ⟨mc3, rfl⟩⟩ := hcut
      cases kq with
      | zero => exact absurd HA.out (by simp [bookplateref05_class.j0])
      | succ kj3 =>
        have H := HA.out
        clear HA
        simp only [bookplateref05_class.j0] at H
        by_cases c6 : x13_3 = true
        · subst c6
          have H1 : (some 1) = some r := by rw [if_pos rfl] at H; exact H
          clear H
          have H := H1
          clear H1
          obtain rfl := Option.some.inj H
          go_wp2
          go_ret
          exact ⟨by first | rfl | (simp; done) | (simp [*]; done), by repeat (first | exact Drawn0.refl _ | apply Drawn0.step)⟩
        · replace c6 := Bool.eq_false_iff.mpr c6
          subst c6
          have H1 : (if a0 = 803 then (some 2) else (some 3)) = some r := by rw [if_neg (show ¬ (false = true) by decide)] at H; exact H
          clear H
          have H := H1
          clear H1
          by_cases c7 : a0 = 803
          · rw [if_pos c7] at H
            have c7b0 : (a0 == 803) = true := beq_iff_eq.mpr c7
            have c7b1 : (a0 != 803) = false := bne_eq_false_iff_eq.mpr c7
            clear c7
            obtain rfl := Option.some.inj H
            go_wp2
            go_ret
            exact ⟨by first | rfl | (simp; done) | (simp [*]; done), by repeat (first | exact Drawn0.refl _ | apply Drawn0.step)⟩
          · rw [if_neg c7] at H
            have c7b0 : (a0 == 803) = false := beq_eq_false_iff_ne.mpr c7
            have c7b1 : (a0 != 803) = true := bne_iff_ne.mpr c7
            obtain rfl := Option.some.inj H
            go_wp2
            go_ret
            exact ⟨by first | rfl | (simp; done) | (simp [*]; done), by repeat (first | exact Drawn0.refl _ | apply Drawn0.step)⟩
  · rw [if_neg c3] at H
    have c3b0 : (t216 == 2) = false := beq_eq_false_iff_ne.mpr c3
    have c3b1 : (t216 != 2) = true := bne_iff_ne.mpr c3
    obtain rfl := Option.some.inj H
    go_enter Tryd.func70, Tryd.ntmps70
    go_wp2_with (first | ((with_reducible refine gate_callee (f := 63) rfl ?_); refine goesL_ (some 7) rfl rfl Tryd.func63 (by kernel_rfl) rfl #[.int .i64 a0] rfl (by (try simp only [List.map_toArray, List.map_cons, List.map_nil]); first | done | rfl | (simp only [List.length_drop, List.length_take]; rfl)) ?_; (with_reducible refine (bookplateref04_Class.calls k a0 t215 t216 _ A2.out).mono ?_); rintro e w' ⟨rfl, ⟨nd, rfl⟩⟩; refine ⟨_, rfl, ?_⟩))
    go_ret
    exact ⟨by first | rfl | (simp; done) | (simp [*]; done), by repeat (first | exact Drawn0.refl _ | apply Drawn0.step)⟩
def bookplateref05_rows.f  : Option ((List (S96))) := some (([(⟨768, (⟨#[195, 128, 195, 136, 195, 140, 195, 146, 195, 153, 195, 160, 195, 168, 195, 172, 195, 178, 195, 185]⟩ : ByteArray), (⟨#[65, 69, 73, 79, 85, 97, 101, 105, 111, 117]⟩ : ByteArray)⟩ : S96), (⟨769, (⟨#[195, 129, 195, 137, 195, 141, 195, 147, 195, 154, 195, 157, 195, 161, 195, 169, 195, 173, 195, 179, 195, 186, 195, 189, 196, 134, 196, 135, 196, 185, 196, 186, 197, 131, 197, 132, 197, 148, 197, 149, 197, 154, 197, 155, 197, 185, 197, 186, 206, 134, 206, 136, 206, 137, 206, 138, 206, 140, 206, 142, 206, 143, 206, 172, 206, 173, 206, 174, 206, 175, 207, 140, 207, 141, 207, 142]⟩ : ByteArray), (⟨#[65, 69, 73, 79, 85, 89, 97, 101, 105, 111, 117, 121, 67, 99, 76, 108, 78, 110, 82, 114, 83, 115, 90, 122, 206, 145, 206, 149, 206, 151, 206, 153, 206, 159, 206, 165, 206, 169, 206, 177, 206, 181, 206, 183, 206, 185, 206, 191, 207, 133, 207, 137]⟩ : ByteArray)⟩ : S96), (⟨770, (⟨#[195, 130, 195, 138, 195, 142, 195, 148, 195, 155, 195, 162, 195, 170, 195, 174, 195, 180, 195, 187, 196, 136, 196, 137, 196, 156, 196, 157, 196, 164, 196, 165, 196, 180, 196, 181, 197, 156, 197, 157, 197, 180, 197, 181, 197, 182, 197, 183]⟩ : ByteArray), (⟨#[65, 69, 73, 79, 85, 97, 101, 105, 111, 117, 67, 99, 71, 103, 72, 104, 74, 106, 83, 115, 87, 119, 89, 121]⟩ : ByteArray)⟩ : S96), (⟨771, (⟨#[195, 131, 195, 145, 195, 149, 195, 163, 195, 177, 195, 181, 196, 168, 196, 169, 197, 168, 197, 169]⟩ : ByteArray), (⟨#[65, 78, 79, 97, 110, 111, 73, 105, 85, 117]⟩ : ByteArray)⟩ : S96), (⟨772, (⟨#[196, 128, 196, 129, 196, 146, 196, 147, 196, 170, 196, 171, 197, 140, 197, 141, 197, 170, 197, 171]⟩ : ByteArray), (⟨#[65, 97, 69, 101, 73, 105, 79, 111, 85, 117]⟩ : ByteArray)⟩ : S96), (⟨774, (⟨#[196, 130, 196, 131, 196, 148, 196, 149, 196, 158, 196, 159, 196, 172, 196, 173, 197, 142, 197, 143, 197, 172, 197, 173, 208, 153, 208, 185, 208, 142, 209, 158]⟩ : ByteArray), (⟨#[65, 97, 69, 101, 71, 103, 73, 105, 79, 111, 85, 117, 208, 152, 208, 184, 208, 163, 209, 131]⟩ : ByteArray)⟩ : S96), (⟨775, (⟨#[196, 138, 196, 139, 196, 150, 196, 151, 196, 160, 196, 161, 196, 176, 197, 187, 197, 188]⟩ : ByteArray), (⟨#[67, 99, 69, 101, 71, 103, 73, 90, 122]⟩ : ByteArray)⟩ : S96), (⟨776, (⟨#[195, 132, 195, 139, 195, 143, 195, 150, 195, 156, 195, 164, 195, 171, 195, 175, 195, 182, 195, 188, 195, 191, 197, 184, 206, 170, 206, 171, 207, 138, 207, 139, 208, 129, 209, 145, 208, 135, 209, 151]⟩ : ByteArray), (⟨#[65, 69, 73, 79, 85, 97, 101, 105, 111, 117, 121, 89, 206, 153, 206, 165, 206, 185, 207, 133, 208, 149, 208, 181, 208, 134, 209, 150]⟩ : ByteArray)⟩ : S96), (⟨778, (⟨#[195, 133, 195, 165, 197, 174, 197, 175]⟩ : ByteArray), (⟨#[65, 97, 85, 117]⟩ : ByteArray)⟩ : S96), (⟨779, (⟨#[197, 144, 197, 145, 197, 176, 197, 177]⟩ : ByteArray), (⟨#[79, 111, 85, 117]⟩ : ByteArray)⟩ : S96), (⟨780, (⟨#[196, 140, 196, 141, 196, 142, 196, 143, 196, 154, 196, 155, 197, 135, 197, 136, 197, 152, 197, 153, 197, 160, 197, 161, 197, 164, 197, 165, 197, 189, 197, 190, 196, 189, 196, 190]⟩ : ByteArray), (⟨#[67, 99, 68, 100, 69, 101, 78, 110, 82, 114, 83, 115, 84, 116, 90, 122, 76, 108]⟩ : ByteArray)⟩ : S96), (⟨807, (⟨#[195, 135, 195, 167, 196, 162, 196, 163, 196, 182, 196, 183, 196, 187, 196, 188, 197, 133, 197, 134, 197, 150, 197, 151, 197, 158, 197, 159, 197, 162, 197, 163]⟩ : ByteArray), (⟨#[67, 99, 71, 103, 75, 107, 76, 108, 78, 110, 82, 114, 83, 115, 84, 116]⟩ : ByteArray)⟩ : S96), (⟨808, (⟨#[196, 132, 196, 133, 196, 152, 196, 153, 196, 174, 196, 175, 197, 178, 197, 179]⟩ : ByteArray), (⟨#[65, 97, 69, 101, 73, 105, 85, 117]⟩ : ByteArray)⟩ : S96)] : List (S96)))
set_option maxHeartbeats 8000000 in
set_option maxRecDepth 100000 in
theorem bookplateref05_rows.calls  (r : List (S96)) (w : World) (h : bookplateref05_rows.f  = some r) :
    Calls Tryd.prog 93 #[] w fun e w' => ∃ v0_ : Value, e = .returned (v0_) ∧ Kd.R k96 96 w' w.heap.size (fun _ => True) v0_ r ∧ Below w.heap.size w w' := by
  have hu96 := Tryd.underlying96
  have HB := Aside0.mk (Below.refl w.heap.size w)
  have H : (some (([(⟨768, (⟨#[195, 128, 195, 136, 195, 140, 195, 146, 195, 153, 195, 160, 195, 168, 195, 172, 195, 178, 195, 185]⟩ : ByteArray), (⟨#[65, 69, 73, 79, 85, 97, 101, 105, 111, 117]⟩ : ByteArray)⟩ : S96), (⟨769, (⟨#[195, 129, 195, 137, 195, 141, 195, 147, 195, 154, 195, 157, 195, 161, 195, 169, 195, 173, 195, 179, 195, 186, 195, 189, 196, 134, 196, 135, 196, 185, 196, 186, 197, 131, 197, 132, 197, 148, 197, 149, 197, 154, 197, 155, 197, 185, 197, 186, 206, 134, 206, 136, 206, 137, 206, 138, 206, 140, 206, 142, 206, 143, 206, 172, 206, 173, 206, 174, 206, 175, 207, 140, 207, 141, 207, 142]⟩ : ByteArray), (⟨#[65, 69, 73, 79, 85, 89, 97, 101, 105, 111, 117, 121, 67, 99, 76, 108, 78, 110, 82, 114, 83, 115, 90, 122, 206, 145, 206, 149, 206, 151, 206, 153, 206, 159, 206, 165, 206, 169, 206, 177, 206, 181, 206, 183, 206, 185, 206, 191, 207, 133, 207, 137]⟩ : ByteArray)⟩ : S96), (⟨770, (⟨#[195, 130, 195, 138, 195, 142, 195, 148, 195, 155, 195, 162, 195, 170, 195, 174, 195, 180, 195, 187, 196, 136, 196, 137, 196, 156, 196, 157, 196, 164, 196, 165, 196, 180, 196, 181, 197, 156, 197, 157, 197, 180, 197, 181, 197, 182, 197, 183]⟩ : ByteArray), (⟨#[65, 69, 73, 79, 85, 97, 101, 105, 111, 117, 67, 99, 71, 103, 72, 104, 74, 106, 83, 115, 87, 119, 89, 121]⟩ : ByteArray)⟩ : S96), (⟨771, (⟨#[195, 131, 195, 145, 195, 149, 195, 163, 195, 177, 195, 181, 196, 168, 196, 169, 197, 168, 197, 169]⟩ : ByteArray), (⟨#[65, 78, 79, 97, 110, 111, 73, 105, 85, 117]⟩ : ByteArray)⟩ : S96), (⟨772, (⟨#[196, 128, 196, 129, 196, 146, 196, 147, 196, 170, 196, 171, 197, 140, 197, 141, 197, 170, 197, 171]⟩ : ByteArray), (⟨#[65, 97, 69, 101, 73, 105, 79, 111, 85, 117]⟩ : ByteArray)⟩ : S96), (⟨774, (⟨#[196, 130, 196, 131, 196, 148, 196, 149, 196, 158, 196, 159, 196, 172, 196, 173, 197, 142, 197, 143, 197, 172, 197, 173, 208, 153, 208, 185, 208, 142, 209, 158]⟩ : ByteArray), (⟨#[65, 97, 69, 101, 71, 103, 73, 105, 79, 111, 85, 117, 208, 152, 208, 184, 208, 163, 209, 131]⟩ : ByteArray)⟩ : S96), (⟨775, (⟨#[196, 138, 196, 139, 196, 150, 196, 151, 196, 160, 196, 161, 196, 176, 197, 187, 197, 188]⟩ : ByteArray), (⟨#[67, 99, 69, 101, 71, 103, 73, 90, 122]⟩ : ByteArray)⟩ : S96), (⟨776, (⟨#[195, 132, 195, 139, 195, 143, 195, 150, 195, 156, 195, 164, 195, 171, 195, 175, 195, 182, 195, 188, 195, 191, 197, 184, 206, 170, 206, 171, 207, 138, 207, 139, 208, 129, 209, 145, 208, 135, 209, 151]⟩ : ByteArray), (⟨#[65, 69, 73, 79, 85, 97, 101, 105, 111, 117, 121, 89, 206, 153, 206, 165, 206, 185, 207, 133, 208, 149, 208, 181, 208, 134, 209, 150]⟩ : ByteArray)⟩ : S96), (⟨778, (⟨#[195, 133, 195, 165, 197, 174, 197, 175]⟩ : ByteArray), (⟨#[65, 97, 85, 117]⟩ : ByteArray)⟩ : S96), (⟨779, (⟨#[197, 144, 197, 145, 197, 176, 197, 177]⟩ : ByteArray), (⟨#[79, 111, 85, 117]⟩ : ByteArray)⟩ : S96), (⟨780, (⟨#[196, 140, 196, 141, 196, 142, 196, 143, 196, 154, 196, 155, 197, 135, 197, 136, 197, 152, 197, 153, 197, 160, 197, 161, 197, 164, 197, 165, 197, 189, 197, 190, 196, 189, 196, 190]⟩ : ByteArray), (⟨#[67, 99, 68, 100, 69, 101, 78, 110, 82, 114, 83, 115, 84, 116, 90, 122, 76, 108]⟩ : ByteArray)⟩ : S96), (⟨807, (⟨#[195, 135, 195, 167, 196, 162, 196, 163, 196, 182, 196, 183, 196, 187, 196, 188, 197, 133, 197, 134, 197, 150, 197, 151, 197, 158, 197, 159, 197, 162, 197, 163]⟩ : ByteArray), (⟨#[67, 99, 71, 103, 75, 107, 76, 108, 78, 110, 82, 114, 83, 115, 84, 116]⟩ : ByteArray)⟩ : S96), (⟨808, (⟨#[196, 132, 196, 133, 196, 152, 196, 153, 196, 174, 196, 175, 197, 178, 197, 179]⟩ : ByteArray), (⟨#[65, 97, 69, 101, 73, 105, 85, 117]⟩ : ByteArray)⟩ : S96)] : List (S96)))) = some r := h
  clear h
  obtain ⟨y217, hy217⟩ : ∃ y_ : List (S96), y_ = (([(⟨768, (⟨#[195, 128, 195, 136, 195, 140, 195, 146, 195, 153, 195, 160, 195, 168, 195, 172, 195, 178, 195, 185]⟩ : ByteArray), (⟨#[65, 69, 73, 79, 85, 97, 101, 105, 111, 117]⟩ : ByteArray)⟩ : S96), (⟨769, (⟨#[195, 129, 195, 137, 195, 141, 195, 147, 195, 154, 195, 157, 195, 161, 195, 169, 195, 173, 195, 179, 195, 186, 195, 189, 196, 134, 196, 135, 196, 185, 196, 186, 197, 131, 197, 132, 197, 148, 197, 149, 197, 154, 197, 155, 197, 185, 197, 186, 206, 134, 206, 136, 206, 137, 206, 138, 206, 140, 206, 142, 206, 143, 206, 172, 206, 173, 206, 174, 206, 175, 207, 140, 207, 141, 207, 142]⟩ : ByteArray), (⟨#[65, 69, 73, 79, 85, 89, 97, 101, 105, 111, 117, 121, 67, 99, 76, 108, 78, 110, 82, 114, 83, 115, 90, 122, 206, 145, 206, 149, 206, 151, 206, 153, 206, 159, 206, 165, 206, 169, 206, 177, 206, 181, 206, 183, 206, 185, 206, 191, 207, 133, 207, 137]⟩ : ByteArray)⟩ : S96), (⟨770, (⟨#[195, 130, 195, 138, 195, 142, 195, 148, 195, 155, 195, 162, 195, 170, 195, 174, 195, 180, 195, 187, 196, 136, 196, 137, 196, 156, 196, 157, 196, 164, 196, 165, 196, 180, 196, 181, 197, 156, 197, 157, 197, 180, 197, 181, 197, 182, 197, 183]⟩ : ByteArray), (⟨#[65, 69, 73, 79, 85, 97, 101, 105, 111, 117, 67, 99, 71, 103, 72, 104, 74, 106, 83, 115, 87, 119, 89, 121]⟩ : ByteArray)⟩ : S96), (⟨771, (⟨#[195, 131, 195, 145, 195, 149, 195, 163, 195, 177, 195, 181, 196, 168, 196, 169, 197, 168, 197, 169]⟩ : ByteArray), (⟨#[65, 78, 79, 97, 110, 111, 73, 105, 85, 117]⟩ : ByteArray)⟩ : S96), (⟨772, (⟨#[196, 128, 196, 129, 196, 146, 196, 147, 196, 170, 196, 171, 197, 140, 197, 141, 197, 170, 197, 171]⟩ : ByteArray), (⟨#[65, 97, 69, 101, 73, 105, 79, 111, 85, 117]⟩ : ByteArray)⟩ : S96), (⟨774, (⟨#[196, 130, 196, 131, 196, 148, 196, 149, 196, 158, 196, 159, 196, 172, 196, 173, 197, 142, 197, 143, 197, 172, 197, 173, 208, 153, 208, 185, 208, 142, 209, 158]⟩ : ByteArray), (⟨#[65, 97, 69, 101, 71, 103, 73, 105, 79, 111, 85, 117, 208, 152, 208, 184, 208, 163, 209, 131]⟩ : ByteArray)⟩ : S96), (⟨775, (⟨#[196, 138, 196, 139, 196, 150, 196, 151, 196, 160, 196, 161, 196, 176, 197, 187, 197, 188]⟩ : ByteArray), (⟨#[67, 99, 69, 101, 71, 103, 73, 90, 122]⟩ : ByteArray)⟩ : S96), (⟨776, (⟨#[195, 132, 195, 139, 195, 143, 195, 150, 195, 156, 195, 164, 195, 171, 195, 175, 195, 182, 195, 188, 195, 191, 197, 184, 206, 170, 206, 171, 207, 138, 207, 139, 208, 129, 209, 145, 208, 135, 209, 151]⟩ : ByteArray), (⟨#[65, 69, 73, 79, 85, 97, 101, 105, 111, 117, 121, 89, 206, 153, 206, 165, 206, 185, 207, 133, 208, 149, 208, 181, 208, 134, 209, 150]⟩ : ByteArray)⟩ : S96), (⟨778, (⟨#[195, 133, 195, 165, 197, 174, 197, 175]⟩ : ByteArray), (⟨#[65, 97, 85, 117]⟩ : ByteArray)⟩ : S96), (⟨779, (⟨#[197, 144, 197, 145, 197, 176, 197, 177]⟩ : ByteArray), (⟨#[79, 111, 85, 117]⟩ : ByteArray)⟩ : S96), (⟨780, (⟨#[196, 140, 196, 141, 196, 142, 196, 143, 196, 154, 196, 155, 197, 135, 197, 136, 197, 152, 197, 153, 197, 160, 197, 161, 197, 164, 197, 165, 197, 189, 197, 190, 196, 189, 196, 190]⟩ : ByteArray), (⟨#[67, 99, 68, 100, 69, 101, 78, 110, 82, 114, 83, 115, 84, 116, 90, 122, 76, 108]⟩ : ByteArray)⟩ : S96), (⟨807, (⟨#[195, 135, 195, 167, 196, 162, 196, 163, 196, 182, 196, 183, 196, 187, 196, 188, 197, 133, 197, 134, 197, 150, 197, 151, 197, 158, 197, 159, 197, 162, 197, 163]⟩ : ByteArray), (⟨#[67, 99, 71, 103, 75, 107, 76, 108, 78, 110, 82, 114, 83, 115, 84, 116]⟩ : ByteArray)⟩ : S96), (⟨808, (⟨#[196, 132, 196, 133, 196, 152, 196, 153, 196, 174, 196, 175, 197, 178, 197, 179]⟩ : ByteArray), (⟨#[65, 97, 69, 101, 73, 105, 85, 117]⟩ : ByteArray)⟩ : S96)] : List (S96))) := ⟨_, rfl⟩
  replace H : (some y217) = some r := by first | (rw [hy217]; with_reducible exact H) | (have H2_ := (Option.bind_some _ _).symm.trans H; rw [hy217]; with_reducible exact H2_) | (have H2_ := (Option.bind_some _ _).symm.trans H; with_reducible exact H2_) | with_reducible exact H | (rw [hy217]; exact H) | exact H
  have Ny217 := Aside0.mk hy217
  clear hy217
  obtain rfl := Option.some.inj H
  go_enter Tryd.func93, Tryd.ntmps93
  go_wp2_with (first | ((with_reducible refine gate_dst (N := 14) rfl ?_); refine Kd.R_lit k96 _ 96 ?hg (N := 14) ?hd (xs := ([(⟨768, (⟨#[195, 128, 195, 136, 195, 140, 195, 146, 195, 153, 195, 160, 195, 168, 195, 172, 195, 178, 195, 185]⟩ : ByteArray), (⟨#[65, 69, 73, 79, 85, 97, 101, 105, 111, 117]⟩ : ByteArray)⟩ : S96), (⟨769, (⟨#[195, 129, 195, 137, 195, 141, 195, 147, 195, 154, 195, 157, 195, 161, 195, 169, 195, 173, 195, 179, 195, 186, 195, 189, 196, 134, 196, 135, 196, 185, 196, 186, 197, 131, 197, 132, 197, 148, 197, 149, 197, 154, 197, 155, 197, 185, 197, 186, 206, 134, 206, 136, 206, 137, 206, 138, 206, 140, 206, 142, 206, 143, 206, 172, 206, 173, 206, 174, 206, 175, 207, 140, 207, 141, 207, 142]⟩ : ByteArray), (⟨#[65, 69, 73, 79, 85, 89, 97, 101, 105, 111, 117, 121, 67, 99, 76, 108, 78, 110, 82, 114, 83, 115, 90, 122, 206, 145, 206, 149, 206, 151, 206, 153, 206, 159, 206, 165, 206, 169, 206, 177, 206, 181, 206, 183, 206, 185, 206, 191, 207, 133, 207, 137]⟩ : ByteArray)⟩ : S96), (⟨770, (⟨#[195, 130, 195, 138, 195, 142, 195, 148, 195, 155, 195, 162, 195, 170, 195, 174, 195, 180, 195, 187, 196, 136, 196, 137, 196, 156, 196, 157, 196, 164, 196, 165, 196, 180, 196, 181, 197, 156, 197, 157, 197, 180, 197, 181, 197, 182, 197, 183]⟩ : ByteArray), (⟨#[65, 69, 73, 79, 85, 97, 101, 105, 111, 117, 67, 99, 71, 103, 72, 104, 74, 106, 83, 115, 87, 119, 89, 121]⟩ : ByteArray)⟩ : S96), (⟨771, (⟨#[195, 131, 195, 145, 195, 149, 195, 163, 195, 177, 195, 181, 196, 168, 196, 169, 197, 168, 197, 169]⟩ : ByteArray), (⟨#[65, 78, 79, 97, 110, 111, 73, 105, 85, 117]⟩ : ByteArray)⟩ : S96), (⟨772, (⟨#[196, 128, 196, 129, 196, 146, 196, 147, 196, 170, 196, 171, 197, 140, 197, 141, 197, 170, 197, 171]⟩ : ByteArray), (⟨#[65, 97, 69, 101, 73, 105, 79, 111, 85, 117]⟩ : ByteArray)⟩ : S96), (⟨774, (⟨#[196, 130, 196, 131, 196, 148, 196, 149, 196, 158, 196, 159, 196, 172, 196, 173, 197, 142, 197, 143, 197, 172, 197, 173, 208, 153, 208, 185, 208, 142, 209, 158]⟩ : ByteArray), (⟨#[65, 97, 69, 101, 71, 103, 73, 105, 79, 111, 85, 117, 208, 152, 208, 184, 208, 163, 209, 131]⟩ : ByteArray)⟩ : S96), (⟨775, (⟨#[196, 138, 196, 139, 196, 150, 196, 151, 196, 160, 196, 161, 196, 176, 197, 187, 197, 188]⟩ : ByteArray), (⟨#[67, 99, 69, 101, 71, 103, 73, 90, 122]⟩ : ByteArray)⟩ : S96), (⟨776, (⟨#[195, 132, 195, 139, 195, 143, 195, 150, 195, 156, 195, 164, 195, 171, 195, 175, 195, 182, 195, 188, 195, 191, 197, 184, 206, 170, 206, 171, 207, 138, 207, 139, 208, 129, 209, 145, 208, 135, 209, 151]⟩ : ByteArray), (⟨#[65, 69, 73, 79, 85, 97, 101, 105, 111, 117, 121, 89, 206, 153, 206, 165, 206, 185, 207, 133, 208, 149, 208, 181, 208, 134, 209, 150]⟩ : ByteArray)⟩ : S96), (⟨778, (⟨#[195, 133, 195, 165, 197, 174, 197, 175]⟩ : ByteArray), (⟨#[65, 97, 85, 117]⟩ : ByteArray)⟩ : S96), (⟨779, (⟨#[197, 144, 197, 145, 197, 176, 197, 177]⟩ : ByteArray), (⟨#[79, 111, 85, 117]⟩ : ByteArray)⟩ : S96), (⟨780, (⟨#[196, 140, 196, 141, 196, 142, 196, 143, 196, 154, 196, 155, 197, 135, 197, 136, 197, 152, 197, 153, 197, 160, 197, 161, 197, 164, 197, 165, 197, 189, 197, 190, 196, 189, 196, 190]⟩ : ByteArray), (⟨#[67, 99, 68, 100, 69, 101, 78, 110, 82, 114, 83, 115, 84, 116, 90, 122, 76, 108]⟩ : ByteArray)⟩ : S96), (⟨807, (⟨#[195, 135, 195, 167, 196, 162, 196, 163, 196, 182, 196, 183, 196, 187, 196, 188, 197, 133, 197, 134, 197, 150, 197, 151, 197, 158, 197, 159, 197, 162, 197, 163]⟩ : ByteArray), (⟨#[67, 99, 71, 103, 75, 107, 76, 108, 78, 110, 82, 114, 83, 115, 84, 116]⟩ : ByteArray)⟩ : S96), (⟨808, (⟨#[196, 132, 196, 133, 196, 152, 196, 153, 196, 174, 196, 175, 197, 178, 197, 179]⟩ : ByteArray), (⟨#[65, 97, 69, 101, 73, 105, 85, 117]⟩ : ByteArray)⟩ : S96)] : List (S96))) (inner := [.int .i64 768, .string (⟨#[195, 128, 195, 136, 195, 140, 195, 146, 195, 153, 195, 160, 195, 168, 195, 172, 195, 178, 195, 185]⟩ : ByteArray), .string (⟨#[65, 69, 73, 79, 85, 97, 101, 105, 111, 117]⟩ : ByteArray), .int .i64 769, .string (⟨#[195, 129, 195, 137, 195, 141, 195, 147, 195, 154, 195, 157, 195, 161, 195, 169, 195, 173, 195, 179, 195, 186, 195, 189, 196, 134, 196, 135, 196, 185, 196, 186, 197, 131, 197, 132, 197, 148, 197, 149, 197, 154, 197, 155, 197, 185, 197, 186, 206, 134, 206, 136, 206, 137, 206, 138, 206, 140, 206, 142, 206, 143, 206, 172, 206, 173, 206, 174, 206, 175, 207, 140, 207, 141, 207, 142]⟩ : ByteArray), .string (⟨#[65, 69, 73, 79, 85, 89, 97, 101, 105, 111, 117, 121, 67, 99, 76, 108, 78, 110, 82, 114, 83, 115, 90, 122, 206, 145, 206, 149, 206, 151, 206, 153, 206, 159, 206, 165, 206, 169, 206, 177, 206, 181, 206, 183, 206, 185, 206, 191, 207, 133, 207, 137]⟩ : ByteArray), .int .i64 770, .string (⟨#[195, 130, 195, 138, 195, 142, 195, 148, 195, 155, 195, 162, 195, 170, 195, 174, 195, 180, 195, 187, 196, 136, 196, 137, 196, 156, 196, 157, 196, 164, 196, 165, 196, 180, 196, 181, 197, 156, 197, 157, 197, 180, 197, 181, 197, 182, 197, 183]⟩ : ByteArray), .string (⟨#[65, 69, 73, 79, 85, 97, 101, 105, 111, 117, 67, 99, 71, 103, 72, 104, 74, 106, 83, 115, 87, 119, 89, 121]⟩ : ByteArray), .int .i64 771, .string (⟨#[195, 131, 195, 145, 195, 149, 195, 163, 195, 177, 195, 181, 196, 168, 196, 169, 197, 168, 197, 169]⟩ : ByteArray), .string (⟨#[65, 78, 79, 97, 110, 111, 73, 105, 85, 117]⟩ : ByteArray), .int .i64 772, .string (⟨#[196, 128, 196, 129, 196, 146, 196, 147, 196, 170, 196, 171, 197, 140, 197, 141, 197, 170, 197, 171]⟩ : ByteArray), .string (⟨#[65, 97, 69, 101, 73, 105, 79, 111, 85, 117]⟩ : ByteArray), .int .i64 774, .string (⟨#[196, 130, 196, 131, 196, 148, 196, 149, 196, 158, 196, 159, 196, 172, 196, 173, 197, 142, 197, 143, 197, 172, 197, 173, 208, 153, 208, 185, 208, 142, 209, 158]⟩ : ByteArray), .string (⟨#[65, 97, 69, 101, 71, 103, 73, 105, 79, 111, 85, 117, 208, 152, 208, 184, 208, 163, 209, 131]⟩ : ByteArray), .int .i64 775, .string (⟨#[196, 138, 196, 139, 196, 150, 196, 151, 196, 160, 196, 161, 196, 176, 197, 187, 197, 188]⟩ : ByteArray), .string (⟨#[67, 99, 69, 101, 71, 103, 73, 90, 122]⟩ : ByteArray), .int .i64 776, .string (⟨#[195, 132, 195, 139, 195, 143, 195, 150, 195, 156, 195, 164, 195, 171, 195, 175, 195, 182, 195, 188, 195, 191, 197, 184, 206, 170, 206, 171, 207, 138, 207, 139, 208, 129, 209, 145, 208, 135, 209, 151]⟩ : ByteArray), .string (⟨#[65, 69, 73, 79, 85, 97, 101, 105, 111, 117, 121, 89, 206, 153, 206, 165, 206, 185, 207, 133, 208, 149, 208, 181, 208, 134, 209, 150]⟩ : ByteArray), .int .i64 778, .string (⟨#[195, 133, 195, 165, 197, 174, 197, 175]⟩ : ByteArray), .string (⟨#[65, 97, 85, 117]⟩ : ByteArray), .int .i64 779, .string (⟨#[197, 144, 197, 145, 197, 176, 197, 177]⟩ : ByteArray), .string (⟨#[79, 111, 85, 117]⟩ : ByteArray), .int .i64 780, .string (⟨#[196, 140, 196, 141, 196, 142, 196, 143, 196, 154, 196, 155, 197, 135, 197, 136, 197, 152, 197, 153, 197, 160, 197, 161, 197, 164, 197, 165, 197, 189, 197, 190, 196, 189, 196, 190]⟩ : ByteArray), .string (⟨#[67, 99, 68, 100, 69, 101, 78, 110, 82, 114, 83, 115, 84, 116, 90, 122, 76, 108]⟩ : ByteArray), .int .i64 807, .string (⟨#[195, 135, 195, 167, 196, 162, 196, 163, 196, 182, 196, 183, 196, 187, 196, 188, 197, 133, 197, 134, 197, 150, 197, 151, 197, 158, 197, 159, 197, 162, 197, 163]⟩ : ByteArray), .string (⟨#[67, 99, 71, 103, 75, 107, 76, 108, 78, 110, 82, 114, 83, 115, 84, 116]⟩ : ByteArray), .int .i64 808, .string (⟨#[196, 132, 196, 133, 196, 152, 196, 153, 196, 174, 196, 175, 197, 178, 197, 179]⟩ : ByteArray), .string (⟨#[65, 97, 69, 101, 73, 105, 85, 117]⟩ : ByteArray)]) (ok := fun _ => True) (okp := fun _ => True) ?hr ?hp (fun _ hk => hk) trivial (Below.refl _ _) (Nat.le_refl _) (by simp) ?_; (case hd => rfl); (case hg => rfl); (case hr => first | (go_simp; done) | (go_simp; rfl)); (case hp => exact (Reps.c3 (show Kd.M k96 _ _ _ (⟨768, (⟨#[195, 128, 195, 136, 195, 140, 195, 146, 195, 153, 195, 160, 195, 168, 195, 172, 195, 178, 195, 185]⟩ : ByteArray), (⟨#[65, 69, 73, 79, 85, 97, 101, 105, 111, 117]⟩ : ByteArray)⟩ : S96) [.int .i64 768, .string (⟨#[195, 128, 195, 136, 195, 140, 195, 146, 195, 153, 195, 160, 195, 168, 195, 172, 195, 178, 195, 185]⟩ : ByteArray), .string (⟨#[65, 69, 73, 79, 85, 97, 101, 105, 111, 117]⟩ : ByteArray)] from (k96_mkM _ _ _ (⟨768, (⟨#[195, 128, 195, 136, 195, 140, 195, 146, 195, 153, 195, 160, 195, 168, 195, 172, 195, 178, 195, 185]⟩ : ByteArray), (⟨#[65, 69, 73, 79, 85, 97, 101, 105, 111, 117]⟩ : ByteArray)⟩ : S96) )) (Reps.c3 (show Kd.M k96 _ _ _ (⟨769, (⟨#[195, 129, 195, 137, 195, 141, 195, 147, 195, 154, 195, 157, 195, 161, 195, 169, 195, 173, 195, 179, 195, 186, 195, 189, 196, 134, 196, 135, 196, 185, 196, 186, 197, 131, 197, 132, 197, 148, 197, 149, 197, 154, 197, 155, 197, 185, 197, 186, 206, 134, 206, 136, 206, 137, 206, 138, 206, 140, 206, 142, 206, 143, 206, 172, 206, 173, 206, 174, 206, 175, 207, 140, 207, 141, 207, 142]⟩ : ByteArray), (⟨#[65, 69, 73, 79, 85, 89, 97, 101, 105, 111, 117, 121, 67, 99, 76, 108, 78, 110, 82, 114, 83, 115, 90, 122, 206, 145, 206, 149, 206, 151, 206, 153, 206, 159, 206, 165, 206, 169, 206, 177, 206, 181, 206, 183, 206, 185, 206, 191, 207, 133, 207, 137]⟩ : ByteArray)⟩ : S96) [.int .i64 769, .string (⟨#[195, 129, 195, 137, 195, 141, 195, 147, 195, 154, 195, 157, 195, 161, 195, 169, 195, 173, 195, 179, 195, 186, 195, 189, 196, 134, 196, 135, 196, 185, 196, 186, 197, 131, 197, 132, 197, 148, 197, 149, 197, 154, 197, 155, 197, 185, 197, 186, 206, 134, 206, 136, 206, 137, 206, 138, 206, 140, 206, 142, 206, 143, 206, 172, 206, 173, 206, 174, 206, 175, 207, 140, 207, 141, 207, 142]⟩ : ByteArray), .string (⟨#[65, 69, 73, 79, 85, 89, 97, 101, 105, 111, 117, 121, 67, 99, 76, 108, 78, 110, 82, 114, 83, 115, 90, 122, 206, 145, 206, 149, 206, 151, 206, 153, 206, 159, 206, 165, 206, 169, 206, 177, 206, 181, 206, 183, 206, 185, 206, 191, 207, 133, 207, 137]⟩ : ByteArray)] from (k96_mkM _ _ _ (⟨769, (⟨#[195, 129, 195, 137, 195, 141, 195, 147, 195, 154, 195, 157, 195, 161, 195, 169, 195, 173, 195, 179, 195, 186, 195, 189, 196, 134, 196, 135, 196, 185, 196, 186, 197, 131, 197, 132, 197, 148, 197, 149, 197, 154, 197, 155, 197, 185, 197, 186, 206, 134, 206, 136, 206, 137, 206, 138, 206, 140, 206, 142, 206, 143, 206, 172, 206, 173, 206, 174, 206, 175, 207, 140, 207, 141, 207, 142]⟩ : ByteArray), (⟨#[65, 69, 73, 79, 85, 89, 97, 101, 105, 111, 117, 121, 67, 99, 76, 108, 78, 110, 82, 114, 83, 115, 90, 122, 206, 145, 206, 149, 206, 151, 206, 153, 206, 159, 206, 165, 206, 169, 206, 177, 206, 181, 206, 183, 206, 185, 206, 191, 207, 133, 207, 137]⟩ : ByteArray)⟩ : S96) )) (Reps.c3 (show Kd.M k96 _ _ _ (⟨770, (⟨#[195, 130, 195, 138, 195, 142, 195, 148, 195, 155, 195, 162, 195, 170, 195, 174, 195, 180, 195, 187, 196, 136, 196, 137, 196, 156, 196, 157, 196, 164, 196, 165, 196, 180, 196, 181, 197, 156, 197, 157, 197, 180, 197, 181, 197, 182, 197, 183]⟩ : ByteArray), (⟨#[65, 69, 73, 79, 85, 97, 101, 105, 111, 117, 67, 99, 71, 103, 72, 104, 74, 106, 83, 115, 87, 119, 89, 121]⟩ : ByteArray)⟩ : S96) [.int .i64 770, .string (⟨#[195, 130, 195, 138, 195, 142, 195, 148, 195, 155, 195, 162, 195, 170, 195, 174, 195, 180, 195, 187, 196, 136, 196, 137, 196, 156, 196, 157, 196, 164, 196, 165, 196, 180, 196, 181, 197, 156, 197, 157, 197, 180, 197, 181, 197, 182, 197, 183]⟩ : ByteArray), .string (⟨#[65, 69, 73, 79, 85, 97, 101, 105, 111, 117, 67, 99, 71, 103, 72, 104, 74, 106, 83, 115, 87, 119, 89, 121]⟩ : ByteArray)] from (k96_mkM _ _ _ (⟨770, (⟨#[195, 130, 195, 138, 195, 142, 195, 148, 195, 155, 195, 162, 195, 170, 195, 174, 195, 180, 195, 187, 196, 136, 196, 137, 196, 156, 196, 157, 196, 164, 196, 165, 196, 180, 196, 181, 197, 156, 197, 157, 197, 180, 197, 181, 197, 182, 197, 183]⟩ : ByteArray), (⟨#[65, 69, 73, 79, 85, 97, 101, 105, 111, 117, 67, 99, 71, 103, 72, 104, 74, 106, 83, 115, 87, 119, 89, 121]⟩ : ByteArray)⟩ : S96) )) (Reps.c3 (show Kd.M k96 _ _ _ (⟨771, (⟨#[195, 131, 195, 145, 195, 149, 195, 163, 195, 177, 195, 181, 196, 168, 196, 169, 197, 168, 197, 169]⟩ : ByteArray), (⟨#[65, 78, 79, 97, 110, 111, 73, 105, 85, 117]⟩ : ByteArray)⟩ : S96) [.int .i64 771, .string (⟨#[195, 131, 195, 145, 195, 149, 195, 163, 195, 177, 195, 181, 196, 168, 196, 169, 197, 168, 197, 169]⟩ : ByteArray), .string (⟨#[65, 78, 79, 97, 110, 111, 73, 105, 85, 117]⟩ : ByteArray)] from (k96_mkM _ _ _ (⟨771, (⟨#[195, 131, 195, 145, 195, 149, 195, 163, 195, 177, 195, 181, 196, 168, 196, 169, 197, 168, 197, 169]⟩ : ByteArray), (⟨#[65, 78, 79, 97, 110, 111, 73, 105, 85, 117]⟩ : ByteArray)⟩ : S96) )) (Reps.c3 (show Kd.M k96 _ _ _ (⟨772, (⟨#[196, 128, 196, 129, 196, 146, 196, 147, 196, 170, 196, 171, 197, 140, 197, 141, 197, 170, 197, 171]⟩ : ByteArray), (⟨#[65, 97, 69, 101, 73, 105, 79, 111, 85, 117]⟩ : ByteArray)⟩ : S96) [.int .i64 772, .string (⟨#[196, 128, 196, 129, 196, 146, 196, 147, 196, 170, 196, 171, 197, 140, 197, 141, 197, 170, 197, 171]⟩ : ByteArray), .string (⟨#[65, 97, 69, 101, 73, 105, 79, 111, 85, 117]⟩ : ByteArray)] from (k96_mkM _ _ _ (⟨772, (⟨#[196, 128, 196, 129, 196, 146, 196, 147, 196, 170, 196, 171, 197, 140, 197, 141, 197, 170, 197, 171]⟩ : ByteArray), (⟨#[65, 97, 69, 101, 73, 105, 79, 111, 85, 117]⟩ : ByteArray)⟩ : S96) )) (Reps.c3 (show Kd.M k96 _ _ _ (⟨774, (⟨#[196, 130, 196, 131, 196, 148, 196, 149, 196, 158, 196, 159, 196, 172, 196, 173, 197, 142, 197, 143, 197, 172, 197, 173, 208, 153, 208, 185, 208, 142, 209, 158]⟩ : ByteArray), (⟨#[65, 97, 69, 101, 71, 103, 73, 105, 79, 111, 85, 117, 208, 152, 208, 184, 208, 163, 209, 131]⟩ : ByteArray)⟩ : S96) [.int .i64 774, .string (⟨#[196, 130, 196, 131, 196, 148, 196, 149, 196, 158, 196, 159, 196, 172, 196, 173, 197, 142, 197, 143, 197, 172, 197, 173, 208, 153, 208, 185, 208, 142, 209, 158]⟩ : ByteArray), .string (⟨#[65, 97, 69, 101, 71, 103, 73, 105, 79, 111, 85, 117, 208, 152, 208, 184, 208, 163, 209, 131]⟩ : ByteArray)] from (k96_mkM _ _ _ (⟨774, (⟨#[196, 130, 196, 131, 196, 148, 196, 149, 196, 158, 196, 159, 196, 172, 196, 173, 197, 142, 197, 143, 197, 172, 197, 173, 208, 153, 208, 185, 208, 142, 209, 158]⟩ : ByteArray), (⟨#[65, 97, 69, 101, 71, 103, 73, 105, 79, 111, 85, 117, 208, 152, 208, 184, 208, 163, 209, 131]⟩ : ByteArray)⟩ : S96) )) (Reps.c3 (show Kd.M k96 _ _ _ (⟨775, (⟨#[196, 138, 196, 139, 196, 150, 196, 151, 196, 160, 196, 161, 196, 176, 197, 187, 197, 188]⟩ : ByteArray), (⟨#[67, 99, 69, 101, 71, 103, 73, 90, 122]⟩ : ByteArray)⟩ : S96) [.int .i64 775, .string (⟨#[196, 138, 196, 139, 196, 150, 196, 151, 196, 160, 196, 161, 196, 176, 197, 187, 197, 188]⟩ : ByteArray), .string (⟨#[67, 99, 69, 101, 71, 103, 73, 90, 122]⟩ : ByteArray)] from (k96_mkM _ _ _ (⟨775, (⟨#[196, 138, 196, 139, 196, 150, 196, 151, 196, 160, 196, 161, 196, 176, 197, 187, 197, 188]⟩ : ByteArray), (⟨#[67, 99, 69, 101, 71, 103, 73, 90, 122]⟩ : ByteArray)⟩ : S96) )) (Reps.c3 (show Kd.M k96 _ _ _ (⟨776, (⟨#[195, 132, 195, 139, 195, 143, 195, 150, 195, 156, 195, 164, 195, 171, 195, 175, 195, 182, 195, 188, 195, 191, 197, 184, 206, 170, 206, 171, 207, 138, 207, 139, 208, 129, 209, 145, 208, 135, 209, 151]⟩ : ByteArray), (⟨#[65, 69, 73, 79, 85, 97, 101, 105, 111, 117, 121, 89, 206, 153, 206, 165, 206, 185, 207, 133, 208, 149, 208, 181, 208, 134, 209, 150]⟩ : ByteArray)⟩ : S96) [.int .i64 776, .string (⟨#[195, 132, 195, 139, 195, 143, 195, 150, 195, 156, 195, 164, 195, 171, 195, 175, 195, 182, 195, 188, 195, 191, 197, 184, 206, 170, 206, 171, 207, 138, 207, 139, 208, 129, 209, 145, 208, 135, 209, 151]⟩ : ByteArray), .string (⟨#[65, 69, 73, 79, 85, 97, 101, 105, 111, 117, 121, 89, 206, 153, 206, 165, 206, 185, 207, 133, 208, 149, 208, 181, 208, 134, 209, 150]⟩ : ByteArray)] from (k96_mkM _ _ _ (⟨776, (⟨#[195, 132, 195, 139, 195, 143, 195, 150, 195, 156, 195, 164, 195, 171, 195, 175, 195, 182, 195, 188, 195, 191, 197, 184, 206, 170, 206, 171, 207, 138, 207, 139, 208, 129, 209, 145, 208, 135, 209, 151]⟩ : ByteArray), (⟨#[65, 69, 73, 79, 85, 97, 101, 105, 111, 117, 121, 89, 206, 153, 206, 165, 206, 185, 207, 133, 208, 149, 208, 181, 208, 134, 209, 150]⟩ : ByteArray)⟩ : S96) )) (Reps.c3 (show Kd.M k96 _ _ _ (⟨778, (⟨#[195, 133, 195, 165, 197, 174, 197, 175]⟩ : ByteArray), (⟨#[65, 97, 85, 117]⟩ : ByteArray)⟩ : S96) [.int .i64 778, .string (⟨#[195, 133, 195, 165, 197, 174, 197, 175]⟩ : ByteArray), .string (⟨#[65, 97, 85, 117]⟩ : ByteArray)] from (k96_mkM _ _ _ (⟨778, (⟨#[195, 133, 195, 165, 197, 174, 197, 175]⟩ : ByteArray), (⟨#[65, 97, 85, 117]⟩ : ByteArray)⟩ : S96) )) (Reps.c3 (show Kd.M k96 _ _ _ (⟨779, (⟨#[197, 144, 197, 145, 197, 176, 197, 177]⟩ : ByteArray), (⟨#[79, 111, 85, 117]⟩ : ByteArray)⟩ : S96) [.int .i64 779, .string (⟨#[197, 144, 197, 145, 197, 176, 197, 177]⟩ : ByteArray), .string (⟨#[79, 111, 85, 117]⟩ : ByteArray)] from (k96_mkM _ _ _ (⟨779, (⟨#[197, 144, 197, 145, 197, 176, 197, 177]⟩ : ByteArray), (⟨#[79, 111, 85, 117]⟩ : ByteArray)⟩ : S96) )) (Reps.c3 (show Kd.M k96 _ _ _ (⟨780, (⟨#[196, 140, 196, 141, 196, 142, 196, 143, 196, 154, 196, 155, 197, 135, 197, 136, 197, 152, 197, 153, 197, 160, 197, 161, 197, 164, 197, 165, 197, 189, 197, 190, 196, 189, 196, 190]⟩ : ByteArray), (⟨#[67, 99, 68, 100, 69, 101, 78, 110, 82, 114, 83, 115, 84, 116, 90, 122, 76, 108]⟩ : ByteArray)⟩ : S96) [.int .i64 780, .string (⟨#[196, 140, 196, 141, 196, 142, 196, 143, 196, 154, 196, 155, 197, 135, 197, 136, 197, 152, 197, 153, 197, 160, 197, 161, 197, 164, 197, 165, 197, 189, 197, 190, 196, 189, 196, 190]⟩ : ByteArray), .string (⟨#[67, 99, 68, 100, 69, 101, 78, 110, 82, 114, 83, 115, 84, 116, 90, 122, 76, 108]⟩ : ByteArray)] from (k96_mkM _ _ _ (⟨780, (⟨#[196, 140, 196, 141, 196, 142, 196, 143, 196, 154, 196, 155, 197, 135, 197, 136, 197, 152, 197, 153, 197, 160, 197, 161, 197, 164, 197, 165, 197, 189, 197, 190, 196, 189, 196, 190]⟩ : ByteArray), (⟨#[67, 99, 68, 100, 69, 101, 78, 110, 82, 114, 83, 115, 84, 116, 90, 122, 76, 108]⟩ : ByteArray)⟩ : S96) )) (Reps.c3 (show Kd.M k96 _ _ _ (⟨807, (⟨#[195, 135, 195, 167, 196, 162, 196, 163, 196, 182, 196, 183, 196, 187, 196, 188, 197, 133, 197, 134, 197, 150, 197, 151, 197, 158, 197, 159, 197, 162, 197, 163]⟩ : ByteArray), (⟨#[67, 99, 71, 103, 75, 107, 76, 108, 78, 110, 82, 114, 83, 115, 84, 116]⟩ : ByteArray)⟩ : S96) [.int .i64 807, .string (⟨#[195, 135, 195, 167, 196, 162, 196, 163, 196, 182, 196, 183, 196, 187, 196, 188, 197, 133, 197, 134, 197, 150, 197, 151, 197, 158, 197, 159, 197, 162, 197, 163]⟩ : ByteArray), .string (⟨#[67, 99, 71, 103, 75, 107, 76, 108, 78, 110, 82, 114, 83, 115, 84, 116]⟩ : ByteArray)] from (k96_mkM _ _ _ (⟨807, (⟨#[195, 135, 195, 167, 196, 162, 196, 163, 196, 182, 196, 183, 196, 187, 196, 188, 197, 133, 197, 134, 197, 150, 197, 151, 197, 158, 197, 159, 197, 162, 197, 163]⟩ : ByteArray), (⟨#[67, 99, 71, 103, 75, 107, 76, 108, 78, 110, 82, 114, 83, 115, 84, 116]⟩ : ByteArray)⟩ : S96) )) (Reps.c3 (show Kd.M k96 _ _ _ (⟨808, (⟨#[196, 132, 196, 133, 196, 152, 196, 153, 196, 174, 196, 175, 197, 178, 197, 179]⟩ : ByteArray), (⟨#[65, 97, 69, 101, 73, 105, 85, 117]⟩ : ByteArray)⟩ : S96) [.int .i64 808, .string (⟨#[196, 132, 196, 133, 196, 152, 196, 153, 196, 174, 196, 175, 197, 178, 197, 179]⟩ : ByteArray), .string (⟨#[65, 97, 69, 101, 73, 105, 85, 117]⟩ : ByteArray)] from (k96_mkM _ _ _ (⟨808, (⟨#[196, 132, 196, 133, 196, 152, 196, 153, 196, 174, 196, 175, 197, 178, 197, 179]⟩ : ByteArray), (⟨#[65, 97, 69, 101, 73, 105, 85, 117]⟩ : ByteArray)⟩ : S96) )) (Reps.none _ _))))))))))))))); intro v218 w1 ho2 hb hg_ hnew_; clear hg_ hnew_; (first | rw [← Ny217.out] at ho2 | (simp only [Int.reduceToNat] at ho2; rw [← Ny217.out] at ho2)); have n0_ := Aside0.mk (Kd.R_lower ho2 (below_size (by repeat (first | (with_reducible first | exact HB.out | apply below_alloc | apply pw_below_drewN | apply below_drew1) | exact HB.out)))); have n1_ := Aside0.mk (below_step (by repeat (first | (with_reducible first | exact HB.out | apply below_alloc | apply pw_below_drewN | apply below_drew1) | exact HB.out)) hb); clear HB; have HO219 := n0_; have HB := n1_; clear n0_ n1_; clear hb ho2))
  go_ret
  exact ⟨_, by first | rfl | (simp [errW_none, errW_some] <;> rfl) | (simp [*, errW_none, errW_some] <;> rfl), by (with_reducible repeat (first | apply Kd.R_alloc | apply Kd.R_drewN | apply Kd.R_drew)); exact HO219.out, by repeat (first | (with_reducible first | exact HB.out | apply below_alloc | apply pw_below_drewN | apply below_drew1) | exact HB.out)⟩
mutual
def bookplateref05_pair.l0 : Nat → Int → List (S96) → Int → Option (Int × Int)
  | 0, _, _, _ => none
  | k + 1, x0, x4, x5 => if x5 < (x4.length : Int) then (if 0 ≤ x5 then ((bookplateref04_Decode.f k ((rd_T96 x4 x5).f1)).bind fun bt224 => ((bookplateref04_Decode.f k ((rd_T96 x4 x5).f2)).bind fun bt229 => (bookplateref05_pair.l1 k x0 x4 x5 bt224.1 bt229.1 0))) else (none)) else (some (0, 0))
def bookplateref05_pair.l1 : Nat → Int → List (S96) → Int → List Int → List Int → Int → Option (Int × Int)
  | 0, _, _, _, _, _, _ => none
  | k + 1, x0, x4, x5, x6, x8, x10 => if x10 < (x6.length : Int) then (if 0 ≤ x10 then (if (rd x6 x10) = x0 then (if x10 < (x8.length : Int) then (if 0 ≤ x5 then (if x5 < (x4.length : Int) then (some (rd x8 x10, (rd_T96 x4 x5).f0)) else (none)) else (none)) else (none)) else (bookplateref05_pair.l1 k x0 x4 x5 x6 x8 (wrap64 (x10 + 1)))) else (none)) else (bookplateref05_pair.l0 k x0 x4 (wrap64 (x5 + 1)))
end
def bookplateref05_pair.f (k : Nat) (a0 : Int) : Option (Int × Int) := (bookplateref05_rows.f).bind fun t220 => (bookplateref05_pair.l0 k a0 t220 0)
set_option maxHeartbeats 8000000 in
set_option maxRecDepth 100000 in
theorem bookplateref05_pair.calls (k : Nat) (a0 : Int) (r1 : Int) (r2 : Int) (w : World) (h : bookplateref05_pair.f k a0 = some (r1, r2)) :
    Calls Tryd.prog 102 #[.int .i64 a0] w fun e w' => e = .returned (.tuple #[.int .i64 r1, .int .i64 r2]) ∧ Below w.heap.size w w' := by
  have HB := Aside0.mk (Below.refl w.heap.size w)
  have H : ((bookplateref05_rows.f).bind fun t220 => (bookplateref05_pair.l0 k a0 t220 0)) = some (r1, r2) := h
  clear h
  replace H := Option.bind_eq_some_iff.mp H
  obtain ⟨t220, A20, H⟩ := H
  replace H : (bookplateref05_pair.l0 k a0 t220 0) = some (r1, r2) := H
  have A2 := Aside0.mk A20
  clear A20
  have H' := Aside0.mk H
  clear H
  go_enter Tryd.func102, Tryd.ntmps102
  go_wp2_with (first | (go_at_call 93; (with_reducible refine (bookplateref05_rows.calls  t220 _ A2.out).mono ?_); rintro e w3 ⟨v221, rfl, ho0, hb⟩; have n0_ := Aside0.mk (Kd.R_lower ho0 (below_size (by repeat (first | (with_reducible first | exact HB.out | apply below_alloc | apply pw_below_drewN | apply below_drew1) | exact HB.out)))); have n1_ := Aside0.mk (below_step (by repeat (first | (with_reducible first | exact HB.out | apply below_alloc | apply pw_below_drewN | apply below_drew1) | exact HB.out)) hb); clear HB; have HO222 := n0_; have HB := n1_; clear n0_ n1_; (try clear hb); (try clear hb2); (try clear hk); (try clear hi); (try clear ho0)))
  repeat (go_quiet (first | (go_at_call 93; (with_reducible refine (bookplateref05_rows.calls  t220 _ A2.out).mono ?_); rintro e w3 ⟨v221, rfl, ho0, hb⟩; have n0_ := Aside0.mk (Kd.R_lower ho0 (below_size (by repeat (first | (with_reducible first | exact HB.out | apply below_alloc | apply pw_below_drewN | apply below_drew1) | exact HB.out)))); have n1_ := Aside0.mk (below_step (by repeat (first | (with_reducible first | exact HB.out | apply below_alloc | apply pw_below_drewN | apply below_drew1) | exact HB.out)) hb); clear HB; have HO222 := n0_; have HB := n1_; clear n0_ n1_; (try clear hb); (try clear hb2); (try clear hk); (try clear hi); (try clear ho0))); try go_wp2_with (first | (go_at_call 93; (with_reducible refine (bookplateref05_rows.calls  t220 _ A2.out).mono ?_); rintro e w3 ⟨v221, rfl, ho0, hb⟩; have n0_ := Aside0.mk (Kd.R_lower ho0 (below_size (by repeat (first | (with_reducible first | exact HB.out | apply below_alloc | apply pw_below_drewN | apply below_drew1) | exact HB.out)))); have n1_ := Aside0.mk (below_step (by repeat (first | (with_reducible first | exact HB.out | apply below_alloc | apply pw_below_drewN | apply below_drew1) | exact HB.out)) hb); clear HB; have HO222 := n0_; have HB := n1_; clear n0_ n1_; (try clear hb); (try clear hb2); (try clear hk); (try clear hi); (try clear ho0))))
  go_loopg [5] k (fun kq v5 w' => ∃ (x5_1 : Int), v5 = .int .i64 x5_1 ∧ Aside0 (bookplateref05_pair.l0 kq a0 t220 x5_1 = some (r1, r2)) ∧ Aside0 (kq ≤ k) ∧ Aside0 (Kd.R k96 96 w' w.heap.size (fun _ => True) v221 t220) ∧ Aside0 (Below w.heap.size w w'))
  case atStart => exact ⟨(0), (by first | rfl | (simp; done) | (simp [*]; done)), H', ⟨Nat.le_refl _⟩, ⟨by (with_reducible repeat (first | apply Kd.R_alloc | apply Kd.R_drewN | apply Kd.R_drew)); exact HO222.out⟩, ⟨by repeat (first | (with_reducible first | exact HB.out | apply below_alloc | apply pw_below_drewN | apply below_drew1) | exact HB.out)⟩⟩
  case round =>
    clear H'
    try clear c1
    try clear p2
    obtain ⟨x5_1, rfl, HA, HK1, HO_4, HB⟩ := hrel
    cases gk with
    | zero => exact absurd HA.out (by simp [bookplateref05_pair.l0])
    | succ k1 =>
      have H := HA.out
      clear HA
      simp only [bookplateref05_pair.l0] at H
      by_cases c4 : x5_1 < (t220.length : Int)
      · rw [if_pos c4] at H
        have c4b0 : decide (x5_1 < (t220.length : Int)) = true := decide_eq_true c4
        clear c4
        by_cases c5 : 0 ≤ x5_1
        · rw [if_pos c5] at H
          have c5b0 : decide (0 ≤ x5_1) = true := decide_eq_true c5
          clear c5
          replace H := Option.bind_eq_some_iff.mp H
          obtain ⟨⟨t224, t225⟩, A60, H⟩ := H
          replace H : ((bookplateref04_Decode.f k1 ((rd_T96 t220 x5_1).f2)).bind fun bt229 => (bookplateref05_pair.l1 k1 a0 t220 x5_1 t224 bt229.1 0)) = some (r1, r2) := H
          have A6 := Aside0.mk A60
          clear A60
          replace H := Option.bind_eq_some_iff.mp H
          obtain ⟨⟨t229, t230⟩, A70, H⟩ := H
          replace H : (bookplateref05_pair.l1 k1 a0 t220 x5_1 t224 t229 0) = some (r1, r2) := H
          have A7 := Aside0.mk A70
          clear A70
          have H' := Aside0.mk H
          clear H
          obtain ⟨Ao8, co8, eo8⟩ := Kd.R_slice HO_4.out
          subst eo8
          have p223 : 0 ≤ (x5_1 : Int) := of_decide_eq_true (by first | (with_reducible assumption) | assumption)
          have q223 : x5_1 < (t220.length : Int) := of_decide_eq_true (by first | (with_reducible assumption) | assumption)
          obtain ⟨ad223, e223, hx223_0, hx223_1, hx223_2⟩ := at_T96 (Kd.R_reads' HO_4.out).2.2 x5_1 p223 q223
          cases e223
          replace p223 := eq_true p223
          replace q223 := eq_true q223
          go_wp2_with (first | (go_at_call 31; (with_reducible refine (bookplateref04_Decode.calls k1 ((rd_T96 t220 x5_1).f1) t224 t225 _ A6.out).mono ?_); rintro e w9 ⟨v226, rfl, ho0, hb⟩; have n0_ := Aside0.mk (Kd.R_below (by (with_reducible repeat (first | apply Kd.R_alloc | apply Kd.R_drewN | apply Kd.R_drew)); exact HO_4.out) hb); have n1_ := Aside0.mk (Kd.R_lower ho0 (below_size (by repeat (first | (with_reducible first | exact HB.out | apply below_alloc | apply pw_below_drewN | apply below_drew1) | exact HB.out)))); have n2_ := Aside0.mk (below_step (by repeat (first | (with_reducible first | exact HB.out | apply below_alloc | apply pw_below_drewN | apply below_drew1) | exact HB.out)) hb); clear HO_4; clear HB; have HO_4 := n0_; have HO227 := n1_; have HB := n2_; clear n0_ n1_ n2_; (try clear hb); (try clear hb2); (try clear hk); (try clear hi); (try clear ho0); have p228 : 0 ≤ (x5_1 : Int) := of_decide_eq_true (by first | (with_reducible assumption) | assumption); have q228 : x5_1 < (t220.length : Int) := of_decide_eq_true (by first | (with_reducible assumption) | assumption); obtain ⟨ad228, e228, hx228_0, hx228_1, hx228_2⟩ := at_T96 (Kd.R_reads' HO_4.out).2.2 x5_1 p228 q228; obtain rfl : ad223 = ad228 := (by injection e228); replace p228 := eq_true p228; replace q228 := eq_true q228) | (go_at_call 31; (with_reducible refine (bookplateref04_Decode.calls k1 ((rd_T96 t220 x5_1).f2) t229 t230 _ A7.out).mono ?_); rintro e w10 ⟨v231, rfl, ho0, hb⟩; have n0_ := Aside0.mk (Kd.R_below (by (with_reducible repeat (first | apply Kd.R_alloc | apply Kd.R_drewN | apply Kd.R_drew)); exact HO_4.out) hb); have n1_ := Aside0.mk (Kd.R_elder' (by (with_reducible repeat (first | apply Kd.R_alloc | apply Kd.R_drewN | apply Kd.R_drew)); exact HO227.out) (Kd.R_base ho0) hb); have n2_ := Aside0.mk (Kd.R_lower (Kd.R_new' ho0 (Kd.R_lt (by (with_reducible repeat (first | apply Kd.R_alloc | apply Kd.R_drewN | apply Kd.R_drew)); exact HO227.out))) (below_size (by repeat (first | (with_reducible first | exact HB.out | apply below_alloc | apply pw_below_drewN | apply below_drew1) | exact HB.out)))); have n3_ := Aside0.mk (below_step (by repeat (first | (with_reducible first | exact HB.out | apply below_alloc | apply pw_below_drewN | apply below_drew1) | exact HB.out)) hb); clear HO_4; clear HO227; clear HB; have HO_4 := n0_; have HO227 := n1_; have HO232 := n2_; have HB := n3_; clear n0_ n1_ n2_ n3_; (try clear hb); (try clear hb2); (try clear hk); (try clear hi); (try clear ho0)))
          repeat (go_quiet (first | (go_at_call 31; (with_reducible refine (bookplateref04_Decode.calls k1 ((rd_T96 t220 x5_1).f1) t224 t225 _ A6.out).mono ?_); rintro e w9 ⟨v226, rfl, ho0, hb⟩; have n0_ := Aside0.mk (Kd.R_below (by (with_reducible repeat (first | apply Kd.R_alloc | apply Kd.R_drewN | apply Kd.R_drew)); exact HO_4.out) hb); have n1_ := Aside0.mk (Kd.R_lower ho0 (below_size (by repeat (first | (with_reducible first | exact HB.out | apply below_alloc | apply pw_below_drewN | apply below_drew1) | exact HB.out)))); have n2_ := Aside0.mk (below_step (by repeat (first | (with_reducible first | exact HB.out | apply below_alloc | apply pw_below_drewN | apply below_drew1) | exact HB.out)) hb); clear HO_4; clear HB; have HO_4 := n0_; have HO227 := n1_; have HB := n2_; clear n0_ n1_ n2_; (try clear hb); (try clear hb2); (try clear hk); (try clear hi); (try clear ho0); have p228 : 0 ≤ (x5_1 : Int) := of_decide_eq_true (by first | (with_reducible assumption) | assumption); have q228 : x5_1 < (t220.length : Int) := of_decide_eq_true (by first | (with_reducible assumption) | assumption); obtain ⟨ad228, e228, hx228_0, hx228_1, hx228_2⟩ := at_T96 (Kd.R_reads' HO_4.out).2.2 x5_1 p228 q228; obtain rfl : ad223 = ad228 := (by injection e228); replace p228 := eq_true p228; replace q228 := eq_true q228) | (go_at_call 31; (with_reducible refine (bookplateref04_Decode.calls k1 ((rd_T96 t220 x5_1).f2) t229 t230 _ A7.out).mono ?_); rintro e w10 ⟨v231, rfl, ho0, hb⟩; have n0_ := Aside0.mk (Kd.R_below (by (with_reducible repeat (first | apply Kd.R_alloc | apply Kd.R_drewN | apply Kd.R_drew)); exact HO_4.out) hb); have n1_ := Aside0.mk (Kd.R_elder' (by (with_reducible repeat (first | apply Kd.R_alloc | apply Kd.R_drewN | apply Kd.R_drew)); exact HO227.out) (Kd.R_base ho0) hb); have n2_ := Aside0.mk (Kd.R_lower (Kd.R_new' ho0 (Kd.R_lt (by (with_reducible repeat (first | apply Kd.R_alloc | apply Kd.R_drewN | apply Kd.R_drew)); exact HO227.out))) (below_size (by repeat (first | (with_reducible first | exact HB.out | apply below_alloc | apply pw_below_drewN | apply below_drew1) | exact HB.out)))); have n3_ := Aside0.mk (below_step (by repeat (first | (with_reducible first | exact HB.out | apply below_alloc | apply pw_below_drewN | apply below_drew1) | exact HB.out)) hb); clear HO_4; clear HO227; clear HB; have HO_4 := n0_; have HO227 := n1_; have HO232 := n2_; have HB := n3_; clear n0_ n1_ n2_ n3_; (try clear hb); (try clear hb2); (try clear hk); (try clear hi); (try clear ho0))); try go_wp2_with (first | (go_at_call 31; (with_reducible refine (bookplateref04_Decode.calls k1 ((rd_T96 t220 x5_1).f1) t224 t225 _ A6.out).mono ?_); rintro e w9 ⟨v226, rfl, ho0, hb⟩; have n0_ := Aside0.mk (Kd.R_below (by (with_reducible repeat (first | apply Kd.R_alloc | apply Kd.R_drewN | apply Kd.R_drew)); exact HO_4.out) hb); have n1_ := Aside0.mk (Kd.R_lower ho0 (below_size (by repeat (first | (with_reducible first | exact HB.out | apply below_alloc | apply pw_below_drewN | apply below_drew1) | exact HB.out)))); have n2_ := Aside0.mk (below_step (by repeat (first | (with_reducible first | exact HB.out | apply below_alloc | apply pw_below_drewN | apply below_drew1) | exact HB.out)) hb); clear HO_4; clear HB; have HO_4 := n0_; have HO227 := n1_; have HB := n2_; clear n0_ n1_ n2_; (try clear hb); (try clear hb2); (try clear hk); (try clear hi); (try clear ho0); have p228 : 0 ≤ (x5_1 : Int) := of_decide_eq_true (by first | (with_reducible assumption) | assumption); have q228 : x5_1 < (t220.length : Int) := of_decide_eq_true (by first | (with_reducible assumption) | assumption); obtain ⟨ad228, e228, hx228_0, hx228_1, hx228_2⟩ := at_T96 (Kd.R_reads' HO_4.out).2.2 x5_1 p228 q228; obtain rfl : ad223 = ad228 := (by injection e228); replace p228 := eq_true p228; replace q228 := eq_true q228) | (go_at_call 31; (with_reducible refine (bookplateref04_Decode.calls k1 ((rd_T96 t220 x5_1).f2) t229 t230 _ A7.out).mono ?_); rintro e w10 ⟨v231, rfl, ho0, hb⟩; have n0_ := Aside0.mk (Kd.R_below (by (with_reducible repeat (first | apply Kd.R_alloc | apply Kd.R_drewN | apply Kd.R_drew)); exact HO_4.out) hb); have n1_ := Aside0.mk (Kd.R_elder' (by (with_reducible repeat (first | apply Kd.R_alloc | apply Kd.R_drewN | apply Kd.R_drew)); exact HO227.out) (Kd.R_base ho0) hb); have n2_ := Aside0.mk (Kd.R_lower (Kd.R_new' ho0 (Kd.R_lt (by (with_reducible repeat (first | apply Kd.R_alloc | apply Kd.R_drewN | apply Kd.R_drew)); exact HO227.out))) (below_size (by repeat (first | (with_reducible first | exact HB.out | apply below_alloc | apply pw_below_drewN | apply below_drew1) | exact HB.out)))); have n3_ := Aside0.mk (below_step (by repeat (first | (with_reducible first | exact HB.out | apply below_alloc | apply pw_below_drewN | apply below_drew1) | exact HB.out)) hb); clear HO_4; clear HO227; clear HB; have HO_4 := n0_; have HO227 := n1_; have HO232 := n2_; have HB := n3_; clear n0_ n1_ n2_ n3_; (try clear hb); (try clear hb2); (try clear hk); (try clear hi); (try clear ho0))))
          go_loopg [10] k1 (fun kq v10 w' => ∃ (x10_2 : Int), v10 = .int .i64 x10_2 ∧ Aside0 (bookplateref05_pair.l1 kq a0 t220 x5_1 t224 t229 x10_2 = some (r1, r2)) ∧ Aside0 (kq ≤ k1) ∧ Aside0 (Kd.R k96 96 w' w.heap.size (fun _ => True) (.slice (some ad223) t220.length co8) t220) ∧ Aside0 (Kd.R (Kd.int .i64) 3 w' w.heap.size (fun k_ => some k_ ≠ (v231 : Value).ownBlock) v226 t224) ∧ Aside0 (Kd.R (Kd.int .i64) 3 w' w.heap.size (fun k_ => some k_ ≠ (v226 : Value).ownBlock) v231 t229) ∧ Aside0 (Below w.heap.size w w'))
          case atStart => exact ⟨(0), (by first | rfl | (simp; done) | (simp [*]; done)), H', ⟨Nat.le_refl _⟩, ⟨by (with_reducible repeat (first | apply Kd.R_alloc | apply Kd.R_drewN | apply Kd.R_drew)); exact HO_4.out⟩, ⟨by (with_reducible repeat (first | apply Kd.R_alloc | apply Kd.R_drewN | apply Kd.R_drew)); exact Kd.R_mono HO227.out (fun _ hk => hk.2)⟩, ⟨by (with_reducible repeat (first | apply Kd.R_alloc | apply Kd.R_drewN | apply Kd.R_drew)); exact Kd.R_mono HO232.out (fun _ hk => hk.2)⟩, ⟨by repeat (first | (with_reducible first | exact HB.out | apply below_alloc | apply pw_below_drewN | apply below_drew1) | exact HB.out)⟩⟩
          case round =>
            clear H'
            try clear c1
            try clear p2
            try clear q2
            try clear hx2
            try clear c4
            try clear c4b0
            try clear c5
            try clear c5b0
            try clear c10
            try clear hx223_0
            try clear hx223_1
            try clear hx223_2
            try clear hx228_0
            try clear hx228_1
            try clear hx228_2
            try clear p2
            try clear p223
            try clear p228
            try clear q223
            try clear q228
            obtain ⟨x10_2, rfl, HA, HK2, HO_4, HO_6, HO_8, HB⟩ := hrel
            cases gk with
            | zero => exact absurd HA.out (by simp [bookplateref05_pair.l1])
            | succ k2 =>
              have H := HA.out
              clear HA
              simp only [bookplateref05_pair.l1] at H
              by_cases c11 : x10_2 < (t224.length : Int)
              · rw [if_pos c11] at H
                have c11b0 : decide (x10_2 < (t224.length : Int)) = true := decide_eq_true c11
                clear c11
                by_cases c12 : 0 ≤ x10_2
                · rw [if_pos c12] at H
                  have c12b0 : decide (0 ≤ x10_2) = true := decide_eq_true c12
                  clear c12
                  by_cases c13 : (rd t224 x10_2) = a0
                  · rw [if_pos c13] at H
                    have c13b0 : ((rd t224 x10_2) == a0) = true := beq_iff_eq.mpr c13
                    have c13b1 : ((rd t224 x10_2) != a0) = false := bne_eq_false_iff_eq.mpr c13
                    clear c13
                    by_cases c14 : x10_2 < (t229.length : Int)
                    · rw [if_pos c14] at H
                      have c14b0 : decide (x10_2 < (t229.length : Int)) = true := decide_eq_true c14
                      clear c14
                      by_cases c15 : 0 ≤ x5_1
                      · rw [if_pos c15] at H
                        have c15b0 : decide (0 ≤ x5_1) = true := decide_eq_true c15
                        clear c15
                        by_cases c16 : x5_1 < (t220.length : Int)
                        · rw [if_pos c16] at H
                          have c16b0 : decide (x5_1 < (t220.length : Int)) = true := decide_eq_true c16
                          clear c16
                          simp only [Option.some.injEq, Prod.mk.injEq] at H
                          obtain ⟨rfl, rfl⟩ := H
                          obtain ⟨Ao17, co17, eo17⟩ := Kd.R_slice HO_6.out
                          subst eo17
                          have p233 : 0 ≤ (x10_2 : Int) := of_decide_eq_true (by first | (with_reducible assumption) | assumption)
                          have q233 : x10_2 < (t224.length : Int) := of_decide_eq_true (by first | (with_reducible assumption) | assumption)
                          obtain ⟨ad233, e233, hx233_0⟩ := Kd.at_int (Kd.R_reads' HO_6.out).2.2 x10_2 p233 q233
                          cases e233
                          replace p233 := eq_true p233
                          replace q233 := eq_true q233
                          obtain ⟨Ao18, co18, eo18⟩ := Kd.R_slice HO_8.out
                          subst eo18
                          have p234 : 0 ≤ (x10_2 : Int) := of_decide_eq_true (by first | (with_reducible assumption) | assumption)
                          have q234 : x10_2 < (t229.length : Int) := of_decide_eq_true (by first | (with_reducible assumption) | assumption)
                          obtain ⟨ad234, e234, hx234_0⟩ := Kd.at_int (Kd.R_reads' HO_8.out).2.2 x10_2 p234 q234
                          cases e234
                          replace p234 := eq_true p234
                          replace q234 := eq_true q234
                          have p235 : 0 ≤ (x5_1 : Int) := of_decide_eq_true (by first | (with_reducible assumption) | assumption)
                          have q235 : x5_1 < (t220.length : Int) := of_decide_eq_true (by first | (with_reducible assumption) | assumption)
                          obtain ⟨ad235, e235, hx235_0, hx235_1, hx235_2⟩ := at_T96 (Kd.R_reads' HO_4.out).2.2 x5_1 p235 q235
                          obtain rfl : ad223 = ad235 := (by injection e235)
                          replace p235 := eq_true p235
                          replace q235 := eq_true q235
                          go_wp2
                          repeat (go_quiet (fail); try go_wp2)
                          go_ret2
                          exact ⟨by first | rfl | (simp [errW_none, errW_some] <;> rfl) | (simp [*, errW_none, errW_some] <;> rfl), by repeat (first | (with_reducible first | exact HB.out | apply below_alloc | apply pw_below_drewN | apply below_drew1) | exact HB.out)⟩
                        · rw [if_neg c16] at H
                          exact absurd H (by simp)
                      · rw [if_neg c15] at H
                        exact absurd H (by simp)
                    · rw [if_neg c14] at H
                      exact absurd H (by simp)
                  · rw [if_neg c13] at H
                    have c13b0 : ((rd t224 x10_2) == a0) = false := beq_eq_false_iff_ne.mpr c13
                    have c13b1 : ((rd t224 x10_2) != a0) = true := bne_iff_ne.mpr c13
                    have H' := Aside0.mk H
                    clear H
                    obtain ⟨Ao19, co19, eo19⟩ := Kd.R_slice HO_6.out
                    subst eo19
                    have p233 : 0 ≤ (x10_2 : Int) := of_decide_eq_true (by first | (with_reducible assumption) | assumption)
                    have q233 : x10_2 < (t224.length : Int) := of_decide_eq_true (by first | (with_reducible assumption) | assumption)
                    obtain ⟨ad233, e233, hx233_0⟩ := Kd.at_int (Kd.R_reads' HO_6.out).2.2 x10_2 p233 q233
                    cases e233
                    replace p233 := eq_true p233
                    replace q233 := eq_true q233
                    go_wp2
                    repeat (go_quiet (fail); try go_wp2)
                    go_roundg k2
                    case measure => have := HK1.out; have := HK2.out; omega
                    case rel => exact ⟨(wrap64 (x10_2 + 1)), (by first | rfl | (simp; done) | (simp [*]; done)), H', ⟨by have := HK1.out; have := HK2.out; omega⟩, ⟨by (with_reducible repeat (first | apply Kd.R_alloc | apply Kd.R_drewN | apply Kd.R_drew)); exact HO_4.out⟩, ⟨by (with_reducible repeat (first | apply Kd.R_alloc | apply Kd.R_drewN | apply Kd.R_drew)); exact HO_6.out⟩, ⟨by (with_reducible repeat (first | apply Kd.R_alloc | apply Kd.R_drewN | apply Kd.R_drew)); exact HO_8.out⟩, ⟨by repeat (first | (with_reducible first | exact HB.out | apply below_alloc | apply pw_below_drewN | apply below_drew1) | exact HB.out)⟩⟩
                · rw [if_neg c12] at H
                  exact absurd H (by simp)
              · rw [if_neg c11] at H
                have c11b0 : decide (x10_2 < (t224.length : Int)) = false := decide_eq_false c11
                clear c11
                have H' := Aside0.mk H
                clear H
                obtain ⟨Ao20, co20, eo20⟩ := Kd.R_slice HO_6.out
                subst eo20
                go_wp2
                repeat (go_quiet (fail); try go_wp2)
                go_roundg k2
                case measure => have := HK1.out; have := HK2.out; omega
                case rel => exact ⟨(wrap64 (x5_1 + 1)), (by first | rfl | (simp; done) | (simp [*]; done)), H', ⟨by have := HK1.out; have := HK2.out; omega⟩, ⟨by (with_reducible repeat (first | apply Kd.R_alloc | apply Kd.R_drewN | apply Kd.R_drew)); exact HO_4.out⟩, ⟨by repeat (first | (with_reducible first | exact HB.out | apply below_alloc | apply pw_below_drewN | apply below_drew1) | exact HB.out)⟩⟩
        · rw [if_neg c5] at H
          exact absurd H (by simp)
      · rw [if_neg c4] at H
        have c4b0 : decide (x5_1 < (t220.length : Int)) = false := decide_eq_false c4
        clear c4
        simp only [Option.some.injEq, Prod.mk.injEq] at H
        obtain ⟨rfl, rfl⟩ := H
        obtain ⟨Ao21, co21, eo21⟩ := Kd.R_slice HO_4.out
        subst eo21
        go_wp2
        repeat (go_quiet (fail); try go_wp2)
        go_ret2
        exact ⟨by first | rfl | (simp [errW_none, errW_some] <;> rfl) | (simp [*, errW_none, errW_some] <;> rfl), by repeat (first | (with_reducible first | exact HB.out | apply below_alloc | apply pw_below_drewN | apply below_drew1) | exact HB.out)⟩
end Go.Proofs.YthcpdhniakpbaaaDoor.X
end

section
namespace Go.Proofs.YthcpdhniakpbaaaDoor.X
open Go.RowKit Go.Proofs.YthcpdhniakpbaaaDoorW.PrintWords Go.Proofs.YthcpdhniakpbaaaDoorW.PrintLast Go.Proofs.YthcpdhniakpbaaaDoorW.PrintMore
attribute [local go_sem] max2_int min2_int max_two min_two max_three min_three max_four min_four
set_option linter.unusedVariables false
set_option linter.unusedSimpArgs false
mutual
def bookplateref05_whole.j0 : Nat → Int → Bool → Option (List Int)
  | 0, _, _ => none
  | k + 1, x0, x13 => if x13 = true then (some (([wrap64 ((wrap64 (x0 - 176)) + 48)] : List Int))) else (if x0 = 383 then (some (([115] : List Int))) else (if x0 = 64257 then (some (([102, 105] : List Int))) else (if x0 = 64258 then (some (([102, 108] : List Int))) else (if x0 ≥ 65281 then (bookplateref05_whole.j1 k x0 (decide (x0 ≤ 65374))) else (bookplateref05_whole.j1 k x0 false)))))
def bookplateref05_whole.j1 : Nat → Int → Bool → Option (List Int)
  | 0, _, _ => none
  | k + 1, x0, x36 => if x36 = true then (some (([wrap64 (x0 - 65248)] : List Int))) else (if x0 < 192 then (some (([x0] : List Int))) else ((bookplateref05_pair.f k x0).bind fun bt260 => (if bt260.1 = 0 then (some (([x0] : List Int))) else (some (([bt260.1, bt260.2] : List Int))))))
end
def bookplateref05_whole.f (k : Nat) (a0 : Int) : Option (List Int) := if a0 = 160 then (some (([32] : List Int))) else (if a0 = 185 then (some (([49] : List Int))) else (if a0 = 178 then (bookplateref05_whole.j0 k a0 true) else (bookplateref05_whole.j0 k a0 (a0 == 179))))
set_option maxHeartbeats 8000000 in
set_option maxRecDepth 100000 in
theorem bookplateref05_whole.calls (k : Nat) (a0 : Int) (r : List Int) (w : World) (h : bookplateref05_whole.f k a0 = some r) :
    Calls Tryd.prog 89 #[.int .i64 a0] w fun e w' => ∃ v0_ : Value, e = .returned (v0_) ∧ Kd.R (Kd.int .i64) 3 w' w.heap.size (fun _ => True) v0_ r ∧ Below w.heap.size w w' := by
  have HB := Aside0.mk (Below.refl w.heap.size w)
  have H : (if a0 = 160 then (some (([32] : List Int))) else (if a0 = 185 then (some (([49] : List Int))) else (if a0 = 178 then (bookplateref05_whole.j0 k a0 true) else (bookplateref05_whole.j0 k a0 (a0 == 179))))) = some r := h
  clear h
  by_cases c2 : a0 = 160
  · rw [if_pos c2] at H
    have c2b0 : (a0 == 160) = true := beq_iff_eq.mpr c2
    have c2b1 : (a0 != 160) = false := bne_eq_false_iff_eq.mpr c2
    clear c2
    obtain ⟨y236, hy236⟩ : ∃ y_ : List Int, y_ = (([32] : List Int)) := ⟨_, rfl⟩
    replace H : (some y236) = some r := by first | (rw [hy236]; with_reducible exact H) | (have H2_ := (Option.bind_some _ _).symm.trans H; rw [hy236]; with_reducible exact H2_) | (have H2_ := (Option.bind_some _ _).symm.trans H; with_reducible exact H2_) | with_reducible exact H | (rw [hy236]; exact H) | exact H
    have Ny236 := Aside0.mk hy236
    clear hy236
    obtain rfl := Option.some.inj H
    go_enter Tryd.func89, Tryd.ntmps89
    go_wp2_with (first | ((with_reducible refine gate_dst (N := 8) rfl ?_); refine Kd.R_lit (Kd.int .i64) _ 3 ?hg (N := 8) ?hd (xs := ([32] : List Int)) (inner := [.int .i64 32]) (ok := fun _ => True) (okp := fun _ => True) ?hr ?hp (fun _ hk => hk) trivial (Below.refl _ _) (Nat.le_refl _) (by simp) ?_; (case hd => rfl); (case hg => rfl); (case hr => first | (go_simp; done) | (go_simp; rfl)); (case hp => exact (Reps.one (show Kd.M (Kd.int .i64) _ _ _ 32 [.int .i64 32] from rfl) (Reps.none _ _))); intro v237 w3 ho4 hb hg_ hnew_; clear hg_ hnew_; (first | rw [← Ny236.out] at ho4 | (simp only [Int.reduceToNat] at ho4; rw [← Ny236.out] at ho4)); have n0_ := Aside0.mk (Kd.R_lower ho4 (below_size (by repeat (first | (with_reducible first | exact HB.out | apply below_alloc | apply pw_below_drewN | apply below_drew1) | exact HB.out)))); have n1_ := Aside0.mk (below_step (by repeat (first | (with_reducible first | exact HB.out | apply below_alloc | apply pw_below_drewN | apply below_drew1) | exact HB.out)) hb); clear HB; have HO238 := n0_; have HB := n1_; clear n0_ n1_; clear hb ho4))
    go_ret
    exact ⟨_, by first | rfl | (simp [errW_none, errW_some] <;> rfl) | (simp [*, errW_none, errW_some] <;> rfl), by (with_reducible repeat (first | apply Kd.R_alloc | apply Kd.R_drewN | apply Kd.R_drew)); exact HO238.out, by repeat (first | (with_reducible first | exact HB.out | apply below_alloc | apply pw_below_drewN | apply below_drew1) | exact HB.out)⟩
  · rw [if_neg c2] at H
    have c2b0 : (a0 == 160) = false := beq_eq_false_iff_ne.mpr c2
    have c2b1 : (a0 != 160) = true := bne_iff_ne.mpr c2
    by_cases c5 : a0 = 185
    · rw [if_pos c5] at H
      have c5b0 : (a0 == 185) = true := beq_iff_eq.mpr c5
      have c5b1 : (a0 != 185) = false := bne_eq_false_iff_eq.mpr c5
      clear c5
      obtain ⟨y239, hy239⟩ : ∃ y_ : List Int, y_ = (([49] : List Int)) := ⟨_, rfl⟩
      replace H : (some y239) = some r := by first | (rw [hy239]; with_reducible exact H) | (have H2_ := (Option.bind_some _ _).symm.trans H; rw [hy239]; with_reducible exact H2_) | (have H2_ := (Option.bind_some _ _).symm.trans H; with_reducible exact H2_) | with_reducible exact H | (rw [hy239]; exact H) | exact H
      have Ny239 := Aside0.mk hy239
      clear hy239
      obtain rfl := Option.some.inj H
      go_enter Tryd.func89, Tryd.ntmps89
      go_wp2_with (first | ((with_reducible refine gate_dst (N := 12) rfl ?_); refine Kd.R_lit (Kd.int .i64) _ 3 ?hg (N := 12) ?hd (xs := ([49] : List Int)) (inner := [.int .i64 49]) (ok := fun _ => True) (okp := fun _ => True) ?hr ?hp (fun _ hk => hk) trivial (Below.refl _ _) (Nat.le_refl _) (by simp) ?_; (case hd => rfl); (case hg => rfl); (case hr => first | (go_simp; done) | (go_simp; rfl)); (case hp => exact (Reps.one (show Kd.M (Kd.int .i64) _ _ _ 49 [.int .i64 49] from rfl) (Reps.none _ _))); intro v240 w6 ho7 hb hg_ hnew_; clear hg_ hnew_; (first | rw [← Ny239.out] at ho7 | (simp only [Int.reduceToNat] at ho7; rw [← Ny239.out] at ho7)); have n0_ := Aside0.mk (Kd.R_lower ho7 (below_size (by repeat (first | (with_reducible first | exact HB.out | apply below_alloc | apply pw_below_drewN | apply below_drew1) | exact HB.out)))); have n1_ := Aside0.mk (below_step (by repeat (first | (with_reducible first | exact HB.out | apply below_alloc | apply pw_below_drewN | apply below_drew1) | exact HB.out)) hb); clear HB; have HO241 := n0_; have HB := n1_; clear n0_ n1_; clear hb ho7))
      go_ret
      exact ⟨_, by first | rfl | (simp [errW_none, errW_some] <;> rfl) | (simp [*, errW_none, errW_some] <;> rfl), by (with_reducible repeat (first | apply Kd.R_alloc | apply Kd.R_drewN | apply Kd.R_drew)); exact HO241.out, by repeat (first | (with_reducible first | exact HB.out | apply below_alloc | apply pw_below_drewN | apply below_drew1) | exact HB.out)⟩
    · rw [if_neg c5] at H
      have c5b0 : (a0 == 185) = false := beq_eq_false_iff_ne.mpr c5
      have c5b1 : (a0 != 185) = true := bne_iff_ne.mpr c5
      have HC8 := Aside0.mk H
      clear H
      go_enter Tryd.func89, Tryd.ntmps89
      go_upto_region 5 with (fail)
      go_cut [13] (fun v13 wc => ∃ (kq : Nat) (x13_7 : Bool), v13 = .bool x13_7 ∧ Aside0 (bookplateref05_whole.j0 kq a0 x13_7 = some r) ∧ Aside0 (kq ≤ k) ∧ Aside0 (Below w.heap.size w wc))
      case first =>
        have H := HC8.out
        clear HC8
        by_cases c9 : a0 = 178
        · rw [if_pos c9] at H
          have c9b0 : (a0 == 178) = true := beq_iff_eq.mpr c9
          have c9b1 : (a0 != 178) = false := bne_eq_false_iff_eq.mpr c9
          clear c9
          (first | rw [c9b0] | (simp only [i64_w, i32_w]; rw [c9b0]) | skip)
          have H' := Aside0.mk H
          clear H
          go_wp2
          go_meet
          case rel => exact ⟨_, (true), (by first | rfl | (simp; done) | (simp [*]; done)), H', ⟨by first | omega | exact Nat.le_refl _⟩, ⟨by repeat (first | (with_reducible first | exact HB.out | apply below_alloc | apply pw_below_drewN | apply below_drew1) | exact HB.out)⟩⟩
        · rw [if_neg c9] at H
          have c9b0 : (a0 == 178) = false := beq_eq_false_iff_ne.mpr c9
          have c9b1 : (a0 != 178) = true := bne_iff_ne.mpr c9
          (first | rw [c9b0] | (simp only [i64_w, i32_w]; rw [c9b0]) | skip)
          have H' := Aside0.mk H
          clear H
          go_wp2
          go_meet
          case rel => exact ⟨_, ((a0 == 179)), (by first | rfl | (simp; done) | (simp [*]; done)), H', ⟨by first | omega | exact Nat.le_refl _⟩, ⟨by repeat (first | (with_reducible first | exact HB.out | apply below_alloc | apply pw_below_drewN | apply below_drew1) | exact HB.out)⟩⟩
      case rest =>
        clear HC8
        try clear c2
        try clear c2b0
        try clear c2b1
        try clear p2
        try clear c5
        try clear c5b0
        try clear c5b1
        try clear c8
        try clear c9
        try clear c9b0
        try clear c9b1
        obtain ⟨kq, x13_7, rfl, HA, HJ7, HB⟩ := hcut
        cases kq with
        | zero => exact absurd HA.out (by simp [bookplateref05_whole.j0])
        | succ kj7 =>
          have H := HA.out
          clear HA
          simp only [bookplateref05_whole.j0] at H
          by_cases c10 : x13_7 = true
          · subst c10
            have H1 : (some (([wrap64 ((wrap64 (a0 - 176)) + 48)] : List Int))) = some r := by rw [if_pos rfl] at H; exact H
            clear H
            have H := H1
            clear H1
            obtain ⟨y242, hy242⟩ : ∃ y_ : List Int, y_ = (([wrap64 ((wrap64 (a0 - 176)) + 48)] : List Int)) := ⟨_, rfl⟩
            replace H : (some y242) = some r := by first | (rw [hy242]; with_reducible exact H) | (have H2_ := (Option.bind_some _ _).symm.trans H; rw [hy242]; with_reducible exact H2_) | (have H2_ := (Option.bind_some _ _).symm.trans H; with_reducible exact H2_) | with_reducible exact H | (rw [hy242]; exact H) | exact H
            have Ny242 := Aside0.mk hy242
            clear hy242
            obtain rfl := Option.some.inj H
            go_wp2_with (first | ((with_reducible refine gate_dst (N := 23) rfl ?_); refine Kd.R_lit (Kd.int .i64) _ 3 ?hg (N := 23) ?hd (xs := ([wrap64 ((wrap64 (a0 - 176)) + 48)] : List Int)) (inner := [.int .i64 (wrap64 ((wrap64 (a0 - 176)) + 48))]) (ok := fun _ => True) (okp := fun _ => True) ?hr ?hp (fun _ hk => hk) trivial (Below.refl _ _) (Nat.le_refl _) (by simp) ?_; (case hd => rfl); (case hg => rfl); (case hr => first | (go_simp; done) | (go_simp; rfl)); (case hp => exact (Reps.one (show Kd.M (Kd.int .i64) _ _ _ (wrap64 ((wrap64 (a0 - 176)) + 48)) [.int .i64 (wrap64 ((wrap64 (a0 - 176)) + 48))] from rfl) (Reps.none _ _))); intro v243 w11 ho12 hb hg_ hnew_; clear hg_ hnew_; (first | rw [← Ny242.out] at ho12 | (simp only [Int.reduceToNat] at ho12; rw [← Ny242.out] at ho12)); have n0_ := Aside0.mk (Kd.R_lower ho12 (below_size (by repeat (first | (with_reducible first | exact HB.out | apply below_alloc | apply pw_below_drewN | apply below_drew1) | exact HB.out)))); have n1_ := Aside0.mk (below_step (by repeat (first | (with_reducible first | exact HB.out | apply below_alloc | apply pw_below_drewN | apply below_drew1) | exact HB.out)) hb); clear HB; have HO244 := n0_; have HB := n1_; clear n0_ n1_; clear hb ho12))
            go_ret
            exact ⟨_, by first | rfl | (simp [errW_none, errW_some] <;> rfl) | (simp [*, errW_none, errW_some] <;> rfl), by (with_reducible repeat (first | apply Kd.R_alloc | apply Kd.R_drewN | apply Kd.R_drew)); exact HO244.out, by repeat (first | (with_reducible first | exact HB.out | apply below_alloc | apply pw_below_drewN | apply below_drew1) | exact HB.out)⟩
          · replace c10 := Bool.eq_false_iff.mpr c10
            subst c10
            have H1 : (if a0 = 383 then (some (([115] : List Int))) else (if a0 = 64257 then (some (([102, 105] : List Int))) else (if a0 = 64258 then (some (([102, 108] : List Int))) else (if a0 ≥ 65281 then (bookplateref05_whole.j1 kj7 a0 (decide (a0 ≤ 65374))) else (bookplateref05_whole.j1 kj7 a0 false))))) = some r := by rw [if_neg (show ¬ (false = true) by decide)] at H; exact H
            clear H
            have H := H1
            clear H1
            by_cases c13 : a0 = 383
            · rw [if_pos c13] at H
              have c13b0 : (a0 == 383) = true := beq_iff_eq.mpr c13
              have c13b1 : (a0 != 383) = false := bne_eq_false_iff_eq.mpr c13
              clear c13
              obtain ⟨y245, hy245⟩ : ∃ y_ : List Int, y_ = (([115] : List Int)) := ⟨_, rfl⟩
              replace H : (some y245) = some r := by first | (rw [hy245]; with_reducible exact H) | (have H2_ := (Option.bind_some _ _).symm.trans H; rw [hy245]; with_reducible exact H2_) | (have H2_ := (Option.bind_some _ _).symm.trans H; with_reducible exact H2_) | with_reducible exact H | (rw [hy245]; exact H) | exact H
              have Ny245 := Aside0.mk hy245
              clear hy245
              obtain rfl := Option.some.inj H
              go_wp2_with (first | ((with_reducible refine gate_dst (N := 27) rfl ?_); refine Kd.R_lit (Kd.int .i64) _ 3 ?hg (N := 27) ?hd (xs := ([115] : List Int)) (inner := [.int .i64 115]) (ok := fun _ => True) (okp := fun _ => True) ?hr ?hp (fun _ hk => hk) trivial (Below.refl _ _) (Nat.le_refl _) (by simp) ?_; (case hd => rfl); (case hg => rfl); (case hr => first | (go_simp; done) | (go_simp; rfl)); (case hp => exact (Reps.one (show Kd.M (Kd.int .i64) _ _ _ 115 [.int .i64 115] from rfl) (Reps.none _ _))); intro v246 w14 ho15 hb hg_ hnew_; clear hg_ hnew_; (first | rw [← Ny245.out] at ho15 | (simp only [Int.reduceToNat] at ho15; rw [← Ny245.out] at ho15)); have n0_ := Aside0.mk (Kd.R_lower ho15 (below_size (by repeat (first | (with_reducible first | exact HB.out | apply below_alloc | apply pw_below_drewN | apply below_drew1) | exact HB.out)))); have n1_ := Aside0.mk (below_step (by repeat (first | (with_reducible first | exact HB.out | apply below_alloc | apply pw_below_drewN | apply below_drew1) | exact HB.out)) hb); clear HB; have HO247 := n0_; have HB := n1_; clear n0_ n1_; clear hb ho15))
              go_ret
              exact ⟨_, by first | rfl | (simp [errW_none, errW_some] <;> rfl) | (simp [*, errW_none, errW_some] <;> rfl), by (with_reducible repeat (first | apply Kd.R_alloc | apply Kd.R_drewN | apply Kd.R_drew)); exact HO247.out, by repeat (first | (with_reducible first | exact HB.out | apply below_alloc | apply pw_below_drewN | apply below_drew1) | exact HB.out)⟩
            · rw [if_neg c13] at H
              have c13b0 : (a0 == 383) = false := beq_eq_false_iff_ne.mpr c13
              have c13b1 : (a0 != 383) = true := bne_iff_ne.mpr c13
              by_cases c16 : a0 = 64257
              · rw [if_pos c16] at H
                have c16b0 : (a0 == 64257) = true := beq_iff_eq.mpr c16
                have c16b1 : (a0 != 64257) = false := bne_eq_false_iff_eq.mpr c16
                clear c16
                obtain ⟨y248, hy248⟩ : ∃ y_ : List Int, y_ = (([102, 105] : List Int)) := ⟨_, rfl⟩
                replace H : (some y248) = some r := by first | (rw [hy248]; with_reducible exact H) | (have H2_ := (Option.bind_some _ _).symm.trans H; rw [hy248]; with_reducible exact H2_) | (have H2_ := (Option.bind_some _ _).symm.trans H; with_reducible exact H2_) | with_reducible exact H | (rw [hy248]; exact H) | exact H
                have Ny248 := Aside0.mk hy248
                clear hy248
                obtain rfl := Option.some.inj H
                go_wp2_with (first | ((with_reducible refine gate_dst (N := 31) rfl ?_); refine Kd.R_lit (Kd.int .i64) _ 3 ?hg (N := 31) ?hd (xs := ([102, 105] : List Int)) (inner := [.int .i64 102, .int .i64 105]) (ok := fun _ => True) (okp := fun _ => True) ?hr ?hp (fun _ hk => hk) trivial (Below.refl _ _) (Nat.le_refl _) (by simp) ?_; (case hd => rfl); (case hg => rfl); (case hr => first | (go_simp; done) | (go_simp; rfl)); (case hp => exact (Reps.one (show Kd.M (Kd.int .i64) _ _ _ 102 [.int .i64 102] from rfl) (Reps.one (show Kd.M (Kd.int .i64) _ _ _ 105 [.int .i64 105] from rfl) (Reps.none _ _)))); intro v249 w17 ho18 hb hg_ hnew_; clear hg_ hnew_; (first | rw [← Ny248.out] at ho18 | (simp only [Int.reduceToNat] at ho18; rw [← Ny248.out] at ho18)); have n0_ := Aside0.mk (Kd.R_lower ho18 (below_size (by repeat (first | (with_reducible first | exact HB.out | apply below_alloc | apply pw_below_drewN | apply below_drew1) | exact HB.out)))); have n1_ := Aside0.mk (below_step (by repeat (first | (with_reducible first | exact HB.out | apply below_alloc | apply pw_below_drewN | apply below_drew1) | exact HB.out)) hb); clear HB; have HO250 := n0_; have HB := n1_; clear n0_ n1_; clear hb ho18))
                go_ret
                exact ⟨_, by first | rfl | (simp [errW_none, errW_some] <;> rfl) | (simp [*, errW_none, errW_some] <;> rfl), by (with_reducible repeat (first | apply Kd.R_alloc | apply Kd.R_drewN | apply Kd.R_drew)); exact HO250.out, by repeat (first | (with_reducible first | exact HB.out | apply below_alloc | apply pw_below_drewN | apply below_drew1) | exact HB.out)⟩
              · rw [if_neg c16] at H
                have c16b0 : (a0 == 64257) = false := beq_eq_false_iff_ne.mpr c16
                have c16b1 : (a0 != 64257) = true := bne_iff_ne.mpr c16
                by_cases c19 : a0 = 64258
                · rw [if_pos c19] at H
                  have c19b0 : (a0 == 64258) = true := beq_iff_eq.mpr c19
                  have c19b1 : (a0 != 64258) = false := bne_eq_false_iff_eq.mpr c19
                  clear c19
                  obtain ⟨y251, hy251⟩ : ∃ y_ : List Int, y_ = (([102, 108] : List Int)) := ⟨_, rfl⟩
                  replace H : (some y251) = some r := by first | (rw [hy251]; with_reducible exact H) | (have H2_ := (Option.bind_some _ _).symm.trans H; rw [hy251]; with_reducible exact H2_) | (have H2_ := (Option.bind_some _ _).symm.trans H; with_reducible exact H2_) | with_reducible exact H | (rw [hy251]; exact H) | exact H
                  have Ny251 := Aside0.mk hy251
                  clear hy251
                  obtain rfl := Option.some.inj H
                  go_wp2_with (first | ((with_reducible refine gate_dst (N := 35) rfl ?_); refine Kd.R_lit (Kd.int .i64) _ 3 ?hg (N := 35) ?hd (xs := ([102, 108] : List Int)) (inner := [.int .i64 102, .int .i64 108]) (ok := fun _ => True) (okp := fun _ => True) ?hr ?hp (fun _ hk => hk) trivial (Below.refl _ _) (Nat.le_refl _) (by simp) ?_; (case hd => rfl); (case hg => rfl); (case hr => first | (go_simp; done) | (go_simp; rfl)); (case hp => exact (Reps.one (show Kd.M (Kd.int .i64) _ _ _ 102 [.int .i64 102] from rfl) (Reps.one (show Kd.M (Kd.int .i64) _ _ _ 108 [.int .i64 108] from rfl) (Reps.none _ _)))); intro v252 w20 ho21 hb hg_ hnew_; clear hg_ hnew_; (first | rw [← Ny251.out] at ho21 | (simp only [Int.reduceToNat] at ho21; rw [← Ny251.out] at ho21)); have n0_ := Aside0.mk (Kd.R_lower ho21 (below_size (by repeat (first | (with_reducible first | exact HB.out | apply below_alloc | apply pw_below_drewN | apply below_drew1) | exact HB.out)))); have n1_ := Aside0.mk (below_step (by repeat (first | (with_reducible first | exact HB.out | apply below_alloc | apply pw_below_drewN | apply below_drew1) | exact HB.out)) hb); clear HB; have HO253 := n0_; have HB := n1_; clear n0_ n1_; clear hb ho21))
                  go_ret
                  exact ⟨_, by first | rfl | (simp [errW_none, errW_some] <;> rfl) | (simp [*, errW_none, errW_some] <;> rfl), by (with_reducible repeat (first | apply Kd.R_alloc | apply Kd.R_drewN | apply Kd.R_drew)); exact HO253.out, by repeat (first | (with_reducible first | exact HB.out | apply below_alloc | apply pw_below_drewN | apply below_drew1) | exact HB.out)⟩
                · rw [if_neg c19] at H
                  have c19b0 : (a0 == 64258) = false := beq_eq_false_iff_ne.mpr c19
                  have c19b1 : (a0 != 64258) = true := bne_iff_ne.mpr c19
                  have HC22 := Aside0.mk H
                  clear H
                  go_upto_region 13 with (fail)
                  go_cut [36] (fun v36 wc => ∃ (kq : Nat) (x36_21 : Bool), v36 = .bool x36_21 ∧ Aside0 (bookplateref05_whole.j1 kq a0 x36_21 = some r) ∧ Aside0 (kq ≤ kj7) ∧ Aside0 (Below w.heap.size w wc))
                  case first =>
                    have H := HC22.out
                    clear HC22
                    by_cases c23 : a0 ≥ 65281
                    · rw [if_pos c23] at H
                      have c23b0 : decide (65281 ≤ a0) = true := decide_eq_true c23
                      clear c23
                      (first | rw [c23b0] | (simp only [i64_w, i32_w]; rw [c23b0]) | skip)
                      have H' := Aside0.mk H
                      clear H
                      go_wp2
                      go_meet
                      case rel => exact ⟨_, (decide (a0 ≤ 65374)), (by first | rfl | (simp; done) | (simp [*]; done)), H', ⟨by have := HJ7.out; first | omega | exact Nat.le_refl _⟩, ⟨by repeat (first | (with_reducible first | exact HB.out | apply below_alloc | apply pw_below_drewN | apply below_drew1) | exact HB.out)⟩⟩
                    · rw [if_neg c23] at H
                      have c23b0 : decide (65281 ≤ a0) = false := decide_eq_false c23
                      clear c23
                      (first | rw [c23b0] | (simp only [i64_w, i32_w]; rw [c23b0]) | skip)
                      have H' := Aside0.mk H
                      clear H
                      go_wp2
                      go_meet
                      case rel => exact ⟨_, (false), (by first | rfl | (simp; done) | (simp [*]; done)), H', ⟨by have := HJ7.out; first | omega | exact Nat.le_refl _⟩, ⟨by repeat (first | (with_reducible first | exact HB.out | apply below_alloc | apply pw_below_drewN | apply below_drew1) | exact HB.out)⟩⟩
                  case rest =>
                    clear HC22
                    try clear c1
                    try clear c2
                    try clear c2b0
                    try clear c2b1
                    try clear p2
                    try clear c5
                    try clear c5b0
                    try clear c5b1
                    try clear p6
                    try clear c8
                    try clear c9
                    try clear c9b0
                    try clear c9b1
                    try clear c10
                    try clear c13
                    try clear c13b0
                    try clear c13b1
                    try clear c16
                    try clear c16b0
                    try clear c16b1
                    try clear c19
                    try clear c19b0
                    try clear c19b1
                    try clear c23
                    try clear c23b0
                    try clear p2
                    obtain ⟨kq, x36_21, rfl, HA, HJ21, HB⟩ := hcut
                    cases kq with
                    | zero => exact absurd HA.out (by simp [bookplateref05_whole.j1])
                    | succ kj21 =>
                      have H := HA.out
                      clear HA
                      simp only [bookplateref05_whole.j1] at H
                      by_cases c24 : x36_21 = true
                      · subst c24
                        have H1 : (some (([wrap64 (a0 - 65248)] : List Int))) = some r := by rw [if_pos rfl] at H; exact H
                        clear H
                        have H := H1
                        clear H1
                        obtain ⟨y254, hy254⟩ : ∃ y_ : List Int, y_ = (([wrap64 (a0 - 65248)] : List Int)) := ⟨_, rfl⟩
                        replace H : (some y254) = some r := by first | (rw [hy254]; with_reducible exact H) | (have H2_ := (Option.bind_some _ _).symm.trans H; rw [hy254]; with_reducible exact H2_) | (have H2_ := (Option.bind_some _ _).symm.trans H; with_reducible exact H2_) | with_reducible exact H | (rw [hy254]; exact H) | exact H
                        have Ny254 := Aside0.mk hy254
                        clear hy254
                        obtain rfl := Option.some.inj H
                        go_wp2_with (first | ((with_reducible refine gate_dst (N := 45) rfl ?_); refine Kd.R_lit (Kd.int .i64) _ 3 ?hg (N := 45) ?hd (xs := ([wrap64 (a0 - 65248)] : List Int)) (inner := [.int .i64 (wrap64 (a0 - 65248))]) (ok := fun _ => True) (okp := fun _ => True) ?hr ?hp (fun _ hk => hk) trivial (Below.refl _ _) (Nat.le_refl _) (by simp) ?_; (case hd => rfl); (case hg => rfl); (case hr => first | (go_simp; done) | (go_simp; rfl)); (case hp => exact (Reps.one (show Kd.M (Kd.int .i64) _ _ _ (wrap64 (a0 - 65248)) [.int .i64 (wrap64 (a0 - 65248))] from rfl) (Reps.none _ _))); intro v255 w25 ho26 hb hg_ hnew_; clear hg_ hnew_; (first | rw [← Ny254.out] at ho26 | (simp only [Int.reduceToNat] at ho26; rw [← Ny254.out] at ho26)); have n0_ := Aside0.mk (Kd.R_lower ho26 (below_size (by repeat (first | (with_reducible first | exact HB.out | apply below_alloc | apply pw_below_drewN | apply below_drew1) | exact HB.out)))); have n1_ := Aside0.mk (below_step (by repeat (first | (with_reducible first | exact HB.out | apply below_alloc | apply pw_below_drewN | apply below_drew1) | exact HB.out)) hb); clear HB; have HO256 := n0_; have HB := n1_; clear n0_ n1_; clear hb ho26))
                        go_ret
                        exact ⟨_, by first | rfl | (simp [errW_none, errW_some] <;> rfl) | (simp [*, errW_none, errW_some] <;> rfl), by (with_reducible repeat (first | apply Kd.R_alloc | apply Kd.R_drewN | apply Kd.R_drew)); exact HO256.out, by repeat (first | (with_reducible first | exact HB.out | apply below_alloc | apply pw_below_drewN | apply below_drew1) | exact HB.out)⟩
                      · replace c24 := Bool.eq_false_iff.mpr c24
                        subst c24
                        have H1 : (if a0 < 192 then (some (([a0] : List Int))) else ((bookplateref05_pair.f kj21 a0).bind fun bt260 => (if bt260.1 = 0 then (some (([a0] : List Int))) else (some (([bt260.1, bt260.2] : List Int)))))) = some r := by rw [if_neg (show ¬ (false = true) by decide)] at H; exact H
                        clear H
                        have H := H1
                        clear H1
                        by_cases c27 : a0 < 192
                        · rw [if_pos c27] at H
                          have c27b0 : decide (a0 < 192) = true := decide_eq_true c27
                          clear c27
                          obtain ⟨y257, hy257⟩ : ∃ y_ : List Int, y_ = (([a0] : List Int)) := ⟨_, rfl⟩
                          replace H : (some y257) = some r := by first | (rw [hy257]; with_reducible exact H) | (have H2_ := (Option.bind_some _ _).symm.trans H; rw [hy257]; with_reducible exact H2_) | (have H2_ := (Option.bind_some _ _).symm.trans H; with_reducible exact H2_) | with_reducible exact H | (rw [hy257]; exact H) | exact H
                          have Ny257 := Aside0.mk hy257
                          clear hy257
                          obtain rfl := Option.some.inj H
                          go_wp2_with (first | ((with_reducible refine gate_dst (N := 50) rfl ?_); refine Kd.R_lit (Kd.int .i64) _ 3 ?hg (N := 50) ?hd (xs := ([a0] : List Int)) (inner := [.int .i64 a0]) (ok := fun _ => True) (okp := fun _ => True) ?hr ?hp (fun _ hk => hk) trivial (Below.refl _ _) (Nat.le_refl _) (by simp) ?_; (case hd => rfl); (case hg => rfl); (case hr => first | (go_simp; done) | (go_simp; rfl)); (case hp => exact (Reps.one (show Kd.M (Kd.int .i64) _ _ _ a0 [.int .i64 a0] from rfl) (Reps.none _ _))); intro v258 w28 ho29 hb hg_ hnew_; clear hg_ hnew_; (first | rw [← Ny257.out] at ho29 | (simp only [Int.reduceToNat] at ho29; rw [← Ny257.out] at ho29)); have n0_ := Aside0.mk (Kd.R_lower ho29 (below_size (by repeat (first | (with_reducible first | exact HB.out | apply below_alloc | apply pw_below_drewN | apply below_drew1) | exact HB.out)))); have n1_ := Aside0.mk (below_step (by repeat (first | (with_reducible first | exact HB.out | apply below_alloc | apply pw_below_drewN | apply below_drew1) | exact HB.out)) hb); clear HB; have HO259 := n0_; have HB := n1_; clear n0_ n1_; clear hb ho29))
                          go_ret
                          exact ⟨_, by first | rfl | (simp [errW_none, errW_some] <;> rfl) | (simp [*, errW_none, errW_some] <;> rfl), by (with_reducible repeat (first | apply Kd.R_alloc | apply Kd.R_drewN | apply Kd.R_drew)); exact HO259.out, by repeat (first | (with_reducible first | exact HB.out | apply below_alloc | apply pw_below_drewN | apply below_drew1) | exact HB.out)⟩
                        · rw [if_neg c27] at H
                          have c27b0 : decide (a0 < 192) = false := decide_eq_false c27
                          clear c27
                          replace H := Option.bind_eq_some_iff.mp H
                          obtain ⟨⟨t260, t261⟩, A300, H⟩ := H
                          replace H : (if t260 = 0 then (some (([a0] : List Int))) else (some (([t260, t261] : List Int)))) = some r := H
                          have A30 := Aside0.mk A300
                          clear A300
                          by_cases c31 : t260 = 0
                          · rw [if_pos c31] at H
                            have c31b0 : (t260 == 0) = true := beq_iff_eq.mpr c31
                            have c31b1 : (t260 != 0) = false := bne_eq_false_iff_eq.mpr c31
                            clear c31
                            obtain ⟨y262, hy262⟩ : ∃ y_ : List Int, y_ = (([a0] : List Int)) := ⟨_, rfl⟩
                            replace H : (some y262) = some r := by first | (rw [hy262]; with_reducible exact H) | (have H2_ := (Option.bind_some _ _).symm.trans H; rw [hy262]; with_reducible exact H2_) | (have H2_ := (Option.bind_some _ _).symm.trans H; with_reducible exact H2_) | with_reducible exact H | (rw [hy262]; exact H) | exact H
                            have Ny262 := Aside0.mk hy262
                            clear hy262
                            obtain rfl := Option.some.inj H
                            go_wp2_with (first | ((with_reducible refine gate_callee (f := 102) rfl ?_); refine goesL_ (some 53) rfl rfl Tryd.func102 (by kernel_rfl) rfl #[.int .i64 a0] rfl (by (try simp only [List.map_toArray, List.map_cons, List.map_nil]); first | done | rfl | (simp only [List.length_drop, List.length_take]; rfl)) ?_; (with_reducible refine (bookplateref05_pair.calls kj21 a0 t260 t261 _ A30.out).mono ?_); rintro e w32 ⟨rfl, hb⟩; refine ⟨_, rfl, ?_⟩; have n0_ := Aside0.mk (below_step (by repeat (first | (with_reducible first | exact HB.out | apply below_alloc | apply pw_below_drewN | apply below_drew1) | exact HB.out)) hb); clear HB; have HB := n0_; clear n0_; (try clear hb); (try clear hb2); (try clear hk); (try clear hi)) | ((with_reducible refine gate_dst (N := 62) rfl ?_); refine Kd.R_lit (Kd.int .i64) _ 3 ?hg (N := 62) ?hd (xs := ([a0] : List Int)) (inner := [.int .i64 a0]) (ok := fun _ => True) (okp := fun _ => True) ?hr ?hp (fun _ hk => hk) trivial (Below.refl _ _) (Nat.le_refl _) (by simp) ?_; (case hd => rfl); (case hg => rfl); (case hr => first | (go_simp; done) | (go_simp; rfl)); (case hp => exact (Reps.one (show Kd.M (Kd.int .i64) _ _ _ a0 [.int .i64 a0] from rfl) (Reps.none _ _))); intro v263 w33 ho34 hb hg_ hnew_; clear hg_ hnew_; (first | rw [← Ny262.out] at ho34 | (simp only [Int.reduceToNat] at ho34; rw [← Ny262.out] at ho34)); have n0_ := Aside0.mk (Kd.R_lower ho34 (below_size (by repeat (first | (with_reducible first | exact HB.out | apply below_alloc | apply pw_below_drewN | apply below_drew1) | exact HB.out)))); have n1_ := Aside0.mk (below_step (by repeat (first | (with_reducible first | exact HB.out | apply below_alloc | apply pw_below_drewN | apply below_drew1) | exact HB.out)) hb); clear HB; have HO264 := n0_; have HB := n1_; clear n0_ n1_; clear hb ho34))
                            go_ret
                            exact ⟨_, by first | rfl | (simp [errW_none, errW_some] <;> rfl) | (simp [*, errW_none, errW_some] <;> rfl), by (with_reducible repeat (first | apply Kd.R_alloc | apply Kd.R_drewN | apply Kd.R_drew)); exact HO264.out, by repeat (first | (with_reducible first | exact HB.out | apply below_alloc | apply pw_below_drewN | apply below_drew1) | exact HB.out)⟩
                          · rw [if_neg c31] at H
                            have c31b0 : (t260 == 0) = false := beq_eq_false_iff_ne.mpr c31
                            have c31b1 : (t260 != 0) = true := bne_iff_ne.mpr c31
                            obtain ⟨y265, hy265⟩ : ∃ y_ : List Int, y_ = (([t260, t261] : List Int)) := ⟨_, rfl⟩
                            replace H : (some y265) = some r := by first | (rw [hy265]; with_reducible exact H) | (have H2_ := (Option.bind_some _ _).symm.trans H; rw [hy265]; with_reducible exact H2_) | (have H2_ := (Option.bind_some _ _).symm.trans H; with_reducible exact H2_) | with_reducible exact H | (rw [hy265]; exact H) | exact H
                            have Ny265 := Aside0.mk hy265
                            clear hy265
                            obtain rfl := Option.some.inj H
                            go_wp2_with (first | ((with_reducible refine gate_callee (f := 102) rfl ?_); refine goesL_ (some 53) rfl rfl Tryd.func102 (by kernel_rfl) rfl #[.int .i64 a0] rfl (by (try simp only [List.map_toArray, List.map_cons, List.map_nil]); first | done | rfl | (simp only [List.length_drop, List.length_take]; rfl)) ?_; (with_reducible refine (bookplateref05_pair.calls kj21 a0 t260 t261 _ A30.out).mono ?_); rintro e w35 ⟨rfl, hb⟩; refine ⟨_, rfl, ?_⟩; have n0_ := Aside0.mk (below_step (by repeat (first | (with_reducible first | exact HB.out | apply below_alloc | apply pw_below_drewN | apply below_drew1) | exact HB.out)) hb); clear HB; have HB := n0_; clear n0_; (try clear hb); (try clear hb2); (try clear hk); (try clear hi)) | ((with_reducible refine gate_dst (N := 60) rfl ?_); refine Kd.R_lit (Kd.int .i64) _ 3 ?hg (N := 60) ?hd (xs := ([t260, t261] : List Int)) (inner := [.int .i64 t260, .int .i64 t261]) (ok := fun _ => True) (okp := fun _ => True) ?hr ?hp (fun _ hk => hk) trivial (Below.refl _ _) (Nat.le_refl _) (by simp) ?_; (case hd => rfl); (case hg => rfl); (case hr => first | (go_simp; done) | (go_simp; rfl)); (case hp => exact (Reps.one (show Kd.M (Kd.int .i64) _ _ _ t260 [.int .i64 t260] from rfl) (Reps.one (show Kd.M (Kd.int .i64) _ _ _ t261 [.int .i64 t261] from rfl) (Reps.none _ _)))); intro v266 w36 ho37 hb hg_ hnew_; clear hg_ hnew_; (first | rw [← Ny265.out] at ho37 | (simp only [Int.reduceToNat] at ho37; rw [← Ny265.out] at ho37)); have n0_ := Aside0.mk (Kd.R_lower ho37 (below_size (by repeat (first | (with_reducible first | exact HB.out | apply below_alloc | apply pw_below_drewN | apply below_drew1) | exact HB.out)))); have n1_ := Aside0.mk (below_step (by repeat (first | (with_reducible first | exact HB.out | apply below_alloc | apply pw_below_drewN | apply below_drew1) | exact HB.out)) hb); clear HB; have HO267 := n0_; have HB := n1_; clear n0_ n1_; clear hb ho37))
                            go_ret
                            exact ⟨_, by first | rfl | (simp [errW_none, errW_some] <;> rfl) | (simp [*, errW_none, errW_some] <;> rfl), by (with_reducible repeat (first | apply Kd.R_alloc | apply Kd.R_drewN | apply Kd.R_drew)); exact HO267.out, by repeat (first | (with_reducible first | exact HB.out | apply below_alloc | apply pw_below_drewN | apply below_drew1) | exact HB.out)⟩
end Go.Proofs.YthcpdhniakpbaaaDoor.X
end

section
namespace Go.Proofs.YthcpdhniakpbaaaDoor.X
open Go.RowKit Go.Proofs.YthcpdhniakpbaaaDoorW.PrintWords Go.Proofs.YthcpdhniakpbaaaDoorW.PrintLast Go.Proofs.YthcpdhniakpbaaaDoorW.PrintMore
attribute [local go_sem] max2_int min2_int max_two min_two max_three min_three max_four min_four
set_option linter.unusedVariables false
set_option linter.unusedSimpArgs false
mutual
def bookplateref05_decomposed.l0 : Nat → List Int → List Int → Int → Option (List Int)
  | 0, _, _, _ => none
  | k + 1, x3, x5, x6 => if x6 < (x3.length : Int) then (if 0 ≤ x6 then ((bookplateref05_whole.f k (rd x3 x6)).bind fun t273 => (bookplateref05_decomposed.l1 k x3 x5 x6 t273 0)) else (none)) else (some x5)
def bookplateref05_decomposed.l1 : Nat → List Int → List Int → Int → List Int → Int → Option (List Int)
  | 0, _, _, _, _, _ => none
  | k + 1, x3, x5, x6, x7, x8 => if x8 < (x7.length : Int) then (if 0 ≤ x8 then (if x5.length < 17592186044416 then ((some (x5 ++ [rd x7 x8] : List Int)).bind fun y277 => (bookplateref05_decomposed.l2 k x3 y277 x6 x7 x8 (wrap64 ((y277.length : Int) - 1)))) else (none)) else (none)) else (bookplateref05_decomposed.l0 k x3 x5 (wrap64 (x6 + 1)))
def bookplateref05_decomposed.l2 : Nat → List Int → List Int → Int → List Int → Int → Int → Option (List Int)
  | 0, _, _, _, _, _, _ => none
  | k + 1, x3, x5, x6, x7, x8, x9 => if x9 > 0 then (if 0 ≤ x9 then (if x9 < (x5.length : Int) then ((bookplateref05_class.f k (rd x5 x9)).bind fun t281 => (if t281 > 0 then (if 0 ≤ (wrap64 (x9 - 1)) then (if (wrap64 (x9 - 1)) < (x5.length : Int) then ((bookplateref05_class.f k (rd x5 (wrap64 (x9 - 1)))).bind fun t283 => ((bookplateref05_class.f k (rd x5 x9)).bind fun t285 => (if t283 > t285 then (bookplateref05_decomposed.l2 k x3 ((x5.set ((wrap64 (x9 - 1)) : Int).toNat (rd x5 x9)).set (x9 : Int).toNat (rd x5 (wrap64 (x9 - 1)))) x6 x7 x8 (wrap64 (x9 - 1))) else (bookplateref05_decomposed.l1 k x3 x5 x6 x7 (wrap64 (x8 + 1)))))) else (none)) else (none)) else (bookplateref05_decomposed.l1 k x3 x5 x6 x7 (wrap64 (x8 + 1))))) else (none)) else (none)) else (bookplateref05_decomposed.l1 k x3 x5 x6 x7 (wrap64 (x8 + 1)))
end
def bookplateref05_decomposed.f (k : Nat) (a0 : ByteArray) : Option (List Int) := (bookplateref04_Decode.f k a0).bind fun bt268 => (bookplateref05_decomposed.l0 k bt268.1 ([] : List Int) 0)
def bookplateref05_decomposed.T12 : Bool × List (List Nat × List Nat) := (true, [([], []), ([0], [0]), ([1], [1]), ([2], [2]), ([2], [2]), ([3, 4, 2], [2, 3, 4]), ([5, 2], [2, 5]), ([6, 2, 2], [2, 6]), ([7, 2], [2, 7]), ([2, 8], [2, 8]), ([9, 7], [9]), ([10], [10]), ([10], [10]), ([12, 10], [10, 12]), ([11, 13, 10], [10, 11, 13]), ([14, 10], [10, 14]), ([15, 10, 10], [10, 15]), ([10], [10]), ([10], [10]), ([17, 18, 10], [10, 17, 18]), ([19, 10], [10, 19]), ([20, 16, 10], [10, 20]), ([16, 21, 10], [10, 16, 21]), ([10, 22], [10, 22])])
def bookplateref05_decomposed.B12 : List Nat := [0, 1, 3, 7, 7, 31, 63, 127, 255, 511, 1023, 2047, 2047, 6143, 16383, 32767, 65535, 2047, 2047, 395263, 919551, 2097151, 4194303, 8388607]
theorem bookplateref05_decomposed.tab12 : rtab .any (opsOf Tryd.f66 12) = bookplateref05_decomposed.T12 := by kernel_rfl
theorem bookplateref05_decomposed.bits12 : waitsOk bookplateref05_decomposed.T12.2 bookplateref05_decomposed.B12 = true := by kernel_rfl
def bookplateref05_decomposed.T14 : Bool × List (List Nat × List Nat) := (true, [([], []), ([], []), ([1], [1]), ([], []), ([], []), ([], []), ([], []), ([5, 6], [5, 6]), ([7], [7]), ([], []), ([], []), ([10], [10]), ([9, 11], [9, 11]), ([12], [12]), ([0, 2, 0, 1, 2, 5, 6, 7, 8, 13], [0, 2]), ([14, 8, 0, 1, 2, 5, 6, 7, 8, 13], [8, 14]), ([3, 4, 0, 1, 2, 3, 4, 5, 6, 7, 8, 9, 10, 11, 12, 13, 14, 15], [3, 4]), ([16, 13, 15, 0, 1, 2, 3, 4, 5, 6, 7, 8, 9, 10, 11, 12, 13, 14, 15], [13, 16])])
def bookplateref05_decomposed.B14 : List Nat := [0, 0, 2, 0, 0, 0, 0, 96, 224, 0, 0, 1024, 3584, 7680, 16359, 32743, 65535, 131071]
theorem bookplateref05_decomposed.tab14 : rtab .any (opsOf Tryd.f66 14) = bookplateref05_decomposed.T14 := by kernel_rfl
theorem bookplateref05_decomposed.bits14 : waitsOk bookplateref05_decomposed.T14.2 bookplateref05_decomposed.B14 = true := by kernel_rfl
set_option maxHeartbeats 8000000 in
set_option maxRecDepth 100000 in
theorem bookplateref05_decomposed.calls (k : Nat) (a0 : ByteArray) (r : List Int) (w : World) (h : bookplateref05_decomposed.f k a0 = some r) :
    Calls Tryd.prog 66 #[.string a0] w fun e w' => ∃ v0_ : Value, e = .returned (v0_) ∧ Kd.R (Kd.int .i64) 3 w' w.heap.size (fun _ => True) v0_ r ∧ Below w.heap.size w w' := by
  have HB := Aside0.mk (Below.refl w.heap.size w)
  have H : ((bookplateref04_Decode.f k a0).bind fun bt268 => (bookplateref05_decomposed.l0 k bt268.1 ([] : List Int) 0)) = some r := h
  clear h
  replace H := Option.bind_eq_some_iff.mp H
  obtain ⟨⟨t268, t269⟩, A20, H⟩ := H
  replace H : (bookplateref05_decomposed.l0 k t268 ([] : List Int) 0) = some r := H
  have A2 := Aside0.mk A20
  clear A20
  have H' := Aside0.mk H
  clear H
  go_enter Tryd.func66, Tryd.ntmps66
  go_wp2_with (first | ((with_reducible refine gate_callee (f := 31) rfl ?_); refine goesL_ (some 12) rfl rfl Tryd.func31 (by kernel_rfl) rfl #[.string a0] rfl (by (try simp only [List.map_toArray, List.map_cons, List.map_nil]); first | done | rfl | (simp only [List.length_drop, List.length_take]; rfl)) ?_; (with_reducible refine (bookplateref04_Decode.calls k a0 t268 t269 _ A2.out).mono ?_); rintro e w3 ⟨v270, rfl, ho0, hb⟩; refine ⟨_, rfl, ?_⟩; have n0_ := Aside0.mk (Kd.R_lower ho0 (below_size (by repeat (first | (with_reducible first | exact HB.out | apply below_alloc | apply pw_below_drewN | apply below_drew1) | exact HB.out)))); have n1_ := Aside0.mk (below_step (by repeat (first | (with_reducible first | exact HB.out | apply below_alloc | apply pw_below_drewN | apply below_drew1) | exact HB.out)) hb); clear HB; have HO271 := n0_; have HB := n1_; clear n0_ n1_; (try clear hb); (try clear hb2); (try clear hk); (try clear hi); (try clear ho0)))
  go_loopg [5, 6] k (fun kq v5 v6 w' => ∃ (x3_1 : List Int) (x5_1 : List Int) (x6_1 : Int), v6 = .int .i64 x6_1 ∧ Aside0 (bookplateref05_decomposed.l0 kq x3_1 x5_1 x6_1 = some r) ∧ Aside0 (kq ≤ k) ∧ Aside0 (Kd.R (Kd.int .i64) 3 w' w.heap.size (fun k_ => some k_ ≠ (v5 : Value).ownBlock) v270 x3_1) ∧ Aside0 (Kd.R (Kd.int .i64) 3 w' w.heap.size (fun k_ => some k_ ≠ (v270 : Value).ownBlock) v5 x5_1) ∧ Aside0 (Below w.heap.size w w'))
  case atStart => exact ⟨(t268), (([] : List Int)), (0), (by first | rfl | (simp; done) | (simp [*]; done)), H', ⟨Nat.le_refl _⟩, ⟨by (with_reducible repeat (first | apply Kd.R_alloc | apply Kd.R_drewN | apply Kd.R_drew)); exact Kd.R_mono HO271.out (fun _ hk => (by simp [Value.ownBlock]))⟩, ⟨by first | exact Kd.R_nil _ _ _ _ _ | exact Kd.N_nil _ _ _ _ _ | exact Kd.V_nil _ _ _ _ _ | exact Kd.Q_nil _ _ _ _ _ | exact Kd.S_nil _ _ _ _ _⟩, ⟨by repeat (first | (with_reducible first | exact HB.out | apply below_alloc | apply pw_below_drewN | apply below_drew1) | exact HB.out)⟩⟩
  case round =>
    clear H'
    try clear p2
    try clear c3
    obtain ⟨x3_1, x5_1, x6_1, rfl, HA, HK1, HO_3, HO_5, HB⟩ := hrel
    cases gk with
    | zero => exact absurd HA.out (by simp [bookplateref05_decomposed.l0])
    | succ k1 =>
      have H := HA.out
      clear HA
      simp only [bookplateref05_decomposed.l0] at H
      by_cases c4 : x6_1 < (x3_1.length : Int)
      · rw [if_pos c4] at H
        have c4b0 : decide (x6_1 < (x3_1.length : Int)) = true := decide_eq_true c4
        clear c4
        by_cases c5 : 0 ≤ x6_1
        · rw [if_pos c5] at H
          have c5b0 : decide (0 ≤ x6_1) = true := decide_eq_true c5
          clear c5
          replace H := Option.bind_eq_some_iff.mp H
          obtain ⟨t273, A60, H⟩ := H
          replace H : (bookplateref05_decomposed.l1 k1 x3_1 x5_1 x6_1 t273 0) = some r := H
          have A6 := Aside0.mk A60
          clear A60
          have H' := Aside0.mk H
          clear H
          obtain ⟨Ao7, co7, eo7⟩ := Kd.R_slice HO_3.out
          subst eo7
          have p272 : 0 ≤ (x6_1 : Int) := of_decide_eq_true (by first | (with_reducible assumption) | assumption)
          have q272 : x6_1 < (x3_1.length : Int) := of_decide_eq_true (by first | (with_reducible assumption) | assumption)
          obtain ⟨ad272, e272, hx272_0⟩ := Kd.at_int (Kd.R_reads' HO_3.out).2.2 x6_1 p272 q272
          cases e272
          replace p272 := eq_true p272
          replace q272 := eq_true q272
          go_wp2_with (first | ((with_reducible refine gate_callee (f := 89) rfl ?_); refine goesL_ (some 25) rfl rfl Tryd.func89 (by kernel_rfl) rfl #[.int .i64 (rd x3_1 x6_1)] rfl (by (try simp only [List.map_toArray, List.map_cons, List.map_nil]); first | done | rfl | (simp only [List.length_drop, List.length_take]; rfl)) ?_; (with_reducible refine (bookplateref05_whole.calls k1 (rd x3_1 x6_1) t273 _ A6.out).mono ?_); rintro e w8 ⟨v274, rfl, ho0, hb⟩; refine ⟨_, rfl, ?_⟩; have n0_ := Aside0.mk (Kd.R_elder' (by (with_reducible repeat (first | apply Kd.R_alloc | apply Kd.R_drewN | apply Kd.R_drew)); exact HO_3.out) (Kd.R_base ho0) hb); have n1_ := Aside0.mk (Kd.R_elder' (by (with_reducible repeat (first | apply Kd.R_alloc | apply Kd.R_drewN | apply Kd.R_drew)); exact HO_5.out) (Kd.R_base ho0) hb); have n2_ := Aside0.mk (Kd.R_lower (Kd.R_new' (Kd.R_new' ho0 (Kd.R_lt (by (with_reducible repeat (first | apply Kd.R_alloc | apply Kd.R_drewN | apply Kd.R_drew)); exact HO_3.out))) (Kd.R_lt (by (with_reducible repeat (first | apply Kd.R_alloc | apply Kd.R_drewN | apply Kd.R_drew)); exact HO_5.out))) (below_size (by repeat (first | (with_reducible first | exact HB.out | apply below_alloc | apply pw_below_drewN | apply below_drew1) | exact HB.out)))); have n3_ := Aside0.mk (below_step (by repeat (first | (with_reducible first | exact HB.out | apply below_alloc | apply pw_below_drewN | apply below_drew1) | exact HB.out)) hb); clear HO_3; clear HO_5; clear HB; have HO_3 := n0_; have HO_5 := n1_; have HO275 := n2_; have HB := n3_; clear n0_ n1_ n2_ n3_; (try clear hb); (try clear hb2); (try clear hk); (try clear hi); (try clear ho0)))
          go_loopg [5, 8] k1 (fun kq v5 v8 w' => ∃ (x3_2 : List Int) (x5_2 : List Int) (x7_2 : List Int) (x8_2 : Int), v8 = .int .i64 x8_2 ∧ Aside0 (bookplateref05_decomposed.l1 kq x3_2 x5_2 x6_1 x7_2 x8_2 = some r) ∧ Aside0 (kq ≤ k1) ∧ Aside0 (Kd.R (Kd.int .i64) 3 w' w.heap.size (fun k_ => some k_ ≠ (v5 : Value).ownBlock ∧ some k_ ≠ (v274 : Value).ownBlock) (.slice (some ad272) x3_1.length co7) x3_2) ∧ Aside0 (Kd.R (Kd.int .i64) 3 w' w.heap.size (fun k_ => some k_ ≠ ((.slice (some ad272) x3_1.length co7) : Value).ownBlock ∧ some k_ ≠ (v274 : Value).ownBlock) v5 x5_2) ∧ Aside0 (Kd.R (Kd.int .i64) 3 w' w.heap.size (fun k_ => some k_ ≠ ((.slice (some ad272) x3_1.length co7) : Value).ownBlock ∧ some k_ ≠ (v5 : Value).ownBlock) v274 x7_2) ∧ Aside0 (Below w.heap.size w w'))
          case atStart => exact ⟨(x3_1), (x5_1), (t273), (0), (by first | rfl | (simp; done) | (simp [*]; done)), H', ⟨Nat.le_refl _⟩, ⟨by (with_reducible repeat (first | apply Kd.R_alloc | apply Kd.R_drewN | apply Kd.R_drew)); exact HO_3.out⟩, ⟨by (with_reducible repeat (first | apply Kd.R_alloc | apply Kd.R_drewN | apply Kd.R_drew)); exact HO_5.out⟩, ⟨by (with_reducible repeat (first | apply Kd.R_alloc | apply Kd.R_drewN | apply Kd.R_drew)); exact Kd.R_mono HO275.out (fun _ hk => ⟨hk.1.2, hk.2⟩)⟩, ⟨by repeat (first | (with_reducible first | exact HB.out | apply below_alloc | apply pw_below_drewN | apply below_drew1) | exact HB.out)⟩⟩
          case round =>
            clear H'
            try clear p2
            try clear q2
            try clear hx2
            try clear c3
            try clear c4
            try clear c4b0
            try clear c5
            try clear c5b0
            try clear c6
            try clear c8
            try clear hx272_0
            try clear p2
            try clear p272
            try clear q272
            obtain ⟨x3_2, x5_2, x7_2, x8_2, rfl, HA, HK2, HO_3, HO_5, HO_7, HB⟩ := hrel
            have hl3_2 := (Kd.R_reads' HO_3.out).1
            rw [hl3_2] at HO_3
            (try simp only [hl3_2])
            (try simp only [hl3_2] at HO_5)
            (try simp only [hl3_2] at HO_7)
            cases gk with
            | zero => exact absurd HA.out (by simp [bookplateref05_decomposed.l1])
            | succ k2 =>
              have H := HA.out
              clear HA
              simp only [bookplateref05_decomposed.l1] at H
              by_cases c9 : x8_2 < (x7_2.length : Int)
              · rw [if_pos c9] at H
                have c9b0 : decide (x8_2 < (x7_2.length : Int)) = true := decide_eq_true c9
                clear c9
                by_cases c10 : 0 ≤ x8_2
                · rw [if_pos c10] at H
                  have c10b0 : decide (0 ≤ x8_2) = true := decide_eq_true c10
                  clear c10
                  by_cases c11 : x5_2.length < 17592186044416
                  · rw [if_pos c11] at H
                    have LMc11 := Aside0.mk c11
                    clear c11
                    obtain ⟨y277, hy277⟩ : ∃ y_ : List Int, y_ = (x5_2 ++ [rd x7_2 x8_2]) := ⟨_, rfl⟩
                    replace H : (bookplateref05_decomposed.l2 k2 x3_2 y277 x6_1 x7_2 x8_2 (wrap64 ((y277.length : Int) - 1))) = some r := by first | (rw [hy277]; with_reducible exact H) | (have H2_ := (Option.bind_some _ _).symm.trans H; rw [hy277]; with_reducible exact H2_) | (have H2_ := (Option.bind_some _ _).symm.trans H; with_reducible exact H2_) | with_reducible exact H | (rw [hy277]; exact H) | exact H
                    have Ny277 := Aside0.mk hy277
                    clear hy277
                    have H' := Aside0.mk H
                    clear H
                    obtain ⟨Ao12, co12, eo12⟩ := Kd.R_slice HO_7.out
                    subst eo12
                    have p276 : 0 ≤ (x8_2 : Int) := of_decide_eq_true (by first | (with_reducible assumption) | assumption)
                    have q276 : x8_2 < (x7_2.length : Int) := of_decide_eq_true (by first | (with_reducible assumption) | assumption)
                    obtain ⟨ad276, e276, hx276_0⟩ := Kd.at_int (Kd.R_reads' HO_7.out).2.2 x8_2 p276 q276
                    cases e276
                    replace p276 := eq_true p276
                    replace q276 := eq_true q276
                    go_wp2_with (first | ((with_reducible refine gate_builtin (b := .append) (xs := #[.tmp 32, .tmp 37]) rfl ?_); at_builtin; refine Kd.R_append (Kd.int .i64) (w0 := w) w.heap.size rfl (.tmp 32) (.tmp 37) 35 3 (.int .i64 0) 8 rfl Tryd.underlying35 info3 rfl (by decide) (by omega) u5 x5_2 (rd x7_2 x8_2) [.int .i64 (rd x7_2 x8_2)] (fun k_ => some k_ ≠ (.slice (some ad272) x3_2.length co7 : Value).ownBlock ∧ some k_ ≠ (.slice (some ad276) x7_2.length co12 : Value).ownBlock) (fun _ => False) rfl rfl ?aP (fun _ hk => hk.elim) ?aF ?aO ?aB ?aS ?aL ?_; (case aP => exact rfl); (case aB => exact (by repeat (first | (with_reducible first | exact HB.out | apply below_alloc | apply pw_below_drewN | apply below_drew1) | exact HB.out))); (case aF => exact (fun k_ hk => ⟨Kd.fresh' (Kd.R_lt (by (with_reducible repeat (first | apply Kd.R_alloc | apply Kd.R_drewN | apply Kd.R_drew)); exact HO_3.out)) k_ hk, Kd.fresh' (Kd.R_lt (by (with_reducible repeat (first | apply Kd.R_alloc | apply Kd.R_drewN | apply Kd.R_drew)); exact HO_7.out)) k_ hk⟩)); (case aO => exact (by (with_reducible repeat (first | apply Kd.R_alloc | apply Kd.R_drewN | apply Kd.R_drew)); exact HO_5.out)); (case aS => exact (below_size (by repeat (first | (with_reducible first | exact HB.out | apply below_alloc | apply pw_below_drewN | apply below_drew1) | exact HB.out)))); (case aL => have := LMc11.out; omega); intro v278 w13 ho hb hg hat; rw [← Ny277.out] at ho; have n0_ := Aside0.mk (Kd.R_after (ok := (fun k_ => some k_ ≠ (.slice (some ad276) x7_2.length co12 : Value).ownBlock)) (by (with_reducible repeat (first | apply Kd.R_alloc | apply Kd.R_drewN | apply Kd.R_drew)); exact Kd.R_mono HO_3.out (fun _ hk => ⟨hk.2, hk.1⟩)) hg hat); have n1_ := Aside0.mk (Kd.R_after (ok := (fun k_ => some k_ ≠ (.slice (some ad272) x3_2.length co7 : Value).ownBlock)) (by (with_reducible repeat (first | apply Kd.R_alloc | apply Kd.R_drewN | apply Kd.R_drew)); exact HO_7.out) hg hat); have n2_ := Aside0.mk (hb); have n3_ := Aside0.mk (ho); clear HO_3; clear HO_7; clear HB; clear HO_5; have HO_3 := n0_; have HO_7 := n1_; have HB := n2_; have HO279 := n3_; clear n0_ n1_ n2_ n3_; clear ho hb hg hat; obtain ⟨Ao14, co14, eo14⟩ := Kd.R_slice HO279.out; subst eo14))
                    go_loopg [9] k2 (fun kq v9 w' => ∃ (x5_3 : List Int) (x9_3 : Int), v9 = .int .i64 x9_3 ∧ Aside0 (bookplateref05_decomposed.l2 kq x3_2 x5_3 x6_1 x7_2 x8_2 x9_3 = some r) ∧ Aside0 (kq ≤ k2) ∧ Aside0 (Kd.R (Kd.int .i64) 3 w' w.heap.size (fun k_ => some k_ ≠ ((.slice Ao14 y277.length co14) : Value).ownBlock ∧ some k_ ≠ ((.slice (some ad276) x7_2.length co12) : Value).ownBlock) (.slice (some ad272) x3_2.length co7) x3_2) ∧ Aside0 (Kd.R (Kd.int .i64) 3 w' w.heap.size (fun k_ => some k_ ≠ ((.slice (some ad272) x3_2.length co7) : Value).ownBlock ∧ some k_ ≠ ((.slice (some ad276) x7_2.length co12) : Value).ownBlock) (.slice Ao14 y277.length co14) x5_3) ∧ Aside0 (Kd.R (Kd.int .i64) 3 w' w.heap.size (fun k_ => some k_ ≠ ((.slice (some ad272) x3_2.length co7) : Value).ownBlock ∧ some k_ ≠ ((.slice Ao14 y277.length co14) : Value).ownBlock) (.slice (some ad276) x7_2.length co12) x7_2) ∧ Aside0 (Below w.heap.size w w'))
                    case atStart => exact ⟨(y277), (wrap64 ((y277.length : Int) - 1)), (by first | rfl | (simp; done) | (simp [*]; done)), H', ⟨Nat.le_refl _⟩, ⟨by (try simp only [hl3_2]); (with_reducible repeat (first | apply Kd.R_alloc | apply Kd.R_drewN | apply Kd.R_drew)); exact Kd.R_mono HO_3.out (fun _ hk => ⟨hk.2, hk.1⟩)⟩, ⟨by (try simp only [hl3_2]); (with_reducible repeat (first | apply Kd.R_alloc | apply Kd.R_drewN | apply Kd.R_drew)); exact HO279.out⟩, ⟨by (try simp only [hl3_2]); (with_reducible repeat (first | apply Kd.R_alloc | apply Kd.R_drewN | apply Kd.R_drew)); exact HO_7.out⟩, ⟨by repeat (first | (with_reducible first | exact HB.out | apply below_alloc | apply pw_below_drewN | apply below_drew1) | exact HB.out)⟩⟩
                    case round =>
                      clear H'
                      try clear c1
                      try clear p2
                      try clear q2
                      try clear hx2
                      try clear c3
                      try clear c4
                      try clear c4b0
                      try clear c5
                      try clear c5b0
                      try clear c6
                      try clear p6
                      try clear c8
                      try clear c9
                      try clear c9b0
                      try clear c10
                      try clear c10b0
                      try clear c11
                      try clear hx272_0
                      try clear hx276_0
                      try clear p2
                      try clear p272
                      try clear p276
                      try clear q2
                      try clear q272
                      try clear q276
                      obtain ⟨x5_3, x9_3, rfl, HA, HK3, HO_3, HO_5, HO_7, HB⟩ := hrel
                      have hl5_3 := (Kd.R_reads' HO_5.out).1
                      rw [hl5_3] at HO_5
                      (try simp only [hl5_3])
                      (try simp only [hl5_3] at HO_3)
                      (try simp only [hl5_3] at HO_7)
                      cases gk with
                      | zero => exact absurd HA.out (by simp [bookplateref05_decomposed.l2])
                      | succ k3 =>
                        have H := HA.out
                        clear HA
                        simp only [bookplateref05_decomposed.l2] at H
                        by_cases c15 : x9_3 > 0
                        · rw [if_pos c15] at H
                          have c15b0 : decide (0 < x9_3) = true := decide_eq_true c15
                          clear c15
                          by_cases c16 : 0 ≤ x9_3
                          · rw [if_pos c16] at H
                            have c16b0 : decide (0 ≤ x9_3) = true := decide_eq_true c16
                            clear c16
                            by_cases c17 : x9_3 < (x5_3.length : Int)
                            · rw [if_pos c17] at H
                              have c17b0 : decide (x9_3 < (x5_3.length : Int)) = true := decide_eq_true c17
                              clear c17
                              replace H := Option.bind_eq_some_iff.mp H
                              obtain ⟨t281, A180, H⟩ := H
                              replace H : (if t281 > 0 then (if 0 ≤ (wrap64 (x9_3 - 1)) then (if (wrap64 (x9_3 - 1)) < (x5_3.length : Int) then ((bookplateref05_class.f k3 (rd x5_3 (wrap64 (x9_3 - 1)))).bind fun t283 => ((bookplateref05_class.f k3 (rd x5_3 x9_3)).bind fun t285 => (if t283 > t285 then (bookplateref05_decomposed.l2 k3 x3_2 ((x5_3.set ((wrap64 (x9_3 - 1)) : Int).toNat (rd x5_3 x9_3)).set (x9_3 : Int).toNat (rd x5_3 (wrap64 (x9_3 - 1)))) x6_1 x7_2 x8_2 (wrap64 (x9_3 - 1))) else (bookplateref05_decomposed.l1 k3 x3_2 x5_3 x6_1 x7_2 (wrap64 (x8_2 + 1)))))) else (none)) else (none)) else (bookplateref05_decomposed.l1 k3 x3_2 x5_3 x6_1 x7_2 (wrap64 (x8_2 + 1)))) = some r := H
                              have A18 := Aside0.mk A180
                              clear A180
                              by_cases c19 : t281 > 0
                              · rw [if_pos c19] at H
                                have c19b0 : decide (0 < t281) = true := decide_eq_true c19
                                clear c19
                                obtain ⟨ji20, hji20⟩ : ∃ j_ : Int, (wrap64 (x9_3 - 1)) = j_ := ⟨_, rfl⟩
                                replace H : (if 0 ≤ (ji20) then (if (ji20) < (x5_3.length : Int) then ((bookplateref05_class.f k3 (rd x5_3 (ji20))).bind fun t283 => ((bookplateref05_class.f k3 (rd x5_3 x9_3)).bind fun t285 => (if t283 > t285 then (bookplateref05_decomposed.l2 k3 x3_2 ((x5_3.set ((ji20) : Int).toNat (rd x5_3 x9_3)).set (x9_3 : Int).toNat (rd x5_3 (ji20))) x6_1 x7_2 x8_2 ji20) else (bookplateref05_decomposed.l1 k3 x3_2 x5_3 x6_1 x7_2 (wrap64 (x8_2 + 1)))))) else (none)) else (none)) = some r := by first | (rw [hji20] at H; exact H) | (simp only [hji20] at H ⊢; exact H)
                                (try rw [hji20] at A18)
                                have hji20w : (IntKind.i64.wrap (x9_3 - 1)) = ji20 := (i64_w _).trans hji20
                                by_cases c21 : 0 ≤ (ji20)
                                · rw [if_pos c21] at H
                                  have c21b0 : decide (0 ≤ (ji20)) = true := decide_eq_true c21
                                  clear c21
                                  by_cases c22 : (ji20) < (x5_3.length : Int)
                                  · rw [if_pos c22] at H
                                    have c22b0 : decide ((ji20) < (x5_3.length : Int)) = true := decide_eq_true c22
                                    clear c22
                                    replace H := Option.bind_eq_some_iff.mp H
                                    obtain ⟨t283, A230, H⟩ := H
                                    replace H : ((bookplateref05_class.f k3 (rd x5_3 x9_3)).bind fun t285 => (if t283 > t285 then (bookplateref05_decomposed.l2 k3 x3_2 ((x5_3.set ((ji20) : Int).toNat (rd x5_3 x9_3)).set (x9_3 : Int).toNat (rd x5_3 (ji20))) x6_1 x7_2 x8_2 ji20) else (bookplateref05_decomposed.l1 k3 x3_2 x5_3 x6_1 x7_2 (wrap64 (x8_2 + 1))))) = some r := H
                                    have A23 := Aside0.mk A230
                                    clear A230
                                    replace H := Option.bind_eq_some_iff.mp H
                                    obtain ⟨t285, A240, H⟩ := H
                                    replace H : (if t283 > t285 then (bookplateref05_decomposed.l2 k3 x3_2 ((x5_3.set ((ji20) : Int).toNat (rd x5_3 x9_3)).set (x9_3 : Int).toNat (rd x5_3 (ji20))) x6_1 x7_2 x8_2 ji20) else (bookplateref05_decomposed.l1 k3 x3_2 x5_3 x6_1 x7_2 (wrap64 (x8_2 + 1)))) = some r := H
                                    have A24 := Aside0.mk A240
                                    clear A240
                                    by_cases c25 : t283 > t285
                                    · rw [if_pos c25] at H
                                      have c25b0 : decide (t285 < t283) = true := decide_eq_true c25
                                      clear c25
                                      obtain ⟨y288, hy288⟩ : ∃ y_ : List Int, y_ = (x5_3.set ((ji20) : Int).toNat (rd x5_3 x9_3)) := ⟨_, rfl⟩
                                      replace H : (bookplateref05_decomposed.l2 k3 x3_2 (y288.set (x9_3 : Int).toNat (rd x5_3 (ji20))) x6_1 x7_2 x8_2 ji20) = some r := by first | (rw [hy288]; with_reducible exact H) | (have H2_ := (Option.bind_some _ _).symm.trans H; rw [hy288]; with_reducible exact H2_) | (have H2_ := (Option.bind_some _ _).symm.trans H; with_reducible exact H2_) | with_reducible exact H | (rw [hy288]; exact H) | exact H
                                      have Ny288 := Aside0.mk hy288
                                      clear hy288
                                      obtain ⟨y289, hy289⟩ : ∃ y_ : List Int, y_ = (y288.set (x9_3 : Int).toNat (rd x5_3 (ji20))) := ⟨_, rfl⟩
                                      replace H : (bookplateref05_decomposed.l2 k3 x3_2 y289 x6_1 x7_2 x8_2 ji20) = some r := by first | (rw [hy289]; with_reducible exact H) | (have H2_ := (Option.bind_some _ _).symm.trans H; rw [hy289]; with_reducible exact H2_) | (have H2_ := (Option.bind_some _ _).symm.trans H; with_reducible exact H2_) | with_reducible exact H | (rw [hy289]; exact H) | exact H
                                      have Ny289 := Aside0.mk hy289
                                      clear hy289
                                      have H' := Aside0.mk H
                                      clear H
                                      try go_wp2
                                      have n0_ := Aside0.mk (Kd.R_drew HO_3.out)
                                      have n1_ := Aside0.mk (Kd.R_drew HO_5.out)
                                      have n2_ := Aside0.mk (Kd.R_drew HO_7.out)
                                      have n3_ := Aside0.mk (below_drew1 HB.out)
                                      clear HO_3
                                      clear HO_5
                                      clear HO_7
                                      clear HB
                                      have HO_3 := n0_
                                      have HO_5 := n1_
                                      have HO_7 := n2_
                                      have HB := n3_
                                      clear n0_ n1_ n2_ n3_
                                      have p280 : 0 ≤ (x9_3 : Int) := of_decide_eq_true (by first | (with_reducible assumption) | assumption)
                                      have q280 : x9_3 < (x5_3.length : Int) := of_decide_eq_true (by first | (with_reducible assumption) | assumption)
                                      obtain ⟨ad280, e280, hx280_0⟩ := Kd.at_int (Kd.R_reads' HO_5.out).2.2 x9_3 p280 q280
                                      cases e280
                                      replace p280 := eq_true p280
                                      replace q280 := eq_true q280
                                      have p282 : 0 ≤ ((ji20) : Int) := of_decide_eq_true (by first | (with_reducible assumption) | assumption)
                                      have q282 : (ji20) < (x5_3.length : Int) := of_decide_eq_true (by first | (with_reducible assumption) | assumption)
                                      obtain ⟨ad282, e282, hx282_0⟩ := Kd.at_int (Kd.R_reads' HO_5.out).2.2 (ji20) p282 q282
                                      obtain rfl : ad280 = ad282 := (by injection e282)
                                      replace p282 := eq_true p282
                                      replace q282 := eq_true q282
                                      have p284 : 0 ≤ (x9_3 : Int) := of_decide_eq_true (by first | (with_reducible assumption) | assumption)
                                      have q284 : x9_3 < (x5_3.length : Int) := of_decide_eq_true (by first | (with_reducible assumption) | assumption)
                                      obtain ⟨ad284, e284, hx284_0⟩ := Kd.at_int (Kd.R_reads' HO_5.out).2.2 x9_3 p284 q284
                                      obtain rfl : ad280 = ad284 := (by injection e284)
                                      replace p284 := eq_true p284
                                      replace q284 := eq_true q284
                                      refine start_ (n := 24) (S := fun w' => w'.cell? (ad280.add (x9_3).toNat) = some (.int .i64 (rd x5_3 x9_3)) ∧ w'.cell? (ad280.add ((ji20)).toNat) = some (.int .i64 (rd x5_3 (ji20))) ∧ w'.cell? (ad280.add (x9_3).toNat) = some (.int .i64 (rd x5_3 x9_3))) (ds := []) #[false, false, false, false, false, false, false, false, false, false, false, false, false, false, false, false, false, false, false, false, false, false, false, false] (by kernel_rfl) rfl rfl ⟨hx280_0, hx282_0, hx284_0⟩ (fun hHeld => ?_); refine with_tabW bookplateref05_decomposed.tab12 bookplateref05_decomposed.bits12 (fun HT_ HW_ => ?_)
                                      generalize wr.drew = w28 at HO_3 HO_5 HO_7 HB hx280_0 hx282_0 hx284_0 hHeld ⊢
                                      refine pure_ (i := 0) (N := some 42) (v := ?_) (a' := ?_) #[true, false, false, false, false, false, false, false, false, false, false, false, false, false, false, false, false, false, false, false, false, false, false, false] rfl rfl (any_of HT_.out (by kernel_rfl)) (fun _ _ _ h => h) (Or.inl ⟨by rfl, ?_⟩) ?_ ?_
                                      rotate_left
                                      · intro w'
                                        go_simp
                                        with_reducible rfl
                                      rotate_left
                                      · simp only [Act.put, List.setIfInBounds_toArray, List.set_cons_zero, List.set_cons_succ, i64_w, i32_w]
                                        rfl
                                      refine pure_ (i := 1) (N := some 43) (v := ?_) (a' := ?_) #[true, true, false, false, false, false, false, false, false, false, false, false, false, false, false, false, false, false, false, false, false, false, false, false] rfl rfl (any_of HT_.out (by kernel_rfl)) (fun _ _ _ h => h) (Or.inl ⟨by rfl, ?_⟩) ?_ ?_
                                      rotate_left
                                      · intro w'
                                        go_simp
                                        with_reducible rfl
                                      rotate_left
                                      · simp only [Act.put, List.setIfInBounds_toArray, List.set_cons_zero, List.set_cons_succ, i64_w, i32_w]
                                        rfl
                                      refine pure_ (i := 2) (N := some 44) (v := ?_) (a' := ?_) #[true, true, true, false, false, false, false, false, false, false, false, false, false, false, false, false, false, false, false, false, false, false, false, false] rfl rfl (any_of HT_.out (by kernel_rfl)) (fun _ _ _ h => h) (Or.inl ⟨by rfl, ?_⟩) ?_ ?_
                                      rotate_left
                                      · intro w'
                                        go_simp
                                        with_reducible rfl
                                      rotate_left
                                      · simp only [Act.put, List.setIfInBounds_toArray, List.set_cons_zero, List.set_cons_succ, i64_w, i32_w]
                                        rfl
                                      refine pure_ (i := 3) (N := some 45) (v := ?_) (a' := ?_) #[true, true, true, true, false, false, false, false, false, false, false, false, false, false, false, false, false, false, false, false, false, false, false, false] rfl rfl (any_of HT_.out (by kernel_rfl)) (fun _ _ _ h => h) (Or.inl ⟨by rfl, ?_⟩) ?_ ?_
                                      rotate_left
                                      · intro w'
                                        go_simp
                                        with_reducible rfl
                                      rotate_left
                                      · simp only [Act.put, List.setIfInBounds_toArray, List.set_cons_zero, List.set_cons_succ, i64_w, i32_w]
                                        rfl
                                      refine pure_ (i := 4) (N := some 46) (v := ?_) (a' := ?_) #[true, true, true, true, true, false, false, false, false, false, false, false, false, false, false, false, false, false, false, false, false, false, false, false] rfl rfl (any_of HT_.out (by kernel_rfl)) (fun _ _ _ h => h) (Or.inl ⟨by rfl, ?_⟩) ?_ ?_
                                      rotate_left
                                      · intro w'
                                        go_simp
                                        with_reducible rfl
                                      rotate_left
                                      · simp only [Act.put, List.setIfInBounds_toArray, List.set_cons_zero, List.set_cons_succ, i64_w, i32_w]
                                        rfl
                                      refine pure_ (i := 5) (N := some 47) (v := ?_) (a' := ?_) #[true, true, true, true, true, true, false, false, false, false, false, false, false, false, false, false, false, false, false, false, false, false, false, false] rfl rfl (any_of HT_.out (by kernel_rfl)) (fun _ _ _ h => h) (Or.inl ⟨by rfl, ?_⟩) ?_ ?_
                                      rotate_left
                                      · intro w'
                                        go_simp
                                        with_reducible rfl
                                      rotate_left
                                      · simp only [Act.put, List.setIfInBounds_toArray, List.set_cons_zero, List.set_cons_succ, i64_w, i32_w]
                                        rfl
                                      refine take_ (i := 6) (N := some 48) (v := ?_) (a' := ?_) #[true, true, true, true, true, true, true, false, false, false, false, false, false, false, false, false, false, false, false, false, false, false, false, false] rfl rfl (take_ofW HT_.out HW_.out (by kernel_rfl)) (fun _ _ _ h => h) (Or.inl ⟨by rfl, ?_⟩) hHeld ?_ ?_
                                      rotate_left
                                      · rintro w' ⟨s0, s1, s2⟩
                                        go_simp
                                        with_reducible rfl
                                      rotate_left
                                      · simp only [Act.put, List.setIfInBounds_toArray, List.set_cons_zero, List.set_cons_succ, i64_w, i32_w]
                                        rfl
                                      refine one_ (i := 7) (N := some 49) #[true, true, true, true, true, true, true, true, false, false, false, false, false, false, false, false, false, false, false, false, false, false, false, false] rfl rfl (one_of HT_.out (by kernel_rfl)) (by decide) (fun K hK => ?_)
                                      refine goes_ Tryd.func70 (by kernel_rfl) rfl #[.int .i64 (rd x5_3 x9_3)] (by rfl) rfl rfl (by (try simp only [List.map_toArray, List.map_cons, List.map_nil]); first | done | rfl | (simp only [List.length_drop, List.length_take]; rfl)) ?_
                                      with_reducible refine (bookplateref05_class.calls k3 (rd x5_3 x9_3) t281 _ A18.out).mono ?_
                                      rintro e w' ⟨rfl, ⟨nd, rfl⟩⟩
                                      refine ⟨_, rfl, ?_⟩
                                      refine hK.out _ _ ⟨hHeld.1, hHeld.2.1, hHeld.2.2⟩ (fun hHeld => ?_)
                                      clear hK K
                                      refine norm_ (a' := ?_) ?_ ?_
                                      rotate_left
                                      · show Act.put _ (some 49) _ = _
                                        simp only [Act.put, List.setIfInBounds_toArray, List.set_cons_zero, List.set_cons_succ, i64_w, i32_w]
                                        rfl
                                      refine pure_ (i := 8) (N := some 50) (v := ?_) (a' := ?_) #[true, true, true, true, true, true, true, true, true, false, false, false, false, false, false, false, false, false, false, false, false, false, false, false] rfl rfl (any_of HT_.out (by kernel_rfl)) (fun _ _ _ h => h) (Or.inl ⟨by rfl, ?_⟩) ?_ ?_
                                      rotate_left
                                      · intro w'
                                        go_simp
                                        with_reducible rfl
                                      rotate_left
                                      · simp only [Act.put, List.setIfInBounds_toArray, List.set_cons_zero, List.set_cons_succ, i64_w, i32_w]
                                        rfl
                                      refine pure_ (i := 9) (N := some 51) (v := ?_) (a' := ?_) #[true, true, true, true, true, true, true, true, true, true, false, false, false, false, false, false, false, false, false, false, false, false, false, false] rfl rfl (any_of HT_.out (by kernel_rfl)) (fun _ _ _ h => h) (Or.inl ⟨by rfl, ?_⟩) ?_ ?_
                                      rotate_left
                                      · intro w'
                                        go_simp
                                        with_reducible rfl
                                      rotate_left
                                      · simp only [Act.put, List.setIfInBounds_toArray, List.set_cons_zero, List.set_cons_succ, i64_w, i32_w]
                                        rfl
                                      refine pure_ (i := 10) (N := some 52) (v := ?_) (a' := ?_) #[true, true, true, true, true, true, true, true, true, true, true, false, false, false, false, false, false, false, false, false, false, false, false, false] rfl rfl (any_of HT_.out (by kernel_rfl)) (fun _ _ _ h => h) (Or.inl ⟨by rfl, ?_⟩) ?_ ?_
                                      rotate_left
                                      · intro w'
                                        go_simp
                                        with_reducible rfl
                                      rotate_left
                                      · simp only [Act.put, List.setIfInBounds_toArray, List.set_cons_zero, List.set_cons_succ, i64_w, i32_w]
                                        rfl
                                      refine pure_ (i := 11) (N := some 53) (v := ?_) (a' := ?_) #[true, true, true, true, true, true, true, true, true, true, true, true, false, false, false, false, false, false, false, false, false, false, false, false] rfl rfl (any_of HT_.out (by kernel_rfl)) (fun _ _ _ h => h) (Or.inl ⟨by rfl, ?_⟩) ?_ ?_
                                      rotate_left
                                      · intro w'
                                        go_simp
                                        with_reducible rfl
                                      rotate_left
                                      · simp only [Act.put, List.setIfInBounds_toArray, List.set_cons_zero, List.set_cons_succ, i64_w, i32_w]
                                        rfl
                                      refine pure_ (i := 12) (N := some 54) (v := ?_) (a' := ?_) #[true, true, true, true, true, true, true, true, true, true, true, true, true, false, false, false, false, false, false, false, false, false, false, false] rfl rfl (any_of HT_.out (by kernel_rfl)) (fun _ _ _ h => h) (Or.inl ⟨by rfl, ?_⟩) ?_ ?_
                                      rotate_left
                                      · intro w'
                                        go_simp
                                        with_reducible rfl
                                      rotate_left
                                      · simp only [Act.put, List.setIfInBounds_toArray, List.set_cons_zero, List.set_cons_succ, i64_w, i32_w]
                                        rfl
                                      refine pure_ (i := 13) (N := some 55) (v := ?_) (a' := ?_) #[true, true, true, true, true, true, true, true, true, true, true, true, true, true, false, false, false, false, false, false, false, false, false, false] rfl rfl (any_of HT_.out (by kernel_rfl)) (fun _ _ _ h => h) (Or.inl ⟨by rfl, ?_⟩) ?_ ?_
                                      rotate_left
                                      · intro w'
                                        go_simp
                                        with_reducible rfl
                                      rotate_left
                                      · simp only [Act.put, List.setIfInBounds_toArray, List.set_cons_zero, List.set_cons_succ, i64_w, i32_w]
                                        rfl
                                      refine pure_ (i := 14) (N := some 56) (v := ?_) (a' := ?_) #[true, true, true, true, true, true, true, true, true, true, true, true, true, true, true, false, false, false, false, false, false, false, false, false] rfl rfl (any_of HT_.out (by kernel_rfl)) (fun _ _ _ h => h) (Or.inl ⟨by rfl, ?_⟩) ?_ ?_
                                      rotate_left
                                      · intro w'
                                        go_simp
                                        with_reducible rfl
                                      rotate_left
                                      · simp only [Act.put, List.setIfInBounds_toArray, List.set_cons_zero, List.set_cons_succ, i64_w, i32_w]
                                        rfl
                                      refine pure_ (i := 17) (N := some 59) (v := ?_) (a' := ?_) #[true, true, true, true, true, true, true, true, true, true, true, true, true, true, true, false, false, true, false, false, false, false, false, false] rfl rfl (any_of HT_.out (by kernel_rfl)) (fun _ _ _ h => h) (Or.inl ⟨by rfl, ?_⟩) ?_ ?_
                                      rotate_left
                                      · intro w'
                                        go_simp
                                        with_reducible rfl
                                      rotate_left
                                      · simp only [Act.put, List.setIfInBounds_toArray, List.set_cons_zero, List.set_cons_succ, i64_w, i32_w]
                                        rfl
                                      refine pure_ (i := 18) (N := some 60) (v := ?_) (a' := ?_) #[true, true, true, true, true, true, true, true, true, true, true, true, true, true, true, false, false, true, true, false, false, false, false, false] rfl rfl (any_of HT_.out (by kernel_rfl)) (fun _ _ _ h => h) (Or.inl ⟨by rfl, ?_⟩) ?_ ?_
                                      rotate_left
                                      · intro w'
                                        go_simp
                                        with_reducible rfl
                                      rotate_left
                                      · simp only [Act.put, List.setIfInBounds_toArray, List.set_cons_zero, List.set_cons_succ, i64_w, i32_w]
                                        rfl
                                      refine pure_ (i := 19) (N := some 61) (v := ?_) (a' := ?_) #[true, true, true, true, true, true, true, true, true, true, true, true, true, true, true, false, false, true, true, true, false, false, false, false] rfl rfl (any_of HT_.out (by kernel_rfl)) (fun _ _ _ h => h) (Or.inl ⟨by rfl, ?_⟩) ?_ ?_
                                      rotate_left
                                      · intro w'
                                        go_simp
                                        with_reducible rfl
                                      rotate_left
                                      · simp only [Act.put, List.setIfInBounds_toArray, List.set_cons_zero, List.set_cons_succ, i64_w, i32_w]
                                        rfl
                                      refine take_ (i := 15) (N := some 57) (v := ?_) (a' := ?_) #[true, true, true, true, true, true, true, true, true, true, true, true, true, true, true, true, false, true, true, true, false, false, false, false] rfl rfl (take_ofW HT_.out HW_.out (by kernel_rfl)) (fun _ _ _ h => h) (Or.inl ⟨by rfl, ?_⟩) hHeld ?_ ?_
                                      rotate_left
                                      · rintro w' ⟨s0, s1, s2⟩
                                        go_simp
                                        with_reducible rfl
                                      rotate_left
                                      · simp only [Act.put, List.setIfInBounds_toArray, List.set_cons_zero, List.set_cons_succ, i64_w, i32_w]
                                        rfl
                                      refine take_ (i := 20) (N := some 62) (v := ?_) (a' := ?_) #[true, true, true, true, true, true, true, true, true, true, true, true, true, true, true, true, false, true, true, true, true, false, false, false] rfl rfl (take_ofW HT_.out HW_.out (by kernel_rfl)) (fun _ _ _ h => h) (Or.inl ⟨by rfl, ?_⟩) hHeld ?_ ?_
                                      rotate_left
                                      · rintro w' ⟨s0, s1, s2⟩
                                        go_simp
                                        with_reducible rfl
                                      rotate_left
                                      · simp only [Act.put, List.setIfInBounds_toArray, List.set_cons_zero, List.set_cons_succ, i64_w, i32_w]
                                        rfl
                                      refine one_ (i := 16) (N := some 58) #[true, true, true, true, true, true, true, true, true, true, true, true, true, true, true, true, true, true, true, true, true, false, false, false] rfl rfl (one_of HT_.out (by kernel_rfl)) (by decide) (fun K hK => ?_)
                                      refine goes_ Tryd.func70 (by kernel_rfl) rfl #[.int .i64 (rd x5_3 (ji20))] (by rfl) rfl rfl (by (try simp only [List.map_toArray, List.map_cons, List.map_nil]); first | done | (simp only [hji20]; rfl) | rfl | (simp only [List.length_drop, List.length_take]; rfl)) ?_
                                      with_reducible refine (bookplateref05_class.calls k3 (rd x5_3 (ji20)) t283 _ A23.out).mono ?_
                                      rintro e w' ⟨rfl, ⟨nd, rfl⟩⟩
                                      refine ⟨_, rfl, ?_⟩
                                      refine hK.out _ _ ⟨hHeld.1, hHeld.2.1, hHeld.2.2⟩ (fun hHeld => ?_)
                                      clear hK K
                                      refine norm_ (a' := ?_) ?_ ?_
                                      rotate_left
                                      · show Act.put _ (some 58) _ = _
                                        simp only [Act.put, List.setIfInBounds_toArray, List.set_cons_zero, List.set_cons_succ, i64_w, i32_w]
                                        rfl
                                      refine one_ (i := 21) (N := some 63) #[true, true, true, true, true, true, true, true, true, true, true, true, true, true, true, true, true, true, true, true, true, true, false, false] rfl rfl (one_of HT_.out (by kernel_rfl)) (by decide) (fun K hK => ?_)
                                      refine goes_ Tryd.func70 (by kernel_rfl) rfl #[.int .i64 (rd x5_3 x9_3)] (by rfl) rfl rfl (by (try simp only [List.map_toArray, List.map_cons, List.map_nil]); first | done | rfl | (simp only [List.length_drop, List.length_take]; rfl)) ?_
                                      with_reducible refine (bookplateref05_class.calls k3 (rd x5_3 x9_3) t285 _ A24.out).mono ?_
                                      rintro e w' ⟨rfl, ⟨nd, rfl⟩⟩
                                      refine ⟨_, rfl, ?_⟩
                                      refine hK.out _ _ ⟨hHeld.1, hHeld.2.1, hHeld.2.2⟩ (fun hHeld => ?_)
                                      clear hK K
                                      refine norm_ (a' := ?_) ?_ ?_
                                      rotate_left
                                      · show Act.put _ (some 63) _ = _
                                        simp only [Act.put, List.setIfInBounds_toArray, List.set_cons_zero, List.set_cons_succ, i64_w, i32_w]
                                        rfl
                                      refine pure_ (i := 22) (N := some 64) (v := ?_) (a' := ?_) #[true, true, true, true, true, true, true, true, true, true, true, true, true, true, true, true, true, true, true, true, true, true, true, false] rfl rfl (any_of HT_.out (by kernel_rfl)) (fun _ _ _ h => h) (Or.inl ⟨by rfl, ?_⟩) ?_ ?_
                                      rotate_left
                                      · intro w'
                                        go_simp
                                        with_reducible rfl
                                      rotate_left
                                      · simp only [Act.put, List.setIfInBounds_toArray, List.set_cons_zero, List.set_cons_succ, i64_w, i32_w]
                                        rfl
                                      refine pure_ (i := 23) (N := some 65) (v := ?_) (a' := ?_) #[true, true, true, true, true, true, true, true, true, true, true, true, true, true, true, true, true, true, true, true, true, true, true, true] rfl rfl (any_of HT_.out (by kernel_rfl)) (fun _ _ _ h => h) (Or.inl ⟨by rfl, ?_⟩) ?_ ?_
                                      rotate_left
                                      · intro w'
                                        go_simp
                                        with_reducible rfl
                                      rotate_left
                                      · simp only [Act.put, List.setIfInBounds_toArray, List.set_cons_zero, List.set_cons_succ, i64_w, i32_w]
                                        rfl
                                      refine done_ (done_of HT_.out (by kernel_rfl)) ?_
                                      try go_wp2
                                      (try (rw [drewN_self w28]; generalize hq_ : World.drewN w28 _ = w28; have n0_ : Aside0 (Kd.R (Kd.int .i64) 3 w28 w.heap.size (fun k_ => some k_ ≠ (.slice (some ad280) x5_3.length co14 : Value).ownBlock ∧ some k_ ≠ (.slice (some ad276) x7_2.length co12 : Value).ownBlock) (.slice (some ad272) x3_2.length co7) x3_2) := ⟨by rw [← hq_]; exact (by (with_reducible repeat (first | apply Kd.R_alloc | apply Kd.R_drewN | apply Kd.R_drew)); exact HO_3.out)⟩; have n1_ : Aside0 (Kd.R (Kd.int .i64) 3 w28 w.heap.size (fun k_ => some k_ ≠ (.slice (some ad272) x3_2.length co7 : Value).ownBlock ∧ some k_ ≠ (.slice (some ad276) x7_2.length co12 : Value).ownBlock) (.slice (some ad280) x5_3.length co14) x5_3) := ⟨by rw [← hq_]; exact (by (with_reducible repeat (first | apply Kd.R_alloc | apply Kd.R_drewN | apply Kd.R_drew)); exact HO_5.out)⟩; have n2_ : Aside0 (Kd.R (Kd.int .i64) 3 w28 w.heap.size (fun k_ => some k_ ≠ (.slice (some ad272) x3_2.length co7 : Value).ownBlock ∧ some k_ ≠ (.slice (some ad280) x5_3.length co14 : Value).ownBlock) (.slice (some ad276) x7_2.length co12) x7_2) := ⟨by rw [← hq_]; exact (by (with_reducible repeat (first | apply Kd.R_alloc | apply Kd.R_drewN | apply Kd.R_drew)); exact HO_7.out)⟩; have n3_ : Aside0 (Below w.heap.size w w28) := ⟨by rw [← hq_]; exact (by repeat (first | (with_reducible first | exact HB.out | apply below_alloc | apply pw_below_drewN | apply below_drew1) | exact HB.out))⟩; clear HO_3 HO_5 HO_7 HB hq_; have HO_3 := n0_; have HO_5 := n1_; have HO_7 := n2_; have HB := n3_; clear n0_ n1_ n2_ n3_))
                                      have n0_ := Aside0.mk (Kd.R_drew HO_3.out)
                                      have n1_ := Aside0.mk (Kd.R_drew HO_5.out)
                                      have n2_ := Aside0.mk (Kd.R_drew HO_7.out)
                                      have n3_ := Aside0.mk (below_drew1 HB.out)
                                      clear HO_3
                                      clear HO_5
                                      clear HO_7
                                      clear HB
                                      have HO_3 := n0_
                                      have HO_5 := n1_
                                      have HO_7 := n2_
                                      have HB := n3_
                                      clear n0_ n1_ n2_ n3_
                                      have p286 : 0 ≤ (x9_3 : Int) := of_decide_eq_true (by first | (with_reducible assumption) | assumption)
                                      have q286 : x9_3 < (x5_3.length : Int) := of_decide_eq_true (by first | (with_reducible assumption) | assumption)
                                      obtain ⟨ad286, e286, hx286_0⟩ := Kd.at_int (Kd.R_reads' HO_5.out).2.2 x9_3 p286 q286
                                      obtain rfl : ad280 = ad286 := (by injection e286)
                                      replace p286 := eq_true p286
                                      replace q286 := eq_true q286
                                      have p287 : 0 ≤ ((ji20) : Int) := of_decide_eq_true (by first | (with_reducible assumption) | assumption)
                                      have q287 : (ji20) < (x5_3.length : Int) := of_decide_eq_true (by first | (with_reducible assumption) | assumption)
                                      obtain ⟨ad287, e287, hx287_0⟩ := Kd.at_int (Kd.R_reads' HO_5.out).2.2 (ji20) p287 q287
                                      obtain rfl : ad280 = ad287 := (by injection e287)
                                      replace p287 := eq_true p287
                                      replace q287 := eq_true q287
                                      have p26 : 0 ≤ ((ji20) : Int) := of_decide_eq_true (by first | (with_reducible assumption) | assumption)
                                      have q26 : ((ji20) : Int) < ((x5_3.length : Int) : Int) := of_decide_eq_true (by first | (with_reducible assumption) | assumption)
                                      obtain ⟨go26, co26, eo26, gb26, gl26, cl26, HG26⟩ := Kd.R_form HO_5.out (by omega)
                                      (first | cases eo26 | (injection eo26 with ea_ en_ ec_; (first | subst ea_ | (injection ea_ with ea_; subst ea_)); subst ec_; clear en_))
                                      have GB26 := Aside0.mk gb26
                                      have GG26 := Aside0.mk HG26
                                      clear gb26 gl26 HG26
                                      (first | simp only [add_plain] at hx280_0 | skip)
                                      (first | simp only [add_plain] at hx282_0 | skip)
                                      (first | simp only [add_plain] at hx284_0 | skip)
                                      (first | simp only [add_plain] at hx286_0 | skip)
                                      (first | simp only [add_plain] at hx287_0 | skip)
                                      obtain ⟨hx26_0, hf26_0⟩ := Kd.R_celln 0 HO_5.out ((ji20) : Int) p26 q26
                                      replace p26 := eq_true p26
                                      replace q26 := eq_true q26
                                      have HP30 := Kd.R_putn HO_5.out ((ji20) : Int) (rd x5_3 x9_3)
                                      rw [← Ny288.out] at HP30
                                      have HQ30 := Aside0.mk HP30
                                      clear HP30
                                      have p27 : 0 ≤ (x9_3 : Int) := of_decide_eq_true (by first | (with_reducible assumption) | assumption)
                                      have q27 : (x9_3 : Int) < ((x5_3.length : Int) : Int) := of_decide_eq_true (by first | (with_reducible assumption) | assumption)
                                      obtain ⟨hx27_0, hf27_0⟩ := Kd.R_celln 0 HQ30.out (x9_3 : Int) p27 q27
                                      replace p27 := eq_true p27
                                      replace q27 := eq_true q27
                                      have HP31 := Kd.R_putn HQ30.out (x9_3 : Int) (rd x5_3 (ji20))
                                      rw [← Ny289.out] at HP31
                                      have HQ31 := Aside0.mk HP31
                                      clear HP31
                                      refine start_ (n := 18) (S := fun w' => w'.cell? ⟨go26, (x9_3).toNat, none⟩ = some (.int .i64 (rd x5_3 x9_3)) ∧ w'.cell? ⟨go26, ((ji20)).toNat, none⟩ = some (.int .i64 (rd x5_3 (ji20)))) (ds := [15, 17]) #[false, false, false, false, false, false, false, false, false, false, false, false, false, false, false, false, false, false] (by kernel_rfl) rfl rfl ⟨hx286_0, hx287_0⟩ (fun hHeld => ?_); refine with_tabW bookplateref05_decomposed.tab14 bookplateref05_decomposed.bits14 (fun HT_ HW_ => ?_)
                                      generalize w28.drew = w29 at HO_3 HO_5 HO_7 HB GG26 HQ30 HQ31 hf26_0 hf27_0 hx26_0 hx27_0 hx280_0 hx282_0 hx284_0 hx286_0 hx287_0 hHeld ⊢
                                      refine pure_ (i := 0) (N := some 68) (v := ?_) (a' := ?_) #[true, false, false, false, false, false, false, false, false, false, false, false, false, false, false, false, false, false] rfl rfl (any_of HT_.out (by kernel_rfl)) (fun _ _ _ h => h) (Or.inl ⟨by rfl, ?_⟩) ?_ ?_
                                      rotate_left
                                      · intro w'
                                        go_simp
                                        with_reducible rfl
                                      rotate_left
                                      · simp only [Act.put, List.setIfInBounds_toArray, List.set_cons_zero, List.set_cons_succ, i64_w, i32_w]
                                        rfl
                                      refine pure_ (i := 1) (N := some 69) (v := ?_) (a' := ?_) #[true, true, false, false, false, false, false, false, false, false, false, false, false, false, false, false, false, false] rfl rfl (any_of HT_.out (by kernel_rfl)) (fun _ _ _ h => h) (Or.inl ⟨by rfl, ?_⟩) ?_ ?_
                                      rotate_left
                                      · intro w'
                                        go_simp
                                        with_reducible rfl
                                      rotate_left
                                      · simp only [Act.put, List.setIfInBounds_toArray, List.set_cons_zero, List.set_cons_succ, i64_w, i32_w]
                                        rfl
                                      refine pure_ (i := 2) (N := some 70) (v := ?_) (a' := ?_) #[true, true, true, false, false, false, false, false, false, false, false, false, false, false, false, false, false, false] rfl rfl (any_of HT_.out (by kernel_rfl)) (fun _ _ _ h => h) (Or.inl ⟨by rfl, ?_⟩) ?_ ?_
                                      rotate_left
                                      · intro w'
                                        go_simp
                                        with_reducible rfl
                                      rotate_left
                                      · simp only [Act.put, List.setIfInBounds_toArray, List.set_cons_zero, List.set_cons_succ, i64_w, i32_w]
                                        rfl
                                      refine pure_ (i := 3) (N := some 71) (v := ?_) (a' := ?_) #[true, true, true, true, false, false, false, false, false, false, false, false, false, false, false, false, false, false] rfl rfl (any_of HT_.out (by kernel_rfl)) (fun _ _ _ h => h) (Or.inl ⟨by rfl, ?_⟩) ?_ ?_
                                      rotate_left
                                      · intro w'
                                        go_simp
                                        with_reducible rfl
                                      rotate_left
                                      · simp only [Act.put, List.setIfInBounds_toArray, List.set_cons_zero, List.set_cons_succ, i64_w, i32_w]
                                        rfl
                                      refine pure_ (i := 4) (N := some 72) (v := ?_) (a' := ?_) #[true, true, true, true, true, false, false, false, false, false, false, false, false, false, false, false, false, false] rfl rfl (any_of HT_.out (by kernel_rfl)) (fun _ _ _ h => h) (Or.inl ⟨by rfl, ?_⟩) ?_ ?_
                                      rotate_left
                                      · intro w'
                                        go_simp
                                        with_reducible rfl
                                      rotate_left
                                      · simp only [Act.put, List.setIfInBounds_toArray, List.set_cons_zero, List.set_cons_succ, i64_w, i32_w]
                                        rfl
                                      refine pure_ (i := 5) (N := some 73) (v := ?_) (a' := ?_) #[true, true, true, true, true, true, false, false, false, false, false, false, false, false, false, false, false, false] rfl rfl (any_of HT_.out (by kernel_rfl)) (fun _ _ _ h => h) (Or.inl ⟨by rfl, ?_⟩) ?_ ?_
                                      rotate_left
                                      · intro w'
                                        go_simp
                                        with_reducible rfl
                                      rotate_left
                                      · simp only [Act.put, List.setIfInBounds_toArray, List.set_cons_zero, List.set_cons_succ, i64_w, i32_w]
                                        rfl
                                      refine pure_ (i := 6) (N := some 74) (v := ?_) (a' := ?_) #[true, true, true, true, true, true, true, false, false, false, false, false, false, false, false, false, false, false] rfl rfl (any_of HT_.out (by kernel_rfl)) (fun _ _ _ h => h) (Or.inl ⟨by rfl, ?_⟩) ?_ ?_
                                      rotate_left
                                      · intro w'
                                        go_simp
                                        with_reducible rfl
                                      rotate_left
                                      · simp only [Act.put, List.setIfInBounds_toArray, List.set_cons_zero, List.set_cons_succ, i64_w, i32_w]
                                        rfl
                                      refine pure_ (i := 7) (N := some 75) (v := ?_) (a' := ?_) #[true, true, true, true, true, true, true, true, false, false, false, false, false, false, false, false, false, false] rfl rfl (any_of HT_.out (by kernel_rfl)) (fun _ _ _ h => h) (Or.inl ⟨by rfl, ?_⟩) ?_ ?_
                                      rotate_left
                                      · intro w'
                                        go_simp
                                        with_reducible rfl
                                      rotate_left
                                      · simp only [Act.put, List.setIfInBounds_toArray, List.set_cons_zero, List.set_cons_succ, i64_w, i32_w]
                                        rfl
                                      refine pure_ (i := 9) (N := some 77) (v := ?_) (a' := ?_) #[true, true, true, true, true, true, true, true, false, true, false, false, false, false, false, false, false, false] rfl rfl (any_of HT_.out (by kernel_rfl)) (fun _ _ _ h => h) (Or.inl ⟨by rfl, ?_⟩) ?_ ?_
                                      rotate_left
                                      · intro w'
                                        go_simp
                                        with_reducible rfl
                                      rotate_left
                                      · simp only [Act.put, List.setIfInBounds_toArray, List.set_cons_zero, List.set_cons_succ, i64_w, i32_w]
                                        rfl
                                      refine pure_ (i := 10) (N := some 78) (v := ?_) (a' := ?_) #[true, true, true, true, true, true, true, true, false, true, true, false, false, false, false, false, false, false] rfl rfl (any_of HT_.out (by kernel_rfl)) (fun _ _ _ h => h) (Or.inl ⟨by rfl, ?_⟩) ?_ ?_
                                      rotate_left
                                      · intro w'
                                        go_simp
                                        with_reducible rfl
                                      rotate_left
                                      · simp only [Act.put, List.setIfInBounds_toArray, List.set_cons_zero, List.set_cons_succ, i64_w, i32_w]
                                        rfl
                                      refine pure_ (i := 11) (N := some 79) (v := ?_) (a' := ?_) #[true, true, true, true, true, true, true, true, false, true, true, true, false, false, false, false, false, false] rfl rfl (any_of HT_.out (by kernel_rfl)) (fun _ _ _ h => h) (Or.inl ⟨by rfl, ?_⟩) ?_ ?_
                                      rotate_left
                                      · intro w'
                                        go_simp
                                        with_reducible rfl
                                      rotate_left
                                      · simp only [Act.put, List.setIfInBounds_toArray, List.set_cons_zero, List.set_cons_succ, i64_w, i32_w]
                                        rfl
                                      refine pure_ (i := 12) (N := some 80) (v := ?_) (a' := ?_) #[true, true, true, true, true, true, true, true, false, true, true, true, true, false, false, false, false, false] rfl rfl (any_of HT_.out (by kernel_rfl)) (fun _ _ _ h => h) (Or.inl ⟨by rfl, ?_⟩) ?_ ?_
                                      rotate_left
                                      · intro w'
                                        go_simp
                                        with_reducible rfl
                                      rotate_left
                                      · simp only [Act.put, List.setIfInBounds_toArray, List.set_cons_zero, List.set_cons_succ, i64_w, i32_w]
                                        rfl
                                      refine take_ (i := 8) (N := some 76) (v := ?_) (a' := ?_) #[true, true, true, true, true, true, true, true, true, true, true, true, true, false, false, false, false, false] rfl rfl (take_ofW HT_.out HW_.out (by kernel_rfl)) (fun _ _ _ h => h) (Or.inl ⟨by rfl, ?_⟩) hHeld ?_ ?_
                                      rotate_left
                                      · rintro w' ⟨s0, s1⟩
                                        go_simp
                                        with_reducible rfl
                                      rotate_left
                                      · simp only [Act.put, List.setIfInBounds_toArray, List.set_cons_zero, List.set_cons_succ, i64_w, i32_w]
                                        rfl
                                      refine take_ (i := 13) (N := some 81) (v := ?_) (a' := ?_) #[true, true, true, true, true, true, true, true, true, true, true, true, true, true, false, false, false, false] rfl rfl (take_ofW HT_.out HW_.out (by kernel_rfl)) (fun _ _ _ h => h) (Or.inl ⟨by rfl, ?_⟩) hHeld ?_ ?_
                                      rotate_left
                                      · rintro w' ⟨s0, s1⟩
                                        go_simp
                                        with_reducible rfl
                                      rotate_left
                                      · simp only [Act.put, List.setIfInBounds_toArray, List.set_cons_zero, List.set_cons_succ, i64_w, i32_w]
                                        rfl
                                      refine pure_ (i := 14) (N := some 82) (v := ?_) (a' := ?_) #[true, true, true, true, true, true, true, true, true, true, true, true, true, true, true, false, false, false] rfl rfl (any_of HT_.out (by kernel_rfl)) (fun _ _ _ h => h) (Or.inl ⟨by rfl, ?_⟩) ?_ ?_
                                      rotate_left
                                      · intro w'
                                        go_simp
                                        with_reducible rfl
                                      rotate_left
                                      · simp only [Act.put, List.setIfInBounds_toArray, List.set_cons_zero, List.set_cons_succ, i64_w, i32_w]
                                        rfl
                                      refine last_ (i := 15) (N := none) #[true, true, true, true, true, true, true, true, true, true, true, true, true, true, true, true, false, false] rfl rfl (one_of HT_.out (by kernel_rfl)) (by decide) (fun K hK => ?_)
                                      refine skip_ (w1 := ?_) (by rfl) rfl ?_ ?_
                                      rotate_left
                                      · go_simp
                                        rfl
                                      refine hK.out _ _ ?_
                                      clear hK K
                                      refine pure_ (i := 16) (N := some 83) (v := ?_) (a' := ?_) #[true, true, true, true, true, true, true, true, true, true, true, true, true, true, true, true, true, false] rfl rfl (any_of HT_.out (by kernel_rfl)) (fun _ _ _ h => h) (Or.inl ⟨by rfl, ?_⟩) ?_ ?_
                                      rotate_left
                                      · intro w'
                                        go_simp
                                        with_reducible rfl
                                      rotate_left
                                      · simp only [Act.put, List.setIfInBounds_toArray, List.set_cons_zero, List.set_cons_succ, i64_w, i32_w]
                                        rfl
                                      refine last_ (i := 17) (N := none) #[true, true, true, true, true, true, true, true, true, true, true, true, true, true, true, true, true, true] rfl rfl (one_of HT_.out (by kernel_rfl)) (by decide) (fun K hK => ?_)
                                      refine skip_ (w1 := ?_) (by rfl) rfl ?_ ?_
                                      rotate_left
                                      · go_simp
                                        rfl
                                      refine hK.out _ _ ?_
                                      clear hK K
                                      refine done_ (done_of HT_.out (by kernel_rfl)) ?_
                                      try go_wp2
                                      (try simp only [← hl5_3])
                                      go_roundg k3
                                      case measure => have := HK1.out; have := HK2.out; have := HK3.out; omega
                                      case rel => exact ⟨(y289), (ji20), (by first | rfl | (simp; done) | (simp only [← hji20] <;> (first | rfl | simp)) | (simp [*]; done)), H', ⟨by have := HK1.out; have := HK2.out; have := HK3.out; omega⟩, ⟨by (try simp only [hl3_2]); (try simp only [hl5_3]); (with_reducible repeat (first | apply Kd.R_alloc | apply Kd.R_drewN | apply Kd.R_drew)); exact Kd.R_mono (Kd.R_far (p := ⟨go26, (x9_3 : Int).toNat, none⟩) (Kd.R_far (p := ⟨go26, ((ji20) : Int).toNat, none⟩) (Kd.R_mono HO_3.out (fun k_ hk => (⟨hk, fun e_ => hk.1 (by rw [e_]; rfl)⟩ : _ ∧ k_ ≠ go26))) (fun _ hk => hk.2) (.int .i64 (rd x5_3 x9_3))) (fun _ hk => hk.2) (.int .i64 (rd x5_3 (ji20)))) (fun _ hk => ⟨hk.1.1, hk.1.2⟩)⟩, ⟨by (try simp only [hl3_2]); (try simp only [hl5_3]); (with_reducible repeat (first | apply Kd.R_alloc | apply Kd.R_drewN | apply Kd.R_drew)); exact HQ31.out⟩, ⟨by (try simp only [hl3_2]); (try simp only [hl5_3]); (with_reducible repeat (first | apply Kd.R_alloc | apply Kd.R_drewN | apply Kd.R_drew)); exact Kd.R_mono (Kd.R_far (p := ⟨go26, (x9_3 : Int).toNat, none⟩) (Kd.R_far (p := ⟨go26, ((ji20) : Int).toNat, none⟩) (Kd.R_mono HO_7.out (fun k_ hk => (⟨hk, fun e_ => hk.2 (by rw [e_]; rfl)⟩ : _ ∧ k_ ≠ go26))) (fun _ hk => hk.2) (.int .i64 (rd x5_3 x9_3))) (fun _ hk => hk.2) (.int .i64 (rd x5_3 (ji20)))) (fun _ hk => ⟨hk.1.1, hk.1.2⟩)⟩, ⟨by repeat (first | (with_reducible first | exact HB.out | apply below_alloc | apply pw_below_drewN | apply below_drew1 | refine below_set ?_ GB26.out | refine below_set ?_ GB26.out) | exact HB.out)⟩⟩
                                    · rw [if_neg c25] at H
                                      have c25b0 : decide (t285 < t283) = false := decide_eq_false c25
                                      clear c25
                                      have H' := Aside0.mk H
                                      clear H
                                      try go_wp2
                                      have n0_ := Aside0.mk (Kd.R_drew HO_3.out)
                                      have n1_ := Aside0.mk (Kd.R_drew HO_5.out)
                                      have n2_ := Aside0.mk (Kd.R_drew HO_7.out)
                                      have n3_ := Aside0.mk (below_drew1 HB.out)
                                      clear HO_3
                                      clear HO_5
                                      clear HO_7
                                      clear HB
                                      have HO_3 := n0_
                                      have HO_5 := n1_
                                      have HO_7 := n2_
                                      have HB := n3_
                                      clear n0_ n1_ n2_ n3_
                                      have p280 : 0 ≤ (x9_3 : Int) := of_decide_eq_true (by first | (with_reducible assumption) | assumption)
                                      have q280 : x9_3 < (x5_3.length : Int) := of_decide_eq_true (by first | (with_reducible assumption) | assumption)
                                      obtain ⟨ad280, e280, hx280_0⟩ := Kd.at_int (Kd.R_reads' HO_5.out).2.2 x9_3 p280 q280
                                      cases e280
                                      replace p280 := eq_true p280
                                      replace q280 := eq_true q280
                                      have p282 : 0 ≤ ((ji20) : Int) := of_decide_eq_true (by first | (with_reducible assumption) | assumption)
                                      have q282 : (ji20) < (x5_3.length : Int) := of_decide_eq_true (by first | (with_reducible assumption) | assumption)
                                      obtain ⟨ad282, e282, hx282_0⟩ := Kd.at_int (Kd.R_reads' HO_5.out).2.2 (ji20) p282 q282
                                      obtain rfl : ad280 = ad282 := (by injection e282)
                                      replace p282 := eq_true p282
                                      replace q282 := eq_true q282
                                      have p284 : 0 ≤ (x9_3 : Int) := of_decide_eq_true (by first | (with_reducible assumption) | assumption)
                                      have q284 : x9_3 < (x5_3.length : Int) := of_decide_eq_true (by first | (with_reducible assumption) | assumption)
                                      obtain ⟨ad284, e284, hx284_0⟩ := Kd.at_int (Kd.R_reads' HO_5.out).2.2 x9_3 p284 q284
                                      obtain rfl : ad280 = ad284 := (by injection e284)
                                      replace p284 := eq_true p284
                                      replace q284 := eq_true q284
                                      refine start_ (n := 24) (S := fun w' => w'.cell? (ad280.add (x9_3).toNat) = some (.int .i64 (rd x5_3 x9_3)) ∧ w'.cell? (ad280.add ((ji20)).toNat) = some (.int .i64 (rd x5_3 (ji20))) ∧ w'.cell? (ad280.add (x9_3).toNat) = some (.int .i64 (rd x5_3 x9_3))) (ds := []) #[false, false, false, false, false, false, false, false, false, false, false, false, false, false, false, false, false, false, false, false, false, false, false, false] (by kernel_rfl) rfl rfl ⟨hx280_0, hx282_0, hx284_0⟩ (fun hHeld => ?_); refine with_tabW bookplateref05_decomposed.tab12 bookplateref05_decomposed.bits12 (fun HT_ HW_ => ?_)
                                      generalize wr.drew = w32 at HO_3 HO_5 HO_7 HB hx280_0 hx282_0 hx284_0 hHeld ⊢
                                      refine pure_ (i := 0) (N := some 42) (v := ?_) (a' := ?_) #[true, false, false, false, false, false, false, false, false, false, false, false, false, false, false, false, false, false, false, false, false, false, false, false] rfl rfl (any_of HT_.out (by kernel_rfl)) (fun _ _ _ h => h) (Or.inl ⟨by rfl, ?_⟩) ?_ ?_
                                      rotate_left
                                      · intro w'
                                        go_simp
                                        with_reducible rfl
                                      rotate_left
                                      · simp only [Act.put, List.setIfInBounds_toArray, List.set_cons_zero, List.set_cons_succ, i64_w, i32_w]
                                        rfl
                                      refine pure_ (i := 1) (N := some 43) (v := ?_) (a' := ?_) #[true, true, false, false, false, false, false, false, false, false, false, false, false, false, false, false, false, false, false, false, false, false, false, false] rfl rfl (any_of HT_.out (by kernel_rfl)) (fun _ _ _ h => h) (Or.inl ⟨by rfl, ?_⟩) ?_ ?_
                                      rotate_left
                                      · intro w'
                                        go_simp
                                        with_reducible rfl
                                      rotate_left
                                      · simp only [Act.put, List.setIfInBounds_toArray, List.set_cons_zero, List.set_cons_succ, i64_w, i32_w]
                                        rfl
                                      refine pure_ (i := 2) (N := some 44) (v := ?_) (a' := ?_) #[true, true, true, false, false, false, false, false, false, false, false, false, false, false, false, false, false, false, false, false, false, false, false, false] rfl rfl (any_of HT_.out (by kernel_rfl)) (fun _ _ _ h => h) (Or.inl ⟨by rfl, ?_⟩) ?_ ?_
                                      rotate_left
                                      · intro w'
                                        go_simp
                                        with_reducible rfl
                                      rotate_left
                                      · simp only [Act.put, List.setIfInBounds_toArray, List.set_cons_zero, List.set_cons_succ, i64_w, i32_w]
                                        rfl
                                      refine pure_ (i := 3) (N := some 45) (v := ?_) (a' := ?_) #[true, true, true, true, false, false, false, false, false, false, false, false, false, false, false, false, false, false, false, false, false, false, false, false] rfl rfl (any_of HT_.out (by kernel_rfl)) (fun _ _ _ h => h) (Or.inl ⟨by rfl, ?_⟩) ?_ ?_
                                      rotate_left
                                      · intro w'
                                        go_simp
                                        with_reducible rfl
                                      rotate_left
                                      · simp only [Act.put, List.setIfInBounds_toArray, List.set_cons_zero, List.set_cons_succ, i64_w, i32_w]
                                        rfl
                                      refine pure_ (i := 4) (N := some 46) (v := ?_) (a' := ?_) #[true, true, true, true, true, false, false, false, false, false, false, false, false, false, false, false, false, false, false, false, false, false, false, false] rfl rfl (any_of HT_.out (by kernel_rfl)) (fun _ _ _ h => h) (Or.inl ⟨by rfl, ?_⟩) ?_ ?_
                                      rotate_left
                                      · intro w'
                                        go_simp
                                        with_reducible rfl
                                      rotate_left
                                      · simp only [Act.put, List.setIfInBounds_toArray, List.set_cons_zero, List.set_cons_succ, i64_w, i32_w]
                                        rfl
                                      refine pure_ (i := 5) (N := some 47) (v := ?_) (a' := ?_) #[true, true, true, true, true, true, false, false, false, false, false, false, false, false, false, false, false, false, false, false, false, false, false, false] rfl rfl (any_of HT_.out (by kernel_rfl)) (fun _ _ _ h => h) (Or.inl ⟨by rfl, ?_⟩) ?_ ?_
                                      rotate_left
                                      · intro w'
                                        go_simp
                                        with_reducible rfl
                                      rotate_left
                                      · simp only [Act.put, List.setIfInBounds_toArray, List.set_cons_zero, List.set_cons_succ, i64_w, i32_w]
                                        rfl
                                      refine take_ (i := 6) (N := some 48) (v := ?_) (a' := ?_) #[true, true, true, true, true, true, true, false, false, false, false, false, false, false, false, false, false, false, false, false, false, false, false, false] rfl rfl (take_ofW HT_.out HW_.out (by kernel_rfl)) (fun _ _ _ h => h) (Or.inl ⟨by rfl, ?_⟩) hHeld ?_ ?_
                                      rotate_left
                                      · rintro w' ⟨s0, s1, s2⟩
                                        go_simp
                                        with_reducible rfl
                                      rotate_left
                                      · simp only [Act.put, List.setIfInBounds_toArray, List.set_cons_zero, List.set_cons_succ, i64_w, i32_w]
                                        rfl
                                      refine one_ (i := 7) (N := some 49) #[true, true, true, true, true, true, true, true, false, false, false, false, false, false, false, false, false, false, false, false, false, false, false, false] rfl rfl (one_of HT_.out (by kernel_rfl)) (by decide) (fun K hK => ?_)
                                      refine goes_ Tryd.func70 (by kernel_rfl) rfl #[.int .i64 (rd x5_3 x9_3)] (by rfl) rfl rfl (by (try simp only [List.map_toArray, List.map_cons, List.map_nil]); first | done | rfl | (simp only [List.length_drop, List.length_take]; rfl)) ?_
                                      with_reducible refine (bookplateref05_class.calls k3 (rd x5_3 x9_3) t281 _ A18.out).mono ?_
                                      rintro e w' ⟨rfl, ⟨nd, rfl⟩⟩
                                      refine ⟨_, rfl, ?_⟩
                                      refine hK.out _ _ ⟨hHeld.1, hHeld.2.1, hHeld.2.2⟩ (fun hHeld => ?_)
                                      clear hK K
                                      refine norm_ (a' := ?_) ?_ ?_
                                      rotate_left
                                      · show Act.put _ (some 49) _ = _
                                        simp only [Act.put, List.setIfInBounds_toArray, List.set_cons_zero, List.set_cons_succ, i64_w, i32_w]
                                        rfl
                                      refine pure_ (i := 8) (N := some 50) (v := ?_) (a' := ?_) #[true, true, true, true, true, true, true, true, true, false, false, false, false, false, false, false, false, false, false, false, false, false, false, false] rfl rfl (any_of HT_.out (by kernel_rfl)) (fun _ _ _ h => h) (Or.inl ⟨by rfl, ?_⟩) ?_ ?_
                                      rotate_left
                                      · intro w'
                                        go_simp
                                        with_reducible rfl
                                      rotate_left
                                      · simp only [Act.put, List.setIfInBounds_toArray, List.set_cons_zero, List.set_cons_succ, i64_w, i32_w]
                                        rfl
                                      refine pure_ (i := 9) (N := some 51) (v := ?_) (a' := ?_) #[true, true, true, true, true, true, true, true, true, true, false, false, false, false, false, false, false, false, false, false, false, false, false, false] rfl rfl (any_of HT_.out (by kernel_rfl)) (fun _ _ _ h => h) (Or.inl ⟨by rfl, ?_⟩) ?_ ?_
                                      rotate_left
                                      · intro w'
                                        go_simp
                                        with_reducible rfl
                                      rotate_left
                                      · simp only [Act.put, List.setIfInBounds_toArray, List.set_cons_zero, List.set_cons_succ, i64_w, i32_w]
                                        rfl
                                      refine pure_ (i := 10) (N := some 52) (v := ?_) (a' := ?_) #[true, true, true, true, true, true, true, true, true, true, true, false, false, false, false, false, false, false, false, false, false, false, false, false] rfl rfl (any_of HT_.out (by kernel_rfl)) (fun _ _ _ h => h) (Or.inl ⟨by rfl, ?_⟩) ?_ ?_
                                      rotate_left
                                      · intro w'
                                        go_simp
                                        with_reducible rfl
                                      rotate_left
                                      · simp only [Act.put, List.setIfInBounds_toArray, List.set_cons_zero, List.set_cons_succ, i64_w, i32_w]
                                        rfl
                                      refine pure_ (i := 11) (N := some 53) (v := ?_) (a' := ?_) #[true, true, true, true, true, true, true, true, true, true, true, true, false, false, false, false, false, false, false, false, false, false, false, false] rfl rfl (any_of HT_.out (by kernel_rfl)) (fun _ _ _ h => h) (Or.inl ⟨by rfl, ?_⟩) ?_ ?_
                                      rotate_left
                                      · intro w'
                                        go_simp
                                        with_reducible rfl
                                      rotate_left
                                      · simp only [Act.put, List.setIfInBounds_toArray, List.set_cons_zero, List.set_cons_succ, i64_w, i32_w]
                                        rfl
                                      refine pure_ (i := 12) (N := some 54) (v := ?_) (a' := ?_) #[true, true, true, true, true, true, true, true, true, true, true, true, true, false, false, false, false, false, false, false, false, false, false, false] rfl rfl (any_of HT_.out (by kernel_rfl)) (fun _ _ _ h => h) (Or.inl ⟨by rfl, ?_⟩) ?_ ?_
                                      rotate_left
                                      · intro w'
                                        go_simp
                                        with_reducible rfl
                                      rotate_left
                                      · simp only [Act.put, List.setIfInBounds_toArray, List.set_cons_zero, List.set_cons_succ, i64_w, i32_w]
                                        rfl
                                      refine pure_ (i := 13) (N := some 55) (v := ?_) (a' := ?_) #[true, true, true, true, true, true, true, true, true, true, true, true, true, true, false, false, false, false, false, false, false, false, false, false] rfl rfl (any_of HT_.out (by kernel_rfl)) (fun _ _ _ h => h) (Or.inl ⟨by rfl, ?_⟩) ?_ ?_
                                      rotate_left
                                      · intro w'
                                        go_simp
                                        with_reducible rfl
                                      rotate_left
                                      · simp only [Act.put, List.setIfInBounds_toArray, List.set_cons_zero, List.set_cons_succ, i64_w, i32_w]
                                        rfl
                                      refine pure_ (i := 14) (N := some 56) (v := ?_) (a' := ?_) #[true, true, true, true, true, true, true, true, true, true, true, true, true, true, true, false, false, false, false, false, false, false, false, false] rfl rfl (any_of HT_.out (by kernel_rfl)) (fun _ _ _ h => h) (Or.inl ⟨by rfl, ?_⟩) ?_ ?_
                                      rotate_left
                                      · intro w'
                                        go_simp
                                        with_reducible rfl
                                      rotate_left
                                      · simp only [Act.put, List.setIfInBounds_toArray, List.set_cons_zero, List.set_cons_succ, i64_w, i32_w]
                                        rfl
                                      refine pure_ (i := 17) (N := some 59) (v := ?_) (a' := ?_) #[true, true, true, true, true, true, true, true, true, true, true, true, true, true, true, false, false, true, false, false, false, false, false, false] rfl rfl (any_of HT_.out (by kernel_rfl)) (fun _ _ _ h => h) (Or.inl ⟨by rfl, ?_⟩) ?_ ?_
                                      rotate_left
                                      · intro w'
                                        go_simp
                                        with_reducible rfl
                                      rotate_left
                                      · simp only [Act.put, List.setIfInBounds_toArray, List.set_cons_zero, List.set_cons_succ, i64_w, i32_w]
                                        rfl
                                      refine pure_ (i := 18) (N := some 60) (v := ?_) (a' := ?_) #[true, true, true, true, true, true, true, true, true, true, true, true, true, true, true, false, false, true, true, false, false, false, false, false] rfl rfl (any_of HT_.out (by kernel_rfl)) (fun _ _ _ h => h) (Or.inl ⟨by rfl, ?_⟩) ?_ ?_
                                      rotate_left
                                      · intro w'
                                        go_simp
                                        with_reducible rfl
                                      rotate_left
                                      · simp only [Act.put, List.setIfInBounds_toArray, List.set_cons_zero, List.set_cons_succ, i64_w, i32_w]
                                        rfl
                                      refine pure_ (i := 19) (N := some 61) (v := ?_) (a' := ?_) #[true, true, true, true, true, true, true, true, true, true, true, true, true, true, true, false, false, true, true, true, false, false, false, false] rfl rfl (any_of HT_.out (by kernel_rfl)) (fun _ _ _ h => h) (Or.inl ⟨by rfl, ?_⟩) ?_ ?_
                                      rotate_left
                                      · intro w'
                                        go_simp
                                        with_reducible rfl
                                      rotate_left
                                      · simp only [Act.put, List.setIfInBounds_toArray, List.set_cons_zero, List.set_cons_succ, i64_w, i32_w]
                                        rfl
                                      refine take_ (i := 15) (N := some 57) (v := ?_) (a' := ?_) #[true, true, true, true, true, true, true, true, true, true, true, true, true, true, true, true, false, true, true, true, false, false, false, false] rfl rfl (take_ofW HT_.out HW_.out (by kernel_rfl)) (fun _ _ _ h => h) (Or.inl ⟨by rfl, ?_⟩) hHeld ?_ ?_
                                      rotate_left
                                      · rintro w' ⟨s0, s1, s2⟩
                                        go_simp
                                        with_reducible rfl
                                      rotate_left
                                      · simp only [Act.put, List.setIfInBounds_toArray, List.set_cons_zero, List.set_cons_succ, i64_w, i32_w]
                                        rfl
                                      refine take_ (i := 20) (N := some 62) (v := ?_) (a' := ?_) #[true, true, true, true, true, true, true, true, true, true, true, true, true, true, true, true, false, true, true, true, true, false, false, false] rfl rfl (take_ofW HT_.out HW_.out (by kernel_rfl)) (fun _ _ _ h => h) (Or.inl ⟨by rfl, ?_⟩) hHeld ?_ ?_
                                      rotate_left
                                      · rintro w' ⟨s0, s1, s2⟩
                                        go_simp
                                        with_reducible rfl
                                      rotate_left
                                      · simp only [Act.put, List.setIfInBounds_toArray, List.set_cons_zero, List.set_cons_succ, i64_w, i32_w]
                                        rfl
                                      refine one_ (i := 16) (N := some 58) #[true, true, true, true, true, true, true, true, true, true, true, true, true, true, true, true, true, true, true, true, true, false, false, false] rfl rfl (one_of HT_.out (by kernel_rfl)) (by decide) (fun K hK => ?_)
                                      refine goes_ Tryd.func70 (by kernel_rfl) rfl #[.int .i64 (rd x5_3 (ji20))] (by rfl) rfl rfl (by (try simp only [List.map_toArray, List.map_cons, List.map_nil]); first | done | (simp only [hji20]; rfl) | rfl | (simp only [List.length_drop, List.length_take]; rfl)) ?_
                                      with_reducible refine (bookplateref05_class.calls k3 (rd x5_3 (ji20)) t283 _ A23.out).mono ?_
                                      rintro e w' ⟨rfl, ⟨nd, rfl⟩⟩
                                      refine ⟨_, rfl, ?_⟩
                                      refine hK.out _ _ ⟨hHeld.1, hHeld.2.1, hHeld.2.2⟩ (fun hHeld => ?_)
                                      clear hK K
                                      refine norm_ (a' := ?_) ?_ ?_
                                      rotate_left
                                      · show Act.put _ (some 58) _ = _
                                        simp only [Act.put, List.setIfInBounds_toArray, List.set_cons_zero, List.set_cons_succ, i64_w, i32_w]
                                        rfl
                                      refine one_ (i := 21) (N := some 63) #[true, true, true, true, true, true, true, true, true, true, true, true, true, true, true, true, true, true, true, true, true, true, false, false] rfl rfl (one_of HT_.out (by kernel_rfl)) (by decide) (fun K hK => ?_)
                                      refine goes_ Tryd.func70 (by kernel_rfl) rfl #[.int .i64 (rd x5_3 x9_3)] (by rfl) rfl rfl (by (try simp only [List.map_toArray, List.map_cons, List.map_nil]); first | done | rfl | (simp only [List.length_drop, List.length_take]; rfl)) ?_
                                      with_reducible refine (bookplateref05_class.calls k3 (rd x5_3 x9_3) t285 _ A24.out).mono ?_
                                      rintro e w' ⟨rfl, ⟨nd, rfl⟩⟩
                                      refine ⟨_, rfl, ?_⟩
                                      refine hK.out _ _ ⟨hHeld.1, hHeld.2.1, hHeld.2.2⟩ (fun hHeld => ?_)
                                      clear hK K
                                      refine norm_ (a' := ?_) ?_ ?_
                                      rotate_left
                                      · show Act.put _ (some 63) _ = _
                                        simp only [Act.put, List.setIfInBounds_toArray, List.set_cons_zero, List.set_cons_succ, i64_w, i32_w]
                                        rfl
                                      refine pure_ (i := 22) (N := some 64) (v := ?_) (a' := ?_) #[true, true, true, true, true, true, true, true, true, true, true, true, true, true, true, true, true, true, true, true, true, true, true, false] rfl rfl (any_of HT_.out (by kernel_rfl)) (fun _ _ _ h => h) (Or.inl ⟨by rfl, ?_⟩) ?_ ?_
                                      rotate_left
                                      · intro w'
                                        go_simp
                                        with_reducible rfl
                                      rotate_left
                                      · simp only [Act.put, List.setIfInBounds_toArray, List.set_cons_zero, List.set_cons_succ, i64_w, i32_w]
                                        rfl
                                      refine pure_ (i := 23) (N := some 65) (v := ?_) (a' := ?_) #[true, true, true, true, true, true, true, true, true, true, true, true, true, true, true, true, true, true, true, true, true, true, true, true] rfl rfl (any_of HT_.out (by kernel_rfl)) (fun _ _ _ h => h) (Or.inl ⟨by rfl, ?_⟩) ?_ ?_
                                      rotate_left
                                      · intro w'
                                        go_simp
                                        with_reducible rfl
                                      rotate_left
                                      · simp only [Act.put, List.setIfInBounds_toArray, List.set_cons_zero, List.set_cons_succ, i64_w, i32_w]
                                        rfl
                                      refine done_ (done_of HT_.out (by kernel_rfl)) ?_
                                      try go_wp2
                                      (try simp only [← hl3_2, ← hl5_3])
                                      go_roundg k3
                                      case measure => have := HK1.out; have := HK2.out; have := HK3.out; omega
                                      case rel => exact ⟨(x3_2), (x5_3), (x7_2), (wrap64 (x8_2 + 1)), (by first | rfl | (simp; done) | (simp [*]; done)), H', ⟨by have := HK1.out; have := HK2.out; have := HK3.out; omega⟩, ⟨by (try simp only [hl3_2]); (try simp only [hl5_3]); (with_reducible repeat (first | apply Kd.R_alloc | apply Kd.R_drewN | apply Kd.R_drew)); exact HO_3.out⟩, ⟨by (try simp only [hl3_2]); (try simp only [hl5_3]); (with_reducible repeat (first | apply Kd.R_alloc | apply Kd.R_drewN | apply Kd.R_drew)); exact HO_5.out⟩, ⟨by (try simp only [hl3_2]); (try simp only [hl5_3]); (with_reducible repeat (first | apply Kd.R_alloc | apply Kd.R_drewN | apply Kd.R_drew)); exact HO_7.out⟩, ⟨by repeat (first | (with_reducible first | exact HB.out | apply below_alloc | apply pw_below_drewN | apply below_drew1) | exact HB.out)⟩⟩
                                  · rw [if_neg c22] at H
                                    exact absurd H (by simp)
                                · rw [if_neg c21] at H
                                  exact absurd H (by simp)
                              · rw [if_neg c19] at H
                                have c19b0 : decide (0 < t281) = false := decide_eq_false c19
                                clear c19
                                have H' := Aside0.mk H
                                clear H
                                try go_wp2
                                have n0_ := Aside0.mk (Kd.R_drew HO_3.out)
                                have n1_ := Aside0.mk (Kd.R_drew HO_5.out)
                                have n2_ := Aside0.mk (Kd.R_drew HO_7.out)
                                have n3_ := Aside0.mk (below_drew1 HB.out)
                                clear HO_3
                                clear HO_5
                                clear HO_7
                                clear HB
                                have HO_3 := n0_
                                have HO_5 := n1_
                                have HO_7 := n2_
                                have HB := n3_
                                clear n0_ n1_ n2_ n3_
                                have p280 : 0 ≤ (x9_3 : Int) := of_decide_eq_true (by first | (with_reducible assumption) | assumption)
                                have q280 : x9_3 < (x5_3.length : Int) := of_decide_eq_true (by first | (with_reducible assumption) | assumption)
                                obtain ⟨ad280, e280, hx280_0⟩ := Kd.at_int (Kd.R_reads' HO_5.out).2.2 x9_3 p280 q280
                                cases e280
                                replace p280 := eq_true p280
                                replace q280 := eq_true q280
                                refine start_ (n := 24) (S := fun w' => w'.cell? (ad280.add (x9_3).toNat) = some (.int .i64 (rd x5_3 x9_3))) (ds := []) #[false, false, false, false, false, false, false, false, false, false, false, false, false, false, false, false, false, false, false, false, false, false, false, false] (by kernel_rfl) rfl rfl (hx280_0) (fun hHeld => ?_); refine with_tabW bookplateref05_decomposed.tab12 bookplateref05_decomposed.bits12 (fun HT_ HW_ => ?_)
                                generalize wr.drew = w33 at HO_3 HO_5 HO_7 HB hx280_0 hHeld ⊢
                                refine pure_ (i := 0) (N := some 42) (v := ?_) (a' := ?_) #[true, false, false, false, false, false, false, false, false, false, false, false, false, false, false, false, false, false, false, false, false, false, false, false] rfl rfl (any_of HT_.out (by kernel_rfl)) (fun _ _ _ h => h) (Or.inl ⟨by rfl, ?_⟩) ?_ ?_
                                rotate_left
                                · intro w'
                                  go_simp
                                  with_reducible rfl
                                rotate_left
                                · simp only [Act.put, List.setIfInBounds_toArray, List.set_cons_zero, List.set_cons_succ, i64_w, i32_w]
                                  rfl
                                refine pure_ (i := 1) (N := some 43) (v := ?_) (a' := ?_) #[true, true, false, false, false, false, false, false, false, false, false, false, false, false, false, false, false, false, false, false, false, false, false, false] rfl rfl (any_of HT_.out (by kernel_rfl)) (fun _ _ _ h => h) (Or.inl ⟨by rfl, ?_⟩) ?_ ?_
                                rotate_left
                                · intro w'
                                  go_simp
                                  with_reducible rfl
                                rotate_left
                                · simp only [Act.put, List.setIfInBounds_toArray, List.set_cons_zero, List.set_cons_succ, i64_w, i32_w]
                                  rfl
                                refine pure_ (i := 2) (N := some 44) (v := ?_) (a' := ?_) #[true, true, true, false, false, false, false, false, false, false, false, false, false, false, false, false, false, false, false, false, false, false, false, false] rfl rfl (any_of HT_.out (by kernel_rfl)) (fun _ _ _ h => h) (Or.inl ⟨by rfl, ?_⟩) ?_ ?_
                                rotate_left
                                · intro w'
                                  go_simp
                                  with_reducible rfl
                                rotate_left
                                · simp only [Act.put, List.setIfInBounds_toArray, List.set_cons_zero, List.set_cons_succ, i64_w, i32_w]
                                  rfl
                                refine pure_ (i := 3) (N := some 45) (v := ?_) (a' := ?_) #[true, true, true, true, false, false, false, false, false, false, false, false, false, false, false, false, false, false, false, false, false, false, false, false] rfl rfl (any_of HT_.out (by kernel_rfl)) (fun _ _ _ h => h) (Or.inl ⟨by rfl, ?_⟩) ?_ ?_
                                rotate_left
                                · intro w'
                                  go_simp
                                  with_reducible rfl
                                rotate_left
                                · simp only [Act.put, List.setIfInBounds_toArray, List.set_cons_zero, List.set_cons_succ, i64_w, i32_w]
                                  rfl
                                refine pure_ (i := 4) (N := some 46) (v := ?_) (a' := ?_) #[true, true, true, true, true, false, false, false, false, false, false, false, false, false, false, false, false, false, false, false, false, false, false, false] rfl rfl (any_of HT_.out (by kernel_rfl)) (fun _ _ _ h => h) (Or.inl ⟨by rfl, ?_⟩) ?_ ?_
                                rotate_left
                                · intro w'
                                  go_simp
                                  with_reducible rfl
                                rotate_left
                                · simp only [Act.put, List.setIfInBounds_toArray, List.set_cons_zero, List.set_cons_succ, i64_w, i32_w]
                                  rfl
                                refine pure_ (i := 5) (N := some 47) (v := ?_) (a' := ?_) #[true, true, true, true, true, true, false, false, false, false, false, false, false, false, false, false, false, false, false, false, false, false, false, false] rfl rfl (any_of HT_.out (by kernel_rfl)) (fun _ _ _ h => h) (Or.inl ⟨by rfl, ?_⟩) ?_ ?_
                                rotate_left
                                · intro w'
                                  go_simp
                                  with_reducible rfl
                                rotate_left
                                · simp only [Act.put, List.setIfInBounds_toArray, List.set_cons_zero, List.set_cons_succ, i64_w, i32_w]
                                  rfl
                                refine take_ (i := 6) (N := some 48) (v := ?_) (a' := ?_) #[true, true, true, true, true, true, true, false, false, false, false, false, false, false, false, false, false, false, false, false, false, false, false, false] rfl rfl (take_ofW HT_.out HW_.out (by kernel_rfl)) (fun _ _ _ h => h) (Or.inl ⟨by rfl, ?_⟩) hHeld ?_ ?_
                                rotate_left
                                · intro w' s0
                                  go_simp
                                  with_reducible rfl
                                rotate_left
                                · simp only [Act.put, List.setIfInBounds_toArray, List.set_cons_zero, List.set_cons_succ, i64_w, i32_w]
                                  rfl
                                refine one_ (i := 7) (N := some 49) #[true, true, true, true, true, true, true, true, false, false, false, false, false, false, false, false, false, false, false, false, false, false, false, false] rfl rfl (one_of HT_.out (by kernel_rfl)) (by decide) (fun K hK => ?_)
                                refine goes_ Tryd.func70 (by kernel_rfl) rfl #[.int .i64 (rd x5_3 x9_3)] (by rfl) rfl rfl (by (try simp only [List.map_toArray, List.map_cons, List.map_nil]); first | done | rfl | (simp only [List.length_drop, List.length_take]; rfl)) ?_
                                with_reducible refine (bookplateref05_class.calls k3 (rd x5_3 x9_3) t281 _ A18.out).mono ?_
                                rintro e w' ⟨rfl, ⟨nd, rfl⟩⟩
                                refine ⟨_, rfl, ?_⟩
                                refine hK.out _ _ (hHeld) (fun hHeld => ?_)
                                clear hK K
                                refine norm_ (a' := ?_) ?_ ?_
                                rotate_left
                                · show Act.put _ (some 49) _ = _
                                  simp only [Act.put, List.setIfInBounds_toArray, List.set_cons_zero, List.set_cons_succ, i64_w, i32_w]
                                  rfl
                                refine pure_ (i := 8) (N := some 50) (v := ?_) (a' := ?_) #[true, true, true, true, true, true, true, true, true, false, false, false, false, false, false, false, false, false, false, false, false, false, false, false] rfl rfl (any_of HT_.out (by kernel_rfl)) (fun _ _ _ h => h) (Or.inl ⟨by rfl, ?_⟩) ?_ ?_
                                rotate_left
                                · intro w'
                                  go_simp
                                  with_reducible rfl
                                rotate_left
                                · simp only [Act.put, List.setIfInBounds_toArray, List.set_cons_zero, List.set_cons_succ, i64_w, i32_w]
                                  rfl
                                refine pure_ (i := 9) (N := some 51) (v := ?_) (a' := ?_) #[true, true, true, true, true, true, true, true, true, true, false, false, false, false, false, false, false, false, false, false, false, false, false, false] rfl rfl (any_of HT_.out (by kernel_rfl)) (fun _ _ _ h => h) (Or.inl ⟨by rfl, ?_⟩) ?_ ?_
                                rotate_left
                                · intro w'
                                  go_simp
                                  with_reducible rfl
                                rotate_left
                                · simp only [Act.put, List.setIfInBounds_toArray, List.set_cons_zero, List.set_cons_succ, i64_w, i32_w]
                                  rfl
                                refine pure_ (i := 10) (N := some 52) (v := ?_) (a' := ?_) #[true, true, true, true, true, true, true, true, true, true, true, false, false, false, false, false, false, false, false, false, false, false, false, false] rfl rfl (any_of HT_.out (by kernel_rfl)) (fun _ _ _ h => h) (Or.inl ⟨by rfl, ?_⟩) ?_ ?_
                                rotate_left
                                · intro w'
                                  go_simp
                                  with_reducible rfl
                                rotate_left
                                · simp only [Act.put, List.setIfInBounds_toArray, List.set_cons_zero, List.set_cons_succ, i64_w, i32_w]
                                  rfl
                                refine pure_ (i := 11) (N := some 53) (v := undef) (a' := ?_) #[true, true, true, true, true, true, true, true, true, true, true, true, false, false, false, false, false, false, false, false, false, false, false, false] rfl rfl (any_of HT_.out (by kernel_rfl)) (fun _ _ _ h => h) (Or.inr ⟨by rfl, rfl⟩) ?_ ?_
                                rotate_left
                                · simp only [Act.put, List.setIfInBounds_toArray, List.set_cons_zero, List.set_cons_succ, i64_w, i32_w]
                                  rfl
                                refine pure_ (i := 12) (N := some 54) (v := undef) (a' := ?_) #[true, true, true, true, true, true, true, true, true, true, true, true, true, false, false, false, false, false, false, false, false, false, false, false] rfl rfl (any_of HT_.out (by kernel_rfl)) (fun _ _ _ h => h) (Or.inr ⟨by rfl, rfl⟩) ?_ ?_
                                rotate_left
                                · simp only [Act.put, List.setIfInBounds_toArray, List.set_cons_zero, List.set_cons_succ, i64_w, i32_w]
                                  rfl
                                refine pure_ (i := 13) (N := some 55) (v := undef) (a' := ?_) #[true, true, true, true, true, true, true, true, true, true, true, true, true, true, false, false, false, false, false, false, false, false, false, false] rfl rfl (any_of HT_.out (by kernel_rfl)) (fun _ _ _ h => h) (Or.inr ⟨by rfl, rfl⟩) ?_ ?_
                                rotate_left
                                · simp only [Act.put, List.setIfInBounds_toArray, List.set_cons_zero, List.set_cons_succ, i64_w, i32_w]
                                  rfl
                                refine pure_ (i := 14) (N := some 56) (v := undef) (a' := ?_) #[true, true, true, true, true, true, true, true, true, true, true, true, true, true, true, false, false, false, false, false, false, false, false, false] rfl rfl (any_of HT_.out (by kernel_rfl)) (fun _ _ _ h => h) (Or.inr ⟨by rfl, rfl⟩) ?_ ?_
                                rotate_left
                                · simp only [Act.put, List.setIfInBounds_toArray, List.set_cons_zero, List.set_cons_succ, i64_w, i32_w]
                                  rfl
                                refine pure_ (i := 15) (N := some 57) (v := undef) (a' := ?_) #[true, true, true, true, true, true, true, true, true, true, true, true, true, true, true, true, false, false, false, false, false, false, false, false] rfl rfl (any_of HT_.out (by kernel_rfl)) (fun _ _ _ h => h) (Or.inr ⟨by rfl, rfl⟩) ?_ ?_
                                rotate_left
                                · simp only [Act.put, List.setIfInBounds_toArray, List.set_cons_zero, List.set_cons_succ, i64_w, i32_w]
                                  rfl
                                refine pure_ (i := 16) (N := some 58) (v := undef) (a' := ?_) #[true, true, true, true, true, true, true, true, true, true, true, true, true, true, true, true, true, false, false, false, false, false, false, false] rfl rfl (any_of HT_.out (by kernel_rfl)) (fun _ _ _ h => h) (Or.inr ⟨by rfl, rfl⟩) ?_ ?_
                                rotate_left
                                · simp only [Act.put, List.setIfInBounds_toArray, List.set_cons_zero, List.set_cons_succ, i64_w, i32_w]
                                  rfl
                                refine pure_ (i := 17) (N := some 59) (v := undef) (a' := ?_) #[true, true, true, true, true, true, true, true, true, true, true, true, true, true, true, true, true, true, false, false, false, false, false, false] rfl rfl (any_of HT_.out (by kernel_rfl)) (fun _ _ _ h => h) (Or.inr ⟨by rfl, rfl⟩) ?_ ?_
                                rotate_left
                                · simp only [Act.put, List.setIfInBounds_toArray, List.set_cons_zero, List.set_cons_succ, i64_w, i32_w]
                                  rfl
                                refine pure_ (i := 18) (N := some 60) (v := undef) (a' := ?_) #[true, true, true, true, true, true, true, true, true, true, true, true, true, true, true, true, true, true, true, false, false, false, false, false] rfl rfl (any_of HT_.out (by kernel_rfl)) (fun _ _ _ h => h) (Or.inr ⟨by rfl, rfl⟩) ?_ ?_
                                rotate_left
                                · simp only [Act.put, List.setIfInBounds_toArray, List.set_cons_zero, List.set_cons_succ, i64_w, i32_w]
                                  rfl
                                refine pure_ (i := 19) (N := some 61) (v := undef) (a' := ?_) #[true, true, true, true, true, true, true, true, true, true, true, true, true, true, true, true, true, true, true, true, false, false, false, false] rfl rfl (any_of HT_.out (by kernel_rfl)) (fun _ _ _ h => h) (Or.inr ⟨by rfl, rfl⟩) ?_ ?_
                                rotate_left
                                · simp only [Act.put, List.setIfInBounds_toArray, List.set_cons_zero, List.set_cons_succ, i64_w, i32_w]
                                  rfl
                                refine pure_ (i := 20) (N := some 62) (v := undef) (a' := ?_) #[true, true, true, true, true, true, true, true, true, true, true, true, true, true, true, true, true, true, true, true, true, false, false, false] rfl rfl (any_of HT_.out (by kernel_rfl)) (fun _ _ _ h => h) (Or.inr ⟨by rfl, rfl⟩) ?_ ?_
                                rotate_left
                                · simp only [Act.put, List.setIfInBounds_toArray, List.set_cons_zero, List.set_cons_succ, i64_w, i32_w]
                                  rfl
                                refine pure_ (i := 21) (N := some 63) (v := undef) (a' := ?_) #[true, true, true, true, true, true, true, true, true, true, true, true, true, true, true, true, true, true, true, true, true, true, false, false] rfl rfl (any_of HT_.out (by kernel_rfl)) (fun _ _ _ h => h) (Or.inr ⟨by rfl, rfl⟩) ?_ ?_
                                rotate_left
                                · simp only [Act.put, List.setIfInBounds_toArray, List.set_cons_zero, List.set_cons_succ, i64_w, i32_w]
                                  rfl
                                refine pure_ (i := 22) (N := some 64) (v := undef) (a' := ?_) #[true, true, true, true, true, true, true, true, true, true, true, true, true, true, true, true, true, true, true, true, true, true, true, false] rfl rfl (any_of HT_.out (by kernel_rfl)) (fun _ _ _ h => h) (Or.inr ⟨by rfl, rfl⟩) ?_ ?_
                                rotate_left
                                · simp only [Act.put, List.setIfInBounds_toArray, List.set_cons_zero, List.set_cons_succ, i64_w, i32_w]
                                  rfl
                                refine pure_ (i := 23) (N := some 65) (v := ?_) (a' := ?_) #[true, true, true, true, true, true, true, true, true, true, true, true, true, true, true, true, true, true, true, true, true, true, true, true] rfl rfl (any_of HT_.out (by kernel_rfl)) (fun _ _ _ h => h) (Or.inl ⟨by rfl, ?_⟩) ?_ ?_
                                rotate_left
                                · intro w'
                                  go_simp
                                  with_reducible rfl
                                rotate_left
                                · simp only [Act.put, List.setIfInBounds_toArray, List.set_cons_zero, List.set_cons_succ, i64_w, i32_w]
                                  rfl
                                refine done_ (done_of HT_.out (by kernel_rfl)) ?_
                                try go_wp2
                                (try simp only [← hl3_2, ← hl5_3])
                                go_roundg k3
                                case measure => have := HK1.out; have := HK2.out; have := HK3.out; omega
                                case rel => exact ⟨(x3_2), (x5_3), (x7_2), (wrap64 (x8_2 + 1)), (by first | rfl | (simp; done) | (simp [*]; done)), H', ⟨by have := HK1.out; have := HK2.out; have := HK3.out; omega⟩, ⟨by (try simp only [hl3_2]); (try simp only [hl5_3]); (with_reducible repeat (first | apply Kd.R_alloc | apply Kd.R_drewN | apply Kd.R_drew)); exact HO_3.out⟩, ⟨by (try simp only [hl3_2]); (try simp only [hl5_3]); (with_reducible repeat (first | apply Kd.R_alloc | apply Kd.R_drewN | apply Kd.R_drew)); exact HO_5.out⟩, ⟨by (try simp only [hl3_2]); (try simp only [hl5_3]); (with_reducible repeat (first | apply Kd.R_alloc | apply Kd.R_drewN | apply Kd.R_drew)); exact HO_7.out⟩, ⟨by repeat (first | (with_reducible first | exact HB.out | apply below_alloc | apply pw_below_drewN | apply below_drew1) | exact HB.out)⟩⟩
                            · rw [if_neg c17] at H
                              exact absurd H (by simp)
                          · rw [if_neg c16] at H
                            exact absurd H (by simp)
                        · rw [if_neg c15] at H
                          have c15b0 : decide (0 < x9_3) = false := decide_eq_false c15
                          clear c15
                          have H' := Aside0.mk H
                          clear H
                          try go_wp2
                          have n0_ := Aside0.mk (Kd.R_drew HO_3.out)
                          have n1_ := Aside0.mk (Kd.R_drew HO_5.out)
                          have n2_ := Aside0.mk (Kd.R_drew HO_7.out)
                          have n3_ := Aside0.mk (below_drew1 HB.out)
                          clear HO_3
                          clear HO_5
                          clear HO_7
                          clear HB
                          have HO_3 := n0_
                          have HO_5 := n1_
                          have HO_7 := n2_
                          have HB := n3_
                          clear n0_ n1_ n2_ n3_
                          refine start_ (n := 24) (S := fun w' => True) (ds := []) #[false, false, false, false, false, false, false, false, false, false, false, false, false, false, false, false, false, false, false, false, false, false, false, false] (by kernel_rfl) rfl rfl trivial (fun hHeld => ?_); refine with_tabW bookplateref05_decomposed.tab12 bookplateref05_decomposed.bits12 (fun HT_ HW_ => ?_)
                          generalize wr.drew = w34 at HO_3 HO_5 HO_7 HB hHeld ⊢
                          refine pure_ (i := 0) (N := some 42) (v := ?_) (a' := ?_) #[true, false, false, false, false, false, false, false, false, false, false, false, false, false, false, false, false, false, false, false, false, false, false, false] rfl rfl (any_of HT_.out (by kernel_rfl)) (fun _ _ _ h => h) (Or.inl ⟨by rfl, ?_⟩) ?_ ?_
                          rotate_left
                          · intro w'
                            go_simp
                            with_reducible rfl
                          rotate_left
                          · simp only [Act.put, List.setIfInBounds_toArray, List.set_cons_zero, List.set_cons_succ, i64_w, i32_w]
                            rfl
                          refine pure_ (i := 1) (N := some 43) (v := ?_) (a' := ?_) #[true, true, false, false, false, false, false, false, false, false, false, false, false, false, false, false, false, false, false, false, false, false, false, false] rfl rfl (any_of HT_.out (by kernel_rfl)) (fun _ _ _ h => h) (Or.inl ⟨by rfl, ?_⟩) ?_ ?_
                          rotate_left
                          · intro w'
                            go_simp
                            with_reducible rfl
                          rotate_left
                          · simp only [Act.put, List.setIfInBounds_toArray, List.set_cons_zero, List.set_cons_succ, i64_w, i32_w]
                            rfl
                          refine pure_ (i := 2) (N := some 44) (v := ?_) (a' := ?_) #[true, true, true, false, false, false, false, false, false, false, false, false, false, false, false, false, false, false, false, false, false, false, false, false] rfl rfl (any_of HT_.out (by kernel_rfl)) (fun _ _ _ h => h) (Or.inl ⟨by rfl, ?_⟩) ?_ ?_
                          rotate_left
                          · intro w'
                            go_simp
                            with_reducible rfl
                          rotate_left
                          · simp only [Act.put, List.setIfInBounds_toArray, List.set_cons_zero, List.set_cons_succ, i64_w, i32_w]
                            rfl
                          refine pure_ (i := 3) (N := some 45) (v := undef) (a' := ?_) #[true, true, true, true, false, false, false, false, false, false, false, false, false, false, false, false, false, false, false, false, false, false, false, false] rfl rfl (any_of HT_.out (by kernel_rfl)) (fun _ _ _ h => h) (Or.inr ⟨by rfl, rfl⟩) ?_ ?_
                          rotate_left
                          · simp only [Act.put, List.setIfInBounds_toArray, List.set_cons_zero, List.set_cons_succ, i64_w, i32_w]
                            rfl
                          refine pure_ (i := 4) (N := some 46) (v := undef) (a' := ?_) #[true, true, true, true, true, false, false, false, false, false, false, false, false, false, false, false, false, false, false, false, false, false, false, false] rfl rfl (any_of HT_.out (by kernel_rfl)) (fun _ _ _ h => h) (Or.inr ⟨by rfl, rfl⟩) ?_ ?_
                          rotate_left
                          · simp only [Act.put, List.setIfInBounds_toArray, List.set_cons_zero, List.set_cons_succ, i64_w, i32_w]
                            rfl
                          refine pure_ (i := 5) (N := some 47) (v := undef) (a' := ?_) #[true, true, true, true, true, true, false, false, false, false, false, false, false, false, false, false, false, false, false, false, false, false, false, false] rfl rfl (any_of HT_.out (by kernel_rfl)) (fun _ _ _ h => h) (Or.inr ⟨by rfl, rfl⟩) ?_ ?_
                          rotate_left
                          · simp only [Act.put, List.setIfInBounds_toArray, List.set_cons_zero, List.set_cons_succ, i64_w, i32_w]
                            rfl
                          refine pure_ (i := 6) (N := some 48) (v := undef) (a' := ?_) #[true, true, true, true, true, true, true, false, false, false, false, false, false, false, false, false, false, false, false, false, false, false, false, false] rfl rfl (any_of HT_.out (by kernel_rfl)) (fun _ _ _ h => h) (Or.inr ⟨by rfl, rfl⟩) ?_ ?_
                          rotate_left
                          · simp only [Act.put, List.setIfInBounds_toArray, List.set_cons_zero, List.set_cons_succ, i64_w, i32_w]
                            rfl
                          refine pure_ (i := 7) (N := some 49) (v := undef) (a' := ?_) #[true, true, true, true, true, true, true, true, false, false, false, false, false, false, false, false, false, false, false, false, false, false, false, false] rfl rfl (any_of HT_.out (by kernel_rfl)) (fun _ _ _ h => h) (Or.inr ⟨by rfl, rfl⟩) ?_ ?_
                          rotate_left
                          · simp only [Act.put, List.setIfInBounds_toArray, List.set_cons_zero, List.set_cons_succ, i64_w, i32_w]
                            rfl
                          refine pure_ (i := 8) (N := some 50) (v := undef) (a' := ?_) #[true, true, true, true, true, true, true, true, true, false, false, false, false, false, false, false, false, false, false, false, false, false, false, false] rfl rfl (any_of HT_.out (by kernel_rfl)) (fun _ _ _ h => h) (Or.inr ⟨by rfl, rfl⟩) ?_ ?_
                          rotate_left
                          · simp only [Act.put, List.setIfInBounds_toArray, List.set_cons_zero, List.set_cons_succ, i64_w, i32_w]
                            rfl
                          refine pure_ (i := 9) (N := some 51) (v := ?_) (a' := ?_) #[true, true, true, true, true, true, true, true, true, true, false, false, false, false, false, false, false, false, false, false, false, false, false, false] rfl rfl (any_of HT_.out (by kernel_rfl)) (fun _ _ _ h => h) (Or.inl ⟨by rfl, ?_⟩) ?_ ?_
                          rotate_left
                          · intro w'
                            go_simp
                            with_reducible rfl
                          rotate_left
                          · simp only [Act.put, List.setIfInBounds_toArray, List.set_cons_zero, List.set_cons_succ, i64_w, i32_w]
                            rfl
                          refine pure_ (i := 10) (N := some 52) (v := ?_) (a' := ?_) #[true, true, true, true, true, true, true, true, true, true, true, false, false, false, false, false, false, false, false, false, false, false, false, false] rfl rfl (any_of HT_.out (by kernel_rfl)) (fun _ _ _ h => h) (Or.inl ⟨by rfl, ?_⟩) ?_ ?_
                          rotate_left
                          · intro w'
                            go_simp
                            with_reducible rfl
                          rotate_left
                          · simp only [Act.put, List.setIfInBounds_toArray, List.set_cons_zero, List.set_cons_succ, i64_w, i32_w]
                            rfl
                          refine pure_ (i := 11) (N := some 53) (v := undef) (a' := ?_) #[true, true, true, true, true, true, true, true, true, true, true, true, false, false, false, false, false, false, false, false, false, false, false, false] rfl rfl (any_of HT_.out (by kernel_rfl)) (fun _ _ _ h => h) (Or.inr ⟨by rfl, rfl⟩) ?_ ?_
                          rotate_left
                          · simp only [Act.put, List.setIfInBounds_toArray, List.set_cons_zero, List.set_cons_succ, i64_w, i32_w]
                            rfl
                          refine pure_ (i := 12) (N := some 54) (v := undef) (a' := ?_) #[true, true, true, true, true, true, true, true, true, true, true, true, true, false, false, false, false, false, false, false, false, false, false, false] rfl rfl (any_of HT_.out (by kernel_rfl)) (fun _ _ _ h => h) (Or.inr ⟨by rfl, rfl⟩) ?_ ?_
                          rotate_left
                          · simp only [Act.put, List.setIfInBounds_toArray, List.set_cons_zero, List.set_cons_succ, i64_w, i32_w]
                            rfl
                          refine pure_ (i := 13) (N := some 55) (v := undef) (a' := ?_) #[true, true, true, true, true, true, true, true, true, true, true, true, true, true, false, false, false, false, false, false, false, false, false, false] rfl rfl (any_of HT_.out (by kernel_rfl)) (fun _ _ _ h => h) (Or.inr ⟨by rfl, rfl⟩) ?_ ?_
                          rotate_left
                          · simp only [Act.put, List.setIfInBounds_toArray, List.set_cons_zero, List.set_cons_succ, i64_w, i32_w]
                            rfl
                          refine pure_ (i := 14) (N := some 56) (v := undef) (a' := ?_) #[true, true, true, true, true, true, true, true, true, true, true, true, true, true, true, false, false, false, false, false, false, false, false, false] rfl rfl (any_of HT_.out (by kernel_rfl)) (fun _ _ _ h => h) (Or.inr ⟨by rfl, rfl⟩) ?_ ?_
                          rotate_left
                          · simp only [Act.put, List.setIfInBounds_toArray, List.set_cons_zero, List.set_cons_succ, i64_w, i32_w]
                            rfl
                          refine pure_ (i := 15) (N := some 57) (v := undef) (a' := ?_) #[true, true, true, true, true, true, true, true, true, true, true, true, true, true, true, true, false, false, false, false, false, false, false, false] rfl rfl (any_of HT_.out (by kernel_rfl)) (fun _ _ _ h => h) (Or.inr ⟨by rfl, rfl⟩) ?_ ?_
                          rotate_left
                          · simp only [Act.put, List.setIfInBounds_toArray, List.set_cons_zero, List.set_cons_succ, i64_w, i32_w]
                            rfl
                          refine pure_ (i := 16) (N := some 58) (v := undef) (a' := ?_) #[true, true, true, true, true, true, true, true, true, true, true, true, true, true, true, true, true, false, false, false, false, false, false, false] rfl rfl (any_of HT_.out (by kernel_rfl)) (fun _ _ _ h => h) (Or.inr ⟨by rfl, rfl⟩) ?_ ?_
                          rotate_left
                          · simp only [Act.put, List.setIfInBounds_toArray, List.set_cons_zero, List.set_cons_succ, i64_w, i32_w]
                            rfl
                          refine pure_ (i := 17) (N := some 59) (v := undef) (a' := ?_) #[true, true, true, true, true, true, true, true, true, true, true, true, true, true, true, true, true, true, false, false, false, false, false, false] rfl rfl (any_of HT_.out (by kernel_rfl)) (fun _ _ _ h => h) (Or.inr ⟨by rfl, rfl⟩) ?_ ?_
                          rotate_left
                          · simp only [Act.put, List.setIfInBounds_toArray, List.set_cons_zero, List.set_cons_succ, i64_w, i32_w]
                            rfl
                          refine pure_ (i := 18) (N := some 60) (v := undef) (a' := ?_) #[true, true, true, true, true, true, true, true, true, true, true, true, true, true, true, true, true, true, true, false, false, false, false, false] rfl rfl (any_of HT_.out (by kernel_rfl)) (fun _ _ _ h => h) (Or.inr ⟨by rfl, rfl⟩) ?_ ?_
                          rotate_left
                          · simp only [Act.put, List.setIfInBounds_toArray, List.set_cons_zero, List.set_cons_succ, i64_w, i32_w]
                            rfl
                          refine pure_ (i := 19) (N := some 61) (v := undef) (a' := ?_) #[true, true, true, true, true, true, true, true, true, true, true, true, true, true, true, true, true, true, true, true, false, false, false, false] rfl rfl (any_of HT_.out (by kernel_rfl)) (fun _ _ _ h => h) (Or.inr ⟨by rfl, rfl⟩) ?_ ?_
                          rotate_left
                          · simp only [Act.put, List.setIfInBounds_toArray, List.set_cons_zero, List.set_cons_succ, i64_w, i32_w]
                            rfl
                          refine pure_ (i := 20) (N := some 62) (v := undef) (a' := ?_) #[true, true, true, true, true, true, true, true, true, true, true, true, true, true, true, true, true, true, true, true, true, false, false, false] rfl rfl (any_of HT_.out (by kernel_rfl)) (fun _ _ _ h => h) (Or.inr ⟨by rfl, rfl⟩) ?_ ?_
                          rotate_left
                          · simp only [Act.put, List.setIfInBounds_toArray, List.set_cons_zero, List.set_cons_succ, i64_w, i32_w]
                            rfl
                          refine pure_ (i := 21) (N := some 63) (v := undef) (a' := ?_) #[true, true, true, true, true, true, true, true, true, true, true, true, true, true, true, true, true, true, true, true, true, true, false, false] rfl rfl (any_of HT_.out (by kernel_rfl)) (fun _ _ _ h => h) (Or.inr ⟨by rfl, rfl⟩) ?_ ?_
                          rotate_left
                          · simp only [Act.put, List.setIfInBounds_toArray, List.set_cons_zero, List.set_cons_succ, i64_w, i32_w]
                            rfl
                          refine pure_ (i := 22) (N := some 64) (v := undef) (a' := ?_) #[true, true, true, true, true, true, true, true, true, true, true, true, true, true, true, true, true, true, true, true, true, true, true, false] rfl rfl (any_of HT_.out (by kernel_rfl)) (fun _ _ _ h => h) (Or.inr ⟨by rfl, rfl⟩) ?_ ?_
                          rotate_left
                          · simp only [Act.put, List.setIfInBounds_toArray, List.set_cons_zero, List.set_cons_succ, i64_w, i32_w]
                            rfl
                          refine pure_ (i := 23) (N := some 65) (v := ?_) (a' := ?_) #[true, true, true, true, true, true, true, true, true, true, true, true, true, true, true, true, true, true, true, true, true, true, true, true] rfl rfl (any_of HT_.out (by kernel_rfl)) (fun _ _ _ h => h) (Or.inl ⟨by rfl, ?_⟩) ?_ ?_
                          rotate_left
                          · intro w'
                            go_simp
                            with_reducible rfl
                          rotate_left
                          · simp only [Act.put, List.setIfInBounds_toArray, List.set_cons_zero, List.set_cons_succ, i64_w, i32_w]
                            rfl
                          refine done_ (done_of HT_.out (by kernel_rfl)) ?_
                          try go_wp2
                          (try simp only [← hl3_2, ← hl5_3])
                          go_roundg k3
                          case measure => have := HK1.out; have := HK2.out; have := HK3.out; omega
                          case rel => exact ⟨(x3_2), (x5_3), (x7_2), (wrap64 (x8_2 + 1)), (by first | rfl | (simp; done) | (simp [*]; done)), H', ⟨by have := HK1.out; have := HK2.out; have := HK3.out; omega⟩, ⟨by (try simp only [hl3_2]); (try simp only [hl5_3]); (with_reducible repeat (first | apply Kd.R_alloc | apply Kd.R_drewN | apply Kd.R_drew)); exact HO_3.out⟩, ⟨by (try simp only [hl3_2]); (try simp only [hl5_3]); (with_reducible repeat (first | apply Kd.R_alloc | apply Kd.R_drewN | apply Kd.R_drew)); exact HO_5.out⟩, ⟨by (try simp only [hl3_2]); (try simp only [hl5_3]); (with_reducible repeat (first | apply Kd.R_alloc | apply Kd.R_drewN | apply Kd.R_drew)); exact HO_7.out⟩, ⟨by repeat (first | (with_reducible first | exact HB.out | apply below_alloc | apply pw_below_drewN | apply below_drew1) | exact HB.out)⟩⟩
                  · rw [if_neg c11] at H
                    exact absurd H (by simp)
                · rw [if_neg c10] at H
                  exact absurd H (by simp)
              · rw [if_neg c9] at H
                have c9b0 : decide (x8_2 < (x7_2.length : Int)) = false := decide_eq_false c9
                clear c9
                have H' := Aside0.mk H
                clear H
                obtain ⟨Ao35, co35, eo35⟩ := Kd.R_slice HO_7.out
                subst eo35
                go_wp2
                (try simp only [← hl3_2])
                go_roundg k2
                case measure => have := HK1.out; have := HK2.out; omega
                case rel => exact ⟨(x3_2), (x5_2), (wrap64 (x6_1 + 1)), (by first | rfl | (simp; done) | (simp [*]; done)), H', ⟨by have := HK1.out; have := HK2.out; omega⟩, ⟨by (try simp only [hl3_2]); (with_reducible repeat (first | apply Kd.R_alloc | apply Kd.R_drewN | apply Kd.R_drew)); exact Kd.R_mono HO_3.out (fun _ hk => hk.1)⟩, ⟨by (try simp only [hl3_2]); (with_reducible repeat (first | apply Kd.R_alloc | apply Kd.R_drewN | apply Kd.R_drew)); exact Kd.R_mono HO_5.out (fun _ hk => hk.1)⟩, ⟨by repeat (first | (with_reducible first | exact HB.out | apply below_alloc | apply pw_below_drewN | apply below_drew1) | exact HB.out)⟩⟩
        · rw [if_neg c5] at H
          exact absurd H (by simp)
      · rw [if_neg c4] at H
        have c4b0 : decide (x6_1 < (x3_1.length : Int)) = false := decide_eq_false c4
        clear c4
        obtain rfl := Option.some.inj H
        obtain ⟨Ao36, co36, eo36⟩ := Kd.R_slice HO_3.out
        subst eo36
        go_wp2
        go_ret
        exact ⟨_, by first | rfl | (simp [errW_none, errW_some] <;> rfl) | (simp [*, errW_none, errW_some] <;> rfl), by (with_reducible repeat (first | apply Kd.R_alloc | apply Kd.R_drewN | apply Kd.R_drew)); exact Kd.R_mono HO_5.out (fun _ hk => trivial), by repeat (first | (with_reducible first | exact HB.out | apply below_alloc | apply pw_below_drewN | apply below_drew1) | exact HB.out)⟩
end Go.Proofs.YthcpdhniakpbaaaDoor.X
end
