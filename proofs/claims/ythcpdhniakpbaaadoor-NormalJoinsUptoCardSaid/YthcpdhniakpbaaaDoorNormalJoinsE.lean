/- The law NormalJoins returns true for every input of the sizes that the row's condition lets in, the package variables that it reads holding what the row lists. Part 5 of the texts that its proof stands on; put together by a program. -/
import Derived.Test.YthcpdhniakpbaaaDoorNormalJoinsD
import Derived.Deep.Cut
import Derived.Deep.CutRange
import Derived.Deep.CutBlock
import Derived.Deep.RegionHeld3
import Derived.Deep.AppendLies
import Derived.Outline
section
namespace Go.Proofs.YthcpdhniakpbaaaDoor.X
open Go.RowKit Go.Sort Go.Lib Go.Proofs.YthcpdhniakpbaaaDoorW.PrintWords Go.Proofs.YthcpdhniakpbaaaDoorW.PrintLast Go.Proofs.YthcpdhniakpbaaaDoorW.PrintMore
set_option linter.unusedVariables false
set_option linter.unusedSimpArgs false
theorem join_any (c m : Int) (h : hasS c = true) (W : World) : Calls Tryd.prog 69 #[.int .i64 c, .int .i64 m] W fun e w' => e = .returned (joinV (joinS c m)) ∧ Below W.heap.size W w' := by
  have hne : c ≠ 65533 := fun e => by rw [e, hasS_65533] at h; exact absurd h (by decide)
  have hr := hasS_range h
  exact join_walk c m (by omega) (by omega) hne W
def ComposeOk (l : List Int) : Prop := l.length ≤ 200000 ∧ ∀ c ∈ l, hasS c = true
instance (l : List Int) : Decidable (ComposeOk l) := by unfold ComposeOk; infer_instance
def leftB (kept : List Int) : Array Value := #[.bool false, .bool (kept.any fun x => clsN x == 1), .bool (kept.any fun x => clsN x == 2), .bool (kept.any fun x => clsN x == 3)]
theorem cl_alloc {w : World} {a : Addr} {v : Value} (o : Obj) (h : w.cell? a = some v) : (w.alloc o).drew.cell? a = some v := by
  have := World.block_lt_of_cell? w _ h
  show (w.alloc o).cell? a = some v
  rw [cell_alloc_old _ _ _ this]
  exact h
theorem st_other {w : World} {b k : Nat} {a : Addr} {v : Value} (u : Value) (h : w.cell? a = some v) (hne : a.block ≠ b) : (w.setCell ⟨b, k, none⟩ u).cell? a = some v := by
  rw [World.cell?_setCell_other _ _ _ _ (fun e => hne (by rw [← e]))]
  exact h
theorem st_same {w : World} {b k : Nat} {v : Value} (u : Value) (h : w.cell? ⟨b, k, none⟩ = some v) : (w.setCell ⟨b, k, none⟩ u).cell? ⟨b, k, none⟩ = some u := World.cell?_setCell_same _ _ _ h
theorem st_frozen {w : World} {a p : Addr} (u : Value) (h : w.frozen? a = false) : (w.setCell p u).frozen? a = false := by
  rw [World.frozen?_setCell]
  exact h
theorem fz_alloc {w : World} {a : Addr} (o : Obj) (h : w.frozen? a = false) (hb : a.block < w.heap.size) : (w.alloc o).drew.frozen? a = false := by
  show (w.alloc o).frozen? a = false
  rw [World.frozen?_of_block (w := w) (Lib.alloc_old w o _ hb)]
  exact h
set_option maxHeartbeats 8000000 in
set_option maxRecDepth 100000 in
theorem compose_walk (s : ByteArray) (w : World) (hG : GT1 w) (l : List Int) (okb : Bool) (hd : normal_decomposed.f s = some (l, okb)) (ho : ComposeOk l) (r : ByteArray) (ht : normal_text.f (compS l) = some r) :
    Calls Tryd.prog 40 #[.string s] w fun e w' => e = .returned (.string r) ∧ Below w.heap.size w w' := by
  have HD := Lib.hid (normal_decomposed.calls s l okb w hG hd)
  obtain ⟨hl, hh⟩ := ho
  have HH := Lib.hid hh
  obtain ⟨T, hT⟩ : ∃ T, T = compS l := ⟨_, rfl⟩
  rw [← hT] at ht
  have HT : Hid (compF l.length l = T) := hT.symm
  have HX : Hid (∀ (A : Option Addr) (c : Nat) W, Kd.C (Kd.int .i64) W A T.length T → T.length ≤ c → Calls Tryd.prog 65 #[.slice A T.length c] W fun e w' => e = .returned (.string r) ∧ Below W.heap.size W w') := fun A c W hC hc => normal_text.calls A c T r W hC hc ht
  clear hG hd hh hT ht
  have hi3 := @info3
  go_enter Tryd.func40, Tryd.ntmps40
  go_wp2_with fail
  refine HD.out.mono ?_
  rintro e w1 ⟨v3, rfl, hr3, hb1⟩
  obtain ⟨A, c3, rfl⟩ := Kd.R_slice hr3
  have hC := Aside0.mk (Kd.R_reads' hr3).2.2
  have HB1 := Aside0.mk hb1
  clear hr3 hb1 HD
  obtain ⟨n, hn⟩ : ∃ n, n = l.length := ⟨_, rfl⟩
  have HN : Hid (l.length = n) := hn.symm
  rw [← hn] at hC hl ⊢
  clear hn
  go_wp2_with fail
  go_loopg [5, 6, 7, 8, 9, 10, 11, 12] n (fun g1 v5 v6 v7 v8 v9 v10 v11 v12 wr => ∃ (i : Nat) (out : List Int) (vo : Value) (f : Nat), v6 = .int .i64 (i : Int) ∧ vo = v5 ∧ i ≤ n ∧ n - i ≤ g1 ∧ n - i ≤ f ∧ out.length ≤ i ∧ Aside0 (Kd.R (Kd.int .i64) 3 wr w1.heap.size (fun _ => True) vo out) ∧ Aside0 (Below w1.heap.size w1 wr) ∧ Hid (out ++ compF f (l.drop i) = T))
  case atStart => exact ⟨0, [], _, n, rfl, rfl, by omega, by omega, by omega, by simp, ⟨Kd.R_nil _ _ _ _ _⟩, ⟨Below.refl _ _⟩, by show _ = _; rw [← HT.out, HN.out]; rfl⟩
  case round =>
    clear HT
    obtain ⟨i, out, vo, f, rfl, rfl, hin, hg1, hf, hol, HO, HB, HT⟩ := hrel
    obtain ⟨wo, rfl⟩ : ∃ wo : World, wo = wr := ⟨_, rfl⟩
    by_cases hlt : i < n
    · have hltz : (i : Int) < (n : Int) := by omega
      have hil : i < l.length := by have := HN.out; omega
      obtain ⟨ad, rfl, hx⟩ := Kd.at_int hC.out (i : Int) (by omega) (by omega)
      simp only [Int.toNat_natCast] at hx
      replace hx := (HB.out.cell (World.block_lt_of_cell? w1 _ hx)).trans hx
      have hrd : rd l (i : Int) = l[i] := by unfold rd; simp [hil]
      have hhc := HH.out _ (List.getElem_mem hil)
      rw [hrd] at hx
      have hT := HT.out
      rw [List.drop_eq_getElem_cons hil] at hT
      obtain ⟨f, rfl⟩ : ∃ q, f = q + 1 := ⟨f - 1, by omega⟩
      rw [compF] at hT
      have HMK := Lib.hid (mark_any l[i] hhc)
      obtain ⟨mb, hmb⟩ : ∃ b, isMk l[i] = b := ⟨_, rfl⟩
      rw [hmb] at hT HMK
      clear HT hmb hrd
      generalize l[i] = c at hx HMK hhc hT
      have hsz := HB.out.size
      cases mb with
      | true =>
        rw [if_pos rfl] at hT
        have HT2 : Hid ((out ++ [c]) ++ compF f (l.drop (i + 1)) = T) := by show _ = _; rw [← hT]; simp
        clear hT
        go_wp2_with (first | (go_at_call 67; refine (HMK.out _).mono ?_; rintro e w' ⟨rfl, ⟨nd, rfl⟩⟩) | ((with_reducible refine gate_dst (N := 33) rfl ?_); refine Kd.R_append_row (Value.int .i64) 0 (w0 := w1) w1.heap.size rfl (.tmp 30) (.tmp 32) 35 3 (.int .i64 0) 8 rfl Tryd.underlying35 info3 rfl (by decide) vo out [c] (some ⟨wo.heap.size, 0, none⟩) 1 1 (fun _ => True) rfl rfl (fun _ _ => trivial) (Kd.R_alloc (Kd.R_drewN HO.out nd) _) (Kd.R_reads' (R_lits (wo.drewN nd) wo.heap.size w1.heap.size [c] rfl hsz (by simp))).2.2 (below_alloc (pw_below_drewN HB.out nd) _) (by simp; omega) (by omega) ?_; intro v1 w3 hr3 hb3 hg3 hat3; clear hg3 hat3))
        go_roundg (n - (i + 1))
        case measure => omega
        case rel => exact ⟨i + 1, out ++ [c], v1, f, by go_num, rfl, by omega, by omega, by omega, by simp; omega, ⟨hr3⟩, ⟨hb3⟩, HT2⟩
      | false =>
        rw [if_neg (by decide)] at hT
        have HT2 : Hid (out ++ (((compM ((l.drop (i + 1)).takeWhile isMk) c []).1 :: (compM ((l.drop (i + 1)).takeWhile isMk) c []).2) ++ compF f ((l.drop (i + 1)).dropWhile isMk)) = T) := hT
        clear hT
        go_upto_block 2 with (first | (go_at_call 67; refine (HMK.out _).mono ?_; rintro e w' ⟨rfl, ⟨nd, rfl⟩⟩))
        have HBW : Aside0 (Below wo.heap.size wo ((wo.drewN nd).alloc (.cells (leftB []) 63))) := ⟨below_alloc (pw_below_drewN (Below.refl _ _) nd) _⟩
        have HLB : Aside0 (((wo.drewN nd).alloc (.cells (leftB []) 63)).heap[wo.heap.size]? = some (.cells (leftB []) 63 (0, 0))) := ⟨heap_alloc_last (wo.drewN nd) _⟩
        clear HMK hx
        go_cut [6, 7, 8, 10, 11, 12] from 34 to 77 (fun v6 v7 v8 v10 v11 v12 wx => ∃ (j : Nat) (c' : Int) (kept : List Int) (vk : Value), v6 = .int .i64 (j : Int) ∧ v7 = .int .i64 c' ∧ vk = v8 ∧ i + 1 ≤ j ∧ j ≤ n ∧ kept.length + i + 1 ≤ j ∧ Aside0 (Kd.R (Kd.int .i64) 3 wx wo.heap.size (fun _ => True) vk kept) ∧ Aside0 (Below wo.heap.size wo wx) ∧ Hid (compM ((l.drop (i + 1)).takeWhile isMk) c [] = (c', kept)) ∧ Hid ((l.drop (i + 1)).dropWhile isMk = l.drop j))
        case first =>
          go_wp2_with fail
          go_loopg [6, 7, 8, 10, 11, 12] n (fun g2 v6 v7 v8 v10 v11 v12 wx => ∃ (j : Nat) (c' : Int) (kept : List Int) (vk : Value), v6 = .int .i64 (j : Int) ∧ v7 = .int .i64 c' ∧ vk = v8 ∧ i + 1 ≤ j ∧ j ≤ n ∧ n - j ≤ g2 ∧ kept.length + i + 1 ≤ j ∧ Aside0 (Kd.R (Kd.int .i64) 3 wx wo.heap.size (fun _ => True) vk kept) ∧ Aside0 (Below wo.heap.size wo wx) ∧ Aside0 (wx.heap[wo.heap.size]? = some (.cells (leftB kept) 63 (0, 0))) ∧ Hid (hasS c' = true) ∧ Hid (compM ((l.drop (i + 1)).takeWhile isMk) c [] = compM ((l.drop j).takeWhile isMk) c' kept) ∧ Hid ((l.drop (i + 1)).dropWhile isMk = (l.drop j).dropWhile isMk))
          case atStart => exact ⟨i + 1, c, [], _, by go_num, rfl, rfl, by omega, by omega, by omega, by simp, ⟨Kd.R_nil _ _ _ _ _⟩, HBW, HLB, hhc, rfl, rfl⟩
          case round =>
            clear HBW HLB
            obtain ⟨j, c', kept, vk, rfl, rfl, rfl, hij, hjn, hg2, hkl, HK, HBW, HLB, HC, HE, HDr⟩ := hrel
            by_cases hjlt : j < n
            · have hjz : (j : Int) < (n : Int) := by omega
              have hjl : j < l.length := by have := HN.out; omega
              obtain ⟨ad', he, hx2⟩ := Kd.at_int hC.out (j : Int) (by omega) (by omega)
              obtain rfl := Option.some.inj he
              clear he
              simp only [Int.toNat_natCast] at hx2
              have had1 : (ad.add j).block < w1.heap.size := World.block_lt_of_cell? w1 _ hx2
              have HBX := Aside0.mk (below_step HB.out HBW.out)
              replace hx2 := (HBX.out.cell (World.block_lt_of_cell? w1 _ hx2)).trans hx2
              have hadb : (ad.add j).block < wr.heap.size := World.block_lt_of_cell? wr _ hx2
              have hrd2 : rd l (j : Int) = l[j] := by unfold rd; simp [hjl]
              rw [hrd2] at hx2
              have hhc2 := HH.out _ (List.getElem_mem hjl)
              have hE := HE.out
              have hDr := HDr.out
              rw [List.drop_eq_getElem_cons hjl] at hE hDr
              have HMK2 := Lib.hid (mark_any l[j] hhc2)
              have HDj : Hid (l.drop j = l[j] :: l.drop (j + 1)) := List.drop_eq_getElem_cons hjl
              obtain ⟨mb, hmb⟩ : ∃ b, isMk l[j] = b := ⟨_, rfl⟩
              rw [hmb] at HMK2
              rw [List.takeWhile_cons, hmb] at hE
              rw [List.dropWhile_cons, hmb] at hDr
              clear hmb hrd2 HE HDr
              generalize l[j] = c2 at hx2 HMK2 hhc2 hE hDr HDj
              have hszx := HBW.out.size
              cases mb with
              | false =>
                rw [if_neg (by decide)] at hE hDr
                have HE2 : Hid (compM ((l.drop (i + 1)).takeWhile isMk) c [] = (c', kept)) := hE
                have HD2 : Hid ((l.drop (i + 1)).dropWhile isMk = l.drop j) := by show _ = _; rw [hDr, HDj.out]
                clear hE hDr
                go_wp2_with (go_at_call 67; refine (HMK2.out _).mono ?_; rintro e w' ⟨rfl, ⟨nq, rfl⟩⟩)
                go_meet
                exact ⟨j, c', kept, vk, rfl, rfl, rfl, hij, hjn, hkl, ⟨Kd.R_drewN HK.out nq⟩, ⟨pw_below_drewN HBW.out nq⟩, HE2, HD2⟩
              | true =>
                rw [if_pos rfl, compM] at hE
                rw [if_pos rfl] at hDr
                have HD2 : Hid ((l.drop (i + 1)).dropWhile isMk = (l.drop (j + 1)).dropWhile isMk) := hDr
                have HCL := Lib.hid (nclass_any c2)
                have HJA := Lib.hid (join_any c' c2 HC.out)
                have hkr := clsN_range c2
                obtain ⟨kN, hkN⟩ : ∃ q : Nat, (q : Int) = clsN c2 := ⟨(clsN c2).toNat, by omega⟩
                have HKN : Hid ((kN : Int) = clsN c2) := hkN
                have hcl : ∀ W : World, W.heap[wo.heap.size]? = some (.cells (leftB kept) 63 (0, 0)) → W.cell? ⟨wo.heap.size, kN, none⟩ = some (.bool (taken kept c2)) := fun W hW => by
                  rw [blk_cell hW]
                  unfold leftB taken
                  rcases hkr with e | e | e
                  · have : kN = 1 := by omega
                    subst this; rw [e]; rfl
                  · have : kN = 2 := by omega
                    subst this; rw [e]; rfl
                  · have : kN = 3 := by omega
                    subst this; rw [e]; rfl
                have HCELL := Lib.hid hcl
                have hkb1 : 1 ≤ kN := by omega
                have hkb2 : kN ≤ 3 := by omega
                have HSET : Hid ((leftB kept).setIfInBounds kN (.bool true) = leftB (kept ++ [c2])) := by
                  show _ = _
                  unfold leftB
                  rcases hkr with e | e | e
                  · have : kN = 1 := by omega
                    subst this; simp [e]
                  · have : kN = 2 := by omega
                    subst this; simp [e]
                  · have : kN = 3 := by omega
                    subst this; simp [e]
                rw [← hkN] at HCL
                obtain ⟨tk, htk⟩ : ∃ b, b = taken kept c2 := ⟨_, rfl⟩
                rw [← htk] at hE HCELL
                clear hDr hkr hkN hcl htk
                cases hJ : joinS c' c2 with
                | none =>
                  rw [hJ] at hE HJA
                  rw [joinV_none] at HJA
                  have HE2 : Hid (compM ((l.drop (i + 1)).takeWhile isMk) c [] = compM ((l.drop (j + 1)).takeWhile isMk) c' (kept ++ [c2])) := hE
                  clear hE hJ
                  go_wp2_with (first | (go_at_call 67; refine (HMK2.out _).mono ?_; rintro e w' ⟨rfl, ⟨nq, rfl⟩⟩) | (go_at_call 68; refine (HCL.out _).mono ?_; rintro e w' ⟨rfl, ⟨nk, rfl⟩⟩))
                  refine (HJA.out _).mono ?_
                  rintro e w3 ⟨rfl, hb3⟩
                  have hx3 := (hb3.cell hadb).trans hx2
                  have HLB3 := Aside0.mk ((hb3.block _ (blk_lt HLB.out)).trans HLB.out)
                  have HK3 := Aside0.mk (Kd.R_below (Kd.R_drewN HK.out (nq + nk)) hb3)
                  have HBW3 : Aside0 (Below wo.heap.size wo w3) := ⟨HBW.out.trans ((pw_below_drewN (Below.refl _ _) (nq + nk)).trans (hb3.mono hszx))⟩
                  have hk3 := HCELL.out w3 HLB3.out
                  have hf3 : w3.frozen? ⟨wo.heap.size, kN, none⟩ = false := blk_frozen HLB3.out kN
                  clear HK HLB HBW HMK2 HCL HJA hb3 hx2
                  have hszy := HBW3.out.size
                  obtain ⟨Ak, ck, rfl⟩ := Kd.R_slice HK3.out
                  have hown := Kd.own_of_R HK3.out
                  obtain ⟨i0, hi0, hz0, hz1, hz2⟩ := info_parts info3
                  have hne3 := Kd.R_ne HK3.out HLB3.out (by decide)
                  have hj0 : (0 : Int) ≤ (j : Int) := Int.natCast_nonneg _
                  have hk0 : (0 : Int) ≤ (kN : Int) := Int.natCast_nonneg _
                  have hk4 : (kN : Int) < 4 := by omega
                  have hkl2 : kept.length + 1 ≤ 200001 := by omega
                  have hwo : wo.heap.size < w3.heap.size := blk_lt HLB3.out
                  have hfar : ∀ a : Addr, a.block < w1.heap.size → some a.block ≠ (Value.slice Ak kept.length ck).ownBlock := fun a ha e => by have := Kd.R_base HK3.out _ e.symm; omega
                  have had3 : (ad.add j).block < w3.heap.size := by omega
                  obtain ⟨cv, hcv⟩ : ∃ cv : World → Value, ∀ (w' : World) (v : Value), w'.cell? ⟨wo.heap.size, kN, none⟩ = some v → w'.cell? ⟨wo.heap.size, kN, none⟩ = some (cv w') := ⟨fun w' => (w'.cell? ⟨wo.heap.size, kN, none⟩).getD undef, fun w' v h => by simp [h]⟩
                  have HCV := Lib.hid hcv
                  have hadw : ad.block < w1.heap.size := by have := had1; unfold Addr.add at this; split at this <;> exact this
                  have hadne : (ad.add j).block ≠ wo.heap.size := by omega
                  clear hcv
                  go_wp2_with fail
                  go_region_held3 (fun w' => w'.cell? (ad.add j) = some (.int .i64 c2) ∧ w'.cell? ⟨wo.heap.size, kN, none⟩ = some (cv w') ∧ w'.frozen? ⟨wo.heap.size, kN, none⟩ = false) (first | exact ⟨cl_alloc _ hx3, HCV.out _ _ (cl_alloc _ hk3), fz_alloc _ hf3 hwo⟩ | exact ⟨(hgrow.cell_far _ (by simp; omega) (hfar _ had1)).trans (cl_alloc _ hx3), HCV.out _ _ ((hgrow.cell_far _ (by simp; omega) hne3).trans (cl_alloc _ hk3)), (hgrow.frozen_far _ (by simp; omega) hne3).trans (fz_alloc _ hf3 hwo)⟩ | exact ⟨st_other _ ((hgrow.cell_far _ (by simp; omega) (hfar _ had1)).trans (cl_alloc _ hx3)) hadne, HCV.out _ (.bool true) (st_same _ ((hgrow.cell_far _ (by simp; omega) hne3).trans (cl_alloc _ hk3))), st_frozen _ ((hgrow.frozen_far _ (by simp; omega) hne3).trans (fz_alloc _ hf3 hwo))⟩ | exact ⟨hx3, HCV.out _ _ hk3, hf3⟩ | go_keep) ((refine step_append_lies _ (by rfl) _ _ _ (by rfl) wo.heap.size 3 i0 _ 1 8 Tryd.underlying35 hi0 hz0 hz1 hz2 rfl (by omega) (.slice Ak kept.length ck) kept.length (encs (Value.int .i64) kept) (by rfl) ((hown.alloc _).drew) ⟨w3.heap.size, 0, none⟩ 1 1 [.int .i64 c2] (by rfl) (by rfl) (World.news_of_block (cs := #[.int .i64 c2]) (t := 3) (fr := (0, 0)) (heap_alloc_new w3 _)) (by simp [Value.oneCell']) (by omega) (by unfold maxLen; omega) (by omega) (by simp; omega) (w3.heap.size + 1) (by simp) ?_; intro gg cap w5 hown1 hgrow hat hlt))
                  have HLB5 : w5.heap[wo.heap.size]? = some (.cells (leftB kept) 63 (0, 0)) := blk_grown (g := wo.heap.size) (w := (w3.alloc (.cells #[.int .i64 c2] 3)).drew) ((Lib.alloc_old w3 _ _ hwo).trans HLB3.out) hgrow hne3
                  have HR5 : Kd.R (Kd.int .i64) 3 w5 wo.heap.size (fun _ => True) (.slice (some ⟨gg, 0, none⟩) (kept.length + 1) cap) (kept ++ [c2]) := Kd.R_of_own (by simpa [encs] using hown1) (fun _ _ => trivial)
                  have HR6 := Aside0.mk (Kd.R_set HR5 HLB5 (by intro q hq; simp [Kd.int, Kd.scalar] at hq; omega) kN (.bool true))
                  have HLB6 := Aside0.mk (blk_put HLB5 kN (.bool true) HSET.out)
                  have HBW6 := Aside0.mk ((((HBW3.out.alloc hszy (.cells #[.int .i64 c2] 3)).drew).grown hgrow (by simp; omega) (fun k hk => Kd.R_base HK3.out k hk)).setCell (p := ⟨wo.heap.size, kN, none⟩) (Nat.le_refl _) (.bool true))
                  clear hgrow hat hlt hown1 HLB5 HR5 HK3 HLB3 HBW3 hown hx3 hk3 hf3 hne3
                  go_wp2_with fail
                  go_roundg (n - (j + 1))
                  case measure => omega
                  case rel => exact ⟨j + 1, c', kept ++ [c2], _, by go_num, rfl, rfl, by omega, by omega, by omega, by simp; omega, HR6, HBW6, HLB6, HC, HE2, HD2⟩
                | some x =>
                  rw [hJ] at hE HJA
                  rw [joinV_some] at HJA
                  cases tk with
                  | false =>
                    have HE2 : Hid (compM ((l.drop (i + 1)).takeWhile isMk) c [] = compM ((l.drop (j + 1)).takeWhile isMk) x kept) := hE.trans (if_neg Bool.false_ne_true)
                    have hxx : Hid (hasS x = true) := join_has hJ
                    clear hE hJ
                    go_wp2_with (first | (go_at_call 67; refine (HMK2.out _).mono ?_; rintro e w' ⟨rfl, ⟨nq, rfl⟩⟩) | (go_at_call 68; refine (HCL.out _).mono ?_; rintro e w' ⟨rfl, ⟨nk, rfl⟩⟩))
                    refine (HJA.out _).mono ?_
                    rintro e w3 ⟨rfl, hb3⟩
                    have HLB3 := Aside0.mk ((hb3.block _ (blk_lt HLB.out)).trans HLB.out)
                    have HK3 := Aside0.mk (Kd.R_below (Kd.R_drewN HK.out (nq + nk)) hb3)
                    have HBW3 : Aside0 (Below wo.heap.size wo w3) := ⟨HBW.out.trans ((pw_below_drewN (Below.refl _ _) (nq + nk)).trans (hb3.mono hszx))⟩
                    have hk3 := HCELL.out w3 HLB3.out
                    clear HK HLB HBW HMK2 HCL HJA hb3 hx2
                    go_wp2_with fail
                    go_roundg (n - (j + 1))
                    case measure => omega
                    case rel => exact ⟨j + 1, x, kept, vk, by go_num, rfl, rfl, by omega, by omega, by omega, by omega, HK3, HBW3, HLB3, hxx, HE2, HD2⟩
                  | true =>
                    have HE2 : Hid (compM ((l.drop (i + 1)).takeWhile isMk) c [] = compM ((l.drop (j + 1)).takeWhile isMk) c' (kept ++ [c2])) := hE.trans (if_pos rfl)
                    clear hE hJ
                    go_wp2_with (first | (go_at_call 67; refine (HMK2.out _).mono ?_; rintro e w' ⟨rfl, ⟨nq, rfl⟩⟩) | (go_at_call 68; refine (HCL.out _).mono ?_; rintro e w' ⟨rfl, ⟨nk, rfl⟩⟩))
                    refine (HJA.out _).mono ?_
                    rintro e w3 ⟨rfl, hb3⟩
                    have hx3 := (hb3.cell hadb).trans hx2
                    have HLB3 := Aside0.mk ((hb3.block _ (blk_lt HLB.out)).trans HLB.out)
                    have HK3 := Aside0.mk (Kd.R_below (Kd.R_drewN HK.out (nq + nk)) hb3)
                    have HBW3 : Aside0 (Below wo.heap.size wo w3) := ⟨HBW.out.trans ((pw_below_drewN (Below.refl _ _) (nq + nk)).trans (hb3.mono hszx))⟩
                    have hk3 := HCELL.out w3 HLB3.out
                    have hf3 : w3.frozen? ⟨wo.heap.size, kN, none⟩ = false := blk_frozen HLB3.out kN
                    clear HK HLB HBW HMK2 HCL HJA hb3 hx2
                    have hszy := HBW3.out.size
                    obtain ⟨Ak, ck, rfl⟩ := Kd.R_slice HK3.out
                    have hown := Kd.own_of_R HK3.out
                    obtain ⟨i0, hi0, hz0, hz1, hz2⟩ := info_parts info3
                    have hne3 := Kd.R_ne HK3.out HLB3.out (by decide)
                    have hj0 : (0 : Int) ≤ (j : Int) := Int.natCast_nonneg _
                    have hk0 : (0 : Int) ≤ (kN : Int) := Int.natCast_nonneg _
                    have hk4 : (kN : Int) < 4 := by omega
                    have hkl2 : kept.length + 1 ≤ 200001 := by omega
                    have hwo : wo.heap.size < w3.heap.size := blk_lt HLB3.out
                    have hfar : ∀ a : Addr, a.block < w1.heap.size → some a.block ≠ (Value.slice Ak kept.length ck).ownBlock := fun a ha e => by have := Kd.R_base HK3.out _ e.symm; omega
                    have had3 : (ad.add j).block < w3.heap.size := by omega
                    obtain ⟨cv, hcv⟩ : ∃ cv : World → Value, ∀ (w' : World) (v : Value), w'.cell? ⟨wo.heap.size, kN, none⟩ = some v → w'.cell? ⟨wo.heap.size, kN, none⟩ = some (cv w') := ⟨fun w' => (w'.cell? ⟨wo.heap.size, kN, none⟩).getD undef, fun w' v h => by simp [h]⟩
                    have HCV := Lib.hid hcv
                    have hadw : ad.block < w1.heap.size := by have := had1; unfold Addr.add at this; split at this <;> exact this
                    have hadne : (ad.add j).block ≠ wo.heap.size := by omega
                    clear hcv
                    go_wp2_with fail
                    go_region_held3 (fun w' => w'.cell? (ad.add j) = some (.int .i64 c2) ∧ w'.cell? ⟨wo.heap.size, kN, none⟩ = some (cv w') ∧ w'.frozen? ⟨wo.heap.size, kN, none⟩ = false) (first | exact ⟨cl_alloc _ hx3, HCV.out _ _ (cl_alloc _ hk3), fz_alloc _ hf3 hwo⟩ | exact ⟨(hgrow.cell_far _ (by simp; omega) (hfar _ had1)).trans (cl_alloc _ hx3), HCV.out _ _ ((hgrow.cell_far _ (by simp; omega) hne3).trans (cl_alloc _ hk3)), (hgrow.frozen_far _ (by simp; omega) hne3).trans (fz_alloc _ hf3 hwo)⟩ | exact ⟨st_other _ ((hgrow.cell_far _ (by simp; omega) (hfar _ had1)).trans (cl_alloc _ hx3)) hadne, HCV.out _ (.bool true) (st_same _ ((hgrow.cell_far _ (by simp; omega) hne3).trans (cl_alloc _ hk3))), st_frozen _ ((hgrow.frozen_far _ (by simp; omega) hne3).trans (fz_alloc _ hf3 hwo))⟩ | exact ⟨hx3, HCV.out _ _ hk3, hf3⟩ | go_keep) ((refine step_append_lies _ (by rfl) _ _ _ (by rfl) wo.heap.size 3 i0 _ 1 8 Tryd.underlying35 hi0 hz0 hz1 hz2 rfl (by omega) (.slice Ak kept.length ck) kept.length (encs (Value.int .i64) kept) (by rfl) ((hown.alloc _).drew) ⟨w3.heap.size, 0, none⟩ 1 1 [.int .i64 c2] (by rfl) (by rfl) (World.news_of_block (cs := #[.int .i64 c2]) (t := 3) (fr := (0, 0)) (heap_alloc_new w3 _)) (by simp [Value.oneCell']) (by omega) (by unfold maxLen; omega) (by omega) (by simp; omega) (w3.heap.size + 1) (by simp) ?_; intro gg cap w5 hown1 hgrow hat hlt))
                    have HLB5 : w5.heap[wo.heap.size]? = some (.cells (leftB kept) 63 (0, 0)) := blk_grown (g := wo.heap.size) (w := (w3.alloc (.cells #[.int .i64 c2] 3)).drew) ((Lib.alloc_old w3 _ _ hwo).trans HLB3.out) hgrow hne3
                    have HR5 : Kd.R (Kd.int .i64) 3 w5 wo.heap.size (fun _ => True) (.slice (some ⟨gg, 0, none⟩) (kept.length + 1) cap) (kept ++ [c2]) := Kd.R_of_own (by simpa [encs] using hown1) (fun _ _ => trivial)
                    have HR6 := Aside0.mk (Kd.R_set HR5 HLB5 (by intro q hq; simp [Kd.int, Kd.scalar] at hq; omega) kN (.bool true))
                    have HLB6 := Aside0.mk (blk_put HLB5 kN (.bool true) HSET.out)
                    have HBW6 := Aside0.mk ((((HBW3.out.alloc hszy (.cells #[.int .i64 c2] 3)).drew).grown hgrow (by simp; omega) (fun k hk => Kd.R_base HK3.out k hk)).setCell (p := ⟨wo.heap.size, kN, none⟩) (Nat.le_refl _) (.bool true))
                    clear hgrow hat hlt hown1 HLB5 HR5 HK3 HLB3 HBW3 hown hx3 hk3 hf3 hne3
                    go_wp2_with fail
                    go_roundg (n - (j + 1))
                    case measure => omega
                    case rel => exact ⟨j + 1, c', kept ++ [c2], _, by go_num, rfl, rfl, by omega, by omega, by omega, by simp; omega, HR6, HBW6, HLB6, HC, HE2, HD2⟩
            · have hjz : ¬ (j : Int) < (n : Int) := by omega
              have hjd : l.drop j = [] := List.drop_of_length_le (by have := HN.out; omega)
              have HE2 : Hid (compM ((l.drop (i + 1)).takeWhile isMk) c [] = (c', kept)) := by have := HE.out; rw [hjd] at this; exact this
              have HD2 : Hid ((l.drop (i + 1)).dropWhile isMk = l.drop j) := by have := HDr.out; rw [hjd] at this ⊢; exact this
              clear HE HDr hjd
              go_wp2_with fail
              go_meet
              exact ⟨j, c', kept, vk, rfl, rfl, rfl, hij, hjn, hkl, HK, HBW, HE2, HD2⟩
        case rest =>
          clear HBW HLB
          obtain ⟨j, c', kept, vk, rfl, rfl, rfl, hij, hjn, hkl, HK, HBW, HE, HDr⟩ := hcut
          have HT3 : Hid ((out ++ [c'] ++ kept) ++ compF f (l.drop j) = T) := by
            have := HT2.out
            rw [HE.out, HDr.out] at this
            show _ = _
            rw [← this]
            simp
          clear HT2 HE HDr
          have hszx := HBW.out.size
          have HO2 := Aside0.mk (Kd.R_below HO.out HBW.out)
          have HB2 := Aside0.mk (below_step HB.out HBW.out)
          obtain ⟨Ak, ck, rfl⟩ := Kd.R_slice HK.out
          have HKB := Aside0.mk (Kd.R_mono (ok' := fun k => wo.heap.size ≤ k) (Kd.R_bound HK.out) (fun _ hk => hk.2.1))
          have HVB : Hid (∀ k, vo.ownBlock = some k → k < wo.heap.size) := fun k hk => Kd.R_lt HO.out k hk
          have hsz2 := HB2.out.size
          clear HO HB HK HBW
          go_wp2_with (first | ((with_reducible refine gate_dst (N := 81) rfl ?_); refine Kd.R_append_row (Value.int .i64) 0 (w0 := w1) w1.heap.size rfl (.tmp 78) (.tmp 80) 35 3 (.int .i64 0) 8 rfl Tryd.underlying35 info3 rfl (by decide) vo out [c'] (some ⟨wc.heap.size, 0, none⟩) 1 1 (fun _ => True) rfl rfl (fun _ _ => trivial) (Kd.R_alloc HO2.out _) (Kd.R_reads' (R_lits wc wc.heap.size w1.heap.size [c'] rfl hsz2 (by simp))).2.2 (below_alloc HB2.out _) (by simp; omega) (by omega) ?_; intro v1 w3 hr3 hb3 hg3 hat3; clear hat3; (try dsimp only [Act.put]); (try simp only [List.set_toArray, List.setIfInBounds_toArray, List.set_cons_succ, List.set_cons_zero])) | ((with_reducible refine gate_dst (N := 83) rfl ?_); refine Kd.R_append_row (Value.int .i64) 0 (w0 := w1) w1.heap.size rfl (.tmp 81) (.tmp 82) 35 3 (.int .i64 0) 8 rfl Tryd.underlying35 info3 rfl (by decide) v1 (out ++ [c']) kept Ak kept.length ck (fun _ => True) rfl rfl (fun _ _ => trivial) hr3 ?kc hb3 hb3.size (by simp; omega) ?_; (case kc => exact (Kd.R_reads' (Kd.R_grown (Kd.R_alloc HKB.out _) hg3 (fun k hk e => by have := HVB.out k e.symm; omega))).2.2); intro v2 w4 hr4 hb4 hg4 hat4; clear hg4 hat4; (try dsimp only [Act.put]); (try simp only [List.set_toArray, List.setIfInBounds_toArray, List.set_cons_succ, List.set_cons_zero])))
          go_roundg (n - j)
          case measure => omega
          case rel => exact ⟨j, out ++ [c'] ++ kept, v2, f, by go_num, rfl, by omega, by omega, by omega, by simp; omega, ⟨hr4⟩, ⟨hb4⟩, HT3⟩
    · have hltz : ¬ (i : Int) < (n : Int) := by omega
      have hfin : out = T := by have := HT.out; rw [List.drop_of_length_le (by have := HN.out; omega), compF_nil, List.append_nil] at this; exact this
      subst hfin
      obtain ⟨Ao, co, rfl⟩ := Kd.R_slice HO.out
      have HF := Lib.hid (HX.out Ao co wo (Kd.R_reads' HO.out).2.2 (Kd.R_reads' HO.out).2.1)
      go_wp2_with fail
      refine HF.out.mono ?_
      rintro e w3 ⟨rfl, hb3⟩
      have HB3 := Lib.hid (below_step (below_step HB1.out HB.out) hb3)
      clear hb3
      go_wp2_with fail
      go_ret
      exact ⟨rfl, HB3.out⟩
def normal_Compose.f (a0 : ByteArray) : Option ByteArray := (normal_decomposed.f a0).bind fun b => if ComposeOk b.1 then normal_text.f (compS b.1) else none
theorem normal_Compose.calls (a0 : ByteArray) (r : ByteArray) (w : World) (hG : GT1 w) (h : normal_Compose.f a0 = some r) :
    Calls Tryd.prog 40 #[.string a0] w fun e w' => e = .returned (.string r) ∧ Below w.heap.size w w' := by
  unfold normal_Compose.f at h
  obtain ⟨⟨l, okb⟩, h1, h2⟩ := Option.bind_eq_some_iff.1 h
  simp only at h2
  split at h2
  · rename_i ho
    exact compose_walk a0 w hG l okb h1 ho r h2
  · exact absurd h2 (by simp)
end Go.Proofs.YthcpdhniakpbaaaDoor.X
end

section
namespace Go.Proofs.YthcpdhniakpbaaaDoor.X
open Go.RowKit Go.Sort Go.Lib
set_option linter.unusedVariables false
set_option linter.unusedSimpArgs false
def NoHead (l : List Int) : Prop := ∀ c r, l = c :: r → isMk c = false
theorem NoHead.nil : NoHead [] := fun _ _ h => by cases h
theorem NoHead.cons {c : Int} {r : List Int} (h : isMk c = false) : NoHead (c :: r) := fun _ _ e => by injection e with e _; rw [← e]; exact h
theorem NoHead.take {l : List Int} (h : NoHead l) : l.takeWhile isMk = [] := by
  cases l with
  | nil => rfl
  | cons c r => rw [List.takeWhile_cons, h c r rfl]; rfl
theorem NoHead.drop {l : List Int} (h : NoHead l) : l.dropWhile isMk = l := by
  cases l with
  | nil => rfl
  | cons c r => rw [List.dropWhile_cons, h c r rfl]; rfl
theorem drop_noHead : ∀ l : List Int, NoHead (l.dropWhile isMk)
  | [] => NoHead.nil
  | c :: r => by
    rw [List.dropWhile_cons]
    cases h : isMk c with
    | true => simpa using drop_noHead r
    | false => simpa [h] using NoHead.cons (r := r) h
theorem take_marks (l : List Int) : ∀ x ∈ l.takeWhile isMk, isMk x = true := by
  intro x hx
  induction l with
  | nil => simp at hx
  | cons c r ih =>
    rw [List.takeWhile_cons] at hx
    split at hx
    · rename_i h
      rcases List.mem_cons.1 hx with rfl | hx
      · exact h
      · exact ih hx
    · simp at hx
theorem runF_more : ∀ (f : Nat) (l : List Int), l.length ≤ f → runF f l = runF l.length l
  | f, [], h => by rw [runF_nil, runF_nil]
  | 0, c :: r, h => by simp at h
  | f + 1, c :: r, h => by
    rw [List.length_cons, runF, runF]
    have hl : ((c :: r).dropWhile isMk).length ≤ r.length + 1 := by have := takeDrop_len (c :: r); simp at this ⊢; omega
    congr 1
    cases hd : (c :: r).dropWhile isMk with
    | nil => rfl
    | cons x y =>
      rw [hd] at hl
      simp only
      rw [runF_more f y (by simp at hl h; omega), runF_more r.length y (by simp at hl; omega)]
theorem runS_eq (l : List Int) : runS l = sortS (l.takeWhile isMk) ++ (match l.dropWhile isMk with | [] => [] | c :: r => c :: runS r) := by
  unfold runS
  rw [← runF_more (l.length + 1) l (by omega), runF]
  have hl := takeDrop_len l
  congr 1
  cases hd : l.dropWhile isMk with
  | nil => rfl
  | cons x y =>
    rw [hd] at hl
    simp only
    rw [runF_more l.length y (by simp at hl; omega)]
theorem runS_nil : runS [] = [] := rfl
theorem runS_cons {c : Int} (h : isMk c = false) (r : List Int) : runS (c :: r) = c :: runS r := by
  rw [runS_eq, List.takeWhile_cons, List.dropWhile_cons, h]
  rfl
theorem runS_marks {M X : List Int} (hM : ∀ x ∈ M, isMk x = true) (hX : NoHead X) : runS (M ++ X) = sortS M ++ runS X := by
  rw [runS_eq, runS_eq X, List.takeWhile_append_of_pos hM, List.dropWhile_append_of_pos hM, hX.take, hX.drop]
  simp [sortS_nil]
theorem runS_append : ∀ (n : Nat) (A B : List Int), A.length ≤ n → NoHead B → runS (A ++ B) = runS A ++ runS B
  | 0, A, B, h, hB => by
    have : A = [] := List.length_eq_zero_iff.1 (by omega)
    subst this
    rw [runS_nil]; rfl
  | n + 1, A, B, h, hB => by
    have e : A = A.takeWhile isMk ++ A.dropWhile isMk := (List.takeWhile_append_dropWhile).symm
    have hl := takeDrop_len A
    cases hd : A.dropWhile isMk with
    | nil =>
      rw [hd, List.append_nil] at e
      have hm : ∀ x ∈ A, isMk x = true := fun x hx => take_marks A x (by rw [← e]; exact hx)
      have h2 := runS_marks hm NoHead.nil
      rw [List.append_nil, runS_nil, List.append_nil] at h2
      rw [runS_marks hm hB, h2]
    | cons c r =>
      have hc : isMk c = false := drop_noHead A c r hd
      rw [hd] at e hl
      have hm := take_marks A
      generalize A.takeWhile isMk = M at e hl hm
      subst e
      rw [List.append_assoc, List.cons_append, runS_marks hm (NoHead.cons hc), runS_marks hm (NoHead.cons hc), runS_cons hc, runS_cons hc, runS_append n r B (by simp at hl h; omega) hB]
      simp
theorem runS_length : ∀ (n : Nat) (l : List Int), l.length ≤ n → (runS l).length = l.length
  | 0, l, h => by
    have : l = [] := List.length_eq_zero_iff.1 (by omega)
    subst this; rfl
  | n + 1, l, h => by
    have hl := takeDrop_len l
    rw [runS_eq, List.length_append, sortS_length]
    cases hd : l.dropWhile isMk with
    | nil => rw [hd] at hl; simpa using hl
    | cons c r =>
      rw [hd] at hl
      simp only [List.length_cons] at hl ⊢
      rw [runS_length n r (by omega)]
      omega
theorem runS_mem : ∀ (n : Nat) (l : List Int), l.length ≤ n → ∀ x, x ∈ runS l ↔ x ∈ l
  | 0, l, h, x => by
    have : l = [] := List.length_eq_zero_iff.1 (by omega)
    subst this; rfl
  | n + 1, l, h, x => by
    have hl := takeDrop_len l
    have e : x ∈ l ↔ x ∈ l.takeWhile isMk ∨ x ∈ l.dropWhile isMk := by rw [← List.mem_append, List.takeWhile_append_dropWhile]
    rw [runS_eq, List.mem_append, sortS_mem, e]
    cases hd : l.dropWhile isMk with
    | nil => rfl
    | cons c r =>
      rw [hd] at hl
      simp only [List.mem_cons, List.length_cons] at hl ⊢
      rw [runS_mem n r (by omega)]
def nrowsB : Bool := nrows.all fun r => (r.b.all fun x => splitS x == [x] && !isMk x) && splitS r.mark == [r.mark] && isMk r.mark && (r.l.all fun x => !isMk x && nrows.all fun q => !q.b.contains x)
  && ((List.range r.l.length).all fun i => splitS (r.l.getD i 0) == [r.b.getD i 0, r.mark] && joinS (r.b.getD i 0) r.mark == some (r.l.getD i 0) && plc r.l (r.l.getD i 0) == i && plc r.b (r.b.getD i 0) == i)
theorem nrowsB_true : nrowsB = true := by decide +kernel
structure RowFacts (r : NRow) : Prop where
  base : ∀ x ∈ r.b, splitS x = [x] ∧ isMk x = false
  mark : splitS r.mark = [r.mark] ∧ isMk r.mark = true
  letter : ∀ x ∈ r.l, isMk x = false ∧ ∀ q ∈ nrows, x ∉ q.b
  pair : ∀ i, i < r.l.length → splitS (r.l.getD i 0) = [r.b.getD i 0, r.mark] ∧ joinS (r.b.getD i 0) r.mark = some (r.l.getD i 0) ∧ plc r.l (r.l.getD i 0) = i ∧ plc r.b (r.b.getD i 0) = i
theorem row_facts {r : NRow} (h : r ∈ nrows) : RowFacts r := by
  have h0 := List.all_eq_true.1 nrowsB_true r h
  simp only [Bool.and_eq_true, List.all_eq_true, beq_iff_eq, Bool.not_eq_true', List.mem_range] at h0
  obtain ⟨⟨⟨⟨h1, h2⟩, h3⟩, h4⟩, h5⟩ := h0
  exact ⟨fun x hx => h1 x hx, ⟨h2, h3⟩, fun x hx => ⟨(h4 x hx).1, fun q hq hm => by have := (h4 x hx).2 q hq; simp at this; exact this hm⟩, fun i hi => by have := h5 i hi; exact ⟨this.1.1.1, this.1.1.2, this.1.2, this.2⟩⟩
theorem isMk_range {c : Int} (h : isMk c = true) : 768 ≤ c ∧ c ≤ 808 := by
  have h2 : (classS c).2 = 2 := by unfold isMk at h; simpa using h
  unfold classS classN at h2
  have hn : narrow c = c ∨ (65281 ≤ c ∧ c ≤ 65374 ∧ narrow c = c - 65248) := by unfold narrow; split <;> omega
  split at h2
  · simp at h2
  · split at h2
    · simp at h2
    · split at h2
      · simp at h2
      · split at h2
        · simp at h2
        · split at h2
          · rename_i hm
            unfold markS at hm
            have hm := of_decide_eq_true hm
            omega
          · split at h2 <;> simp at h2
end Go.Proofs.YthcpdhniakpbaaaDoor.X
end

section
namespace Go.Proofs.YthcpdhniakpbaaaDoor.X
open Go.RowKit Go.Proofs.YthcpdhniakpbaaaDoorW.PrintWords Go.Proofs.YthcpdhniakpbaaaDoorW.PrintLast Go.Proofs.YthcpdhniakpbaaaDoorW.PrintMore
attribute [local go_sem] max2_int min2_int max_two min_two max_three min_three max_four min_four
set_option linter.unusedVariables false
set_option linter.unusedSimpArgs false
def slices_Equal_int_int.l0 : Nat → List Int → List Int → Int → Int → Option (Bool)
  | 0, _, _, _, _ => none
  | k + 1, x0, x1, x12, x13 => if x13 < x12 then (if 0 ≤ x13 then (if x13 < (x0.length : Int) then (if x13 < (x1.length : Int) then (if (rd x0 x13) = (rd x1 x13) then (slices_Equal_int_int.l0 k x0 x1 x12 (wrap64 (x13 + 1))) else (some false)) else (none)) else (none)) else (none)) else (some true)
def slices_Equal_int_int.f (k : Nat) (l0 : List Int) (l1 : List Int) : Option (Bool) := if (l0.length : Int) = (l1.length : Int) then (slices_Equal_int_int.l0 k l0 l1 (l0.length : Int) 0) else (some false)
set_option maxHeartbeats 8000000 in
set_option maxRecDepth 100000 in
theorem slices_Equal_int_int.calls (k : Nat) (A0 : Option Addr) (c0 : Nat) (l0 : List Int) (A1 : Option Addr) (c1 : Nat) (l1 : List Int) (r : Bool) (w : World) (hr0 : Kd.C (Kd.int .i64) w A0 l0.length l0) (hc0 : l0.length ≤ c0) (hr1 : Kd.C (Kd.int .i64) w A1 l1.length l1) (hc1 : l1.length ≤ c1) (h : slices_Equal_int_int.f k l0 l1 = some r) :
    Calls Tryd.prog 74 #[.slice A0 l0.length c0, .slice A1 l1.length c1] w fun e w' => e = .returned (.bool r) ∧ Drawn0 w w' := by
  have HR0 := Aside0.mk hr0
  have HC0 := Aside0.mk hc0
  clear hr0 hc0
  have HR1 := Aside0.mk hr1
  have HC1 := Aside0.mk hc1
  clear hr1 hc1
  have H : (if (l0.length : Int) = (l1.length : Int) then (slices_Equal_int_int.l0 k l0 l1 (l0.length : Int) 0) else (some false)) = some r := h
  clear h
  by_cases c3 : (l0.length : Int) = (l1.length : Int)
  · rw [if_pos c3] at H
    have c3b0 : ((l0.length : Int) == (l1.length : Int)) = true := beq_iff_eq.mpr c3
    have c3b1 : ((l0.length : Int) != (l1.length : Int)) = false := bne_eq_false_iff_eq.mpr c3
    have c3b2 : (l0.length == l1.length) = true := by first | simpa using c3 | (simp at c3 ⊢; omega)
    clear c3
    have H' := Aside0.mk H
    clear H
    go_enter Tryd.func74, Tryd.ntmps74
    go_wp2
    repeat (go_quiet (fail); try go_wp2)
    go_loopg [13] k (fun kq v13 w' => ∃ (x13_1 : Int), v13 = .int .i64 x13_1 ∧ Aside0 (slices_Equal_int_int.l0 kq l0 l1 (l0.length : Int) x13_1 = some r) ∧ Aside0 (kq ≤ k) ∧ Drawn0 w w')
    case atStart => exact ⟨(0), (by first | rfl | (simp; done) | (simp [*]; done)), H', ⟨Nat.le_refl _⟩, by repeat (first | exact Drawn0.refl _ | apply Drawn0.step)⟩
    case round =>
      clear H'
      try clear c1
      try clear p2
      try clear c3
      try clear c3b0
      try clear c3b1
      try clear c3b2
      obtain ⟨x13_1, rfl, HA, HK1, ⟨m1, rfl⟩⟩ := hrel
      cases gk with
      | zero => exact absurd HA.out (by simp [slices_Equal_int_int.l0])
      | succ k1 =>
        have H := HA.out
        clear HA
        simp only [slices_Equal_int_int.l0] at H
        by_cases c4 : x13_1 < (l0.length : Int)
        · rw [if_pos c4] at H
          have c4b0 : decide (x13_1 < (l0.length : Int)) = true := decide_eq_true c4
          clear c4
          by_cases c5 : 0 ≤ x13_1
          · rw [if_pos c5] at H
            have c5b0 : decide (0 ≤ x13_1) = true := decide_eq_true c5
            clear c5
            by_cases c6 : x13_1 < (l0.length : Int)
            · rw [if_pos c6] at H
              have c6b0 : decide (x13_1 < (l0.length : Int)) = true := decide_eq_true c6
              clear c6
              by_cases c7 : x13_1 < (l1.length : Int)
              · rw [if_pos c7] at H
                have c7b0 : decide (x13_1 < (l1.length : Int)) = true := decide_eq_true c7
                clear c7
                by_cases c8 : (rd l0 x13_1) = (rd l1 x13_1)
                · rw [if_pos c8] at H
                  have c8b0 : ((rd l0 x13_1) == (rd l1 x13_1)) = true := beq_iff_eq.mpr c8
                  have c8b1 : ((rd l0 x13_1) != (rd l1 x13_1)) = false := bne_eq_false_iff_eq.mpr c8
                  clear c8
                  have H' := Aside0.mk H
                  clear H
                  have p213 : 0 ≤ (x13_1 : Int) := of_decide_eq_true (by first | (with_reducible assumption) | assumption)
                  have q213 : x13_1 < (l0.length : Int) := of_decide_eq_true (by first | (with_reducible assumption) | assumption)
                  obtain ⟨ad213, e213, hx213_0⟩ := Kd.at_int HR0.out x13_1 p213 q213
                  cases e213
                  replace p213 := eq_true p213
                  replace q213 := eq_true q213
                  have p214 : 0 ≤ (x13_1 : Int) := of_decide_eq_true (by first | (with_reducible assumption) | assumption)
                  have q214 : x13_1 < (l1.length : Int) := of_decide_eq_true (by first | (with_reducible assumption) | assumption)
                  obtain ⟨ad214, e214, hx214_0⟩ := Kd.at_int HR1.out x13_1 p214 q214
                  cases e214
                  replace p214 := eq_true p214
                  replace q214 := eq_true q214
                  go_wp2
                  repeat (go_quiet (fail); try go_wp2)
                  go_roundg k1
                  case measure => have := HK1.out; omega
                  case rel => exact ⟨(wrap64 (x13_1 + 1)), (by first | rfl | (simp; done) | (simp [*]; done)), H', ⟨by have := HK1.out; omega⟩, by repeat (first | exact Drawn0.refl _ | apply Drawn0.step)⟩
                · rw [if_neg c8] at H
                  have c8b0 : ((rd l0 x13_1) == (rd l1 x13_1)) = false := beq_eq_false_iff_ne.mpr c8
                  have c8b1 : ((rd l0 x13_1) != (rd l1 x13_1)) = true := bne_iff_ne.mpr c8
                  obtain rfl := Option.some.inj H
                  have p213 : 0 ≤ (x13_1 : Int) := of_decide_eq_true (by first | (with_reducible assumption) | assumption)
                  have q213 : x13_1 < (l0.length : Int) := of_decide_eq_true (by first | (with_reducible assumption) | assumption)
                  obtain ⟨ad213, e213, hx213_0⟩ := Kd.at_int HR0.out x13_1 p213 q213
                  cases e213
                  replace p213 := eq_true p213
                  replace q213 := eq_true q213
                  have p214 : 0 ≤ (x13_1 : Int) := of_decide_eq_true (by first | (with_reducible assumption) | assumption)
                  have q214 : x13_1 < (l1.length : Int) := of_decide_eq_true (by first | (with_reducible assumption) | assumption)
                  obtain ⟨ad214, e214, hx214_0⟩ := Kd.at_int HR1.out x13_1 p214 q214
                  cases e214
                  replace p214 := eq_true p214
                  replace q214 := eq_true q214
                  go_wp2
                  repeat (go_quiet (fail); try go_wp2)
                  go_ret
                  exact ⟨by first | rfl | (simp; done) | (simp [*]; done), by repeat (first | exact Drawn0.refl _ | apply Drawn0.step)⟩
              · rw [if_neg c7] at H
                exact absurd H (by simp)
            · rw [if_neg c6] at H
              exact absurd H (by simp)
          · rw [if_neg c5] at H
            exact absurd H (by simp)
        · rw [if_neg c4] at H
          have c4b0 : decide (x13_1 < (l0.length : Int)) = false := decide_eq_false c4
          clear c4
          obtain rfl := Option.some.inj H
          go_wp2
          repeat (go_quiet (fail); try go_wp2)
          go_ret
          exact ⟨by first | rfl | (simp; done) | (simp [*]; done), by repeat (first | exact Drawn0.refl _ | apply Drawn0.step)⟩
  · rw [if_neg c3] at H
    have c3b0 : ((l0.length : Int) == (l1.length : Int)) = false := beq_eq_false_iff_ne.mpr c3
    have c3b1 : ((l0.length : Int) != (l1.length : Int)) = true := bne_iff_ne.mpr c3
    have c3b2 : (l0.length == l1.length) = false := by first | simpa using c3 | (simp at c3 ⊢; omega)
    obtain rfl := Option.some.inj H
    go_enter Tryd.func74, Tryd.ntmps74
    go_wp2
    repeat (go_quiet (fail); try go_wp2)
    go_ret
    exact ⟨by first | rfl | (simp; done) | (simp [*]; done), by repeat (first | exact Drawn0.refl _ | apply Drawn0.step)⟩
end Go.Proofs.YthcpdhniakpbaaaDoor.X
end

section
namespace Go.Proofs.YthcpdhniakpbaaaDoor.X
open Go.RowKit Go.Proofs.YthcpdhniakpbaaaDoorW.PrintWords Go.Proofs.YthcpdhniakpbaaaDoorW.PrintLast Go.Proofs.YthcpdhniakpbaaaDoorW.PrintMore
attribute [local go_sem] max2_int min2_int max_two min_two max_three min_three max_four min_four
set_option linter.unusedVariables false
set_option linter.unusedSimpArgs false
def bookplatelaw05_marks.j0 : Nat → Int → Bool → Option (Int)
  | 0, _, _ => none
  | k + 1, x0, x5 => if x5 = true then (some 1) else (if x0 = 803 then (some 2) else ((bookplateref04_Class.f k x0).bind fun bt371 => (if bt371.2 = 2 then (some 3) else (some 0))))
def bookplatelaw05_marks.f (k : Nat) (a0 : Int) : Option (Int) := if a0 = 807 then (bookplatelaw05_marks.j0 k a0 true) else (bookplatelaw05_marks.j0 k a0 (a0 == 808))
set_option maxHeartbeats 8000000 in
set_option maxRecDepth 100000 in
theorem bookplatelaw05_marks.calls (k : Nat) (a0 : Int) (r : Int) (w : World) (h : bookplatelaw05_marks.f k a0 = some r) :
    Calls Tryd.prog 51 #[.int .i64 a0] w fun e w' => e = .returned (.int .i64 r) ∧ Drawn0 w w' := by
  have H : (if a0 = 807 then (bookplatelaw05_marks.j0 k a0 true) else (bookplatelaw05_marks.j0 k a0 (a0 == 808))) = some r := h
  clear h
  have HC2 := Aside0.mk H
  clear H
  go_enter Tryd.func51, Tryd.ntmps51
  go_upto_region 1 with (fail)
  go_cut [5] (fun v5 wc => ∃ (kq : Nat) (x5_1 : Bool), v5 = .bool x5_1 ∧ Aside0 (bookplatelaw05_marks.j0 kq a0 x5_1 = some r) ∧ Aside0 (kq ≤ k) ∧ Drawn0 w wc)
  case first =>
    have H := HC2.out
    clear HC2
    by_cases c3 : a0 = 807
    · rw [if_pos c3] at H
      have c3b0 : (a0 == 807) = true := beq_iff_eq.mpr c3
      have c3b1 : (a0 != 807) = false := bne_eq_false_iff_eq.mpr c3
      clear c3
      (first | rw [c3b0] | (simp only [i64_w, i32_w]; rw [c3b0]) | skip)
      have H' := Aside0.mk H
      clear H
      go_wp2
      go_meet
      case rel => exact ⟨_, (true), (by first | rfl | (simp; done) | (simp [*]; done)), H', ⟨by first | omega | exact Nat.le_refl _⟩, by repeat (first | exact Drawn0.refl _ | apply Drawn0.step)⟩
    · rw [if_neg c3] at H
      have c3b0 : (a0 == 807) = false := beq_eq_false_iff_ne.mpr c3
      have c3b1 : (a0 != 807) = true := bne_iff_ne.mpr c3
      (first | rw [c3b0] | (simp only [i64_w, i32_w]; rw [c3b0]) | skip)
      have H' := Aside0.mk H
      clear H
      go_wp2
      go_meet
      case rel => exact ⟨_, ((a0 == 808)), (by first | rfl | (simp; done) | (simp [*]; done)), H', ⟨by first | omega | exact Nat.le_refl _⟩, by repeat (first | exact Drawn0.refl _ | apply Drawn0.step)⟩
  case rest =>
    clear HC2
    try clear p2
    try clear c3
    try clear c3b0
    try clear c3b1
    obtain ⟨kq, x5_1, rfl, HA, HJ1, ⟨mc1, rfl⟩⟩ := hcut
    cases kq with
    | zero => exact absurd HA.out (by simp [bookplatelaw05_marks.j0])
    | succ kj1 =>
      have H := HA.out
      clear HA
      simp only [bookplatelaw05_marks.j0] at H
      by_cases c4 : x5_1 = true
      · subst c4
        have H1 : (some 1) = some r := by rw [if_pos rfl] at H; exact H
        clear H
        have H := H1
        clear H1
        obtain rfl := Option.some.inj H
        go_wp2
        go_ret
        exact ⟨by first | rfl | (simp; done) | (simp [*]; done), by repeat (first | exact Drawn0.refl _ | apply Drawn0.step)⟩
      · replace c4 := Bool.eq_false_iff.mpr c4
        subst c4
        have H1 : (if a0 = 803 then (some 2) else ((bookplateref04_Class.f kj1 a0).bind fun bt371 => (if bt371.2 = 2 then (some 3) else (some 0)))) = some r := by rw [if_neg (show ¬ (false = true) by decide)] at H; exact H
        clear H
        have H := H1
        clear H1
        by_cases c5 : a0 = 803
        · rw [if_pos c5] at H
          have c5b0 : (a0 == 803) = true := beq_iff_eq.mpr c5
          have c5b1 : (a0 != 803) = false := bne_eq_false_iff_eq.mpr c5
          clear c5
          obtain rfl := Option.some.inj H
          go_wp2
          go_ret
          exact ⟨by first | rfl | (simp; done) | (simp [*]; done), by repeat (first | exact Drawn0.refl _ | apply Drawn0.step)⟩
        · rw [if_neg c5] at H
          have c5b0 : (a0 == 803) = false := beq_eq_false_iff_ne.mpr c5
          have c5b1 : (a0 != 803) = true := bne_iff_ne.mpr c5
          replace H := Option.bind_eq_some_iff.mp H
          obtain ⟨⟨t371, t372⟩, A60, H⟩ := H
          replace H : (if t372 = 2 then (some 3) else (some 0)) = some r := H
          have A6 := Aside0.mk A60
          clear A60
          by_cases c7 : t372 = 2
          · rw [if_pos c7] at H
            have c7b0 : (t372 == 2) = true := beq_iff_eq.mpr c7
            have c7b1 : (t372 != 2) = false := bne_eq_false_iff_eq.mpr c7
            clear c7
            obtain rfl := Option.some.inj H
            go_wp2_with (first | ((with_reducible refine gate_callee (f := 63) rfl ?_); refine goesL_ (some 17) rfl rfl Tryd.func63 (by kernel_rfl) rfl #[.int .i64 a0] rfl (by (try simp only [List.map_toArray, List.map_cons, List.map_nil]); first | done | rfl | (simp only [List.length_drop, List.length_take]; rfl)) ?_; (with_reducible refine (bookplateref04_Class.calls kj1 a0 t371 t372 _ A6.out).mono ?_); rintro e w' ⟨rfl, ⟨nd, rfl⟩⟩; refine ⟨_, rfl, ?_⟩))
            go_ret
            exact ⟨by first | rfl | (simp; done) | (simp [*]; done), by repeat (first | exact Drawn0.refl _ | apply Drawn0.step)⟩
          · rw [if_neg c7] at H
            have c7b0 : (t372 == 2) = false := beq_eq_false_iff_ne.mpr c7
            have c7b1 : (t372 != 2) = true := bne_iff_ne.mpr c7
            obtain rfl := Option.some.inj H
            go_wp2_with (first | ((with_reducible refine gate_callee (f := 63) rfl ?_); refine goesL_ (some 17) rfl rfl Tryd.func63 (by kernel_rfl) rfl #[.int .i64 a0] rfl (by (try simp only [List.map_toArray, List.map_cons, List.map_nil]); first | done | rfl | (simp only [List.length_drop, List.length_take]; rfl)) ?_; (with_reducible refine (bookplateref04_Class.calls kj1 a0 t371 t372 _ A6.out).mono ?_); rintro e w' ⟨rfl, ⟨nd, rfl⟩⟩; refine ⟨_, rfl, ?_⟩))
            go_ret
            exact ⟨by first | rfl | (simp; done) | (simp [*]; done), by repeat (first | exact Drawn0.refl _ | apply Drawn0.step)⟩
end Go.Proofs.YthcpdhniakpbaaaDoor.X
end

section
namespace Go.Proofs.YthcpdhniakpbaaaDoor.X
open Go.RowKit Go.Sort Go.Lib Go.Proofs.YthcpdhniakpbaaaDoorW.PrintWords Go.Proofs.YthcpdhniakpbaaaDoorW.PrintLast Go.Proofs.YthcpdhniakpbaaaDoorW.PrintMore
set_option linter.unusedVariables false
set_option linter.unusedSimpArgs false
def Ev {α : Type} (g : Nat → Option α) (r : α) : Prop := ∃ K, ∀ k, K ≤ k → g k = some r
theorem Ev.const {α : Type} (r : α) : Ev (fun _ => some r) r := ⟨0, fun _ _ => rfl⟩
theorem Ev.of {α : Type} {g : Nat → Option α} {r : α} (h : ∀ k, g k = some r) : Ev g r := ⟨0, fun k _ => h k⟩
theorem Ev.step {α : Type} {g g' : Nat → Option α} {r : α} (h : ∀ k, g (k + 1) = g' k) (e : Ev g' r) : Ev g r := by
  obtain ⟨K, hK⟩ := e
  refine ⟨K + 1, fun k hk => ?_⟩
  obtain ⟨q, rfl⟩ : ∃ q, k = q + 1 := ⟨k - 1, by omega⟩
  rw [h, hK q (by omega)]
theorem Ev.congr {α : Type} {g g' : Nat → Option α} {r : α} (h : ∀ k, g k = g' k) (e : Ev g' r) : Ev g r := by
  obtain ⟨K, hK⟩ := e
  exact ⟨K, fun k hk => by rw [h, hK k hk]⟩
theorem Ev.bind {α β : Type} {g : Nat → Option α} {h : Nat → α → Option β} {a : α} {r : β} (e : Ev g a) (e' : Ev (fun k => h k a) r) : Ev (fun k => (g k).bind (h k)) r := by
  obtain ⟨K, hK⟩ := e
  obtain ⟨L, hL⟩ := e'
  exact ⟨max K L, fun k hk => by show (g k).bind (h k) = _; rw [hK k (by omega)]; exact hL k (by omega)⟩
theorem Ev.get {α : Type} {g : Nat → Option α} {r : α} (e : Ev g r) : ∃ k, g k = some r := by
  obtain ⟨K, hK⟩ := e
  exact ⟨K, hK K (Nat.le_refl _)⟩
def mcl (c : Int) : Int := if isMk c = true then clsN c else 0
theorem mcl_pos {c : Int} : mcl c > 0 ↔ isMk c = true := by
  unfold mcl
  have := clsN_range c
  split
  · rename_i h; simp [h]; omega
  · rename_i h; simp [h]
theorem rd_get {xs : List Int} {j : Nat} (hj : j < xs.length) : rd xs (j : Int) = xs[j] := by unfold rd; simp [hj]
theorem w64n (n : Nat) (h : n < 1000000000000) : wrap64 ((n : Int) + 1) = ((n + 1 : Nat) : Int) := by unfold wrap64; omega
end Go.Proofs.YthcpdhniakpbaaaDoor.X
end

section
namespace Go.Proofs.YthcpdhniakpbaaaDoor.X
open Go.RowKit Go.Sort Go.Lib Go.Proofs.YthcpdhniakpbaaaDoorW.PrintWords Go.Proofs.YthcpdhniakpbaaaDoorW.PrintLast Go.Proofs.YthcpdhniakpbaaaDoorW.PrintMore
set_option linter.unusedVariables false
set_option linter.unusedSimpArgs false
structure Tail (A S : List Int) : Prop where
  last : ∀ A' c, A = A' ++ [c] → isMk c = false
  marks : ∀ x ∈ S, isMk x = true
  srt : Srt S
  has : ∀ x ∈ A ++ S, hasS x = true
theorem Tail.mark {A S : List Int} {x : Int} (h : Tail A S) (hm : isMk x = true) : Tail A (sortS (S ++ [x])) where
  last := h.last
  marks y hy := by
    rcases List.mem_append.1 (sortS_mem.1 hy) with hy | hy
    · exact h.marks y hy
    · obtain rfl := List.mem_singleton.1 hy; exact hm
  srt := sortS_srt _
  has y hy := by
    rcases List.mem_append.1 hy with hy | hy
    · exact h.has y (List.mem_append_left _ hy)
    · rcases List.mem_append.1 (sortS_mem.1 hy) with hy | hy
      · exact h.has y (List.mem_append_right _ hy)
      · obtain rfl := List.mem_singleton.1 hy; exact isMk_has hm
theorem Tail.nil : Tail [] [] := ⟨fun A' c e => by simp at e, by simp, by simp [Srt], by simp⟩
end Go.Proofs.YthcpdhniakpbaaaDoor.X
end

section
namespace Go.Proofs.YthcpdhniakpbaaaDoor.X
open Go.RowKit Go.Sort Go.Lib Go.Proofs.YthcpdhniakpbaaaDoorW.PrintWords Go.Proofs.YthcpdhniakpbaaaDoorW.PrintLast Go.Proofs.YthcpdhniakpbaaaDoorW.PrintMore
set_option linter.unusedVariables false
set_option linter.unusedSimpArgs false
def chs (s : ByteArray) : List Int := (decR [] s.data.toList).1
def okS (s : ByteArray) : Bool := (decR [] s.data.toList).2
theorem decD_has {cs : List Int} (h : ∀ c ∈ cs, hasS c = true) : ∀ x ∈ decD cs, hasS x = true := fun x hx => flat_has h x ((runS_mem _ _ (Nat.le_refl _) x).1 hx)
theorem decD_len (cs : List Int) : (decD cs).length ≤ 2 * cs.length := by
  unfold decD
  rw [runS_length _ _ (Nat.le_refl _)]
  exact flat_len cs
theorem chs_has (s : ByteArray) : ∀ c ∈ chs s, hasS c = true := by
  unfold chs decR
  cases hd : decS hasS s.data.toList with
  | none => simp
  | some cs => simpa using fun c hc => ((decS_back hd).2 c hc).2
theorem chs_len (s : ByteArray) : (chs s).length ≤ s.size := by
  unfold chs decR
  cases hd : decS hasS s.data.toList with
  | none => simp
  | some cs =>
    have h1 := (decS_back hd).1
    have h2 := encL_ge cs
    rw [← h1] at h2
    have h3 : s.data.toList.length = s.size := Array.length_toList
    simp
    omega
def bytesOfL (l : List Int) : ByteArray := ⟨(encL l).toArray⟩
def cntM (l : List Int) : Nat := (l.filter isMk).length
theorem cntM_cons (c : Int) (l : List Int) : cntM (c :: l) = (if isMk c = true then 1 else 0) + cntM l := by
  unfold cntM
  rw [List.filter_cons]
  split <;> simp <;> omega
theorem cntM_le (l : List Int) : cntM l ≤ l.length := List.length_filter_le _ _
end Go.Proofs.YthcpdhniakpbaaaDoor.X
end

section
namespace Go.Proofs.YthcpdhniakpbaaaDoor.X
open Go.RowKit Go.Proofs.YthcpdhniakpbaaaDoorW.PrintWords Go.Proofs.YthcpdhniakpbaaaDoorW.PrintLast Go.Proofs.YthcpdhniakpbaaaDoorW.PrintMore
attribute [local go_sem] max2_int min2_int max_two min_two max_three min_three max_four min_four
set_option linter.unusedVariables false
set_option linter.unusedSimpArgs false
def normal_Decompose.f (a0 : ByteArray) : Option (ByteArray) := (normal_decomposed.f a0).bind fun bt585 => ((normal_text.f bt585.1).bind fun t589 => (some t589))
set_option maxHeartbeats 8000000 in
set_option maxRecDepth 100000 in
theorem normal_Decompose.calls (a0 : ByteArray) (r : ByteArray) (w : World) (hG : GT1 w) (h : normal_Decompose.f a0 = some r) :
    Calls Tryd.prog 38 #[.string a0] w fun e w' => e = .returned (.string r) ∧ Below w.heap.size w w' := by
  have HG := Aside0.mk hG
  clear hG
  have HB := Aside0.mk (Below.refl w.heap.size w)
  have H : ((normal_decomposed.f a0).bind fun bt585 => ((normal_text.f bt585.1).bind fun t589 => (some t589))) = some r := h
  clear h
  replace H := Option.bind_eq_some_iff.mp H
  obtain ⟨⟨t585, t586⟩, A20, H⟩ := H
  replace H : ((normal_text.f t585).bind fun t589 => (some t589)) = some r := H
  have A2 := Aside0.mk A20
  clear A20
  replace H := Option.bind_eq_some_iff.mp H
  obtain ⟨t589, A30, H⟩ := H
  replace H : (some t589) = some r := H
  have A3 := Aside0.mk A30
  clear A30
  obtain rfl := Option.some.inj H
  go_enter Tryd.func38, Tryd.ntmps38
  go_wp2_with (first | ((with_reducible refine gate_callee (f := 64) rfl ?_); refine goesL_ (some 7) rfl rfl Tryd.func64 (by kernel_rfl) rfl #[.string a0] rfl (by (try simp only [List.map_toArray, List.map_cons, List.map_nil]); first | done | rfl | (simp only [List.length_drop, List.length_take]; rfl)) ?_; (with_reducible refine (normal_decomposed.calls a0 t585 t586 _ ?side1 A2.out).mono ?_); (case side1 => exact GT1.below (HG.out) (by repeat (first | (with_reducible first | exact HB.out | apply below_alloc | apply pw_below_drewN | apply below_drew1) | exact HB.out))); rintro e w4 ⟨v587, rfl, ho0, hb⟩; refine ⟨_, rfl, ?_⟩; have n0_ := Aside0.mk (Kd.R_lower ho0 (below_size (by repeat (first | (with_reducible first | exact HB.out | apply below_alloc | apply pw_below_drewN | apply below_drew1) | exact HB.out)))); have n1_ := Aside0.mk (below_step (by repeat (first | (with_reducible first | exact HB.out | apply below_alloc | apply pw_below_drewN | apply below_drew1) | exact HB.out)) hb); clear HB; have HO588 := n0_; have HB := n1_; clear n0_ n1_; (try clear hb); (try clear hb2); (try clear hk); (try clear hi); (try clear ho0); obtain ⟨Ao5, co5, eo5⟩ := Kd.R_slice HO588.out; subst eo5) | ((with_reducible refine gate_callee (f := 65) rfl ?_); refine goesL_ (some 11) rfl rfl Tryd.func65 (by kernel_rfl) rfl #[.slice Ao5 t585.length co5] rfl (by (try simp only [List.map_toArray, List.map_cons, List.map_nil]); first | done | rfl | (simp only [List.length_drop, List.length_take]; rfl)) ?_; (with_reducible refine (normal_text.calls _ _ t585 t589 _ ?side1 ?side2 A3.out).mono ?_); (case side1 => repeat (first | exact (Kd.R_reads' HO588.out).2.2 | (with_reducible refine Kd.C_alloc ?_ _) | (with_reducible refine Kd.C_drewN ?_ _) | (with_reducible refine Kd.C_drew ?_))); (case side2 => exact (Kd.R_reads' HO588.out).2.1); rintro e w6 ⟨rfl, hb⟩; refine ⟨_, rfl, ?_⟩; have n0_ := Aside0.mk (Kd.R_below (by (with_reducible repeat (first | apply Kd.R_alloc | apply Kd.R_drewN | apply Kd.R_drew)); exact HO588.out) hb); have n1_ := Aside0.mk (below_step (by repeat (first | (with_reducible first | exact HB.out | apply below_alloc | apply pw_below_drewN | apply below_drew1) | exact HB.out)) hb); clear HO588; clear HB; have HO588 := n0_; have HB := n1_; clear n0_ n1_; (try clear hb); (try clear hb2); (try clear hk); (try clear hi)))
  go_ret
  exact ⟨by first | rfl | (simp [errW_none, errW_some] <;> rfl) | (simp [*, errW_none, errW_some] <;> rfl), by repeat (first | (with_reducible first | exact HB.out | apply below_alloc | apply pw_below_drewN | apply below_drew1) | exact HB.out)⟩
def normal_Marks.l0 : Nat → Int → List Int → Int → Int → Option (Int)
  | 0, _, _, _, _ => none
  | k + 1, x3, x13, x14, x15 => if x15 < x14 then (if 0 ≤ x15 then (if x15 < (x13.length : Int) then ((normal_mark.f k (rd x13 x15)).bind fun t595 => (if t595 = true then (normal_Marks.l0 k (wrap64 (x3 + 1)) x13 x14 (wrap64 (x15 + 1))) else (normal_Marks.l0 k x3 x13 x14 (wrap64 (x15 + 1))))) else (none)) else (none)) else (some x3)
def normal_Marks.f (k : Nat) (a0 : ByteArray) : Option (Int) := (normal_decomposed.f a0).bind fun bt590 => (normal_Marks.l0 k 0 bt590.1 (bt590.1.length : Int) 0)
set_option maxHeartbeats 8000000 in
set_option maxRecDepth 100000 in
theorem normal_Marks.calls (k : Nat) (a0 : ByteArray) (r : Int) (w : World) (hG : GT1 w) (h : normal_Marks.f k a0 = some r) :
    Calls Tryd.prog 46 #[.string a0] w fun e w' => e = .returned (.int .i64 r) ∧ Below w.heap.size w w' := by
  have HG := Aside0.mk hG
  clear hG
  have HB := Aside0.mk (Below.refl w.heap.size w)
  have H : ((normal_decomposed.f a0).bind fun bt590 => (normal_Marks.l0 k 0 bt590.1 (bt590.1.length : Int) 0)) = some r := h
  clear h
  replace H := Option.bind_eq_some_iff.mp H
  obtain ⟨⟨t590, t591⟩, A20, H⟩ := H
  replace H : (normal_Marks.l0 k 0 t590 (t590.length : Int) 0) = some r := H
  have A2 := Aside0.mk A20
  clear A20
  have H' := Aside0.mk H
  clear H
  go_enter Tryd.func46, Tryd.ntmps46
  go_wp2_with (first | ((with_reducible refine gate_callee (f := 64) rfl ?_); refine goesL_ (some 10) rfl rfl Tryd.func64 (by kernel_rfl) rfl #[.string a0] rfl (by (try simp only [List.map_toArray, List.map_cons, List.map_nil]); first | done | rfl | (simp only [List.length_drop, List.length_take]; rfl)) ?_; (with_reducible refine (normal_decomposed.calls a0 t590 t591 _ ?side1 A2.out).mono ?_); (case side1 => exact GT1.below (HG.out) (by repeat (first | (with_reducible first | exact HB.out | apply below_alloc | apply pw_below_drewN | apply below_drew1) | exact HB.out))); rintro e w3 ⟨v592, rfl, ho0, hb⟩; refine ⟨_, rfl, ?_⟩; have n0_ := Aside0.mk (Kd.R_lower ho0 (below_size (by repeat (first | (with_reducible first | exact HB.out | apply below_alloc | apply pw_below_drewN | apply below_drew1) | exact HB.out)))); have n1_ := Aside0.mk (below_step (by repeat (first | (with_reducible first | exact HB.out | apply below_alloc | apply pw_below_drewN | apply below_drew1) | exact HB.out)) hb); clear HB; have HO593 := n0_; have HB := n1_; clear n0_ n1_; (try clear hb); (try clear hb2); (try clear hk); (try clear hi); (try clear ho0); obtain ⟨Ao4, co4, eo4⟩ := Kd.R_slice HO593.out; subst eo4))
  go_loopg [3, 15] k (fun kq v3 v15 w' => ∃ (x3_1 : Int) (x15_1 : Int), v3 = .int .i64 x3_1 ∧ v15 = .int .i64 x15_1 ∧ Aside0 (normal_Marks.l0 kq x3_1 t590 (t590.length : Int) x15_1 = some r) ∧ Aside0 (kq ≤ k) ∧ Aside0 (Kd.R (Kd.int .i64) 3 w' w.heap.size (fun _ => True) (.slice Ao4 t590.length co4) t590) ∧ Aside0 (Below w.heap.size w w'))
  case atStart => exact ⟨(0), (0), (by first | rfl | (simp; done) | (simp [*]; done)), (by first | rfl | (simp; done) | (simp [*]; done)), H', ⟨Nat.le_refl _⟩, ⟨by (with_reducible repeat (first | apply Kd.R_alloc | apply Kd.R_drewN | apply Kd.R_drew)); exact HO593.out⟩, ⟨by repeat (first | (with_reducible first | exact HB.out | apply below_alloc | apply pw_below_drewN | apply below_drew1) | exact HB.out)⟩⟩
  case round =>
    clear H'
    try clear p2
    try clear c4
    obtain ⟨x3_1, x15_1, rfl, rfl, HA, HK1, HO_13, HB⟩ := hrel
    cases gk with
    | zero => exact absurd HA.out (by simp [normal_Marks.l0])
    | succ k1 =>
      have H := HA.out
      clear HA
      simp only [normal_Marks.l0] at H
      by_cases c5 : x15_1 < (t590.length : Int)
      · rw [if_pos c5] at H
        have c5b0 : decide (x15_1 < (t590.length : Int)) = true := decide_eq_true c5
        clear c5
        by_cases c6 : 0 ≤ x15_1
        · rw [if_pos c6] at H
          have c6b0 : decide (0 ≤ x15_1) = true := decide_eq_true c6
          clear c6
          by_cases c7 : x15_1 < (t590.length : Int)
          · rw [if_pos c7] at H
            have c7b0 : decide (x15_1 < (t590.length : Int)) = true := decide_eq_true c7
            clear c7
            replace H := Option.bind_eq_some_iff.mp H
            obtain ⟨t595, A80, H⟩ := H
            replace H : (if t595 = true then (normal_Marks.l0 k1 (wrap64 (x3_1 + 1)) t590 (t590.length : Int) (wrap64 (x15_1 + 1))) else (normal_Marks.l0 k1 x3_1 t590 (t590.length : Int) (wrap64 (x15_1 + 1)))) = some r := H
            have A8 := Aside0.mk A80
            clear A80
            by_cases c9 : t595 = true
            · subst c9
              have H1 : (normal_Marks.l0 k1 (wrap64 (x3_1 + 1)) t590 (t590.length : Int) (wrap64 (x15_1 + 1))) = some r := by rw [if_pos rfl] at H; exact H
              clear H
              have H := H1
              clear H1
              have H' := Aside0.mk H
              clear H
              have p594 : 0 ≤ (x15_1 : Int) := of_decide_eq_true (by first | (with_reducible assumption) | assumption)
              have q594 : x15_1 < (t590.length : Int) := of_decide_eq_true (by first | (with_reducible assumption) | assumption)
              obtain ⟨ad594, e594, hx594_0⟩ := Kd.at_int (Kd.R_reads' HO_13.out).2.2 x15_1 p594 q594
              cases e594
              replace p594 := eq_true p594
              replace q594 := eq_true q594
              go_wp2_with (first | ((with_reducible refine gate_callee (f := 67) rfl ?_); refine goesL_ (some 20) rfl rfl Tryd.func67 (by kernel_rfl) rfl #[.int .i64 (rd t590 x15_1)] rfl (by (try simp only [List.map_toArray, List.map_cons, List.map_nil]); first | done | rfl | (simp only [List.length_drop, List.length_take]; rfl)) ?_; (with_reducible refine (normal_mark.calls k1 (rd t590 x15_1) true _ A8.out).mono ?_); rintro e w' ⟨rfl, ⟨nd, rfl⟩⟩; refine ⟨_, rfl, ?_⟩))
              go_roundg k1
              case measure => have := HK1.out; omega
              case rel => exact ⟨(wrap64 (x3_1 + 1)), (wrap64 (x15_1 + 1)), (by first | rfl | (simp; done) | (simp [*]; done)), (by first | rfl | (simp; done) | (simp [*]; done)), H', ⟨by have := HK1.out; omega⟩, ⟨by (with_reducible repeat (first | apply Kd.R_alloc | apply Kd.R_drewN | apply Kd.R_drew)); exact HO_13.out⟩, ⟨by repeat (first | (with_reducible first | exact HB.out | apply below_alloc | apply pw_below_drewN | apply below_drew1) | exact HB.out)⟩⟩
            · replace c9 := Bool.eq_false_iff.mpr c9
              subst c9
              have H1 : (normal_Marks.l0 k1 x3_1 t590 (t590.length : Int) (wrap64 (x15_1 + 1))) = some r := by rw [if_neg (show ¬ (false = true) by decide)] at H; exact H
              clear H
              have H := H1
              clear H1
              have H' := Aside0.mk H
              clear H
              have p594 : 0 ≤ (x15_1 : Int) := of_decide_eq_true (by first | (with_reducible assumption) | assumption)
              have q594 : x15_1 < (t590.length : Int) := of_decide_eq_true (by first | (with_reducible assumption) | assumption)
              obtain ⟨ad594, e594, hx594_0⟩ := Kd.at_int (Kd.R_reads' HO_13.out).2.2 x15_1 p594 q594
              cases e594
              replace p594 := eq_true p594
              replace q594 := eq_true q594
              go_wp2_with (first | ((with_reducible refine gate_callee (f := 67) rfl ?_); refine goesL_ (some 20) rfl rfl Tryd.func67 (by kernel_rfl) rfl #[.int .i64 (rd t590 x15_1)] rfl (by (try simp only [List.map_toArray, List.map_cons, List.map_nil]); first | done | rfl | (simp only [List.length_drop, List.length_take]; rfl)) ?_; (with_reducible refine (normal_mark.calls k1 (rd t590 x15_1) false _ A8.out).mono ?_); rintro e w' ⟨rfl, ⟨nd, rfl⟩⟩; refine ⟨_, rfl, ?_⟩))
              go_roundg k1
              case measure => have := HK1.out; omega
              case rel => exact ⟨(x3_1), (wrap64 (x15_1 + 1)), (by first | rfl | (simp; done) | (simp [*]; done)), (by first | rfl | (simp; done) | (simp [*]; done)), H', ⟨by have := HK1.out; omega⟩, ⟨by (with_reducible repeat (first | apply Kd.R_alloc | apply Kd.R_drewN | apply Kd.R_drew)); exact HO_13.out⟩, ⟨by repeat (first | (with_reducible first | exact HB.out | apply below_alloc | apply pw_below_drewN | apply below_drew1) | exact HB.out)⟩⟩
          · rw [if_neg c7] at H
            exact absurd H (by simp)
        · rw [if_neg c6] at H
          exact absurd H (by simp)
      · rw [if_neg c5] at H
        have c5b0 : decide (x15_1 < (t590.length : Int)) = false := decide_eq_false c5
        clear c5
        obtain rfl := Option.some.inj H
        go_wp2
        go_ret
        exact ⟨by first | rfl | (simp [errW_none, errW_some] <;> rfl) | (simp [*, errW_none, errW_some] <;> rfl), by repeat (first | (with_reducible first | exact HB.out | apply below_alloc | apply pw_below_drewN | apply below_drew1) | exact HB.out)⟩
def normal_Equal.f (k : Nat) (a0 : ByteArray) (a1 : ByteArray) : Option (Bool) := (normal_decomposed.f a0).bind fun bt596 => ((normal_decomposed.f a1).bind fun bt600 => (if bt596.2 = true then (if bt600.2 = true then ((slices_Equal_int_int.f k bt596.1 bt600.1).bind fun t604 => (some t604)) else (some false)) else (some false)))
set_option maxHeartbeats 8000000 in
set_option maxRecDepth 100000 in
theorem normal_Equal.calls (k : Nat) (a0 : ByteArray) (a1 : ByteArray) (r : Bool) (w : World) (hG : GT1 w) (h : normal_Equal.f k a0 a1 = some r) :
    Calls Tryd.prog 48 #[.string a0, .string a1] w fun e w' => e = .returned (.bool r) ∧ Below w.heap.size w w' := by
  have HG := Aside0.mk hG
  clear hG
  have HB := Aside0.mk (Below.refl w.heap.size w)
  have H : ((normal_decomposed.f a0).bind fun bt596 => ((normal_decomposed.f a1).bind fun bt600 => (if bt596.2 = true then (if bt600.2 = true then ((slices_Equal_int_int.f k bt596.1 bt600.1).bind fun t604 => (some t604)) else (some false)) else (some false)))) = some r := h
  clear h
  replace H := Option.bind_eq_some_iff.mp H
  obtain ⟨⟨t596, t597⟩, A30, H⟩ := H
  replace H : ((normal_decomposed.f a1).bind fun bt600 => (if t597 = true then (if bt600.2 = true then ((slices_Equal_int_int.f k t596 bt600.1).bind fun t604 => (some t604)) else (some false)) else (some false))) = some r := H
  have A3 := Aside0.mk A30
  clear A30
  replace H := Option.bind_eq_some_iff.mp H
  obtain ⟨⟨t600, t601⟩, A40, H⟩ := H
  replace H : (if t597 = true then (if t601 = true then ((slices_Equal_int_int.f k t596 t600).bind fun t604 => (some t604)) else (some false)) else (some false)) = some r := H
  have A4 := Aside0.mk A40
  clear A40
  by_cases c5 : t597 = true
  · subst c5
    have H1 : (if t601 = true then ((slices_Equal_int_int.f k t596 t600).bind fun t604 => (some t604)) else (some false)) = some r := by rw [if_pos rfl] at H; exact H
    clear H
    have H := H1
    clear H1
    by_cases c6 : t601 = true
    · subst c6
      have H1 : ((slices_Equal_int_int.f k t596 t600).bind fun t604 => (some t604)) = some r := by rw [if_pos rfl] at H; exact H
      clear H
      have H := H1
      clear H1
      replace H := Option.bind_eq_some_iff.mp H
      obtain ⟨t604, A70, H⟩ := H
      replace H : (some t604) = some r := H
      have A7 := Aside0.mk A70
      clear A70
      obtain rfl := Option.some.inj H
      go_enter Tryd.func48, Tryd.ntmps48
      go_wp2_with (first | ((with_reducible refine gate_callee (f := 64) rfl ?_); refine goesL_ (some 11) rfl rfl Tryd.func64 (by kernel_rfl) rfl #[.string a0] rfl (by (try simp only [List.map_toArray, List.map_cons, List.map_nil]); first | done | rfl | (simp only [List.length_drop, List.length_take]; rfl)) ?_; (with_reducible refine (normal_decomposed.calls a0 t596 true _ ?side1 A3.out).mono ?_); (case side1 => exact GT1.below (HG.out) (by repeat (first | (with_reducible first | exact HB.out | apply below_alloc | apply pw_below_drewN | apply below_drew1) | exact HB.out))); rintro e w8 ⟨v598, rfl, ho0, hb⟩; refine ⟨_, rfl, ?_⟩; have n0_ := Aside0.mk (Kd.R_lower ho0 (below_size (by repeat (first | (with_reducible first | exact HB.out | apply below_alloc | apply pw_below_drewN | apply below_drew1) | exact HB.out)))); have n1_ := Aside0.mk (below_step (by repeat (first | (with_reducible first | exact HB.out | apply below_alloc | apply pw_below_drewN | apply below_drew1) | exact HB.out)) hb); clear HB; have HO599 := n0_; have HB := n1_; clear n0_ n1_; (try clear hb); (try clear hb2); (try clear hk); (try clear hi); (try clear ho0)) | ((with_reducible refine gate_callee (f := 64) rfl ?_); refine goesL_ (some 16) rfl rfl Tryd.func64 (by kernel_rfl) rfl #[.string a1] rfl (by (try simp only [List.map_toArray, List.map_cons, List.map_nil]); first | done | rfl | (simp only [List.length_drop, List.length_take]; rfl)) ?_; (with_reducible refine (normal_decomposed.calls a1 t600 true _ ?side1 A4.out).mono ?_); (case side1 => exact GT1.below (HG.out) (by repeat (first | (with_reducible first | exact HB.out | apply below_alloc | apply pw_below_drewN | apply below_drew1) | exact HB.out))); rintro e w9 ⟨v602, rfl, ho0, hb⟩; refine ⟨_, rfl, ?_⟩; have n0_ := Aside0.mk (Kd.R_elder' (by (with_reducible repeat (first | apply Kd.R_alloc | apply Kd.R_drewN | apply Kd.R_drew)); exact HO599.out) (Kd.R_base ho0) hb); have n1_ := Aside0.mk (Kd.R_lower (Kd.R_new' ho0 (Kd.R_lt (by (with_reducible repeat (first | apply Kd.R_alloc | apply Kd.R_drewN | apply Kd.R_drew)); exact HO599.out))) (below_size (by repeat (first | (with_reducible first | exact HB.out | apply below_alloc | apply pw_below_drewN | apply below_drew1) | exact HB.out)))); have n2_ := Aside0.mk (below_step (by repeat (first | (with_reducible first | exact HB.out | apply below_alloc | apply pw_below_drewN | apply below_drew1) | exact HB.out)) hb); clear HO599; clear HB; have HO599 := n0_; have HO603 := n1_; have HB := n2_; clear n0_ n1_ n2_; (try clear hb); (try clear hb2); (try clear hk); (try clear hi); (try clear ho0); obtain ⟨Ao10, co10, eo10⟩ := Kd.R_slice HO599.out; subst eo10; obtain ⟨Ao11, co11, eo11⟩ := Kd.R_slice HO603.out; subst eo11) | (go_at_call 74; (with_reducible refine (slices_Equal_int_int.calls k _ _ t596 _ _ t600 t604 _ ?side1 ?side2 ?side3 ?side4 A7.out).mono ?_); (case side1 => repeat (first | exact (Kd.R_reads' HO599.out).2.2 | (with_reducible refine Kd.C_alloc ?_ _) | (with_reducible refine Kd.C_drewN ?_ _) | (with_reducible refine Kd.C_drew ?_))); (case side2 => exact (Kd.R_reads' HO599.out).2.1); (case side3 => repeat (first | exact (Kd.R_reads' HO603.out).2.2 | (with_reducible refine Kd.C_alloc ?_ _) | (with_reducible refine Kd.C_drewN ?_ _) | (with_reducible refine Kd.C_drew ?_))); (case side4 => exact (Kd.R_reads' HO603.out).2.1); rintro e w' ⟨rfl, ⟨nd, rfl⟩⟩))
      go_ret
      exact ⟨by first | rfl | (simp [errW_none, errW_some] <;> rfl) | (simp [*, errW_none, errW_some] <;> rfl), by repeat (first | (with_reducible first | exact HB.out | apply below_alloc | apply pw_below_drewN | apply below_drew1) | exact HB.out)⟩
    · replace c6 := Bool.eq_false_iff.mpr c6
      subst c6
      have H1 : (some false) = some r := by rw [if_neg (show ¬ (false = true) by decide)] at H; exact H
      clear H
      have H := H1
      clear H1
      obtain rfl := Option.some.inj H
      go_enter Tryd.func48, Tryd.ntmps48
      go_wp2_with (first | ((with_reducible refine gate_callee (f := 64) rfl ?_); refine goesL_ (some 11) rfl rfl Tryd.func64 (by kernel_rfl) rfl #[.string a0] rfl (by (try simp only [List.map_toArray, List.map_cons, List.map_nil]); first | done | rfl | (simp only [List.length_drop, List.length_take]; rfl)) ?_; (with_reducible refine (normal_decomposed.calls a0 t596 true _ ?side1 A3.out).mono ?_); (case side1 => exact GT1.below (HG.out) (by repeat (first | (with_reducible first | exact HB.out | apply below_alloc | apply pw_below_drewN | apply below_drew1) | exact HB.out))); rintro e w12 ⟨v598, rfl, ho0, hb⟩; refine ⟨_, rfl, ?_⟩; have n0_ := Aside0.mk (Kd.R_lower ho0 (below_size (by repeat (first | (with_reducible first | exact HB.out | apply below_alloc | apply pw_below_drewN | apply below_drew1) | exact HB.out)))); have n1_ := Aside0.mk (below_step (by repeat (first | (with_reducible first | exact HB.out | apply below_alloc | apply pw_below_drewN | apply below_drew1) | exact HB.out)) hb); clear HB; have HO599 := n0_; have HB := n1_; clear n0_ n1_; (try clear hb); (try clear hb2); (try clear hk); (try clear hi); (try clear ho0)) | ((with_reducible refine gate_callee (f := 64) rfl ?_); refine goesL_ (some 16) rfl rfl Tryd.func64 (by kernel_rfl) rfl #[.string a1] rfl (by (try simp only [List.map_toArray, List.map_cons, List.map_nil]); first | done | rfl | (simp only [List.length_drop, List.length_take]; rfl)) ?_; (with_reducible refine (normal_decomposed.calls a1 t600 false _ ?side1 A4.out).mono ?_); (case side1 => exact GT1.below (HG.out) (by repeat (first | (with_reducible first | exact HB.out | apply below_alloc | apply pw_below_drewN | apply below_drew1) | exact HB.out))); rintro e w13 ⟨v602, rfl, ho0, hb⟩; refine ⟨_, rfl, ?_⟩; have n0_ := Aside0.mk (Kd.R_elder' (by (with_reducible repeat (first | apply Kd.R_alloc | apply Kd.R_drewN | apply Kd.R_drew)); exact HO599.out) (Kd.R_base ho0) hb); have n1_ := Aside0.mk (Kd.R_lower (Kd.R_new' ho0 (Kd.R_lt (by (with_reducible repeat (first | apply Kd.R_alloc | apply Kd.R_drewN | apply Kd.R_drew)); exact HO599.out))) (below_size (by repeat (first | (with_reducible first | exact HB.out | apply below_alloc | apply pw_below_drewN | apply below_drew1) | exact HB.out)))); have n2_ := Aside0.mk (below_step (by repeat (first | (with_reducible first | exact HB.out | apply below_alloc | apply pw_below_drewN | apply below_drew1) | exact HB.out)) hb); clear HO599; clear HB; have HO599 := n0_; have HO603 := n1_; have HB := n2_; clear n0_ n1_ n2_; (try clear hb); (try clear hb2); (try clear hk); (try clear hi); (try clear ho0)))
      go_ret
      exact ⟨by first | rfl | (simp [errW_none, errW_some] <;> rfl) | (simp [*, errW_none, errW_some] <;> rfl), by repeat (first | (with_reducible first | exact HB.out | apply below_alloc | apply pw_below_drewN | apply below_drew1) | exact HB.out)⟩
  · replace c5 := Bool.eq_false_iff.mpr c5
    subst c5
    have H1 : (some false) = some r := by rw [if_neg (show ¬ (false = true) by decide)] at H; exact H
    clear H
    have H := H1
    clear H1
    obtain rfl := Option.some.inj H
    go_enter Tryd.func48, Tryd.ntmps48
    go_wp2_with (first | ((with_reducible refine gate_callee (f := 64) rfl ?_); refine goesL_ (some 11) rfl rfl Tryd.func64 (by kernel_rfl) rfl #[.string a0] rfl (by (try simp only [List.map_toArray, List.map_cons, List.map_nil]); first | done | rfl | (simp only [List.length_drop, List.length_take]; rfl)) ?_; (with_reducible refine (normal_decomposed.calls a0 t596 false _ ?side1 A3.out).mono ?_); (case side1 => exact GT1.below (HG.out) (by repeat (first | (with_reducible first | exact HB.out | apply below_alloc | apply pw_below_drewN | apply below_drew1) | exact HB.out))); rintro e w14 ⟨v598, rfl, ho0, hb⟩; refine ⟨_, rfl, ?_⟩; have n0_ := Aside0.mk (Kd.R_lower ho0 (below_size (by repeat (first | (with_reducible first | exact HB.out | apply below_alloc | apply pw_below_drewN | apply below_drew1) | exact HB.out)))); have n1_ := Aside0.mk (below_step (by repeat (first | (with_reducible first | exact HB.out | apply below_alloc | apply pw_below_drewN | apply below_drew1) | exact HB.out)) hb); clear HB; have HO599 := n0_; have HB := n1_; clear n0_ n1_; (try clear hb); (try clear hb2); (try clear hk); (try clear hi); (try clear ho0)) | ((with_reducible refine gate_callee (f := 64) rfl ?_); refine goesL_ (some 16) rfl rfl Tryd.func64 (by kernel_rfl) rfl #[.string a1] rfl (by (try simp only [List.map_toArray, List.map_cons, List.map_nil]); first | done | rfl | (simp only [List.length_drop, List.length_take]; rfl)) ?_; (with_reducible refine (normal_decomposed.calls a1 t600 t601 _ ?side1 A4.out).mono ?_); (case side1 => exact GT1.below (HG.out) (by repeat (first | (with_reducible first | exact HB.out | apply below_alloc | apply pw_below_drewN | apply below_drew1) | exact HB.out))); rintro e w15 ⟨v602, rfl, ho0, hb⟩; refine ⟨_, rfl, ?_⟩; have n0_ := Aside0.mk (Kd.R_elder' (by (with_reducible repeat (first | apply Kd.R_alloc | apply Kd.R_drewN | apply Kd.R_drew)); exact HO599.out) (Kd.R_base ho0) hb); have n1_ := Aside0.mk (Kd.R_lower (Kd.R_new' ho0 (Kd.R_lt (by (with_reducible repeat (first | apply Kd.R_alloc | apply Kd.R_drewN | apply Kd.R_drew)); exact HO599.out))) (below_size (by repeat (first | (with_reducible first | exact HB.out | apply below_alloc | apply pw_below_drewN | apply below_drew1) | exact HB.out)))); have n2_ := Aside0.mk (below_step (by repeat (first | (with_reducible first | exact HB.out | apply below_alloc | apply pw_below_drewN | apply below_drew1) | exact HB.out)) hb); clear HO599; clear HB; have HO599 := n0_; have HO603 := n1_; have HB := n2_; clear n0_ n1_ n2_; (try clear hb); (try clear hb2); (try clear hk); (try clear hi); (try clear ho0)))
    go_ret
    exact ⟨by first | rfl | (simp [errW_none, errW_some] <;> rfl) | (simp [*, errW_none, errW_some] <;> rfl), by repeat (first | (with_reducible first | exact HB.out | apply below_alloc | apply pw_below_drewN | apply below_drew1) | exact HB.out)⟩
end Go.Proofs.YthcpdhniakpbaaaDoor.X
end

section
namespace Go.Proofs.YthcpdhniakpbaaaDoor.X
open Go.RowKit Go.Proofs.YthcpdhniakpbaaaDoorW.PrintWords Go.Proofs.YthcpdhniakpbaaaDoorW.PrintLast Go.Proofs.YthcpdhniakpbaaaDoorW.PrintMore
attribute [local go_sem] max2_int min2_int max_two min_two max_three min_three max_four min_four
set_option linter.unusedVariables false
set_option linter.unusedSimpArgs false
def normal_Is.f (a0 : ByteArray) : Option (Bool) := (normal_Compose.f a0).bind fun t605 => (some (t605.toList == a0.toList))
set_option maxHeartbeats 8000000 in
set_option maxRecDepth 100000 in
theorem normal_Is.calls (a0 : ByteArray) (r : Bool) (w : World) (hG : GT1 w) (h : normal_Is.f a0 = some r) :
    Calls Tryd.prog 42 #[.string a0] w fun e w' => e = .returned (.bool r) ∧ Below w.heap.size w w' := by
  have HG := Aside0.mk hG
  clear hG
  have HB := Aside0.mk (Below.refl w.heap.size w)
  have H : ((normal_Compose.f a0).bind fun t605 => (some (t605.toList == a0.toList))) = some r := h
  clear h
  replace H := Option.bind_eq_some_iff.mp H
  obtain ⟨t605, A20, H⟩ := H
  replace H : (some (t605.toList == a0.toList)) = some r := H
  have A2 := Aside0.mk A20
  clear A20
  obtain rfl := Option.some.inj H
  go_enter Tryd.func42, Tryd.ntmps42
  go_wp2_with (first | ((with_reducible refine gate_callee (f := 40) rfl ?_); refine goesL_ (some 4) rfl rfl Tryd.func40 (by kernel_rfl) rfl #[.string a0] rfl (by (try simp only [List.map_toArray, List.map_cons, List.map_nil]); first | done | rfl | (simp only [List.length_drop, List.length_take]; rfl)) ?_; (with_reducible refine (normal_Compose.calls a0 t605 _ ?side1 A2.out).mono ?_); (case side1 => exact GT1.below (HG.out) (by repeat (first | (with_reducible first | exact HB.out | apply below_alloc | apply pw_below_drewN | apply below_drew1) | exact HB.out))); rintro e w3 ⟨rfl, hb⟩; refine ⟨_, rfl, ?_⟩; have n0_ := Aside0.mk (below_step (by repeat (first | (with_reducible first | exact HB.out | apply below_alloc | apply pw_below_drewN | apply below_drew1) | exact HB.out)) hb); clear HB; have HB := n0_; clear n0_; (try clear hb); (try clear hb2); (try clear hk); (try clear hi)))
  go_ret
  exact ⟨by first | rfl | (simp [errW_none, errW_some] <;> rfl) | (simp [*, errW_none, errW_some] <;> rfl), by repeat (first | (with_reducible first | exact HB.out | apply below_alloc | apply pw_below_drewN | apply below_drew1) | exact HB.out)⟩
def bookplatelaw05_awake.f (k : Nat)  : Option (Bool) := (normal_Decompose.f (⟨#[195, 169]⟩ : ByteArray)).bind fun t606 => (if t606.toList = ([101, 204, 129] : List UInt8) then ((normal_Decompose.f (⟨#[239, 172, 129]⟩ : ByteArray)).bind fun t607 => (if t607.toList = ([102, 105] : List UInt8) then ((normal_Compose.f (⟨#[99, 204, 129, 204, 167]⟩ : ByteArray)).bind fun t608 => (if t608.toList = ([195, 167, 204, 129] : List UInt8) then ((normal_Is.f (⟨#[195, 169]⟩ : ByteArray)).bind fun t609 => (if t609 = true then ((normal_Equal.f k (⟨#[195, 169]⟩ : ByteArray) (⟨#[101, 204, 129]⟩ : ByteArray)).bind fun t610 => (if t610 = true then ((normal_Strip.f (⟨#[195, 169]⟩ : ByteArray)).bind fun t611 => (if t611.toList = ([101] : List UInt8) then ((normal_Marks.f k (⟨#[195, 169]⟩ : ByteArray)).bind fun t612 => (some (t612 == 1))) else (some false))) else (some false))) else (some false))) else (some false))) else (some false))) else (some false))
set_option maxHeartbeats 8000000 in
set_option maxRecDepth 100000 in
theorem bookplatelaw05_awake.calls (k : Nat)  (r : Bool) (w : World) (hG : GT1 w) (h : bookplatelaw05_awake.f k  = some r) :
    Calls Tryd.prog 37 #[] w fun e w' => e = .returned (.bool r) ∧ Below w.heap.size w w' := by
  have HG := Aside0.mk hG
  clear hG
  have HB := Aside0.mk (Below.refl w.heap.size w)
  have H : ((normal_Decompose.f (⟨#[195, 169]⟩ : ByteArray)).bind fun t606 => (if t606.toList = ([101, 204, 129] : List UInt8) then ((normal_Decompose.f (⟨#[239, 172, 129]⟩ : ByteArray)).bind fun t607 => (if t607.toList = ([102, 105] : List UInt8) then ((normal_Compose.f (⟨#[99, 204, 129, 204, 167]⟩ : ByteArray)).bind fun t608 => (if t608.toList = ([195, 167, 204, 129] : List UInt8) then ((normal_Is.f (⟨#[195, 169]⟩ : ByteArray)).bind fun t609 => (if t609 = true then ((normal_Equal.f k (⟨#[195, 169]⟩ : ByteArray) (⟨#[101, 204, 129]⟩ : ByteArray)).bind fun t610 => (if t610 = true then ((normal_Strip.f (⟨#[195, 169]⟩ : ByteArray)).bind fun t611 => (if t611.toList = ([101] : List UInt8) then ((normal_Marks.f k (⟨#[195, 169]⟩ : ByteArray)).bind fun t612 => (some (t612 == 1))) else (some false))) else (some false))) else (some false))) else (some false))) else (some false))) else (some false))) = some r := h
  clear h
  replace H := Option.bind_eq_some_iff.mp H
  obtain ⟨t606, A10, H⟩ := H
  replace H : (if t606.toList = ([101, 204, 129] : List UInt8) then ((normal_Decompose.f (⟨#[239, 172, 129]⟩ : ByteArray)).bind fun t607 => (if t607.toList = ([102, 105] : List UInt8) then ((normal_Compose.f (⟨#[99, 204, 129, 204, 167]⟩ : ByteArray)).bind fun t608 => (if t608.toList = ([195, 167, 204, 129] : List UInt8) then ((normal_Is.f (⟨#[195, 169]⟩ : ByteArray)).bind fun t609 => (if t609 = true then ((normal_Equal.f k (⟨#[195, 169]⟩ : ByteArray) (⟨#[101, 204, 129]⟩ : ByteArray)).bind fun t610 => (if t610 = true then ((normal_Strip.f (⟨#[195, 169]⟩ : ByteArray)).bind fun t611 => (if t611.toList = ([101] : List UInt8) then ((normal_Marks.f k (⟨#[195, 169]⟩ : ByteArray)).bind fun t612 => (some (t612 == 1))) else (some false))) else (some false))) else (some false))) else (some false))) else (some false))) else (some false)) = some r := H
  have A1 := Aside0.mk A10
  clear A10
  by_cases c2 : t606.toList = ([101, 204, 129] : List UInt8)
  · rw [if_pos c2] at H
    have c2b0 : (t606.toList == ([101, 204, 129] : List UInt8)) = true := beq_iff_eq.mpr c2
    have c2b1 : (t606.toList != ([101, 204, 129] : List UInt8)) = false := bne_eq_false_iff_eq.mpr c2
    clear c2
    replace H := Option.bind_eq_some_iff.mp H
    obtain ⟨t607, A30, H⟩ := H
    replace H : (if t607.toList = ([102, 105] : List UInt8) then ((normal_Compose.f (⟨#[99, 204, 129, 204, 167]⟩ : ByteArray)).bind fun t608 => (if t608.toList = ([195, 167, 204, 129] : List UInt8) then ((normal_Is.f (⟨#[195, 169]⟩ : ByteArray)).bind fun t609 => (if t609 = true then ((normal_Equal.f k (⟨#[195, 169]⟩ : ByteArray) (⟨#[101, 204, 129]⟩ : ByteArray)).bind fun t610 => (if t610 = true then ((normal_Strip.f (⟨#[195, 169]⟩ : ByteArray)).bind fun t611 => (if t611.toList = ([101] : List UInt8) then ((normal_Marks.f k (⟨#[195, 169]⟩ : ByteArray)).bind fun t612 => (some (t612 == 1))) else (some false))) else (some false))) else (some false))) else (some false))) else (some false)) = some r := H
    have A3 := Aside0.mk A30
    clear A30
    by_cases c4 : t607.toList = ([102, 105] : List UInt8)
    · rw [if_pos c4] at H
      have c4b0 : (t607.toList == ([102, 105] : List UInt8)) = true := beq_iff_eq.mpr c4
      have c4b1 : (t607.toList != ([102, 105] : List UInt8)) = false := bne_eq_false_iff_eq.mpr c4
      clear c4
      replace H := Option.bind_eq_some_iff.mp H
      obtain ⟨t608, A50, H⟩ := H
      replace H : (if t608.toList = ([195, 167, 204, 129] : List UInt8) then ((normal_Is.f (⟨#[195, 169]⟩ : ByteArray)).bind fun t609 => (if t609 = true then ((normal_Equal.f k (⟨#[195, 169]⟩ : ByteArray) (⟨#[101, 204, 129]⟩ : ByteArray)).bind fun t610 => (if t610 = true then ((normal_Strip.f (⟨#[195, 169]⟩ : ByteArray)).bind fun t611 => (if t611.toList = ([101] : List UInt8) then ((normal_Marks.f k (⟨#[195, 169]⟩ : ByteArray)).bind fun t612 => (some (t612 == 1))) else (some false))) else (some false))) else (some false))) else (some false)) = some r := H
      have A5 := Aside0.mk A50
      clear A50
      by_cases c6 : t608.toList = ([195, 167, 204, 129] : List UInt8)
      · rw [if_pos c6] at H
        have c6b0 : (t608.toList == ([195, 167, 204, 129] : List UInt8)) = true := beq_iff_eq.mpr c6
        have c6b1 : (t608.toList != ([195, 167, 204, 129] : List UInt8)) = false := bne_eq_false_iff_eq.mpr c6
        clear c6
        replace H := Option.bind_eq_some_iff.mp H
        obtain ⟨t609, A70, H⟩ := H
        replace H : (if t609 = true then ((normal_Equal.f k (⟨#[195, 169]⟩ : ByteArray) (⟨#[101, 204, 129]⟩ : ByteArray)).bind fun t610 => (if t610 = true then ((normal_Strip.f (⟨#[195, 169]⟩ : ByteArray)).bind fun t611 => (if t611.toList = ([101] : List UInt8) then ((normal_Marks.f k (⟨#[195, 169]⟩ : ByteArray)).bind fun t612 => (some (t612 == 1))) else (some false))) else (some false))) else (some false)) = some r := H
        have A7 := Aside0.mk A70
        clear A70
        by_cases c8 : t609 = true
        · subst c8
          have H1 : ((normal_Equal.f k (⟨#[195, 169]⟩ : ByteArray) (⟨#[101, 204, 129]⟩ : ByteArray)).bind fun t610 => (if t610 = true then ((normal_Strip.f (⟨#[195, 169]⟩ : ByteArray)).bind fun t611 => (if t611.toList = ([101] : List UInt8) then ((normal_Marks.f k (⟨#[195, 169]⟩ : ByteArray)).bind fun t612 => (some (t612 == 1))) else (some false))) else (some false))) = some r := by rw [if_pos rfl] at H; exact H
          clear H
          have H := H1
          clear H1
          replace H := Option.bind_eq_some_iff.mp H
          obtain ⟨t610, A90, H⟩ := H
          replace H : (if t610 = true then ((normal_Strip.f (⟨#[195, 169]⟩ : ByteArray)).bind fun t611 => (if t611.toList = ([101] : List UInt8) then ((normal_Marks.f k (⟨#[195, 169]⟩ : ByteArray)).bind fun t612 => (some (t612 == 1))) else (some false))) else (some false)) = some r := H
          have A9 := Aside0.mk A90
          clear A90
          by_cases c10 : t610 = true
          · subst c10
            have H1 : ((normal_Strip.f (⟨#[195, 169]⟩ : ByteArray)).bind fun t611 => (if t611.toList = ([101] : List UInt8) then ((normal_Marks.f k (⟨#[195, 169]⟩ : ByteArray)).bind fun t612 => (some (t612 == 1))) else (some false))) = some r := by rw [if_pos rfl] at H; exact H
            clear H
            have H := H1
            clear H1
            replace H := Option.bind_eq_some_iff.mp H
            obtain ⟨t611, A110, H⟩ := H
            replace H : (if t611.toList = ([101] : List UInt8) then ((normal_Marks.f k (⟨#[195, 169]⟩ : ByteArray)).bind fun t612 => (some (t612 == 1))) else (some false)) = some r := H
            have A11 := Aside0.mk A110
            clear A110
            by_cases c12 : t611.toList = ([101] : List UInt8)
            · rw [if_pos c12] at H
              have c12b0 : (t611.toList == ([101] : List UInt8)) = true := beq_iff_eq.mpr c12
              have c12b1 : (t611.toList != ([101] : List UInt8)) = false := bne_eq_false_iff_eq.mpr c12
              clear c12
              replace H := Option.bind_eq_some_iff.mp H
              obtain ⟨t612, A130, H⟩ := H
              replace H : (some (t612 == 1)) = some r := H
              have A13 := Aside0.mk A130
              clear A130
              obtain rfl := Option.some.inj H
              go_enter Tryd.func37, Tryd.ntmps37
              go_wp2_with (first | ((with_reducible refine gate_callee (f := 38) rfl ?_); refine goesL_ (some 1) rfl rfl Tryd.func38 (by kernel_rfl) rfl #[.string (⟨#[195, 169]⟩ : ByteArray)] rfl (by (try simp only [List.map_toArray, List.map_cons, List.map_nil]); first | done | rfl | (simp only [List.length_drop, List.length_take]; rfl)) ?_; (with_reducible refine (normal_Decompose.calls (⟨#[195, 169]⟩ : ByteArray) t606 _ ?side1 A1.out).mono ?_); (case side1 => exact GT1.below (HG.out) (by repeat (first | (with_reducible first | exact HB.out | apply below_alloc | apply pw_below_drewN | apply below_drew1) | exact HB.out))); rintro e w14 ⟨rfl, hb⟩; refine ⟨_, rfl, ?_⟩; have n0_ := Aside0.mk (below_step (by repeat (first | (with_reducible first | exact HB.out | apply below_alloc | apply pw_below_drewN | apply below_drew1) | exact HB.out)) hb); clear HB; have HB := n0_; clear n0_; (try clear hb); (try clear hb2); (try clear hk); (try clear hi)) | (go_at_call 38; (with_reducible refine (normal_Decompose.calls (⟨#[239, 172, 129]⟩ : ByteArray) t607 _ ?side1 A3.out).mono ?_); (case side1 => exact GT1.below (HG.out) (by repeat (first | (with_reducible first | exact HB.out | apply below_alloc | apply pw_below_drewN | apply below_drew1) | exact HB.out))); rintro e w15 ⟨rfl, hb⟩; have n0_ := Aside0.mk (below_step (by repeat (first | (with_reducible first | exact HB.out | apply below_alloc | apply pw_below_drewN | apply below_drew1) | exact HB.out)) hb); clear HB; have HB := n0_; clear n0_; (try clear hb); (try clear hb2); (try clear hk); (try clear hi)) | (go_at_call 40; (with_reducible refine (normal_Compose.calls (⟨#[99, 204, 129, 204, 167]⟩ : ByteArray) t608 _ ?side1 A5.out).mono ?_); (case side1 => exact GT1.below (HG.out) (by repeat (first | (with_reducible first | exact HB.out | apply below_alloc | apply pw_below_drewN | apply below_drew1) | exact HB.out))); rintro e w16 ⟨rfl, hb⟩; have n0_ := Aside0.mk (below_step (by repeat (first | (with_reducible first | exact HB.out | apply below_alloc | apply pw_below_drewN | apply below_drew1) | exact HB.out)) hb); clear HB; have HB := n0_; clear n0_; (try clear hb); (try clear hb2); (try clear hk); (try clear hi)) | (go_at_call 42; (with_reducible refine (normal_Is.calls (⟨#[195, 169]⟩ : ByteArray) true _ ?side1 A7.out).mono ?_); (case side1 => exact GT1.below (HG.out) (by repeat (first | (with_reducible first | exact HB.out | apply below_alloc | apply pw_below_drewN | apply below_drew1) | exact HB.out))); rintro e w17 ⟨rfl, hb⟩; have n0_ := Aside0.mk (below_step (by repeat (first | (with_reducible first | exact HB.out | apply below_alloc | apply pw_below_drewN | apply below_drew1) | exact HB.out)) hb); clear HB; have HB := n0_; clear n0_; (try clear hb); (try clear hb2); (try clear hk); (try clear hi)) | (go_at_call 48; (with_reducible refine (normal_Equal.calls k (⟨#[195, 169]⟩ : ByteArray) (⟨#[101, 204, 129]⟩ : ByteArray) true _ ?side1 A9.out).mono ?_); (case side1 => exact GT1.below (HG.out) (by repeat (first | (with_reducible first | exact HB.out | apply below_alloc | apply pw_below_drewN | apply below_drew1) | exact HB.out))); rintro e w18 ⟨rfl, hb⟩; have n0_ := Aside0.mk (below_step (by repeat (first | (with_reducible first | exact HB.out | apply below_alloc | apply pw_below_drewN | apply below_drew1) | exact HB.out)) hb); clear HB; have HB := n0_; clear n0_; (try clear hb); (try clear hb2); (try clear hk); (try clear hi)) | (go_at_call 44; (with_reducible refine (normal_Strip.calls (⟨#[195, 169]⟩ : ByteArray) t611 _ ?side1 A11.out).mono ?_); (case side1 => exact GT1.below (HG.out) (by repeat (first | (with_reducible first | exact HB.out | apply below_alloc | apply pw_below_drewN | apply below_drew1) | exact HB.out))); rintro e w19 ⟨rfl, hb⟩; have n0_ := Aside0.mk (below_step (by repeat (first | (with_reducible first | exact HB.out | apply below_alloc | apply pw_below_drewN | apply below_drew1) | exact HB.out)) hb); clear HB; have HB := n0_; clear n0_; (try clear hb); (try clear hb2); (try clear hk); (try clear hi)) | (go_at_call 46; (with_reducible refine (normal_Marks.calls k (⟨#[195, 169]⟩ : ByteArray) t612 _ ?side1 A13.out).mono ?_); (case side1 => exact GT1.below (HG.out) (by repeat (first | (with_reducible first | exact HB.out | apply below_alloc | apply pw_below_drewN | apply below_drew1) | exact HB.out))); rintro e w20 ⟨rfl, hb⟩; have n0_ := Aside0.mk (below_step (by repeat (first | (with_reducible first | exact HB.out | apply below_alloc | apply pw_below_drewN | apply below_drew1) | exact HB.out)) hb); clear HB; have HB := n0_; clear n0_; (try clear hb); (try clear hb2); (try clear hk); (try clear hi)))
              go_ret
              exact ⟨by first | rfl | (simp [errW_none, errW_some] <;> rfl) | (simp [*, errW_none, errW_some] <;> rfl), by repeat (first | (with_reducible first | exact HB.out | apply below_alloc | apply pw_below_drewN | apply below_drew1) | exact HB.out)⟩
            · rw [if_neg c12] at H
              have c12b0 : (t611.toList == ([101] : List UInt8)) = false := beq_eq_false_iff_ne.mpr c12
              have c12b1 : (t611.toList != ([101] : List UInt8)) = true := bne_iff_ne.mpr c12
              obtain rfl := Option.some.inj H
              go_enter Tryd.func37, Tryd.ntmps37
              go_wp2_with (first | ((with_reducible refine gate_callee (f := 38) rfl ?_); refine goesL_ (some 1) rfl rfl Tryd.func38 (by kernel_rfl) rfl #[.string (⟨#[195, 169]⟩ : ByteArray)] rfl (by (try simp only [List.map_toArray, List.map_cons, List.map_nil]); first | done | rfl | (simp only [List.length_drop, List.length_take]; rfl)) ?_; (with_reducible refine (normal_Decompose.calls (⟨#[195, 169]⟩ : ByteArray) t606 _ ?side1 A1.out).mono ?_); (case side1 => exact GT1.below (HG.out) (by repeat (first | (with_reducible first | exact HB.out | apply below_alloc | apply pw_below_drewN | apply below_drew1) | exact HB.out))); rintro e w21 ⟨rfl, hb⟩; refine ⟨_, rfl, ?_⟩; have n0_ := Aside0.mk (below_step (by repeat (first | (with_reducible first | exact HB.out | apply below_alloc | apply pw_below_drewN | apply below_drew1) | exact HB.out)) hb); clear HB; have HB := n0_; clear n0_; (try clear hb); (try clear hb2); (try clear hk); (try clear hi)) | (go_at_call 38; (with_reducible refine (normal_Decompose.calls (⟨#[239, 172, 129]⟩ : ByteArray) t607 _ ?side1 A3.out).mono ?_); (case side1 => exact GT1.below (HG.out) (by repeat (first | (with_reducible first | exact HB.out | apply below_alloc | apply pw_below_drewN | apply below_drew1) | exact HB.out))); rintro e w22 ⟨rfl, hb⟩; have n0_ := Aside0.mk (below_step (by repeat (first | (with_reducible first | exact HB.out | apply below_alloc | apply pw_below_drewN | apply below_drew1) | exact HB.out)) hb); clear HB; have HB := n0_; clear n0_; (try clear hb); (try clear hb2); (try clear hk); (try clear hi)) | (go_at_call 40; (with_reducible refine (normal_Compose.calls (⟨#[99, 204, 129, 204, 167]⟩ : ByteArray) t608 _ ?side1 A5.out).mono ?_); (case side1 => exact GT1.below (HG.out) (by repeat (first | (with_reducible first | exact HB.out | apply below_alloc | apply pw_below_drewN | apply below_drew1) | exact HB.out))); rintro e w23 ⟨rfl, hb⟩; have n0_ := Aside0.mk (below_step (by repeat (first | (with_reducible first | exact HB.out | apply below_alloc | apply pw_below_drewN | apply below_drew1) | exact HB.out)) hb); clear HB; have HB := n0_; clear n0_; (try clear hb); (try clear hb2); (try clear hk); (try clear hi)) | (go_at_call 42; (with_reducible refine (normal_Is.calls (⟨#[195, 169]⟩ : ByteArray) true _ ?side1 A7.out).mono ?_); (case side1 => exact GT1.below (HG.out) (by repeat (first | (with_reducible first | exact HB.out | apply below_alloc | apply pw_below_drewN | apply below_drew1) | exact HB.out))); rintro e w24 ⟨rfl, hb⟩; have n0_ := Aside0.mk (below_step (by repeat (first | (with_reducible first | exact HB.out | apply below_alloc | apply pw_below_drewN | apply below_drew1) | exact HB.out)) hb); clear HB; have HB := n0_; clear n0_; (try clear hb); (try clear hb2); (try clear hk); (try clear hi)) | (go_at_call 48; (with_reducible refine (normal_Equal.calls k (⟨#[195, 169]⟩ : ByteArray) (⟨#[101, 204, 129]⟩ : ByteArray) true _ ?side1 A9.out).mono ?_); (case side1 => exact GT1.below (HG.out) (by repeat (first | (with_reducible first | exact HB.out | apply below_alloc | apply pw_below_drewN | apply below_drew1) | exact HB.out))); rintro e w25 ⟨rfl, hb⟩; have n0_ := Aside0.mk (below_step (by repeat (first | (with_reducible first | exact HB.out | apply below_alloc | apply pw_below_drewN | apply below_drew1) | exact HB.out)) hb); clear HB; have HB := n0_; clear n0_; (try clear hb); (try clear hb2); (try clear hk); (try clear hi)) | (go_at_call 44; (with_reducible refine (normal_Strip.calls (⟨#[195, 169]⟩ : ByteArray) t611 _ ?side1 A11.out).mono ?_); (case side1 => exact GT1.below (HG.out) (by repeat (first | (with_reducible first | exact HB.out | apply below_alloc | apply pw_below_drewN | apply below_drew1) | exact HB.out))); rintro e w26 ⟨rfl, hb⟩; have n0_ := Aside0.mk (below_step (by repeat (first | (with_reducible first | exact HB.out | apply below_alloc | apply pw_below_drewN | apply below_drew1) | exact HB.out)) hb); clear HB; have HB := n0_; clear n0_; (try clear hb); (try clear hb2); (try clear hk); (try clear hi)))
              go_ret
              exact ⟨by first | rfl | (simp [errW_none, errW_some] <;> rfl) | (simp [*, errW_none, errW_some] <;> rfl), by repeat (first | (with_reducible first | exact HB.out | apply below_alloc | apply pw_below_drewN | apply below_drew1) | exact HB.out)⟩
          · replace c10 := Bool.eq_false_iff.mpr c10
            subst c10
            have H1 : (some false) = some r := by rw [if_neg (show ¬ (false = true) by decide)] at H; exact H
            clear H
            have H := H1
            clear H1
            obtain rfl := Option.some.inj H
            go_enter Tryd.func37, Tryd.ntmps37
            go_wp2_with (first | ((with_reducible refine gate_callee (f := 38) rfl ?_); refine goesL_ (some 1) rfl rfl Tryd.func38 (by kernel_rfl) rfl #[.string (⟨#[195, 169]⟩ : ByteArray)] rfl (by (try simp only [List.map_toArray, List.map_cons, List.map_nil]); first | done | rfl | (simp only [List.length_drop, List.length_take]; rfl)) ?_; (with_reducible refine (normal_Decompose.calls (⟨#[195, 169]⟩ : ByteArray) t606 _ ?side1 A1.out).mono ?_); (case side1 => exact GT1.below (HG.out) (by repeat (first | (with_reducible first | exact HB.out | apply below_alloc | apply pw_below_drewN | apply below_drew1) | exact HB.out))); rintro e w27 ⟨rfl, hb⟩; refine ⟨_, rfl, ?_⟩; have n0_ := Aside0.mk (below_step (by repeat (first | (with_reducible first | exact HB.out | apply below_alloc | apply pw_below_drewN | apply below_drew1) | exact HB.out)) hb); clear HB; have HB := n0_; clear n0_; (try clear hb); (try clear hb2); (try clear hk); (try clear hi)) | (go_at_call 38; (with_reducible refine (normal_Decompose.calls (⟨#[239, 172, 129]⟩ : ByteArray) t607 _ ?side1 A3.out).mono ?_); (case side1 => exact GT1.below (HG.out) (by repeat (first | (with_reducible first | exact HB.out | apply below_alloc | apply pw_below_drewN | apply below_drew1) | exact HB.out))); rintro e w28 ⟨rfl, hb⟩; have n0_ := Aside0.mk (below_step (by repeat (first | (with_reducible first | exact HB.out | apply below_alloc | apply pw_below_drewN | apply below_drew1) | exact HB.out)) hb); clear HB; have HB := n0_; clear n0_; (try clear hb); (try clear hb2); (try clear hk); (try clear hi)) | (go_at_call 40; (with_reducible refine (normal_Compose.calls (⟨#[99, 204, 129, 204, 167]⟩ : ByteArray) t608 _ ?side1 A5.out).mono ?_); (case side1 => exact GT1.below (HG.out) (by repeat (first | (with_reducible first | exact HB.out | apply below_alloc | apply pw_below_drewN | apply below_drew1) | exact HB.out))); rintro e w29 ⟨rfl, hb⟩; have n0_ := Aside0.mk (below_step (by repeat (first | (with_reducible first | exact HB.out | apply below_alloc | apply pw_below_drewN | apply below_drew1) | exact HB.out)) hb); clear HB; have HB := n0_; clear n0_; (try clear hb); (try clear hb2); (try clear hk); (try clear hi)) | (go_at_call 42; (with_reducible refine (normal_Is.calls (⟨#[195, 169]⟩ : ByteArray) true _ ?side1 A7.out).mono ?_); (case side1 => exact GT1.below (HG.out) (by repeat (first | (with_reducible first | exact HB.out | apply below_alloc | apply pw_below_drewN | apply below_drew1) | exact HB.out))); rintro e w30 ⟨rfl, hb⟩; have n0_ := Aside0.mk (below_step (by repeat (first | (with_reducible first | exact HB.out | apply below_alloc | apply pw_below_drewN | apply below_drew1) | exact HB.out)) hb); clear HB; have HB := n0_; clear n0_; (try clear hb); (try clear hb2); (try clear hk); (try clear hi)) | (go_at_call 48; (with_reducible refine (normal_Equal.calls k (⟨#[195, 169]⟩ : ByteArray) (⟨#[101, 204, 129]⟩ : ByteArray) false _ ?side1 A9.out).mono ?_); (case side1 => exact GT1.below (HG.out) (by repeat (first | (with_reducible first | exact HB.out | apply below_alloc | apply pw_below_drewN | apply below_drew1) | exact HB.out))); rintro e w31 ⟨rfl, hb⟩; have n0_ := Aside0.mk (below_step (by repeat (first | (with_reducible first | exact HB.out | apply below_alloc | apply pw_below_drewN | apply below_drew1) | exact HB.out)) hb); clear HB; have HB := n0_; clear n0_; (try clear hb); (try clear hb2); (try clear hk); (try clear hi)))
            go_ret
            exact ⟨by first | rfl | (simp [errW_none, errW_some] <;> rfl) | (simp [*, errW_none, errW_some] <;> rfl), by repeat (first | (with_reducible first | exact HB.out | apply below_alloc | apply pw_below_drewN | apply below_drew1) | exact HB.out)⟩
        · replace c8 := Bool.eq_false_iff.mpr c8
          subst c8
          have H1 : (some false) = some r := by rw [if_neg (show ¬ (false = true) by decide)] at H; exact H
          clear H
          have H := H1
          clear H1
          obtain rfl := Option.some.inj H
          go_enter Tryd.func37, Tryd.ntmps37
          go_wp2_with (first | ((with_reducible refine gate_callee (f := 38) rfl ?_); refine goesL_ (some 1) rfl rfl Tryd.func38 (by kernel_rfl) rfl #[.string (⟨#[195, 169]⟩ : ByteArray)] rfl (by (try simp only [List.map_toArray, List.map_cons, List.map_nil]); first | done | rfl | (simp only [List.length_drop, List.length_take]; rfl)) ?_; (with_reducible refine (normal_Decompose.calls (⟨#[195, 169]⟩ : ByteArray) t606 _ ?side1 A1.out).mono ?_); (case side1 => exact GT1.below (HG.out) (by repeat (first | (with_reducible first | exact HB.out | apply below_alloc | apply pw_below_drewN | apply below_drew1) | exact HB.out))); rintro e w32 ⟨rfl, hb⟩; refine ⟨_, rfl, ?_⟩; have n0_ := Aside0.mk (below_step (by repeat (first | (with_reducible first | exact HB.out | apply below_alloc | apply pw_below_drewN | apply below_drew1) | exact HB.out)) hb); clear HB; have HB := n0_; clear n0_; (try clear hb); (try clear hb2); (try clear hk); (try clear hi)) | (go_at_call 38; (with_reducible refine (normal_Decompose.calls (⟨#[239, 172, 129]⟩ : ByteArray) t607 _ ?side1 A3.out).mono ?_); (case side1 => exact GT1.below (HG.out) (by repeat (first | (with_reducible first | exact HB.out | apply below_alloc | apply pw_below_drewN | apply below_drew1) | exact HB.out))); rintro e w33 ⟨rfl, hb⟩; have n0_ := Aside0.mk (below_step (by repeat (first | (with_reducible first | exact HB.out | apply below_alloc | apply pw_below_drewN | apply below_drew1) | exact HB.out)) hb); clear HB; have HB := n0_; clear n0_; (try clear hb); (try clear hb2); (try clear hk); (try clear hi)) | (go_at_call 40; (with_reducible refine (normal_Compose.calls (⟨#[99, 204, 129, 204, 167]⟩ : ByteArray) t608 _ ?side1 A5.out).mono ?_); (case side1 => exact GT1.below (HG.out) (by repeat (first | (with_reducible first | exact HB.out | apply below_alloc | apply pw_below_drewN | apply below_drew1) | exact HB.out))); rintro e w34 ⟨rfl, hb⟩; have n0_ := Aside0.mk (below_step (by repeat (first | (with_reducible first | exact HB.out | apply below_alloc | apply pw_below_drewN | apply below_drew1) | exact HB.out)) hb); clear HB; have HB := n0_; clear n0_; (try clear hb); (try clear hb2); (try clear hk); (try clear hi)) | (go_at_call 42; (with_reducible refine (normal_Is.calls (⟨#[195, 169]⟩ : ByteArray) false _ ?side1 A7.out).mono ?_); (case side1 => exact GT1.below (HG.out) (by repeat (first | (with_reducible first | exact HB.out | apply below_alloc | apply pw_below_drewN | apply below_drew1) | exact HB.out))); rintro e w35 ⟨rfl, hb⟩; have n0_ := Aside0.mk (below_step (by repeat (first | (with_reducible first | exact HB.out | apply below_alloc | apply pw_below_drewN | apply below_drew1) | exact HB.out)) hb); clear HB; have HB := n0_; clear n0_; (try clear hb); (try clear hb2); (try clear hk); (try clear hi)))
          go_ret
          exact ⟨by first | rfl | (simp [errW_none, errW_some] <;> rfl) | (simp [*, errW_none, errW_some] <;> rfl), by repeat (first | (with_reducible first | exact HB.out | apply below_alloc | apply pw_below_drewN | apply below_drew1) | exact HB.out)⟩
      · rw [if_neg c6] at H
        have c6b0 : (t608.toList == ([195, 167, 204, 129] : List UInt8)) = false := beq_eq_false_iff_ne.mpr c6
        have c6b1 : (t608.toList != ([195, 167, 204, 129] : List UInt8)) = true := bne_iff_ne.mpr c6
        obtain rfl := Option.some.inj H
        go_enter Tryd.func37, Tryd.ntmps37
        go_wp2_with (first | ((with_reducible refine gate_callee (f := 38) rfl ?_); refine goesL_ (some 1) rfl rfl Tryd.func38 (by kernel_rfl) rfl #[.string (⟨#[195, 169]⟩ : ByteArray)] rfl (by (try simp only [List.map_toArray, List.map_cons, List.map_nil]); first | done | rfl | (simp only [List.length_drop, List.length_take]; rfl)) ?_; (with_reducible refine (normal_Decompose.calls (⟨#[195, 169]⟩ : ByteArray) t606 _ ?side1 A1.out).mono ?_); (case side1 => exact GT1.below (HG.out) (by repeat (first | (with_reducible first | exact HB.out | apply below_alloc | apply pw_below_drewN | apply below_drew1) | exact HB.out))); rintro e w36 ⟨rfl, hb⟩; refine ⟨_, rfl, ?_⟩; have n0_ := Aside0.mk (below_step (by repeat (first | (with_reducible first | exact HB.out | apply below_alloc | apply pw_below_drewN | apply below_drew1) | exact HB.out)) hb); clear HB; have HB := n0_; clear n0_; (try clear hb); (try clear hb2); (try clear hk); (try clear hi)) | (go_at_call 38; (with_reducible refine (normal_Decompose.calls (⟨#[239, 172, 129]⟩ : ByteArray) t607 _ ?side1 A3.out).mono ?_); (case side1 => exact GT1.below (HG.out) (by repeat (first | (with_reducible first | exact HB.out | apply below_alloc | apply pw_below_drewN | apply below_drew1) | exact HB.out))); rintro e w37 ⟨rfl, hb⟩; have n0_ := Aside0.mk (below_step (by repeat (first | (with_reducible first | exact HB.out | apply below_alloc | apply pw_below_drewN | apply below_drew1) | exact HB.out)) hb); clear HB; have HB := n0_; clear n0_; (try clear hb); (try clear hb2); (try clear hk); (try clear hi)) | (go_at_call 40; (with_reducible refine (normal_Compose.calls (⟨#[99, 204, 129, 204, 167]⟩ : ByteArray) t608 _ ?side1 A5.out).mono ?_); (case side1 => exact GT1.below (HG.out) (by repeat (first | (with_reducible first | exact HB.out | apply below_alloc | apply pw_below_drewN | apply below_drew1) | exact HB.out))); rintro e w38 ⟨rfl, hb⟩; have n0_ := Aside0.mk (below_step (by repeat (first | (with_reducible first | exact HB.out | apply below_alloc | apply pw_below_drewN | apply below_drew1) | exact HB.out)) hb); clear HB; have HB := n0_; clear n0_; (try clear hb); (try clear hb2); (try clear hk); (try clear hi)))
        go_ret
        exact ⟨by first | rfl | (simp [errW_none, errW_some] <;> rfl) | (simp [*, errW_none, errW_some] <;> rfl), by repeat (first | (with_reducible first | exact HB.out | apply below_alloc | apply pw_below_drewN | apply below_drew1) | exact HB.out)⟩
    · rw [if_neg c4] at H
      have c4b0 : (t607.toList == ([102, 105] : List UInt8)) = false := beq_eq_false_iff_ne.mpr c4
      have c4b1 : (t607.toList != ([102, 105] : List UInt8)) = true := bne_iff_ne.mpr c4
      obtain rfl := Option.some.inj H
      go_enter Tryd.func37, Tryd.ntmps37
      go_wp2_with (first | ((with_reducible refine gate_callee (f := 38) rfl ?_); refine goesL_ (some 1) rfl rfl Tryd.func38 (by kernel_rfl) rfl #[.string (⟨#[195, 169]⟩ : ByteArray)] rfl (by (try simp only [List.map_toArray, List.map_cons, List.map_nil]); first | done | rfl | (simp only [List.length_drop, List.length_take]; rfl)) ?_; (with_reducible refine (normal_Decompose.calls (⟨#[195, 169]⟩ : ByteArray) t606 _ ?side1 A1.out).mono ?_); (case side1 => exact GT1.below (HG.out) (by repeat (first | (with_reducible first | exact HB.out | apply below_alloc | apply pw_below_drewN | apply below_drew1) | exact HB.out))); rintro e w39 ⟨rfl, hb⟩; refine ⟨_, rfl, ?_⟩; have n0_ := Aside0.mk (below_step (by repeat (first | (with_reducible first | exact HB.out | apply below_alloc | apply pw_below_drewN | apply below_drew1) | exact HB.out)) hb); clear HB; have HB := n0_; clear n0_; (try clear hb); (try clear hb2); (try clear hk); (try clear hi)) | (go_at_call 38; (with_reducible refine (normal_Decompose.calls (⟨#[239, 172, 129]⟩ : ByteArray) t607 _ ?side1 A3.out).mono ?_); (case side1 => exact GT1.below (HG.out) (by repeat (first | (with_reducible first | exact HB.out | apply below_alloc | apply pw_below_drewN | apply below_drew1) | exact HB.out))); rintro e w40 ⟨rfl, hb⟩; have n0_ := Aside0.mk (below_step (by repeat (first | (with_reducible first | exact HB.out | apply below_alloc | apply pw_below_drewN | apply below_drew1) | exact HB.out)) hb); clear HB; have HB := n0_; clear n0_; (try clear hb); (try clear hb2); (try clear hk); (try clear hi)))
      go_ret
      exact ⟨by first | rfl | (simp [errW_none, errW_some] <;> rfl) | (simp [*, errW_none, errW_some] <;> rfl), by repeat (first | (with_reducible first | exact HB.out | apply below_alloc | apply pw_below_drewN | apply below_drew1) | exact HB.out)⟩
  · rw [if_neg c2] at H
    have c2b0 : (t606.toList == ([101, 204, 129] : List UInt8)) = false := beq_eq_false_iff_ne.mpr c2
    have c2b1 : (t606.toList != ([101, 204, 129] : List UInt8)) = true := bne_iff_ne.mpr c2
    obtain rfl := Option.some.inj H
    go_enter Tryd.func37, Tryd.ntmps37
    go_wp2_with (first | ((with_reducible refine gate_callee (f := 38) rfl ?_); refine goesL_ (some 1) rfl rfl Tryd.func38 (by kernel_rfl) rfl #[.string (⟨#[195, 169]⟩ : ByteArray)] rfl (by (try simp only [List.map_toArray, List.map_cons, List.map_nil]); first | done | rfl | (simp only [List.length_drop, List.length_take]; rfl)) ?_; (with_reducible refine (normal_Decompose.calls (⟨#[195, 169]⟩ : ByteArray) t606 _ ?side1 A1.out).mono ?_); (case side1 => exact GT1.below (HG.out) (by repeat (first | (with_reducible first | exact HB.out | apply below_alloc | apply pw_below_drewN | apply below_drew1) | exact HB.out))); rintro e w41 ⟨rfl, hb⟩; refine ⟨_, rfl, ?_⟩; have n0_ := Aside0.mk (below_step (by repeat (first | (with_reducible first | exact HB.out | apply below_alloc | apply pw_below_drewN | apply below_drew1) | exact HB.out)) hb); clear HB; have HB := n0_; clear n0_; (try clear hb); (try clear hb2); (try clear hk); (try clear hi)))
    go_ret
    exact ⟨by first | rfl | (simp [errW_none, errW_some] <;> rfl) | (simp [*, errW_none, errW_some] <;> rfl), by repeat (first | (with_reducible first | exact HB.out | apply below_alloc | apply pw_below_drewN | apply below_drew1) | exact HB.out)⟩
end Go.Proofs.YthcpdhniakpbaaaDoor.X
end

section
namespace Go.Proofs.YthcpdhniakpbaaaDoor.X
open Go.RowKit Go.Sort Go.Lib Go.Proofs.YthcpdhniakpbaaaDoorW.PrintWords Go.Proofs.YthcpdhniakpbaaaDoorW.PrintLast Go.Proofs.YthcpdhniakpbaaaDoorW.PrintMore
set_option linter.unusedVariables false
set_option linter.unusedSimpArgs false
theorem decomposed_eq (s : ByteArray) (hs : s.size ≤ 50000) : normal_decomposed.f s = some (decD (chs s), okS s) := by
  unfold normal_decomposed.f
  rw [if_pos (show DecOk s by unfold DecOk; omega)]
  rfl
theorem text_eq (l : List Int) (hl : l.length ≤ 1000000) (hh : ∀ c ∈ l, hasS c = true) : normal_text.f l = some (bytesOfL l) := by
  unfold normal_text.f repertoire_Encode.f
  rw [if_pos (show EncOk l from ⟨by omega, hh⟩)]
  rfl
theorem nlen (s : ByteArray) (hs : s.size ≤ 50000) : (decD (chs s)).length ≤ 100000 := by have := decD_len (chs s); have := chs_len s; omega
theorem dhas (s : ByteArray) : ∀ c ∈ decD (chs s), hasS c = true := decD_has (chs_has s)
theorem decompose_eq (s : ByteArray) (hs : s.size ≤ 50000) : normal_Decompose.f s = some (bytesOfL (decD (chs s))) := by
  unfold normal_Decompose.f
  rw [decomposed_eq s hs]
  simp only [Option.bind_some]
  rw [text_eq _ (by have := nlen s hs; omega) (dhas s)]
  rfl
theorem compS_has {l : List Int} (h : ∀ c ∈ l, hasS c = true) : ∀ c ∈ compS l, hasS c = true := compF_has _ _ h
theorem compS_len (l : List Int) : (compS l).length ≤ l.length := compF_len _ _
theorem compose_eq (s : ByteArray) (hs : s.size ≤ 50000) : normal_Compose.f s = some (bytesOfL (compS (decD (chs s)))) := by
  have := nlen s hs
  have := compS_len (decD (chs s))
  unfold normal_Compose.f
  rw [decomposed_eq s hs]
  simp only [Option.bind_some]
  rw [if_pos (show ComposeOk (decD (chs s)) from ⟨by omega, dhas s⟩), text_eq _ (by omega) (compS_has (dhas s))]
theorem strip_eq (s : ByteArray) (hs : s.size ≤ 50000) : normal_Strip.f s = some (bytesOfL (stripS (decD (chs s)))) := by
  have := nlen s hs
  have h2 : (stripS (decD (chs s))).length ≤ (decD (chs s)).length := List.length_filter_le _ _
  unfold normal_Strip.f
  rw [decomposed_eq s hs]
  simp only [Option.bind_some]
  exact text_eq (stripS (decD (chs s))) (by omega) (fun c hc => dhas s c (List.mem_filter.1 hc).1)
theorem is_eq (s : ByteArray) (hs : s.size ≤ 50000) : normal_Is.f s = some ((bytesOfL (compS (decD (chs s)))).toList == s.toList) := by
  unfold normal_Is.f
  rw [compose_eq s hs]
  rfl
theorem marks_go {d : List Int} (hh : ∀ x ∈ d, hasS x = true) (hd : d.length < 400000) : ∀ (n i q : Nat), d.length ≤ i + n → i ≤ d.length → q ≤ i →
    Ev (fun k => normal_Marks.l0 k (q : Int) d (d.length : Int) (i : Int)) ((q + cntM (d.drop i) : Nat) : Int) := by
  intro n
  have last : ∀ (i q : Nat), ¬ i < d.length → Ev (fun k => normal_Marks.l0 k (q : Int) d (d.length : Int) (i : Int)) ((q + cntM (d.drop i) : Nat) : Int) := by
    intro i q h1
    rw [List.drop_of_length_le (by omega)]
    refine Ev.step (g' := fun _ => some (q : Int)) (fun k => ?_) (Ev.const _)
    rw [normal_Marks.l0, if_neg (by omega)]
  induction n with
  | zero => intro i q h1 h2 h3; exact last i q (by omega)
  | succ n ih =>
    intro i q h1 h2 h3
    by_cases hi : i < d.length
    · have hdr : d.drop i = d[i] :: d.drop (i + 1) := List.drop_eq_getElem_cons hi
      have hx := hh _ (List.getElem_mem hi)
      obtain ⟨c, hc⟩ : ∃ c, d[i] = c := ⟨_, rfl⟩
      rw [hc] at hx hdr
      rw [hdr, cntM_cons]
      have hne : c ≠ 65533 := fun e => by rw [e, hasS_65533] at hx; exact absurd hx (by decide)
      have hev : Ev (fun k => normal_mark.f k c) (isMk c) := ⟨7, fun k hk => by
        obtain ⟨q, rfl⟩ : ∃ q, k = q + 7 := ⟨k - 7, by omega⟩
        exact isMark_eq hne q⟩
      refine Ev.step (g' := fun k => (normal_mark.f k c).bind fun t => if t = true then normal_Marks.l0 k ((q + 1 : Nat) : Int) d (d.length : Int) ((i + 1 : Nat) : Int) else normal_Marks.l0 k (q : Int) d (d.length : Int) ((i + 1 : Nat) : Int)) (fun k => ?_) (Ev.bind hev ?_)
      · rw [normal_Marks.l0, if_pos (by omega), if_pos (by omega), if_pos (by omega), rd_get hi, hc, w64n i (by omega), w64n q (by omega)]
      · cases hmk : isMk c with
        | true =>
          have := ih (i + 1) (q + 1) (by omega) (by omega) (by omega)
          rw [if_pos rfl, show q + (1 + cntM (d.drop (i + 1))) = q + 1 + cntM (d.drop (i + 1)) by omega]
          exact Ev.congr (fun k => if_pos rfl) this
        | false =>
          have := ih (i + 1) q (by omega) (by omega) (by omega)
          rw [if_neg (by decide), Nat.zero_add]
          exact Ev.congr (fun k => if_neg (by decide)) this
    · exact last i q hi
theorem ev_marks (s : ByteArray) (hs : s.size ≤ 50000) : Ev (fun k => normal_Marks.f k s) ((cntM (decD (chs s)) : Nat) : Int) := by
  have h1 := nlen s hs
  refine Ev.congr (g' := fun k => normal_Marks.l0 k 0 (decD (chs s)) ((decD (chs s)).length : Int) 0) (fun k => ?_) ?_
  · unfold normal_Marks.f
    rw [decomposed_eq s hs]
    rfl
  · have := marks_go (d := decD (chs s)) (dhas s) (by omega) (decD (chs s)).length 0 0 (by omega) (by omega) (by omega)
    rw [Nat.zero_add] at this
    exact this
theorem equal_go {a b : List Int} (hl : a.length = b.length) (hb : a.length < 1000000) : ∀ (n i : Nat), a.length ≤ i + n → i ≤ a.length →
    Ev (fun k => slices_Equal_int_int.l0 k a b (a.length : Int) (i : Int)) (decide (a.drop i = b.drop i)) := by
  intro n
  have last : ∀ i : Nat, ¬ i < a.length → Ev (fun k => slices_Equal_int_int.l0 k a b (a.length : Int) (i : Int)) (decide (a.drop i = b.drop i)) := by
    intro i h
    rw [List.drop_of_length_le (by omega), List.drop_of_length_le (by omega)]
    refine Ev.step (g' := fun _ => some true) (fun k => ?_) (Ev.const _)
    rw [slices_Equal_int_int.l0, if_neg (by omega)]
  induction n with
  | zero => intro i h1 h2; exact last i (by omega)
  | succ n ih =>
    intro i h1 h2
    by_cases hi : i < a.length
    · have hib : i < b.length := by omega
      have e1 : a.drop i = a[i] :: a.drop (i + 1) := List.drop_eq_getElem_cons hi
      have e2 : b.drop i = b[i] :: b.drop (i + 1) := List.drop_eq_getElem_cons hib
      rw [e1, e2]
      by_cases he : a[i] = b[i]
      · have e : decide (a[i] :: a.drop (i + 1) = b[i] :: b.drop (i + 1)) = decide (a.drop (i + 1) = b.drop (i + 1)) := decide_eq_decide.2 ⟨fun h => (List.cons.inj h).2, fun h => by rw [he, h]⟩
        rw [e]
        refine Ev.step (fun k => ?_) (ih (i + 1) (by omega) (by omega))
        rw [slices_Equal_int_int.l0, if_pos (by omega), if_pos (by omega), if_pos (by omega), if_pos (by omega), rd_get hi, rd_get hib, if_pos he, w64n i (by omega)]
      · have e : decide (a[i] :: a.drop (i + 1) = b[i] :: b.drop (i + 1)) = false := decide_eq_false (fun h => he (by injection h))
        rw [e]
        refine Ev.step (g' := fun _ => some false) (fun k => ?_) (Ev.const _)
        rw [slices_Equal_int_int.l0, if_pos (by omega), if_pos (by omega), if_pos (by omega), if_pos (by omega), rd_get hi, rd_get hib, if_neg he]
    · exact last i hi
theorem ev_slEqual (a b : List Int) (ha : a.length < 1000000) : Ev (fun k => slices_Equal_int_int.f k a b) (decide (a = b)) := by
  by_cases hl : a.length = b.length
  · have := equal_go hl ha a.length 0 (by omega) (by omega)
    refine Ev.congr (fun k => ?_) this
    unfold slices_Equal_int_int.f
    rw [if_pos (by omega)]
    rfl
  · rw [decide_eq_false (fun h => hl (by rw [h]))]
    exact Ev.congr (g' := fun _ => some false) (fun k => by unfold slices_Equal_int_int.f; rw [if_neg (by omega)]) (Ev.const _)
theorem ev_equal (a b : ByteArray) (ha : a.size ≤ 50000) (hb : b.size ≤ 50000) : Ev (fun k => normal_Equal.f k a b) (okS a && (okS b && decide (decD (chs a) = decD (chs b)))) := by
  refine Ev.congr (g' := fun k => if okS a = true then (if okS b = true then (slices_Equal_int_int.f k (decD (chs a)) (decD (chs b))).bind fun t => some t else some false) else some false) (fun k => ?_) ?_
  · unfold normal_Equal.f
    rw [decomposed_eq a ha, decomposed_eq b hb]
    rfl
  · cases okS a with
    | false => exact Ev.congr (fun k => if_neg (by decide)) (Ev.const _)
    | true =>
      refine Ev.congr (fun k => if_pos rfl) ?_
      cases okS b with
      | false => exact Ev.congr (fun k => if_neg (by decide)) (Ev.const _)
      | true => exact Ev.congr (fun k => if_pos rfl) (Ev.bind (ev_slEqual _ _ (by have := nlen a ha; omega)) (Ev.const _))
theorem chs_bytes {l : List Int} (h : ∀ c ∈ l, hasS c = true) : chs (bytesOfL l) = l ∧ okS (bytesOfL l) = true := by
  have e : (bytesOfL l).data.toList = encL l := rfl
  unfold chs okS decR
  rw [e, decS_enc hasS l (fun c hc => ⟨hasS_ok (h c hc), h c hc⟩)]
  exact ⟨by simp, rfl⟩
theorem bytes_size (l : List Int) : (bytesOfL l).size ≤ 3 * l.length := by
  have h1 := encL_len l
  have h2 : (bytesOfL l).size = (encL l).length := size_arr _
  omega
theorem ok_bytes {s : ByteArray} (h : okS s = true) : s = bytesOfL (chs s) ∧ ∀ c ∈ chs s, hasS c = true := by
  refine ⟨?_, chs_has s⟩
  unfold okS decR at h
  unfold chs decR
  cases hd : decS hasS s.data.toList with
  | none => rw [hd] at h; exact absurd h (by decide)
  | some cs =>
    have h1 := (decS_back hd).1
    refine ext_bytes ?_
    show s.data.toList = encL ([] ++ cs)
    rw [List.nil_append, h1]
end Go.Proofs.YthcpdhniakpbaaaDoor.X
end

section
namespace Go.Proofs.YthcpdhniakpbaaaDoor.X
open Go.RowKit Go.Sort Go.Lib Go.Proofs.YthcpdhniakpbaaaDoorW.PrintWords Go.Proofs.YthcpdhniakpbaaaDoorW.PrintLast Go.Proofs.YthcpdhniakpbaaaDoorW.PrintMore
set_option linter.unusedVariables false
set_option linter.unusedSimpArgs false
theorem Ev.pick {α : Type} {c : Prop} [Decidable c] {g g' : Nat → Option α} {r : α} (h : c) (e : Ev g r) : Ev (fun k => if c then g k else g' k) r := Ev.congr (fun k => if_pos h) e
theorem Ev.skip {α : Type} {c : Prop} [Decidable c] {g g' : Nat → Option α} {r : α} (h : ¬ c) (e : Ev g' r) : Ev (fun k => if c then g k else g' k) r := Ev.congr (fun k => if_neg h) e
def eAc : ByteArray := ⟨#[195, 169]⟩
def fiL : ByteArray := ⟨#[239, 172, 129]⟩
def cAc : ByteArray := ⟨#[99, 204, 129, 204, 167]⟩
def eDc : ByteArray := ⟨#[101, 204, 129]⟩
theorem aw1 : (bytesOfL (decD (chs eAc))).toList = ([101, 204, 129] : List UInt8) := by decide +kernel
theorem aw2 : (bytesOfL (decD (chs fiL))).toList = ([102, 105] : List UInt8) := by decide +kernel
theorem aw3 : (bytesOfL (compS (decD (chs cAc)))).toList = ([195, 167, 204, 129] : List UInt8) := by decide +kernel
theorem aw4 : ((bytesOfL (compS (decD (chs eAc)))).toList == eAc.toList) = true := by decide +kernel
theorem aw5 : (okS eAc && (okS eDc && decide (decD (chs eAc) = decD (chs eDc)))) = true := by decide +kernel
theorem aw6 : (bytesOfL (stripS (decD (chs eAc)))).toList = ([101] : List UInt8) := by decide +kernel
theorem aw7 : cntM (decD (chs eAc)) = 1 := by decide +kernel
theorem ev_awake : Ev (fun k => bookplatelaw05_awake.f k) true := by
  have s1 : eAc.size ≤ 50000 := by decide
  have s2 : fiL.size ≤ 50000 := by decide
  have s3 : cAc.size ≤ 50000 := by decide
  have s4 : eDc.size ≤ 50000 := by decide
  unfold bookplatelaw05_awake.f
  refine Ev.bind (Ev.of fun k => decompose_eq eAc s1) (Ev.pick aw1 ?_)
  refine Ev.bind (Ev.of fun k => decompose_eq fiL s2) (Ev.pick aw2 ?_)
  refine Ev.bind (Ev.of fun k => compose_eq cAc s3) (Ev.pick aw3 ?_)
  refine Ev.bind (Ev.of fun k => is_eq eAc s1) (Ev.pick aw4 ?_)
  refine Ev.bind (ev_equal eAc eDc s1 s4) (Ev.pick aw5 ?_)
  refine Ev.bind (Ev.of fun k => strip_eq eAc s1) (Ev.pick aw6 ?_)
  refine Ev.bind (ev_marks eAc s1) ?_
  exact Ev.of fun k => by rw [aw7]; rfl
end Go.Proofs.YthcpdhniakpbaaaDoor.X
end

section
namespace Go.Proofs.YthcpdhniakpbaaaDoor.X
open Go.RowKit Go.Proofs.YthcpdhniakpbaaaDoorW.PrintWords Go.Proofs.YthcpdhniakpbaaaDoorW.PrintLast Go.Proofs.YthcpdhniakpbaaaDoorW.PrintMore
attribute [local go_sem] max2_int min2_int max_two min_two max_three min_three max_four min_four
set_option linter.unusedVariables false
set_option linter.unusedSimpArgs false
def bookplatelaw05_NormalJoins.j0 : Nat → ByteArray → ByteArray → Bool → Option (Bool)
  | 0, _, _, _ => none
  | k + 1, x0, x1, x48 => if x48 = true then (some true) else (if x0.size + x1.size ≤ 9223372036854775807 then ((normal_Decompose.f (x0 ++ x1)).bind fun t688 => ((normal_Decompose.f x0).bind fun t689 => ((normal_Decompose.f x1).bind fun t690 => (if t689.size + t690.size ≤ 9223372036854775807 then (if t688.toList = (t689 ++ t690).toList then ((normal_Strip.f (x0 ++ x1)).bind fun t691 => ((normal_Strip.f x0).bind fun t692 => ((normal_Strip.f x1).bind fun t693 => (if t692.size + t693.size ≤ 9223372036854775807 then (if t691.toList = (t692 ++ t693).toList then ((normal_Marks.f k (x0 ++ x1)).bind fun t694 => ((normal_Marks.f k x0).bind fun t695 => ((normal_Marks.f k x1).bind fun t696 => (some (t694 == (wrap64 (t695 + t696))))))) else (some false)) else (none))))) else (some false)) else (none))))) else (none))
def bookplatelaw05_NormalJoins.f (k : Nat) (a0 : ByteArray) (a1 : ByteArray) : Option (Bool) := (bookplatelaw05_awake.f k).bind fun t677 => (if t677 = true then ((bookplateref04_Decode.f k a0).bind fun bt678 => ((bookplateref04_Decode.f k a1).bind fun bt682 => (if (a0.size : Int) > 40 then (bookplatelaw05_NormalJoins.j0 k a0 a1 true) else (if (a1.size : Int) > 40 then (bookplatelaw05_NormalJoins.j0 k a0 a1 true) else (if bt678.2 = true then (if bt682.2 = true then (if (bt682.1.length : Int) > 0 then (if 0 < (bt682.1.length : Int) then ((bookplatelaw05_marks.f k (rd bt682.1 0)).bind fun t687 => (bookplatelaw05_NormalJoins.j0 k a0 a1 (decide (t687 > 0)))) else (none)) else (bookplatelaw05_NormalJoins.j0 k a0 a1 false)) else (bookplatelaw05_NormalJoins.j0 k a0 a1 true)) else (bookplatelaw05_NormalJoins.j0 k a0 a1 true)))))) else (some false))
set_option maxHeartbeats 8000000 in
set_option maxRecDepth 100000 in
theorem bookplatelaw05_NormalJoins.calls (k : Nat) (a0 : ByteArray) (a1 : ByteArray) (r : Bool) (w : World) (hG : GT1 w) (h : bookplatelaw05_NormalJoins.f k a0 a1 = some r) :
    Calls Tryd.prog 14 #[.string a0, .string a1] w fun e w' => e = .returned (.bool r) ∧ Below w.heap.size w w' := by
  have HG := Aside0.mk hG
  clear hG
  have HB := Aside0.mk (Below.refl w.heap.size w)
  have H : ((bookplatelaw05_awake.f k).bind fun t677 => (if t677 = true then ((bookplateref04_Decode.f k a0).bind fun bt678 => ((bookplateref04_Decode.f k a1).bind fun bt682 => (if (a0.size : Int) > 40 then (bookplatelaw05_NormalJoins.j0 k a0 a1 true) else (if (a1.size : Int) > 40 then (bookplatelaw05_NormalJoins.j0 k a0 a1 true) else (if bt678.2 = true then (if bt682.2 = true then (if (bt682.1.length : Int) > 0 then (if 0 < (bt682.1.length : Int) then ((bookplatelaw05_marks.f k (rd bt682.1 0)).bind fun t687 => (bookplatelaw05_NormalJoins.j0 k a0 a1 (decide (t687 > 0)))) else (none)) else (bookplatelaw05_NormalJoins.j0 k a0 a1 false)) else (bookplatelaw05_NormalJoins.j0 k a0 a1 true)) else (bookplatelaw05_NormalJoins.j0 k a0 a1 true)))))) else (some false))) = some r := h
  clear h
  replace H := Option.bind_eq_some_iff.mp H
  obtain ⟨t677, A30, H⟩ := H
  replace H : (if t677 = true then ((bookplateref04_Decode.f k a0).bind fun bt678 => ((bookplateref04_Decode.f k a1).bind fun bt682 => (if (a0.size : Int) > 40 then (bookplatelaw05_NormalJoins.j0 k a0 a1 true) else (if (a1.size : Int) > 40 then (bookplatelaw05_NormalJoins.j0 k a0 a1 true) else (if bt678.2 = true then (if bt682.2 = true then (if (bt682.1.length : Int) > 0 then (if 0 < (bt682.1.length : Int) then ((bookplatelaw05_marks.f k (rd bt682.1 0)).bind fun t687 => (bookplatelaw05_NormalJoins.j0 k a0 a1 (decide (t687 > 0)))) else (none)) else (bookplatelaw05_NormalJoins.j0 k a0 a1 false)) else (bookplatelaw05_NormalJoins.j0 k a0 a1 true)) else (bookplatelaw05_NormalJoins.j0 k a0 a1 true)))))) else (some false)) = some r := H
  have A3 := Aside0.mk A30
  clear A30
  by_cases c4 : t677 = true
  · subst c4
    have H1 : ((bookplateref04_Decode.f k a0).bind fun bt678 => ((bookplateref04_Decode.f k a1).bind fun bt682 => (if (a0.size : Int) > 40 then (bookplatelaw05_NormalJoins.j0 k a0 a1 true) else (if (a1.size : Int) > 40 then (bookplatelaw05_NormalJoins.j0 k a0 a1 true) else (if bt678.2 = true then (if bt682.2 = true then (if (bt682.1.length : Int) > 0 then (if 0 < (bt682.1.length : Int) then ((bookplatelaw05_marks.f k (rd bt682.1 0)).bind fun t687 => (bookplatelaw05_NormalJoins.j0 k a0 a1 (decide (t687 > 0)))) else (none)) else (bookplatelaw05_NormalJoins.j0 k a0 a1 false)) else (bookplatelaw05_NormalJoins.j0 k a0 a1 true)) else (bookplatelaw05_NormalJoins.j0 k a0 a1 true)))))) = some r := by rw [if_pos rfl] at H; exact H
    clear H
    have H := H1
    clear H1
    replace H := Option.bind_eq_some_iff.mp H
    obtain ⟨⟨t678, t679⟩, A50, H⟩ := H
    replace H : ((bookplateref04_Decode.f k a1).bind fun bt682 => (if (a0.size : Int) > 40 then (bookplatelaw05_NormalJoins.j0 k a0 a1 true) else (if (a1.size : Int) > 40 then (bookplatelaw05_NormalJoins.j0 k a0 a1 true) else (if t679 = true then (if bt682.2 = true then (if (bt682.1.length : Int) > 0 then (if 0 < (bt682.1.length : Int) then ((bookplatelaw05_marks.f k (rd bt682.1 0)).bind fun t687 => (bookplatelaw05_NormalJoins.j0 k a0 a1 (decide (t687 > 0)))) else (none)) else (bookplatelaw05_NormalJoins.j0 k a0 a1 false)) else (bookplatelaw05_NormalJoins.j0 k a0 a1 true)) else (bookplatelaw05_NormalJoins.j0 k a0 a1 true))))) = some r := H
    have A5 := Aside0.mk A50
    clear A50
    replace H := Option.bind_eq_some_iff.mp H
    obtain ⟨⟨t682, t683⟩, A60, H⟩ := H
    replace H : (if (a0.size : Int) > 40 then (bookplatelaw05_NormalJoins.j0 k a0 a1 true) else (if (a1.size : Int) > 40 then (bookplatelaw05_NormalJoins.j0 k a0 a1 true) else (if t679 = true then (if t683 = true then (if (t682.length : Int) > 0 then (if 0 < (t682.length : Int) then ((bookplatelaw05_marks.f k (rd t682 0)).bind fun t687 => (bookplatelaw05_NormalJoins.j0 k a0 a1 (decide (t687 > 0)))) else (none)) else (bookplatelaw05_NormalJoins.j0 k a0 a1 false)) else (bookplatelaw05_NormalJoins.j0 k a0 a1 true)) else (bookplatelaw05_NormalJoins.j0 k a0 a1 true)))) = some r := H
    have A6 := Aside0.mk A60
    clear A60
    have HC7 := Aside0.mk H
    clear H
    go_enter Tryd.func14, Tryd.ntmps14
    go_upto_region 5 with (first | ((with_reducible refine gate_callee (f := 37) rfl ?_); refine goesL_ (some 9) rfl rfl Tryd.func37 (by kernel_rfl) rfl #[] rfl (by (try simp only [List.map_toArray, List.map_cons, List.map_nil]); first | done | rfl | (simp only [List.length_drop, List.length_take]; rfl)) ?_; (with_reducible refine (bookplatelaw05_awake.calls k  true _ ?side1 A3.out).mono ?_); (case side1 => exact GT1.below (HG.out) (by repeat (first | (with_reducible first | exact HB.out | apply below_alloc | apply pw_below_drewN | apply below_drew1) | exact HB.out))); rintro e w8 ⟨rfl, hb⟩; refine ⟨_, rfl, ?_⟩; have n0_ := Aside0.mk (below_step (by repeat (first | (with_reducible first | exact HB.out | apply below_alloc | apply pw_below_drewN | apply below_drew1) | exact HB.out)) hb); clear HB; have HB := n0_; clear n0_; (try clear hb); (try clear hb2); (try clear hk); (try clear hi)) | ((with_reducible refine gate_callee (f := 31) rfl ?_); refine goesL_ (some 13) rfl rfl Tryd.func31 (by kernel_rfl) rfl #[.string a0] rfl (by (try simp only [List.map_toArray, List.map_cons, List.map_nil]); first | done | rfl | (simp only [List.length_drop, List.length_take]; rfl)) ?_; (with_reducible refine (bookplateref04_Decode.calls k a0 t678 t679 _ A5.out).mono ?_); rintro e w9 ⟨v680, rfl, ho0, hb⟩; refine ⟨_, rfl, ?_⟩; have n0_ := Aside0.mk (Kd.R_lower ho0 (below_size (by repeat (first | (with_reducible first | exact HB.out | apply below_alloc | apply pw_below_drewN | apply below_drew1) | exact HB.out)))); have n1_ := Aside0.mk (below_step (by repeat (first | (with_reducible first | exact HB.out | apply below_alloc | apply pw_below_drewN | apply below_drew1) | exact HB.out)) hb); clear HB; have HO681 := n0_; have HB := n1_; clear n0_ n1_; (try clear hb); (try clear hb2); (try clear hk); (try clear hi); (try clear ho0)) | ((with_reducible refine gate_callee (f := 31) rfl ?_); refine goesL_ (some 18) rfl rfl Tryd.func31 (by kernel_rfl) rfl #[.string a1] rfl (by (try simp only [List.map_toArray, List.map_cons, List.map_nil]); first | done | rfl | (simp only [List.length_drop, List.length_take]; rfl)) ?_; (with_reducible refine (bookplateref04_Decode.calls k a1 t682 t683 _ A6.out).mono ?_); rintro e w10 ⟨v684, rfl, ho0, hb⟩; refine ⟨_, rfl, ?_⟩; have n0_ := Aside0.mk (Kd.R_elder' (by (with_reducible repeat (first | apply Kd.R_alloc | apply Kd.R_drewN | apply Kd.R_drew)); exact HO681.out) (Kd.R_base ho0) hb); have n1_ := Aside0.mk (Kd.R_lower (Kd.R_new' ho0 (Kd.R_lt (by (with_reducible repeat (first | apply Kd.R_alloc | apply Kd.R_drewN | apply Kd.R_drew)); exact HO681.out))) (below_size (by repeat (first | (with_reducible first | exact HB.out | apply below_alloc | apply pw_below_drewN | apply below_drew1) | exact HB.out)))); have n2_ := Aside0.mk (below_step (by repeat (first | (with_reducible first | exact HB.out | apply below_alloc | apply pw_below_drewN | apply below_drew1) | exact HB.out)) hb); clear HO681; clear HB; have HO681 := n0_; have HO685 := n1_; have HB := n2_; clear n0_ n1_ n2_; (try clear hb); (try clear hb2); (try clear hk); (try clear hi); (try clear ho0)))
    (try simp only [Act.put, List.setIfInBounds_toArray, List.set_cons_zero, List.set_cons_succ])
    go_cut [48] (fun v48 wc => ∃ (kq : Nat) (x48_6 : Bool), v48 = .bool x48_6 ∧ Aside0 (bookplatelaw05_NormalJoins.j0 kq a0 a1 x48_6 = some r) ∧ Aside0 (kq ≤ k) ∧ Aside0 (Below w.heap.size w wc))
    case first =>
      have H := HC7.out
      clear HC7
      by_cases c11 : (a0.size : Int) > 40
      · rw [if_pos c11] at H
        have c11b0 : decide (40 < (a0.size : Int)) = true := decide_eq_true c11
        have c11b1 : decide (40 < a0.size) = true := decide_eq_true (by omega)
        clear c11
        (first | rw [c11b0] | (simp only [i64_w, i32_w]; rw [c11b0]) | skip)
        have H' := Aside0.mk H
        clear H
        go_wp2
        go_meet
        case rel => exact ⟨_, (true), (by first | rfl | (simp; done) | (simp [*]; done)), H', ⟨by first | omega | exact Nat.le_refl _⟩, ⟨by repeat (first | (with_reducible first | exact HB.out | apply below_alloc | apply pw_below_drewN | apply below_drew1) | exact HB.out)⟩⟩
      · rw [if_neg c11] at H
        have c11b0 : decide (40 < (a0.size : Int)) = false := decide_eq_false c11
        have c11b1 : decide (40 < a0.size) = false := decide_eq_false (by omega)
        clear c11
        (first | rw [c11b0] | (simp only [i64_w, i32_w]; rw [c11b0]) | skip)
        by_cases c12 : (a1.size : Int) > 40
        · rw [if_pos c12] at H
          have c12b0 : decide (40 < (a1.size : Int)) = true := decide_eq_true c12
          have c12b1 : decide (40 < a1.size) = true := decide_eq_true (by omega)
          clear c12
          have H' := Aside0.mk H
          clear H
          go_wp2
          go_meet
          case rel => exact ⟨_, (true), (by first | rfl | (simp; done) | (simp [*]; done)), H', ⟨by first | omega | exact Nat.le_refl _⟩, ⟨by repeat (first | (with_reducible first | exact HB.out | apply below_alloc | apply pw_below_drewN | apply below_drew1) | exact HB.out)⟩⟩
        · rw [if_neg c12] at H
          have c12b0 : decide (40 < (a1.size : Int)) = false := decide_eq_false c12
          have c12b1 : decide (40 < a1.size) = false := decide_eq_false (by omega)
          clear c12
          by_cases c13 : t679 = true
          · subst c13
            have H1 : (if t683 = true then (if (t682.length : Int) > 0 then (if 0 < (t682.length : Int) then ((bookplatelaw05_marks.f k (rd t682 0)).bind fun t687 => (bookplatelaw05_NormalJoins.j0 k a0 a1 (decide (t687 > 0)))) else (none)) else (bookplatelaw05_NormalJoins.j0 k a0 a1 false)) else (bookplatelaw05_NormalJoins.j0 k a0 a1 true)) = some r := by rw [if_pos rfl] at H; exact H
            clear H
            have H := H1
            clear H1
            by_cases c14 : t683 = true
            · subst c14
              have H1 : (if (t682.length : Int) > 0 then (if 0 < (t682.length : Int) then ((bookplatelaw05_marks.f k (rd t682 0)).bind fun t687 => (bookplatelaw05_NormalJoins.j0 k a0 a1 (decide (t687 > 0)))) else (none)) else (bookplatelaw05_NormalJoins.j0 k a0 a1 false)) = some r := by rw [if_pos rfl] at H; exact H
              clear H
              have H := H1
              clear H1
              by_cases c15 : (t682.length : Int) > 0
              · rw [if_pos c15] at H
                have c15b0 : decide (0 < (t682.length : Int)) = true := decide_eq_true c15
                have c15b1 : decide (0 < t682.length) = true := decide_eq_true (by omega)
                clear c15
                by_cases c16 : 0 < (t682.length : Int)
                · rw [if_pos c16] at H
                  have c16b0 : decide (0 < (t682.length : Int)) = true := decide_eq_true c16
                  have c16b1 : decide (0 < t682.length) = true := decide_eq_true (by omega)
                  clear c16
                  replace H := Option.bind_eq_some_iff.mp H
                  obtain ⟨t687, A170, H⟩ := H
                  replace H : (bookplatelaw05_NormalJoins.j0 k a0 a1 (decide (t687 > 0))) = some r := H
                  have A17 := Aside0.mk A170
                  clear A170
                  have H' := Aside0.mk H
                  clear H
                  obtain ⟨Ao18, co18, eo18⟩ := Kd.R_slice HO685.out
                  subst eo18
                  have p686 : 0 ≤ (0 : Int) := (by omega)
                  have q686 : 0 < (t682.length : Int) := of_decide_eq_true (by first | (with_reducible assumption) | assumption)
                  obtain ⟨ad686, e686, hx686_0⟩ := Kd.at_int (Kd.R_reads' HO685.out).2.2 0 p686 q686
                  cases e686
                  have qi686 : (0 < t682.length) = True := eq_true (by omega)
                  (try rw [show ((0 : Int)).toNat = 0 from rfl] at hx686_0)
                  (try rw [Addr.add_zero'] at hx686_0)
                  replace p686 := eq_true p686
                  replace q686 := eq_true q686
                  go_wp2_with (first | (go_at_call 51; (with_reducible refine (bookplatelaw05_marks.calls k (rd t682 0) t687 _ A17.out).mono ?_); rintro e w' ⟨rfl, ⟨nd, rfl⟩⟩))
                  go_meet
                  case rel => exact ⟨_, (decide (t687 > 0)), (by first | rfl | (simp; done) | (simp [*]; done)), H', ⟨by first | omega | exact Nat.le_refl _⟩, ⟨by repeat (first | (with_reducible first | exact HB.out | apply below_alloc | apply pw_below_drewN | apply below_drew1) | exact HB.out)⟩⟩
                · rw [if_neg c16] at H
                  exact absurd H (by simp)
              · rw [if_neg c15] at H
                have c15b0 : decide (0 < (t682.length : Int)) = false := decide_eq_false c15
                have c15b1 : decide (0 < t682.length) = false := decide_eq_false (by omega)
                clear c15
                have H' := Aside0.mk H
                clear H
                obtain ⟨Ao19, co19, eo19⟩ := Kd.R_slice HO685.out
                subst eo19
                go_wp2
                go_meet
                case rel => exact ⟨_, (false), (by first | rfl | (simp; done) | (simp [*]; done)), H', ⟨by first | omega | exact Nat.le_refl _⟩, ⟨by repeat (first | (with_reducible first | exact HB.out | apply below_alloc | apply pw_below_drewN | apply below_drew1) | exact HB.out)⟩⟩
            · replace c14 := Bool.eq_false_iff.mpr c14
              subst c14
              have H1 : (bookplatelaw05_NormalJoins.j0 k a0 a1 true) = some r := by rw [if_neg (show ¬ (false = true) by decide)] at H; exact H
              clear H
              have H := H1
              clear H1
              have H' := Aside0.mk H
              clear H
              go_wp2
              go_meet
              case rel => exact ⟨_, (true), (by first | rfl | (simp; done) | (simp [*]; done)), H', ⟨by first | omega | exact Nat.le_refl _⟩, ⟨by repeat (first | (with_reducible first | exact HB.out | apply below_alloc | apply pw_below_drewN | apply below_drew1) | exact HB.out)⟩⟩
          · replace c13 := Bool.eq_false_iff.mpr c13
            subst c13
            have H1 : (bookplatelaw05_NormalJoins.j0 k a0 a1 true) = some r := by rw [if_neg (show ¬ (false = true) by decide)] at H; exact H
            clear H
            have H := H1
            clear H1
            have H' := Aside0.mk H
            clear H
            go_wp2
            go_meet
            case rel => exact ⟨_, (true), (by first | rfl | (simp; done) | (simp [*]; done)), H', ⟨by first | omega | exact Nat.le_refl _⟩, ⟨by repeat (first | (with_reducible first | exact HB.out | apply below_alloc | apply pw_below_drewN | apply below_drew1) | exact HB.out)⟩⟩
    case rest =>
      clear HC7
      try clear c1
      try clear p2
      try clear c3
      try clear c4
      try clear p6
      try clear q6
      try clear hx6
      try clear qi6
      try clear c11
      try clear c11b0
      try clear c11b1
      try clear c12
      try clear c12b0
      try clear c12b1
      try clear c13
      try clear c14
      try clear c15
      try clear c15b0
      try clear c15b1
      try clear c16
      try clear c16b0
      try clear c16b1
      try clear hx686_0
      try clear p686
      try clear q686
      obtain ⟨kq, x48_6, rfl, HA, HJ6, HB⟩ := hcut
      cases kq with
      | zero => exact absurd HA.out (by simp [bookplatelaw05_NormalJoins.j0])
      | succ kj6 =>
        have H := HA.out
        clear HA
        simp only [bookplatelaw05_NormalJoins.j0] at H
        by_cases c20 : x48_6 = true
        · subst c20
          have H1 : (some true) = some r := by rw [if_pos rfl] at H; exact H
          clear H
          have H := H1
          clear H1
          obtain rfl := Option.some.inj H
          go_wp2
          go_ret
          exact ⟨by first | rfl | (simp [errW_none, errW_some] <;> rfl) | (simp [*, errW_none, errW_some] <;> rfl), by repeat (first | (with_reducible first | exact HB.out | apply below_alloc | apply pw_below_drewN | apply below_drew1) | exact HB.out)⟩
        · replace c20 := Bool.eq_false_iff.mpr c20
          subst c20
          have H1 : (if a0.size + a1.size ≤ 9223372036854775807 then ((normal_Decompose.f (a0 ++ a1)).bind fun t688 => ((normal_Decompose.f a0).bind fun t689 => ((normal_Decompose.f a1).bind fun t690 => (if t689.size + t690.size ≤ 9223372036854775807 then (if t688.toList = (t689 ++ t690).toList then ((normal_Strip.f (a0 ++ a1)).bind fun t691 => ((normal_Strip.f a0).bind fun t692 => ((normal_Strip.f a1).bind fun t693 => (if t692.size + t693.size ≤ 9223372036854775807 then (if t691.toList = (t692 ++ t693).toList then ((normal_Marks.f kj6 (a0 ++ a1)).bind fun t694 => ((normal_Marks.f kj6 a0).bind fun t695 => ((normal_Marks.f kj6 a1).bind fun t696 => (some (t694 == (wrap64 (t695 + t696))))))) else (some false)) else (none))))) else (some false)) else (none))))) else (none)) = some r := by rw [if_neg (show ¬ (false = true) by decide)] at H; exact H
          clear H
          have H := H1
          clear H1
          by_cases c21 : a0.size + a1.size ≤ 9223372036854775807
          · rw [if_pos c21] at H
            have c21b0 := eq_true c21
            have c21b1 : decide (a0.size + a1.size ≤ 9223372036854775807) = true := decide_eq_true c21
            try have c21b2 : (9223372036854775807 < a0.size + a1.size) = False := eq_false (Nat.not_lt.2 c21)
            replace H := Option.bind_eq_some_iff.mp H
            obtain ⟨t688, A220, H⟩ := H
            replace H : ((normal_Decompose.f a0).bind fun t689 => ((normal_Decompose.f a1).bind fun t690 => (if t689.size + t690.size ≤ 9223372036854775807 then (if t688.toList = (t689 ++ t690).toList then ((normal_Strip.f (a0 ++ a1)).bind fun t691 => ((normal_Strip.f a0).bind fun t692 => ((normal_Strip.f a1).bind fun t693 => (if t692.size + t693.size ≤ 9223372036854775807 then (if t691.toList = (t692 ++ t693).toList then ((normal_Marks.f kj6 (a0 ++ a1)).bind fun t694 => ((normal_Marks.f kj6 a0).bind fun t695 => ((normal_Marks.f kj6 a1).bind fun t696 => (some (t694 == (wrap64 (t695 + t696))))))) else (some false)) else (none))))) else (some false)) else (none)))) = some r := H
            have A22 := Aside0.mk A220
            clear A220
            replace H := Option.bind_eq_some_iff.mp H
            obtain ⟨t689, A230, H⟩ := H
            replace H : ((normal_Decompose.f a1).bind fun t690 => (if t689.size + t690.size ≤ 9223372036854775807 then (if t688.toList = (t689 ++ t690).toList then ((normal_Strip.f (a0 ++ a1)).bind fun t691 => ((normal_Strip.f a0).bind fun t692 => ((normal_Strip.f a1).bind fun t693 => (if t692.size + t693.size ≤ 9223372036854775807 then (if t691.toList = (t692 ++ t693).toList then ((normal_Marks.f kj6 (a0 ++ a1)).bind fun t694 => ((normal_Marks.f kj6 a0).bind fun t695 => ((normal_Marks.f kj6 a1).bind fun t696 => (some (t694 == (wrap64 (t695 + t696))))))) else (some false)) else (none))))) else (some false)) else (none))) = some r := H
            have A23 := Aside0.mk A230
            clear A230
            replace H := Option.bind_eq_some_iff.mp H
            obtain ⟨t690, A240, H⟩ := H
            replace H : (if t689.size + t690.size ≤ 9223372036854775807 then (if t688.toList = (t689 ++ t690).toList then ((normal_Strip.f (a0 ++ a1)).bind fun t691 => ((normal_Strip.f a0).bind fun t692 => ((normal_Strip.f a1).bind fun t693 => (if t692.size + t693.size ≤ 9223372036854775807 then (if t691.toList = (t692 ++ t693).toList then ((normal_Marks.f kj6 (a0 ++ a1)).bind fun t694 => ((normal_Marks.f kj6 a0).bind fun t695 => ((normal_Marks.f kj6 a1).bind fun t696 => (some (t694 == (wrap64 (t695 + t696))))))) else (some false)) else (none))))) else (some false)) else (none)) = some r := H
            have A24 := Aside0.mk A240
            clear A240
            by_cases c25 : t689.size + t690.size ≤ 9223372036854775807
            · rw [if_pos c25] at H
              have c25b0 := eq_true c25
              have c25b1 : decide (t689.size + t690.size ≤ 9223372036854775807) = true := decide_eq_true c25
              try have c25b2 : (9223372036854775807 < t689.size + t690.size) = False := eq_false (Nat.not_lt.2 c25)
              by_cases c26 : t688.toList = (t689 ++ t690).toList
              · rw [if_pos c26] at H
                have c26b0 : (t688.toList == (t689 ++ t690).toList) = true := beq_iff_eq.mpr c26
                have c26b1 : (t688.toList != (t689 ++ t690).toList) = false := bne_eq_false_iff_eq.mpr c26
                clear c26
                replace H := Option.bind_eq_some_iff.mp H
                obtain ⟨t691, A270, H⟩ := H
                replace H : ((normal_Strip.f a0).bind fun t692 => ((normal_Strip.f a1).bind fun t693 => (if t692.size + t693.size ≤ 9223372036854775807 then (if t691.toList = (t692 ++ t693).toList then ((normal_Marks.f kj6 (a0 ++ a1)).bind fun t694 => ((normal_Marks.f kj6 a0).bind fun t695 => ((normal_Marks.f kj6 a1).bind fun t696 => (some (t694 == (wrap64 (t695 + t696))))))) else (some false)) else (none)))) = some r := H
                have A27 := Aside0.mk A270
                clear A270
                replace H := Option.bind_eq_some_iff.mp H
                obtain ⟨t692, A280, H⟩ := H
                replace H : ((normal_Strip.f a1).bind fun t693 => (if t692.size + t693.size ≤ 9223372036854775807 then (if t691.toList = (t692 ++ t693).toList then ((normal_Marks.f kj6 (a0 ++ a1)).bind fun t694 => ((normal_Marks.f kj6 a0).bind fun t695 => ((normal_Marks.f kj6 a1).bind fun t696 => (some (t694 == (wrap64 (t695 + t696))))))) else (some false)) else (none))) = some r := H
                have A28 := Aside0.mk A280
                clear A280
                replace H := Option.bind_eq_some_iff.mp H
                obtain ⟨t693, A290, H⟩ := H
                replace H : (if t692.size + t693.size ≤ 9223372036854775807 then (if t691.toList = (t692 ++ t693).toList then ((normal_Marks.f kj6 (a0 ++ a1)).bind fun t694 => ((normal_Marks.f kj6 a0).bind fun t695 => ((normal_Marks.f kj6 a1).bind fun t696 => (some (t694 == (wrap64 (t695 + t696))))))) else (some false)) else (none)) = some r := H
                have A29 := Aside0.mk A290
                clear A290
                by_cases c30 : t692.size + t693.size ≤ 9223372036854775807
                · rw [if_pos c30] at H
                  have c30b0 := eq_true c30
                  have c30b1 : decide (t692.size + t693.size ≤ 9223372036854775807) = true := decide_eq_true c30
                  try have c30b2 : (9223372036854775807 < t692.size + t693.size) = False := eq_false (Nat.not_lt.2 c30)
                  by_cases c31 : t691.toList = (t692 ++ t693).toList
                  · rw [if_pos c31] at H
                    have c31b0 : (t691.toList == (t692 ++ t693).toList) = true := beq_iff_eq.mpr c31
                    have c31b1 : (t691.toList != (t692 ++ t693).toList) = false := bne_eq_false_iff_eq.mpr c31
                    clear c31
                    replace H := Option.bind_eq_some_iff.mp H
                    obtain ⟨t694, A320, H⟩ := H
                    replace H : ((normal_Marks.f kj6 a0).bind fun t695 => ((normal_Marks.f kj6 a1).bind fun t696 => (some (t694 == (wrap64 (t695 + t696)))))) = some r := H
                    have A32 := Aside0.mk A320
                    clear A320
                    replace H := Option.bind_eq_some_iff.mp H
                    obtain ⟨t695, A330, H⟩ := H
                    replace H : ((normal_Marks.f kj6 a1).bind fun t696 => (some (t694 == (wrap64 (t695 + t696))))) = some r := H
                    have A33 := Aside0.mk A330
                    clear A330
                    replace H := Option.bind_eq_some_iff.mp H
                    obtain ⟨t696, A340, H⟩ := H
                    replace H : (some (t694 == (wrap64 (t695 + t696)))) = some r := H
                    have A34 := Aside0.mk A340
                    clear A340
                    obtain rfl := Option.some.inj H
                    go_wp2_with (first | ((with_reducible refine gate_callee (f := 38) rfl ?_); refine goesL_ (some 52) rfl rfl Tryd.func38 (by kernel_rfl) rfl #[.string (a0 ++ a1)] rfl (by (try simp only [List.map_toArray, List.map_cons, List.map_nil]); first | done | rfl | (simp only [List.length_drop, List.length_take]; rfl)) ?_; (with_reducible refine (normal_Decompose.calls (a0 ++ a1) t688 _ ?side1 A22.out).mono ?_); (case side1 => exact GT1.below (HG.out) (by repeat (first | (with_reducible first | exact HB.out | apply below_alloc | apply pw_below_drewN | apply below_drew1) | exact HB.out))); rintro e w35 ⟨rfl, hb⟩; refine ⟨_, rfl, ?_⟩; have n0_ := Aside0.mk (below_step (by repeat (first | (with_reducible first | exact HB.out | apply below_alloc | apply pw_below_drewN | apply below_drew1) | exact HB.out)) hb); clear HB; have HB := n0_; clear n0_; (try clear hb); (try clear hb2); (try clear hk); (try clear hi)) | ((with_reducible refine gate_callee (f := 38) rfl ?_); refine goesL_ (some 54) rfl rfl Tryd.func38 (by kernel_rfl) rfl #[.string a0] rfl (by (try simp only [List.map_toArray, List.map_cons, List.map_nil]); first | done | rfl | (simp only [List.length_drop, List.length_take]; rfl)) ?_; (with_reducible refine (normal_Decompose.calls a0 t689 _ ?side1 A23.out).mono ?_); (case side1 => exact GT1.below (HG.out) (by repeat (first | (with_reducible first | exact HB.out | apply below_alloc | apply pw_below_drewN | apply below_drew1) | exact HB.out))); rintro e w36 ⟨rfl, hb⟩; refine ⟨_, rfl, ?_⟩; have n0_ := Aside0.mk (below_step (by repeat (first | (with_reducible first | exact HB.out | apply below_alloc | apply pw_below_drewN | apply below_drew1) | exact HB.out)) hb); clear HB; have HB := n0_; clear n0_; (try clear hb); (try clear hb2); (try clear hk); (try clear hi)) | ((with_reducible refine gate_callee (f := 38) rfl ?_); refine goesL_ (some 56) rfl rfl Tryd.func38 (by kernel_rfl) rfl #[.string a1] rfl (by (try simp only [List.map_toArray, List.map_cons, List.map_nil]); first | done | rfl | (simp only [List.length_drop, List.length_take]; rfl)) ?_; (with_reducible refine (normal_Decompose.calls a1 t690 _ ?side1 A24.out).mono ?_); (case side1 => exact GT1.below (HG.out) (by repeat (first | (with_reducible first | exact HB.out | apply below_alloc | apply pw_below_drewN | apply below_drew1) | exact HB.out))); rintro e w37 ⟨rfl, hb⟩; refine ⟨_, rfl, ?_⟩; have n0_ := Aside0.mk (below_step (by repeat (first | (with_reducible first | exact HB.out | apply below_alloc | apply pw_below_drewN | apply below_drew1) | exact HB.out)) hb); clear HB; have HB := n0_; clear n0_; (try clear hb); (try clear hb2); (try clear hk); (try clear hi)) | (go_at_call 44; (with_reducible refine (normal_Strip.calls (a0 ++ a1) t691 _ ?side1 A27.out).mono ?_); (case side1 => exact GT1.below (HG.out) (by repeat (first | (with_reducible first | exact HB.out | apply below_alloc | apply pw_below_drewN | apply below_drew1) | exact HB.out))); rintro e w38 ⟨rfl, hb⟩; have n0_ := Aside0.mk (below_step (by repeat (first | (with_reducible first | exact HB.out | apply below_alloc | apply pw_below_drewN | apply below_drew1) | exact HB.out)) hb); clear HB; have HB := n0_; clear n0_; (try clear hb); (try clear hb2); (try clear hk); (try clear hi)) | (go_at_call 44; (with_reducible refine (normal_Strip.calls a0 t692 _ ?side1 A28.out).mono ?_); (case side1 => exact GT1.below (HG.out) (by repeat (first | (with_reducible first | exact HB.out | apply below_alloc | apply pw_below_drewN | apply below_drew1) | exact HB.out))); rintro e w39 ⟨rfl, hb⟩; have n0_ := Aside0.mk (below_step (by repeat (first | (with_reducible first | exact HB.out | apply below_alloc | apply pw_below_drewN | apply below_drew1) | exact HB.out)) hb); clear HB; have HB := n0_; clear n0_; (try clear hb); (try clear hb2); (try clear hk); (try clear hi)) | (go_at_call 44; (with_reducible refine (normal_Strip.calls a1 t693 _ ?side1 A29.out).mono ?_); (case side1 => exact GT1.below (HG.out) (by repeat (first | (with_reducible first | exact HB.out | apply below_alloc | apply pw_below_drewN | apply below_drew1) | exact HB.out))); rintro e w40 ⟨rfl, hb⟩; have n0_ := Aside0.mk (below_step (by repeat (first | (with_reducible first | exact HB.out | apply below_alloc | apply pw_below_drewN | apply below_drew1) | exact HB.out)) hb); clear HB; have HB := n0_; clear n0_; (try clear hb); (try clear hb2); (try clear hk); (try clear hi)) | (go_at_call 46; (with_reducible refine (normal_Marks.calls kj6 (a0 ++ a1) t694 _ ?side1 A32.out).mono ?_); (case side1 => exact GT1.below (HG.out) (by repeat (first | (with_reducible first | exact HB.out | apply below_alloc | apply pw_below_drewN | apply below_drew1) | exact HB.out))); rintro e w41 ⟨rfl, hb⟩; have n0_ := Aside0.mk (below_step (by repeat (first | (with_reducible first | exact HB.out | apply below_alloc | apply pw_below_drewN | apply below_drew1) | exact HB.out)) hb); clear HB; have HB := n0_; clear n0_; (try clear hb); (try clear hb2); (try clear hk); (try clear hi)) | (go_at_call 46; (with_reducible refine (normal_Marks.calls kj6 a0 t695 _ ?side1 A33.out).mono ?_); (case side1 => exact GT1.below (HG.out) (by repeat (first | (with_reducible first | exact HB.out | apply below_alloc | apply pw_below_drewN | apply below_drew1) | exact HB.out))); rintro e w42 ⟨rfl, hb⟩; have n0_ := Aside0.mk (below_step (by repeat (first | (with_reducible first | exact HB.out | apply below_alloc | apply pw_below_drewN | apply below_drew1) | exact HB.out)) hb); clear HB; have HB := n0_; clear n0_; (try clear hb); (try clear hb2); (try clear hk); (try clear hi)) | (go_at_call 46; (with_reducible refine (normal_Marks.calls kj6 a1 t696 _ ?side1 A34.out).mono ?_); (case side1 => exact GT1.below (HG.out) (by repeat (first | (with_reducible first | exact HB.out | apply below_alloc | apply pw_below_drewN | apply below_drew1) | exact HB.out))); rintro e w43 ⟨rfl, hb⟩; have n0_ := Aside0.mk (below_step (by repeat (first | (with_reducible first | exact HB.out | apply below_alloc | apply pw_below_drewN | apply below_drew1) | exact HB.out)) hb); clear HB; have HB := n0_; clear n0_; (try clear hb); (try clear hb2); (try clear hk); (try clear hi)))
                    go_ret
                    exact ⟨by first | rfl | (simp [errW_none, errW_some] <;> rfl) | (simp [*, errW_none, errW_some] <;> rfl), by repeat (first | (with_reducible first | exact HB.out | apply below_alloc | apply pw_below_drewN | apply below_drew1) | exact HB.out)⟩
                  · rw [if_neg c31] at H
                    have c31b0 : (t691.toList == (t692 ++ t693).toList) = false := beq_eq_false_iff_ne.mpr c31
                    have c31b1 : (t691.toList != (t692 ++ t693).toList) = true := bne_iff_ne.mpr c31
                    obtain rfl := Option.some.inj H
                    go_wp2_with (first | ((with_reducible refine gate_callee (f := 38) rfl ?_); refine goesL_ (some 52) rfl rfl Tryd.func38 (by kernel_rfl) rfl #[.string (a0 ++ a1)] rfl (by (try simp only [List.map_toArray, List.map_cons, List.map_nil]); first | done | rfl | (simp only [List.length_drop, List.length_take]; rfl)) ?_; (with_reducible refine (normal_Decompose.calls (a0 ++ a1) t688 _ ?side1 A22.out).mono ?_); (case side1 => exact GT1.below (HG.out) (by repeat (first | (with_reducible first | exact HB.out | apply below_alloc | apply pw_below_drewN | apply below_drew1) | exact HB.out))); rintro e w44 ⟨rfl, hb⟩; refine ⟨_, rfl, ?_⟩; have n0_ := Aside0.mk (below_step (by repeat (first | (with_reducible first | exact HB.out | apply below_alloc | apply pw_below_drewN | apply below_drew1) | exact HB.out)) hb); clear HB; have HB := n0_; clear n0_; (try clear hb); (try clear hb2); (try clear hk); (try clear hi)) | ((with_reducible refine gate_callee (f := 38) rfl ?_); refine goesL_ (some 54) rfl rfl Tryd.func38 (by kernel_rfl) rfl #[.string a0] rfl (by (try simp only [List.map_toArray, List.map_cons, List.map_nil]); first | done | rfl | (simp only [List.length_drop, List.length_take]; rfl)) ?_; (with_reducible refine (normal_Decompose.calls a0 t689 _ ?side1 A23.out).mono ?_); (case side1 => exact GT1.below (HG.out) (by repeat (first | (with_reducible first | exact HB.out | apply below_alloc | apply pw_below_drewN | apply below_drew1) | exact HB.out))); rintro e w45 ⟨rfl, hb⟩; refine ⟨_, rfl, ?_⟩; have n0_ := Aside0.mk (below_step (by repeat (first | (with_reducible first | exact HB.out | apply below_alloc | apply pw_below_drewN | apply below_drew1) | exact HB.out)) hb); clear HB; have HB := n0_; clear n0_; (try clear hb); (try clear hb2); (try clear hk); (try clear hi)) | ((with_reducible refine gate_callee (f := 38) rfl ?_); refine goesL_ (some 56) rfl rfl Tryd.func38 (by kernel_rfl) rfl #[.string a1] rfl (by (try simp only [List.map_toArray, List.map_cons, List.map_nil]); first | done | rfl | (simp only [List.length_drop, List.length_take]; rfl)) ?_; (with_reducible refine (normal_Decompose.calls a1 t690 _ ?side1 A24.out).mono ?_); (case side1 => exact GT1.below (HG.out) (by repeat (first | (with_reducible first | exact HB.out | apply below_alloc | apply pw_below_drewN | apply below_drew1) | exact HB.out))); rintro e w46 ⟨rfl, hb⟩; refine ⟨_, rfl, ?_⟩; have n0_ := Aside0.mk (below_step (by repeat (first | (with_reducible first | exact HB.out | apply below_alloc | apply pw_below_drewN | apply below_drew1) | exact HB.out)) hb); clear HB; have HB := n0_; clear n0_; (try clear hb); (try clear hb2); (try clear hk); (try clear hi)) | (go_at_call 44; (with_reducible refine (normal_Strip.calls (a0 ++ a1) t691 _ ?side1 A27.out).mono ?_); (case side1 => exact GT1.below (HG.out) (by repeat (first | (with_reducible first | exact HB.out | apply below_alloc | apply pw_below_drewN | apply below_drew1) | exact HB.out))); rintro e w47 ⟨rfl, hb⟩; have n0_ := Aside0.mk (below_step (by repeat (first | (with_reducible first | exact HB.out | apply below_alloc | apply pw_below_drewN | apply below_drew1) | exact HB.out)) hb); clear HB; have HB := n0_; clear n0_; (try clear hb); (try clear hb2); (try clear hk); (try clear hi)) | (go_at_call 44; (with_reducible refine (normal_Strip.calls a0 t692 _ ?side1 A28.out).mono ?_); (case side1 => exact GT1.below (HG.out) (by repeat (first | (with_reducible first | exact HB.out | apply below_alloc | apply pw_below_drewN | apply below_drew1) | exact HB.out))); rintro e w48 ⟨rfl, hb⟩; have n0_ := Aside0.mk (below_step (by repeat (first | (with_reducible first | exact HB.out | apply below_alloc | apply pw_below_drewN | apply below_drew1) | exact HB.out)) hb); clear HB; have HB := n0_; clear n0_; (try clear hb); (try clear hb2); (try clear hk); (try clear hi)) | (go_at_call 44; (with_reducible refine (normal_Strip.calls a1 t693 _ ?side1 A29.out).mono ?_); (case side1 => exact GT1.below (HG.out) (by repeat (first | (with_reducible first | exact HB.out | apply below_alloc | apply pw_below_drewN | apply below_drew1) | exact HB.out))); rintro e w49 ⟨rfl, hb⟩; have n0_ := Aside0.mk (below_step (by repeat (first | (with_reducible first | exact HB.out | apply below_alloc | apply pw_below_drewN | apply below_drew1) | exact HB.out)) hb); clear HB; have HB := n0_; clear n0_; (try clear hb); (try clear hb2); (try clear hk); (try clear hi)))
                    go_ret
                    exact ⟨by first | rfl | (simp [errW_none, errW_some] <;> rfl) | (simp [*, errW_none, errW_some] <;> rfl), by repeat (first | (with_reducible first | exact HB.out | apply below_alloc | apply pw_below_drewN | apply below_drew1) | exact HB.out)⟩
                · rw [if_neg c30] at H
                  exact absurd H (by simp)
              · rw [if_neg c26] at H
                have c26b0 : (t688.toList == (t689 ++ t690).toList) = false := beq_eq_false_iff_ne.mpr c26
                have c26b1 : (t688.toList != (t689 ++ t690).toList) = true := bne_iff_ne.mpr c26
                obtain rfl := Option.some.inj H
                go_wp2_with (first | ((with_reducible refine gate_callee (f := 38) rfl ?_); refine goesL_ (some 52) rfl rfl Tryd.func38 (by kernel_rfl) rfl #[.string (a0 ++ a1)] rfl (by (try simp only [List.map_toArray, List.map_cons, List.map_nil]); first | done | rfl | (simp only [List.length_drop, List.length_take]; rfl)) ?_; (with_reducible refine (normal_Decompose.calls (a0 ++ a1) t688 _ ?side1 A22.out).mono ?_); (case side1 => exact GT1.below (HG.out) (by repeat (first | (with_reducible first | exact HB.out | apply below_alloc | apply pw_below_drewN | apply below_drew1) | exact HB.out))); rintro e w50 ⟨rfl, hb⟩; refine ⟨_, rfl, ?_⟩; have n0_ := Aside0.mk (below_step (by repeat (first | (with_reducible first | exact HB.out | apply below_alloc | apply pw_below_drewN | apply below_drew1) | exact HB.out)) hb); clear HB; have HB := n0_; clear n0_; (try clear hb); (try clear hb2); (try clear hk); (try clear hi)) | ((with_reducible refine gate_callee (f := 38) rfl ?_); refine goesL_ (some 54) rfl rfl Tryd.func38 (by kernel_rfl) rfl #[.string a0] rfl (by (try simp only [List.map_toArray, List.map_cons, List.map_nil]); first | done | rfl | (simp only [List.length_drop, List.length_take]; rfl)) ?_; (with_reducible refine (normal_Decompose.calls a0 t689 _ ?side1 A23.out).mono ?_); (case side1 => exact GT1.below (HG.out) (by repeat (first | (with_reducible first | exact HB.out | apply below_alloc | apply pw_below_drewN | apply below_drew1) | exact HB.out))); rintro e w51 ⟨rfl, hb⟩; refine ⟨_, rfl, ?_⟩; have n0_ := Aside0.mk (below_step (by repeat (first | (with_reducible first | exact HB.out | apply below_alloc | apply pw_below_drewN | apply below_drew1) | exact HB.out)) hb); clear HB; have HB := n0_; clear n0_; (try clear hb); (try clear hb2); (try clear hk); (try clear hi)) | ((with_reducible refine gate_callee (f := 38) rfl ?_); refine goesL_ (some 56) rfl rfl Tryd.func38 (by kernel_rfl) rfl #[.string a1] rfl (by (try simp only [List.map_toArray, List.map_cons, List.map_nil]); first | done | rfl | (simp only [List.length_drop, List.length_take]; rfl)) ?_; (with_reducible refine (normal_Decompose.calls a1 t690 _ ?side1 A24.out).mono ?_); (case side1 => exact GT1.below (HG.out) (by repeat (first | (with_reducible first | exact HB.out | apply below_alloc | apply pw_below_drewN | apply below_drew1) | exact HB.out))); rintro e w52 ⟨rfl, hb⟩; refine ⟨_, rfl, ?_⟩; have n0_ := Aside0.mk (below_step (by repeat (first | (with_reducible first | exact HB.out | apply below_alloc | apply pw_below_drewN | apply below_drew1) | exact HB.out)) hb); clear HB; have HB := n0_; clear n0_; (try clear hb); (try clear hb2); (try clear hk); (try clear hi)))
                go_ret
                exact ⟨by first | rfl | (simp [errW_none, errW_some] <;> rfl) | (simp [*, errW_none, errW_some] <;> rfl), by repeat (first | (with_reducible first | exact HB.out | apply below_alloc | apply pw_below_drewN | apply below_drew1) | exact HB.out)⟩
            · rw [if_neg c25] at H
              exact absurd H (by simp)
          · rw [if_neg c21] at H
            exact absurd H (by simp)
  · replace c4 := Bool.eq_false_iff.mpr c4
    subst c4
    have H1 : (some false) = some r := by rw [if_neg (show ¬ (false = true) by decide)] at H; exact H
    clear H
    have H := H1
    clear H1
    obtain rfl := Option.some.inj H
    go_enter Tryd.func14, Tryd.ntmps14
    go_wp2_with (first | ((with_reducible refine gate_callee (f := 37) rfl ?_); refine goesL_ (some 9) rfl rfl Tryd.func37 (by kernel_rfl) rfl #[] rfl (by (try simp only [List.map_toArray, List.map_cons, List.map_nil]); first | done | rfl | (simp only [List.length_drop, List.length_take]; rfl)) ?_; (with_reducible refine (bookplatelaw05_awake.calls k  false _ ?side1 A3.out).mono ?_); (case side1 => exact GT1.below (HG.out) (by repeat (first | (with_reducible first | exact HB.out | apply below_alloc | apply pw_below_drewN | apply below_drew1) | exact HB.out))); rintro e w53 ⟨rfl, hb⟩; refine ⟨_, rfl, ?_⟩; have n0_ := Aside0.mk (below_step (by repeat (first | (with_reducible first | exact HB.out | apply below_alloc | apply pw_below_drewN | apply below_drew1) | exact HB.out)) hb); clear HB; have HB := n0_; clear n0_; (try clear hb); (try clear hb2); (try clear hk); (try clear hi)))
    go_ret
    exact ⟨by first | rfl | (simp [errW_none, errW_some] <;> rfl) | (simp [*, errW_none, errW_some] <;> rfl), by repeat (first | (with_reducible first | exact HB.out | apply below_alloc | apply pw_below_drewN | apply below_drew1) | exact HB.out)⟩
end Go.Proofs.YthcpdhniakpbaaaDoor.X
end

section
namespace Go.Proofs.YthcpdhniakpbaaaDoor.X
open Go.RowKit Go.Sort Go.Lib Go.Proofs.YthcpdhniakpbaaaDoorW.PrintWords Go.Proofs.YthcpdhniakpbaaaDoorW.PrintLast Go.Proofs.YthcpdhniakpbaaaDoorW.PrintMore
set_option linter.unusedVariables false
set_option linter.unusedSimpArgs false
theorem ev_decode2 (s : ByteArray) (hs : s.size ≤ 10000000) : Ev (fun k => bookplateref04_Decode.f k s) (decR [] s.data.toList) := ⟨s.size + 301, fun k hk => refDecode_eq s hs k hk⟩
theorem ev_lmarks (c : Int) (hc : -9223372036854775808 ≤ c ∧ c ≤ 9223372036854775807) : Ev (fun k => bookplatelaw05_marks.f k c) (mcl c) := by
  have m7 : mcl 807 = 1 := by decide +kernel
  have m8 : mcl 808 = 1 := by decide +kernel
  have m3 : mcl 803 = 2 := by decide +kernel
  by_cases h1 : c = 807
  · subst h1
    rw [m7]
    exact Ev.step (g' := fun _ => some 1) (fun k => by unfold bookplatelaw05_marks.f; rw [if_pos rfl, bookplatelaw05_marks.j0, if_pos rfl]) (Ev.const _)
  by_cases h2 : c = 808
  · subst h2
    rw [m8]
    exact Ev.step (g' := fun _ => some 1) (fun k => by unfold bookplatelaw05_marks.f; rw [if_neg h1, bookplatelaw05_marks.j0, if_pos (by decide)]) (Ev.const _)
  have e2 : (c == 808) = false := by rw [beq_eq_false_iff_ne]; exact h2
  by_cases h3 : c = 803
  · subst h3
    rw [m3]
    exact Ev.step (g' := fun _ => some 2) (fun k => by unfold bookplatelaw05_marks.f; rw [if_neg h1, bookplatelaw05_marks.j0, e2, if_neg (by decide), if_pos rfl]) (Ev.const _)
  have hcl : Ev (fun k => bookplateref04_Class.f k c) (classS c) := ⟨300, fun k hk => refClass_eq c k hk hc⟩
  have hm : mcl c = if (classS c).2 = 2 then 3 else 0 := by
    unfold mcl isMk clsN
    have e1 : ¬ (c = 807 ∨ c = 808) := fun h => h.elim h1 h2
    simp only [e1, h3, if_false]
    by_cases h : (classS c).2 = 2
    · rw [if_pos h, if_pos (by simp [h])]
    · rw [if_neg h, if_neg (by simp [h])]
  rw [hm]
  refine Ev.step (g' := fun k => (bookplateref04_Class.f k c).bind fun bt => if bt.2 = 2 then some 3 else some 0) (fun k => by unfold bookplatelaw05_marks.f; rw [if_neg h1, bookplatelaw05_marks.j0, e2, if_neg (by decide), if_neg h3]) ?_
  refine Ev.congr (g' := fun k => (bookplateref04_Class.f (k + 0) c).bind fun bt => if bt.2 = 2 then some 3 else some 0) (fun k => rfl) (Ev.bind hcl ?_)
  by_cases h : (classS c).2 = 2
  · simp only [if_pos h]; exact Ev.const _
  · simp only [if_neg h]; exact Ev.const _
theorem splitR_head {c : Int} (hm : isMk c = false) : ∀ rs : List NRow, (∀ r ∈ rs, r ∈ nrows) → NoHead (splitR c rs) ∧ splitR c rs ≠ []
  | [], _ => ⟨NoHead.cons hm, by simp [splitR]⟩
  | r :: rs, h => by
    rw [splitR]
    split
    · rename_i hc
      have hrn := h r (by simp)
      exact ⟨NoHead.cons ((row_facts hrn).base _ (at0_mem (plc_ge.2 hc) (by have := plc_lt hc; have := (row_str hrn).2.2; omega))).2, by simp⟩
    · exact splitR_head hm rs (fun r' h' => h r' (by simp [h']))
theorem noMark_low {x : Int} (h : x < 768) : isMk x = false := by
  cases hm : isMk x with
  | false => rfl
  | true => have := isMk_range hm; omega
theorem split_head {c : Int} (hh : hasS c = true) (hm : isMk c = false) : NoHead (splitS c) ∧ splitS c ≠ [] := by
  have hr := hasS_range hh
  unfold splitS
  split
  · exact ⟨NoHead.cons (noMark_low (by decide)), by simp⟩
  split
  · exact ⟨NoHead.cons (noMark_low (by decide)), by simp⟩
  split
  · exact ⟨NoHead.cons (noMark_low (by omega)), by simp⟩
  split
  · exact ⟨NoHead.cons (noMark_low (by decide)), by simp⟩
  split
  · exact ⟨NoHead.cons (noMark_low (by decide)), by simp⟩
  split
  · exact ⟨NoHead.cons (noMark_low (by decide)), by simp⟩
  split
  · exact ⟨NoHead.cons (noMark_low (by omega)), by simp⟩
  split
  · exact ⟨NoHead.cons hm, by simp⟩
  · exact splitR_head hm nrows (fun _ h => h)
theorem flat_head {cs : List Int} (hh : ∀ c ∈ cs, hasS c = true) (hn : NoHead cs) : NoHead (cs.flatMap splitS) := by
  cases cs with
  | nil => exact NoHead.nil
  | cons c r =>
    obtain ⟨h1, h2⟩ := split_head (hh c (by simp)) (hn c r rfl)
    rw [List.flatMap_cons]
    cases hs : splitS c with
    | nil => exact absurd hs h2
    | cons x y => exact NoHead.cons (h1 x y hs)
theorem decD_append {a b : List Int} (hb : ∀ c ∈ b, hasS c = true) (hn : NoHead b) : decD (a ++ b) = decD a ++ decD b := by
  unfold decD
  rw [List.flatMap_append, runS_append _ _ _ (Nat.le_refl _) (flat_head hb hn)]
theorem bytes_append (a b : List Int) : bytesOfL a ++ bytesOfL b = bytesOfL (a ++ b) := by
  unfold bytesOfL
  rw [app_arr, encL_append]
theorem strip_append (a b : List Int) : stripS (a ++ b) = stripS a ++ stripS b := List.filter_append ..
theorem cntM_append (a b : List Int) : cntM (a ++ b) = cntM a + cntM b := by unfold cntM; rw [List.filter_append, List.length_append]
theorem joins_main (a0 a1 : ByteArray) (h0 : a0.size ≤ 40) (h1 : a1.size ≤ 40) (o0 : okS a0 = true) (o1 : okS a1 = true) (hn : NoHead (chs a1)) : Ev (fun k => bookplatelaw05_NormalJoins.j0 k a0 a1 false) true := by
  obtain ⟨b0, c0⟩ := ok_bytes o0
  obtain ⟨b1, c1⟩ := ok_bytes o1
  have hcat : a0 ++ a1 = bytesOfL (chs a0 ++ chs a1) := by rw [← bytes_append, ← b0, ← b1]
  have hch : ∀ c ∈ chs a0 ++ chs a1, hasS c = true := fun c hc => by
    rcases List.mem_append.1 hc with hc | hc
    · exact c0 c hc
    · exact c1 c hc
  have hchs : chs (a0 ++ a1) = chs a0 ++ chs a1 := by rw [hcat]; exact (chs_bytes hch).1
  have hs0 : a0.size ≤ 50000 := by omega
  have hs1 : a1.size ≤ 50000 := by omega
  have hsz : (a0 ++ a1).size = a0.size + a1.size := ByteArray.size_append
  have hs01 : (a0 ++ a1).size ≤ 50000 := by omega
  have hD : decD (chs (a0 ++ a1)) = decD (chs a0) ++ decD (chs a1) := by rw [hchs]; exact decD_append c1 hn
  have l0 := decD_len (chs a0)
  have l1 := decD_len (chs a1)
  have k0 := chs_len a0
  have k1 := chs_len a1
  have z0 := bytes_size (decD (chs a0))
  have z1 := bytes_size (decD (chs a1))
  have q0 : (stripS (decD (chs a0))).length ≤ (decD (chs a0)).length := List.length_filter_le _ _
  have q1 : (stripS (decD (chs a1))).length ≤ (decD (chs a1)).length := List.length_filter_le _ _
  have y0 := bytes_size (stripS (decD (chs a0)))
  have y1 := bytes_size (stripS (decD (chs a1)))
  have m0 := cntM_le (decD (chs a0))
  have m1 := cntM_le (decD (chs a1))
  refine Ev.step (fun k => by rw [bookplatelaw05_NormalJoins.j0, if_neg (by decide), if_pos (by omega)]) (Ev.bind (Ev.of fun k => decompose_eq _ hs01) (Ev.bind (Ev.of fun k => decompose_eq a0 hs0) (Ev.bind (Ev.of fun k => decompose_eq a1 hs1) ?_)))
  refine Ev.pick (by omega) (Ev.pick (by rw [bytes_append, hD]) ?_)
  refine Ev.bind (Ev.of fun k => strip_eq _ hs01) (Ev.bind (Ev.of fun k => strip_eq a0 hs0) (Ev.bind (Ev.of fun k => strip_eq a1 hs1) ?_))
  refine Ev.pick (by omega) (Ev.pick (by rw [bytes_append, hD, strip_append]) ?_)
  refine Ev.bind (ev_marks _ hs01) (Ev.bind (ev_marks a0 hs0) (Ev.bind (ev_marks a1 hs1) ?_))
  refine Ev.of fun k => ?_
  rw [hD, cntM_append, show wrap64 (((cntM (decD (chs a0)) : Nat) : Int) + ((cntM (decD (chs a1)) : Nat) : Int)) = ((cntM (decD (chs a0)) + cntM (decD (chs a1)) : Nat) : Int) by unfold wrap64; omega, beq_self_eq_true]
theorem normJoins_true (a0 a1 : ByteArray) (z0 : a0.size ≤ 1048576) (z1 : a1.size ≤ 1048576) : ∃ k, bookplatelaw05_NormalJoins.f k a0 a1 = some true := by
  apply Ev.get
  unfold bookplatelaw05_NormalJoins.f
  refine Ev.bind ev_awake (Ev.pick rfl ?_)
  have big : Ev (fun k => bookplatelaw05_NormalJoins.j0 k a0 a1 true) true := Ev.step (g' := fun _ => some true) (fun k => by rw [bookplatelaw05_NormalJoins.j0, if_pos rfl]) (Ev.const _)
  refine Ev.bind (ev_decode2 a0 (by omega)) (Ev.bind (ev_decode2 a1 (by omega)) ?_)
  by_cases h : (a0.size : Int) > 40
  · exact Ev.pick h big
  refine Ev.skip h ?_
  by_cases h1 : (a1.size : Int) > 40
  · exact Ev.pick h1 big
  refine Ev.skip h1 ?_
  by_cases o0 : okS a0 = true
  · refine Ev.pick o0 ?_
    by_cases o1 : okS a1 = true
    · refine Ev.pick o1 ?_
      have hc1 := chs_has a1
      have hmain := joins_main a0 a1 (by omega) (by omega) o0 o1
      by_cases hl : ((chs a1).length : Int) > 0
      · refine Ev.pick hl (Ev.pick hl ?_)
        obtain ⟨c, r, hcr⟩ : ∃ c r, chs a1 = c :: r := List.exists_cons_of_length_pos (by omega)
        have hrd : rd (decR [] a1.data.toList).1 0 = c := by
          show rd (chs a1) 0 = c
          rw [hcr]; rfl
        have hrg := hasS_range (hc1 c (by rw [hcr]; simp))
        rw [hrd]
        refine Ev.bind (ev_lmarks c (by omega)) ?_
        by_cases hm : isMk c = true
        · rw [decide_eq_true (mcl_pos.2 hm)]
          exact big
        · rw [decide_eq_false (fun h => hm (mcl_pos.1 h))]
          refine hmain ?_
          rw [hcr]
          exact NoHead.cons (by simpa using hm)
      · refine Ev.skip hl ?_
        have : chs a1 = [] := List.length_eq_zero_iff.1 (by omega)
        exact hmain (by rw [this]; exact NoHead.nil)
    · exact Ev.skip o1 big
  · exact Ev.skip o0 big
end Go.Proofs.YthcpdhniakpbaaaDoor.X
end
