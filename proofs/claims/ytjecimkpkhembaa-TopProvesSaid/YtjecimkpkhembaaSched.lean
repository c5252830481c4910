/- Contracts, proved by hand: sha's schedule. -/
import Derived.Test.YtjecimkpkhembaaMix
import Derived.IntWalk
import Derived.StillTailTactics
set_option linter.unusedVariables false
set_option linter.unusedSimpArgs false
namespace Go.Proofs.YtjecimkpkhembaaSha
open Go.RowKit Go.Proofs.YtjecimkpkhembaaW.PrintWords Go.Proofs.YtjecimkpkhembaaW.PrintLast

/-- Word i of a block, j of its bytes having been read. -/
def wd (bs : List Int) (i : Nat) : Nat → Int
  | 0 => 0
  | j + 1 => Go.bits .or .u32 ((wd bs i j * 256) % 4294967296) (rd bs ((4 * i + j : Nat) : Int) % 4294967296)
/-- The first i words of a block. -/
def sch0 (bs : List Int) : Nat → List Int
  | 0 => List.replicate 64 0
  | i + 1 => (sch0 bs i).set i (wd bs i 4)
theorem sch0_len (bs : List Int) (i : Nat) : (sch0 bs i).length = 64 := by
  induction i with
  | zero => rfl
  | succ i ih => show ((sch0 bs i).set i _).length = 64; rw [List.length_set, ih]
theorem sch0_get (bs : List Int) (i : Nat) (k : Nat) (h : i ≤ k) (hk : k < 64) : (sch0 bs i).getD k 0 = 0 := by
  induction i with
  | zero => show (List.replicate 64 (0 : Int)).getD k 0 = 0; rw [List.getD_eq_getElem?_getD, List.getElem?_replicate, if_pos hk]; rfl
  | succ i ih =>
    show ((sch0 bs i).set i _).getD k 0 = 0
    rw [List.getD_eq_getElem?_getD, List.getElem?_set_ne (by omega), ← List.getD_eq_getElem?_getD]
    exact ih (by omega)
/-- The words that follow, j of them. -/
def schStep (x16 x7 x15 x2 : Int) : Int := (x16 + x7 + xr (xr (rotR x15 7) (rotR x15 18)) (x15 / 8) + xr (xr (rotR x2 17) (rotR x2 19)) (x2 / 1024)) % 4294967296
def sch1 (bs : List Int) : Nat → List Int
  | 0 => sch0 bs 16
  | j + 1 => (sch1 bs j).set (j + 16) (schStep ((sch1 bs j).getD j 0) ((sch1 bs j).getD (j + 9) 0) ((sch1 bs j).getD (j + 1) 0) ((sch1 bs j).getD (j + 14) 0))
theorem sch1_len (bs : List Int) (j : Nat) : (sch1 bs j).length = 64 := by
  induction j with
  | zero => exact sch0_len bs 16
  | succ j ih => show ((sch1 bs j).set _ _).length = 64; rw [List.length_set, ih]
structure SchW (w W : World) (g2 g3 : Nat) (l : List Int) : Prop where
  below : Below w.heap.size w W
  b2 : Blk W g2 76 (u32s (List.replicate 64 0))
  b3 : Blk W g3 76 (u32s l)
  l2 : w.heap.size ≤ g2
  l3 : w.heap.size ≤ g3
  n2 : g2 ≠ g3
set_option maxHeartbeats 2000000 in
set_option maxRecDepth 100000 in
theorem schedule_any (g o c : Nat) (bs : List Int) (w : World) (hc : 64 ≤ c) (hcells : ∀ j, j < 64 → w.cell? ⟨g, o + j, none⟩ = some (.int .u8 (rd bs (j : Int)))) :
   Calls Try.prog 34 #[.slice (some ⟨g, o, none⟩) 64 c] w fun e w' => e = .returned (.agg (u32s (sch1 bs 48))) ∧ Below w.heap.size w w' := by
  have hg : g < w.heap.size := by have := World.block_lt_of_cell? w _ (hcells 0 (by omega)); exact this
  have HC := Aside0.mk hcells
  clear hcells
  go_enter Try.func34, Try.ntmps34
  go_upto_region 2 with (fail)
  go_cut [2, 3, 10] (fun v2 v3 v10 wc => ∃ g2 g3 : Nat, v2 = .pointer (some ⟨g2, 0, none⟩) ∧ v3 = .pointer (some ⟨g3, 0, none⟩) ∧ v10 = .int .i64 0 ∧ Aside0 (SchW w wc g2 g3 (sch0 bs 0)))
  case first =>
    go_wp2
    go_meet
    refine ⟨_, _, rfl, rfl, rfl, ⟨?_⟩⟩
    exact {
      below := ((Below.refl _ _).alloc (Nat.le_refl _) _).alloc (by simp) _
      b2 := (Blk.new_at (w := w) 76 (u32s (List.replicate 64 0)) rfl).alloc _
      b3 := Blk.new_at 76 (u32s (List.replicate 64 0)) (by simp)
      l2 := by omega
      l3 := by omega
      n2 := by omega }
  case rest =>
    obtain ⟨g2, g3, rfl, rfl, rfl, HM⟩ := hcut
    go_wp2
    go_loopw [10] (fun i W => ∃ n : Nat, n ≤ 16 ∧ i = .int .i64 n ∧ Aside0 (SchW w W g2 g3 (sch0 bs n))) (fun i _ => 16 - (intOf i).toNat)
    case atStart => exact ⟨0, by omega, rfl, HM⟩
    case round =>
      obtain ⟨n, hn, rfl, HN⟩ := hrel
      by_cases hlt : n < 16
      · have hne : ¬ c = 4 * n := by omega
        have e4 : 4 * n + 4 - 4 * n = 4 := by omega
        go_wp2_with fail
        rw [e4]
        go_loopw [21] (fun i W => ∃ j : Nat, j ≤ 4 ∧ i = .int .i64 j ∧ Aside0 (SchW w W g2 g3 ((sch0 bs n).set n (wd bs n j)))) (fun i _ => 4 - (intOf i).toNat)
        case atStart =>
          refine ⟨0, by omega, rfl, ⟨?_⟩⟩
          have e : (sch0 bs n).set n (wd bs n 0) = sch0 bs n := by
            have := sch0_get bs n n (Nat.le_refl _) (by omega)
            apply List.ext_getElem?
            intro k
            rw [List.getElem?_set]
            split
            · rename_i hk
              subst hk
              rw [List.getD_eq_getElem?_getD] at this
              have hl := sch0_len bs n
              rw [if_pos (by omega), List.getElem?_eq_getElem (by omega)] at *
              simpa [wd] using this.symm
            · rfl
          rw [e]
          exact HN.out
        case round =>
          clear HN
          obtain ⟨j, hj, rfl, HN⟩ := hrel
          by_cases hlt2 : j < 4
          · have c0 : wr.cell? ⟨g3, n, none⟩ = some (.int .u32 (wd bs n j)) := by
              refine (HN.out.b3.cell n).trans ((u32s_get _ n (by rw [List.length_set, sch0_len]; omega)).trans ?_)
              rw [List.getD_eq_getElem?_getD, List.getElem?_set_self (by rw [sch0_len]; omega)]
              rfl
            have c1 : wr.cell? ⟨g, o + 4 * n + j, none⟩ = some (.int .u8 (rd bs ((4 * n + j : Nat) : Int))) := by
              rw [Nat.add_assoc]
              exact (HN.out.below.cell (p := ⟨g, o + (4 * n + j), none⟩) hg).trans (HC.out (4 * n + j) (by omega))
            have fz : wr.frozen? ⟨g3, n, none⟩ = false := HN.out.b3.frozen n
            obtain ⟨x, hx⟩ : ∃ x, rd bs ((4 * n + j : Nat) : Int) = x := ⟨_, rfl⟩
            obtain ⟨y, hy⟩ : ∃ y, wd bs n j = y := ⟨_, rfl⟩
            rw [hx] at c1
            rw [hy] at c0
            have HX := Aside0.mk hx
            have HY := Aside0.mk hy
            clear hx hy
            go_wp2
            go_roundw
            case rel =>
              refine ⟨j + 1, by omega, by go_num, ⟨?_⟩⟩
              have hM := HN.out
              have b3 := hM.b3.put (j := n) (u := .int .u32 (Go.bits .or .u32 ((y * 256) % 4294967296) (x % 4294967296)))
              rw [u32s_set, List.set_set] at b3
              have e : wd bs n (j + 1) = Go.bits .or .u32 ((y * 256) % 4294967296) (x % 4294967296) := by rw [← HX.out, ← HY.out]; rfl
              rw [e]
              exact { hM with
                below := hM.below.setCell hM.l3 _
                b2 := hM.b2.setCell hM.n2
                b3 := b3 }
            case measure => simp [intOf]; omega
          · have e : j = 4 := by omega
            subst e
            clear hlt2
            go_wp2
            go_roundw
            case rel => exact ⟨n + 1, by omega, by go_num, HN⟩
            case measure => simp [intOf]; omega
      · have e : n = 16 := by omega
        subst e
        clear hlt
        rw [show ((16 : Nat) : Int) = 16 from rfl]
        go_wp2
        go_loopw [7] (fun i W => ∃ j : Nat, j ≤ 48 ∧ i = .int .i64 ((j + 16 : Nat) : Int) ∧ Aside0 (SchW w W g2 g3 (sch1 bs j))) (fun i _ => 64 - (intOf i).toNat)
        case atStart => exact ⟨0, by omega, rfl, HN⟩
        case round =>
          clear HN
          obtain ⟨j, hj, rfl, HN⟩ := hrel
          by_cases hlt : j < 48
          · have hl := sch1_len bs j
            obtain ⟨l, hl2⟩ : ∃ l, sch1 bs j = l := ⟨_, rfl⟩
            rw [hl2] at HN hl
            have cc : ∀ k, k < 64 → wr.cell? ⟨g3, k, none⟩ = some (.int .u32 (l.getD k 0)) := fun k hk => (HN.out.b3.cell k).trans (u32s_get _ k (by omega))
            have c15 := cc (j + 1) (by omega)
            have c2 := cc (j + 14) (by omega)
            have c16 := cc j (by omega)
            have c7 := cc (j + 9) (by omega)
            have c00 := cc (j + 16) (by omega)
            have fz : wr.frozen? ⟨g3, j + 16, none⟩ = false := HN.out.b3.frozen _
            obtain ⟨x15, hx15⟩ : ∃ x, l.getD (j + 1) 0 = x := ⟨_, rfl⟩
            obtain ⟨x2, hx2⟩ : ∃ x, l.getD (j + 14) 0 = x := ⟨_, rfl⟩
            obtain ⟨x16, hx16⟩ : ∃ x, l.getD j 0 = x := ⟨_, rfl⟩
            obtain ⟨x7, hx7⟩ : ∃ x, l.getD (j + 9) 0 = x := ⟨_, rfl⟩
            obtain ⟨x00, hx00⟩ : ∃ x, l.getD (j + 16) 0 = x := ⟨_, rfl⟩
            rw [hx15] at c15
            rw [hx2] at c2
            rw [hx16] at c16
            rw [hx7] at c7
            rw [hx00] at c00
            have HH := Aside0.mk (And.intro hl2 (And.intro hx15 (And.intro hx2 (And.intro hx16 (And.intro hx7 hl)))))
            clear hl2 hx15 hx2 hx16 hx7 hx00 cc hl
            rw [show ((j + 16 : Nat) : Int) = (j : Int) + 16 from by omega]
            go_wp2_with fail
            have e15 : IntKind.i64.wrap ((j : Int) + 16 - 15) = ((j + 1 : Nat) : Int) := (IntWalk.i64_in _ (by omega)).trans (by omega)
            have e2 : IntKind.i64.wrap ((j : Int) + 16 - 2) = ((j + 14 : Nat) : Int) := (IntWalk.i64_in _ (by omega)).trans (by omega)
            go_quiet (fail)
            clear e15 e2
            go_wp2_with fail
            have e16 : IntKind.i64.wrap (j : Int) = (j : Int) := IntWalk.i64_in _ (by omega)
            have e7 : IntKind.i64.wrap ((j : Int) + 16 - 7) = ((j + 9 : Nat) : Int) := (IntWalk.i64_in _ (by omega)).trans (by omega)
            have b0 : (j : Int) < 64 := by omega
            have b9 : (j : Int) + 9 < 64 := by omega
            have b16 : (j : Int) + 16 < 64 := by omega
            have n0 : 0 ≤ (j : Int) := by omega
            have n9 : 0 ≤ (j : Int) + 9 := by omega
            have n16 : 0 ≤ (j : Int) + 16 := by omega
            have t9 : ((j : Int) + 9).toNat = j + 9 := by omega
            have t16 : ((j : Int) + 16).toNat = j + 16 := by omega
            refine wp_region_still_tail 28 (by kernel_rfl) (by kernel_rfl) ?_
            simp only [List.take_succ_cons, List.take_zero, List.drop_succ_cons, List.drop_zero]
            obtain ⟨W2, hW2⟩ : ∃ W2, W2 = (wr.drewN nq).drew := ⟨_, rfl⟩
            change wpStill _ _ ((wr.drewN nq).drew) _ _ _
            rw [← hW2]
            have d16 : W2.cell? ⟨g3, j, none⟩ = some (.int .u32 x16) := by rw [hW2]; exact c16
            have d7 : W2.cell? ⟨g3, j + 9, none⟩ = some (.int .u32 x7) := by rw [hW2]; exact c7
            have d00 : W2.cell? ⟨g3, j + 16, none⟩ = some (.int .u32 x00) := by rw [hW2]; exact c00
            have fz2 : W2.frozen? ⟨g3, j + 16, none⟩ = false := by rw [hW2]; exact fz
            have HW2 := Aside0.mk hW2
            clear hW2 c15 c2 c16 c7 c00 fz
            repeat (first | still_call (turn_any _ _ _ (by decide)) | still_step)
            refine wpStill_nil ?_
            clear e16 e7 b0 b9 n0 n9
            change wpList _ _ _ _ _ ((wr.drewN nq).drew)
            rw [← HW2.out]
            go_wp2
            go_roundw
            case rel =>
              refine ⟨j + 1, by omega, by rw [show (j : Int) + 16 + 1 = ((j + 1 + 16 : Nat) : Int) from by omega], ⟨?_⟩⟩
              have hM := HN.out
              rw [HW2.out]
              have b3 := hM.b3.put (j := j + 16) (u := .int .u32 (schStep x16 x7 x15 x2))
              rw [u32s_set] at b3
              obtain ⟨h0, h15, h2, h16, h7, hl⟩ := HH.out
              have e : sch1 bs (j + 1) = l.set (j + 16) (schStep x16 x7 x15 x2) := by
                show (sch1 bs j).set (j + 16) (schStep ((sch1 bs j).getD j 0) ((sch1 bs j).getD (j + 9) 0) ((sch1 bs j).getD (j + 1) 0) ((sch1 bs j).getD (j + 14) 0)) = _
                rw [h0, h15, h2, h16, h7]
              rw [e]
              exact {
                below := (below_drew (pw_below_drewN hM.below nq)).setCell hM.l3 _
                b2 := hM.b2.setCell hM.n2
                b3 := b3
                l2 := hM.l2
                l3 := hM.l3
                n2 := hM.n2 }
            case measure => simp [intOf]; omega
          · have e : j = 48 := by omega
            subst e
            clear hlt
            rw [show ((48 + 16 : Nat) : Int) = 64 from rfl]
            have ML : Aside0 ((sch1 bs 48).length = 64) := ⟨sch1_len bs 48⟩
            go_wp2_with (first
              | ((with_reducible refine gate_dst (N := 77) rfl ?_); go_loud (refine load_row rfl rfl g3 rfl (u32s (sch1 bs 48)) HN.out.b3 Try.underlying76 (i76 ML.out) rfl ?_))
              | ((with_reducible refine gate_store (t := 76) (p := 2) (v := .tmp 77) rfl ?_); go_loud (refine store_row rfl rfl rfl g2 (u32s (sch1 bs 48)) (u32s (List.replicate 64 0)) rfl rfl HN.out.b2 (i76 ML.out) (by rw [u32s_size, u32s_size, ML.out]; rfl) (oneCell_u32s _) ?_); intro W1 hW1; have HW1 := Aside0.mk hW1; clear hW1))
            have e8 : Blk W1 g2 76 (u32s (sch1 bs 48)) := by rw [HW1.out]; exact HN.out.b2.set _
            refine ret_row rfl rfl e8 Try.underlying76 (i76 ML.out) ⟨rfl, ?_⟩
            rw [HW1.out]
            exact below_setRow HN.out.below HN.out.l2 _
end Go.Proofs.YtjecimkpkhembaaSha
