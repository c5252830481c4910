/- Contracts, proved by hand: sha's mix. -/
import Derived.Test.YtjecimkpkhembaaSha1
set_option linter.unusedVariables false
set_option linter.unusedSimpArgs false
namespace Go.Proofs.YtjecimkpkhembaaSha
open Go.RowKit Go.Proofs.YtjecimkpkhembaaW.PrintWords Go.Proofs.YtjecimkpkhembaaW.PrintLast

def xr (a b : Int) : Int := Go.bits .xor .u32 a b
def an (a b : Int) : Int := Go.bits .and .u32 a b
def ad (a b : Int) : Int := IntKind.u32.wrap (a + b)
def mixOne (s4 s5 s6 s7 kn wn : Int) : Int :=
  s7 + xr (xr (rotR s4 6) (rotR s4 11)) (rotR s4 25) + xr (an s4 s5) (an (xr IntKind.u32.max s4) s6) + kn + wn
def mixTwo (s0 s1 s2 : Int) : Int := xr (xr (rotR s0 2) (rotR s0 13)) (rotR s0 22) + xr (xr (an s0 s1) (an s0 s2)) (an s1 s2)
/-- A round. -/
def mixStep (s : List Int) (kn wn : Int) : List Int :=
  match s with
  | [s0, s1, s2, s3, s4, s5, s6, s7] => [(mixOne s4 s5 s6 s7 kn wn + mixTwo s0 s1 s2) % 4294967296, s0, s1, s2, (s3 + mixOne s4 s5 s6 s7 kn wn) % 4294967296, s4, s5, s6]
  | _ => s
/-- The words behind n rounds. -/
def mixS (h ws ks : List Int) : Nat → List Int
  | 0 => h
  | n + 1 => mixStep (mixS h ws ks n) (ks.getD n 0) (ws.getD n 0)

theorem eight {l : List Int} (h : l.length = 8) : ∃ s0 s1 s2 s3 s4 s5 s6 s7, l = [s0, s1, s2, s3, s4, s5, s6, s7] := by
  match l, h with
  | [s0, s1, s2, s3, s4, s5, s6, s7], _ => exact ⟨s0, s1, s2, s3, s4, s5, s6, s7, rfl⟩
theorem mixS_len {h ws ks : List Int} (hl : h.length = 8) (n : Nat) : (mixS h ws ks n).length = 8 := by
  induction n with
  | zero => exact hl
  | succ n ih =>
    obtain ⟨s0, s1, s2, s3, s4, s5, s6, s7, hs⟩ := eight ih
    show (mixStep (mixS h ws ks n) _ _).length = 8
    rw [hs]
    rfl
/-- The words that a block began with, added to the first ones. -/
def mixAdd (s k0 : List Int) : Nat → List Int
  | 0 => s
  | j + 1 => (mixAdd s k0 j).set j ((rd (mixAdd s k0 j) j + rd k0 j) % 4294967296)
theorem mixAdd_len (s k0 : List Int) (j : Nat) : (mixAdd s k0 j).length = s.length := by
  induction j with
  | zero => rfl
  | succ j ih => show ((mixAdd s k0 j).set _ _).length = _; rw [List.length_set, ih]
structure MixW (w W : World) (g5 g6 g7 g8 g9 : Nat) (k0 ws ks s : List Int) : Prop where
  below : Below w.heap.size w W
  b5 : Blk W g5 74 (u32s k0)
  b6 : Blk W g6 76 (u32s ws)
  b7 : Blk W g7 76 (u32s ks)
  b8 : ∃ z : List Int, z.length = 8 ∧ Blk W g8 74 (u32s z)
  b9 : Blk W g9 74 (u32s s)
  l8 : w.heap.size ≤ g8
  l9 : w.heap.size ≤ g9
  n5 : g5 ≠ g9
  n6 : g6 ≠ g9
  n7 : g7 ≠ g9
  n8 : g8 ≠ g9

set_option maxHeartbeats 2000000 in
set_option maxRecDepth 100000 in
theorem mix_any (hd k0 ws ks : List Int) (w : World) (lh : hd.length = 8) (lk : k0.length = 8) (lw : ws.length = 64) (ls : ks.length = 64) :
   Calls Try.prog 33 #[.agg (u32s hd), .agg (u32s k0), .agg (u32s ws), .agg (u32s ks)] w fun e w' => e = .returned (.agg (u32s (mixAdd (mixS hd ws ks 64) k0 8))) ∧ Below w.heap.size w w' := by
  have LH := Aside0.mk lh
  have LK := Aside0.mk lk
  have LW := Aside0.mk lw
  have LS := Aside0.mk ls
  clear lh lk lw ls
  go_enter Try.func33, Try.ntmps33
  go_upto_region 2 with (first
    | ((with_reducible refine gate_dst (N := 16) rfl ?_); go_loud (refine load_row rfl rfl w.heap.size rfl (u32s hd) ((((((Blk.new w 74 (u32s hd)).alloc _).alloc _).alloc _).alloc _)) Try.underlying74 (i74 LH.out) rfl ?_))
    | ((with_reducible refine gate_store (t := 74) (p := 9) (v := .tmp 16) rfl ?_); go_loud (refine store_row rfl rfl rfl (w.heap.size + 1 + 1 + 1 + 1 + 1) (u32s hd) (u32s (List.replicate 8 0)) rfl rfl (Blk.new_at 74 _ (by simp)) (i74 LH.out) (by rw [u32s_size, u32s_size, LH.out]; rfl) (oneCell_u32s _) ?_); intro W1 hW1; have HW1 := Aside0.mk hW1; clear hW1))
  go_cut [5, 6, 7, 8, 9, 17] (fun v5 v6 v7 v8 v9 v17 wc => ∃ g5 g6 g7 g8 g9 : Nat, v5 = .pointer (some ⟨g5, 0, none⟩) ∧ v6 = .pointer (some ⟨g6, 0, none⟩) ∧ v7 = .pointer (some ⟨g7, 0, none⟩) ∧ v8 = .pointer (some ⟨g8, 0, none⟩) ∧ v9 = .pointer (some ⟨g9, 0, none⟩) ∧ v17 = .int .i64 0 ∧ Aside0 (MixW w wc g5 g6 g7 g8 g9 k0 ws ks hd))
  case first =>
    go_wp2
    go_meet
    refine ⟨_, _, _, _, _, rfl, rfl, rfl, rfl, rfl, rfl, ⟨?_⟩⟩
    rw [HW1.out]
    have h8 : Blk _ (w.heap.size + 1 + 1 + 1 + 1) 74 (u32s (List.replicate 8 0)) := Blk.new_at (w := (((w.alloc (.cells (u32s hd) 74)).alloc (.cells (u32s k0) 74)).alloc (.cells (u32s ws) 76)).alloc (.cells (u32s ks) 76)) 74 _ (by simp)
    exact {
      below := below_setRow ((((((((Below.refl _ _).alloc (Nat.le_refl _) _).alloc (by simp) _).alloc (by simp; omega) _).alloc (by simp; omega) _).alloc (by simp; omega) _).alloc (by simp; omega) _)) (by omega) _
      b5 := (((((Blk.new_at 74 _ (by simp)).alloc _).alloc _).alloc _).alloc _).setRow (by omega)
      b6 := ((((Blk.new_at 76 _ (by simp)).alloc _).alloc _).alloc _).setRow (by omega)
      b7 := (((Blk.new_at 76 _ (by simp)).alloc _).alloc _).setRow (by omega)
      b8 := ⟨_, rfl, (h8.alloc _).setRow (by omega)⟩
      b9 := (Blk.new_at 74 (u32s (List.replicate 8 0)) (by simp)).set _
      l8 := by omega
      l9 := by omega
      n5 := by omega
      n6 := by omega
      n7 := by omega
      n8 := by omega }
  case rest =>
    obtain ⟨g5, g6, g7, g8, g9, rfl, rfl, rfl, rfl, rfl, rfl, HM⟩ := hcut
    clear HW1
    go_wp2
    go_loopw [17] (fun i W => ∃ n : Nat, n ≤ 64 ∧ i = .int .i64 n ∧ Aside0 (MixW w W g5 g6 g7 g8 g9 k0 ws ks (mixS hd ws ks n))) (fun i _ => 64 - (intOf i).toNat)
    case atStart => exact ⟨0, by omega, rfl, HM⟩
    case round =>
      obtain ⟨n, hn, rfl, HN⟩ := hrel
      by_cases hlt : n < 64
      · obtain ⟨s0, s1, s2, s3, s4, s5, s6, s7, hs⟩ := eight (mixS_len LH.out n (ks := ks) (ws := ws))
        obtain ⟨kn, hkn⟩ : ∃ x, ks.getD n 0 = x := ⟨_, rfl⟩
        obtain ⟨wn, hwn⟩ : ∃ x, ws.getD n 0 = x := ⟨_, rfl⟩
        have HK := Aside0.mk hkn
        have HW := Aside0.mk hwn
        have HS := Aside0.mk hs
        have b9 := HN.out.b9
        rw [hs] at b9
        have c0 : wr.cell? ⟨g9, 0, none⟩ = some (.int .u32 s0) := (b9.cell 0).trans rfl
        have c1 : wr.cell? ⟨g9, 1, none⟩ = some (.int .u32 s1) := (b9.cell 1).trans rfl
        have c2 : wr.cell? ⟨g9, 2, none⟩ = some (.int .u32 s2) := (b9.cell 2).trans rfl
        have c3 : wr.cell? ⟨g9, 3, none⟩ = some (.int .u32 s3) := (b9.cell 3).trans rfl
        have c4 : wr.cell? ⟨g9, 4, none⟩ = some (.int .u32 s4) := (b9.cell 4).trans rfl
        have c5 : wr.cell? ⟨g9, 5, none⟩ = some (.int .u32 s5) := (b9.cell 5).trans rfl
        have c6 : wr.cell? ⟨g9, 6, none⟩ = some (.int .u32 s6) := (b9.cell 6).trans rfl
        have c7 : wr.cell? ⟨g9, 7, none⟩ = some (.int .u32 s7) := (b9.cell 7).trans rfl
        have ck : wr.cell? ⟨g7, n, none⟩ = some (.int .u32 kn) := (HN.out.b7.cell n).trans ((u32s_get ks n (by rw [LS.out]; omega)).trans (by rw [hkn]))
        have cw : wr.cell? ⟨g6, n, none⟩ = some (.int .u32 wn) := (HN.out.b6.cell n).trans ((u32s_get ws n (by rw [LW.out]; omega)).trans (by rw [hwn]))
        have B9 := Aside0.mk b9
        clear b9 hs hkn hwn
        go_wp2_with fail
        go_quiet (fail)
        go_wp2_with fail
        go_quiet ((go_at_call 45; exact quiet_on (fun W => turn_any _ _ W (by decide)) _ _))
        go_wp2_with fail
        go_quiet ((go_at_call 45; exact quiet_on (fun W => turn_any _ _ W (by decide)) _ _))
        go_wp2_with ((with_reducible refine gate_store (t := 74) (p := 9) (v := .tmp 97) rfl ?_); go_loud (refine store_row rfl rfl rfl g9 (u32s (mixStep [s0, s1, s2, s3, s4, s5, s6, s7] kn wn)) _ rfl ?hy (HN.out.b9.drewN _) info_74 (by rw [u32s_size, mixS_len LH.out]; rfl) (oneCell_u32s _) ?_); (case hy => rfl); intro W1 hW1; have HW1 := Aside0.mk hW1; clear hW1)
        go_roundw
        case rel =>
          refine ⟨n + 1, by omega, by go_num, ⟨?_⟩⟩
          rw [HW1.out]
          have hM := HN.out
          have e : mixS hd ws ks (n + 1) = mixStep [s0, s1, s2, s3, s4, s5, s6, s7] kn wn := by
            show mixStep (mixS hd ws ks n) (ks.getD n 0) (ws.getD n 0) = _
            rw [HS.out, HK.out, HW.out]
          rw [e]
          obtain ⟨z, hz, b8⟩ := hM.b8
          exact { hM with
            below := below_setRow (pw_below_drewN hM.below _) hM.l9 _
            b5 := (hM.b5.drewN _).setRow hM.n5
            b6 := (hM.b6.drewN _).setRow hM.n6
            b7 := (hM.b7.drewN _).setRow hM.n7
            b8 := ⟨z, hz, (b8.drewN _).setRow hM.n8⟩
            b9 := (hM.b9.drewN _).set _ }
        case measure => simp [intOf]; omega
      · have e : n = 64 := by omega
        subst e
        clear hlt
        obtain ⟨s, hs⟩ : ∃ s, mixS hd ws ks 64 = s := ⟨_, rfl⟩
        have hl : s.length = 8 := by rw [← hs]; exact mixS_len LH.out 64
        rw [hs] at HN
        have HL := Aside0.mk hl
        have HS := Aside0.mk hs
        clear hl hs
        rw [show ((64 : Nat) : Int) = 64 from rfl]
        go_wp2
        go_loopw [99] (fun i W => ∃ j : Nat, j ≤ 8 ∧ i = .int .i64 j ∧ Aside0 (MixW w W g5 g6 g7 g8 g9 k0 ws ks (mixAdd s k0 j))) (fun i _ => 8 - (intOf i).toNat)
        case atStart => exact ⟨0, by omega, rfl, HN⟩
        case round =>
          clear HN
          obtain ⟨j, hj, rfl, HN⟩ := hrel
          by_cases hlt : j < 8
          · have c0 : wr.cell? ⟨g9, j, none⟩ = some (.int .u32 (rd (mixAdd s k0 j) j)) := (HN.out.b9.cell j).trans (u32s_get _ j (by rw [mixAdd_len, HL.out]; omega))
            have c1 : wr.cell? ⟨g5, j, none⟩ = some (.int .u32 (rd k0 j)) := (HN.out.b5.cell j).trans (u32s_get _ j (by rw [LK.out]; omega))
            have fz : wr.frozen? ⟨g9, j, none⟩ = false := HN.out.b9.frozen j
            go_wp2_with fail
            go_region_law fail
            all_goals
              go_wp2
              go_roundw
              case rel =>
                refine ⟨j + 1, by omega, by go_num, ⟨?_⟩⟩
                have hM := HN.out
                obtain ⟨z, hz, b8⟩ := hM.b8
                have b9 : Blk ((wr.setCell ⟨g9, j, none⟩ (.int .u32 ((rd (mixAdd s k0 j) j + rd k0 j) % 4294967296))).drew) g9 74 _ := hM.b9.put (j := j)
                rw [u32s_set] at b9
                exact { hM with
                  below := below_drew (hM.below.setCell hM.l9 _)
                  b5 := hM.b5.setCell hM.n5
                  b6 := hM.b6.setCell hM.n6
                  b7 := hM.b7.setCell hM.n7
                  b8 := ⟨z, hz, b8.setCell hM.n8⟩
                  b9 := b9 }
              case measure => simp [intOf]; omega
          · have e : j = 8 := by omega
            subst e
            clear hlt
            obtain ⟨z, hz, b8⟩ := HN.out.b8
            have B8 := Aside0.mk b8
            have HZ := Aside0.mk hz
            clear b8 hz
            have ML : Aside0 ((mixAdd s k0 8).length = 8) := ⟨(mixAdd_len s k0 8).trans HL.out⟩
            go_wp2_with (first
              | ((with_reducible refine gate_dst (N := 111) rfl ?_); go_loud (refine load_row rfl rfl g9 rfl (u32s (mixAdd s k0 8)) HN.out.b9 Try.underlying74 (i74 ML.out) rfl ?_))
              | ((with_reducible refine gate_store (t := 74) (p := 8) (v := .tmp 111) rfl ?_); go_loud (refine store_row rfl rfl rfl g8 (u32s (mixAdd s k0 8)) (u32s z) rfl rfl B8.out (i74 ML.out) (by rw [u32s_size, u32s_size, ML.out, HZ.out]) (oneCell_u32s _) ?_); intro W1 hW1; have HW1 := Aside0.mk hW1; clear hW1))
            have e8 : Blk W1 g8 74 (u32s (mixAdd s k0 8)) := by rw [HW1.out]; exact B8.out.set _
            refine ret_row rfl rfl e8 Try.underlying74 (i74 ML.out) ⟨by rw [← HS.out], ?_⟩
            rw [HW1.out]
            exact below_setRow HN.out.below HN.out.l8 _
end Go.Proofs.YtjecimkpkhembaaSha
