/- Reduce, by hand. -/
import Derived.Test.YtmdlnafnlllfhaaOwn
import Derived.Test.YtmdlnafnlllfhaaPTelx2
import Derived.Test.YtmdlnafnlllfhaaPureR

set_option linter.unusedVariables false
set_option linter.unusedSimpArgs false
namespace Go.Proofs.Ytmdlnafnlllfhaa.PTel
open Go.RowKit Go.Proofs.YtmdlnafnlllfhaaOwn Go.Proofs.YtmdlnafnlllfhaaW.PrintWords Go.Proofs.YtmdlnafnlllfhaaW.PrintLast Go.Proofs.YtmdlnafnlllfhaaW.PrintMore Shroud
open Go.Proofs.Ytmdlnafnlllfhaa.Pure (inv3 scaled3 plus3)
abbrev kr : Kd (List Int) := Kd.slice 5 (Kd.int .u8)
/-- A row of rows, opened at i. -/
theorem N_row {W : World} {base g n cap m : Nat} {ok : Nat → Prop} {xs : List (List Int)} (h : Kd.N kr 27 W base ok (.slice (some ⟨g, 0, none⟩) n cap) xs) (i : Nat) (hi : i < n) (hm : (xs.getD i []).length = m) (hp : 0 < m) :
    ∃ ad cp, W.cell? ⟨g, i, none⟩ = some (.slice (some ad) m cp) ∧ m ≤ cp ∧ W.frozen? ⟨g, i, none⟩ = false ∧ Kd.F (Kd.int .u8) W (fun k => ok k ∧ k ≠ g) (some ad) m (xs.getD i []) := by
  obtain ⟨c, hcl, hK, hcc, hf⟩ := Kd.N_elem h [] (i : Int) (by omega) (by omega)
  rw [Int.toNat_natCast] at hK hcc hf
  obtain ⟨A, cp, rfl, hl, hF⟩ := Kd.FK_slice_open hK
  rw [hm] at hl hF hcc
  obtain ⟨ad, rfl⟩ : ∃ ad, A = some ad := by
    obtain ⟨ad, e, _⟩ := (Kd.F_now hF).2.2 hp
    exact ⟨ad, e⟩
  refine ⟨ad, cp, ?_, hl, ?_, hF⟩
  · have := hcc 0 _ rfl
    rwa [show i * (Kd.slice 5 (Kd.int .u8)).sz + 0 = i from by show i * 1 + 0 = i; omega] at this
  · have := hf 0
    rwa [show i * (Kd.slice 5 (Kd.int .u8)).sz + 0 = i from by show i * 1 + 0 = i; omega] at this
/-- A row's header was put into a row of rows. -/
theorem N_put {W : World} {base g n cap : Nat} {ok okp : Nat → Prop} {xs : List (List Int)} (h : Kd.N kr 27 W base ok (.slice (some ⟨g, 0, none⟩) n cap) xs) (i : Nat) (u : Value) (x : List Int) (hM : Kd.FK kr W okp x [u]) (hokp : ∀ k, okp k → ok k ∧ k ≠ g) :
    Kd.N kr 27 (W.setCell ⟨g, i, none⟩ u) base ok (.slice (some ⟨g, 0, none⟩) n cap) (xs.set i x) := by
  obtain ⟨h0, rows, hl, hR, hf⟩ := h
  have hn := (Kd.R_reads' hR).1
  subst hn
  obtain ⟨_, inner, ho, hr⟩ := hR
  have key := Kd.N_written (base := base) (e := 27) (i := (i : Int)) (c' := [u]) (x' := x) h0 hl hf ?_ (grown_set W g i u) hM hokp
  · rwa [Int.toNat_natCast] at key
  · rw [Int.toNat_natCast]
    have h1 : inner.length = rows.length := by have := hr.1; rw [show (Kd.raw kr.sz).sz = 1 from rfl, Nat.mul_one] at this; exact this
    refine ⟨fun _ _ => trivial, inner.set i u, ?_, by rw [List.length_set, List.length_set, h1]; exact (Nat.mul_one _).symm, fun j p hj => ?_⟩
    · rw [List.length_set]
      exact stored_hdr ho i u
    · rw [show j * (Kd.raw kr.sz).sz = j from Nat.mul_one j, show (Kd.raw kr.sz).sz = 1 from rfl]
      have hjl : j < rows.length := by have := (List.getElem?_eq_some_iff.1 hj).1; rwa [List.length_set] at this
      by_cases e : i = j
      · subst e
        rw [List.getElem?_set_self hjl] at hj
        injection hj with hj
        subst hj
        have e2 : ((inner.set i u).drop i).take 1 = [u] := by
          rw [List.drop_eq_getElem_cons (by rw [List.length_set]; omega)]
          simp
        rw [e2]
        exact Kd.FK_raw hM
      · rw [List.getElem?_set_ne e] at hj
        have h2 := hr.2 j p hj
        rw [show j * (Kd.raw kr.sz).sz = j from Nat.mul_one j, show (Kd.raw kr.sz).sz = 1 from rfl] at h2
        have e2 : ((inner.set i u).drop j).take 1 = (inner.drop j).take 1 := by
          rw [List.drop_eq_getElem_cons (l := inner.set i u) (i := j) (by rw [List.length_set]; omega), List.drop_eq_getElem_cons (l := inner) (i := j) (by omega)]
          show [(inner.set i u)[j]'(by rw [List.length_set]; omega)] = [inner[j]'(by omega)]
          rw [List.getElem_set_ne e]
        rw [e2]
        exact h2
theorem rows_getD (R : List (List F)) (i : Nat) (h : i < R.length) : (R.map pw8).getD i [] = pw8 (rowF R i) := by
  rw [rowF_lt h, List.getD_eq_getElem?_getD, List.getElem?_map, List.getElem?_eq_getElem h]
  rfl
theorem pw8_len (r : List F) : (pw8 r).length = r.length := by simp [pw8]
theorem rd_pw8 (r : List F) (c : Nat) (h : c < r.length) : rd (pw8 r) (c : Int) = num (co r c) := by
  rw [co_lt h]
  simp [rd, rdOf, pw8, List.getD_eq_getElem?_getD, h]
/-- A row of rows, opened at i: its header, its coefficients. -/
theorem N_cell {W : World} {base g n cap m : Nat} {ok : Nat → Prop} {R : List (List F)} (h : Kd.N kr 27 W base ok (.slice (some ⟨g, 0, none⟩) n cap) (R.map pw8)) (i : Nat) (hi : i < n) (hR : R.length = n) (hm : (rowF R i).length = m) (hp : 0 < m) :
    ∃ ad cp, W.cell? ⟨g, i, none⟩ = some (.slice (some ad) m cp) ∧ m ≤ cp ∧ W.frozen? ⟨g, i, none⟩ = false ∧ Kd.F (Kd.int .u8) W (fun k => ok k ∧ k ≠ g) (some ad) m (pw8 (rowF R i)) ∧ ∀ c : Nat, c < m → W.cell? (ad.add c) = some (.int .u8 (num (co (rowF R i) c))) := by
  have hg := rows_getD R i (by omega)
  obtain ⟨ad, cp, h1, h2, h3, h4⟩ := N_row h i hi (by rw [hg, pw8_len, hm]) hp
  rw [hg] at h4
  refine ⟨ad, cp, h1, h2, h3, h4, fun c hc => ?_⟩
  have := Kd.foot_int (Kd.F_now h4) (c : Int) (by omega) (by omega)
  rw [Int.toNat_natCast, rd_pw8 _ _ (by omega)] at this
  exact this

theorem scaledM {m : Nat} (ad : Addr) (cp : Nat) (r : List F) (x : F) (w : World) (hl : r.length = m) (hb : m ≤ 1000000) (hC : Kd.C (Kd.int .u8) w (some ad) m (pw8 r)) (hc : m ≤ cp) :
    Calls Try.prog 26 #[.slice (some ad) m cp, .int .u8 (num x)] w fun e w' => ∃ v0, e = .returned v0 ∧ Kd.R (Kd.int .u8) 5 w' w.heap.size (fun _ => True) v0 (pw8 (scale x r)) ∧ Below w.heap.size w w' := by
  obtain ⟨k, hk⟩ := scaled3 r x (by omega)
  have e : (pw8 r).length = m := by rw [pw8_len, hl]
  have := shroudref03_scaled.calls k (some ad) cp (pw8 r) (num x) _ w (by rw [e]; exact hC) (by rw [e]; exact hc) hk
  rw [e] at this
  exact this
theorem plusM {m : Nat} (ad ad2 : Addr) (cp cp2 : Nat) (r s : List F) (w : World) (hl : r.length = m) (hs : s.length = m) (hb : m ≤ 1000000) (hC : Kd.C (Kd.int .u8) w (some ad) m (pw8 r)) (hc : m ≤ cp) (hC2 : Kd.C (Kd.int .u8) w (some ad2) m (pw8 s)) (hc2 : m ≤ cp2) :
    Calls Try.prog 27 #[.slice (some ad) m cp, .slice (some ad2) m cp2] w fun e w' => ∃ v0, e = .returned v0 ∧ Kd.R (Kd.int .u8) 5 w' w.heap.size (fun _ => True) v0 (pw8 (vadd r s)) ∧ Below w.heap.size w w' := by
  obtain ⟨k, hk⟩ := plus3 r s (by omega) (by omega)
  have e : (pw8 r).length = m := by rw [pw8_len, hl]
  have e2 : (pw8 s).length = m := by rw [pw8_len, hs]
  have := shroudref03_plus.calls k (some ad) cp (pw8 r) (some ad2) cp2 (pw8 s) _ w (by rw [e]; exact hC) (by rw [e]; exact hc) (by rw [e2]; exact hC2) (by rw [e2]; exact hc2) hk
  rw [e, e2] at this
  exact this
theorem inv3M (x : F) (w : World) (hx : x ≠ 0) : Calls Try.prog 25 #[.int .u8 (num x)] w fun e w' => e = .returned (.tuple #[.int .u8 (num (F.inv x)), .bool true]) ∧ Drawn0 w w' := by
  obtain ⟨k, hk⟩ := inv3 x hx
  exact shroudref01_Inv.calls k _ _ _ w hk
/-- A row just made: where it lies, what it leads to. -/
theorem made_row {w1 w2 : World} {base m : Nat} {v : Value} {r : List F} (h : Kd.R (Kd.int .u8) 5 w2 base (fun _ => True) v (pw8 r)) (hl : r.length = m) (hp : 0 < m) :
    ∃ b cp, v = .slice (some ⟨b, 0, none⟩) m cp ∧ m ≤ cp ∧ base ≤ b ∧ Kd.F (Kd.int .u8) w2 (fun k => base ≤ k) (some ⟨b, 0, none⟩) m (pw8 r) := by
  have e : (pw8 r).length = m := by rw [pw8_len, hl]
  obtain ⟨b, cp, rfl, hb, _⟩ := Kd.R_form h (by omega)
  have h2 := Kd.R_mono (Kd.R_bound h) (ok' := fun k => base ≤ k) (fun k hk => hk.2.1)
  rw [e] at h2
  refine ⟨b, cp, by rw [e], (Kd.R_reads' h2).2.1, hb, Kd.R_F h2⟩

def T19 : Bool × List (List Nat × List Nat) := (true, [([], []), ([], []), ([], []), ([], []), ([2, 3], [2, 3]), ([4], [4]), ([], []), ([], []), ([], []), ([7, 8], [7, 8]), ([9], [9]), ([], []), ([10, 11], [10, 11]), ([12], [12]), ([6, 13], [6, 13]), ([5, 14, 14], [5, 14]), ([0, 1, 0, 1, 2, 3, 4, 5, 6, 7, 8, 9, 10, 11, 12, 13, 14, 15], [0, 1]), ([16, 15, 15, 0, 1, 2, 3, 4, 5, 6, 7, 8, 9, 10, 11, 12, 13, 14, 15], [15, 16])])
def B19 : List Nat := [0, 0, 0, 0, 12, 28, 0, 0, 0, 384, 896, 0, 3968, 8064, 16320, 32764, 65535, 131071]
theorem tab19 : rtab .any (opsOf Try.f17 19) = T19 := by kernel_rfl
theorem bits19 : waitsOk T19.2 B19 = true := by kernel_rfl

set_option maxHeartbeats 8000000 in
set_option maxRecDepth 100000 in
theorem reduce3_calls {m : Nat} (A : Option Addr) (cA cols : Nat) (L : List (List F)) (w : World) (hr : Kd.C kr w A L.length (L.map pw8)) (hlc : L.length ≤ cA) (hpos : 0 < L.length) (hwid : ∀ i, i < L.length → (rowF L i).length = m) (hm : 0 < m) (hn : L.length ≤ 1000000) (hmb : m ≤ 1000000) (hc : cols ≤ m) :
    Calls Try.prog 17 #[.slice A L.length cA, .int .i64 cols] w fun e w' => ∃ v0 v1, e = .returned (.tuple #[v0, v1]) ∧ Kd.N kr 27 w' w.heap.size (fun _ => True) v0 ((Shroud.reduce L cols).1.map pw8) ∧ Kd.R (Kd.int .i64) 3 w' w.heap.size (fun _ => True) v1 ((Shroud.reduce L cols).2.map fun (n : Nat) => (n : Int)) ∧ Below w.heap.size w w' := by
  have HR0 := Aside0.mk hr
  have HW0 := Aside0.mk hwid
  obtain ⟨n, hnn⟩ : ∃ n, L.length = n := ⟨_, rfl⟩
  have HN := Aside0.mk hnn
  have HE := Aside0.mk (fun c (h : c ≤ m) => ech_reduce (m := m) (rows := L) (fun r hr => by obtain ⟨i, hi, rfl⟩ := List.getElem_of_mem hr; have := hwid i hi; rwa [rowF_lt hi] at this) c h)
  have HB0 := Aside0.mk (Below.refl w.heap.size w)
  rw [hnn] at hlc hpos hn ⊢
  clear hr hwid hnn
  go_enter Try.func17, Try.ntmps17
  go_wp2_with (first | ((with_reducible refine gate_dst (N := 15) rfl ?_); refine Kd.N_lit kr (w0 := w) w.heap.size 27 ?hg (N' := 15) ?hd (xs := ([] : List (List Int))) (inner := []) (ok := fun _ => True) (okp := fun _ => True) ?hr ?hp (fun _ hk => hk) trivial HB0.out (Nat.le_refl _) (by simp) ?_; (case hd => rfl); (case hg => rfl); (case hr => first | (go_simp; done) | (go_simp; rfl)); (case hp => exact (Reps.none _ _)); intro v15 w1 ho1 hb1 hg1 hat1; have HO1 := Aside0.mk ho1; have HB1 := Aside0.mk hb1; clear ho1 hb1 hg1 hat1) | ((with_reducible refine gate_builtin (b := .append) (xs := #[.tmp 15, .tmp 16]) rfl ?_); at_builtin; refine Kd.N_append_rows kr (w0 := w) w.heap.size rfl (.tmp 15) (.tmp 16) 22 27 (.slice none 0 0) 24 rfl Try.underlying22 info_rows rfl (by decide) (by decide) v15 [] (L.map pw8) A n cA (fun _ => True) (fun k => k < w.heap.size) rfl rfl HO1.out ?aR ?aK (fun _ _ => trivial) HB1.out HB1.out.size ?aL ?_; (case aR => exact Kd.F_below (by rw [← HN.out]; exact Kd.C_F (Kd.heap_slice _ (Kd.heap_int _)) HR0.out) HB1.out); (case aK => intro k hk; refine ⟨trivial, fun e => ?_⟩; have := Kd.N_base HO1.out k e.symm; omega); (case aL => simp; omega); intro v17 w2 ho2 hb2 hg2 hat2; have HO2 := Aside0.mk ho2; have HB2 := Aside0.mk hb2; clear ho2 hb2 hg2 hat2))
  have ho := HO2.out
  rw [List.nil_append] at ho
  obtain ⟨gr, cap, rfl, hgr, hgs, cells, hcells⟩ := Kd.N_form ho (by simp [HN.out]; omega)
  rw [List.length_map, HN.out] at ho ⊢
  have HO := Aside0.mk ho
  clear ho hcells
  go_loopg [7, 8, 9] cols (fun kq v7 v8 v9 w' => ∃ (c d : Nat), c ≤ cols ∧ kq = cols - c ∧ v9 = .int .i64 c ∧ v8 = .int .i64 d ∧ Aside0 (d = (Shroud.reduce L c).2.length) ∧ Aside0 (Kd.N kr 27 w' w.heap.size (fun k => some k ≠ v7.ownBlock) (.slice (some ⟨gr, 0, none⟩) n cap) ((Shroud.reduce L c).1.map pw8)) ∧ Aside0 (Kd.R (Kd.int .i64) 3 w' w.heap.size (fun _ => True) v7 ((Shroud.reduce L c).2.map fun (n : Nat) => (n : Int))) ∧ Aside0 (Below w.heap.size w w'))
  case atStart => exact ⟨0, 0, Nat.zero_le _, rfl, rfl, rfl, ⟨rfl⟩, ⟨Kd.N_mono HO.out (fun k _ => by simp [Value.ownBlock])⟩, ⟨Kd.R_nil _ _ _ _ _⟩, ⟨HB2.out⟩⟩
  case round =>
    obtain ⟨c, d, hcc, hkq, rfl, rfl, HD, HL, HFS, HB⟩ := hrel
    by_cases hlt : c < cols
    · have HKQ := Aside0.mk hkq
      clear hkq
      have hE := HE.out c (by omega)
      obtain ⟨R, fs, hRf⟩ : ∃ R fs, Shroud.reduce L c = (R, fs) := ⟨_, _, rfl⟩
      have HRf := Aside0.mk hRf
      rw [hRf] at HL HFS HD hE
      simp only at HL HFS HD
      have hd := HD.out
      subst hd
      have HRL := Aside0.mk (show R.length = n by rw [← HN.out]; exact hE.len)
      have HRW := Aside0.mk (fun i (hi : i < n) => (show (rowF R i).length = m from hE.wid i (by rw [HRL.out]; exact hi)))
      have hle : fs.length ≤ n := by have h1 := hE.dle; have h2 := hE.len; simp only at h1 h2; have := HN.out; omega
      clear hE hRf
      go_wp2
      go_loopg [10] (n - fs.length) (fun kq v w' => ∃ q : Nat, fs.length ≤ q ∧ q ≤ n ∧ kq = n - q ∧ v = .int .i64 q ∧ Aside0 (∀ i, fs.length ≤ i → i < q → co (rowF R i) c = 0) ∧ w' = wr)
      case atStart => exact ⟨fs.length, Nat.le_refl _, hle, rfl, rfl, ⟨fun i h1 h2 => absurd h2 (by omega)⟩, rfl⟩
      case round =>
        obtain ⟨q, hq1, hq2, hkq2, rfl, HZ, rfl⟩ := hrel
        have HKQ2 := Aside0.mk hkq2
        clear hkq2
        by_cases hltq : q < n
        · obtain ⟨ad, cp, h1, h2, h3, h4, h5⟩ := N_cell HL.out q hltq HRL.out (HRW.out q hltq) hm
          have h5c := h5 c (by omega)
          obtain ⟨x, hxe⟩ : ∃ x, co (rowF R q) c = x := ⟨_, rfl⟩
          rw [hxe] at h5c
          have HX := Aside0.mk hxe
          have H4 := Aside0.mk h4
          have H2 := Aside0.mk h2
          clear hxe h4 h5 h2
          have bq : (q : Int) < n := by omega
          have bc : (c : Int) < m := by omega
          by_cases hx0 : x = 0
          · subst hx0
            rw [show num 0 = 0 from rfl] at h5c
            go_wp2
            go_roundg (n - (q + 1))
            case measure => have := HKQ2.out; omega
            case rel => exact ⟨q + 1, by omega, by omega, rfl, by go_num, ⟨fun i h1 h2 => by
              by_cases e : i = q
              · rw [e]; exact HX.out
              · exact HZ.out i h1 (by omega)⟩, rfl⟩
          · have hxn : (num x == 0) = false := by rw [beq_eq_false_iff_ne]; intro h; exact hx0 (by rw [← el_num x, h]; rfl)
            have HX0 := Aside0.mk hx0
            clear hx0
            have hqn : ((q : Int) == (n : Int)) = false := by rw [beq_eq_false_iff_ne]; omega
            go_wp2_with fail
            refine (inv3M x _ HX0.out).mono ?_
            rintro e w3 ⟨rfl, hd3⟩
            have hb3 := Drawn0.below hd3
            have HL3 := Aside0.mk (Kd.N_below HL.out hb3)
            have HFS3 := Aside0.mk (Kd.R_below HFS.out hb3)
            have HB3 := Aside0.mk (below_step HB.out hb3)
            clear hd3 hb3 h1 h5c HL HFS HB
            obtain ⟨ad3, cp3, h1, h2, h3, h4, h5⟩ := N_cell HL3.out q hltq HRL.out (HRW.out q hltq) hm
            clear h5
            have H4 := Aside0.mk h4
            have H2 := Aside0.mk h2
            clear h4 h2
            go_wp2_with fail
            refine (scaledM ad3 cp3 (rowF R q) (F.inv x) w3 (HRW.out q hltq) hmb (Kd.F_now H4.out) H2.out).mono ?_
            rintro e w4 ⟨v13, rfl, ho4, hb4⟩
            obtain ⟨ld, hld⟩ : ∃ ld, scale (F.inv x) (rowF R q) = ld := ⟨_, rfl⟩
            rw [hld] at ho4
            have hll : ld.length = m := by rw [← hld, scale_length]; exact HRW.out q hltq
            have HLD := Aside0.mk (show leadRow R q c = ld by rw [← hld, leadRow, HX.out])
            have HLL := Aside0.mk hll
            obtain ⟨gb, cb, rfl, hcb, hgb, hFb⟩ := made_row (w1 := w4) ho4 hll hm
            have HL4 := Aside0.mk (Kd.N_below HL3.out hb4)
            have HFS4 := Aside0.mk (Kd.R_below HFS3.out hb4)
            have HB4 := Aside0.mk (below_step HB3.out hb4)
            have HROW := Aside0.mk (Kd.F_mono hFb (ok' := fun k => some k ≠ u7.ownBlock ∧ k ≠ gr) (fun k hk => ⟨fun e => by have := Kd.R_lt HFS3.out k e.symm; omega, fun e => by have := Kd.N_lt HL3.out gr rfl; omega⟩))
            have HCB := Aside0.mk hcb
            have HFB := Aside0.mk (show gb ≠ gr from fun e => by have := Kd.N_lt HL3.out gr rfl; omega)
            clear ho4 hb4 hld hll hFb hcb hgb HL3 HFS3 HB3 h1 h3 H4 H2
            have hdn : fs.length < n := by omega
            have bd : (fs.length : Int) < n := by omega
            obtain ⟨adq, cpq, q1, _, q3, _, _⟩ := N_cell HL4.out q hltq HRL.out (HRW.out q hltq) hm
            obtain ⟨add, cpd, d1, d2, d3, d4, _⟩ := N_cell HL4.out fs.length hdn HRL.out (HRW.out fs.length hdn) hm
            obtain ⟨cells4, ht4⟩ := Kd.N_typed HL4.out gr rfl
            have HN5 := Aside0.mk (N_put HL4.out q (.slice (some add) m cpd) (pw8 (rowF R fs.length)) (by have := Kd.FK_slice_mk (e := 5) (d := Kd.int .u8) (c := cpd) (l := pw8 (rowF R fs.length)) (A := some add) (W := w4) (ok := fun k => some k ≠ u7.ownBlock ∧ k ≠ gr) (by rw [pw8_len, HRW.out _ hdn]; exact d2) (by rw [pw8_len, HRW.out _ hdn]; exact d4); rwa [pw8_len, HRW.out _ hdn] at this) (fun k hk => hk))
            have HROW5 := Aside0.mk (Kd.F_grown HROW.out (grown_set w4 gr q (.slice (some add) m cpd)) (fun k hk e => hk.2 (by injection e)))
            have HFS5 := Aside0.mk (Kd.R_set HFS4.out ht4 (by decide) q (.slice (some add) m cpd))
            have HB5 := Aside0.mk (HB4.out.setCell (p := ⟨gr, q, none⟩) hgr (.slice (some add) m cpd))
            obtain ⟨cells5, ht5⟩ := Kd.N_typed HN5.out gr rfl
            have HN6 := Aside0.mk (N_put HN5.out fs.length (.slice (some ⟨gb, 0, none⟩) m cb) (pw8 ld) (by have := Kd.FK_slice_mk (e := 5) (d := Kd.int .u8) (c := cb) (l := pw8 ld) (A := some ⟨gb, 0, none⟩) (W := w4.setCell ⟨gr, q, none⟩ (.slice (some add) m cpd)) (ok := fun k => some k ≠ u7.ownBlock ∧ k ≠ gr) (by rw [pw8_len, HLL.out]; exact HCB.out) (by rw [pw8_len, HLL.out]; exact HROW5.out); rwa [pw8_len, HLL.out] at this) (fun k hk => hk))
            have HROW6 := Aside0.mk (Kd.F_grown HROW5.out (grown_set _ gr fs.length (.slice (some ⟨gb, 0, none⟩) m cb)) (fun k hk e => hk.2 (by injection e)))
            have HFS6 := Aside0.mk (Kd.R_set HFS5.out ht5 (by decide) fs.length (.slice (some ⟨gb, 0, none⟩) m cb))
            have HB6 := Aside0.mk (HB5.out.setCell (p := ⟨gr, fs.length, none⟩) hgr (.slice (some ⟨gb, 0, none⟩) m cb))
            obtain ⟨v5, e5⟩ : ∃ v', (w4.setCell ⟨gr, q, none⟩ (.slice (some add) m cpd)).cell? ⟨gr, fs.length, none⟩ = some v' := cell?_setCell_some d1
            have f5 : (w4.setCell ⟨gr, q, none⟩ (.slice (some add) m cpd)).frozen? ⟨gr, fs.length, none⟩ = false := by rw [World.frozen?_setCell]; exact d3
            clear d4 d2 ht4 ht5 HN5 HROW5 HFS5 HB5 HL4 HROW HFS4 HB4
            obtain ⟨R3, hR3⟩ : ∃ R3, (R.set q (rowF R fs.length)).set fs.length ld = R3 := ⟨_, rfl⟩
            have hn6 := HN6.out
            rw [← List.map_set, ← List.map_set, hR3] at hn6
            have HN7 := Aside0.mk hn6
            have HR3 := Aside0.mk hR3
            have HR3L := Aside0.mk (by rw [← hR3, List.length_set, List.length_set]; exact HRL.out : R3.length = n)
            have HR3D := Aside0.mk (by rw [← hR3, rowF_set (by rw [List.length_set, HRL.out]; exact hdn), if_pos rfl] : rowF R3 fs.length = ld)
            have HR3W := Aside0.mk (fun i (hi : i < n) => (show (rowF R3 i).length = m by
              rw [← hR3, rowF_set (by rw [List.length_set, HRL.out]; exact hdn)]
              split
              · exact HLL.out
              · rw [rowF_set (by rw [HRL.out]; exact hltq)]
                split
                · exact HRW.out _ hdn
                · exact HRW.out i hi))
            clear hn6 hR3 HN6
            go_wp2
            generalize HW6 : (w4.setCell ⟨gr, q, none⟩ (.slice (some add) m cpd)).setCell ⟨gr, fs.length, none⟩ (.slice (some ⟨gb, 0, none⟩) m cb) = w6 at HN7 HROW6 HFS6 HB6 ⊢
            clear HW6 q1 q3 d1 d3 e5 f5
            go_loopg [74] n (fun kq v w' => ∃ i : Nat, i ≤ n ∧ kq = n - i ∧ v = .int .i64 i ∧ Aside0 (Kd.N kr 27 w' w.heap.size (fun k => some k ≠ u7.ownBlock) (.slice (some ⟨gr, 0, none⟩) n cap) ((elimTo R3 ld c fs.length i).map pw8)) ∧ Aside0 (Kd.F (Kd.int .u8) w' (fun k => some k ≠ u7.ownBlock ∧ k ≠ gr) (some ⟨gb, 0, none⟩) m (pw8 ld)) ∧ Aside0 (Kd.R (Kd.int .i64) 3 w' w.heap.size (fun _ => True) u7 (fs.map fun (n : Nat) => (n : Int))) ∧ Aside0 (Below w.heap.size w w'))
            case atStart => exact ⟨0, Nat.zero_le _, rfl, rfl, ⟨by rw [elimTo_zero]; exact HN7.out⟩, HROW6, HFS6, HB6⟩
            case round =>
              obtain ⟨i, hi1, hkq3, rfl, HN8, HROW8, HFS8, HB8⟩ := hrel
              have HKQ3 := Aside0.mk hkq3
              clear hkq3 HN7 HROW6 HFS6 HB6
              by_cases hlti : i < n
              · have bi : (i : Int) < n := by omega
                by_cases hid : i = fs.length
                · have hne : ((i : Int) != (fs.length : Int)) = false := by rw [hid]; simp
                  have HID := Aside0.mk hid
                  clear hid
                  go_wp2
                  go_roundg (n - (i + 1))
                  case measure => have := HKQ3.out; omega
                  case rel => exact ⟨i + 1, by omega, rfl, by go_num, ⟨(elimTo_at R3 ld c HID.out).symm ▸ HN8.out⟩, HROW8, HFS8, HB8⟩
                · have hne : ((i : Int) != (fs.length : Int)) = true := by rw [bne_iff_ne]; omega
                  have hri : rowF (elimTo R3 ld c fs.length i) i = rowF R3 i := by rw [rowF_elimTo (by rw [HR3L.out]; exact hlti), if_neg (by omega)]
                  obtain ⟨adi, cpi, i1, i2, i3, i4, i5⟩ := N_cell HN8.out i hlti (by rw [elimTo_length]; exact HR3L.out) (by rw [hri]; exact HR3W.out i hlti) hm
                  replace i5 := i5 c (by omega)
                  rw [hri] at i4 i5
                  obtain ⟨y, hy⟩ : ∃ y, co (rowF R3 i) c = y := ⟨_, rfl⟩
                  rw [hy] at i5
                  have HY := Aside0.mk hy
                  have HI8 := Aside0.mk i4
                  have HCI := Aside0.mk i2
                  clear hy i4 i2 i3 hri
                  try go_wp2
                  have z_ := Aside0.mk (Kd.N_drew HN8.out)
                  clear HN8
                  have HN8 := z_
                  clear z_
                  have z_ := Aside0.mk (Kd.F_drew HROW8.out)
                  clear HROW8
                  have HROW8 := z_
                  clear z_
                  have z_ := Aside0.mk (Kd.R_drew HFS8.out)
                  clear HFS8
                  have HFS8 := z_
                  clear z_
                  have z_ := Aside0.mk (Kd.F_drew HI8.out)
                  clear HI8
                  have HI8 := z_
                  clear z_
                  have z_ := Aside0.mk (below_drew1 HB8.out)
                  clear HB8
                  have HB8 := z_
                  clear z_
                  refine start_ (n := 18) (S := fun w' => w'.cell? ⟨gr, i, none⟩ = some (.slice (some adi) m cpi) ∧ w'.cell? (adi.add c) = some (.int .u8 (num y))) (ds := [17]) #[false, false, false, false, false, false, false, false, false, false, false, false, false, false, false, false, false, false] (by kernel_rfl) rfl rfl ⟨i1, i5⟩ (fun hHeld => ?_); refine with_tabW tab19 bits19 (fun HT_ HW_ => ?_)
                  generalize HWR : wr.drew = w7 at HN8 HROW8 HFS8 HB8 HI8 hHeld ⊢
                  clear HWR
                  refine pure_ (i := 0) (N := some 80) (v := ?_) (a' := ?_) #[true, false, false, false, false, false, false, false, false, false, false, false, false, false, false, false, false, false] rfl rfl (any_of HT_.out (by kernel_rfl)) (fun _ _ _ h => h) (Or.inl ⟨by rfl, ?_⟩) ?_ ?_
                  rotate_left
                  · intro w'
                    go_simp
                    with_reducible rfl
                  rotate_left
                  · simp only [Act.put, List.setIfInBounds_toArray, List.set_cons_zero, List.set_cons_succ, i64_w, i32_w]
                    rfl
                  refine pure_ (i := 1) (N := some 81) (v := ?_) (a' := ?_) #[true, true, false, false, false, false, false, false, false, false, false, false, false, false, false, false, false, false] rfl rfl (any_of HT_.out (by kernel_rfl)) (fun _ _ _ h => h) (Or.inl ⟨by rfl, ?_⟩) ?_ ?_
                  rotate_left
                  · intro w'
                    go_simp
                    with_reducible rfl
                  rotate_left
                  · simp only [Act.put, List.setIfInBounds_toArray, List.set_cons_zero, List.set_cons_succ, i64_w, i32_w]
                    rfl
                  refine pure_ (i := 2) (N := some 82) (v := ?_) (a' := ?_) #[true, true, true, false, false, false, false, false, false, false, false, false, false, false, false, false, false, false] rfl rfl (any_of HT_.out (by kernel_rfl)) (fun _ _ _ h => h) (Or.inl ⟨by rfl, ?_⟩) ?_ ?_
                  rotate_left
                  · intro w'
                    go_simp
                    with_reducible rfl
                  rotate_left
                  · simp only [Act.put, List.setIfInBounds_toArray, List.set_cons_zero, List.set_cons_succ, i64_w, i32_w]
                    rfl
                  refine pure_ (i := 3) (N := some 83) (v := ?_) (a' := ?_) #[true, true, true, true, false, false, false, false, false, false, false, false, false, false, false, false, false, false] rfl rfl (any_of HT_.out (by kernel_rfl)) (fun _ _ _ h => h) (Or.inl ⟨by rfl, ?_⟩) ?_ ?_
                  rotate_left
                  · intro w'
                    go_simp
                    with_reducible rfl
                  rotate_left
                  · simp only [Act.put, List.setIfInBounds_toArray, List.set_cons_zero, List.set_cons_succ, i64_w, i32_w]
                    rfl
                  refine pure_ (i := 4) (N := some 84) (v := ?_) (a' := ?_) #[true, true, true, true, true, false, false, false, false, false, false, false, false, false, false, false, false, false] rfl rfl (any_of HT_.out (by kernel_rfl)) (fun _ _ _ h => h) (Or.inl ⟨by rfl, ?_⟩) ?_ ?_
                  rotate_left
                  · intro w'
                    go_simp
                    with_reducible rfl
                  rotate_left
                  · simp only [Act.put, List.setIfInBounds_toArray, List.set_cons_zero, List.set_cons_succ, i64_w, i32_w]
                    rfl
                  refine pure_ (i := 6) (N := some 86) (v := ?_) (a' := ?_) #[true, true, true, true, true, false, true, false, false, false, false, false, false, false, false, false, false, false] rfl rfl (any_of HT_.out (by kernel_rfl)) (fun _ _ _ h => h) (Or.inl ⟨by rfl, ?_⟩) ?_ ?_
                  rotate_left
                  · intro w'
                    go_simp
                    with_reducible rfl
                  rotate_left
                  · simp only [Act.put, List.setIfInBounds_toArray, List.set_cons_zero, List.set_cons_succ, i64_w, i32_w]
                    rfl
                  refine pure_ (i := 7) (N := some 87) (v := ?_) (a' := ?_) #[true, true, true, true, true, false, true, true, false, false, false, false, false, false, false, false, false, false] rfl rfl (any_of HT_.out (by kernel_rfl)) (fun _ _ _ h => h) (Or.inl ⟨by rfl, ?_⟩) ?_ ?_
                  rotate_left
                  · intro w'
                    go_simp
                    with_reducible rfl
                  rotate_left
                  · simp only [Act.put, List.setIfInBounds_toArray, List.set_cons_zero, List.set_cons_succ, i64_w, i32_w]
                    rfl
                  refine pure_ (i := 8) (N := some 88) (v := ?_) (a' := ?_) #[true, true, true, true, true, false, true, true, true, false, false, false, false, false, false, false, false, false] rfl rfl (any_of HT_.out (by kernel_rfl)) (fun _ _ _ h => h) (Or.inl ⟨by rfl, ?_⟩) ?_ ?_
                  rotate_left
                  · intro w'
                    go_simp
                    with_reducible rfl
                  rotate_left
                  · simp only [Act.put, List.setIfInBounds_toArray, List.set_cons_zero, List.set_cons_succ, i64_w, i32_w]
                    rfl
                  refine pure_ (i := 9) (N := some 89) (v := ?_) (a' := ?_) #[true, true, true, true, true, false, true, true, true, true, false, false, false, false, false, false, false, false] rfl rfl (any_of HT_.out (by kernel_rfl)) (fun _ _ _ h => h) (Or.inl ⟨by rfl, ?_⟩) ?_ ?_
                  rotate_left
                  · intro w'
                    go_simp
                    with_reducible rfl
                  rotate_left
                  · simp only [Act.put, List.setIfInBounds_toArray, List.set_cons_zero, List.set_cons_succ, i64_w, i32_w]
                    rfl
                  refine pure_ (i := 11) (N := some 91) (v := ?_) (a' := ?_) #[true, true, true, true, true, false, true, true, true, true, false, true, false, false, false, false, false, false] rfl rfl (any_of HT_.out (by kernel_rfl)) (fun _ _ _ h => h) (Or.inl ⟨by rfl, ?_⟩) ?_ ?_
                  rotate_left
                  · intro w'
                    go_simp
                    with_reducible rfl
                  rotate_left
                  · simp only [Act.put, List.setIfInBounds_toArray, List.set_cons_zero, List.set_cons_succ, i64_w, i32_w]
                    rfl
                  refine take_ (i := 5) (N := some 85) (v := ?_) (a' := ?_) #[true, true, true, true, true, true, true, true, true, true, false, true, false, false, false, false, false, false] rfl rfl (take_ofW HT_.out HW_.out (by kernel_rfl)) (fun _ _ _ h => h) (Or.inl ⟨by rfl, ?_⟩) hHeld ?_ ?_
                  rotate_left
                  · rintro w' ⟨s0, s1⟩
                    go_simp
                    with_reducible rfl
                  rotate_left
                  · simp only [Act.put, List.setIfInBounds_toArray, List.set_cons_zero, List.set_cons_succ, i64_w, i32_w]
                    rfl
                  refine take_ (i := 10) (N := some 90) (v := ?_) (a' := ?_) #[true, true, true, true, true, true, true, true, true, true, true, true, false, false, false, false, false, false] rfl rfl (take_ofW HT_.out HW_.out (by kernel_rfl)) (fun _ _ _ h => h) (Or.inl ⟨by rfl, ?_⟩) hHeld ?_ ?_
                  rotate_left
                  · rintro w' ⟨s0, s1⟩
                    go_simp
                    with_reducible rfl
                  rotate_left
                  · simp only [Act.put, List.setIfInBounds_toArray, List.set_cons_zero, List.set_cons_succ, i64_w, i32_w]
                    rfl
                  refine pure_ (i := 12) (N := some 92) (v := ?_) (a' := ?_) #[true, true, true, true, true, true, true, true, true, true, true, true, true, false, false, false, false, false] rfl rfl (any_of HT_.out (by kernel_rfl)) (fun _ _ _ h => h) (Or.inl ⟨by rfl, ?_⟩) ?_ ?_
                  rotate_left
                  · intro w'
                    go_simp
                    with_reducible rfl
                  rotate_left
                  · simp only [Act.put, List.setIfInBounds_toArray, List.set_cons_zero, List.set_cons_succ, i64_w, i32_w]
                    rfl
                  refine take_ (i := 13) (N := some 93) (v := ?_) (a' := ?_) #[true, true, true, true, true, true, true, true, true, true, true, true, true, true, false, false, false, false] rfl rfl (take_ofW HT_.out HW_.out (by kernel_rfl)) (fun _ _ _ h => h) (Or.inl ⟨by rfl, ?_⟩) hHeld ?_ ?_
                  rotate_left
                  · rintro w' ⟨s0, s1⟩
                    go_simp
                    with_reducible rfl
                  rotate_left
                  · simp only [Act.put, List.setIfInBounds_toArray, List.set_cons_zero, List.set_cons_succ, i64_w, i32_w]
                    rfl
                  refine one_ (i := 14) (N := some 94) #[true, true, true, true, true, true, true, true, true, true, true, true, true, true, true, false, false, false] rfl rfl (one_of HT_.out (by kernel_rfl)) (by decide) (fun K hK => ?_)
                  refine goes_ Try.func26 (by kernel_rfl) rfl #[.slice (some ⟨gb, 0, none⟩) m cb, .int .u8 (num y)] (by rfl) rfl rfl (by (try simp only [List.map_toArray, List.map_cons, List.map_nil]); first | done | rfl) ?_
                  refine (scaledM ⟨gb, 0, none⟩ cb ld y _ HLL.out hmb (Kd.F_now HROW8.out) HCB.out).mono ?_
                  rintro e w8 ⟨v94, rfl, ho8, hb8⟩
                  obtain ⟨g94, c94, rfl, hc94, hg94, hF94⟩ := made_row (w1 := w8) ho8 (by rw [scale_length]; exact HLL.out) hm
                  have HF94 := Aside0.mk hF94
                  have HC94 := Aside0.mk hc94
                  have z_ := Aside0.mk (Kd.N_below HN8.out hb8)
                  clear HN8
                  have HN8 := z_
                  clear z_
                  have z_ := Aside0.mk (Kd.F_below HROW8.out hb8)
                  clear HROW8
                  have HROW8 := z_
                  clear z_
                  have z_ := Aside0.mk (Kd.R_below HFS8.out hb8)
                  clear HFS8
                  have HFS8 := z_
                  clear z_
                  have z_ := Aside0.mk (Kd.F_below HI8.out hb8)
                  clear HI8
                  have HI8 := z_
                  clear z_
                  have z_ := Aside0.mk (below_step HB8.out hb8)
                  clear HB8
                  have HB8 := z_
                  clear z_
                  refine ⟨_, rfl, ?_⟩
                  refine hK.out _ _ ⟨pw_cell_from hb8 hHeld.1, pw_cell_from hb8 hHeld.2⟩ (fun hHeld => ?_)
                  clear ho8 hb8 hc94 hg94 hF94
                  clear hK K
                  refine norm_ (a' := ?_) ?_ ?_
                  rotate_left
                  · show Act.put _ (some 94) _ = _
                    simp only [Act.put, List.setIfInBounds_toArray, List.set_cons_zero, List.set_cons_succ, i64_w, i32_w]
                    rfl
                  refine one_ (i := 15) (N := some 95) #[true, true, true, true, true, true, true, true, true, true, true, true, true, true, true, true, false, false] rfl rfl (one_of HT_.out (by kernel_rfl)) (by decide) (fun K hK => ?_)
                  refine goes_ Try.func27 (by kernel_rfl) rfl #[.slice (some adi) m cpi, .slice (some ⟨g94, 0, none⟩) m c94] (by rfl) rfl rfl (by (try simp only [List.map_toArray, List.map_cons, List.map_nil]); first | done | rfl) ?_
                  refine (plusM adi ⟨g94, 0, none⟩ cpi c94 (rowF R3 i) (scale y ld) _ (HR3W.out i hlti) (by rw [scale_length]; exact HLL.out) hmb (Kd.F_now HI8.out) HCI.out (Kd.F_now HF94.out) HC94.out).mono ?_
                  rintro e w9 ⟨v95, rfl, ho9, hb9⟩
                  have hv9 : (vadd (rowF R3 i) (scale y ld)).length = m := by rw [vadd_length (by rw [scale_length, HLL.out]; exact HR3W.out i hlti)]; exact HR3W.out i hlti
                  obtain ⟨g95, c95, rfl, hc95, hg95, hF95⟩ := made_row (w1 := w9) ho9 hv9 hm
                  have HF95 := Aside0.mk (Kd.F_mono hF95 (ok' := fun k => some k ≠ u7.ownBlock ∧ k ≠ gr) (fun k hk => ⟨fun e => by have := Kd.R_lt HFS8.out k e.symm; omega, fun e => by have := Kd.N_lt HN8.out gr rfl; omega⟩))
                  have HC95 := Aside0.mk hc95
                  have HV95 := Aside0.mk hv9
                  have z_ := Aside0.mk (Kd.N_below HN8.out hb9)
                  clear HN8
                  have HN8 := z_
                  clear z_
                  have z_ := Aside0.mk (Kd.F_below HROW8.out hb9)
                  clear HROW8
                  have HROW8 := z_
                  clear z_
                  have z_ := Aside0.mk (Kd.R_below HFS8.out hb9)
                  clear HFS8
                  have HFS8 := z_
                  clear z_
                  have z_ := Aside0.mk (below_step HB8.out hb9)
                  clear HB8
                  have HB8 := z_
                  clear z_
                  have i1 := pw_cell_from hb9 hHeld.1
                  refine ⟨_, rfl, ?_⟩
                  refine hK.out _ _ ⟨pw_cell_from hb9 hHeld.1, pw_cell_from hb9 hHeld.2⟩ (fun hHeld => ?_)
                  clear ho9 hb9 hc95 hg95 hF95 hv9 HF94 HC94 HI8
                  clear hK K
                  refine norm_ (a' := ?_) ?_ ?_
                  rotate_left
                  · show Act.put _ (some 95) _ = _
                    simp only [Act.put, List.setIfInBounds_toArray, List.set_cons_zero, List.set_cons_succ, i64_w, i32_w]
                    rfl
                  refine pure_ (i := 16) (N := some 96) (v := ?_) (a' := ?_) #[true, true, true, true, true, true, true, true, true, true, true, true, true, true, true, true, true, false] rfl rfl (any_of HT_.out (by kernel_rfl)) (fun _ _ _ h => h) (Or.inl ⟨by rfl, ?_⟩) ?_ ?_
                  rotate_left
                  · intro w'
                    go_simp
                    with_reducible rfl
                  rotate_left
                  · simp only [Act.put, List.setIfInBounds_toArray, List.set_cons_zero, List.set_cons_succ, i64_w, i32_w]
                    rfl
                  obtain ⟨_, _, _, _, i3, _, _⟩ := N_cell HN8.out i hlti (by rw [elimTo_length]; exact HR3L.out) (by rw [rowF_elimTo (by rw [HR3L.out]; exact hlti), if_neg (by omega)]; exact HR3W.out i hlti) hm
                  refine last_ (i := 17) (N := none) #[true, true, true, true, true, true, true, true, true, true, true, true, true, true, true, true, true, true] rfl rfl (one_of HT_.out (by kernel_rfl)) (by decide) (fun K hK => ?_)
                  refine skip_ (w1 := ?_) (by rfl) rfl ?_ ?_
                  rotate_left
                  · go_simp
                    rfl
                  refine hK.out _ _ ?_
                  clear hK K
                  refine done_ (done_of HT_.out (by kernel_rfl)) ?_
                  obtain ⟨cells9, ht9⟩ := Kd.N_typed HN8.out gr rfl
                  have HN10 := Aside0.mk (N_put HN8.out i (.slice (some ⟨g95, 0, none⟩) m c95) (pw8 (vadd (rowF R3 i) (scale y ld))) (by have := Kd.FK_slice_mk (e := 5) (d := Kd.int .u8) (c := c95) (l := pw8 (vadd (rowF R3 i) (scale y ld))) (A := some ⟨g95, 0, none⟩) (W := w9) (ok := fun k => some k ≠ u7.ownBlock ∧ k ≠ gr) (by rw [pw8_len, HV95.out]; exact HC95.out) (by rw [pw8_len, HV95.out]; exact HF95.out); rwa [pw8_len, HV95.out] at this) (fun k hk => hk))
                  have HROW10 := Aside0.mk (Kd.F_grown HROW8.out (grown_set w9 gr i (.slice (some ⟨g95, 0, none⟩) m c95)) (fun k hk e => hk.2 (by injection e)))
                  have HFS10 := Aside0.mk (Kd.R_set HFS8.out ht9 (by decide) i (.slice (some ⟨g95, 0, none⟩) m c95))
                  have HB10 := Aside0.mk (HB8.out.setCell (p := ⟨gr, i, none⟩) hgr (.slice (some ⟨g95, 0, none⟩) m c95))
                  have hn10 := HN10.out
                  rw [← List.map_set, ← HY.out, elimTo_succ ld c fs.length (by rw [HR3L.out]; exact hlti) hid] at hn10
                  have HN11 := Aside0.mk hn10
                  clear ht9 hn10 HN10 HN8 HROW8 HFS8 HB8 i1 i3 HF95 HC95 HV95
                  go_wp2
                  go_roundg (n - (i + 1))
                  case measure => have := HKQ3.out; omega
                  case rel => exact ⟨i + 1, by omega, rfl, by go_num, HN11, HROW10, HFS10, HB10⟩
              · obtain rfl : i = n := by omega
                have hTE := HN8.out
                rw [show elimTo R3 ld c fs.length i = pivRows R q fs.length c by rw [← HR3L.out, elimTo_all, pivRows, HLD.out, ← HR3.out]] at hTE
                have HTE := Aside0.mk (Kd.N_mono hTE (ok' := fun k => True ∧ some k ≠ u7.ownBlock) (fun _ hk => ⟨trivial, hk⟩))
                clear hTE HN8 HROW8
                go_wp2_with (first | ((with_reducible refine gate_builtin (b := .append) (xs := #[.tmp 98, .tmp 100]) rfl ?_); at_builtin; refine Kd.R_append (Kd.int .i64) (w0 := w) w.heap.size rfl (.tmp 98) (.tmp 100) 35 3 (.int .i64 0) 8 rfl Try.underlying35 info_ints rfl (by decide) (by decide) u7 (fs.map fun (n : Nat) => (n : Int)) (c : Int) [.int .i64 c] (fun _ => True) (fun _ => False) rfl rfl rfl (fun _ h => h.elim) (fun _ _ => trivial) HFS8.out HB8.out HB8.out.size ?hl ?_; (case hl => rw [List.length_map]; omega); intro v7 w10 ho10 hb10 hg10 hat10; have HO10 := Aside0.mk ho10; have HB10 := Aside0.mk hb10; have HN10 := Aside0.mk (Kd.N_after HTE.out hg10 hat10); clear ho10 hb10 hg10 hat10))
                go_roundg (cols - (c + 1))
                case measure => have := HKQ.out; omega
                case rel =>
                  have e : redcol (Shroud.reduce L c) c = (pivRows R q fs.length c, fs ++ [c]) := by
                    have hs := seek_eq hq1 (by rw [HRL.out]; exact hq2) HZ.out (fun _ => by rw [HX.out]; exact HX0.out)
                    rw [HRf.out, redcol]
                    simp only [hs]
                    rw [if_neg (by rw [HRL.out]; omega)]
                  refine ⟨c + 1, fs.length + 1, by omega, rfl, by go_num, by go_num, ?_, ?_, ?_, HB10⟩
                  · rw [Shroud.reduce, e]; exact ⟨by simp⟩
                  · rw [Shroud.reduce, e]; exact ⟨Kd.N_mono HN10.out (fun _ hk => hk.2)⟩
                  · rw [Shroud.reduce, e]
                    have := HO10.out
                    exact ⟨by rw [List.map_append]; exact this⟩
        · obtain rfl : q = n := by omega
          go_wp2
          go_roundg (cols - (c + 1))
          case measure => have := HKQ.out; omega
          case rel =>
            have e : redcol (Shroud.reduce L c) c = (R, fs) := by
              rw [HRf.out, redcol, if_pos (seek_eq hq1 (by rw [HRL.out]; exact Nat.le_refl _) HZ.out (fun h => by rw [HRL.out] at h; omega) |>.trans (by rw [HRL.out]))]
            refine ⟨c + 1, fs.length, by omega, rfl, by go_num, rfl, ?_, ?_, ?_, HB⟩
            · rw [Shroud.reduce, e]; exact ⟨rfl⟩
            · rw [Shroud.reduce, e]; exact HL
            · rw [Shroud.reduce, e]; exact HFS
    · obtain rfl : c = cols := by omega
      go_wp2
      go_ret2
      exact ⟨_, _, rfl, Kd.N_mono HL.out (fun _ _ => trivial), HFS.out, HB.out⟩

/-- What Reduce tells, of rows of bytes of one width, up to a column. -/
def shroudref03_Reduce.f (l0 : List (List Int)) (cols : Int) : Option (List (List Int) × List Int) :=
  if bytesB l0 = true ∧ rightB l0 = true ∧ 0 ≤ cols ∧ cols ≤ ((l0.headD []).length : Int) then some ((Shroud.reduce (rowsF l0) cols.toNat).1.map pw8, (Shroud.reduce (rowsF l0) cols.toNat).2.map fun (n : Nat) => (n : Int)) else none
theorem shroudref03_Reduce.calls (A0 : Option Addr) (c0 : Nat) (l0 : List (List Int)) (cols : Int) (r1 : List (List Int)) (r2 : List Int) (w : World) (hr0 : Kd.C (Kd.slice 5 (Kd.int .u8)) w A0 l0.length l0) (hc0 : l0.length ≤ c0) (h : shroudref03_Reduce.f l0 cols = some (r1, r2)) :
    Calls Try.prog 17 #[.slice A0 l0.length c0, .int .i64 cols] w fun e w' => ∃ v0 v1, e = .returned (.tuple #[v0, v1]) ∧ Kd.N (Kd.slice 5 (Kd.int .u8)) 27 w' w.heap.size (fun _ => True) v0 r1 ∧ Kd.R (Kd.int .i64) 3 w' w.heap.size (fun _ => True) v1 r2 ∧ Below w.heap.size w w' := by
  unfold shroudref03_Reduce.f at h
  split at h
  · rename_i hh
    obtain ⟨hb, hR, hc1, hc2⟩ := hh
    have hb2 := bytesB_iff.1 hb
    have hRR := (right_iff l0).2 hR
    have hr : Kd.C kr w A0 (rowsF l0).length ((rowsF l0).map pw8) := by rw [pw8_rowsF hb, rowsF_length]; exact hr0
    have hl0 : (rowF (rowsF l0) 0).length = (l0.headD []).length := by
      cases l0 with
      | nil => rfl
      | cons r l => rw [rowF_rowsF (by simp)]; simp
    have hm : (l0.headD []).length ≤ 1000000 := by
      cases l0 with
      | nil => simp
      | cons r l => exact (hb2.2 r List.mem_cons_self).1
    have hne := (hRR.2 0 hRR.1).1
    rw [hl0] at hne
    obtain ⟨q, rfl⟩ : ∃ q : Nat, cols = (q : Int) := ⟨cols.toNat, by omega⟩
    rw [Int.toNat_natCast] at h
    simp only [Option.some.injEq, Prod.mk.injEq] at h
    obtain ⟨rfl, rfl⟩ := h
    have key := reduce3_calls (m := (l0.headD []).length) A0 c0 q (rowsF l0) w hr (by rw [rowsF_length]; exact hc0) hRR.1 (fun i hi => by rw [(hRR.2 i hi).2, hl0]) (by omega) (by rw [rowsF_length]; exact hb2.1) hm (by omega)
    rw [rowsF_length] at key
    exact key
  · cases h

end Go.Proofs.Ytmdlnafnlllfhaa.PTel
