/- Plain laws: what the printed functions compute, in the field's own words. -/
import Derived.Test.YtfiijpfpibokaaaPureE
import Derived.Test.YtfiijpfpibokaaaPShox10
set_option linter.unusedVariables false
set_option linter.unusedSimpArgs false
namespace Go.Proofs.Ytfiijpfpibokaaa.Pure
open Go.RowKit Go.Proofs.Ytfiijpfpibokaaa.PSho Go.Proofs.YtfiijpfpibokaaaW.PrintWords Go.Proofs.YtfiijpfpibokaaaW.PrintLast Go.Proofs.YtfiijpfpibokaaaOwn Shroud

/-! ### some of the shares that were dealt -/
/-- The shares of the people in a list. -/
def pickS (s c : List F) (K : Nat) (ks : List Nat) : List (Int × List F) := ks.map fun (k : Nat) => ((k : Int), shareF s c K k s.length)
theorem pickS_length (s c : List F) (K : Nat) (ks : List Nat) : (pickS s c K ks).length = ks.length := by simp [pickS]
theorem SH_append (a b : List (Int × List F)) : SH (a ++ b) = SH a ++ SH b := by simp [SH]
theorem pickS_snoc (s c : List F) (K : Nat) (ks : List Nat) (k : Nat) : SH (pickS s c K (ks ++ [k])) = SH (pickS s c K ks) ++ [⟨(k : Int), P8 (shareF s c K k s.length)⟩] := by
  unfold pickS
  rw [List.map_append, SH_append]
  rfl
theorem rdOf_get {h : List Bool} {k : Nat} (hk : k < h.length) : rdOf false h (k : Int) = h[k] := by simp [rdOf, List.getD_eq_getElem?_getD, List.getElem?_eq_getElem hk]
theorem some_loop1 (s c : List F) (K N M : Nat) (hN : N ≤ 200) (hM : M ≤ N) (hs : s.length ≤ 4096) (H : List Bool) (hH : H.length = N) : ∀ (d k : Nat) (ks : List Nat), k + d = N → ks.Nodup → (∀ x ∈ ks, x < N) → (∀ x (hx : x < N), (H[x]'(by omega)) = true → x ∈ ks) → (∀ x ∈ ks, k ≤ x → ∃ hx : x < N, (H[x]'(by omega)) = true) → ks.length ≤ M → (ks.length < M → ∀ j, j < k → j ∈ ks) →
    ∃ ls : List Nat, ls.Nodup ∧ (∀ x ∈ ls, x < N) ∧ ls.length = M ∧ Ev (fun q => shroudlaw05_some.l1 q (R8 (dealF s c K N s.length 0)) (M : Int) (SH (pickS s c K ks)) H (N : Int) (k : Int)) (SH (pickS s c K ls)) := by
  intro d
  induction d with
  | zero =>
    intro k ks hd hnd hlt hin hat hle hall
    have hk : k = N := by omega
    have hl : ks.length = M := by
      rcases Nat.lt_or_ge ks.length M with h | h
      · have h1 := hall h
        have := sub_len (List.range N) ks List.nodup_range (fun x hx => h1 x (by have := List.mem_range.1 hx; omega))
        rw [List.length_range] at this
        omega
      · omega
    refine ⟨ks, hnd, hlt, hl, Ev.succ ?_⟩
    simp only [shroudlaw05_some.l1]
    exact Ev.ite_neg (by omega) (Ev.now _)
  | succ d ih =>
    intro k ks hd hnd hlt hin hat hle hall
    have hk : k < N := by omega
    have hb : rdOf false H (k : Int) = H[k]'(by omega) := rdOf_get (by omega)
    cases hq : H[k]'(by omega) with
    | true =>
      obtain ⟨ls, h1, h2, h3, h4⟩ := ih (k + 1) ks (by omega) hnd hlt hin (fun x hx hkx => hat x hx (by omega)) hle (fun h j hj => by
        by_cases e : j = k
        · rw [e]; exact hin k hk hq
        · exact hall h j (by omega))
      refine ⟨ls, h1, h2, h3, Ev.succ ?_⟩
      simp only [shroudlaw05_some.l1, hb, hq]
      rw [w64 (by omega) (by omega)]
      exact Ev.ite_pos (by omega) (Ev.ite_pos (by omega) (Ev.ite_pos (by omega) (Ev.ite_pos trivial h4)))
    | false =>
      have hnk : k ∉ ks := fun hm => by
        obtain ⟨_, hx⟩ := hat k hm (Nat.le_refl _)
        rw [hq] at hx
        cases hx
      by_cases hroom : ks.length < M
      · obtain ⟨ls, h1, h2, h3, h4⟩ := ih (k + 1) (ks ++ [k]) (by omega) (List.nodup_append.2 ⟨hnd, by simp, fun a ha b hb2 => by rw [List.mem_singleton.1 hb2]; rintro rfl; exact hnk ha⟩)
          (fun x hx => by rcases List.mem_append.1 hx with h | h; exact hlt x h; rw [List.mem_singleton.1 h]; exact hk) (fun x hx h => List.mem_append_left _ (hin x hx h))
          (fun x hx hkx => by rcases List.mem_append.1 hx with h | h; exact hat x h (by omega); rw [List.mem_singleton.1 h] at hkx; omega) (by simp; omega) (fun _ j hj => by
            by_cases e : j = k
            · rw [e]; simp
            · exact List.mem_append_left _ (hall hroom j (by omega)))
        refine ⟨ls, h1, h2, h3, Ev.succ ?_⟩
        rw [pickS_snoc] at h4
        simp only [shroudlaw05_some.l1, hb, hq, SH_length, pickS_length, Option.bind_some, List.nil_append, List.length_nil, R8_length, dealF_length, rd_R8, dealF_row _ _ _ _ k hk, P8_length, shareF_length]
        rw [w64 (by omega) (by omega)]
        exact Ev.ite_pos (by omega) (Ev.ite_pos (by omega) (Ev.ite_pos (by omega) (Ev.ite_neg (by simp) (Ev.ite_pos (by omega) (Ev.ite_pos (by omega) (Ev.ite_pos (by omega) (Ev.ite_pos (by omega) h4)))))))
      · obtain ⟨ls, h1, h2, h3, h4⟩ := ih (k + 1) ks (by omega) hnd hlt hin (fun x hx hkx => hat x hx (by omega)) hle (fun h => absurd h hroom)
        refine ⟨ls, h1, h2, h3, Ev.succ ?_⟩
        simp only [shroudlaw05_some.l1, hb, hq, SH_length, pickS_length]
        rw [w64 (by omega) (by omega)]
        exact Ev.ite_pos (by omega) (Ev.ite_pos (by omega) (Ev.ite_pos (by omega) (Ev.ite_neg (by simp) (Ev.ite_neg (by omega) h4))))
theorem some_loop0 (s c p : List F) (K N M : Nat) (hN1 : 1 ≤ N) (hN : N ≤ 200) (hM : M ≤ N) (hs : s.length ≤ 4096) (hp : p.length ≤ 1000) : ∀ (d i : Nat) (ks : List Nat) (H : List Bool) (hH : H.length = N), i + d = p.length → ks.Nodup → (∀ x ∈ ks, x < N) → (∀ x (hx : x < N), (H[x]'(by omega)) = true ↔ x ∈ ks) → ks.length ≤ M →
    ∃ ls : List Nat, ls.Nodup ∧ (∀ x ∈ ls, x < N) ∧ ls.length = M ∧ Ev (fun q => shroudlaw05_some.l0 q (R8 (dealF s c K N s.length 0)) (P8 p) (M : Int) (SH (pickS s c K ks)) H (p.length : Int) (i : Int)) (SH (pickS s c K ls)) := by
  intro d
  induction d with
  | zero =>
    intro i ks H hH hd hnd hlt hin hle
    obtain ⟨ls, h1, h2, h3, h4⟩ := some_loop1 s c K N M hN hM hs H hH N 0 ks (by omega) hnd hlt (fun x hx => (hin x hx).1) (fun x hx _ => ⟨hlt x hx, (hin x (hlt x hx)).2 hx⟩) hle (fun _ j hj => absurd hj (Nat.not_lt_zero _))
    refine ⟨ls, h1, h2, h3, Ev.succ ?_⟩
    simp only [shroudlaw05_some.l0, R8_length, dealF_length]
    exact Ev.ite_neg (by omega) h4
  | succ d ih =>
    intro i ks H hH hd hnd hlt hin hle
    have hmx : mx (N : Int) 1 = (N : Int) := by unfold mx; split <;> omega
    have hpn := (co p i).nat_lt
    have hidx : Int.tmod (wrap64 (num (co p i))) (N : Int) = (((co p i).nat % N : Nat) : Int) := by
      unfold num
      rw [w64 (by omega) (by omega), Int.tmod_eq_emod_of_nonneg (by omega), Int.natCast_emod]
    have hk : (co p i).nat % N < N := Nat.mod_lt _ (by omega)
    generalize (co p i).nat % N = k at hidx hk
    have hb : rdOf false H (k : Int) = H[k]'(by omega) := rdOf_get (by omega)
    cases hq : H[k]'(by omega) with
    | true =>
      obtain ⟨ls, h1, h2, h3, h4⟩ := ih (i + 1) ks H hH (by omega) hnd hlt hin hle
      refine ⟨ls, h1, h2, h3, Ev.succ ?_⟩
      simp only [shroudlaw05_some.l0, P8_length, R8_length, dealF_length, rd_P8, hmx, hidx, hb, hq]
      rw [w64 (by omega) (by omega)]
      exact Ev.ite_pos (by omega) (Ev.ite_pos (by omega) (Ev.ite_pos (by omega) (Ev.ite_neg (by omega) (Ev.ite_pos (by omega) (Ev.ite_pos (by omega) (Ev.ite_pos (by omega) (Ev.ite_pos trivial h4)))))))
    | false =>
      have hnk : k ∉ ks := fun hm => by
        have := (hin k hk).2 hm
        rw [hq] at this
        cases this
      by_cases hroom : ks.length < M
      · have hlen : (H.set k true).length = N := by rw [List.length_set]; exact hH
        obtain ⟨ls, h1, h2, h3, h4⟩ := ih (i + 1) (ks ++ [k]) (H.set k true) hlen (by omega) (List.nodup_append.2 ⟨hnd, by simp, fun a ha b hb2 => by rw [List.mem_singleton.1 hb2]; rintro rfl; exact hnk ha⟩)
          (fun x hx => by rcases List.mem_append.1 hx with h | h; exact hlt x h; rw [List.mem_singleton.1 h]; exact hk)
          (fun x hx => by
            rw [List.getElem_set]
            by_cases e : k = x
            · rw [if_pos e]
              exact ⟨fun _ => by rw [e]; simp, fun _ => rfl⟩
            · rw [if_neg e, hin x hx]
              exact ⟨fun h => List.mem_append_left _ h, fun h => by rcases List.mem_append.1 h with h | h; exact h; exact absurd (List.mem_singleton.1 h).symm e⟩) (by simp; omega)
        refine ⟨ls, h1, h2, h3, Ev.succ ?_⟩
        rw [pickS_snoc] at h4
        simp only [shroudlaw05_some.l0, P8_length, R8_length, dealF_length, rd_P8, hmx, hidx, hb, hq, SH_length, pickS_length, Option.bind_some, List.nil_append, List.length_nil, rd_R8, dealF_row _ _ _ _ k hk, shareF_length, Int.toNat_natCast]
        rw [w64 (by omega) (by omega)]
        exact Ev.ite_pos (by omega) (Ev.ite_pos (by omega) (Ev.ite_pos (by omega) (Ev.ite_neg (by omega) (Ev.ite_pos (by omega) (Ev.ite_pos (by omega) (Ev.ite_pos (by omega) (Ev.ite_neg (by simp) (Ev.ite_pos (by omega) (Ev.ite_pos (by omega) (Ev.ite_pos (by omega) h4))))))))))
      · obtain ⟨ls, h1, h2, h3, h4⟩ := ih (i + 1) ks H hH (by omega) hnd hlt hin hle
        refine ⟨ls, h1, h2, h3, Ev.succ ?_⟩
        simp only [shroudlaw05_some.l0, P8_length, R8_length, dealF_length, rd_P8, hmx, hidx, hb, hq, SH_length, pickS_length]
        rw [w64 (by omega) (by omega)]
        exact Ev.ite_pos (by omega) (Ev.ite_pos (by omega) (Ev.ite_pos (by omega) (Ev.ite_neg (by omega) (Ev.ite_pos (by omega) (Ev.ite_pos (by omega) (Ev.ite_pos (by omega) (Ev.ite_neg (by simp) (Ev.ite_neg (by omega) h4))))))))
theorem some_ev (s c p : List F) (K N M : Nat) (hN1 : 1 ≤ N) (hN : N ≤ 200) (hM : M ≤ N) (hs : s.length ≤ 4096) (hp : p.length ≤ 1000) :
    ∃ ls : List Nat, ls.Nodup ∧ (∀ x ∈ ls, x < N) ∧ ls.length = M ∧ Ev (fun q => shroudlaw05_some.f q (R8 (dealF s c K N s.length 0)) (P8 p) (M : Int)) (SH (pickS s c K ls)) := by
  obtain ⟨ls, h1, h2, h3, h4⟩ := some_loop0 s c p K N M hN1 hN hM hs hp p.length 0 [] (List.replicate N false) (by simp) (by omega) List.nodup_nil (fun x hx => by cases hx) (fun x hx => by simp) (Nat.zero_le _)
  refine ⟨ls, h1, h2, h3, ?_⟩
  unfold shroudlaw05_some.f
  rw [R8_length, dealF_length, Int.toNat_natCast, P8_length]
  exact Ev.ite_pos (by omega) (Ev.ite_pos (by omega) h4)
/-! ### more coins -/
theorem mod_num {a : Int} : ∃ x : F, a % 256 = num x := ⟨el (a % 256), (num_el (by omega) (by omega)).symm⟩

end Go.Proofs.Ytfiijpfpibokaaa.Pure
