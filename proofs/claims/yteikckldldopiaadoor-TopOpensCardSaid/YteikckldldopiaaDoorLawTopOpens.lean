/- What was sealed comes out: an order that was sealed and dealt comes back from the shares, whichever ones, as many as may be faulty, are spoilt, or missing: for every input that can be read as data, while the listed tables of package unicode/utf8 hold what the program's text lays (the card ties them). -/
import Derived.Test.YteikckldldopiaaDoorCards
import Derived.Test.YteikckldldopiaaDoorTie
import Derived.Test.YteikckldldopiaaDoorPAllx12
import Derived.Test.YteikckldldopiaaDoorPureTopOpens
import Derived.Test.YteikckldldopiaaDoorOpen
import Derived.WalkKit
import Derived.ProofKit
import Derived.OpenShut
import Derived.ShutString
import Derived.ChangeOld
import Derived.Below
import Derived.SizedLaws
import Derived.LaidMore
import Derived.Lay
import Derived.SevenTiedAt
import Derived.Stop.Joined
namespace Go.Proofs.YteikckldldopiaaDoor.topOpens
open Go.ChangeShapes Go.WideShapes Go.ChangeAt Go.RowKit Go.Proofs.YteikckldldopiaaDoorOwn Go.Proofs.YteikckldldopiaaDoorW.PrintWords
set_option linter.unusedVariables false
theorem own : ownKnob Tryd.prog.godebug = none := by kernel_rfl
theorem laidOut : laidOutB Tryd.prog = true := by kernel_rfl
theorem list4 {α : Type} {l : List α} {a b c d : α} (hl : l.length = 4) (h0 : (l.drop 0).take 1 = [a]) (h1 : (l.drop 1).take 1 = [b]) (h2 : (l.drop 2).take 1 = [c]) (h3 : (l.drop 3).take 1 = [d]) : l = [a, b, c, d] := by
 match l, hl with
 | [w, x, y, z], _ =>
  simp at h0 h1 h2 h3
  rw [h0, h1, h2, h3]
/-- An order that came in. -/
theorem open_tx {H : Type} {enc : TypeId × Value → H} {w : World} {cs : Array Value} {dd : DataW H} {p : List MemPlace} (ht : DataW.Trod enc Tryd.prog w 0 (fun _ => true) true 25 (.agg cs) dd p) :
  ∃ (a0 a1 a2 : Int) (A : Option Addr) (c : Nat) (l : List Int), cs = #[.int .i64 a0, .int .i64 a1, .int .u64 a2, .slice A l.length c] ∧ (Lit.int .i64 a0).wf = true ∧ (Lit.int .i64 a1).wf = true ∧ (Lit.int .u64 a2).wf = true ∧ Kd.C (Kd.int .u8) w A l.length l ∧ l.length ≤ c ∧ (l.length ≤ maxLen ∧ ∀ x ∈ l, (Lit.int .u8 x).wf = true) := by
 obtain ⟨fuel, hx⟩ := ht
 obtain ⟨ys, n, _, _, hcl, hyl, hf⟩ := DataW.trod_struct Tryd.underlying25 hx
 have c3 : Tryd.prog.cellsOf 3 = 1 := by kernel_rfl
 have c22 : Tryd.prog.cellsOf 22 = 1 := by kernel_rfl
 have c23 : Tryd.prog.cellsOf 23 = 1 := by kernel_rfl
 have c25 : Tryd.prog.cellsOf 25 = 4 := by kernel_rfl
 have e0 : DataW.trod enc Tryd.prog w 0 (fun _ => true) true n 3 ((((Value.agg cs).cells.toList).drop 0).take (Tryd.prog.cellsOf 3)) = ys[0]? := hf 0 _ rfl
 have e1 : DataW.trod enc Tryd.prog w 0 (fun _ => true) true n 3 ((((Value.agg cs).cells.toList).drop 1).take (Tryd.prog.cellsOf 3)) = ys[1]? := hf 1 _ rfl
 have e2 : DataW.trod enc Tryd.prog w 0 (fun _ => true) true n 22 ((((Value.agg cs).cells.toList).drop 2).take (Tryd.prog.cellsOf 22)) = ys[2]? := hf 2 _ rfl
 have e3 : DataW.trod enc Tryd.prog w 0 (fun _ => true) true n 23 ((((Value.agg cs).cells.toList).drop 3).take (Tryd.prog.cellsOf 23)) = ys[3]? := hf 3 _ rfl
 rw [c3] at e0 e1
 rw [c22] at e2
 rw [c23] at e3
 rw [List.getElem?_eq_getElem (by rw [hyl]; decide)] at e0 e1 e2 e3
 obtain ⟨a0, k0, q0⟩ := opens_int Tryd.underlying3 _ _ _ e0
 obtain ⟨a1, k1, q1⟩ := opens_int Tryd.underlying3 _ _ _ e1
 obtain ⟨a2, k2, q2⟩ := opens_int Tryd.underlying22 _ _ _ e2
 obtain ⟨l, ⟨A, c, k3, hc, hC⟩, q3⟩ := opens_slice Tryd.underlying23 (by kernel_rfl) (opens_int Tryd.underlying5) _ _ _ e3
 refine ⟨a0, a1, a2, A, c, l, ?_, q0, q1, q2, hC, hc, q3⟩
 have := list4 (hcl.trans c25) k0 k1 k2 k3
 exact Array.toList_inj.1 this
set_option maxRecDepth 100000 in
theorem lifted (os : Os) (started : os.Started) (H : Type) (enc : TypeId × Value → H) :
  ReturnsInHanded {} Tryd.checked os 3 .any (fun w args => (Rows.topOpensSpec.pre enc Tryd.prog Tryd.f3 Rows.topOpensRow.domain false w args ∧ laidMetH Tryd.prog Rows.topOpensRow.laid w) ∧ sizedMet enc Tryd.prog Tryd.f3 (OpenSpec.ofChange Rows.topOpensSpec) false w args)
   (Rows.topOpensSpec.post enc Tryd.prog Tryd.f3 false true false false) := by
 refine returnsInHanded_of_change_and (C := Tryd.checked) (X := fun w _ => laidMetH Tryd.prog Rows.topOpensRow.laid w) (fun _ _ _ hh h => h.of_heap hh) own started (by kernel_rfl) Tryd.func3
  (ChangeSpec.witness_shaped (enc := enc) (C := Tryd.checked) (os := os) (X := fun w _ => laidMetH Tryd.prog Rows.topOpensRow.laid w) false (World.laidAll Tryd.prog os Rows.topOpensRow.laid) #[.int .u8 0, .agg #[.int .i64 0, .int .i64 0, .int .u64 0, .slice none 0 0], .int .u8 0, .int .u64 0, .slice none 0 0, .slice none 0 0, .bool false] 8 (World.laidAll_os _ _ _)
   (World.shaped_of_ZipB (by kernel_rfl) (by kernel_rfl)) (by kernel_rfl) (by kernel_rfl) (by kernel_rfl)
   (by rw [MakeChecks.laidMetH_plain _ _ _ (by kernel_rfl)]; exact laidMet_laidAll _ (by kernel_rfl) (by kernel_rfl))) ?_
 intro W base args ds gs before hval0 hW hcnd _ hL _
 have hval : ∀ (j : Nat) t v, Tryd.f3.params[j]? = some t → args[j]? = some v → Value.okWide Tryd.prog W .any base t v := hval0
 have hW' := hW
 obtain ⟨p, q, hA0, hV, rfl, hfz, hnd⟩ := hW
 have hA : DataW.TrodAll enc Tryd.prog W 0 (fun _ => true) true Tryd.f3.params.toList args.toList ds p := hA0
 rw [Tryd.params3] at hA hval
 obtain ⟨v0, vs0, d0, ds0, p0, q0, hargs, rfl, rfl, h0, r0⟩ := trodAll_cons hA
 obtain ⟨v1, vs1, d1, ds1, p1, q1, rfl, rfl, rfl, h1, r1⟩ := trodAll_cons r0
 obtain ⟨v2, vs2, d2, ds2, p2, q2, rfl, rfl, rfl, h2, r2⟩ := trodAll_cons r1
 obtain ⟨v3, vs3, d3, ds3, p3, q3, rfl, rfl, rfl, h3, r3⟩ := trodAll_cons r2
 obtain ⟨v4, vs4, d4, ds4, p4, q4, rfl, rfl, rfl, h4, r4⟩ := trodAll_cons r3
 obtain ⟨v5, vs5, d5, ds5, p5, q5, rfl, rfl, rfl, h5, r5⟩ := trodAll_cons r4
 obtain ⟨v6, vs6, d6, ds6, p6, q6, rfl, rfl, rfl, h6, r6⟩ := trodAll_cons r5
 obtain ⟨rfl, rfl, rfl⟩ := trodAll_nil r6
 obtain rfl : args = #[v0, v1, v2, v3, v4, v5, v6] := by cases args; simp_all
 obtain ⟨rfl, rfl⟩ := trodVars_none hV
 obtain ⟨a0, rfl, rfl, rfl, ho0⟩ := open_int Tryd.underlying5 (hval 0 5 v0 rfl rfl) h0
 have k1 := h1
 have lt1 : ∀ x ∈ p1, x.block < W.heap.size := by obtain ⟨m, hm⟩ := k1; exact DataW.trod_lt m _ _ _ hm
 obtain ⟨cs1, rfl, hcs1⟩ := okWide_struct Tryd.underlying25 (hval 1 25 v1 rfl rfl)
 obtain ⟨t0, t1, t2, A1, c1, l1, rfl, ht0, ht1, ht2, hr1, hc1, ho1⟩ := open_tx h1
 obtain ⟨a2, rfl, rfl, rfl, ho2⟩ := open_int Tryd.underlying5 (hval 2 5 v2 rfl rfl) h2
 obtain ⟨a3, rfl, rfl, rfl, ho3⟩ := open_int Tryd.underlying22 (hval 3 22 v3 rfl rfl) h3
 obtain ⟨a4, len4, cap4, rfl⟩ := okWide_slice Tryd.underlying23 (hval 4 23 v4 rfl rfl)
 have k4 := h4
 have lt4 : ∀ x ∈ p4, x.block < W.heap.size := by obtain ⟨m, hm⟩ := k4; exact DataW.trod_lt m _ _ _ hm
 obtain ⟨l4, rfl, hr4, hc4, ho4⟩ := open_arg (e := 5) (d := (Kd.int .u8)) (Ok := fun l4 => (l4.length ≤ maxLen ∧ ∀ x ∈ l4, (Lit.int .u8 x).wf = true)) (Opens.imp (opens_slice Tryd.underlying23 (by kernel_rfl) (opens_int Tryd.underlying5)) (fun _ h => h)) h4
 obtain ⟨a5, len5, cap5, rfl⟩ := okWide_slice Tryd.underlying23 (hval 5 23 v5 rfl rfl)
 have k5 := h5
 have lt5 : ∀ x ∈ p5, x.block < W.heap.size := by obtain ⟨m, hm⟩ := k5; exact DataW.trod_lt m _ _ _ hm
 obtain ⟨l5, rfl, hr5, hc5, ho5⟩ := open_arg (e := 5) (d := (Kd.int .u8)) (Ok := fun l5 => (l5.length ≤ maxLen ∧ ∀ x ∈ l5, (Lit.int .u8 x).wf = true)) (Opens.imp (opens_slice Tryd.underlying23 (by kernel_rfl) (opens_int Tryd.underlying5)) (fun _ h => h)) h5
 obtain ⟨a6, rfl, rfl, rfl⟩ := open_bool Tryd.underlying4 (hval 6 4 v6 rfl rfl) h6
 clear hA0 hval0 hL
 refine (PAll.shroudtop_TopOpens.walk Pure.TopOpens a0 t0 t1 t2 A1 c1 l1 a2 a3 a4 cap4 l4 a5 cap5 l5 a6 W ho0 ht0 ht1 ht2 hr1 hc1 ho1 ho2 ho3 hr4 hc4 ho4 hr5 hc5 ho5).mono fun e W' ⟨he, bel⟩ => ?_
 subst he
 exact ⟨_, rfl, _, _, _, [], _, [], hW', trodAll_mk1 (shut_bool Tryd.underlying4 _), (trodAll_cons_mk (shut_int Tryd.underlying5 ho0) (trodAll_cons_mk (Below.trod laidOut (by kernel_rfl) (of_decide_eq_true (by kernel_rfl)) k1 bel lt1) (trodAll_cons_mk (shut_int Tryd.underlying5 ho2) (trodAll_cons_mk (shut_int Tryd.underlying22 ho3) (trodAll_cons_mk (Below.trod laidOut (by kernel_rfl) (of_decide_eq_true (by kernel_rfl)) k4 bel lt4) (trodAll_cons_mk (Below.trod laidOut (by kernel_rfl) (of_decide_eq_true (by kernel_rfl)) k5 bel lt5) (trodAll_cons_mk (shut_bool Tryd.underlying4 _) trodAll_mk0))))))), rfl, bel.frame _, fun h => by cases h⟩
theorem holds : Rows.TopOpensSaid :=
 OpenClaim.holds_of_wide 3 Tryd.f3 rfl rfl rfl rfl rfl rfl rfl ⟨rfl, rfl, rfl, rfl, rfl⟩ rfl rfl rfl rfl rfl (by kernel_rfl) Tryd.func3 (by kernel_rfl)
  (of_decide_eq_true (by kernel_rfl)) (by unfold Func.isWrapper; first | (rw [if_pos (by decide +kernel)]; kernel_rfl) | (rw [if_neg (by decide +kernel)]; exact ⟨rfl, rfl⟩))
  (fun os started H enc _ => lifted os started H enc)
theorem card : Rows.TopOpensCardSaid :=
 Claim7.holds_tied_plain_at .later [] [.data, .pinned] true (true, "340aad22c0b38eb3070ef415d21832ad21db8ae385307cc9b2414ed2ffb5bd5d") true holds (fun _ h => by cases h) (by kernel_rfl) (fun _ h => by cases h) topOpens_row_tie rfl ⟨rfl, rfl⟩ (by kernel_rfl) rfl
  (fun f fn hf hfn => by
   obtain rfl : f = 3 := Option.some.inj ((show Tryd.prog.funcNamed "shroud/shroudtop.TopOpens" = some 3 by kernel_rfl).symm.trans hf) |>.symm
   obtain rfl : fn = Tryd.f3 := (Option.some.inj (Tryd.func3.symm.trans hfn)).symm
   exact ⟨by kernel_rfl, fun j t ht => by
    rw [Tryd.params3] at ht
    have hm : t ∈ [5, 25, 5, 22, 23, 23, 4] := by simpa using Array.mem_of_getElem? ht
    have hall : ([5, 25, 5, 22, 23, 23, 4].all fun u => !Tryd.prog.wantsStandIn u) = true := by kernel_rfl
    exact (show Tryd.prog.wantsStandIn t = false by simpa using List.all_eq_true.1 hall t hm)⟩)
  (by kernel_rfl)
#print axioms card
end Go.Proofs.YteikckldldopiaaDoor.topOpens
namespace Go.Proofs.YteikckldldopiaaDoor
/-- The card, under a short name, for the claim. -/
theorem topOpens_holds : Rows.TopOpensCardSaid := topOpens.card
end Go.Proofs.YteikckldldopiaaDoor
