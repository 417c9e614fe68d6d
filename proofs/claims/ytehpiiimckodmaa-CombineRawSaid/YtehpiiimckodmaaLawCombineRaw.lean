/- The law CombineRaw: diagrams over patterns and their reference agree: for all diagrams, numbers and words that a call may be given. -/
import Derived.Test.YtehpiiimckodmaaRows
import Derived.Test.YtehpiiimckodmaaWl1
import Derived.WalkKit
import Derived.ProofKit
import Derived.OpenShut
import Derived.ShutString
import Derived.ChangeOld
import Derived.Below
import Derived.SizedLaws
import Derived.Carry
namespace Go.Proofs.Ytehpiiimckodmaa.combineRaw
open Go.ChangeShapes Go.WideShapes Go.ChangeAt Go.RowKit
open Go.ChangeMaps (open_string shut_string)
set_option linter.unusedVariables false
theorem own : ownKnob Try.prog.godebug = none := by kernel_rfl
theorem laidOut : laidOutB Try.prog = true := by kernel_rfl
theorem word_of {n : Int} (h : (Lit.int .i64 n).wf = true) : Co.I64 n := by
  simp only [Lit.wf, Bool.and_eq_true, decide_eq_true_eq, IntKind.min, IntKind.max, IntKind.bits, IntKind.signed] at h
  simp at h
  exact ⟨by omega, by omega⟩
theorem opensP : EvW.Opens EvW.Rep.str.sl Try.prog 48 :=
  EvW.opens_struct Try.underlying48 (by kernel_rfl) (EvW.fo_one rfl (by kernel_rfl) (EvW.opens_sl Try.underlying46 (by kernel_rfl) (by decide +kernel) (EvW.opens_str Try.underlying9)))
theorem opensC : EvW.Opens EvW.rCh Try.prog 89 :=
  EvW.opens_struct Try.underlying89 (by kernel_rfl) (EvW.fo_cons rfl (by kernel_rfl) (EvW.opens_int Try.underlying3) (EvW.fo_cons rfl (by kernel_rfl) (EvW.opens_int Try.underlying3) (EvW.fo_one rfl (by kernel_rfl) (EvW.opens_int Try.underlying3))))
theorem opensG : EvW.Opens EvW.rDg Try.prog 45 :=
  EvW.opens_struct Try.underlying45 (by kernel_rfl) (EvW.fo_cons rfl (by kernel_rfl) (EvW.opens_sl Try.underlying42 (by kernel_rfl) (by decide +kernel) opensP) (EvW.fo_cons rfl (by kernel_rfl) (EvW.opens_sl Try.underlying43 (by kernel_rfl) (by decide +kernel) opensC) (EvW.fo_one rfl (by kernel_rfl) (EvW.opens_int Try.underlying3))))
set_option maxRecDepth 100000 in
theorem lifted (os : Os) (started : os.Started) (H : Type) (enc : TypeId × Value → H) :
    ReturnsInHanded {} Try.checked os 4 .any (Rows.combineRawSpec.pre6 enc Try.prog Try.f4 Rows.combineRawRow.domain false) (Rows.combineRawSpec.post enc Try.prog Try.f4 false true false false) := by
  refine returnsInHanded_of_change_sized (C := Try.checked) own started (by kernel_rfl) Try.func4
    (ChangeSpec.witness6 (enc := enc) (C := Try.checked) false ⟨#[], #[.agg #[.slice none 0 0, .slice none 0 0, .int .i64 0], .int .i64 0, .string ⟨#[]⟩], []⟩ 8 (by kernel_rfl) (by kernel_rfl) (by kernel_rfl) (by kernel_rfl)) ?_
  intro W base args ds gs before hval0 hW hcnd hsz0 _
  have hval : ∀ (j : Nat) t v, Try.f4.params[j]? = some t → args[j]? = some v → Value.okWide Try.prog W .any base t v := hval0
  have hW' := hW
  obtain ⟨p, q, hA0, hV, rfl, hfz, hnd⟩ := hW
  have hA : DataW.TrodAll enc Try.prog W 0 (fun _ => true) true Try.f4.params.toList args.toList ds p := hA0
  rw [Try.params4] at hA hval
  obtain ⟨v0, vs0, d0, ds0, p0, q0, hargs, rfl, rfl, h0, r0⟩ := trodAll_cons hA
  obtain ⟨v1, vs1, d1, ds1, p1, q1, rfl, rfl, rfl, h1, r1⟩ := trodAll_cons r0
  obtain ⟨v2, vs2, d2, ds2, p2, q2, rfl, rfl, rfl, h2, r2⟩ := trodAll_cons r1
  obtain ⟨rfl, rfl, rfl⟩ := trodAll_nil r2
  obtain rfl : args = #[v0, v1, v2] := by cases args; simp_all
  obtain ⟨rfl, rfl⟩ := trodVars_none hV
  have k0 := h0
  have lt0 : ∀ x ∈ p0, x.block < W.heap.size := by obtain ⟨m, hm⟩ := k0; exact DataW.trod_lt m _ _ _ hm
  have k1 := h1
  have lt1 : ∀ x ∈ p1, x.block < W.heap.size := by obtain ⟨m, hm⟩ := k1; exact DataW.trod_lt m _ _ _ hm
  have k2 := h2
  have lt2 : ∀ x ∈ p2, x.block < W.heap.size := by obtain ⟨m, hm⟩ := k2; exact DataW.trod_lt m _ _ _ hm
  obtain ⟨⟨cs⟩, rfl, hcs⟩ := okWide_struct Try.underlying45 (hval 0 45 v0 rfl rfl)
  have hg : ∃ g, EvW.rDg.inw W cs g := by
    obtain ⟨fuel, hf⟩ := h0
    refine opensG H enc W 0 true fuel cs d0 p0 (by simpa [Value.cells] using hf) fun n hn => ?_
    have hz := hsz0
    rw [List.all_eq_true] at hz
    refine of_decide_eq_true (hz n ?_)
    simp only [Try.params4, List.cons_append, DataW.weightsEach]
    exact List.mem_append_left _ hn
  obtain ⟨g, hg⟩ := hg
  obtain ⟨n1, rfl, _, _, g1⟩ := open_int Try.underlying3 (hval 1 3 v1 rfl rfl) h1
  obtain ⟨s, rfl⟩ := okWide_string Try.underlying9 (hval 2 9 v2 rfl rfl)
  clear hA0 hval0 hsz0
  refine (EvK.combineRaw_calls W hg (word_of g1) s).mono fun e W' ⟨he, bel⟩ => ?_
  subst he
  exact ⟨_, rfl, _, _, _, [], _, [], hW', trodAll_mk1 (shut_bool Try.underlying4 _), (trodAll_cons_mk (Below.trod laidOut (by kernel_rfl) (of_decide_eq_true (by kernel_rfl)) k0 bel lt0) (trodAll_cons_mk (Below.trod laidOut (by kernel_rfl) (of_decide_eq_true (by kernel_rfl)) k1 bel lt1) (trodAll_cons_mk (Below.trod laidOut (by kernel_rfl) (of_decide_eq_true (by kernel_rfl)) k2 bel lt2) trodAll_mk0))), rfl, bel.frame _, fun h => by cases h⟩
theorem over : Rows.combineRawRow.holds Try.pinned (OpenSpec.ofChange Rows.combineRawSpec) :=
  OpenClaim.holds_of_wide 4 Try.f4 rfl rfl rfl rfl rfl rfl rfl ⟨rfl, rfl, rfl, rfl, rfl⟩ rfl rfl rfl rfl rfl (by kernel_rfl) Try.func4 (by kernel_rfl)
    (of_decide_eq_true (by kernel_rfl)) (by unfold Func.isWrapper; first | (rw [if_pos (by decide +kernel)]; kernel_rfl) | (rw [if_neg (by decide +kernel)]; exact ⟨rfl, rfl⟩))
    (fun os started H enc _ => lifted os started H enc)
theorem proved : Rows.CombineRawSaid := over
#print axioms proved
end Go.Proofs.Ytehpiiimckodmaa.combineRaw
namespace Go.Proofs.Ytehpiiimckodmaa
/-- The row, under a short name, for the claim. -/
theorem combineRaw_holds : Rows.CombineRawSaid := combineRaw.proved
end Go.Proofs.Ytehpiiimckodmaa
