/- IndexLooks: whatever the arguments are, the law returns true, and the arguments read as they did. Own work. -/
import Derived.Test.YtffkffapcffhcaaGreatDoorQe
import Derived.Test.YtffkffapcffhcaaGreatDoorCards
import Derived.Test.YtffkffapcffhcaaGreatDoorTie
import Derived.WalkKit
import Derived.ProofKit
import Derived.OpenShut
import Derived.Deep.DeepHandedRow
import Derived.Lay
import Derived.LaidOnce
import Derived.SevenTiedAt
set_option autoImplicit false
set_option linter.unusedVariables false
set_option linter.unusedSimpArgs false
namespace Go.Proofs.YtffkffapcffhcaaGreatDoor.IL
open Go.ChangeShapes Go.WideShapes Go.ChangeAt Go.RowKit Go.Pm

theorem own : ownKnob Tryz.prog.godebug = none := by kernel_rfl
theorem laidOut : laidOutB Tryz.prog = true := by kernel_rfl
theorem plainS : plainB Tryz.prog argS = true := by kernel_rfl
def wargs : Array Value := #[.agg #[.slice none 0 0, .slice none 0 0], .string ⟨#[]⟩, .agg #[.int .i64 0, .int .i64 0, .int .i64 0]]
noncomputable def wld (os : Os) : World := World.laidAll Tryz.prog os Rows.indexLooksRow.laid
theorem reads (os : Os) {H : Type} (enc : TypeId × Value → H) : ∃ places, DataW.whole enc Tryz.prog ((wld os).forCall (fun _ _ => 0) ⟨#[], wargs, []⟩).memory Tryz.f8.params.toList Rows.indexLooksSpec.vars false wargs.toList 8 = some ([.agg [.nil, .nil], .lit (.string []), .agg [.lit (.int .i64 0), .lit (.int .i64 0), .lit (.int .i64 0)]], [], places) :=
  ⟨[], by kernel_rfl⟩
set_option maxRecDepth 100000 in
theorem contract (H : Type) (enc : TypeId × Value → H) (W : World) (base : Nat) (args : Array Value) (ds gs : List (DataW H)) (before : List MemPlace)
    (hval : ∀ (j : Nat) t v, Tryz.f8.params[j]? = some t → args[j]? = some v → Value.okWide Tryz.prog W .any base t v)
    (hW : DataW.Whole enc Tryz.prog Tryz.f8.params.toList Rows.indexLooksSpec.vars false W args.toList ds gs before)
    (hsz : (DataW.weightsEach Tryz.prog Tryz.f8.params.toList (ds ++ gs)).all (· ≤ reachBytes) = true) (hsh : W.ShapedOpen Tryz.prog) :
    Calls Tryz.prog 8 args W fun e W' => ∃ v, e = .returned v ∧ Rows.indexLooksSpec.post enc Tryz.prog Tryz.f8 false true false false W args v W' := by
  have hW' := hW
  obtain ⟨p, q, hA0, hV, rfl, hfz, hnd⟩ := hW
  have hA : DataW.TrodAll enc Tryz.prog W 0 (fun _ => true) true Tryz.f8.params.toList args.toList ds p := hA0
  rw [Tryz.params8] at hA hval hsz
  obtain ⟨v0, vs0, d0, ds0, p0, q0, hargs0, rfl, rfl, h0, r0⟩ := trodAll_cons hA
  obtain ⟨v1, vs1, d1, ds1, p1, q1, hargs1, rfl, rfl, h1, r1⟩ := trodAll_cons r0
  obtain ⟨v2, vs2, d2, ds2, p2, q2, hargs2, rfl, rfl, h2, r2⟩ := trodAll_cons r1
  obtain ⟨rfl, rfl, rfl⟩ := trodAll_nil r2
  obtain rfl : args = #[v0, v1, v2] := by cases args; simp_all
  obtain ⟨rfl, rfl⟩ := trodVars_none hV
  have hlt := hW'.lt
  simp only [List.append_nil] at hW' hlt hsz
  rw [List.all_eq_true] at hsz
  have hw : ∀ n, (n ∈ d0.weights Tryz.prog 25 ∨ n ∈ d1.weights Tryz.prog 9 ∨ n ∈ d2.weights Tryz.prog 38) → n ≤ reachBytes := fun n hn => by
    have := hsz n (by
      show n ∈ DataW.weightsEach Tryz.prog [25, 9, 38] [d0, d1, d2]
      simp only [DataW.weightsEach, List.mem_append, List.not_mem_nil, or_false]; exact hn)
    simpa using this
  obtain ⟨f0, g0⟩ := h0; obtain ⟨f1, g1⟩ := h1; obtain ⟨f2, g2⟩ := h2
  obtain ⟨x, hx, e0⟩ := rT25 f0 _ _ g0 fun n hn => hw n (.inl hn)
  obtain ⟨s, hs, e1⟩ := rT9 f1 _ _ g1 fun n hn => hw n (.inr (.inl hn))
  obtain ⟨v, e2⟩ := rT38 f2 _ _ g2 fun n hn => hw n (.inr (.inr (hn)))
  have n0 := arg_den plainS (by decide) (hval 0 25 v0 rfl rfl) ⟨f0, g0⟩
  have n1 := arg_den plainS (by decide) (hval 1 9 v1 rfl rfl) ⟨f1, g1⟩
  have n2 := arg_den plainS (by decide) (hval 2 38 v2 rfl rfl) ⟨f2, g2⟩
  dsimp only at e0 e1 e2
  rw [e0] at n0
  rw [e1] at n1
  rw [e2] at n2
  have hc := calls_of (c8 x (by have := hx.1; unfold reachBytes at this; omega) (fun r hr => by have := hx.2 r hr; unfold Rls.Bd reachBytes at this; omega) s (by unfold reachBytes at hs; omega) v)
    (ds := [x.d, .str s, v.d]) (W := W) (args := #[v0, v1, v2]) rfl (fun i d v hd hv => by
      match i with
      | 0 => simp at hd hv; subst hd; subst hv; exact n0
      | 1 => simp at hd hv; subst hd; subst hv; exact n1
      | 2 => simp at hd hv; subst hd; subst hv; exact n2
      | i + 3 => simp at hd) hsh
  refine hc.mono fun e W' ⟨he, hb⟩ => ?_
  subst he
  have l0 : ∀ z ∈ p0, z.block < W.heap.size := fun z hz => hlt z (by simp [hz])
  have l1 : ∀ z ∈ p1, z.block < W.heap.size := fun z hz => hlt z (by simp [hz])
  have l2 : ∀ z ∈ p2, z.block < W.heap.size := fun z hz => hlt z (by simp [hz])
  exact ⟨_, rfl, _, _, _, [], _, [], hW', trodAll_mk1 (shut_bool Tryz.underlying4 _),
    (trodAll_cons_mk (Below.trod laidOut (by kernel_rfl) (of_decide_eq_true (by kernel_rfl)) ⟨f0, g0⟩ hb l0) (trodAll_cons_mk (Below.trod laidOut (by kernel_rfl) (of_decide_eq_true (by kernel_rfl)) ⟨f1, g1⟩ hb l1) (trodAll_cons_mk (Below.trod laidOut (by kernel_rfl) (of_decide_eq_true (by kernel_rfl)) ⟨f2, g2⟩ hb l2) trodAll_mk0))), rfl, hb.frame _, fun h => by cases h⟩

set_option maxRecDepth 100000 in
theorem lifted (os : Os) (started : os.Started) (H : Type) (enc : TypeId × Value → H) (F : Stop.Interp) :
    ReturnsInHanded {} Tryz.checked os 8 .any ((OpenSpec.ofChange Rows.indexLooksSpec).preRow enc Tryz.prog Tryz.f8 Rows.indexLooksRow.domain false Rows.indexLooksRow.laid) (((OpenSpec.ofChange Rows.indexLooksSpec).at F).post enc Tryz.prog Tryz.f8 false true false false) := by
  obtain ⟨places, hx⟩ := reads os enc
  refine returnsInHanded_of_row (C := Tryz.checked) (s := OpenSpec.ofChange Rows.indexLooksSpec) own started (by kernel_rfl) Tryz.func8
    (witness_row_at (enc := enc) (C := Tryz.checked) false (wld os) wargs (World.laidAll_os _ _ _) (by kernel_rfl) (by kernel_rfl) (by kernel_rfl)
      (OpenSpec.preRow_of_cond 8 hx (by kernel_rfl) (fun k hk => by cases hk) (by kernel_rfl) (by rw [MakeChecks.laidMetH_plain _ _ _ (by kernel_rfl)]; exact laidMet_laidAll _ (by kernel_rfl) (by kernel_rfl)))) ?_
  intro W base args ds gs before hval hW _ _ hsz _ hsh _
  exact contract H enc W base args ds gs before hval hW hsz hsh

theorem said : Rows.IndexLooksSaid :=
  OpenClaim.holds_of_cond 8 Tryz.f8 rfl rfl rfl rfl rfl rfl rfl ⟨rfl, rfl, rfl, rfl, rfl⟩ rfl rfl rfl rfl rfl (by kernel_rfl) Tryz.func8 (by kernel_rfl)
    (of_decide_eq_true (by kernel_rfl)) (by unfold Func.isWrapper; first | (rw [if_pos (by decide +kernel)]; kernel_rfl) | (rw [if_neg (by decide +kernel)]; exact ⟨rfl, rfl⟩))
    (fun os started H enc _ F => by rw [OpenClaim.pre_eq_preRow]; exact lifted os started H enc F)
theorem plain (f : FuncId) (fn : Func) (hf : Tryz.pinned.checked.prog.funcNamed Rows.indexLooksRow.func = some f) (hfn : Tryz.pinned.checked.prog.funcs[f]? = some fn) :
    false = Tryz.pinned.checked.prog.looks [] ∧ ∀ (j : Nat) t, fn.params[j]? = some t → Tryz.pinned.checked.prog.wantsStandIn t = false := by
  obtain rfl : f = 8 := Option.some.inj ((show Tryz.prog.funcNamed Rows.indexLooksRow.func = some 8 by kernel_rfl).symm.trans hf) |>.symm
  obtain rfl : fn = Tryz.f8 := (Option.some.inj (Tryz.func8.symm.trans hfn)).symm
  refine ⟨by kernel_rfl, fun j t ht => ?_⟩
  rw [Tryz.params8] at ht
  have hm : t ∈ [25, 9, 38] := by simpa using Array.mem_of_getElem? ht
  have hall : ([25, 9, 38].all fun u => !Tryz.prog.wantsStandIn u) = true := by kernel_rfl
  exact (show Tryz.prog.wantsStandIn t = false by simpa using List.all_eq_true.1 hall t hm)
theorem holds : Rows.IndexLooksCardSaid :=
  Claim7.holds_tied_plain_at .later [] _ _ _ _ said (fun _ h => by cases h) (by kernel_rfl) (fun _ h => by cases h) indexLooks_row_tie rfl ⟨rfl, rfl⟩ (by kernel_rfl) rfl plain (by kernel_rfl)
#print axioms holds
end Go.Proofs.YtffkffapcffhcaaGreatDoor.IL
