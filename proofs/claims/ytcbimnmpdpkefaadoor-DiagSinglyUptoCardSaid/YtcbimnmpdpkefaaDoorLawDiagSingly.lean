/- DiagSingly: edits that are carried one by one, from the last to the first, are carried as all at once. Conditions: the second form's own bound on how much the arguments hold together. -/
import Derived.Test.YtcbimnmpdpkefaaDoorCards
import Derived.Test.YtcbimnmpdpkefaaDoorTie
import Derived.Test.YtcbimnmpdpkefaaDoorDgSingly
import Derived.Test.YtcbimnmpdpkefaaDoorOpenBulk
import Derived.WalkKit
import Derived.ProofKit
import Derived.OpenShut
import Derived.ShutString
import Derived.ChangeOld
import Derived.Below
import Derived.SizedLaws
import Derived.PinnedBridge
import Derived.Lay
import Derived.Lib.LaidTab
import Derived.Deep.DeepHandedRow
import Derived.SevenTiedAt
namespace Go.Proofs.YtcbimnmpdpkefaaDoor.diagSingly
open Go.ChangeShapes Go.WideShapes Go.ChangeAt Go.RowKit Go.Lib Go.Proofs.YtcbimnmpdpkefaaDoorW.PrintWords Go.Proofs.YtcbimnmpdpkefaaDoor.A Go.Proofs.YtcbimnmpdpkefaaDoorTB
set_option linter.unusedVariables false
set_option linter.unusedSimpArgs false
theorem laidOut : laidOutB Tryd.prog = true := by kernel_rfl
theorem own : ownKnob Tryd.prog.godebug = none := by kernel_rfl
theorem pow_eq : (Rows.laid_internal_strconv_uint64pow10 : DataW Unit) = tabData .u64 pow10Tab := by kernel_rfl
theorem tabs {W : World} (hL : laidMet Tryd.prog Rows.diagSinglyUptoRow.laid W) : GlobP W := ⟨by
  have h := Lib.laidMet.reads hL (n := "internal/strconv.uint64pow10") (.tail _ (.tail _ (.head _)))
  rw [pow_eq] at h
  obtain ⟨g', t', cs, fuel, p, hg', ht', hvar, hd⟩ := h
  obtain rfl := Option.some.inj ((show Tryd.prog.globalNamed "internal/strconv.uint64pow10" = some 2 by kernel_rfl).symm.trans hg')
  obtain rfl := Option.some.inj ((show (Tryd.prog.globals[2]?).map (·.type) = some 145 by kernel_rfl).symm.trans ht')
  unfold TabIs
  rw [hvar, ← cells_of_tab Tryd.underlying145 Tryd.underlying121 (by kernel_rfl) (by kernel_rfl) hd]⟩
theorem opnDiag (w : World) : Opn Tryd.prog w 36 k36 (fun _ => True) :=
  ((Opn.struct (d := Kd.pair (Kd.int .i64) (Kd.pair (Kd.int .i64) (Kd.int .i64))) Tryd.underlying36 (by kernel_rfl) (OpnF.cons (Opn.int Tryd.underlying3) rfl (by kernel_rfl) (OpnF.cons (Opn.int Tryd.underlying3) rfl (by kernel_rfl) (OpnF.one (Opn.int Tryd.underlying3) rfl (by kernel_rfl))))).iso (fun x : Dg => (x.f0, x.f1, x.f2)) (fun p => ⟨p.1, p.2.1, p.2.2⟩) (fun _ => rfl)).mono (fun _ _ => trivial)
theorem opnDiags (w : World) : Opn Tryd.prog w 23 (Kd.slice 36 k36) (fun xs => xs.length * 24 ≤ 140737488351232 ∧ ∀ x ∈ xs, True) :=
  Opn.slice (opnDiag w) Tryd.underlying23 (by kernel_rfl) (by kernel_rfl)
theorem opmEdit (w : World) : Opm Tryd.prog w 43 k43 (fun x => (Lit.int .i64 x.f0).wf = true ∧ (Lit.int .i64 x.f1).wf = true ∧ x.f2.size ≤ 140737488351232) (fun x => 0 + (0 + x.f2.size)) :=
  (Opm.struct (d := Kd.pair (Kd.int .i64) (Kd.pair (Kd.int .i64) Kd.string)) Tryd.underlying43 (by kernel_rfl) (OpmF.cons (Opm.zero (Opn.int Tryd.underlying3)) rfl (by kernel_rfl) (OpmF.cons (Opm.zero (Opn.int Tryd.underlying3)) rfl (by kernel_rfl) (OpmF.one (Opm.string Tryd.underlying9) rfl (by kernel_rfl))))).iso (fun x : Eg => (x.f0, x.f1, x.f2)) (fun p => ⟨p.1, p.2.1, p.2.2⟩) (fun _ => rfl)
theorem opmEdits (w : World) : Opm Tryd.prog w 38 (Kd.slice 43 k43) (fun xs => xs.length * 32 ≤ 140737488351232 ∧ ∀ x ∈ xs, (Lit.int .i64 x.f0).wf = true ∧ (Lit.int .i64 x.f1).wf = true ∧ x.f2.size ≤ 140737488351232) (fun xs => (xs.map (fun x => 0 + (0 + x.f2.size))).sum) :=
  Opm.slice (opmEdit w) Tryd.underlying38 (by kernel_rfl) (by kernel_rfl)
theorem tot_sum : ∀ (l : List Eg), tot l = (((l.map (fun x => 0 + (0 + x.f2.size))).sum : Nat) : Int)
  | [] => rfl
  | x :: l => by
    have := tot_sum l
    simp only [tot, List.map_cons, List.sum_cons]
    omega
theorem reads (os : Os) {H : Type} (enc : TypeId × Value → H) : ∃ places, DataW.whole enc Tryd.prog ((World.laidAll Tryd.prog os Rows.diagSinglyUptoRow.laid).forCall (fun _ _ => 0) ⟨#[], #[.slice none 0 0, .slice none 0 0], []⟩).memory Tryd.f8.params.toList Rows.diagSinglySpec.vars false #[Value.slice none 0 0, .slice none 0 0].toList 8 = some ([.nil, .nil], [], places) :=
  ⟨[], by kernel_rfl⟩
set_option maxRecDepth 100000 in
theorem lifted (os : Os) (started : os.Started) (H : Type) (enc : TypeId × Value → H) (F : Stop.Interp) :
    ReturnsInHanded {} Tryd.checked os 8 .any ((Rows.OpenSpec.upto Rows.diagSinglySpec).preRow enc Tryd.prog Tryd.f8 Rows.diagSinglyUptoRow.domain false Rows.diagSinglyUptoRow.laid) (((Rows.OpenSpec.upto Rows.diagSinglySpec).at F).post enc Tryd.prog Tryd.f8 false true false false) := by
  obtain ⟨places, hx⟩ := reads os enc
  have hok : Input.okWideB Tryd.prog ((World.laidAll Tryd.prog os Rows.diagSinglyUptoRow.laid).forCall (fun _ _ => 0) ⟨#[], #[.slice none 0 0, .slice none 0 0], []⟩) 8 ⟨#[], #[.slice none 0 0, .slice none 0 0], []⟩ = true := by kernel_rfl
  refine returnsInHanded_of_row (C := Tryd.checked) (s := Rows.OpenSpec.upto Rows.diagSinglySpec) own started (by kernel_rfl) Tryd.func8
    ⟨World.laidAll Tryd.prog os Rows.diagSinglyUptoRow.laid, fun _ _ => 0, ⟨#[], #[.slice none 0 0, .slice none 0 0], []⟩, World.laidAll_os _ _ _, World.shaped_of_ZipB (by kernel_rfl) (by kernel_rfl), (Input.okWide_of_okWideB (base := 0) hok).1, (Input.okWide_of_okWideB hok).2,
      OpenSpec.preRow_of_cond 8 hx (by kernel_rfl) (fun k hk => by cases hk; kernel_rfl) (by kernel_rfl) (by rw [MakeChecks.laidMetH_plain _ _ _ (by kernel_rfl)]; exact laidMet_laidAll _ (by kernel_rfl) (by kernel_rfl)), by
      simp only [Assume.holds]
      exact ⟨by simp, by simp, fun _ => Modest.zero, by simp, by simp⟩⟩ ?_
  intro W base args ds gs before hval hW hconds hcond hsz hL _ _
  have hW' := hW
  obtain ⟨p, q, hA0, hV, rfl, hfz, hnd⟩ := hW
  have hA : DataW.TrodAll enc Tryd.prog W 0 (fun _ => true) true Tryd.f8.params.toList args.toList ds p := hA0
  rw [Tryd.params8] at hA hval hsz
  obtain ⟨v0, vs0, d0, ds0, p0, q0, hargs, rfl, rfl, h0, r0⟩ := trodAll_cons hA
  obtain ⟨v1, vs1, d1, ds1, p1, q1, rfl, rfl, rfl, h1, r1⟩ := trodAll_cons r0
  obtain ⟨rfl, rfl, rfl⟩ := trodAll_nil r1
  obtain rfl : args = #[v0, v1] := by cases args; simp_all
  obtain ⟨rfl, rfl⟩ := trodVars_none hV
  obtain ⟨a0, len0, cap0, rfl⟩ := okWide_slice Tryd.underlying23 (hval 0 23 v0 rfl rfl)
  obtain ⟨a1, len1, cap1, rfl⟩ := okWide_slice Tryd.underlying38 (hval 1 38 v1 rfl rfl)
  have k0 := h0
  have k1 := h1
  have lt0 : ∀ x ∈ p0, x.block < W.heap.size := by obtain ⟨m, hm⟩ := k0; exact DataW.trod_lt m _ _ _ hm
  have lt1 : ∀ x ∈ p1, x.block < W.heap.size := by obtain ⟨m, hm⟩ := k1; exact DataW.trod_lt m _ _ _ hm
  have hws : (d0.weights Tryd.prog 23).all (· ≤ reachBytes) = true ∧ (d1.weights Tryd.prog 38).all (· ≤ reachBytes) = true := by
    have h := hsz
    simp only [List.cons_append, DataW.weightsEach, List.all_append, Bool.and_eq_true] at h
    exact ⟨h.1, h.2.1⟩
  obtain ⟨xs, hK0, hB0, _⟩ := Opn.arg (opnDiags W) h0 hws.1
  obtain ⟨es, hK1, ⟨hB1, _⟩, hbulk⟩ := Opm.arg (opmEdits W) h1 hws.2
  obtain ⟨A0, c0, hcs0, hc0, hC0⟩ := hK0
  obtain ⟨A1, c1, hcs1, hc1, hC1⟩ := hK1
  simp only [Value.cells, List.cons.injEq, Value.slice.injEq, and_true] at hcs0 hcs1
  obtain ⟨rfl, rfl, rfl⟩ := hcs0
  obtain ⟨rfl, rfl, rfl⟩ := hcs1
  have hbk : Rows.uptoBulkAll [d0, d1] ≤ 1048576 := of_decide_eq_true (hcond _ rfl)
  have ht : tot es ≤ 4294967296 := by
    have hb2 : ((es.map (fun x : Eg => 0 + (0 + x.f2.size))).sum : Nat) ≤ Rows.uptoBulk d1 := hbulk
    have hts := tot_sum es
    generalize ((es.map (fun x : Eg => 0 + (0 + x.f2.size))).sum : Nat) = z at hb2 hts
    simp only [Rows.uptoBulkAll] at hbk
    omega
  obtain ⟨k, hk⟩ := singly_pure xs es (by omega) (by omega) ht
  rw [MakeChecks.laidMetH_plain _ _ _ (by kernel_rfl)] at hL
  refine (scholiastlaw20_DiagSingly.calls k a0 cap0 xs a1 cap1 es true W (tabs hL) hC0 hc0 hC1 hc1 hk).mono fun e W' ⟨he, hb⟩ => ?_
  subst he
  exact ⟨_, rfl, _, _, _, [], _, [], hW', trodAll_mk1 (shut_bool Tryd.underlying4 _), trodAll_cons_mk (Below.trod laidOut (by kernel_rfl) (of_decide_eq_true (by kernel_rfl)) k0 hb lt0) (trodAll_cons_mk (Below.trod laidOut (by kernel_rfl) (of_decide_eq_true (by kernel_rfl)) k1 hb lt1) trodAll_mk0), rfl, hb.frame _, fun h => by cases h⟩
theorem said : Rows.DiagSinglyUptoSaid :=
  OpenClaim.holds_of_cond 8 Tryd.f8 rfl rfl rfl rfl rfl rfl rfl ⟨rfl, rfl, rfl, rfl, rfl⟩ rfl rfl rfl rfl rfl (by kernel_rfl) Tryd.func8 (by kernel_rfl)
    (of_decide_eq_true (by kernel_rfl)) (by unfold Func.isWrapper; first | (rw [if_pos (by decide +kernel)]; kernel_rfl) | (rw [if_neg (by decide +kernel)]; exact ⟨rfl, rfl⟩))
    (fun os started H enc _ F => by rw [OpenClaim.pre_eq_preRow]; exact lifted os started H enc F)
theorem plain (f : FuncId) (fn : Func) (hf : Tryd.pinned.checked.prog.funcNamed Rows.diagSinglyUptoRow.func = some f) (hfn : Tryd.pinned.checked.prog.funcs[f]? = some fn) :
    false = Tryd.pinned.checked.prog.looks [] ∧ ∀ (j : Nat) t, fn.params[j]? = some t → Tryd.pinned.checked.prog.wantsStandIn t = false := by
  obtain rfl : f = 8 := Option.some.inj ((show Tryd.prog.funcNamed Rows.diagSinglyUptoRow.func = some 8 by kernel_rfl).symm.trans hf) |>.symm
  obtain rfl : fn = Tryd.f8 := (Option.some.inj (Tryd.func8.symm.trans hfn)).symm
  refine ⟨by kernel_rfl, fun j t ht => ?_⟩
  rw [Tryd.params8] at ht
  have hm := Array.mem_of_getElem? ht
  simp only [List.mem_toArray, List.mem_cons, List.not_mem_nil, or_false] at hm
  rcases hm with rfl | rfl
  · exact (show Tryd.prog.wantsStandIn 23 = false by kernel_rfl)
  · exact (show Tryd.prog.wantsStandIn 38 = false by kernel_rfl)
theorem card : Rows.DiagSinglyUptoCardSaid :=
  Claim7.holds_tied_plain_at .later [] _ _ _ _ said (fun _ h => by cases h) (by kernel_rfl) (fun _ h => by cases h) diagSinglyUpto_row_tie rfl ⟨rfl, rfl⟩ (by kernel_rfl) rfl plain (by kernel_rfl)
end Go.Proofs.YtcbimnmpdpkefaaDoor.diagSingly
namespace Go.Proofs.YtcbimnmpdpkefaaDoor
/-- The card, under a short name, for the claim. -/
theorem diagSinglyUpto_card : Rows.DiagSinglyUptoCardSaid := diagSingly.card
#print axioms diagSinglyUpto_card
end Go.Proofs.YtcbimnmpdpkefaaDoor
