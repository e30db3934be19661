import Derived.Test.YtcbimnmpdpkefaaDoorAx26
import Derived.KernelRfl
namespace Go.Proofs.YtcbimnmpdpkefaaDoor.A
set_option linter.unusedVariables false
set_option linter.unusedSimpArgs false
theorem sh_name1 : diag_Name.f 201 = some (⟨#[115, 121, 110, 116, 97, 120]⟩ : ByteArray) := by kernel_rfl
theorem sh_phase : diag_Phase.f 201 = some 2 := by kernel_rfl
theorem sh_name2 : diag_Name.f 402 = some (⟨#[110, 111, 116, 32, 100, 101, 99, 108, 97, 114, 101, 100]⟩ : ByteArray) := by kernel_rfl
theorem sh_carry : diag_Carry.f 20 [(⟨201, 4, 6⟩ : S36)] [(⟨0, 1, (⟨#[97, 98, 99]⟩ : ByteArray)⟩ : S43)] = some ([(⟨201, 6, 8⟩ : S36)], 0) := by kernel_rfl
theorem sh_sort : diag_Sort.f [(⟨402, 5, 9⟩ : S36), (⟨401, 5, 9⟩ : S36), (⟨402, 0, 3⟩ : S36), (⟨402, 5, 9⟩ : S36)] = some [(⟨402, 0, 3⟩ : S36), ⟨401, 5, 9⟩, ⟨402, 5, 9⟩] := by
  have h : ds_srt [(⟨402, 5, 9⟩ : S36), (⟨401, 5, 9⟩ : S36), (⟨402, 0, 3⟩ : S36), (⟨402, 5, 9⟩ : S36)] = [(⟨402, 0, 3⟩ : S36), ⟨401, 5, 9⟩, ⟨402, 5, 9⟩, ⟨402, 5, 9⟩] := by
    unfold ds_srt
    simp [List.mergeSort, List.MergeSort.Internal.splitInTwo, List.merge, ds_ltOf, ds_lt]
  unfold diag_Sort.f
  rw [h]
  simp [ds_dd, ds_eq]
theorem sh_print : diag_Print.f (⟨#[97, 98, 10, 99, 100]⟩ : ByteArray) 402 3 5 = some (⟨#[50, 58, 49, 45, 50, 58, 51, 32, 110, 111, 116, 32, 100, 101, 99, 108, 97, 114, 101, 100]⟩, 0) := by
  kernel_rfl
theorem shown_true : scholiastlaw20_shown.f 20 = some true := by
  unfold scholiastlaw20_shown.f
  rw [sh_sort, sh_carry, sh_print, sh_name1, sh_phase]
  kernel_rfl
theorem shown_true_le (k : Nat) : scholiastlaw20_shown.f (20 + k) = some true := by
  induction k with
  | zero => exact shown_true
  | succ k ih => exact scholiastlaw20_shown.mono (20 + k) _ ih
def nm_same (a b : Option ByteArray) : Bool := match a, b with
  | some x, some y => x.data.toList == y.data.toList
  | _, _ => false
theorem nm_same_eq {a b : Option ByteArray} (h : nm_same a b = true) : a = b := by
  cases a <;> cases b <;> simp [nm_same] at h
  rename_i x y
  cases x; cases y
  simp at h
  subst h
  rfl
theorem names_in : ∀ n : Fin 461, nm_same (diag_Name.f (101 + (n : Int))) (scholiastref20_Name.f (101 + (n : Int))) = true := by decide +kernel
theorem early_out (a : Int) (h : a < 101 ∨ 561 < a) : diag_early.f a = some ⟨#[]⟩ := by
  unfold diag_early.f
  repeat rw [if_neg (by omega)]
theorem late_out (a : Int) (h : a < 101 ∨ 561 < a) : diag_late.f a = some ⟨#[]⟩ := by
  unfold diag_late.f
  repeat rw [if_neg (by omega)]
theorem typed_out (a : Int) (h : a < 101 ∨ 561 < a) : diag_typed.f a = some ⟨#[]⟩ := by
  unfold diag_typed.f
  repeat rw [if_neg (by omega)]
theorem ref_out (a : Int) (h : a < 101 ∨ 561 < a) : scholiastref20_Name.f a = some ⟨#[]⟩ := by
  unfold scholiastref20_Name.f
  repeat rw [if_neg (by omega)]
theorem name_eq (a0 : Int) : diag_Name.f a0 = scholiastref20_Name.f a0 := by
  by_cases h : a0 < 101 ∨ 561 < a0
  · unfold diag_Name.f
    rw [early_out a0 h, late_out a0 h, typed_out a0 h, ref_out a0 h]
    rfl
  · have h1 := nm_same_eq (names_in ⟨(a0 - 101).toNat, by omega⟩)
    have e : (101 : Int) + (((a0 - 101).toNat : Nat) : Int) = a0 := by omega
    simp only [e] at h1
    exact h1
theorem phase_eq (a0 : Int) : diag_Phase.f a0 = scholiastref20_Phase.f a0 := by
  unfold diag_Phase.f scholiastref20_Phase.f
  rw [name_eq]
def nm_some (a : Option ByteArray) : Bool := match a with
  | some x => decide (x.size ≤ 1000)
  | none => false
theorem names_some_in : ∀ n : Fin 461, nm_some (scholiastref20_Name.f (101 + (n : Int))) = true := by decide +kernel
theorem name_some (a0 : Int) : ∃ nm, scholiastref20_Name.f a0 = some nm ∧ nm.size ≤ 1000 := by
  by_cases h : a0 < 101 ∨ 561 < a0
  · exact ⟨_, ref_out a0 h, by decide⟩
  · have h1 := names_some_in ⟨(a0 - 101).toNat, by omega⟩
    have e : (101 : Int) + (((a0 - 101).toNat : Nat) : Int) = a0 := by omega
    simp only [e] at h1
    cases h2 : scholiastref20_Name.f a0 with
    | none => rw [h2] at h1; cases h1
    | some nm => rw [h2] at h1; exact ⟨nm, rfl, by simpa [nm_some] using h1⟩
theorem diagNames_pure (a0 : Int) : scholiastlaw20_DiagNames.f 20 a0 = some true := by
  obtain ⟨nm, h, _⟩ := name_some a0
  unfold scholiastlaw20_DiagNames.f
  rw [shown_true, name_eq, phase_eq, h]
  unfold scholiastref20_Phase.f
  rw [h]
  simp only [Option.bind_some, if_true]
  split <;> simp
end Go.Proofs.YtcbimnmpdpkefaaDoor.A
