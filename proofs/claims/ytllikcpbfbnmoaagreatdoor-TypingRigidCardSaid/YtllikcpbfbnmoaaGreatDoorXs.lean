/- Which functions a call enters as they are, and what the function without a body does. -/
import Derived.Test.YtllikcpbfbnmoaaGreatDoorHn
import Derived.Test.YtllikcpbfbnmoaaGreatDoorProg
import Derived.KernelRfl
set_option maxRecDepth 100000
namespace Go.Proofs.YtllikcpbfbnmoaaGreatDoor.Ev
open GoEv
open Go (Value World)
noncomputable def chk (f : Nat) : Bool := match Tryz.prog.funcs[f]? with
  | some fn => fn.name != "runtime.NumGoroutine" && fn.body.isSome
  | none => false
theorem chk_all : (List.range 620).all (fun f => !Nat.beq (X f) 0 || chk f) = true := by kernel_rfl
theorem pw (m a b c f : Nat) (h : m < 2 ^ a * 2 ^ b * 2 ^ c) (hf : a + b + c ≤ f) : m < 2 ^ f := Nat.lt_of_lt_of_le h (by rw [← Nat.pow_add, ← Nat.pow_add]; exact Nat.pow_le_pow_right (by omega) hf)
theorem mask_lt : 7447441453306036522258394192613601881585703190540676067734635972709447360143951969285089912324056387449609020793681071404771335259766021638605987637413425173054209512497673627284529144 < 2 ^ 256 * 2 ^ 256 * 2 ^ 106 := by decide +kernel
theorem X_big (f : Nat) (hf : 620 ≤ f) : X f = 1 := by
  have h1 : Nat.testBit 7447441453306036522258394192613601881585703190540676067734635972709447360143951969285089912324056387449609020793681071404771335259766021638605987637413425173054209512497673627284529144 f = false := Nat.testBit_lt_two_pow (pw _ 256 256 106 f mask_lt (by omega))
  have h2 : Nat.beq f 442 = false := by rw [beq_eq]; exact decide_eq_false (by omega)
  have h3 : Nat.beq f 482 = false := by rw [beq_eq]; exact decide_eq_false (by omega)
  unfold X
  rw [h1, h2, h3]; rfl
theorem X_cases (f : Nat) : X f = 0 ∨ (X f = 2 ∧ f = 442) ∨ (X f = 4 ∧ f = 482) ∨ X f = 1 := by
  unfold X
  cases Nat.testBit 7447441453306036522258394192613601881585703190540676067734635972709447360143951969285089912324056387449609020793681071404771335259766021638605987637413425173054209512497673627284529144 f with
  | true => exact .inl rfl
  | false =>
    rw [beq_eq, beq_eq]
    by_cases h2 : f = 442
    · rw [decide_eq_true h2]; exact .inr (.inl ⟨rfl, h2⟩)
    · rw [decide_eq_false h2]
      by_cases h3 : f = 482
      · rw [decide_eq_true h3]; exact .inr (.inr (.inl ⟨rfl, h3⟩))
      · rw [decide_eq_false h3]; exact .inr (.inr (.inr rfl))
theorem xok : XOK Tryz.prog X := by
  refine ⟨fun f hf args w => ?_, fun f hf v w => ?_, fun f hf => ?_, fun f hf args w => ?_⟩
  · have hlt : f < 620 := by
      refine Nat.lt_of_not_le fun h => ?_
      rw [X_big f h] at hf; cases hf
    have h1 := List.all_eq_true.1 chk_all f (List.mem_range.2 hlt)
    rw [hf] at h1
    have h2 : chk f = true := h1
    unfold chk at h2
    cases hfn : Tryz.prog.funcs[f]? with
    | none => rw [hfn] at h2; cases h2
    | some fn =>
      rw [hfn] at h2
      simp only [Bool.and_eq_true, bne_iff_ne, ne_eq] at h2
      obtain ⟨h3, h4⟩ := h2
      obtain ⟨c, hc⟩ := Option.isSome_iff_exists.1 h4
      simp [Go.callFunc, hfn, h3, hc]
  · have hf' : f = 442 := by rcases X_cases f with h | ⟨_, h⟩ | ⟨h, _⟩ | h <;> first | exact h | (rw [hf] at h; cases h)
    subst hf'
    have := Go.run_callFunc_extern (P := Tryz.prog) Tryz.func442 (by kernel_rfl) (by kernel_rfl) (by kernel_rfl) (e := Go.Extern.AbiNoEscape.same) (by kernel_rfl) #[v] w
    rw [this]; rfl
  · rcases X_cases f with h | ⟨h, _⟩ | ⟨h, _⟩ | h <;> rw [hf] at h <;> cases h
  · have hf' : f = 482 := by rcases X_cases f with h | ⟨h, _⟩ | ⟨_, h⟩ | h <;> first | exact h | (rw [hf] at h; cases h)
    subst hf'
    exact Go.run_callFunc_extern (P := Tryz.prog) Tryz.func482 (by kernel_rfl) (by kernel_rfl) (by kernel_rfl) (e := Go.Extern.BytealgCompare.compare) (by kernel_rfl) args w
end Go.Proofs.YtllikcpbfbnmoaaGreatDoor.Ev
