/- The memory at the call's beginning: the slice of integers that is handed in, as the abstract machine reads it. -/
import Derived.Test.YtdgaheekfeomoaaGreatDoorMc
import Derived.Test.YtdgaheekfeomoaaGreatDoorProg
import Derived.KernelRfl
set_option maxRecDepth 100000
set_option linter.unusedVariables false
namespace Go.Proofs.YtdgaheekfeomoaaGreatDoor.Ev
open GoEv
open Go (IntKind Value World Addr)
theorem nGlob : Tryz.prog.globals.size = 4 := by kernel_rfl
noncomputable def hN : H := H.mk 5 T.lf
noncomputable def hS (zs : List Int) : H := H.mk 5 (T.set 64 (.cells true 0 (zs.map V.i)) .lf 4)
theorem hN_get (b : Nat) : hN.get b = none := T.get_lf b
theorem hS_get (zs : List Int) (b : Nat) : (hS zs).get b = if b = 4 then some (.cells true 0 (zs.map V.i)) else none := by
  simp only [hS, H.get]
  rw [T.get_set _ 64 _ 4 b (by omega), T.get_lf]
theorem initN {W : World} (hsz : 4 ≤ W.heap.size) :
    ∃ ι, HR Tryz.prog ι hN W ∧ (∀ g, g < Tryz.prog.globals.size → ∃ room, ι g = some ⟨g, 0, room⟩) ∧ ∀ b L x, ι b = some L → hN.get b = some x → own x = false := by
  let ι : Inj := fun b => if b < 4 then some ⟨b, 0, 0⟩ else none
  refine ⟨ι, ⟨fun b hb => ?_, fun b L hb => ?_, fun b L x _ hx => ?_, fun b b' L L' x x' _ _ _ hx => ?_, fun b _ => hN_get b⟩, fun g hg => ?_, fun b L x _ hx => ?_⟩
  · have hb' : 5 ≤ b := hb
    have h1 : ¬ b < 4 := by omega
    simp [ι, h1]
  · simp only [ι] at hb
    split at hb
    · cases hb; show b < _; omega
    · cases hb
  · rw [hN_get] at hx; cases hx
  · rw [hN_get] at hx; cases hx
  · rw [nGlob] at hg
    exact ⟨0, by simp only [ι]; rw [if_pos hg]⟩
  · rw [hN_get] at hx; cases hx
theorem initS {W : World} (hsz : 4 ≤ W.heap.size) {blk off : Nat} {zs : List Int} (hb0 : blk < W.heap.size) (hc : ∀ i, i < zs.length → W.cell? ⟨blk, off + i, none⟩ = some (.int .i64 (zs.getD i 0))) :
    ∃ ι, HR Tryz.prog ι (hS zs) W ∧ (∀ g, g < Tryz.prog.globals.size → ∃ room, ι g = some ⟨g, 0, room⟩) ∧ (∀ b L x, ι b = some L → (hS zs).get b = some x → own x = false) ∧ ι 4 = some ⟨blk, off, zs.length⟩ := by
  let ι : Inj := fun b => if b < 4 then some ⟨b, 0, 0⟩ else if b = 4 then some ⟨blk, off, zs.length⟩ else none
  have ι4 : ι 4 = some ⟨blk, off, zs.length⟩ := by simp [ι]
  have hown : ∀ b x, (hS zs).get b = some x → own x = false := by
    intro b x hx
    rw [hS_get] at hx
    split at hx
    · cases hx; rfl
    · cases hx
  refine ⟨ι, ⟨fun b hb => ?_, fun b L hb => ?_, fun b L x hb hx => ?_, fun b b' L L' x x' _ _ _ hx _ ho _ => ?_, fun b hb => ?_⟩, fun g hg => ?_, fun b L x _ hx => hown b x hx, ι4⟩
  · have hb' : 5 ≤ b := hb
    have h1 : ¬ b < 4 := by omega
    have h2 : ¬ b = 4 := by omega
    simp [ι, h1, h2]
  · simp only [ι] at hb
    split at hb
    · cases hb; show b < _; omega
    · split at hb
      · cases hb; exact hb0
      · cases hb
  · rw [hS_get] at hx
    split at hx
    · rename_i h1; subst h1
      cases hx
      rw [ι4] at hb; cases hb
      have one : ∀ i, i < zs.length → ∃ cv, W.cell? ⟨blk, off + i, none⟩ = some cv ∧ VR ι (.i (zs.getD i 0)) cv ∧ cv.oneCell' = true := fun i hi => ⟨_, hc i hi, by simp only [VR], rfl⟩
      refine ⟨fun i v hv => ?_, by rw [List.length_map]; exact Nat.le_refl _, fun i hi => ?_, (fun hq => nomatch hq), (fun hq => nomatch hq)⟩
      · rw [List.getElem?_map] at hv
        cases hz : zs[i]? with
        | none => rw [hz] at hv; cases hv
        | some z =>
          rw [hz] at hv
          have hi : i < zs.length := (List.getElem?_eq_some_iff.1 hz).1
          obtain ⟨cv, h1, h2, _⟩ := one i hi
          have e : zs.getD i 0 = z := by simp [List.getD, hz]
          rw [e] at h2
          simp only [Option.map_some, Option.some.injEq] at hv
          subst hv
          exact ⟨cv, h1, h2⟩
      · obtain ⟨cv, h1, _, h3⟩ := one i hi
        exact ⟨cv, h1, h3⟩
    · cases hx
  · rw [hown _ _ hx] at ho; cases ho
  · have hb' : 5 ≤ b := hb
    rw [hS_get, if_neg (by omega)]
  · rw [nGlob] at hg
    exact ⟨0, by simp only [ι]; rw [if_pos hg]⟩
end Go.Proofs.YtdgaheekfeomoaaGreatDoor.Ev
