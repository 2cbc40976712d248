/- The walk: whatever the slice and the integer are, the call of ClausesWhole returns true and turns nothing that was there. -/
import Derived.Test.YtdgaheekfeomoaaGreatDoorAl
import Derived.Test.YtdgaheekfeomoaaGreatDoorIn
import Derived.Test.YtdgaheekfeomoaaGreatDoorRa
import Derived.Test.YtdgaheekfeomoaaGreatDoorRt
set_option maxRecDepth 100000
set_option linter.unusedVariables false
namespace Go.Proofs.YtdgaheekfeomoaaGreatDoor.Ev
open GoEv
open Go (IntKind Value World Calls)
open Go.RowKit (Below)
theorem isT_some {r : A} (h : isT r = true) : ∃ h', r = some (.bool true, h') := by
  cases r with
  | none => cases h
  | some p =>
    obtain ⟨v, h'⟩ := p
    cases v with
    | bool b =>
      have hb : b = true := h
      exact ⟨h', by rw [hb]⟩
    | _ => cases h
theorem t0 : (tblT F8 [] []).All (FSnd Tryz.prog) := all_ok (o ok8) (told_snd (o ok28) (fun s h => nomatch h)) (told_snd (o ok32) (fun s h => nomatch h))
theorem t28 : ∀ s ∈ [td28x11611, td28x19469, td28x22270], s.OK Tryz.prog 28 := by
  intro s hs
  simp only [List.mem_cons, List.not_mem_nil, or_false] at hs
  rcases hs with rfl | rfl | rfl
  · exact GoEv.Told.ok (o ok28) (Sem_snd t0 _) w_td28x11611 c_td28x11611
  · exact GoEv.Told.ok (o ok28) (Sem_snd t0 _) w_td28x19469 c_td28x19469
  · exact GoEv.Told.ok (o ok28) (Sem_snd t0 _) w_td28x22270 c_td28x22270
theorem t32 : ∀ s ∈ [td32x5019, td32x17579], s.OK Tryz.prog 32 := by
  intro s hs
  simp only [List.mem_cons, List.not_mem_nil, or_false] at hs
  rcases hs with rfl | rfl
  · exact GoEv.Told.ok (o ok32) (Sem_snd t0 _) w_td32x5019 c_td32x5019
  · exact GoEv.Told.ok (o ok32) (Sem_snd t0 _) w_td32x17579 c_td32x17579
theorem t1 : (tblT F8 [td28x11611, td28x19469, td28x22270] [td32x5019, td32x17579]).All (FSnd Tryz.prog) := all_ok (o ok8) (told_snd (o ok28) t28) (told_snd (o ok32) t32)
theorem awake (h : H) : Snd Tryz.prog 8 [] h (.bool true) h := by
  obtain ⟨h', e⟩ := isT_some run8
  exact Snd.alone (o ok8 _ (Sem_snd t1 _) _ _ _ _ e) (by rw [nGlob]; exact Nat.le_refl 4) (by rw [nGlob]; exact Nat.le_refl 4) h
theorem t2 : tbl.All (FSnd Tryz.prog) := all_ok (quiet_snd (o ok8) awake) (told_snd (o ok28) t28) (told_snd (o ok32) t32)
theorem base {ι : Inj} {h : H} {w : World} {sl : V} {cv : Value} (hr : HR Tryz.prog ι h w) (hg : ∀ g, g < Tryz.prog.globals.size → ∃ room, ι g = some ⟨g, 0, room⟩) (hno : ∀ b L x, ι b = some L → h.get b = some x → own x = false) (hin : InS h sl) (hv : VR ι sl cv) (n : Int) :
    Calls Tryz.prog 3 #[cv, .int .i64 n] w fun e w' => e = .returned (.bool true) ∧ Below w.heap.size w w' := by
  obtain ⟨h', e⟩ := law_spec (m := 0) hin n
  refine (Sem_snd t2 _ _ _ _ _ _ e ι w #[cv, .int .i64 n] hr ?_ hg).mono ?_
  · exact VRs.cons hv (VRs.cons (by simp only [VR]) VRs.nil)
  · rintro ex w' ⟨c, ι', rfl, h1, _, h3⟩
    simp only [VR] at h1
    subst h1
    exact ⟨rfl, h3.below hno⟩
theorem walkN (n : Int) {w : World} (hsz : 4 ≤ w.heap.size) : Calls Tryz.prog 3 #[.slice none 0 0, .int .i64 n] w fun e w' => e = .returned (.bool true) ∧ Below w.heap.size w w' := by
  obtain ⟨ι, hr, hg, hno⟩ := initN hsz
  exact base hr hg hno (.inl rfl) (by simp only [VR]) n
theorem walkS (n : Int) {w : World} (hsz : 4 ≤ w.heap.size) {blk off len cap : Nat} {zs : List Int} (hb : blk < w.heap.size) (hl : len ≤ cap) (hz : zs.length = cap) (hc : ∀ i, i < zs.length → w.cell? ⟨blk, off + i, none⟩ = some (.int .i64 (zs.getD i 0))) :
    Calls Tryz.prog 3 #[.slice (some ⟨blk, off, none⟩) len cap, .int .i64 n] w fun e w' => e = .returned (.bool true) ∧ Below w.heap.size w w' := by
  obtain ⟨ι, hr, hg, hno, h4⟩ := initS hsz hb hc
  refine base (sl := .sl 4 0 len cap 1 true) hr hg hno (.inr ⟨4, 0, len, cap, true, zs.map V.i, rfl, by rw [hS_get, if_pos rfl], by show 4 < 5; omega, by rw [List.length_map]; omega, hl, fun v hv => ?_⟩) ?_ n
  · obtain ⟨z, _, rfl⟩ := List.mem_map.1 hv
    exact ⟨z, rfl⟩
  · simp only [VR]
    exact ⟨_, cap, off, h4, rfl, .inl rfl, by show 0 + cap * 1 ≤ zs.length; omega, hl, Nat.le_refl _, fun _ => rfl⟩
end Go.Proofs.YtdgaheekfeomoaaGreatDoor.Ev
