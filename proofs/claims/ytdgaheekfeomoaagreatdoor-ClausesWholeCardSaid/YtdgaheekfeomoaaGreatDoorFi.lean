/- The row's statement: whatever the slice and the integer are, ClausesWhole returns true and each argument reads as it did; by the walk. -/
import Derived.Test.YtdgaheekfeomoaaGreatDoorWk
import Derived.Test.YtdgaheekfeomoaaGreatDoorTa
import Derived.Test.YtdgaheekfeomoaaGreatDoorTd
import Derived.Test.YtdgaheekfeomoaaGreatDoorWa
import Derived.Test.YtdgaheekfeomoaaGreatDoorWb
import Derived.Test.YtdgaheekfeomoaaGreatDoorWc
import Derived.Test.YtdgaheekfeomoaaGreatDoorWd
import Derived.WalkKit
import Derived.ProofKit
import Derived.OpenShut
import Derived.ChangeSame
import Derived.ChangeSlices
import Derived.LaidMore
import Derived.LaidHandle
import Derived.Stop.Joined
set_option linter.unusedVariables false
set_option maxRecDepth 100000
namespace Go.Proofs.YtdgaheekfeomoaaGreatDoor
open Go Go.ChangeShapes Go.WideShapes Go.ChangeAt Go.RowKit
theorem own : ownKnob Tryz.prog.godebug = none := by kernel_rfl
theorem laid_of_leaves {P : Program} {n fuel M : Nat} {l : List (String × DataW Unit)} {os : Os} {tape : Tape} (d : doorLeaves P n fuel M l os tape = some (l.filter fun x => x.2.handleName?.isNone, (funcsListed l).map (·.2.funcsOut)))
    {W : World} (hW : W.heap = (varsWorld P n (varsId P) os tape).heap) : laidMetH P l W := by
  unfold doorLeaves at d
  split at d
  · rename_i v w hr
    simp only [Option.bind_eq_some_iff] at d
    obtain ⟨x, hx, d⟩ := d
    split at d
    · rename_i hb
      simp only [Bool.and_eq_true] at hb
      simp only [Option.map_eq_some_iff, Prod.mk.injEq] at d
      obtain ⟨y, hy, e1, e2⟩ := d
      have h : laidMetH P l w.memory := laidMetH_of_parts3 (fuel := fuel) (laidMet_of_run (ps := x.2) fuel (by rw [hx, ← e1]) (decide_eq_true (nodupBits_sound hb.1.1).1) hb.1.2) hb.2 (by rw [hy, e2])
      refine laidMetH.of_heap (w := w.memory) ?_ h
      rw [hW]
      unfold varsWorld
      rw [hr]
      rfl
    · cases d
  · cases d
theorem door_heap (P : Program) (n : Nat) (os : Os) (args : Array Value) : ((World.doorLaid P n os).forCall (fun _ _ => 0) ⟨#[], args, []⟩).memory.heap = (varsWorld P n (varsId P) os (fun _ _ => 0)).heap := by
  simp [World.forCall, World.memory, World.doorLaid, Input.heap]
/-- The door's own heap holds what is listed. -/
theorem door_laid (os : Os) : laidMetH Tryz.prog laidL (door os).memory := laid_of_leaves (hrun os (fun _ _ => 0)) (door_heap _ _ _ _)
theorem post_below {H : Type} {enc : TypeId × Value → H} {P : Program} {f : Func} {s : ChangeSpec} {apart fresh handsOn again : Bool} {W W' : World} {args : Array Value} {v : Value} {ds gs : List (DataW H)} {before : List MemPlace}
    (hW : DataW.Whole enc P f.params.toList s.vars apart W args.toList ds gs before)
    (hres : ∀ (b : Nat) (sp : Nat → Bool) (hd : Bool), DataW.TrodAll enc P W' b sp hd f.resultTypes.toList (v.resultList f.resultTypes.size) (s.fn H (ds ++ gs)).results [])
    (hargs : ∀ sp : Nat → Bool, (∀ p ∈ before, sp p.block = true) → DataW.TrodAll enc P W' 0 sp true f.params.toList args.toList (s.fn H (ds ++ gs)).args before)
    (hvars : ∀ sp : Nat → Bool, DataW.TrodVars enc P W' sp s.vars (s.fn H (ds ++ gs)).vars [])
    (hg : Below W.heap.size W W')
    (hok : ∀ (j : Nat) (t : TypeId) (r : Value), f.resultTypes[j]? = some t → (v.resultList f.resultTypes.size)[j]? = some r → Value.okWide P W' .any 0 t r) :
    s.post enc P f apart fresh handsOn again W args v W' := by
  have hold : ∀ p ∈ before, (fun b => decide (b < W.heap.size)) p.block = true := fun p hp => by simpa using hW.lt p hp
  have hlt := hW.lt
  refine ⟨ds, gs, before, [], before, [], hW, hres _ _ _, hargs _ hold, hvars _, hg.frame _, fun _ => ?_⟩
  obtain ⟨_, _, _, _, _, hz, hn⟩ := hW
  refine ⟨hok, _, _, ([] ++ before) ++ [], ⟨[] ++ before, [], trodAll_append (hargs _ (fun _ _ => rfl)) (hres _ _ _), hvars _, rfl, ?_, ?_⟩, ?_⟩
  · intro b off hp
    have hp' : MemPlace.cell b off ∈ before := by simpa using hp
    rw [hg.frozen (p := ⟨b, off, none⟩) (hlt _ hp')]
    exact hz b off hp'
  · intro ha
    simpa using hn ha
  · intro p hp _
    simpa using hp
theorem lifted (os : Os) (started : os.Started) (H : Type) (enc : TypeId × Value → H) :
    ReturnsInHanded {} Tryz.checked os 3 .any (fun w args => (Rows.clausesWholeSpec.pre enc Tryz.prog Tryz.f3 Rows.clausesWholeRow.domain false w args ∧ laidMetH Tryz.prog laidL w) ∧ sizedMet enc Tryz.prog Tryz.f3 (OpenSpec.ofChange Rows.clausesWholeSpec) false w args)
      (Rows.clausesWholeSpec.post enc Tryz.prog Tryz.f3 false true false false) := by
  refine returnsInHanded_of_calls (C := Tryz.checked) own started (by kernel_rfl)
    (ChangeSpec.witness_shaped (enc := enc) (C := Tryz.checked) (os := os) (X := fun w _ => laidMetH Tryz.prog laidL w) false (World.doorLaid Tryz.prog 24 os) #[.slice none 0 0, .int .i64 0] 8 rfl (World.shaped_of_RefB (wRef os) (wHeap os)) (wOk os) (wPre os H enc) (wSz os H enc) (door_laid os)) ?_
  intro w tape i _ hshape _ hokw hpre _
  obtain ⟨_, _, _, fn', hfn', _, _, _, _, hval0⟩ := hokw
  have e : fn' = Tryz.f3 := Option.some.inj (hfn'.symm.trans Tryz.func3)
  subst e
  obtain ⟨⟨⟨ds, gs, before, hw0, _⟩, hx0⟩, _⟩ := hpre
  have hW0 := DataW.Whole.of_heap (w' := w.forCall tape i) (by rfl) hw0
  have hsize : 4 ≤ (w.forCall tape i).heap.size := by
    have h10 := g3
    cases hh : ((begin Tryz.prog (fun _ _ => 0) default).world.heap[3]?).bind Obj.row? with
    | none => rw [hh] at h10; cases h10
    | some p =>
      obtain ⟨cs, hc, _⟩ := hshape.1 3 p.1 p.2 (by show 3 < Tryz.prog.globals.size; rw [Ev.nGlob]; omega) hh
      exact (Array.getElem?_eq_some_iff.1 hc).1
  generalize w.forCall tape i = W at *
  generalize hargs0 : i.args = args at *
  have hval : ∀ (j : Nat) t v, Tryz.f3.params[j]? = some t → args[j]? = some v → Value.okWide Tryz.prog W .any w.heap.size t v := hval0
  have hW' := hW0
  have hlt := hW0.lt
  obtain ⟨p, q, hA0, hV, rfl, hfz, hnd⟩ := hW0
  have hA : DataW.TrodAll enc Tryz.prog W 0 (fun _ => true) true Tryz.f3.params.toList args.toList ds p := hA0
  rw [Tryz.params3] at hA hval
  obtain ⟨v0, vs0, d0, ds0, p0, q0, hargs, rfl, rfl, h0, r0⟩ := trodAll_cons hA
  obtain ⟨v1, vs1, d1, ds1, p1, q1, rfl, rfl, rfl, h1, r1⟩ := trodAll_cons r0
  obtain ⟨rfl, rfl, rfl⟩ := trodAll_nil r1
  obtain rfl : args = #[v0, v1] := by cases args; simp_all
  obtain ⟨rfl, rfl⟩ := trodVars_none hV
  obtain ⟨a1, rfl, rfl, rfl, w1⟩ := open_int Tryz.underlying3 (hval 1 3 v1 rfl rfl) h1
  have hv0 := hval 0 22 v0 rfl rfl
  obtain ⟨x0, len0, cap0, rfl⟩ := okWide_slice Tryz.underlying22 hv0
  obtain ⟨fuel, hf⟩ := h0
  have c3 : Tryz.prog.cellsOf 3 = 1 := by kernel_rfl
  rcases open_ints Tryz.underlying22 Tryz.underlying3 c3 hf with ⟨hcs, hx⟩ | ⟨a, len, cap, zs, hcs, _, hl, hm, hlen, hx, hcell, hwf⟩
  · have hcs' : [Value.slice x0 len0 cap0] = [Value.slice none 0 0] := hcs
    injection hcs' with e1 _
    injection e1 with e2 e3 e4
    subst e2; subst e3; subst e4
    obtain ⟨rfl, rfl⟩ := Prod.mk.inj hx
    refine (Ev.walkN a1 hsize).mono fun e W' ⟨he, hg⟩ => ?_
    subst he
    refine ChangeSpec.post_blind (post_below hW' (fun _ _ _ => (trodAll_cons_mk (shut_bool Tryz.underlying4 _) trodAll_mk0)) (fun sp _ => ?_) (fun _ => rfl) hg (ok_one (by kernel_rfl) rfl (okWide_bool_mk Tryz.underlying4 _)))
    exact trodAll_cons_mk ⟨1, by simp [DataW.trod, Value.cells, Tryz.underlying22]⟩ (trodAll_cons_mk (shut_int Tryz.underlying3 w1) trodAll_mk0)
  · have hcs' : [Value.slice x0 len0 cap0] = [Value.slice (some a) len cap] := hcs
    injection hcs' with e1 _
    injection e1 with e2 e3 e4
    subst e2; subst e3; subst e4
    obtain ⟨rfl, rfl⟩ := Prod.mk.inj hx
    have hz : zs.length = cap0 := by simpa using hlen
    have hhas : W.has Tryz.prog .any w.heap.size a 3 cap0 := by
      have h2 := hv0
      simp only [Value.okWide, Cell.okWide, Cell.ok, Tryz.underlying22] at h2
      exact h2.2.2
    obtain ⟨_, hspot, row, cells, hsh, _⟩ := hhas
    have hb : a.block < W.heap.size := by
      unfold World.shape? at hsh
      cases hh : W.heap[a.block]? with
      | none => rw [hh] at hsh; cases hsh
      | some x => exact (Array.getElem?_eq_some_iff.1 hh).1
    obtain ⟨blk, off, sp⟩ := a
    have hs : sp = none := hspot
    subst hs
    have hcell' : ∀ i, i < zs.length → W.cell? ⟨blk, off + i, none⟩ = some (.int .i64 (zs.getD i 0)) := fun i hi => by rw [← Go.WideShapes.add_plain]; exact hcell i hi
    simp only [List.append_nil] at hW'
    refine (Ev.walkS a1 hsize hb hl hz hcell').mono fun e W' ⟨he, hg⟩ => ?_
    subst he
    refine ChangeSpec.post_blind (post_below hW' (fun _ _ _ => (trodAll_cons_mk (shut_bool Tryz.underlying4 _) trodAll_mk0)) (fun sp hsp => ?_) (fun _ => rfl) hg (ok_one (by kernel_rfl) rfl (okWide_bool_mk Tryz.underlying4 _)))
    have hzs : zs.length = (if sp blk then cap0 else len0) := by
      by_cases h00 : zs.length = 0
      · have h1 : len0 = 0 := by omega
        have h2 : cap0 = 0 := by omega
        rw [h00, h1, h2]; simp
      · have h1 : sp blk = true := hsp (.cell blk (off + 0)) (MemPlace.mem_row.2 ⟨0, by omega, rfl⟩)
        rw [h1, hz]; rfl
    have e : MemPlace.row ⟨blk, off, none⟩ zs.length = MemPlace.row ⟨blk, off, none⟩ zs.length ++ ([] : List MemPlace) := (List.append_nil _).symm
    rw [e]
    exact trodAll_cons_mk ⟨0 + 2, shut_ints' 0 Tryz.underlying22 Tryz.underlying3 c3 (Nat.zero_le _) hl hm hzs (fun i hi => by rw [hg.cell (p := ⟨blk, off + i, none⟩) hb]; exact hcell' i hi) hwf⟩ (trodAll_cons_mk (shut_int Tryz.underlying3 w1) trodAll_mk0)
end Go.Proofs.YtdgaheekfeomoaaGreatDoor
