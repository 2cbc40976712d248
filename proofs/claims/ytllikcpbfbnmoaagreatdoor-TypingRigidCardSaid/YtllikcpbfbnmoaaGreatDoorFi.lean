/- The row's statement: whatever the integer is, TypingRigid returns true and each argument reads as it did; by the walk. Condition: the listed variables hold what the text lays. -/
import Derived.Test.YtllikcpbfbnmoaaGreatDoorWk
import Derived.Test.YtllikcpbfbnmoaaGreatDoorTa
import Derived.Test.YtllikcpbfbnmoaaGreatDoorTd
import Derived.Test.YtllikcpbfbnmoaaGreatDoorWa
import Derived.Test.YtllikcpbfbnmoaaGreatDoorWb
import Derived.Test.YtllikcpbfbnmoaaGreatDoorWc
import Derived.WalkKit
import Derived.ProofKit
import Derived.OpenShut
import Derived.LaidMore
import Derived.LaidHandle
import Derived.Stop.Joined
set_option linter.unusedVariables false
set_option maxRecDepth 100000
namespace Go.Proofs.YtllikcpbfbnmoaaGreatDoor
open Go Go.ChangeShapes Go.WideShapes Go.ChangeAt Go.RowKit
theorem own : ownKnob Tryz.prog.godebug = none := by kernel_rfl
theorem laid_of_leaves {P : Program} {n fuel M : Nat} {l : List (String × DataW Unit)} {os : Os} {tape : Tape} (d : doorLeaves P n fuel M l os tape = some (l.filter fun x => x.2.handleName?.isNone, (funcsListed l).map (·.2.funcsOut)))
    {W : World} (hW : W.heap = (varsWorld P n (varsId P) os tape).heap) : laidMetH P l W := by
  unfold doorLeaves at d
  split at d
  · rename_i v w hr
    simp only [Option.bind_eq_some_iff] at d
    obtain ⟨x, hx, d⟩ := d
    split at d
    · rename_i hb
      simp only [Bool.and_eq_true] at hb
      simp only [Option.map_eq_some_iff, Prod.mk.injEq] at d
      obtain ⟨y, hy, e1, e2⟩ := d
      have h : laidMetH P l w.memory := laidMetH_of_parts3 (fuel := fuel) (laidMet_of_run (ps := x.2) fuel (by rw [hx, ← e1]) (decide_eq_true (nodupBits_sound hb.1.1).1) hb.1.2) hb.2 (by rw [hy, e2])
      refine laidMetH.of_heap (w := w.memory) ?_ h
      rw [hW]
      unfold varsWorld
      rw [hr]
      rfl
    · cases d
  · cases d
theorem door_heap (P : Program) (n : Nat) (os : Os) (args : Array Value) : ((World.doorLaid P n os).forCall (fun _ _ => 0) ⟨#[], args, []⟩).memory.heap = (varsWorld P n (varsId P) os (fun _ _ => 0)).heap := by
  simp [World.forCall, World.memory, World.doorLaid, Input.heap]
/-- The door's own heap holds what is listed. -/
theorem door_laid (os : Os) : laidMetH Tryz.prog laidL (door os).memory := laid_of_leaves (hrun os (fun _ _ => 0)) (door_heap _ _ _ _)
theorem post_plain {H : Type} {enc : TypeId × Value → H} {P : Program} {f : Func} {s : ChangeSpec} {apart fresh handsOn again : Bool} {W W' : World} {args : Array Value} {v : Value} {ds gs : List (DataW H)}
    (hW : DataW.Whole enc P f.params.toList s.vars apart W args.toList ds gs [])
    (hres : ∀ (b : Nat) (sp : Nat → Bool) (hd : Bool), DataW.TrodAll enc P W' b sp hd f.resultTypes.toList (v.resultList f.resultTypes.size) (s.fn H (ds ++ gs)).results [])
    (hargs : ∀ sp : Nat → Bool, DataW.TrodAll enc P W' 0 sp true f.params.toList args.toList (s.fn H (ds ++ gs)).args [])
    (hvars : ∀ sp : Nat → Bool, DataW.TrodVars enc P W' sp s.vars (s.fn H (ds ++ gs)).vars [])
    (hk : ∀ may : MemPlace → Prop, W.keptBut W' may)
    (hok : ∀ (j : Nat) (t : TypeId) (r : Value), f.resultTypes[j]? = some t → (v.resultList f.resultTypes.size)[j]? = some r → Value.okWide P W' .any 0 t r) :
    s.post enc P f apart fresh handsOn again W args v W' := by
  refine ⟨ds, gs, [], [], [], [], hW, hres _ _ _, hargs _, hvars _, hk _, fun _ => ?_⟩
  refine ⟨hok, _, _, ([] ++ []) ++ [], ⟨[] ++ [], [], trodAll_append (hargs _) (hres _ _ _), hvars _, rfl, ?_, ?_⟩, ?_⟩
  · intro b off hp; cases hp
  · intro _; exact List.nodup_nil
  · intro p hp _; cases hp
theorem lifted (os : Os) (started : os.Started) (H : Type) (enc : TypeId × Value → H) :
    ReturnsInHanded {} Tryz.checked os 3 .any (fun w args => (Rows.typingRigidSpec.pre enc Tryz.prog Tryz.f3 Rows.typingRigidRow.domain false w args ∧ laidMetH Tryz.prog laidL w) ∧ sizedMet enc Tryz.prog Tryz.f3 (OpenSpec.ofChange Rows.typingRigidSpec) false w args)
      (Rows.typingRigidSpec.post enc Tryz.prog Tryz.f3 false true false false) := by
  refine returnsInHanded_of_calls (C := Tryz.checked) own started (by kernel_rfl)
    (ChangeSpec.witness_shaped (enc := enc) (C := Tryz.checked) (os := os) (X := fun w _ => laidMetH Tryz.prog laidL w) false (World.doorLaid Tryz.prog 24 os) #[.int .i64 0] 8 rfl (World.shaped_of_RefB (wRef os) (wHeap os)) (wOk os) (wPre os H enc) (wSz os H enc) (door_laid os)) ?_
  intro w tape i _ hshape _ hokw hpre _
  obtain ⟨_, _, _, fn', hfn', _, _, _, _, hval0⟩ := hokw
  have e : fn' = Tryz.f3 := Option.some.inj (hfn'.symm.trans Tryz.func3)
  subst e
  obtain ⟨⟨⟨ds, gs, before, hw0, _⟩, hx0⟩, _⟩ := hpre
  have hW0 := DataW.Whole.of_heap (w' := w.forCall tape i) (by rfl) hw0
  have hsize : 4 ≤ (w.forCall tape i).heap.size := by
    have h10 := g3
    cases hh : ((begin Tryz.prog (fun _ _ => 0) default).world.heap[3]?).bind Obj.row? with
    | none => rw [hh] at h10; cases h10
    | some p =>
      obtain ⟨cs, hc, _⟩ := hshape.1 3 p.1 p.2 (by show 3 < Tryz.prog.globals.size; rw [Ev.nGlob]; omega) hh
      exact (Array.getElem?_eq_some_iff.1 hc).1
  generalize w.forCall tape i = W at *
  generalize hargs0 : i.args = args at *
  have hval : ∀ (j : Nat) t v, Tryz.f3.params[j]? = some t → args[j]? = some v → Value.okWide Tryz.prog W .any w.heap.size t v := hval0
  have hW' := hW0
  obtain ⟨p, q, hA0, hV, rfl, hfz, hnd⟩ := hW0
  have hA : DataW.TrodAll enc Tryz.prog W 0 (fun _ => true) true Tryz.f3.params.toList args.toList ds p := hA0
  rw [Tryz.params3] at hA hval
  obtain ⟨v0, vs0, d0, ds0, p0, q0, hargs, rfl, rfl, h0, r0⟩ := trodAll_cons hA
  obtain ⟨rfl, rfl, rfl⟩ := trodAll_nil r0
  obtain rfl : args = #[v0] := by cases args; simp_all
  obtain ⟨rfl, rfl⟩ := trodVars_none hV
  obtain ⟨a0, rfl, rfl, rfl, w0⟩ := open_int Tryz.underlying3 (hval 0 3 v0 rfl rfl) h0
  simp only [List.append_nil] at hW'
  refine (Ev.walk a0 hsize).mono fun e W' ⟨he, hg⟩ => ?_
  subst he
  exact ChangeSpec.post_blind (post_plain hW' (fun _ _ _ => (trodAll_cons_mk (shut_bool Tryz.underlying4 _) trodAll_mk0)) (fun sp => (trodAll_cons_mk (shut_int Tryz.underlying3 w0) trodAll_mk0)) (fun _ => rfl)
    (fun may => hg.frame may) (ok_one (by kernel_rfl) rfl (okWide_bool_mk Tryz.underlying4 _)))
end Go.Proofs.YtllikcpbfbnmoaaGreatDoor
