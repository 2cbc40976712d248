/- Calls that are told once, and the rules by which a run with unknown values is followed. -/
import Derived.Test.YtdgaheekfeomoaaGreatDoorEvG
set_option linter.unusedVariables false
set_option linter.unusedSimpArgs false
namespace GoEv
open Go (IntKind Value World Addr Program Ending)
open Go.RowKit (Below)

/-- what a call does, told of abstract memories -/
def Snd (P : Program) (f : Nat) (args : List V) (h : H) (v : V) (h' : H) : Prop :=
  ∀ (ι : Inj) (w : World) (cargs : Array Value), HR P ι h w → VRs ι args cargs.toList → (∀ g, g < P.globals.size → ∃ room, ι g = some ⟨g, 0, room⟩) →
    Go.Calls P f cargs w fun ex w' => ∃ cv ι', ex = .returned cv ∧ VR ι' v cv ∧ HR P ι' h' w' ∧ Ext h ι w h' ι' w'
/-- what a function does, if those that it calls do what they are told to do -/
def FSnd (P : Program) (f : Nat) (F : Sm → List V → H → A) : Prop := ∀ S, SOK P S → ∀ args h v h', F S args h = some (v, h') → Snd P f args h v h'
theorem FSnd.of {P : Program} {X : Nat → Nat} (hmix : P.follows .mixedOrders = true) (hX : XOK P X) {f : Nat} {F : Sm → List V → H → A} (hF : FOK P X (theD P X) f F) : FSnd P f F := by
  intro S hS args h v h' hh ι w cargs hr ha hg
  obtain ⟨fn, c, hn, na, h1, h2, rfl⟩ := hF
  exact dFun_sound hX hS (fun nt => dDraw_sound hmix hX hS) h1 h2 hh hr ha hg
theorem Tr.All.mono {p q : Nat → (Sm → List V → H → A) → Prop} (hpq : ∀ f F, p f F → q f F) : ∀ {t : Tr}, t.All p → t.All q
  | .nl, _ => trivial
  | .lf _ _, h => hpq _ _ h
  | .nd _ _ _, h => ⟨Tr.All.mono hpq h.1, Tr.All.mono hpq h.2⟩
theorem Sem_snd {P : Program} {t : Tr} (ht : t.All (FSnd P)) : ∀ n, SOK P (GoEv.Sem t n)
  | 0 => by intro f args h v h' hh; cases hh
  | n + 1 => by
    intro f args h v h' hh
    have ih := Sem_snd ht n
    have hh' : t.get f (GoEv.Sem t n) args h = some (v, h') := hh
    obtain ⟨F, h1, h2⟩ := Tr.get_some ht hh'
    exact h1 _ ih args h v h' h2

/-! ### from a small memory to a larger one -/
theorem HR.sub {P : Program} {ι : Inj} {h h0 : H} {w : World} (hr : HR P ι h w) (hn : h0.n = h.n) (hs : ∀ b x, h0.get b = some x → h.get b = some x) : HR P ι h0 w :=
  ⟨fun b hb => hr.dom b (by rw [← hn]; exact hb), hr.lt, fun b L x hb hg => hr.blk b L x hb (hs _ _ hg), fun b b' L L' x x' hne hb hb' hg hg' => hr.apart b b' L L' x x' hne hb hb' (hs _ _ hg) (hs _ _ hg'), fun b hb => by
    cases hc : h0.get b with
    | none => rfl
    | some x => rw [hn] at hb; have h1 := hr.wf b hb; rw [hs b x hc] at h1; cases h1⟩
/-- the larger memory behind the call: what the small one has there, else as it was; what is new may be forgotten -/
structure Fr (h0 h1 h h' : H) : Prop where
  n0 : h0.n = h.n
  n1 : h1.n = h'.n
  le : h0.n ≤ h1.n
  sub : ∀ b x, h0.get b = some x → h.get b = some x ∧ live x = true
  old : ∀ b x, b < h.n → h0.get b = some x → h'.get b = h1.get b
  out : ∀ b, b < h.n → h0.get b = none → h'.get b = h.get b
  new : (∀ b, h.n ≤ b → h.get b = none) → ∀ b x, h.n ≤ b → h'.get b = some x → h1.get b = some x
theorem Snd.frame {P : Program} {f : Nat} {args : List V} {v : V} {h0 h1 h h' : H} (hS : Snd P f args h0 v h1) (fr : Fr h0 h1 h h') : Snd P f args h v h' := by
  intro ι w cargs hr ha hg
  have hr0 : HR P ι h0 w := hr.sub fr.n0 fun b x hb => (fr.sub b x hb).1
  refine (hS ι w cargs hr0 ha hg).mono ?_
  rintro ex w' ⟨cv, ι', rfl, hv, hr1, hx⟩
  have hlt : ∀ b L, ι b = some L → b < h.n := fun b L hb => Nat.lt_of_not_le fun hle => by rw [hr.dom b hle] at hb; cases hb
  -- a block outside of the small memory reads as it did
  have hkeep : ∀ b L x, ι b = some L → h0.get b = none → h.get b = some x → live x = true → w'.heap[L.cb]? = w.heap[L.cb]? := by
    intro b L x hb h0n hgx hl
    refine hx.keep _ (hr.lt b L hb) fun b0 L0 x0 hb0 hg0 ho => ?_
    exact hr.apart b0 b L0 L x0 x (fun e => by rw [e, h0n] at hg0; cases hg0) hb0 hb (fr.sub _ _ hg0).1 hgx ho hl
  -- where a block of the larger memory behind the call comes from
  have src : ∀ b L x, ι' b = some L → h'.get b = some x → (h1.get b = some x ∧ (h.n ≤ b ∨ (b < h.n ∧ ∃ y, h0.get b = some y ∧ ι b = some L))) ∨ (b < h.n ∧ h0.get b = none ∧ h.get b = some x ∧ ι b = some L) := by
    intro b L x hb hgx
    by_cases hbn : b < h.n
    · have hιb : ι b = some L := by
        cases hc : ι b with
        | none => have := (hx.new b L hb hc).1; rw [fr.n0] at this; omega
        | some L' => have := hx.sub b L' hc; rw [hb] at this; exact this.symm
      cases h0b : h0.get b with
      | none => exact .inr ⟨hbn, rfl, by rw [← fr.out b hbn h0b]; exact hgx, hιb⟩
      | some y => exact .inl ⟨by rw [← fr.old b y hbn h0b]; exact hgx, .inr ⟨hbn, y, rfl, hιb⟩⟩
    · exact .inl ⟨fr.new hr.wf b x (by omega) hgx, .inl (by omega)⟩
  -- an own block of the small memory behind the call stands in a place of its own
  have place : ∀ b L x, ι' b = some L → h1.get b = some x → (h.n ≤ b ∨ (b < h.n ∧ ∃ y, h0.get b = some y ∧ ι b = some L)) → (w.heap.size ≤ L.cb ∨ ∃ b0 L0 x0, ι b0 = some L0 ∧ h0.get b0 = some x0 ∧ L0.cb = L.cb ∧ (own x = true → own x0 = true) ∧ live x0 = true ∧ (h.n ≤ b → own x0 = true) ∧ (b < h.n → b0 = b)) := by
    intro b L x hb hgx hc
    rcases hc with hbn | ⟨hbn, y, hy, hιb⟩
    · have hn : ι b = none := hr.dom b hbn
      rcases (hx.new b L hb hn).2 with h5 | ⟨b0, L0, x0, h5, h6, h7, h8⟩
      · exact .inl h5
      · exact .inr ⟨b0, L0, x0, h5, h6, h8, fun _ => h7, (fr.sub _ _ h6).2, fun _ => h7, fun h => by omega⟩
    · refine .inr ⟨b, L, y, hιb, hy, rfl, fun ho => ?_, (fr.sub _ _ hy).2, fun h => by omega, fun _ => rfl⟩
      obtain ⟨z, hz, hoz⟩ := hx.mono b x (by rw [fr.n0]; exact hbn) hgx ho
      rw [hy] at hz; cases hz; exact hoz
  have hwf : ∀ b, h'.n ≤ b → h'.get b = none := fun b hb => by
    cases hc : h'.get b with
    | none => rfl
    | some x =>
      have := fr.new hr.wf b x (by have := fr.le; rw [fr.n0, fr.n1] at this; omega) hc
      rw [hr1.wf b (by rw [fr.n1]; exact hb)] at this; cases this
  refine ⟨cv, ι', rfl, hv, ⟨fun b hb => hr1.dom b (by rw [fr.n1]; exact hb), hr1.lt, ?_, ?_, hwf⟩, ⟨hx.sub, ?_, ?_, hx.os, hx.tape, hx.output, hx.size, ?_, ?_, ?_⟩⟩
  · intro b L x hb hgx
    rcases src b L x hb hgx with ⟨h5, _⟩ | ⟨h5, h6, h7, h8⟩
    · exact hr1.blk b L x hb h5
    · have hbr := hr.blk b L x h8 h7
      cases hl : live x with
      | false => cases x <;> first | trivial | cases hl
      | true => exact hbr.same hx.sub (hkeep b L x h8 h6 h7 hl)
  · intro b b' L L' x x' hne hb hb' hgx hgx' ho hl
    rcases src b L x hb hgx with ⟨h5, c5⟩ | ⟨h5, h6, h7, h8⟩
    · rcases src b' L' x' hb' hgx' with ⟨g5, _⟩ | ⟨g5, g6, g7, g8⟩
      · exact hr1.apart b b' L L' x x' hne hb hb' h5 g5 ho hl
      · rcases place b L x hb h5 c5 with p | ⟨b0, L0, x0, p1, p2, p3, p4, _⟩
        · have := hr.lt b' L' g8; omega
        · rw [← p3]
          exact hr.apart b0 b' L0 L' x0 x' (fun e => by rw [e, g6] at p2; cases p2) p1 g8 (fr.sub _ _ p2).1 g7 (p4 ho) hl
    · rcases src b' L' x' hb' hgx' with ⟨g5, c5⟩ | ⟨g5, g6, g7, g8⟩
      · rcases place b' L' x' hb' g5 c5 with p | ⟨b0, L0, x0, p1, p2, p3, p4, p5, _⟩
        · have := hr.lt b L h8; omega
        · rw [← p3]
          exact hr.apart b b0 L L0 x x0 (fun e => by rw [← e, h6] at p2; cases p2) h8 p1 h7 (fr.sub _ _ p2).1 ho p5
      · exact hr.apart b b' L L' x x' hne h8 g8 h7 g7 ho hl
  · rw [← fr.n0, ← fr.n1]; exact fr.le
  · intro b x hbn hgx ho
    cases h0b : h0.get b with
    | none => exact ⟨x, by rw [← fr.out b hbn h0b]; exact hgx, ho⟩
    | some y =>
      obtain ⟨z, hz, hoz⟩ := hx.mono b x (by rw [fr.n0]; exact hbn) (by rw [← fr.old b y hbn h0b]; exact hgx) ho
      exact ⟨z, (fr.sub _ _ hz).1, hoz⟩
  · intro c hc hno
    exact hx.keep c hc fun b L x h5 h6 h7 => hno b L x h5 (fr.sub _ _ h6).1 h7
  · intro b hbn hn
    cases h0b : h0.get b with
    | none => exact fr.out b hbn h0b
    | some y => rw [fr.old b y hbn h0b, hx.ghost b (by rw [fr.n0]; exact hbn) hn, h0b, (fr.sub b y h0b).1]
  · intro b L h5 h6
    obtain ⟨h7, h8⟩ := hx.new b L h5 h6
    refine ⟨by rw [← fr.n0]; exact h7, ?_⟩
    rcases h8 with h8 | ⟨b0, L0, x0, q1, q2, q3, q4⟩
    · exact .inl h8
    · exact .inr ⟨b0, L0, x0, q1, (fr.sub _ _ q2).1, q3, q4⟩

/-! ### what is told -/
structure Told where
  n : Nat
  args : List V
  pre : List (Nat × Blk)
  v : V
  n1 : Nat
  post : List (Nat × Blk)
noncomputable def sets (l : List (Nat × Blk)) (t : T) : T := List.rec (motive := fun _ => T) t (fun p _ ih => Prod.casesOn p fun b x => T.set (Nat.succ b) x ih b) l
theorem sets_cons (b : Nat) (x : Blk) (l : List (Nat × Blk)) (t : T) : sets ((b, x) :: l) t = T.set (Nat.succ b) x (sets l t) b := rfl
theorem sets_get (t : T) (c : Nat) : ∀ l : List (Nat × Blk), (sets l t).get c = match l.find? (fun p => p.1 == c) with | some p => some p.2 | none => t.get c
  | [] => rfl
  | (b, x) :: l => by
    rw [sets_cons, T.get_set _ _ _ _ _ (Nat.lt_succ_self b), sets_get t c l]
    by_cases e : b = c
    · subst e; simp
    · simp [e, Ne.symm e]
/-- the small memories -/
noncomputable def Told.h0 (s : Told) : H := H.mk s.n (sets s.pre .lf)
noncomputable def Told.h1 (s : Told) : H := H.mk s.n1 (sets s.post (sets s.pre .lf))
noncomputable def eq3 (a b : V) : Bool := V.casesOn a (eq2 a b) (fun _ => eq2 a b) (fun _ => eq2 a b) (fun _ => eq2 a b) (fun _ _ => eq2 a b) (fun _ _ => eq2 a b) (fun _ _ => eq2 a b) (eq2 a b) (fun _ _ _ _ _ _ => eq2 a b) (eq2 a b) (fun _ => eq2 a b) (eq2 a b)
  (fun f p q => V.casesOn b false (fun _ => false) (fun _ => false) (fun _ => false) (fun _ _ => false) (fun _ _ => false) (fun _ _ => false) false (fun _ _ _ _ _ _ => false) false (fun _ => false) false (fun g r s => Bool.casesOn (Nat.beq f g) false (Bool.casesOn (eqL p r) false (eqL q s))) false (fun _ _ => false) false (fun _ => false) (fun _ => false))
  (eq2 a b) (fun _ _ => eq2 a b) (eq2 a b) (fun _ => eq2 a b) (fun _ => eq2 a b)
theorem bcase {b c : Bool} : (Bool.casesOn b false c : Bool) = true ↔ b = true ∧ c = true := by cases b <;> simp
theorem eq3_eq {a b : V} (h : eq3 a b = true) : a = b := by
  cases a <;> first | exact eq2_eq h | skip
  rename_i f p q
  cases b <;> first | cases h | skip
  rename_i g r s
  have h' : (Bool.casesOn (Nat.beq f g) false (Bool.casesOn (eqL p r) false (eqL q s)) : Bool) = true := h
  rw [bcase, bcase, beq_eq] at h'
  rw [of_decide_eq_true h'.1, eqL_eq h'.2.1, eqL_eq h'.2.2]
noncomputable def eqL3 (l : List V) : List V → Bool := List.rec (motive := fun _ => List V → Bool) (fun r => List.casesOn r true (fun _ _ => false)) (fun a _ ih r => List.casesOn r false (fun b r => Bool.casesOn (eq3 a b) false (ih r))) l
theorem eqL3_eq : ∀ {l r : List V}, eqL3 l r = true → l = r
  | [], [], _ => rfl
  | [], _ :: _, h => by cases h
  | _ :: _, [], h => by cases h
  | a :: l, b :: r, h => by
    have h' : (Bool.casesOn (eq3 a b) false (eqL3 l r) : Bool) = true := h
    rw [bcase] at h'
    rw [eq3_eq h'.1, eqL3_eq h'.2]
noncomputable def eqE (l : List (V × V)) : List (V × V) → Bool := List.rec (motive := fun _ => List (V × V) → Bool) (fun r => List.casesOn r true (fun _ _ => false)) (fun a _ ih r => List.casesOn r false (fun b r => Prod.casesOn a fun k v => Prod.casesOn b fun k' v' => Bool.casesOn (eq3 k k') false (Bool.casesOn (eq3 v v') false (ih r)))) l
theorem eqE_eq : ∀ {l r : List (V × V)}, eqE l r = true → l = r
  | [], [], _ => rfl
  | [], _ :: _, h => by cases h
  | _ :: _, [], h => by cases h
  | (k, v) :: l, (k', v') :: r, h => by
    have h' : (Bool.casesOn (eq3 k k') false (Bool.casesOn (eq3 v v') false (eqE l r)) : Bool) = true := h
    rw [bcase, bcase] at h'
    rw [eq3_eq h'.1, eq3_eq h'.2.1, eqE_eq h'.2.2]
noncomputable def eqBlk (a b : Blk) : Bool := Blk.casesOn a (fun ro fz l => Blk.casesOn b (fun ro' fz' l' => Bool.casesOn (eqB ro ro') false (Bool.casesOn (Nat.beq fz fz') false (eqL3 l l'))) (fun _ => false) false) (fun es => Blk.casesOn b (fun _ _ _ => false) (fun es' => eqE es es') false) false
theorem eqBlk_eq {a b : Blk} (h : eqBlk a b = true) : a = b ∧ live a = true := by
  cases a with
  | cells ro fz l =>
    cases b with
    | cells ro' fz' l' =>
      have h' : (Bool.casesOn (eqB ro ro') false (Bool.casesOn (Nat.beq fz fz') false (eqL3 l l')) : Bool) = true := h
      rw [bcase, bcase, eqB_eq, beq_eq] at h'
      rw [eq_of_beq h'.1, of_decide_eq_true h'.2.1, eqL3_eq h'.2.2]
      exact ⟨rfl, rfl⟩
    | map _ => cases h
    | dead => cases h
  | map es =>
    cases b with
    | map es' => exact ⟨by rw [eqE_eq h], rfl⟩
    | cells _ _ _ => cases h
    | dead => cases h
  | dead => cases h
/-- are the blocks of a list there? -/
noncomputable def there (t : T) (l : List (Nat × Blk)) : Bool := List.rec (motive := fun _ => Bool) true (fun p _ ih => Prod.casesOn p fun b x => Option.casesOn (T.get t b) false fun y => Bool.casesOn (eqBlk x y) false ih) l
theorem there_iff {t : T} : ∀ {l : List (Nat × Blk)}, there t l = true → ∀ p ∈ l, t.get p.1 = some p.2 ∧ live p.2 = true
  | [], _, p, hp => by cases hp
  | (b, x) :: l, h, p, hp => by
    have h' : (Option.casesOn (T.get t b) false (fun y => Bool.casesOn (eqBlk x y) false (there t l)) : Bool) = true := h
    cases hg : T.get t b with
    | none => rw [hg] at h'; cases h'
    | some y =>
      rw [hg] at h'
      have h'' : (Bool.casesOn (eqBlk x y) false (there t l) : Bool) = true := h'
      rw [bcase] at h''
      rcases List.mem_cons.1 hp with rfl | hp
      · obtain ⟨h1, h2⟩ := eqBlk_eq h''.1
        exact ⟨by rw [h1]; exact hg, h2⟩
      · exact there_iff h''.2 p hp
/-- a function with calls that are told -/
noncomputable def told (l : List Told) (F : Sm → List V → H → A) (S : Sm) (args : List V) (h : H) : A :=
  H.casesOn h fun n t => List.rec (motive := fun _ => A) (F S args (H.mk n t))
    (fun s _ ih => Told.casesOn s fun n0 args0 pre v n1 post => Bool.casesOn (Nat.beq n n0) ih (Bool.casesOn (eqL3 args0 args) ih (Bool.casesOn (there t pre) ih (some (v, H.mk n1 (sets post t)))))) l
/-- what is told is so -/
structure Told.OK (P : Program) (f : Nat) (s : Told) : Prop where
  le : s.n ≤ s.n1
  old : ∀ p ∈ s.post, p.1 < s.n → ∃ q ∈ s.pre, q.1 = p.1
  snd : Snd P f s.args s.h0 s.v s.h1
theorem told_snd {P : Program} {f : Nat} {F : Sm → List V → H → A} (hF : FSnd P f F) : ∀ {l : List Told}, (∀ s ∈ l, s.OK P f) → FSnd P f (told l F)
  | [], _ => by
    intro S hS args h v h' hh
    cases h with
    | mk n t => exact hF S hS args _ v h' hh
  | s :: l, hl => by
    intro S hS args h v h' hh
    have ih := told_snd hF (l := l) fun s hs => hl s (by simp [hs])
    cases h with
    | mk n t =>
      have e : told (s :: l) F S args (H.mk n t) = Bool.casesOn (Nat.beq n s.n) (told l F S args (H.mk n t)) (Bool.casesOn (eqL3 s.args args) (told l F S args (H.mk n t)) (Bool.casesOn (there t s.pre) (told l F S args (H.mk n t)) (some (s.v, H.mk s.n1 (sets s.post t))))) := by cases s; rfl
      rw [e] at hh
      cases h1 : Nat.beq n s.n with
      | false => rw [h1] at hh; exact ih S hS args _ v h' hh
      | true =>
        cases h2 : eqL3 s.args args with
        | false => rw [h1, h2] at hh; exact ih S hS args _ v h' hh
        | true =>
          cases h3 : there t s.pre with
          | false => rw [h1, h2, h3] at hh; exact ih S hS args _ v h' hh
          | true =>
            rw [h1, h2, h3] at hh
            have hn : n = s.n := Nat.eq_of_beq_eq_true h1
            subst hn
            have hq : some (s.v, H.mk s.n1 (sets s.post t)) = some (v, h') := hh
            simp only [Option.some.injEq, Prod.mk.injEq] at hq
            obtain ⟨rfl, rfl⟩ := hq
            have ok := hl s (by simp)
            rw [← eqL3_eq h2]
            have hth := there_iff h3
            have pre_get : ∀ b x, s.h0.get b = some x → t.get b = some x ∧ live x = true := by
              intro b x hb
              have : (sets s.pre .lf).get b = some x := hb
              rw [sets_get] at this
              cases hf : s.pre.find? (fun p => p.1 == b) with
              | none => rw [hf] at this; cases this
              | some p =>
                rw [hf] at this
                cases this
                have hm := List.mem_of_find?_eq_some hf
                have hb' := List.find?_some hf
                have := hth p hm
                rw [beq_iff_eq] at hb'
                rw [← hb']; exact this
            refine ok.snd.frame ⟨rfl, rfl, ok.le, pre_get, ?_, ?_, ?_⟩
            · intro b x hb h0b
              have h0b' := pre_get b x h0b
              show (sets s.post t).get b = (sets s.post (sets s.pre .lf)).get b
              rw [sets_get, sets_get]
              cases hf : s.post.find? (fun p => p.1 == b) with
              | some p => rfl
              | none => show t.get b = (sets s.pre .lf).get b; rw [h0b'.1]; exact h0b.symm
            · intro b hb h0b
              show (sets s.post t).get b = t.get b
              rw [sets_get]
              cases hf : s.post.find? (fun p => p.1 == b) with
              | none => rfl
              | some p =>
                exfalso
                have hm := List.mem_of_find?_eq_some hf
                have hb' := List.find?_some hf
                rw [beq_iff_eq] at hb'
                obtain ⟨q, hq, hqb⟩ := ok.old p hm (by rw [hb']; exact hb)
                have h0b' : (sets s.pre .lf).get b = none := h0b
                rw [sets_get] at h0b'
                cases hf2 : s.pre.find? (fun p => p.1 == b) with
                | some _ => rw [hf2] at h0b'; cases h0b'
                | none =>
                  have := List.find?_eq_none.1 hf2 q hq
                  rw [hqb, hb'] at this
                  simp at this
            · intro hw b x hb hgx
              have hgx' : (sets s.post t).get b = some x := hgx
              show (sets s.post (sets s.pre .lf)).get b = some x
              rw [sets_get] at hgx' ⊢
              cases hf : s.post.find? (fun p => p.1 == b) with
              | some p => rw [hf] at hgx'; exact hgx'
              | none => rw [hf] at hgx'; have h9 : t.get b = none := hw b hb; rw [h9] at hgx'; cases hgx'

/-! ### how a call is told: it is run once, and the outcome is held against what is told -/
noncomputable def eqD (a b : Blk) : Bool := Blk.casesOn a (fun _ _ _ => eqBlk a b) (fun _ => eqBlk a b) (Blk.casesOn b (fun _ _ _ => false) (fun _ => false) true)
theorem eqD_eq {a b : Blk} (h : eqD a b = true) : a = b := by
  cases a with
  | cells ro fz l => exact (eqBlk_eq (a := .cells ro fz l) (b := b) h).1
  | map es => exact (eqBlk_eq (a := .map es) (b := b) h).1
  | dead => cases b <;> first | rfl | cases h
noncomputable def thereD (t : T) (l : List (Nat × Blk)) : Bool := List.rec (motive := fun _ => Bool) true (fun p _ ih => Prod.casesOn p fun b x => Option.casesOn (T.get t b) false fun y => Bool.casesOn (eqD x y) false ih) l
theorem thereD_iff {t : T} : ∀ {l : List (Nat × Blk)}, thereD t l = true → ∀ p ∈ l, t.get p.1 = some p.2
  | [], _, p, hp => by cases hp
  | (b, x) :: l, h, p, hp => by
    have h' : (Option.casesOn (T.get t b) false (fun y => Bool.casesOn (eqD x y) false (thereD t l)) : Bool) = true := h
    cases hg : T.get t b with
    | none => rw [hg] at h'; cases h'
    | some y =>
      rw [hg] at h'
      have h'' : (Bool.casesOn (eqD x y) false (thereD t l) : Bool) = true := h'
      rw [bcase] at h''
      rcases List.mem_cons.1 hp with rfl | hp
      · rw [eqD_eq h''.1]; exact hg
      · exact thereD_iff h''.2 p hp
noncomputable def eqT (a b : V) : Bool := V.casesOn a (eq3 a b) (fun _ => eq3 a b) (fun _ => eq3 a b) (fun _ => eq3 a b) (fun _ _ => eq3 a b) (fun _ _ => eq3 a b) (fun _ _ => eq3 a b) (eq3 a b) (fun _ _ _ _ _ _ => eq3 a b) (eq3 a b) (fun _ => eq3 a b) (eq3 a b) (fun _ _ _ => eq3 a b) (eq3 a b) (fun _ _ => eq3 a b) (eq3 a b) (fun _ => eq3 a b)
  (fun l => V.casesOn b false (fun _ => false) (fun _ => false) (fun _ => false) (fun _ _ => false) (fun _ _ => false) (fun _ _ => false) false (fun _ _ _ _ _ _ => false) false (fun _ => false) false (fun _ _ _ => false) false (fun _ _ => false) false (fun _ => false) (fun r => eqL3 l r))
theorem eqT_eq {a b : V} (h : eqT a b = true) : a = b := by
  cases a <;> first | exact eq3_eq h | skip
  rename_i l
  cases b <;> first | cases h | skip
  exact congrArg V.tup (eqL3_eq h)
noncomputable def inDom (b : Nat) (l : List (Nat × Blk)) : Bool := List.rec (motive := fun _ => Bool) false (fun p _ ih => Prod.casesOn p fun c _ => Bool.casesOn (Nat.beq b c) ih true) l
theorem inDom_cons (b c : Nat) (x : Blk) (l : List (Nat × Blk)) : inDom b ((c, x) :: l) = Bool.casesOn (Nat.beq b c) (inDom b l) true := rfl
theorem inDom_iff {b : Nat} : ∀ {l : List (Nat × Blk)}, inDom b l = true ↔ ∃ p ∈ l, p.1 = b
  | [] => by simp [inDom]
  | (c, x) :: l => by
    rw [inDom_cons, beq_eq]
    by_cases e : b = c
    · subst e; simp
    · rw [decide_eq_false e]
      show inDom b l = true ↔ _
      rw [inDom_iff]
      simp [Ne.symm e]
/-- the blocks that stay as they are -/
noncomputable def stays (post : List (Nat × Blk)) (pre : List (Nat × Blk)) : List (Nat × Blk) := List.rec (motive := fun _ => List (Nat × Blk)) .nil (fun p _ ih => Prod.casesOn p fun b x => Bool.casesOn (inDom b post) (.cons (b, x) ih) ih) pre
theorem stays_mem {post : List (Nat × Blk)} {b : Nat} {x : Blk} (hn : inDom b post = false) : ∀ {pre : List (Nat × Blk)}, (b, x) ∈ pre → (b, x) ∈ stays post pre
  | [], h => by cases h
  | (c, y) :: pre, h => by
    have e : stays post ((c, y) :: pre) = Bool.casesOn (inDom c post) ((c, y) :: stays post pre) (stays post pre) := rfl
    rw [e]
    rcases List.mem_cons.1 h with h | h
    · cases h; rw [hn]; exact List.mem_cons_self
    · cases inDom c post with
      | false => exact List.mem_cons_of_mem _ (stays_mem hn h)
      | true => exact stays_mem hn h
noncomputable def chkTold (s : Told) (r : A) : Bool := Option.casesOn r false fun p => Prod.casesOn p fun v h => H.casesOn h fun n t => Bool.casesOn (eqT s.v v) false (Bool.casesOn (Nat.beq s.n1 n) false (Bool.casesOn (thereD t s.post) false (thereD t (stays s.post s.pre))))
def wfTold (s : Told) : Bool := Nat.ble s.n s.n1 && s.post.all (fun p => Nat.ble s.n p.1 || s.pre.any fun q => Nat.beq q.1 p.1) && s.pre.all fun p => Nat.blt p.1 s.n && (match p.2 with | .dead => false | _ => true)
theorem Told.ok {P : Program} {f : Nat} {s : Told} {F : Sm → List V → H → A} {S : Sm} (hF : FSnd P f F) (hS : SOK P S) (hw : wfTold s = true) (hc : chkTold s (F S s.args s.h0) = true) : s.OK P f := by
  unfold wfTold at hw
  rw [Bool.and_eq_true, Bool.and_eq_true, ble_eq] at hw
  obtain ⟨⟨w1, w2⟩, w3⟩ := hw
  have w1 : s.n ≤ s.n1 := of_decide_eq_true w1
  have w2 : ∀ p ∈ s.post, p.1 < s.n → ∃ q ∈ s.pre, q.1 = p.1 := by
    intro p hp hlt
    have := List.all_eq_true.1 w2 p hp
    rw [Bool.or_eq_true, ble_eq] at this
    rcases this with h | h
    · have := of_decide_eq_true h; omega
    · obtain ⟨q, hq, h2⟩ := List.any_eq_true.1 h
      exact ⟨q, hq, Nat.eq_of_beq_eq_true h2⟩
  have w3 : ∀ p ∈ s.pre, p.1 < s.n ∧ live p.2 = true := by
    intro p hp
    have := List.all_eq_true.1 w3 p hp
    rw [Bool.and_eq_true] at this
    refine ⟨Nat.le_of_ble_eq_true this.1, ?_⟩
    have h2 := this.2
    cases hp2 : p.2 <;> rw [hp2] at h2 <;> first | rfl | cases h2
  have pre_get : ∀ b x, s.h0.get b = some x → (b, x) ∈ s.pre := by
    intro b x hb
    have hb' : (sets s.pre .lf).get b = some x := hb
    rw [sets_get] at hb'
    cases hf : s.pre.find? (fun p => p.1 == b) with
    | none => rw [hf] at hb'; cases hb'
    | some p =>
      rw [hf] at hb'
      cases hb'
      have h1 := List.find?_some hf
      rw [beq_iff_eq] at h1
      rw [← h1]; exact List.mem_of_find?_eq_some hf
  refine ⟨w1, w2, ?_⟩
  cases hr : F S s.args s.h0 with
  | none => rw [hr] at hc; cases hc
  | some p =>
    obtain ⟨v, hp⟩ := p
    cases hp with
    | mk n t =>
      rw [hr] at hc
      have hc' : (Bool.casesOn (eqT s.v v) false (Bool.casesOn (Nat.beq s.n1 n) false (Bool.casesOn (thereD t s.post) false (thereD t (stays s.post s.pre)))) : Bool) = true := hc
      rw [bcase, bcase, bcase, beq_eq] at hc'
      obtain ⟨c1, c2, c3, c4⟩ := hc'
      have c2 : s.n1 = n := of_decide_eq_true c2
      have hv := eqT_eq c1
      subst hv c2
      have post_get : ∀ b p, s.post.find? (fun p => p.1 == b) = some p → t.get b = some p.2 := by
        intro b p hf
        have h1 := List.find?_some hf
        rw [beq_iff_eq] at h1
        rw [← h1]; exact thereD_iff c3 p (List.mem_of_find?_eq_some hf)
      refine (hF S hS s.args s.h0 s.v (H.mk s.n1 t) hr).frame ⟨rfl, rfl, w1, fun b x hb => ⟨hb, (w3 _ (pre_get b x hb)).2⟩, ?_, ?_, ?_⟩
      · intro b x hb h0b
        show (sets s.post (sets s.pre .lf)).get b = t.get b
        rw [sets_get]
        cases hf : s.post.find? (fun p => p.1 == b) with
        | some p => exact (post_get b p hf).symm
        | none =>
          show (sets s.pre .lf).get b = t.get b
          have hnd : inDom b s.post = false := by
            cases hq : inDom b s.post with
            | false => rfl
            | true =>
              obtain ⟨p, hp, e⟩ := inDom_iff.1 hq
              have := List.find?_eq_none.1 hf p hp
              rw [e] at this; simp at this
          have := thereD_iff c4 _ (stays_mem hnd (pre_get b x h0b))
          exact h0b.trans this.symm
      · intro b hb h0b
        show (sets s.post (sets s.pre .lf)).get b = (sets s.pre .lf).get b
        rw [sets_get]
        cases hf : s.post.find? (fun p => p.1 == b) with
        | none => rfl
        | some p =>
          exfalso
          have h1 := List.find?_some hf
          rw [beq_iff_eq] at h1
          obtain ⟨q, hq, hqb⟩ := w2 p (List.mem_of_find?_eq_some hf) (by rw [h1]; exact hb)
          have h0b' : (sets s.pre .lf).get b = none := h0b
          rw [sets_get] at h0b'
          cases hf2 : s.pre.find? (fun p => p.1 == b) with
          | some _ => rw [hf2] at h0b'; cases h0b'
          | none =>
            have := List.find?_eq_none.1 hf2 q hq
            rw [hqb, h1] at this
            simp at this
      · intro _ b x hb hgx
        have hgx' : (sets s.post (sets s.pre .lf)).get b = some x := hgx
        show t.get b = some x
        rw [sets_get] at hgx'
        cases hf : s.post.find? (fun p => p.1 == b) with
        | some p => rw [hf] at hgx'; rw [post_get b p hf]; exact hgx'
        | none =>
          rw [hf] at hgx'
          have := (w3 _ (pre_get b x hgx')).1
          have hb' : s.n ≤ b := hb
          have : b < s.n := this
          omega
/-- a call without arguments that returns a bool and reads no memory that was there: it may be told in every memory -/
theorem Snd.alone {P : Program} {f : Nat} {b : Bool} {h1 : H} {n0 : Nat} (hS : Snd P f [] (H.mk n0 .lf) (.bool b) h1) (hn0 : P.globals.size ≤ n0) (hn : n0 ≤ P.globals.size) (h : H) : Snd P f [] h (.bool b) h := by
  intro ι w cargs hr ha hg
  let ι0 : Inj := fun c => if c < n0 then ι c else none
  have hι : ∀ c, c < n0 → ι0 c = ι c := fun c hc => by simp [ι0, hc]
  have hsome : ∀ c L, ι0 c = some L → ι c = some L ∧ c < n0 := fun c L hc => by
    by_cases e : c < n0
    · rw [hι c e] at hc; exact ⟨hc, e⟩
    · simp [ι0, e] at hc
  have hnone : ∀ c, (H.mk n0 .lf).get c = none := fun c => T.get_lf c
  have hr0 : HR P ι0 (H.mk n0 .lf) w := by
    refine ⟨fun c hc => ?_, fun c L hc => hr.lt c L (hsome c L hc).1, fun c L x _ hx => ?_, fun c c' L L' x x' _ _ _ hx => ?_, fun c _ => hnone c⟩
    · have hc' : n0 ≤ c := hc
      simp only [ι0]
      rw [if_neg (by omega)]
    · rw [hnone] at hx; cases hx
    · rw [hnone] at hx; cases hx
  refine (hS ι0 w cargs hr0 ha fun g hgl => by rw [hι g (by omega)]; exact hg g hgl).mono ?_
  rintro ex w' ⟨cv, ι', rfl, hv, hr1, hx⟩
  have hkeep : ∀ c, c < w.heap.size → w'.heap[c]? = w.heap[c]? := fun c hc => hx.keep c hc fun d L x _ hg2 => by rw [hnone] at hg2; cases hg2
  refine ⟨cv, ι, rfl, by simp only [VR] at hv ⊢; exact hv, ⟨hr.dom, fun c L hc => Nat.lt_of_lt_of_le (hr.lt c L hc) hx.size, fun c L x hc hg2 => (hr.blk c L x hc hg2).same (Sub.refl _) (hkeep _ (hr.lt c L hc)), hr.apart, hr.wf⟩, ?_⟩
  exact ⟨Sub.refl _, Nat.le_refl _, fun c x _ h2 h3 => ⟨x, h2, h3⟩, hx.os, hx.tape, hx.output, hx.size, fun c hc _ => hkeep c hc, fun _ _ _ => rfl, fun c L h2 h3 => by rw [h2] at h3; cases h3⟩
/-- such a call, told in every memory -/
noncomputable def quiet (F : Sm → List V → H → A) (S : Sm) (args : List V) (h : H) : A := List.casesOn args (some (.bool true, h)) (fun _ _ => F S args h)
theorem quiet_snd {P : Program} {f : Nat} {F : Sm → List V → H → A} (hF : FSnd P f F) (hq : ∀ h, Snd P f [] h (.bool true) h) : FSnd P f (quiet F) := by
  intro S hS args h v h' hh
  cases args with
  | nil =>
    have : some (V.bool true, h) = some (v, h') := hh
    cases this; exact hq h
  | cons a r => exact hF S hS _ h v h' hh
end GoEv
namespace GoEv
open Go (IntKind Value)

section
variable {K : V → H → A} {h : H}
theorem un_c (v : V) (l : List V) (K : V → List V → A) : un (v :: l) K = K v l := rfl
theorem nl_n (K : A) : nl [] K = K := rfl
theorem toI_i (n : Int) (K : Int → A) : toI (.i n) K = K n := rfl
theorem toZ_i (n : Int) (K : Int → A) : toZ (.i n) K = K n := rfl
theorem toB_b (b : Bool) (K : Bool → A) : toB (.bool b) K = K b := rfl
theorem toS_s (l n : Nat) (K : Nat → Nat → A) : toS (.str l n) K = K l n := rfl
theorem toP_p (b o : Nat) (K : Nat → Nat → A) : toP (.ptr b o) K = K b o := rfl
theorem toA_a (l : List V) (K : List V → A) : toA (.agg l) K = K l := rfl
theorem toF_f (f : Nat) (a b : List V) (K : Nat → List V → List V → A) : toF (.fn f a b) K = K f a b := rfl
theorem cl_s (v : V) (h : H) (K : V → H → A) : cl (some (v, h)) K = K v h := rfl
theorem jn_e (f : List V → H → A) (K : (List V → H → A) → A) : jn f K = K f := rfl
theorem cnd_t (x y : A) : cnd true x y = x := rfl
theorem cnd_f (x y : A) : cnd false x y = y := rfl
theorem grd_tt (h : H) (R : (V → H → A) → A) (K : V → H → A) : grd (.bool true) true h R K = R K := rfl
theorem grd_ft (h : H) (R : (V → H → A) → A) (K : V → H → A) : grd (.bool false) true h R K = K (.tup []) h := rfl
theorem grd_tf (h : H) (R : (V → H → A) → A) (K : V → H → A) : grd (.bool true) false h R K = K (.tup []) h := rfl
theorem grd_ff (h : H) (R : (V → H → A) → A) (K : V → H → A) : grd (.bool false) false h R K = R K := rfl
theorem pkV_t (a b : V) : pkV true a b = a := rfl
theorem pkV_f (a b : V) : pkV false a b = b := rfl
theorem ln_nils (K : Int → A) : ln .nils K = K 0 := rfl
theorem ln_sl (b o l c s : Nat) (k : Bool) (K : Int → A) : ln (.sl b o l c s k) K = K (l : Int) := by
  show fN l (fun l => K (Int.ofNat l)) = _
  rw [fN_eq]; rfl
theorem lp_succ (n : Nat) (B : (List V → H → A) → List V → H → A) (l : List V) (h : H) : lp (n + 1) B l h = B (lp n B) l h := rfl
theorem nz_of {z : Int} {K : A} (h : z ≠ 0) : nz z K = K := by
  unfold nz
  rw [eqZ_eq]
  have : (z == Int.ofNat 0) = false := by simp; exact h
  rw [this]
theorem bW64_of {z : Int} {K : Int → A} (h1 : -9223372036854775808 ≤ z) (h2 : z ≤ 9223372036854775807) : bW64 z K = K z := by rw [bW64_eq, wrap_i64 z h1 h2]
theorem gB_of {b : Nat} {ro : Bool} {fz : Nat} {l : List V} {K : Bool → Nat → List V → A} (hg : h.get b = some (.cells ro fz l)) (hb : b < h.n) : gB h b K = K ro fz l := by
  cases h with
  | mk n t =>
    show (Bool.casesOn (Nat.ble (Nat.succ b) n) none (Option.casesOn (T.get t b) none (fun x => Blk.casesOn x K (fun _ => none) none)) : A) = _
    have h1 : Nat.ble (Nat.succ b) n = true := Nat.ble_eq_true_of_le hb
    have h2 : T.get t b = some (.cells ro fz l) := hg
    rw [h1, h2]
theorem ld_of {b o : Nat} {ro : Bool} {fz : Nat} {l : List V} {v : V} {K : V → A} (hg : h.get b = some (.cells ro fz l)) (hb : b < h.n) (hv : l[o]? = some v) : ld h b o K = K v := by
  unfold ld
  rw [gB_of hg hb, nth_eq, hv]; rfl
theorem ldN_of {b o n : Nat} {ro : Bool} {fz : Nat} {l : List V} {K : List V → A} (hg : h.get b = some (.cells ro fz l)) (hb : b < h.n) (hn : o + n ≤ l.length) : ldN h b o n K = K ((l.drop o).take n) := by
  unfold ldN
  rw [gB_of hg hb]
  unfold tkc
  rw [len_eq, takeN_eq, dropN_eq]
  have : ((l.drop o).take n).length = n := by simp; omega
  rw [this]
  have h1 : Nat.beq n n = true := by rw [beq_eq]; simp
  rw [h1]
theorem ldN_all {b n : Nat} {ro : Bool} {fz : Nat} {l : List V} {K : List V → A} (hg : h.get b = some (.cells ro fz l)) (hb : b < h.n) (hn : l.length = n) : ldN h b 0 n K = K l := by
  rw [ldN_of hg hb (by omega)]
  rw [List.drop_zero, List.take_of_length_le (by omega)]
theorem pB_e (b : Nat) (x : Blk) (K : H → A) : pB h b x K = K (h.put b x) := pB_eq h b x K
theorem st_of {b o : Nat} {fz : Nat} {l : List V} {v : V} {K : H → A} (hg : h.get b = some (.cells false fz l)) (hb : b < h.n) (h1 : isOne v = true) (ho : o < l.length) : st h b o v K = K (h.put b (.cells false fz (l.set o v))) := by
  unfold st
  rw [gB_of hg hb]
  show oneL v (setO v l o fun l' => pB h b (.cells false fz l') K) = _
  have h2 : ∀ (K : List V → A), setO v l o K = K (l.set o v) := by
    intro K
    clear hg
    induction l generalizing o K with
    | nil => simp at ho
    | cons a l ih =>
      cases o with
      | zero => rfl
      | succ o => exact ih (by simpa using ho) _
  have h3 : ∀ (K : A), oneL v K = K := by intro K; cases v <;> first | rfl | cases h1
  rw [h3, h2, pB_eq]
theorem stN_all {b n : Nat} {fz : Nat} {l vs : List V} {K : H → A} (hg : h.get b = some (.cells false fz l)) (hb : b < h.n) (hl : l.length = n) (hv : vs.length = n) : stN h b 0 n vs K = K (h.put b (.cells false fz vs)) := by
  unfold stN
  rw [len_eq, hv]
  have h1 : Nat.beq n n = true := by rw [beq_eq]; simp
  rw [h1]
  unfold stL
  rw [gB_of hg hb]
  show smc 0 vs l (fun l' => pB h b (.cells false fz l') K) = _
  unfold smc
  rw [len_eq, len_eq, setMany_eq, hl, hv]
  have h2 : Nat.ble (Nat.add 0 n) n = true := Nat.ble_eq_true_of_le (by show 0 + n ≤ n; omega)
  rw [h2]
  show pB h b _ K = _
  have h3 : l.drop n = [] := List.drop_eq_nil_of_le (by omega)
  rw [pB_eq]
  simp [h3]
theorem stN_at {b o n : Nat} {fz : Nat} {l vs : List V} {K : H → A} (hg : h.get b = some (.cells false fz l)) (hb : b < h.n) (hl : o + n ≤ l.length) (hv : vs.length = n) : stN h b o n vs K = K (h.put b (.cells false fz (l.take o ++ (vs ++ l.drop (o + n))))) := by
  unfold stN
  rw [len_eq, hv]
  have h1 : Nat.beq n n = true := by rw [beq_eq]; simp
  rw [h1]
  unfold stL
  rw [gB_of hg hb]
  show smc o vs l (fun l' => pB h b (.cells false fz l') K) = _
  unfold smc
  rw [len_eq, len_eq, setMany_eq, hv]
  have h2 : Nat.ble (Nat.add o n) l.length = true := Nat.ble_eq_true_of_le hl
  rw [h2]
  show pB h b _ K = _
  rw [pB_eq]
theorem lnc_of {l : List V} {n : Nat} {K : A} (hn : l.length = n) : lnc l n K = K := by
  unfold lnc
  rw [len_eq, hn]
  have h1 : Nat.beq n n = true := by rw [beq_eq]; simp
  rw [h1]
theorem smc_of {o : Nat} {vs l : List V} {K : List V → A} (hn : o + vs.length ≤ l.length) : smc o vs l K = K (l.take o ++ (vs ++ l.drop (o + vs.length))) := by
  unfold smc
  rw [len_eq, len_eq, setMany_eq]
  have h2 : Nat.ble (Nat.add o vs.length) l.length = true := Nat.ble_eq_true_of_le hn
  rw [h2]
theorem smc_all {vs l : List V} {K : List V → A} (hn : vs.length = l.length) : smc 0 vs l K = K vs := by
  rw [smc_of (by omega)]
  simp [hn]
theorem ix_of {b o l c s sz : Nat} {k : Bool} {i : Nat} {K : Nat → Nat → A} (hi : i < l) : ix (.sl b o l c s k) sz (i : Int) K = K b (o + i * sz) := by
  show (Bool.casesOn (Nat.ble (Nat.succ i) l) none (K b (Nat.add o (Nat.mul i sz))) : A) = _
  have h2 : Nat.ble (Nat.succ i) l = true := Nat.ble_eq_true_of_le hi
  rw [h2]; rfl
theorem apd_nils {b o n c s : Nat} {k : Bool} {ro : Bool} {fz sz ty : Nat} {cs : List V} {K : V → H → A} (hg : h.get b = some (.cells ro fz cs)) (hb : b < h.n) (hn : o + n * sz ≤ cs.length) (h0 : 0 < n) (hs : n ≤ 4294967296) :
    apd h .nils (.sl b o n c s k) sz ty K = K (.sl h.n 0 n n sz false) (h.push (.cells false ty ((cs.drop o).take (n * sz)))) := by
  show gB h b (fun _ _ cs => tkc cs o (Nat.mul n sz) (fun new => apd2 h .nils sz ty n new K)) = _
  rw [gB_of hg hb]
  unfold tkc
  rw [len_eq, takeN_eq, dropN_eq]
  have h3 : Nat.mul n sz = n * sz := rfl
  have : ((cs.drop o).take (n * sz)).length = n * sz := by simp; omega
  rw [h3, this]
  have h1 : Nat.beq (n * sz) (n * sz) = true := by rw [beq_eq]; simp
  rw [h1]
  show (Bool.casesOn (Nat.ble n 4294967296) none (Nat.casesOn n (K .nils h) (fun _ => al h ty _ fun b' h => K (.sl b' 0 n n sz false) h)) : A) = _
  rw [Nat.ble_eq_true_of_le hs]
  cases n with
  | zero => omega
  | succ n => exact al_eq _ _ _ _
theorem apd2_sl {b' l' n sz ty : Nat} {cs' new : List V} {K : V → H → A} (h0 : 0 < n) (hg' : h.get b' = some (.cells false ty cs')) (hb' : b' < h.n) (hl : l' * sz ≤ cs'.length) (hs : l' + n ≤ 4294967296) :
    apd2 h (.sl b' 0 l' l' sz false) sz ty n new K = K (.sl h.n 0 (l' + n) (l' + n) sz false) ((h.put b' .dead).push (.cells false ty (cs'.take (l' * sz) ++ new))) := by
  cases n with
  | zero => omega
  | succ n =>
    show (Bool.casesOn (Nat.ble (n + 1) 4294967296) none (Bool.casesOn (Nat.beq sz sz) none (gB h b' fun ro t cs => fN (Nat.add l' (n + 1)) fun need =>
        Bool.casesOn (Nat.ble need l')
          (tkc cs 0 (Nat.mul l' sz) fun old => Bool.casesOn (Nat.ble need 4294967296) none
            (Bool.casesOn ro (Bool.casesOn (Nat.beq t ty) none (Bool.casesOn (Nat.beq (Nat.mod 0 sz) 0) none (pB h b' .dead fun h => al h ty (app old new) fun b' h => K (.sl b' 0 need need sz false) h))) none))
          (wr ro (smc (Nat.add 0 (Nat.mul l' sz)) new cs fun cs' => pB h b' (.cells ro t cs') fun h => K (.sl b' 0 need l' sz false) h)))) : A) = _
    have h4 : Nat.beq sz sz = true := by rw [beq_eq]; simp
    rw [Nat.ble_eq_true_of_le (show n + 1 ≤ 4294967296 by omega), h4]
    show gB h b' _ = _
    rw [gB_of hg' hb', fN_eq]
    have h5 : Nat.ble (Nat.add l' (n + 1)) l' = false := by
      rw [ble_eq]; exact decide_eq_false (by show ¬ l' + (n + 1) ≤ l'; omega)
    rw [h5]
    show tkc cs' 0 (Nat.mul l' sz) _ = _
    unfold tkc
    rw [len_eq, takeN_eq, dropN_eq]
    have h6 : Nat.mul l' sz = l' * sz := rfl
    have h7 : ((cs'.drop 0).take (l' * sz)).length = l' * sz := by simp; omega
    rw [h6, h7]
    have h8 : Nat.beq (l' * sz) (l' * sz) = true := by rw [beq_eq]; simp
    rw [h8]
    show (Bool.casesOn (Nat.ble (l' + (n + 1)) 4294967296) none _ : A) = _
    rw [Nat.ble_eq_true_of_le hs]
    show (Bool.casesOn (Nat.beq ty ty) none (Bool.casesOn (Nat.beq (Nat.mod 0 sz) 0) none _) : A) = _
    have h9 : Nat.beq ty ty = true := by rw [beq_eq]; simp
    have h10 : Nat.beq (Nat.mod 0 sz) 0 = true := by
      have : Nat.mod 0 sz = 0 % sz := rfl
      rw [this, Nat.zero_mod]; rfl
    rw [h9, h10]
    show pB h b' .dead _ = _
    rw [pB_eq, al_eq, app_eq, H.n_put]
    rfl
theorem apd_sl {b' l' : Nat} {b o n c s : Nat} {k : Bool} {ro : Bool} {fz sz ty : Nat} {cs cs' : List V} {K : V → H → A} (hg : h.get b = some (.cells ro fz cs)) (hb : b < h.n) (hn : o + n * sz ≤ cs.length) (h0 : 0 < n)
    (hg' : h.get b' = some (.cells false ty cs')) (hb' : b' < h.n) (hl : l' * sz ≤ cs'.length) (hs : l' + n ≤ 4294967296) :
    apd h (.sl b' 0 l' l' sz false) (.sl b o n c s k) sz ty K = K (.sl h.n 0 (l' + n) (l' + n) sz false) ((h.put b' .dead).push (.cells false ty (cs'.take (l' * sz) ++ (cs.drop o).take (n * sz)))) := by
  show gB h b (fun _ _ cs => tkc cs o (Nat.mul n sz) (fun new => apd2 h (.sl b' 0 l' l' sz false) sz ty n new K)) = _
  rw [gB_of hg hb]
  unfold tkc
  rw [len_eq, takeN_eq, dropN_eq]
  have h3 : Nat.mul n sz = n * sz := rfl
  have : ((cs.drop o).take (n * sz)).length = n * sz := by simp; omega
  rw [h3, this]
  have h1 : Nat.beq (n * sz) (n * sz) = true := by rw [beq_eq]; simp
  rw [h1]
  exact apd2_sl h0 hg' hb' hl hs
theorem H.get_put_self (h : H) (b : Nat) (x : Blk) : (h.put b x).get b = some x := by rw [H.get_put, if_pos rfl]
theorem H.get_put_ne {b c : Nat} (h : H) (x : Blk) (hc : c ≠ b) : (h.put b x).get c = h.get c := by rw [H.get_put, if_neg hc]
theorem H.get_push_self (h : H) (x : Blk) : (h.push x).get h.n = some x := by rw [H.get_push, if_pos rfl]
theorem H.get_push_lt {c : Nat} (h : H) (x : Blk) (hc : c < h.n) : (h.push x).get c = h.get c := by rw [H.get_push, if_neg (by omega)]
end
end GoEv
