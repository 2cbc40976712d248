/- How the abstract machine stands to the model's memory; loads, stores, integers and strings are sound. -/
import Derived.Test.YtdgaheekfeomoaaGreatDoorEvC
import Derived.Below
import Derived.Deep.MidRow
import Derived.Laws.Append
import Derived.Laws.Entries
import Derived.Laws.NewBlocks
import Derived.Laws.Slices
import Derived.Laws.Strings
import Derived.Laws.Strings2
import Derived.LaidEql
set_option linter.unusedVariables false
set_option linter.unusedSimpArgs false
namespace GoEv
open Go (IntKind Value World Addr MapEntry Program)
open Go.RowKit (Below)

structure Loc where
  cb : Nat
  base : Nat
  room : Nat
abbrev Inj := Nat → Option Loc
def Sub (ι ι' : Inj) : Prop := ∀ b L, ι b = some L → ι' b = some L
theorem Sub.refl (ι : Inj) : Sub ι ι := fun _ _ h => h
theorem Sub.trans {a b c : Inj} (h : Sub a b) (h' : Sub b c) : Sub a c := fun _ _ x => h' _ _ (h _ _ x)

def SR (l n : Nat) (s : ByteArray) : Prop := s.data.toList.length = l ∧ bn s.data.toList = n

mutual
def VR (ι : Inj) : V → Value → Prop
  | .undef, _ => True
  | .bool b, v => v = .bool b
  | .i n, v => v = .int .i64 n
  | .u8 n, v => v = .int .u8 n
  | .int k n, v => v = .int k n
  | .str l n, v => ∃ s, v = .string s ∧ SR l n s
  | .ptr b o, v => ∃ L, ι b = some L ∧ v = .pointer (some ⟨L.cb, L.base + o, none⟩)
  | .nilp, v => v = .pointer none
  | .sl b o len cap sz ck, v => ∃ L c off, ι b = some L ∧ v = .slice (some ⟨L.cb, off, none⟩) len c ∧ (off = L.base + o ∨ c = 0) ∧ o + c * sz ≤ L.room ∧ len ≤ cap ∧ cap ≤ c ∧ (ck = true → c = cap)
  | .nils, v => v = .slice none 0 0
  | .map b, v => ∃ L, ι b = some L ∧ v = .map (some L.cb)
  | .nilm, v => v = .map none
  | .fn f a b, v => ∃ a' b', v = .func (.func f) a' b' ∧ VRs ι a a'.toList ∧ VRs ι b b'.toList
  | .nilf, v => v = .nilFunc
  | .iface t x, v => ∃ y, v = .iface t y ∧ VR ι x y
  | .nili, v => v = .nilIface
  | .agg l, v => ∃ c, v = .agg c ∧ VRs ι l c.toList ∧ ∀ x ∈ c.toList, x.oneCell' = true
  | .tup l, v => ∃ c, v = .tuple c ∧ VRs ι l c.toList
def VRs (ι : Inj) : List V → List Value → Prop
  | [], l => l = []
  | a :: r, l => ∃ x xs, l = x :: xs ∧ VR ι a x ∧ VRs ι r xs
end

mutual
theorem VR.mono {ι ι' : Inj} (hs : Sub ι ι') : ∀ (v : V) (c : Value), VR ι v c → VR ι' v c
  | .undef, _, h => by simp only [VR]
  | .bool b, _, h => by simp only [VR] at *; exact h
  | .i n, _, h => by simp only [VR] at *; exact h
  | .u8 n, _, h => by simp only [VR] at *; exact h
  | .int k n, _, h => by simp only [VR] at *; exact h
  | .str l n, _, h => by simp only [VR] at *; exact h
  | .ptr b o, _, h => by simp only [VR] at *; obtain ⟨L, h1, h2⟩ := h; exact ⟨L, hs _ _ h1, h2⟩
  | .nilp, _, h => by simp only [VR] at *; exact h
  | .sl b o len cap sz ck, _, h => by simp only [VR] at *; obtain ⟨L, c, off, h1, h2⟩ := h; exact ⟨L, c, off, hs _ _ h1, h2⟩
  | .nils, _, h => by simp only [VR] at *; exact h
  | .map b, _, h => by simp only [VR] at *; obtain ⟨L, h1, h2⟩ := h; exact ⟨L, hs _ _ h1, h2⟩
  | .nilm, _, h => by simp only [VR] at *; exact h
  | .fn f a b, _, h => by simp only [VR] at *; obtain ⟨a', b', h1, h2, h3⟩ := h; exact ⟨a', b', h1, VRs.mono hs a _ h2, VRs.mono hs b _ h3⟩
  | .nilf, _, h => by simp only [VR] at *; exact h
  | .iface t x, _, h => by simp only [VR] at *; obtain ⟨y, h1, h2⟩ := h; exact ⟨y, h1, VR.mono hs x _ h2⟩
  | .nili, _, h => by simp only [VR] at *; exact h
  | .agg l, _, h => by simp only [VR] at *; obtain ⟨c, h1, h2, h3⟩ := h; exact ⟨c, h1, VRs.mono hs l _ h2, h3⟩
  | .tup l, _, h => by simp only [VR] at *; obtain ⟨c, h1, h2⟩ := h; exact ⟨c, h1, VRs.mono hs l _ h2⟩
theorem VRs.mono {ι ι' : Inj} (hs : Sub ι ι') : ∀ (v : List V) (c : List Value), VRs ι v c → VRs ι' v c
  | [], _, h => by simp only [VRs] at *; exact h
  | a :: r, _, h => by simp only [VRs] at *; obtain ⟨x, xs, h1, h2, h3⟩ := h; exact ⟨x, xs, h1, VR.mono hs a _ h2, VRs.mono hs r _ h3⟩
end

theorem VRs.length {ι : Inj} : ∀ {l : List V} {c : List Value}, VRs ι l c → c.length = l.length
  | [], c, h => by simp only [VRs] at h; subst h; rfl
  | a :: r, c, h => by simp only [VRs] at h; obtain ⟨x, xs, rfl, _, h3⟩ := h; simp [VRs.length h3]
theorem VRs.get {ι : Inj} : ∀ {l : List V} {c : List Value} (h : VRs ι l c) (i : Nat) (v : V), l[i]? = some v → ∃ x, c[i]? = some x ∧ VR ι v x
  | [], c, h, i, v, hv => by simp at hv
  | a :: r, c, h, i, v, hv => by
    simp only [VRs] at h; obtain ⟨x, xs, rfl, h2, h3⟩ := h
    cases i with
    | zero => simp at hv; subst hv; exact ⟨x, rfl, h2⟩
    | succ i => exact VRs.get h3 i v (by simpa using hv)
theorem VRs.of {ι : Inj} : ∀ {l : List V} {c : List Value}, c.length = l.length → (∀ (i : Nat) (v : V) (x : Value), l[i]? = some v → c[i]? = some x → VR ι v x) → VRs ι l c
  | [], c, h, _ => by simp only [VRs]; exact List.length_eq_zero_iff.1 (by simpa using h)
  | a :: r, [], h, _ => by simp at h
  | a :: r, x :: xs, h, hh => by
    simp only [VRs]
    exact ⟨x, xs, rfl, hh 0 a x rfl rfl, VRs.of (by simpa using h) fun i v y h1 h2 => hh (i + 1) v y (by simpa using h1) (by simpa using h2)⟩
theorem VRs.append {ι : Inj} : ∀ {l r : List V} {c d : List Value}, VRs ι l c → VRs ι r d → VRs ι (l ++ r) (c ++ d)
  | [], r, c, d, h, h' => by simp only [VRs] at h; subst h; exact h'
  | a :: l, r, c, d, h, h' => by
    simp only [VRs] at h; obtain ⟨x, xs, rfl, h2, h3⟩ := h
    show VRs ι (a :: (l ++ r)) (x :: (xs ++ d))
    simp only [VRs]; exact ⟨x, xs ++ d, rfl, h2, VRs.append h3 h'⟩
theorem VRs.take {ι : Inj} : ∀ (n : Nat) {l : List V} {c : List Value}, VRs ι l c → VRs ι (l.take n) (c.take n)
  | 0, l, c, h => by simp [VRs]
  | n + 1, [], c, h => by simp only [VRs] at h; subst h; simp [VRs]
  | n + 1, a :: l, c, h => by
    simp only [VRs] at h; obtain ⟨x, xs, rfl, h2, h3⟩ := h
    simp only [List.take_succ_cons, VRs]; exact ⟨x, _, rfl, h2, VRs.take n h3⟩
theorem VRs.drop {ι : Inj} : ∀ (n : Nat) {l : List V} {c : List Value}, VRs ι l c → VRs ι (l.drop n) (c.drop n)
  | 0, l, c, h => by simpa using h
  | n + 1, [], c, h => by simp only [VRs] at h; subst h; simp [VRs]
  | n + 1, a :: l, c, h => by
    simp only [VRs] at h; obtain ⟨x, xs, rfl, h2, h3⟩ := h
    simpa using VRs.drop n h3
theorem VRs.cons {ι : Inj} {a : V} {r : List V} {x : Value} {xs : List Value} (h : VR ι a x) (h' : VRs ι r xs) : VRs ι (a :: r) (x :: xs) := by
  simp only [VRs]; exact ⟨x, xs, rfl, h, h'⟩
theorem VRs.nil {ι : Inj} : VRs ι [] [] := by simp [VRs]

theorem VR.mkI {ι : Inj} {k : IntKind} {n : Int} {v : Value} : VR ι (GoEv.mkI k n) v ↔ v = .int k n := by
  cases k <;> simp only [GoEv.mkI, VR]

/-- A value of one cell. -/
theorem VR.one {ι : Inj} {v : V} {c : Value} (h1 : isOne v = true) (h : VR ι v c) : c.oneCell' = true ∧ c.cells = #[c] := by
  cases v <;> simp only [isOne] at h1 <;> first | cases h1 | skip
  all_goals (simp only [VR] at h)
  all_goals first
    | (subst h; exact ⟨rfl, rfl⟩)
    | (obtain ⟨_, rfl, _⟩ := h; exact ⟨rfl, rfl⟩)
    | (obtain ⟨_, _, rfl⟩ := h; exact ⟨rfl, rfl⟩)
    | (obtain ⟨_, _, _, _, rfl, _⟩ := h; exact ⟨rfl, rfl⟩)
    | (obtain ⟨_, _, rfl, _⟩ := h; exact ⟨rfl, rfl⟩)

/-! ### memory -/
def own : Blk → Bool
  | .cells ro fz _ => !ro || !Nat.beq fz 0
  | .map _ => true
  | .dead => false
def live : Blk → Bool
  | .dead => false
  | _ => true
def MR (ι : Inj) (es : List (V × V)) (mes : List MapEntry) : Prop :=
  mes.length = es.length ∧ ∀ (i : Nat) (p : V × V) (m : MapEntry), es[i]? = some p → mes[i]? = some m → VR ι p.1 m.key ∧ VR ι p.2 m.val
def BR (P : Program) (ι : Inj) : Blk → Loc → World → Prop
  | .cells ro fz l, L, w =>
    (∀ i v, l[i]? = some v → ∃ cv, w.cell? ⟨L.cb, L.base + i, none⟩ = some cv ∧ VR ι v cv) ∧ l.length ≤ L.room ∧
    (∀ i, i < L.room → ∃ cv, w.cell? ⟨L.cb, L.base + i, none⟩ = some cv ∧ cv.oneCell' = true) ∧
    (ro = false → ∀ i, i < L.room → w.frozen? ⟨L.cb, L.base + i, none⟩ = false) ∧
    (own (.cells ro fz l) = true → w.shape? L.cb = some (fz, L.base + L.room) ∧ L.base % P.cellsOf fz = 0)
  | .map es, L, w => ∃ mes clock, w.heap[L.cb]? = some (.map mes clock) ∧ MR ι es mes.toList
  | .dead, _, _ => True
theorem H.wf_push {h : H} {x : Blk} (hw : ∀ b, h.n ≤ b → h.get b = none) : ∀ b, (h.push x).n ≤ b → (h.push x).get b = none := fun b hb => by
  rw [H.n_push] at hb
  rw [H.get_push, if_neg (by omega)]; exact hw b (by omega)
theorem H.wf_put {h : H} {c : Nat} {x : Blk} (hc : c < h.n) (hw : ∀ b, h.n ≤ b → h.get b = none) : ∀ b, (h.put c x).n ≤ b → (h.put c x).get b = none := fun b hb => by
  rw [H.n_put] at hb
  rw [H.get_put, if_neg (by omega)]; exact hw b hb
structure HR (P : Program) (ι : Inj) (h : H) (w : World) : Prop where
  dom : ∀ b, h.n ≤ b → ι b = none
  lt : ∀ b L, ι b = some L → L.cb < w.heap.size
  blk : ∀ b L x, ι b = some L → h.get b = some x → BR P ι x L w
  apart : ∀ b b' L L' x x', b ≠ b' → ι b = some L → ι b' = some L' → h.get b = some x → h.get b' = some x' → own x = true → live x' = true → L.cb ≠ L'.cb
  wf : ∀ b, h.n ≤ b → h.get b = none
theorem HR.lt_n {P : Program} {ι : Inj} {h : H} {w : World} (hr : HR P ι h w) {b : Nat} {L : Loc} (hb : ι b = some L) : b < h.n := Nat.lt_of_not_le fun hle => by rw [hr.dom b hle] at hb; cases hb

/-- What may have changed from (h, ι, w) to (h', ι', w'). -/
structure Ext (h : H) (ι : Inj) (w : World) (h' : H) (ι' : Inj) (w' : World) : Prop where
  sub : Sub ι ι'
  n : h.n ≤ h'.n
  mono : ∀ b x, b < h.n → h'.get b = some x → own x = true → ∃ y, h.get b = some y ∧ own y = true
  os : w'.os = w.os
  tape : w'.tape = w.tape
  output : w'.output = w.output
  size : w.heap.size ≤ w'.heap.size
  keep : ∀ c, c < w.heap.size → (∀ b L x, ι b = some L → h.get b = some x → own x = true → L.cb ≠ c) → w'.heap[c]? = w.heap[c]?
  ghost : ∀ b, b < h.n → ι b = none → h'.get b = h.get b
  new : ∀ b L, ι' b = some L → ι b = none → h.n ≤ b ∧ (w.heap.size ≤ L.cb ∨ ∃ b0 L0 x0, ι b0 = some L0 ∧ h.get b0 = some x0 ∧ own x0 = true ∧ L0.cb = L.cb)

theorem Ext.refl (h : H) (ι : Inj) (w : World) : Ext h ι w h ι w :=
  ⟨Sub.refl _, Nat.le_refl _, fun b x _ h1 h2 => ⟨x, h1, h2⟩, rfl, rfl, rfl, Nat.le_refl _, fun _ _ _ => rfl, fun _ _ _ => rfl, fun b L h1 h2 => by rw [h1] at h2; cases h2⟩
theorem Ext.drew {h h' : H} {ι ι' : Inj} {w w' : World} (e : Ext h ι w h' ι' w') : Ext h ι w h' ι' w'.drew :=
  ⟨e.sub, e.n, e.mono, e.os, e.tape, e.output, e.size, e.keep, e.ghost, e.new⟩
theorem Ext.trans {h h1 h2 : H} {ι ι1 ι2 : Inj} {w w1 w2 : World} (hd : ∀ b, h.n ≤ b → ι b = none) (a : Ext h ι w h1 ι1 w1) (b : Ext h1 ι1 w1 h2 ι2 w2) : Ext h ι w h2 ι2 w2 := by
  have own1 : ∀ b L x, ι1 b = some L → h1.get b = some x → own x = true → w.heap.size ≤ L.cb ∨ ∃ b0 L0 x0, ι b0 = some L0 ∧ h.get b0 = some x0 ∧ own x0 = true ∧ L0.cb = L.cb := by
    intro b L x hι hg ho
    cases hb : ι b with
    | none => exact (a.new b L hι hb).2
    | some L0 =>
      have := a.sub b L0 hb
      rw [hι] at this; cases this
      have hlt : b < h.n := Nat.lt_of_not_le fun hle => by rw [hd b hle] at hb; cases hb
      obtain ⟨y, hy, hoy⟩ := a.mono b x hlt hg ho
      exact .inr ⟨b, L, y, hb, hy, hoy, rfl⟩
  refine ⟨a.sub.trans b.sub, Nat.le_trans a.n b.n, ?_, b.os.trans a.os, b.tape.trans a.tape, b.output.trans a.output, Nat.le_trans a.size b.size, ?_, ?_, ?_⟩
  · intro c x hc hg ho
    obtain ⟨y, hy, hoy⟩ := b.mono c x (Nat.lt_of_lt_of_le hc a.n) hg ho
    exact a.mono c y hc hy hoy
  · intro c hc hno
    rw [b.keep c (Nat.lt_of_lt_of_le hc a.size), a.keep c hc hno]
    intro b L x hι hg ho heq
    rcases own1 b L x hι hg ho with h1 | ⟨b0, L0, x0, h1, h2, h3, h4⟩
    · omega
    · exact hno b0 L0 x0 h1 h2 h3 (h4.trans heq)
  · intro c hc hn
    have hn1 : ι1 c = none := by
      cases hι1 : ι1 c with
      | none => rfl
      | some L => have := (a.new c L hι1 hn).1; omega
    rw [b.ghost c (Nat.lt_of_lt_of_le hc a.n) hn1, a.ghost c hc hn]
  · intro c L hι2 hι
    cases hι1 : ι1 c with
    | some L1 =>
      have := b.sub c L1 hι1
      rw [hι2] at this; cases this
      exact a.new c L hι1 hι
    | none =>
      obtain ⟨h1, h2⟩ := b.new c L hι2 hι1
      refine ⟨Nat.le_trans a.n h1, ?_⟩
      rcases h2 with h2 | ⟨b0, L0, x0, h3, h4, h5, h6⟩
      · exact .inl (Nat.le_trans a.size h2)
      · rcases own1 b0 L0 x0 h3 h4 h5 with h7 | ⟨b1, L1, x1, h7, h8, h9, h10⟩
        · exact .inl (h6 ▸ h7)
        · exact .inr ⟨b1, L1, x1, h7, h8, h9, h10.trans h6⟩

/-- Where nothing of the call's own is there, nothing that was there is changed. -/
theorem Ext.below {h h' : H} {ι ι' : Inj} {w w' : World} (e : Ext h ι w h' ι' w') (hno : ∀ b L x, ι b = some L → h.get b = some x → own x = false) : Below w.heap.size w w' :=
  ⟨e.os, e.tape, e.output, e.size, fun k hk => e.keep k hk fun b L x h1 h2 h3 => by rw [hno b L x h1 h2] at h3; cases h3⟩

theorem MR.mono {ι ι' : Inj} (hs : Sub ι ι') {es : List (V × V)} {mes : List MapEntry} (h : MR ι es mes) : MR ι' es mes :=
  ⟨h.1, fun i p m h1 h2 => ⟨VR.mono hs _ _ (h.2 i p m h1 h2).1, VR.mono hs _ _ (h.2 i p m h1 h2).2⟩⟩
/-- A block reads as it did if its place in memory is as it was. -/
theorem BR.same {P : Program} {ι ι' : Inj} (hs : Sub ι ι') {x : Blk} {L : Loc} {w w' : World} (hb : w'.heap[L.cb]? = w.heap[L.cb]?) (h : BR P ι x L w) : BR P ι' x L w' := by
  cases x with
  | cells ro fz l =>
    obtain ⟨h1, h2, h3, h4, h7⟩ := h
    have hc : ∀ i, w'.cell? ⟨L.cb, i, none⟩ = w.cell? ⟨L.cb, i, none⟩ := fun i => World.cell?_of_block (a := ⟨L.cb, i, none⟩) hb
    have hf : ∀ i, w'.frozen? ⟨L.cb, i, none⟩ = w.frozen? ⟨L.cb, i, none⟩ := fun i => World.frozen?_of_block (a := ⟨L.cb, i, none⟩) hb
    have hs' : w'.shape? L.cb = w.shape? L.cb := by unfold Go.World.shape?; rw [hb]
    refine ⟨fun i v hv => ?_, h2, fun i hi => ?_, fun hr i hi => ?_, fun hr => ⟨hs'.trans (h7 hr).1, (h7 hr).2⟩⟩
    · obtain ⟨cv, h5, h6⟩ := h1 i v hv; exact ⟨cv, (hc _).trans h5, VR.mono hs _ _ h6⟩
    · obtain ⟨cv, h5, h6⟩ := h3 i hi; exact ⟨cv, (hc _).trans h5, h6⟩
    · rw [hf]; exact h4 hr i hi
  | map es =>
    obtain ⟨mes, clock, h1, h2⟩ := h
    exact ⟨mes, clock, hb.trans h1, h2.mono hs⟩
  | dead => trivial
theorem HR.drew {P : Program} {ι : Inj} {h : H} {w : World} (hr : HR P ι h w) : HR P ι h w.drew :=
  ⟨hr.dom, hr.lt, fun b L x h1 h2 => BR.same (w := w) (w' := w.drew) (Sub.refl _) rfl (hr.blk b L x h1 h2), hr.apart, hr.wf⟩

/-- A new block. -/
theorem HR.push {P : Program} {ι : Inj} {h : H} {w : World} (hr : HR P ι h w) (x : Blk) (o : Go.Obj) (room : Nat)
    (hx : ∀ ι', Sub ι ι' → BR P ι' x ⟨w.heap.size, 0, room⟩ (w.alloc o)) :
    ∃ ι', ι' h.n = some ⟨w.heap.size, 0, room⟩ ∧ HR P ι' (h.push x) (w.alloc o) ∧ Ext h ι w (h.push x) ι' (w.alloc o) := by
  let ι' : Inj := fun b => if b = h.n then some ⟨w.heap.size, 0, room⟩ else ι b
  have hnew : ι' h.n = some ⟨w.heap.size, 0, room⟩ := by simp [ι']
  have hold : ∀ b, b ≠ h.n → ι' b = ι b := fun b hb => by simp [ι', hb]
  have hnone : ι h.n = none := hr.dom _ (Nat.le_refl _)
  have hsub : Sub ι ι' := fun b L hb => by
    have : b ≠ h.n := fun e => by rw [e, hnone] at hb; cases hb
    rw [hold b this]; exact hb
  have hheap : ∀ c, c < w.heap.size → (w.alloc o).heap[c]? = w.heap[c]? := fun c hc => Below.heap_alloc w o c hc
  refine ⟨ι', hnew, ⟨?_, ?_, ?_, ?_, H.wf_push hr.wf⟩, ⟨hsub, ?_, ?_, rfl, rfl, rfl, by simp, fun c hc _ => hheap c hc, fun c hc _ => by rw [H.get_push, if_neg (by omega)], ?_⟩⟩
  · intro b hb
    rw [H.n_push] at hb
    rw [hold b (by omega)]; exact hr.dom b (by omega)
  · intro b L hb
    by_cases e : b = h.n
    · subst e; rw [hnew] at hb; cases hb; simp
    · rw [hold b e] at hb; have := hr.lt b L hb; simp; omega
  · intro b L y hb hg
    rw [H.get_push] at hg
    by_cases e : b = h.n
    · subst e; rw [hnew] at hb; cases hb; rw [if_pos rfl] at hg; cases hg; exact hx ι' hsub
    · rw [hold b e] at hb; rw [if_neg e] at hg
      exact (hr.blk b L y hb hg).same hsub (hheap _ (hr.lt b L hb))
  · intro b b' L L' y y' hne hb hb' hg hg' ho hl
    rw [H.get_push] at hg hg'
    by_cases e : b = h.n
    · subst e; rw [hnew] at hb; cases hb
      rw [hold b' (Ne.symm hne)] at hb'
      have := hr.lt b' L' hb'
      show w.heap.size ≠ L'.cb
      omega
    · by_cases e' : b' = h.n
      · subst e'; rw [hnew] at hb'; cases hb'
        rw [hold b e] at hb
        have := hr.lt b L hb
        show L.cb ≠ w.heap.size
        omega
      · rw [hold b e] at hb; rw [hold b' e'] at hb'; rw [if_neg e] at hg; rw [if_neg e'] at hg'
        exact hr.apart b b' L L' y y' hne hb hb' hg hg' ho hl
  · rw [H.n_push]; omega
  · intro b y hb hg ho
    rw [H.get_push, if_neg (by omega)] at hg
    exact ⟨y, hg, ho⟩
  · intro b L hb hn
    by_cases e : b = h.n
    · subst e; rw [hnew] at hb; cases hb; exact ⟨Nat.le_refl _, .inl (Nat.le_refl _)⟩
    · rw [hold b e, hn] at hb; cases hb
end GoEv
namespace GoEv
open Go (IntKind Value World Addr MapEntry Program Oper Op Operand Act Exit undef execOp Sem Result)

/-! ### loads -/
theorem HR.load {P : Program} {ι : Inj} {h : H} {w : World} (hr : HR P ι h w) {b o : Nat} {L : Loc} {ro : Bool} {fz : Nat} {l : List V} {v : V} (hb : ι b = some L) (hg : h.get b = some (.cells ro fz l)) (hv : l[o]? = some v) :
    ∃ cv, w.cell? ⟨L.cb, L.base + o, none⟩ = some cv ∧ VR ι v cv ∧ cv.oneCell' = true := by
  obtain ⟨h1, h2, h3, _, _⟩ := hr.blk b L _ hb hg
  obtain ⟨cv, h4, h5⟩ := h1 o v hv
  have hlt : o < l.length := (List.getElem?_eq_some_iff.1 hv).1
  obtain ⟨cv', h6, h7⟩ := h3 o (by omega)
  rw [h4] at h6; cases h6
  exact ⟨cv, h4, h5, h7⟩
theorem HR.loads {P : Program} {ι : Inj} {h : H} {w : World} (hr : HR P ι h w) {b o n : Nat} {L : Loc} {ro : Bool} {fz : Nat} {l : List V} (hb : ι b = some L) (hg : h.get b = some (.cells ro fz l)) (hn : ((l.drop o).take n).length = n) :
    ∃ cs : List Value, cs.length = n ∧ w.rangeAt L.cb (L.base + o) cs ∧ VRs ι ((l.drop o).take n) cs ∧ ∀ x ∈ cs, x.oneCell' = true := by
  have hlen : o + n ≤ l.length ∨ n = 0 := by
    have := hn; simp only [List.length_take, List.length_drop] at this; omega
  have key : ∀ i, i < n → ∃ cv v, l[o + i]? = some v ∧ w.cell? ⟨L.cb, L.base + (o + i), none⟩ = some cv ∧ VR ι v cv ∧ cv.oneCell' = true := by
    intro i hi
    have : o + i < l.length := by omega
    obtain ⟨cv, h1, h2, h3⟩ := hr.load hb hg (List.getElem?_eq_getElem this)
    exact ⟨cv, _, List.getElem?_eq_getElem this, h1, h2, h3⟩
  refine ⟨(List.range n).map fun i => (w.cell? ⟨L.cb, L.base + (o + i), none⟩).getD undef, by simp, ?_, ?_, ?_⟩
  · intro j v hj
    have hjn : j < n := by have := (List.getElem?_eq_some_iff.1 hj).1; simpa using this
    obtain ⟨cv, _, _, h2, _⟩ := key j hjn
    simp [hjn, h2] at hj
    subst hj
    rw [← h2, Nat.add_assoc]
  · refine VRs.of (by simp only [List.length_map, List.length_range]; exact hn.symm) fun i v x hi hx => ?_
    have hin : i < n := by have := (List.getElem?_eq_some_iff.1 hx).1; simpa using this
    obtain ⟨cv, v', h1, h2, h3, _⟩ := key i hin
    simp [hin, h2] at hx
    subst hx
    rw [List.getElem?_take_of_lt hin, List.getElem?_drop, h1] at hi
    cases hi; exact h3
  · intro x hx
    obtain ⟨i, hi, rfl⟩ := List.mem_map.1 hx
    have hin : i < n := by simpa using hi
    obtain ⟨cv, _, _, h2, _, h4⟩ := key i hin
    rw [h2]; exact h4

/-! ### stores -/
theorem heap_setCells (b : Nat) : ∀ (vs : List Value) (o : Nat) (w : World) (c : Nat), c ≠ b → (w.setCells b o vs).heap[c]? = w.heap[c]?
  | [], _, w, c, _ => rfl
  | v :: r, o, w, c, hc => by
    show ((w.setCell ⟨b, o, none⟩ v).setCells b (o + 1) r).heap[c]? = _
    rw [heap_setCells b r (o + 1) _ c hc]
    exact Go.RowKit.Below.heap_setCell w ⟨b, o, none⟩ v c hc
theorem size_setCells (b : Nat) : ∀ (vs : List Value) (o : Nat) (w : World), (w.setCells b o vs).heap.size = w.heap.size
  | [], _, w => rfl
  | v :: r, o, w => by
    show ((w.setCell ⟨b, o, none⟩ v).setCells b (o + 1) r).heap.size = _
    rw [size_setCells b r (o + 1)]; simp
theorem os_setCells (b : Nat) : ∀ (vs : List Value) (o : Nat) (w : World), (w.setCells b o vs).os = w.os ∧ (w.setCells b o vs).tape = w.tape ∧ (w.setCells b o vs).output = w.output
  | [], _, w => ⟨rfl, rfl, rfl⟩
  | v :: r, o, w => os_setCells b r (o + 1) (w.setCell ⟨b, o, none⟩ v)

theorem shape_setCell (w : World) (a : Addr) (v : Value) (c : Nat) : (w.setCell a v).shape? c = w.shape? c := by
  simp only [Go.World.setCell, Go.World.shape?, Array.getElem?_modify]
  by_cases hb : a.block = c
  · simp only [hb, if_true]
    cases hh : w.heap[c]? with
    | none => simp
    | some x => cases x <;> simp <;> split <;> simp
  · simp [hb]
theorem shape_setCells (b : Nat) : ∀ (vs : List Value) (o : Nat) (w : World) (c : Nat), (w.setCells b o vs).shape? c = w.shape? c
  | [], _, w, c => rfl
  | v :: r, o, w, c => by
    show ((w.setCell ⟨b, o, none⟩ v).setCells b (o + 1) r).shape? c = _
    rw [shape_setCells b r (o + 1) _ c, shape_setCell]
/-- Cells are written into a block of the call's own. -/
theorem HR.store {P : Program} {ι : Inj} {h : H} {w : World} (hr : HR P ι h w) {b o : Nat} {L : Loc} {fz : Nat} {l : List V} (hb : ι b = some L) (hg : h.get b = some (.cells false fz l)) 
    (vs : List V) (cs : List Value) (hvs : VRs ι vs cs) (h1 : ∀ x ∈ cs, x.oneCell' = true) (hlen : o + vs.length ≤ l.length) :
    w.there L.cb (L.base + o) cs.length ∧
    HR P ι (h.put b (.cells false fz (l.take o ++ (vs ++ l.drop (o + vs.length))))) (w.setCells L.cb (L.base + o) cs) ∧
    Ext h ι w (h.put b (.cells false fz (l.take o ++ (vs ++ l.drop (o + vs.length))))) ι (w.setCells L.cb (L.base + o) cs) := by
  obtain ⟨g1, g2, g3, g4, g5⟩ := hr.blk b L _ hb hg
  have hcl : cs.length = vs.length := hvs.length
  have hlt : b < h.n := Nat.lt_of_not_le fun hle => by rw [hr.dom b hle] at hb; cases hb
  have hth : w.there L.cb (L.base + o) cs.length := fun j hj => by
    obtain ⟨cv, h5, _⟩ := g3 (o + j) (by omega)
    rw [← Nat.add_assoc] at h5
    refine ⟨by rw [h5]; rfl, ?_⟩
    have := g4 rfl (o + j) (by omega)
    rwa [← Nat.add_assoc] at this
  have hin : ∀ j (hj : j < cs.length), (w.setCells L.cb (L.base + o) cs).cell? ⟨L.cb, L.base + o + j, none⟩ = some cs[j] := fun j hj =>
    World.cell?_setCells_in L.cb cs (L.base + o) w (fun i hi => (hth i hi).1) j hj
  have hout : ∀ i, (i < o ∨ o + cs.length ≤ i) → (w.setCells L.cb (L.base + o) cs).cell? ⟨L.cb, L.base + i, none⟩ = w.cell? ⟨L.cb, L.base + i, none⟩ := fun i hi =>
    World.cell?_setCells_out L.cb cs (L.base + o) w ⟨L.cb, L.base + i, none⟩ (by simp; omega)
  have hown : own (Blk.cells false fz l) = true := rfl
  refine ⟨hth, ⟨?_, ?_, ?_, ?_, H.wf_put hlt hr.wf⟩, ⟨Sub.refl _, ?_, ?_, (os_setCells _ _ _ _).1, (os_setCells _ _ _ _).2.1, (os_setCells _ _ _ _).2.2, ?_, ?_, fun c _ hn => by rw [H.get_put, if_neg (fun e => by rw [e, hb] at hn; cases hn)], ?_⟩⟩
  · intro c hc; rw [H.n_put] at hc; exact hr.dom c hc
  · intro c L' hc; rw [size_setCells]; exact hr.lt c L' hc
  · intro c L' x hc hx
    rw [H.get_put] at hx
    by_cases e : c = b
    · subst e
      rw [hb] at hc; cases hc
      rw [if_pos rfl] at hx; cases hx
      refine ⟨fun i v hv => ?_, ?_, fun i hi => ?_, fun _ i hi => ?_, fun hr => ⟨(shape_setCells _ _ _ _ _).trans (g5 hr).1, (g5 hr).2⟩⟩
      · by_cases hio : i < o
        · rw [List.getElem?_append_left (by simp; omega), List.getElem?_take_of_lt hio] at hv
          rw [hout i (.inl hio)]; exact g1 i v hv
        · rw [List.getElem?_append_right (by simp; omega)] at hv
          have htl : (l.take o).length = o := by simp; omega
          rw [htl] at hv
          by_cases hiv : i - o < vs.length
          · rw [List.getElem?_append_left hiv] at hv
            obtain ⟨x, hx1, hx2⟩ := hvs.get (i - o) v hv
            have := hin (i - o) (by omega)
            rw [show L.base + o + (i - o) = L.base + i by omega] at this
            refine ⟨x, ?_, hx2⟩
            rw [this, ← hx1, List.getElem?_eq_getElem (by omega)]
          · rw [List.getElem?_append_right (by omega), List.getElem?_drop, show o + vs.length + (i - o - vs.length) = i by omega] at hv
            rw [hout i (.inr (by omega))]; exact g1 i v hv
      · simp only [List.length_append, List.length_take, List.length_drop]; omega
      · by_cases hio : i < o ∨ o + cs.length ≤ i
        · rw [hout i hio]; exact g3 i hi
        · have := hin (i - o) (by omega)
          rw [show L.base + o + (i - o) = L.base + i by omega] at this
          exact ⟨_, this, h1 _ (List.getElem_mem _)⟩
      · rw [World.frozen?_setCells]; exact g4 rfl i hi
    · rw [if_neg e] at hx
      have hbr := hr.blk c L' x hc hx
      cases hlx : live x with
      | false => cases x <;> first | trivial | cases hlx
      | true =>
        have hne := hr.apart b c L L' _ x (Ne.symm e) hb hc hg hx hown hlx
        exact hbr.same (Sub.refl _) (heap_setCells _ _ _ _ _ (Ne.symm hne))
  · intro c c' L1 L2 x x' hne hc hc' hx hx' ho hl
    rw [H.get_put] at hx hx'
    by_cases e : c = b
    · subst e
      rw [if_neg (Ne.symm hne)] at hx'
      exact hr.apart c c' L1 L2 _ x' hne hc hc' hg hx' hown hl
    · rw [if_neg e] at hx
      by_cases e' : c' = b
      · subst e'
        exact hr.apart c c' L1 L2 x _ hne hc hc' hx hg ho rfl
      · rw [if_neg e'] at hx'
        exact hr.apart c c' L1 L2 x x' hne hc hc' hx hx' ho hl
  · rw [H.n_put]; exact Nat.le_refl _
  · intro c x hc hx ho
    rw [H.get_put] at hx
    by_cases e : c = b
    · subst e; exact ⟨_, hg, hown⟩
    · rw [if_neg e] at hx; exact ⟨x, hx, ho⟩
  · rw [size_setCells]; exact Nat.le_refl _
  · intro c hc hno
    exact heap_setCells _ _ _ _ _ fun e => hno b L _ hb hg hown e.symm
  · intro c L' h1 h2; rw [h1] at h2; cases h2
end GoEv
namespace GoEv
open Go (IntKind Value World Addr MapEntry Program Oper Op Operand Act Exit undef execOp Sem Result TypeId TypeDesc)

theorem und_eq {P : Program} {t : TypeId} {d : TypeDesc} (h : und P t = d) (hd : d ≠ .invalid) : P.underlying t = some d := by
  unfold und at h
  cases hu : P.underlying t with
  | none => rw [hu] at h; exact absurd h.symm hd
  | some x => rw [hu] at h; exact congrArg some h

/-! ### constants and operands -/
theorem cst1_sound (ι : Inj) (v : Value) : VR ι (cst1 v) v := by
  unfold cst1
  split <;> simp only [VR, VR.mkI]
  exact ⟨_, rfl, rfl, rfl⟩
theorem cst1s_sound (ι : Inj) : ∀ l : List Value, VRs ι (l.map cst1) l
  | [] => VRs.nil
  | v :: l => VRs.cons (cst1_sound ι v) (cst1s_sound ι l)
theorem oc_sound {v : Value} (h : oc v = true) : v.oneCell' = true := by cases v <;> first | rfl | cases h
theorem cst_sound (ι : Inj) (v : Value) : VR ι (cst v) v := by
  unfold cst
  split
  · rename_i cs
    cases h : cs.toList.all oc with
    | false => simp [VR]
    | true =>
      simp only [cond_true, VR]
      exact ⟨cs, rfl, cst1s_sound ι _, fun x hx => oc_sound (List.all_eq_true.1 h x hx)⟩
  · simp [VR]
  · exact cst1_sound ι v
/-- the environment -/
structure ER (P : Program) (ι : Inj) (e : Env) (nt : Nat) (a : Act) : Prop where
  size : a.tmps.size = nt
  tmp : ∀ t, VR ι (e t) (a.tmps.getD t undef)
  glob : ∀ g, g < P.globals.size → ∃ room, ι g = some ⟨g, 0, room⟩
  defers : a.defers = []
theorem ER.mono {P : Program} {ι ι' : Inj} {e : Env} {nt : Nat} {a : Act} (he : ER P ι e nt a) (hs : Sub ι ι') : ER P ι' e nt a :=
  ⟨he.size, fun t => VR.mono hs _ _ (he.tmp t), fun g hg => by obtain ⟨r, h⟩ := he.glob g hg; exact ⟨r, hs _ _ h⟩, he.defers⟩
theorem ER.eval {P : Program} {ι : Inj} {e : Env} {nt : Nat} {a : Act} (he : ER P ι e nt a) (x : Operand) : VR ι (evA P e x) (a.eval x) := by
  cases x with
  | tmp t => exact he.tmp t
  | const v => exact cst_sound ι v
  | global g =>
    show VR ι (bif Nat.blt g P.globals.size then .ptr g 0 else .undef) _
    cases h : Nat.blt g P.globals.size with
    | false => simp [VR]
    | true =>
      have hg : g < P.globals.size := Nat.le_of_ble_eq_true h
      obtain ⟨r, hr⟩ := he.glob g hg
      simp only [cond_true, VR]
      exact ⟨_, hr, rfl⟩
  | func f =>
    show VR ι (.fn f [] []) (.func (.func f) #[] #[])
    simp only [VR]
    exact ⟨#[], #[], rfl, by simp [VRs], by simp [VRs]⟩
theorem ER.evals {P : Program} {ι : Inj} {e : Env} {nt : Nat} {a : Act} (he : ER P ι e nt a) : ∀ l : List Operand, VRs ι (l.map (evA P e)) (l.map a.eval)
  | [] => VRs.nil
  | x :: l => VRs.cons (he.eval x) (he.evals l)
theorem ER.put {P : Program} {ι : Inj} {e : Env} {nt : Nat} {a : Act} (he : ER P ι e nt a) {d : Option Nat} {v : V} {cv : Value} (hv : VR ι v cv) (hd : ∀ t, d = some t → t < nt) :
    ER P ι (put e d v) nt (a.put d cv) := by
  cases d with
  | none => exact he
  | some d =>
    refine ⟨by simp [Go.Act.put, he.size], fun t => ?_, he.glob, he.defers⟩
    have hdn := hd d rfl
    show VR ι (bif Nat.beq t d then v else e t) _
    rw [beq_eq]
    by_cases h : t = d
    · subst h
      simp [Go.Act.put, he.size, hdn]; exact hv
    · simp [h, Go.Act.put, Array.getElem?_setIfInBounds_ne (Ne.symm h)]
      simpa using he.tmp t

/-- the operation comes to v and h' -/
def Good (P : Program) (o : Oper) (h : H) (ι : Inj) (w : World) (a : Act) (v : V) (h' : H) : Prop :=
  ∀ (next : Act → World → Prop) (Q : Exit → Act → World → Prop),
    (∀ cv w' ι', VR ι' v cv → HR P ι' h' w' → Ext h ι w h' ι' w' → next (a.put o.dst cv) w') → o.wp P a w next Q

/-- reads no memory -/
def GQ (P : Program) (o : Oper) (e : Env) (nt : Nat) (v : V) : Prop := ∀ (h : H) (ι : Inj) (w : World) (a : Act), HR P ι h w → ER P ι e nt a → Good P o h ι w a v h
/-- reads memory -/
def GR (P : Program) (o : Oper) (e : Env) (nt : Nat) (h : H) (v : V) : Prop := ∀ (ι : Inj) (w : World) (a : Act), HR P ι h w → ER P ι e nt a → Good P o h ι w a v h
/-- writes -/
def GW (P : Program) (o : Oper) (e : Env) (nt : Nat) (h : H) (v : V) (h' : H) : Prop := ∀ (ι : Inj) (w : World) (a : Act), HR P ι h w → ER P ι e nt a → Good P o h ι w a v h'
section
variable {P : Program} {o : Oper} {h : H} {ι : Inj} {w : World} {a : Act} {e : Env} {nt : Nat}
theorem Good.quiet {v : V} {cv : Value} (hr : HR P ι h w) (hrun : (execOp a.eval o).run P w = .ok (.value cv) w) (hv : VR ι v cv) : Good P o h ι w a v h := by
  intro next Q hn
  unfold Go.Oper.wp
  rw [hrun]
  exact hn cv w ι hv hr (Ext.refl _ _ _)
theorem Good.value {v : V} {cv : Value} {h' : H} {w' : World} {ι' : Inj} (hrun : (execOp a.eval o).run P w = .ok (.value cv) w') (hv : VR ι' v cv) (hr : HR P ι' h' w') (hx : Ext h ι w h' ι' w') : Good P o h ι w a v h' := by
  intro next Q hn
  unfold Go.Oper.wp
  rw [hrun]
  exact hn cv w' ι' hv hr hx
theorem Good.skip {h' : H} {w' : World} {ι' : Inj} (hrun : (execOp a.eval o).run P w = .ok .skip w') (hr : HR P ι' h' w') (hx : Ext h ι w h' ι' w') : Good P o h ι w a (.tup []) h' := by
  intro next Q hn
  unfold Go.Oper.wp
  rw [hrun]
  refine hn undef w' ι' ?_ hr hx
  simp only [VR]; exact ⟨#[], rfl, by simp [VRs]⟩
end
end GoEv
namespace GoEv
open Go (IntKind Value World Addr MapEntry Program Oper Op Operand Act Exit undef execOp Sem Result TypeId TypeDesc BinOp)

section
variable {P : Program} {o : Oper} {h : H} {ι : Inj} {w : World} {a : Act} {e : Env} {nt : Nat}

theorem g_move {x : Operand} (ho : o.op = .move x ∨ o.op = .assign x) (hr : HR P ι h w) (he : ER P ι e nt a) : Good P o h ι w a (evA P e x) h := by
  refine Good.quiet (cv := a.eval x) hr ?_ (he.eval x)
  rcases ho with ho | ho <;> simp [execOp, ho]
theorem g_pick {c x y : Operand} {z : Bool} (ho : o.op = .pick c x y) (hc : evA P e c = .bool z) (hr : HR P ι h w) (he : ER P ι e nt a) : Good P o h ι w a (pkV z (evA P e x) (evA P e y)) h := by
  have h1 := he.eval c
  rw [hc] at h1; simp only [VR] at h1
  rw [pkV_eq]
  cases z with
  | true => exact Good.quiet (cv := a.eval x) hr (by simp [execOp, ho, h1, Go.asBool]) (he.eval x)
  | false => exact Good.quiet (cv := a.eval y) hr (by simp [execOp, ho, h1, Go.asBool]) (he.eval y)

theorem zcs_some {t : TypeId} {z : List V} (hz : zcs P t = some z) : ∃ i zv, P.info? t = some i ∧ i.zero = some zv ∧ z = zv.cells.toList.map cst1 ∧ ∀ x ∈ zv.cells.toList, x.oneCell' = true := by
  unfold zcs at hz
  cases hi : P.info? t with
  | none => rw [hi] at hz; simp at hz
  | some i =>
    rw [hi] at hz
    simp only [Option.bind_some] at hz
    cases hzz : i.zero with
    | none => rw [hzz] at hz; simp at hz
    | some zv =>
      rw [hzz] at hz
      simp only at hz
      cases hall : zv.cells.toList.all oc with
      | false => rw [hall] at hz; cases hz
      | true =>
        rw [hall] at hz
        simp only [cond_true, Option.some.injEq] at hz
        exact ⟨i, zv, rfl, hzz, hz.symm, fun x hx => oc_sound (List.all_eq_true.1 hall x hx)⟩
theorem run_zero {t : TypeId} {i : Go.TypeInfo} {zv : Value} (hi : P.info? t = some i) (hz : i.zero = some zv) (w : World) : (Go.zeroValue t).run P w = .ok zv w := by
  simp [Go.zeroValue, Go.typeInfo, hi, hz]

/-- A row of new cells. -/
theorem new_row (hr : HR P ι h w) (l : List V) (cs : List Value) (el : TypeId) (hl : VRs ι l cs) (h1 : ∀ x ∈ cs, x.oneCell' = true) (room : Nat) (hroom : l.length ≤ room) (extra : List Value) (hx : cs.length + extra.length = room) (h2 : ∀ x ∈ extra, x.oneCell' = true) :
    ∃ ι', ι' h.n = some ⟨w.heap.size, 0, room⟩ ∧ HR P ι' (h.push (.cells false el l)) (w.alloc (.cells (cs ++ extra).toArray el)) ∧ Ext h ι w (h.push (.cells false el l)) ι' (w.alloc (.cells (cs ++ extra).toArray el)) := by
  have hlen := hl.length
  refine hr.push (.cells false el l) _ room fun ι' hs => ⟨fun i v hv => ?_, hroom, fun i hi => ?_, fun _ i _ => ?_, fun _ => ⟨?_, Nat.zero_mod _⟩⟩
  · obtain ⟨x, h3, h4⟩ := hl.get i v hv
    refine ⟨x, ?_, VR.mono hs _ _ h4⟩
    have hi : i < cs.length := (List.getElem?_eq_some_iff.1 h3).1
    simp [List.getElem?_append_left hi, h3]
  · have hi' : i < (cs ++ extra).length := by simpa [hx] using hi
    refine ⟨(cs ++ extra)[i], by simp [List.getElem?_eq_getElem hi'], ?_⟩
    rcases List.mem_append.1 (List.getElem_mem hi') with h3 | h3
    · exact h1 _ h3
    · exact h2 _ h3
  · simp
  · have hh : (w.alloc (.cells (cs ++ extra).toArray el)).heap[w.heap.size]? = some (.cells (cs ++ extra).toArray el) := by show (w.heap.push _)[w.heap.size]? = _; simp
    unfold Go.World.shape?; rw [hh]; subst hx; simp
theorem new_row' (hr : HR P ι h w) (l : List V) (cs : Array Value) (el : TypeId) (hl : VRs ι l cs.toList) (h1 : ∀ x ∈ cs.toList, x.oneCell' = true) :
    ∃ ι', ι' h.n = some ⟨w.heap.size, 0, l.length⟩ ∧ HR P ι' (h.push (.cells false el l)) (w.alloc (.cells cs el)) ∧ Ext h ι w (h.push (.cells false el l)) ι' (w.alloc (.cells cs el)) := by
  have := new_row hr l cs.toList el hl h1 l.length (Nat.le_refl _) [] (by simp [hl.length]) (by simp)
  simpa using this

theorem g_alloc {t : TypeId} {z : List V} (ho : o.op = .alloc t) (hz : zcs P t = some z) (hr : HR P ι h w) : Good P o h ι w a (.ptr h.n 0) (h.push (.cells false t z)) := by
  obtain ⟨i, zv, hi, hzz, rfl, h1⟩ := zcs_some hz
  obtain ⟨ι', h2, h3, h4⟩ := new_row' hr (zv.cells.toList.map cst1) zv.cells t (cst1s_sound _ _) h1
  refine Good.value (cv := .pointer (some ⟨w.heap.size, 0, none⟩)) (w' := w.alloc (.cells zv.cells t)) ?_ ?_ h3 h4
  · simp [execOp, ho, Go.Instr.alloc, run_zero hi hzz, Go.newVar, Go.newRow]
  · simp only [VR]; exact ⟨_, h2, rfl⟩
theorem g_box_one {t : TypeId} {x : Operand} (ho : o.op = .box t x) (h1 : isOne (evA P e x) = true) (hr : HR P ι h w) (he : ER P ι e nt a) : Good P o h ι w a (.ptr h.n 0) (h.push (.cells false t [evA P e x])) := by
  have hv := he.eval x
  obtain ⟨h2, h3⟩ := VR.one h1 hv
  obtain ⟨ι', h4, h5, h6⟩ := new_row' hr [evA P e x] #[a.eval x] t (VRs.cons hv VRs.nil) (by simpa using h2)
  refine Good.value (cv := .pointer (some ⟨w.heap.size, 0, none⟩)) (w' := w.alloc (.cells #[a.eval x] t)) ?_ ?_ h5 h6
  · simp [execOp, ho, Go.Instr.box, Go.newVar, Go.newRow, h3]
  · simp only [VR]; exact ⟨_, h4, rfl⟩
theorem g_box_agg {t : TypeId} {x : Operand} {l : List V} (ho : o.op = .box t x) (h1 : evA P e x = .agg l) (hr : HR P ι h w) (he : ER P ι e nt a) : Good P o h ι w a (.ptr h.n 0) (h.push (.cells false t l)) := by
  have hv := he.eval x
  rw [h1] at hv; simp only [VR] at hv
  obtain ⟨c, hc, h2, h3⟩ := hv
  obtain ⟨ι', h4, h5, h6⟩ := new_row' hr l c t h2 h3
  refine Good.value (cv := .pointer (some ⟨w.heap.size, 0, none⟩)) (w' := w.alloc (.cells c t)) ?_ ?_ h5 h6
  · simp [execOp, ho, Go.Instr.box, Go.newVar, Go.newRow, hc, Value.cells]
  · simp only [VR]; exact ⟨_, h4, rfl⟩

theorem isAg_true {t : TypeId} (h : isAg P t = true) : ∃ d, P.underlying t = some d ∧ d.isRow = true := by
  unfold isAg at h
  split at h
  · rename_i fs hd; exact ⟨_, und_eq hd (by simp), rfl⟩
  · rename_i n el hd; exact ⟨_, und_eq hd (by simp), rfl⟩
  · cases h
theorem run_isAgg {t : TypeId} {d : TypeDesc} (h : P.underlying t = some d) (w : World) : (Go.isAgg t).run P w = .ok d.isRow w := by
  unfold Go.isAgg
  rw [Go.Sem.run_bind, Go.run_underlying h w]
  cases d <;> simp [Go.TypeDesc.isRow]
theorem isAg_false {t : TypeId} {d : TypeDesc} (h : isAg P t = false) (hu : P.underlying t = some d) : d.isRow = false := by
  unfold isAg und at h
  rw [hu] at h
  cases d <;> first | rfl | cases h
theorem cellsOf_info {t : TypeId} {n : Nat} (h : P.cellsOf t = n) (hn : n ≠ 0) : (P.info? t).map (·.size) = some n := by
  unfold Go.Program.cellsOf at h
  cases hi : P.info? t with
  | none => rw [hi] at h; simp at h; omega
  | some i => rw [hi] at h; simpa using h

theorem g_load_agg {t : TypeId} {x : Operand} {b o' : Nat} {ro : Bool} {fz : Nat} {l : List V} (ho : o.op = .load t x) (hx : evA P e x = .ptr b o') (hag : isAg P t = true) (hi : (P.info? t).isSome = true)
    (hg : h.get b = some (.cells ro fz l)) (hn : ((l.drop o').take (P.cellsOf t)).length = P.cellsOf t) (hr : HR P ι h w) (he : ER P ι e nt a) :
    Good P o h ι w a (.agg ((l.drop o').take (P.cellsOf t))) h := by
  have hv := he.eval x
  rw [hx] at hv; simp only [VR] at hv
  obtain ⟨L, hb, hp⟩ := hv
  obtain ⟨cs, h1, h2, h3, h4⟩ := hr.loads hb hg hn
  obtain ⟨d, hd, hrow⟩ := isAg_true hag
  refine Good.quiet (cv := .agg cs.toArray) hr ?_ (by simp only [VR]; exact ⟨_, rfl, by simpa using h3, by simpa using h4⟩)
  have hsz : (P.info? t).map (·.size) = some cs.length := by
    obtain ⟨i, hi⟩ := Option.isSome_iff_exists.1 hi
    rw [h1]; simp [Go.Program.cellsOf, hi]
  have := Go.run_loadAt_mid w L.cb (L.base + o') t cs d h2 hd hrow hsz
  simp [execOp, ho, hp, this]
theorem g_load_one {t : TypeId} {x : Operand} {b o' : Nat} {ro : Bool} {fz : Nat} {l : List V} {v : V} {d : TypeDesc} (ho : o.op = .load t x) (hx : evA P e x = .ptr b o') (hag : isAg P t = false) (hd : P.underlying t = some d)
    (hg : h.get b = some (.cells ro fz l)) (hv : l[o']? = some v) (hr : HR P ι h w) (he : ER P ι e nt a) :
    Good P o h ι w a v h := by
  have hv' := he.eval x
  rw [hx] at hv'; simp only [VR] at hv'
  obtain ⟨L, hb, hp⟩ := hv'
  obtain ⟨cv, h1, h2, h3⟩ := hr.load hb hg hv
  refine Good.quiet (cv := cv) hr ?_ h2
  have hrow := isAg_false hag hd
  simp [execOp, ho, hp, Go.Instr.loadAt, Go.Instr.sureAddr, Go.loadVar, run_isAgg hd, hrow, h1]
theorem g_store_agg {t : TypeId} {x y : Operand} {b o' fz : Nat} {l vs : List V} (ho : o.op = .store t x y) (hx : evA P e x = .ptr b o') (hy : evA P e y = .agg vs) (hi : (P.info? t).isSome = true)
    (hn : vs.length = P.cellsOf t) (hg : h.get b = some (.cells false fz l)) (hle : o' + vs.length ≤ l.length) (hr : HR P ι h w) (he : ER P ι e nt a) :
    Good P o h ι w a (.tup []) (h.put b (.cells false fz (l.take o' ++ (vs ++ l.drop (o' + vs.length))))) := by
  have hv := he.eval x
  rw [hx] at hv; simp only [VR] at hv
  obtain ⟨L, hb, hp⟩ := hv
  have hv2 := he.eval y
  rw [hy] at hv2; simp only [VR] at hv2
  obtain ⟨c, hc, h2, h3⟩ := hv2
  obtain ⟨h4, h5, h6⟩ := hr.store (o := o') hb hg vs c.toList h2 h3 hle
  refine Good.skip ?_ h5 h6
  have hsz : (P.info? t).map (·.size) = some c.size := by
    obtain ⟨i, hi⟩ := Option.isSome_iff_exists.1 hi
    have := h2.length
    simp only [Array.length_toList] at this
    rw [this, hn]; simp [Go.Program.cellsOf, hi]
  have := Go.run_storeAt_mid (P := P) w L.cb (L.base + o') t c (by simpa using h4) hsz (Array.all_eq_true_iff_forall_mem.2 fun v hv => h3 v (by simpa using hv))
  simp [execOp, ho, hp, hc, this]
theorem run_storeAt_one (w : World) (b o : Nat) (t : TypeId) (v : Value) (hc : v.cells = #[v]) (h1 : v.oneCell' = true) (ht : w.there b o 1) (hi : (P.info? t).map (·.size) = some 1) :
    (Go.Instr.storeAt t (.pointer (some ⟨b, o, none⟩)) v).run P w = .ok () (w.setCells b o [v]) := by
  have := Go.run_storeCells_cells (P := P) b o [v] 0 w (fun j hj => by simpa using (ht j (by simpa using hj)).1) (fun j hj => by simpa using (ht j (by simpa using hj)).2) (by simpa using h1)
  cases hq : P.info? t with
  | none => simp [hq] at hi
  | some i =>
    have hs : i.size = 1 := by simpa [hq] using hi
    simp only [Nat.add_zero] at this
    simp [Go.Instr.storeAt, Go.Instr.sureAddr, Go.storeVar, Go.sizeOf, Go.typeInfo, hq, hc, hs, this]
theorem g_store_one {t : TypeId} {x y : Operand} {b o' fz : Nat} {l : List V} (ho : o.op = .store t x y) (hx : evA P e x = .ptr b o') (hy : isOne (evA P e y) = true) 
    (hn : P.cellsOf t = 1) (hg : h.get b = some (.cells false fz l)) (hle : o' < l.length) (hr : HR P ι h w) (he : ER P ι e nt a) :
    Good P o h ι w a (.tup []) (h.put b (.cells false fz (l.set o' (evA P e y)))) := by
  have hv := he.eval x
  rw [hx] at hv; simp only [VR] at hv
  obtain ⟨L, hb, hp⟩ := hv
  have hv2 := he.eval y
  obtain ⟨h2, h3⟩ := VR.one hy hv2
  obtain ⟨h4, h5, h6⟩ := hr.store (o := o') hb hg [evA P e y] [a.eval y] (VRs.cons hv2 VRs.nil) (by simpa using h2) (by simp; omega)
  have hset : l.take o' ++ ([evA P e y] ++ l.drop (o' + [evA P e y].length)) = l.set o' (evA P e y) := by
    rw [List.set_eq_take_append_cons_drop, if_pos hle]; rfl
  rw [hset] at h5 h6
  refine Good.skip ?_ h5 h6
  have := run_storeAt_one (P := P) w L.cb (L.base + o') t (a.eval y) h3 h2 (by simpa using h4) (cellsOf_info hn (by simp))
  simp [execOp, ho, hp, this]
theorem g_nilCheck {x : Operand} {b o' : Nat} (ho : o.op = .nilCheck x) (hx : evA P e x = .ptr b o') (hr : HR P ι h w) (he : ER P ι e nt a) : Good P o h ι w a (.ptr b o') h := by
  have hv := he.eval x
  rw [hx] at hv
  have hv' := hv
  simp only [VR] at hv'
  obtain ⟨L, hb, hp⟩ := hv'
  exact Good.quiet (cv := a.eval x) hr (by simp [execOp, ho, hp]) hv
end
end GoEv
namespace GoEv
open Go (IntKind Value World Addr MapEntry Program Oper Op Operand Act Exit undef execOp Sem Result TypeId TypeDesc BinOp UnOp)

/-! ### strings -/
theorem bn_lt : ∀ l : List UInt8, bn l < 256 ^ l.length
  | [] => by simp [bn]
  | b :: r => by
    have h := bn_lt r
    have hb : b.toNat < 256 := b.toNat_lt
    show b.toNat + 256 * bn r < 256 ^ (r.length + 1)
    rw [Nat.pow_succ]; omega
theorem bn_append : ∀ (l r : List UInt8), bn (l ++ r) = bn l + 256 ^ l.length * bn r
  | [], r => by simp [bn]
  | b :: l, r => by
    show b.toNat + 256 * bn (l ++ r) = b.toNat + 256 * bn l + 256 ^ (l.length + 1) * bn r
    rw [bn_append l r, Nat.pow_succ, Nat.mul_add, Nat.mul_comm (256 ^ l.length) 256, Nat.mul_assoc, Nat.add_assoc]
theorem bn_inj : ∀ {l r : List UInt8}, l.length = r.length → bn l = bn r → l = r
  | [], [], _, _ => rfl
  | [], _ :: _, h, _ => by simp at h
  | _ :: _, [], h, _ => by simp at h
  | a :: l, b :: r, h, h' => by
    have ha := a.toNat_lt
    have hb := b.toNat_lt
    simp only [bn] at h'
    have h1 : a.toNat = b.toNat := by omega
    have h2 : bn l = bn r := by omega
    rw [UInt8.toNat_inj.1 h1, bn_inj (by simpa using h) h2]
theorem bn_drop : ∀ (k : Nat) (l : List UInt8), bn (l.drop k) = bn l / 256 ^ k
  | 0, l => by simp
  | k + 1, [] => by simp [bn]
  | k + 1, a :: l => by
    have ha := a.toNat_lt
    rw [List.drop_succ_cons, bn_drop k l, Nat.pow_succ, Nat.mul_comm (256 ^ k) 256, ← Nat.div_div_eq_div_mul]
    congr 1
    simp only [bn]; omega
theorem bn_take (k : Nat) (l : List UInt8) : bn (l.take k) = bn l % 256 ^ k := by
  by_cases hk : k ≤ l.length
  · have h := bn_append (l.take k) (l.drop k)
    rw [List.take_append_drop] at h
    have hl : (l.take k).length = k := by simp; omega
    have hlt := bn_lt (l.take k)
    rw [hl] at h hlt
    rw [h, Nat.add_mul_mod_self_left, Nat.mod_eq_of_lt hlt]
  · rw [List.take_of_length_le (by omega)]
    have hlt := bn_lt l
    have : 256 ^ l.length ≤ 256 ^ k := Nat.pow_le_pow_right (by omega) (by omega)
    rw [Nat.mod_eq_of_lt (by omega)]
theorem bn_get {l : List UInt8} {k : Nat} (h : k < l.length) : l[k].toNat = bn l / 256 ^ k % 256 := by
  have h1 := bn_drop k l
  rw [List.drop_eq_getElem_cons h] at h1
  simp only [bn] at h1
  have := l[k].toNat_lt
  omega
theorem pow8 (k : Nat) : 2 ^ (8 * k) = 256 ^ k := by rw [Nat.pow_mul]
theorem SR.size {l n : Nat} {s : ByteArray} (h : SR l n s) : s.size = l := by rw [← h.1, Array.length_toList]; rfl
theorem SR.eq {l n l' n' : Nat} {s s' : ByteArray} (h : SR l n s) (h' : SR l' n' s') : (s = s') ↔ (l = l' ∧ n = n') := by
  constructor
  · rintro rfl; exact ⟨h.1.symm.trans h'.1, h.2.symm.trans h'.2⟩
  · rintro ⟨rfl, rfl⟩
    have := bn_inj (h.1.trans h'.1.symm) (h.2.trans h'.2.symm)
    cases s; cases s'
    congr 1
    exact Array.toList_inj.1 this
theorem SR.append {l n l' n' : Nat} {s s' : ByteArray} (h : SR l n s) (h' : SR l' n' s') : SR (l + l') (n + n' <<< (8 * l)) (s ++ s') := by
  have hd : (s ++ s').data.toList = s.data.toList ++ s'.data.toList := by simp [ByteArray.data_append]
  refine ⟨by rw [hd, List.length_append, h.1, h'.1], ?_⟩
  rw [hd, bn_append, h.1, h.2, h'.2, Nat.shiftLeft_eq, pow8, Nat.mul_comm]
theorem SR.sub {l n : Nat} {s : ByteArray} (h : SR l n s) {a b : Nat} (hab : a ≤ b) (hb : b ≤ l) : SR (b - a) ((n >>> (8 * a)) % (1 <<< (8 * (b - a)))) (s.extract a b) := by
  have hd : (s.extract a b).data.toList = (s.data.toList.drop a).take (b - a) := by
    rw [ByteArray.data_extract, Array.toList_extract, List.extract_eq_take_drop]
  refine ⟨by rw [hd, List.length_take, List.length_drop, h.1]; omega, ?_⟩
  rw [hd, bn_take, bn_drop, h.2, Nat.shiftRight_eq_div_pow, Nat.shiftLeft_eq, pow8, pow8, Nat.one_mul]
theorem SR.get {l n : Nat} {s : ByteArray} (h : SR l n s) {k : Nat} (hk : k < l) : s[k]? = some (UInt8.ofNat ((n >>> (8 * k)) % 256)) ∧ (UInt8.ofNat ((n >>> (8 * k)) % 256)).toNat = (n >>> (8 * k)) % 256 := by
  have hlt : k < s.data.toList.length := by rw [h.1]; exact hk
  have h1 := bn_get hlt
  rw [h.2] at h1
  have h2 : (n >>> (8 * k)) % 256 = (s.data.toList[k]).toNat := by rw [h1, Nat.shiftRight_eq_div_pow, pow8]
  rw [h2]
  have h3 : UInt8.ofNat (s.data.toList[k]).toNat = s.data.toList[k] := by simp
  rw [h3]
  refine ⟨?_, rfl⟩
  have hks : k < s.size := by rw [h.size]; exact hk
  rw [getElem?_pos s k hks]
  rfl

section
variable {P : Program} {o : Oper} {h : H} {ι : Inj} {w : World} {a : Act} {e : Env} {nt : Nat}

/-! ### integers, bools, strings, nil -/
theorem ofInt_bm (n : Nat) (x : Int) : (BitVec.ofInt n x).toNat = bm (2 ^ n) x := by
  have h := bm_eq (m := 2 ^ n) (Nat.two_pow_pos n) x
  rw [BitVec.toNat_ofInt]
  have e : ((2 ^ n : Nat) : Int) = (2 ^ n : Int) := by simp
  omega
theorem bits_and (k : IntKind) (x y : Int) : Go.Op.intBits .and k x y = pure (.int k (k.wrap (zAnd (2 ^ k.bits) x y))) := by
  simp only [Go.Op.intBits, BitVec.toNat_and, ofInt_bm]; rfl
theorem bits_or (k : IntKind) (x y : Int) : Go.Op.intBits .or k x y = pure (.int k (k.wrap (zOr (2 ^ k.bits) x y))) := by
  simp only [Go.Op.intBits, BitVec.toNat_or, ofInt_bm]; rfl
theorem bits_xor (k : IntKind) (x y : Int) : Go.Op.intBits .xor k x y = pure (.int k (k.wrap (zXor (2 ^ k.bits) x y))) := by
  simp only [Go.Op.intBits, BitVec.toNat_xor, ofInt_bm]; rfl
theorem bits_ann (k : IntKind) (x y : Int) : Go.Op.intBits .andNot k x y = pure (.int k (k.wrap (zAnn (2 ^ k.bits) x y))) := by
  simp only [Go.Op.intBits, BitVec.toNat_and, BitVec.toNat_not, ofInt_bm]; rfl
theorem cmpO_some {op : BinOp} {x y : Int} {K : Bool → A} {r : V × H} (h : cmpO op x y K = some r) : ∃ b, (Go.Op.intCmp op x y = pure (.bool b)) ∧ K b = some r := by
  cases op <;> simp only [cmpO] at h <;> first | cases h | skip
  · exact ⟨_, by rw [eqZ_eq]; rfl, h⟩
  · exact ⟨_, by rw [notB_eq, eqZ_eq]; rfl, h⟩
  · exact ⟨_, by rw [ltZ_eq]; rfl, h⟩
  · exact ⟨_, by rw [leZ_eq]; rfl, h⟩
  · exact ⟨_, by rw [ltZ_eq]; rfl, h⟩
  · exact ⟨_, by rw [leZ_eq]; rfl, h⟩
theorem intO_some {op : BinOp} {k : IntKind} {x y : Int} {t : TypeId} {K : V → A} {r : V × H} (hh : intO op k x y K = some r) :
    ∃ v cv, K v = some r ∧ (∀ ι, VR ι v cv) ∧ ∀ w, (Go.binOp op t (.int k x) (.int k y)).run P w = .ok cv w := by
  have hb : cmpO op x y (fun b => K (.bool b)) = some r → (∀ w, (Go.binOp op t (.int k x) (.int k y)).run P w = ((Go.Op.intCmp op x y).run P w : Result Value)) → ∃ v cv, K v = some r ∧ (∀ ι, VR ι v cv) ∧ ∀ w, (Go.binOp op t (.int k x) (.int k y)).run P w = .ok cv w := by
    intro h1 h2
    obtain ⟨b, h3, h4⟩ := cmpO_some h1
    exact ⟨.bool b, .bool b, h4, fun ι => by simp [VR], fun w => by rw [h2, h3]; rfl⟩
  cases op <;> simp only [intO] at hh <;> first
    | (rw [wrapK_eq] at hh; refine ⟨_, _, hh, fun ι => VR.mkI.2 rfl, fun w => ?_⟩; simp [Go.binOp, Go.Op.intArith, addZ_eq, subZ_eq, mulZ_eq]; done)
    | (rw [wrapK_eq] at hh; refine ⟨_, _, hh, fun ι => VR.mkI.2 rfl, fun w => ?_⟩; simp [Go.binOp, bits_and, bits_or, bits_xor, bits_ann]; done)
    | (rw [nz_some, wrapK_eq] at hh; refine ⟨_, _, hh.2, fun ι => VR.mkI.2 rfl, fun w => ?_⟩; simp [Go.binOp, Go.Op.intDiv, divZ_eq, hh.1]; done)
    | (rw [nz_some, bZ_eq] at hh; refine ⟨_, _, hh.2, fun ι => VR.mkI.2 rfl, fun w => ?_⟩; simp [Go.binOp, Go.Op.intDiv, modZ_eq, hh.1]; done)
    | (refine hb hh fun w => ?_; simp [Go.binOp]; done)
    | (simp [cmpO] at hh; done)
theorem g_bin_int {op : BinOp} {t : TypeId} {x y : Operand} {yt : TypeId} {k : IntKind} {m n : Int} {K : V → A} {r : V × H} (ho : o.op = .binOp op t x y yt) (hx : evA P e x = mkI k m) (hy : evA P e y = mkI k n)
    (hh : intO op k m n K = some r) : ∃ v, K v = some r ∧ GQ P o e nt v := by
  obtain ⟨v, cv, h3, h4, h5⟩ := intO_some (P := P) (t := t) hh
  refine ⟨v, h3, fun h ι w a hr he => ?_⟩
  have h1 := he.eval x; rw [hx, VR.mkI] at h1
  have h2 := he.eval y; rw [hy, VR.mkI] at h2
  refine Good.quiet (cv := cv) hr ?_ (h4 ι)
  have hg : Go.eqGuard op t x y (.int k m) (.int k n) = pure () := by cases op <;> rfl
  simp [execOp, ho, h1, h2, hg, h5]
theorem str_eq {s s2 : ByteArray} {l n l2 n2 : Nat} (hs : SR l n s) (hs2 : SR l2 n2 s2) : (s.toList == s2.toList) = decide (l = l2 ∧ n = n2) := by
  rw [Bool.eq_iff_iff]
  simp only [beq_iff_eq, decide_eq_true_eq]
  rw [← hs.eq hs2]
  constructor
  · intro h
    rw [Go.ByteArray.toList_eq, Go.ByteArray.toList_eq] at h
    cases s; cases s2; congr 1; exact Array.toList_inj.1 h
  · rintro rfl; rfl
theorem cnd_none {b : Bool} {x : A} {r : V × H} : cnd b x none = some r ↔ b = true ∧ x = some r := by rw [cnd_some]; simp
theorem sLt_bn : ∀ (f : Nat) (a b : List UInt8), a.length < f → sLt f a.length (bn a) b.length (bn b) = Go.Op.bytesLess a b
  | 0, _, _, h => by omega
  | f + 1, a, [], h => by cases a <;> rfl
  | f + 1, [], b :: bs, h => rfl
  | f + 1, a :: as, b :: bs, h => by
    have ha := a.toNat_lt
    have hb := b.toNat_lt
    have ih := sLt_bn f as bs (by simp at h; omega)
    have e : ∀ (c : UInt8) (cs : List UInt8), c.toNat < 256 → Nat.mod (bn (c :: cs)) 256 = c.toNat ∧ Nat.div (bn (c :: cs)) 256 = bn cs := by
      intro c cs hc
      have h1 : bn (c :: cs) = c.toNat + 256 * bn cs := rfl
      have h2 : Nat.mod (bn (c :: cs)) 256 = bn (c :: cs) % 256 := rfl
      have h3 : Nat.div (bn (c :: cs)) 256 = bn (c :: cs) / 256 := rfl
      rw [h2, h3, h1]; omega
    show (Bool.casesOn (Nat.beq (Nat.mod (bn (a :: as)) 256) (Nat.mod (bn (b :: bs)) 256)) (Nat.ble (Nat.succ (Nat.mod (bn (a :: as)) 256)) (Nat.mod (bn (b :: bs)) 256))
      (sLt f as.length (Nat.div (bn (a :: as)) 256) bs.length (Nat.div (bn (b :: bs)) 256)) : Bool) = _
    rw [(e a as ha).1, (e b bs hb).1, (e a as ha).2, (e b bs hb).2, ih]
    simp only [Go.Op.bytesLess]
    by_cases hab : a = b
    · subst hab
      simp [beq_eq]
    · have hne : a.toNat ≠ b.toNat := fun h => hab (UInt8.toNat_inj.1 h)
      rw [beq_eq, decide_eq_false hne]
      show Nat.ble (Nat.succ a.toNat) b.toNat = _
      rw [ble_eq]
      have : (a == b) = false := by simpa using hab
      simp only [this, Bool.false_and, Bool.or_false, UInt8.lt_iff_toNat_lt, Nat.succ_le_iff]
theorem sLs_eq {l n l2 n2 : Nat} {s s2 : ByteArray} (h : SR l n s) (h2 : SR l2 n2 s2) : sLs l n l2 n2 = Go.Op.bytesLess s.toList s2.toList := by
  rw [Go.ByteArray.toList_eq, Go.ByteArray.toList_eq, ← h.1, ← h.2, ← h2.1, ← h2.2]
  exact sLt_bn _ _ _ (Nat.lt_succ_self _)
theorem sEqL {l n l2 n2 : Nat} {s s2 : ByteArray} (h : SR l n s) (h2 : SR l2 n2 s2) : sEq l n l2 n2 = (s.toList == s2.toList) := by
  rw [sEq_eq]
  have h3 := str_eq h h2
  rw [Bool.eq_iff_iff]
  simp only [decide_eq_true_eq, beq_iff_eq]
  rw [← h.eq h2]
  constructor
  · rintro rfl; rfl
  · intro h4
    rw [Go.ByteArray.toList_eq, Go.ByteArray.toList_eq] at h4
    cases s; cases s2; congr 1; exact Array.toList_inj.1 h4
theorem sLe_eq {l n l2 n2 : Nat} {s s2 : ByteArray} (h : SR l n s) (h2 : SR l2 n2 s2) : sLe l n l2 n2 = (Go.Op.bytesLess s.toList s2.toList || (s.toList == s2.toList)) := by
  unfold sLe
  rw [sLs_eq h h2, sEqL h h2]
  cases Go.Op.bytesLess s.toList s2.toList <;> rfl
theorem g_bin_str {op : BinOp} {t : TypeId} {x y : Operand} {yt : TypeId} {l n l2 n2 : Nat} {K : V → A} {r : V × H} (ho : o.op = .binOp op t x y yt) (hx : evA P e x = .str l n) (hy : evA P e y = .str l2 n2)
    (hh : strO op l n l2 n2 K = some r) : ∃ v, K v = some r ∧ GQ P o e nt v := by
  have key : ∀ v, (∀ (ι : Inj) (w : World) (s s2 : ByteArray), SR l n s → SR l2 n2 s2 → ∃ cv, (Go.binOp op t (.string s) (.string s2)).run P w = .ok cv w ∧ VR ι v cv) → GQ P o e nt v := by
    intro v hv h ι w a hr he
    have h1 := he.eval x; rw [hx] at h1; simp only [VR] at h1
    have h2 := he.eval y; rw [hy] at h2; simp only [VR] at h2
    obtain ⟨s, h1, hs⟩ := h1
    obtain ⟨s2, h2, hs2⟩ := h2
    obtain ⟨cv, h3, h4⟩ := hv ι w s s2 hs hs2
    have hg : Go.eqGuard op t x y (.string s) (.string s2) = pure () := by cases op <;> rfl
    exact Good.quiet (cv := cv) hr (by simp [execOp, ho, h1, h2, hg, h3]) h4
  cases op <;> simp only [strO] at hh <;> first | cases hh | skip
  · rw [cnd_none, sCat_eq, ble_eq] at hh
    have hsmall : l + l2 ≤ 4294967296 := of_decide_eq_true hh.1
    refine ⟨_, hh.2, key _ fun ι w s s2 hs hs2 => ⟨.string (s ++ s2), ?_, by simp only [VR]; exact ⟨_, rfl, hs.append hs2⟩⟩⟩
    have hsz : ¬ (9223372036854775807 < ((s.size : Int) + (s2.size : Int))) := by rw [hs.size, hs2.size]; omega
    simp [Go.binOp, Go.Op.stringOp, hsz]
  · refine ⟨_, hh, key _ fun ι w s s2 hs hs2 => ⟨.bool (decide (l = l2 ∧ n = n2)), ?_, by simp only [VR, sEq_eq]⟩⟩
    have heq := str_eq hs hs2
    simp [Go.binOp, Go.Op.stringOp, heq]
  · refine ⟨_, hh, key _ fun ι w s s2 hs hs2 => ⟨.bool (!decide (l = l2 ∧ n = n2)), ?_, by simp only [VR, sEq_eq, notB_eq]⟩⟩
    have heq := str_eq hs hs2
    simp [Go.binOp, Go.Op.stringOp, heq]
  · exact ⟨_, hh, key _ fun ι w s s2 hs hs2 => ⟨.bool (sLs l n l2 n2), by simp [Go.binOp, Go.Op.stringOp, sLs_eq hs hs2], by simp only [VR]⟩⟩
  · exact ⟨_, hh, key _ fun ι w s s2 hs hs2 => ⟨.bool (sLe l n l2 n2), by simp [Go.binOp, Go.Op.stringOp, sLe_eq hs hs2], by simp only [VR]⟩⟩
  · exact ⟨_, hh, key _ fun ι w s s2 hs hs2 => ⟨.bool (!sLe l n l2 n2), by simp [Go.binOp, Go.Op.stringOp, sLe_eq hs hs2], by simp only [VR, notB_eq]⟩⟩
  · exact ⟨_, hh, key _ fun ι w s s2 hs hs2 => ⟨.bool (!sLs l n l2 n2), by simp [Go.binOp, Go.Op.stringOp, sLs_eq hs hs2], by simp only [VR, notB_eq]⟩⟩
end
end GoEv
