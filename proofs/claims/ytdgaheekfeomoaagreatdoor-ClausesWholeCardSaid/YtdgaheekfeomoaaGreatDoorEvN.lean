/- Bits, maps, rows of bytes, unsafe pointers and functions without a body are sound. -/
import Derived.Test.YtdgaheekfeomoaaGreatDoorEvX
import Derived.Lib.UnsafeStr
import Derived.Laws.StructEq
import Derived.MapKept
import Derived.Laws.BytesString
import Derived.Laws.MakeOwn
import Derived.Lib.ConvBytes
import Derived.Lib.MakeNoZero
import Derived.Laws.Externs
import Derived.Lib.Bytealg
set_option linter.unusedVariables false
set_option linter.unusedSimpArgs false
namespace GoEv
open Go (IntKind Value World Addr MapEntry Program Oper Op Operand Act Exit undef execOp Sem Result TypeId TypeDesc BinOp UnOp)

/-- the same memory, or more -/
def Sup (h h2 : H) : Prop := ∀ b, b < h.n → h2.get b = h.get b
theorem Sup.refl (h : H) : Sup h h := fun _ _ => rfl
section
variable {P : Program} {o : Oper} {h : H} {ι : Inj} {w : World} {a : Act} {e : Env} {nt : Nat}
theorem g_shift {op : BinOp} {t yt : TypeId} {x y : Operand} {K : V → A} {r : V × H} (ho : o.op = .binOp op t x y yt) (hh : dShift P op t yt (evA P e x) (evA P e y) K = some r) : ∃ v, K v = some r ∧ GQ P o e nt v := by
  unfold dShift at hh
  split at hh
  · rename_i k k' hk hk'
    split at hh
    · rw [toKd_some] at hh
      obtain ⟨m, hx, hh⟩ := hh
      rw [toKd_some] at hh
      obtain ⟨n, hy, hh⟩ := hh
      rw [shN_some] at hh
      obtain ⟨n', rfl, hh⟩ := hh
      rw [wrapK_eq] at hh
      refine ⟨_, hh, fun h ι w a hr he => ?_⟩
      have h1 := he.eval x; rw [hx, VR.mkI] at h1
      have h2 := he.eval y; rw [hy, VR.mkI] at h2
      refine Good.quiet (cv := .int k (k.wrap (shlZ m (min n' k.bits)))) hr ?_ (VR.mkI.2 rfl)
      have hg : Go.eqGuard .shl t x y (.int k m) (.int k' n') = pure () := rfl
      have hn : ¬ ((n' : Int) < 0) := by omega
      simp [execOp, ho, h1, h2, hg, Go.binOp, Go.Op.shift, hn, shlZ_eq]
    · rw [toKd_some] at hh
      obtain ⟨m, hx, hh⟩ := hh
      rw [toKd_some] at hh
      obtain ⟨n, hy, hh⟩ := hh
      rw [shN_some] at hh
      obtain ⟨n', rfl, hh⟩ := hh
      rw [bZ_eq] at hh
      refine ⟨_, hh, fun h ι w a hr he => ?_⟩
      have h1 := he.eval x; rw [hx, VR.mkI] at h1
      have h2 := he.eval y; rw [hy, VR.mkI] at h2
      refine Good.quiet (cv := .int k (shrZ m (min n' k.bits))) hr ?_ (VR.mkI.2 rfl)
      have hg : Go.eqGuard .shr t x y (.int k m) (.int k' n') = pure () := rfl
      have hn : ¬ ((n' : Int) < 0) := by omega
      simp [execOp, ho, h1, h2, hg, Go.binOp, Go.Op.shift, hn, shrZ_eq]
    · cases hh
  · cases hh
theorem g_xor {t : TypeId} {k : IntKind} {x : Operand} {z : Int} (ho : o.op = .unOp .xor t x) (hx : evA P e x = mkI k z) (hr : HR P ι h w) (he : ER P ι e nt a) :
    Good P o h ι w a (mkI k (k.wrap (zXor (2 ^ k.bits) (if k.signed then -1 else k.max) z))) h := by
  have h1 := he.eval x; rw [hx, VR.mkI] at h1
  refine Good.quiet (cv := .int k (k.wrap (zXor (2 ^ k.bits) (if k.signed then -1 else k.max) z))) hr ?_ (VR.mkI.2 rfl)
  simp [execOp, ho, h1, Go.Op.unary, bits_xor]
theorem g_cap {c : Go.Call} {t el : TypeId} {x : Operand} {K : V → A} {r : V × H} (ho : o.op = .call c) (hc : c.callee = .builtin .cap) (ht : c.argTypes[0]? = some t) (hx : c.args[0]? = some x) (hd : P.underlying t = some (.slice el))
    (hh : capV (evA P e x) (fun n => K (.i n)) = some r) : ∃ v, K v = some r ∧ GQ P o e nt v := by
  unfold capV at hh
  rw [toSl_some] at hh
  rcases hh with ⟨b, o', l, c', s, k, hv, hh⟩ | ⟨hv, hh⟩
  · rw [bool_none, fN_eq] at hh
    obtain ⟨rfl, hh⟩ := hh
    refine ⟨_, hh, fun h ι w a hr he => ?_⟩
    have h1 := he.eval x; rw [hv] at h1; simp only [VR] at h1
    obtain ⟨L, cc, off, _, h1, _, _, _, _, h7⟩ := h1
    have := h7 trivial
    subst this
    refine Good.quiet (cv := .int .i64 (cc : Nat)) hr ?_ (by simp only [VR]; rfl)
    simp [execOp, ho, Go.resolve, hc, Go.invoke, Go.builtin, Go.Builtin.cap_, ht, hx, h1, Go.run_underlying hd, Go.goInt]
  · refine ⟨_, hh, fun h ι w a hr he => ?_⟩
    have h1 := he.eval x; rw [hv] at h1; simp only [VR] at h1
    refine Good.quiet (cv := .int .i64 (0 : Nat)) hr ?_ (by simp only [VR]; rfl)
    simp [execOp, ho, Go.resolve, hc, Go.invoke, Go.builtin, Go.Builtin.cap_, ht, hx, h1, Go.run_underlying hd, Go.goInt]
theorem args2 {c : Go.Call} {x y : Operand} (ha : c.args.toList = [x, y]) : c.args = #[x, y] := by rw [← Array.toArray_toList (xs := c.args), ha]
theorem args1 {c : Go.Call} {x : Operand} (ha : c.args.toList = [x]) : c.args = #[x] := by rw [← Array.toArray_toList (xs := c.args), ha]
theorem g_min {c : Go.Call} {x y : Operand} {m n : Int} (ho : o.op = .call c) (hc : c.callee = .builtin .min) (ha : c.args.toList = [x, y]) (hx : evA P e x = .i m) (hy : evA P e y = .i n) (hr : HR P ι h w) (he : ER P ι e nt a) :
    Good P o h ι w a (.i (minZ m n)) h := by
  have h1 := he.eval x; rw [hx, VR.i] at h1
  have h2 := he.eval y; rw [hy, VR.i] at h2
  refine Good.quiet (cv := .int .i64 (minZ m n)) hr ?_ (by simp only [VR])
  simp [execOp, ho, Go.resolve, hc, Go.invoke, Go.builtin, Go.Builtin.min_, args2 ha, h1, h2, Go.Builtin.min2, minZ_eq]
theorem g_max {c : Go.Call} {x y : Operand} {m n : Int} (ho : o.op = .call c) (hc : c.callee = .builtin .max) (ha : c.args.toList = [x, y]) (hx : evA P e x = .i m) (hy : evA P e y = .i n) (hr : HR P ι h w) (he : ER P ι e nt a) :
    Good P o h ι w a (.i (maxZ m n)) h := by
  have h1 := he.eval x; rw [hx, VR.i] at h1
  have h2 := he.eval y; rw [hy, VR.i] at h2
  refine Good.quiet (cv := .int .i64 (maxZ m n)) hr ?_ (by simp only [VR])
  simp [execOp, ho, Go.resolve, hc, Go.invoke, Go.builtin, Go.Builtin.max_, args2 ha, h1, h2, Go.Builtin.max2, maxZ_eq]
theorem g_sld {c : Go.Call} {x : Operand} {K : V → A} {r : V × H} (ho : o.op = .call c) (hc : c.callee = .builtin .unsafeSliceData) (ha : c.args.toList = [x]) (hh : sld (evA P e x) K = some r) : ∃ v, K v = some r ∧ GQ P o e nt v := by
  unfold sld at hh
  rw [toSl_some] at hh
  rcases hh with ⟨b, o', l, c', s, k, hv, hh⟩ | ⟨hv, hh⟩
  · cases c' with
    | zero => cases hh
    | succ c' =>
      refine ⟨_, hh, fun h ι w a hr he => ?_⟩
      have h1 := he.eval x; rw [hv] at h1; simp only [VR] at h1
      obtain ⟨L, cc, off, hL, h1, h2, _, _, h5, _⟩ := h1
      have hcc : cc ≠ 0 := by omega
      have hoff : off = L.base + o' := by rcases h2 with h2 | h2; exact h2; omega
      subst hoff
      refine Good.quiet (cv := .pointer (some ⟨L.cb, L.base + o', none⟩)) hr ?_ (by simp only [VR]; exact ⟨L, hL, rfl⟩)
      have hq := fun ts ty => Go.Lib.run_unsafeSliceData_row (P := P) w ts ty ⟨L.cb, L.base + o', none⟩ l cc hcc
      simp [execOp, ho, Go.resolve, hc, Go.invoke, Go.builtin, args1 ha, h1, hq]
  · refine ⟨_, hh, fun h ι w a hr he => ?_⟩
    have h1 := he.eval x; rw [hv] at h1; simp only [VR] at h1
    refine Good.quiet (cv := .pointer none) hr ?_ (by simp only [VR])
    have hq := fun ts ty => Go.Lib.run_unsafeSliceData_nil (P := P) w ts ty 0 0
    simp [execOp, ho, Go.resolve, hc, Go.invoke, Go.builtin, args1 ha, h1, hq]
end
end GoEv
namespace GoEv
open Go (IntKind Value World Addr MapEntry Program Oper Op Operand Act Exit undef execOp Sem Result TypeId TypeDesc BinOp UnOp)
section
variable {P : Program} {o : Oper} {h : H} {ι : Inj} {w : World} {a : Act} {e : Env} {nt : Nat}
theorem part_extract {t : TypeId} {d : TypeDesc} {i : Go.TypeInfo} (hd : P.underlying t = some d) (hi : P.info? t = some i) (ca : Array Value) (off n fo : Nat) (h1 : 1 ≤ i.size) (h2 : fo + i.size ≤ n) (w : World) :
    (Go.part t (ca.extract off (off + n)) fo).run P w = (Go.part t ca (off + fo)).run P w := by
  unfold Go.part
  simp only [Go.Sem.run_bind, run_isAgg hd, Go.Result.andThen_ok]
  cases hrow : d.isRow with
  | true =>
    simp only [if_true, Go.Sem.run_bind, run_size hi, Go.Result.andThen_ok]
    rw [Array.extract_extract]
    have : min (off + (fo + P.cellsOf t)) (off + n) = off + fo + P.cellsOf t := by
      have : P.cellsOf t = i.size := by simp [Go.Program.cellsOf, hi]
      omega
    rw [this]
  | false =>
    simp only [Bool.false_eq_true, if_false]
    have : (ca.extract off (off + n))[fo]? = ca[off + fo]? := by
      rw [Array.getElem?_extract]
      by_cases hlt : fo < min (off + n) ca.size - off
      · rw [if_pos hlt]
      · rw [if_neg hlt]
        symm
        rw [Array.getElem?_eq_none_iff]; omega
    rw [this]
theorem part_leaf {t : TypeId} {d : TypeDesc} (hd : P.underlying t = some d) (hr : d.isRow = false) {ca : Array Value} {off : Nat} {v : Value} (hv : ca.toList[off]? = some v) (w : World) : (Go.part t ca off).run P w = .ok v w := by
  unfold Go.part
  have : ca[off]? = some v := by rw [← hv]; simp
  simp [run_isAgg hd, hr, this]
def EqP (P : Program) (t : TypeId) (off d : Nat) (l l2 : List V) (z : Bool) : Prop := ∀ (ι : Inj) (ca cb : Array Value), VRs ι l ca.toList → VRs ι l2 cb.toList → ∀ (m : Nat) (w : World),
  ∃ x y, (Go.part t ca off).run P w = .ok x w ∧ (Go.part t cb off).run P w = .ok y w ∧ (Go.Op.equalIn (d + m) t x y).run P w = .ok z w
def eqElems (d n : Nat) (el : TypeId) (xs ys : Array Value) : List Nat → Sem Bool
  | [] => pure true
  | i :: is => do
      let a ← Go.part el xs (i * n)
      let b ← Go.part el ys (i * n)
      let r ← Go.Op.equalIn d el a b
      if (!r) = true then pure false else eqElems d n el xs ys is
theorem run_equalIn_array (w : World) (d : Nat) (t el : TypeId) (len : Nat) {i : Go.TypeInfo} (xs ys : Array Value) (ht : P.underlying t = some (.array len el)) (hi : P.info? el = some i) :
    (Go.Op.equalIn (d + 1) t (.agg xs) (.agg ys)).run P w = (eqElems d (P.cellsOf el) el xs ys (List.range len)).run P w := by
  simp only [Go.Op.equalIn, Go.Sem.run_bind, Go.run_underlying ht, Go.Result.andThen_ok, run_size hi]
  rw [Std.Legacy.Range.forIn_eq_forIn_range', List.range_eq_range']
  simp only [Std.Legacy.Range.size, Nat.sub_zero, Nat.add_sub_cancel, Nat.div_one]
  generalize List.range' 0 len 1 = l
  induction l generalizing w with
  | nil => simp [eqElems]
  | cons j l ih =>
    simp only [List.forIn_cons, eqElems, Go.Sem.run_bind, Go.Sem.run_ite]
    generalize (Go.part el xs (j * P.cellsOf el)).run P w = r1
    cases r1 with
    | ok a w1 =>
      simp only [Go.Result.andThen_ok]
      generalize (Go.part el ys (j * P.cellsOf el)).run P w1 = r2
      cases r2 with
      | ok b w2 =>
        simp only [Go.Result.andThen_ok]
        generalize (Go.Op.equalIn d el a b).run P w2 = r3
        cases r3 with
        | ok r w3 =>
          cases r
          · simp only [Go.Result.andThen_ok, Bool.not_false, if_true, Go.Sem.run_pure]
          · simp only [Go.Result.andThen_ok, Bool.not_true, Bool.false_eq_true, if_false, Go.Sem.run_pure]
            exact ih w3
        | halt x w3 => simp [Go.Result.andThen]
      | halt x w2 => simp [Go.Result.andThen]
    | halt x w1 => simp [Go.Result.andThen]
theorem dEq_sound : ∀ (d : Nat) (t : TypeId) (off : Nat) (l l2 : List V) (acc : Bool) (K : Bool → A) (r : V × H), dEq P d t off l l2 acc K = some r → ∃ z, K (acc && z) = some r ∧ EqP P t off d l l2 z
  | 0, t, off, l, l2, acc, K, r, hh => by cases hh
  | d + 1, t, off, l, l2, acc, K, r, hh => by
    unfold dEq at hh
    split at hh
    · rename_i k hk
      rw [nth_eq, ob_some] at hh
      obtain ⟨va, ha, hh⟩ := hh
      rw [nth_eq, ob_some] at hh
      obtain ⟨vb, hb, hh⟩ := hh
      rw [toKd_some] at hh
      obtain ⟨x, rfl, hh⟩ := hh
      rw [toKd_some] at hh
      obtain ⟨y, rfl, hh⟩ := hh
      rw [andB_eq] at hh
      refine ⟨_, hh, fun ι ca cb hca hcb m w => ?_⟩
      obtain ⟨cx, h1, h2⟩ := hca.get off _ ha
      obtain ⟨cy, h3, h4⟩ := hcb.get off _ hb
      rw [VR.mkI] at h2 h4
      subst h2 h4
      have hd := und_eq hk (by simp)
      refine ⟨_, _, part_leaf hd rfl h1 w, part_leaf hd rfl h3 w, ?_⟩
      rw [show d + 1 + m = (d + m) + 1 by omega, Go.run_equalIn_int _ _ _ _ _ _ _ hd, eqZ_eq]
    · rename_i hk
      rw [nth_eq, ob_some] at hh
      obtain ⟨va, ha, hh⟩ := hh
      rw [nth_eq, ob_some] at hh
      obtain ⟨vb, hb, hh⟩ := hh
      rw [toB_some] at hh
      obtain ⟨x, rfl, hh⟩ := hh
      rw [toB_some] at hh
      obtain ⟨y, rfl, hh⟩ := hh
      rw [andB_eq] at hh
      refine ⟨_, hh, fun ι ca cb hca hcb m w => ?_⟩
      obtain ⟨cx, h1, h2⟩ := hca.get off _ ha
      obtain ⟨cy, h3, h4⟩ := hcb.get off _ hb
      simp only [VR] at h2 h4
      subst h2 h4
      have hd := und_eq hk (by simp)
      refine ⟨_, _, part_leaf hd rfl h1 w, part_leaf hd rfl h3 w, ?_⟩
      rw [show d + 1 + m = (d + m) + 1 by omega, Go.run_equalIn_bool _ _ _ _ _ hd, eqB_eq]
    · rename_i hk
      rw [nth_eq, ob_some] at hh
      obtain ⟨va, ha, hh⟩ := hh
      rw [nth_eq, ob_some] at hh
      obtain ⟨vb, hb, hh⟩ := hh
      rw [toS_some] at hh
      obtain ⟨n, x, rfl, hh⟩ := hh
      rw [toS_some] at hh
      obtain ⟨n2, y, rfl, hh⟩ := hh
      rw [andB_eq] at hh
      refine ⟨_, hh, fun ι ca cb hca hcb m w => ?_⟩
      obtain ⟨cx, h1, h2⟩ := hca.get off _ ha
      obtain ⟨cy, h3, h4⟩ := hcb.get off _ hb
      simp only [VR] at h2 h4
      obtain ⟨s, rfl, hs⟩ := h2
      obtain ⟨s2, rfl, hs2⟩ := h4
      have hd := und_eq hk (by simp)
      refine ⟨_, _, part_leaf hd rfl h1 w, part_leaf hd rfl h3 w, ?_⟩
      rw [show d + 1 + m = (d + m) + 1 by omega, Go.run_equalIn_string _ _ _ _ _ hd, sEqL hs hs2]
    · rename_i fs hk
      have hd := und_eq hk (by simp)
      obtain ⟨i, hi⟩ := info_of_und hd
      rw [bif_none'] at hh
      obtain ⟨h1, hh⟩ := hh
      rw [Bool.or_eq_false_iff] at h1
      obtain ⟨hst, hall⟩ := h1
      have hall' : ∀ f ∈ fs.toList, f.name ≠ "_" ∧ 1 ≤ P.cellsOf f.type ∧ f.offset + P.cellsOf f.type ≤ P.cellsOf t := by
        intro f hf
        have := List.all_eq_true.1 (by rw [Bool.not_eq_false'] at hall; exact hall) f hf
        simp only [Bool.and_eq_true, bne_iff_ne, ne_eq, ble_eq, decide_eq_true_eq] at this
        exact this
      have key : ∀ (gs : List Go.Field), (∀ f ∈ gs, f.name ≠ "_" ∧ 1 ≤ P.cellsOf f.type ∧ f.offset + P.cellsOf f.type ≤ P.cellsOf t) → ∀ (acc : Bool), gs.foldr (fun f K acc => dEq P d f.type (off + f.offset) l l2 acc K) K acc = some r →
          ∃ z, K (acc && z) = some r ∧ ∀ (ι : Inj) (ca cb : Array Value), VRs ι l ca.toList → VRs ι l2 cb.toList → ∀ (m : Nat) (w : World), (Go.Op.eqFields (d + m) (ca.extract off (off + P.cellsOf t)) (cb.extract off (off + P.cellsOf t)) gs).run P w = .ok z w := by
        intro gs
        induction gs with
        | nil => intro _ acc hq; exact ⟨true, by simpa using hq, fun _ _ _ _ _ _ _ => rfl⟩
        | cons f gs ih =>
          intro hg acc hq
          obtain ⟨g1, g2, g3⟩ := hg f (by simp)
          rw [List.foldr_cons] at hq
          obtain ⟨z1, q1, q2⟩ := dEq_sound d f.type (off + f.offset) l l2 acc _ r hq
          obtain ⟨z2, q3, q4⟩ := ih (fun g hg' => hg g (by simp [hg'])) _ q1
          refine ⟨z1 && z2, by rw [← Bool.and_assoc]; exact q3, fun ι ca cb hca hcb m w => ?_⟩
          obtain ⟨x, y, p1, p2, p3⟩ := q2 ι ca cb hca hcb m w
          obtain ⟨fi, hfi⟩ := info_of_cells (show P.cellsOf f.type ≠ 0 by omega)
          have hsz : P.cellsOf f.type = fi.size := by simp [Go.Program.cellsOf, hfi]
          have hfd : ∃ fd, P.underlying f.type = some fd := by
            cases hu : P.underlying f.type with
            | some fd => exact ⟨fd, rfl⟩
            | none =>
              exfalso
              unfold Go.part at p1
              simp [Go.isAgg, Go.underlying, hu] at p1
          obtain ⟨fd, hfd⟩ := hfd
          have e1 := part_extract hfd hfi ca off (P.cellsOf t) f.offset (by omega) (by omega) w
          have e2 := part_extract hfd hfi cb off (P.cellsOf t) f.offset (by omega) (by omega) w
          rw [Go.Op.eqFields, if_pos g1]
          simp only [Go.Sem.run_bind, e1, p1, Go.Result.andThen_ok, e2, p2, p3]
          cases z1 with
          | false => simp
          | true => simp [q4 ι ca cb hca hcb m w]
      obtain ⟨z, h2, h3⟩ := key fs.toList hall' acc hh
      refine ⟨z, h2, fun ι ca cb hca hcb m w => ⟨.agg (ca.extract off (off + P.cellsOf t)), .agg (cb.extract off (off + P.cellsOf t)), ?_, ?_, ?_⟩⟩
      · unfold Go.part; simp [run_isAgg hd, Go.TypeDesc.isRow, run_size hi]
      · unfold Go.part; simp [run_isAgg hd, Go.TypeDesc.isRow, run_size hi]
      · have hfo : P.fieldsOf t = fs := by simp [Go.Program.fieldsOf, hd]
        rw [show d + 1 + m = (d + m) + 1 by omega, Go.run_equalIn_struct _ _ _ _ _ (by rw [hfo]; exact hd) hst, hfo]
        exact h3 ι ca cb hca hcb m w
    · rename_i n el hk
      have hd := und_eq hk (by simp)
      obtain ⟨i, hi⟩ := info_of_und hd
      rw [bif_none, Bool.and_eq_true, ble_eq, ble_eq] at hh
      obtain ⟨⟨g2, g3⟩, hh⟩ := hh
      have g2 : 1 ≤ P.cellsOf el := of_decide_eq_true g2
      have g3 : n * P.cellsOf el ≤ P.cellsOf t := of_decide_eq_true g3
      obtain ⟨fi, hfi⟩ := info_of_cells (show P.cellsOf el ≠ 0 by omega)
      have hsz : P.cellsOf el = fi.size := by simp [Go.Program.cellsOf, hfi]
      have key : ∀ (is : List Nat), (∀ j ∈ is, j < n) → ∀ (acc : Bool), is.foldr (fun i K acc => dEq P d el (off + i * P.cellsOf el) l l2 acc K) K acc = some r →
          ∃ z, K (acc && z) = some r ∧ ∀ (ι : Inj) (ca cb : Array Value), VRs ι l ca.toList → VRs ι l2 cb.toList → ∀ (m : Nat) (w : World), (eqElems (d + m) (P.cellsOf el) el (ca.extract off (off + P.cellsOf t)) (cb.extract off (off + P.cellsOf t)) is).run P w = .ok z w := by
        intro is
        induction is with
        | nil => intro _ acc hq; exact ⟨true, by simpa using hq, fun _ _ _ _ _ _ _ => rfl⟩
        | cons j is ih =>
          intro hg acc hq
          have hj : j < n := hg j (by simp)
          have hjn : (j + 1) * P.cellsOf el ≤ n * P.cellsOf el := Nat.mul_le_mul_right _ hj
          rw [Nat.add_mul] at hjn
          rw [List.foldr_cons] at hq
          obtain ⟨z1, q1, q2⟩ := dEq_sound d el (off + j * P.cellsOf el) l l2 acc _ r hq
          obtain ⟨z2, q3, q4⟩ := ih (fun g hg' => hg g (by simp [hg'])) _ q1
          refine ⟨z1 && z2, by rw [← Bool.and_assoc]; exact q3, fun ι ca cb hca hcb m w => ?_⟩
          obtain ⟨x, y, p1, p2, p3⟩ := q2 ι ca cb hca hcb m w
          have hfd : ∃ fd, P.underlying el = some fd := by
            cases hu : P.underlying el with
            | some fd => exact ⟨fd, rfl⟩
            | none =>
              exfalso
              unfold Go.part at p1
              simp [Go.isAgg, Go.underlying, hu] at p1
          obtain ⟨fd, hfd⟩ := hfd
          have e1 := part_extract hfd hfi ca off (P.cellsOf t) (j * P.cellsOf el) (by omega) (by omega) w
          have e2 := part_extract hfd hfi cb off (P.cellsOf t) (j * P.cellsOf el) (by omega) (by omega) w
          rw [eqElems]
          simp only [Go.Sem.run_bind, e1, p1, Go.Result.andThen_ok, e2, p2, p3]
          cases z1 with
          | false => simp
          | true => simp [q4 ι ca cb hca hcb m w]
      obtain ⟨z, h2, h3⟩ := key (List.range n) (fun j hj => List.mem_range.1 hj) acc hh
      refine ⟨z, h2, fun ι ca cb hca hcb m w => ⟨.agg (ca.extract off (off + P.cellsOf t)), .agg (cb.extract off (off + P.cellsOf t)), ?_, ?_, ?_⟩⟩
      · unfold Go.part; simp [run_isAgg hd, Go.TypeDesc.isRow, run_size hi]
      · unfold Go.part; simp [run_isAgg hd, Go.TypeDesc.isRow, run_size hi]
      · rw [show d + 1 + m = (d + m) + 1 by omega, run_equalIn_array _ _ _ _ _ _ _ hd hfi]
        exact h3 ι ca cb hca hcb m w
    · cases hh
theorem g_bin_agg {op : BinOp} {t yt : TypeId} {x y : Operand} {K : V → A} {r : V × H} (ho : o.op = .binOp op t x y yt) (hh : dEqA P t (evA P e x) (evA P e y) (fun z => nilO op z K) = some r) : ∃ v, K v = some r ∧ GQ P o e nt v := by
  have key : ∀ (d : TypeDesc), P.underlying t = some d → d.isRow = true → cd (P.eqGuardType P.depth t) (none) (toA (evA P e x) fun l => toA (evA P e y) fun l2 => lnc l (P.cellsOf t) (lnc l2 (P.cellsOf t) (dEq P 20 t 0 l l2 true fun z => nilO op z K))) = some r → ∃ v, K v = some r ∧ GQ P o e nt v := by
    intro d hud hrow hh
    rw [bif_none', toA_some] at hh
    obtain ⟨hgt, l, hx, hh⟩ := hh
    rw [toA_some] at hh
    obtain ⟨l2, hy, hh⟩ := hh
    rw [lnc_some, lnc_some] at hh
    obtain ⟨hl, hl2, hh⟩ := hh
    obtain ⟨z, h1, h2⟩ := dEq_sound 20 t 0 l l2 true _ r hh
    rw [Bool.true_and] at h1
    obtain ⟨v, hK, hv⟩ := nilO_some h1
    refine ⟨v, hK, fun h ι w a hr he => ?_⟩
    have e1 := he.eval x; rw [hx] at e1; simp only [VR] at e1
    have e2 := he.eval y; rw [hy] at e2; simp only [VR] at e2
    obtain ⟨ca, e1, q1, _⟩ := e1
    obtain ⟨cb, e2, q2, _⟩ := e2
    refine g_eql ho hv hr e1 e2 (fun op => Go.run_eqGuard_agg w op t x y ca cb hgt) rfl rfl ?_
    obtain ⟨xa, ya, p1, p2, p3⟩ := h2 ι ca cb q1 q2 9980 w
    have hca : ca.extract 0 (0 + P.cellsOf t) = ca := by
      have : ca.size = P.cellsOf t := by rw [← hl, ← q1.length]; simp
      rw [Nat.zero_add, ← this, Array.extract_size]
    have hcb : cb.extract 0 (0 + P.cellsOf t) = cb := by
      have : cb.size = P.cellsOf t := by rw [← hl2, ← q2.length]; simp
      rw [Nat.zero_add, ← this, Array.extract_size]
    have ag : ∀ (c : Array Value) (x : Value), (Go.part t c 0).run P w = .ok x w → c.extract 0 (0 + P.cellsOf t) = c → x = .agg c := by
      intro c x hp hc
      obtain ⟨i, hi⟩ := info_of_und hud
      unfold Go.part at hp
      simp only [Go.Sem.run_bind, run_isAgg hud, hrow, Go.Result.andThen_ok, if_true, run_size hi, Go.Sem.run_pure, hc] at hp
      exact ((Go.Result.ok.injEq _ _ _ _).mp hp).1.symm
    rw [ag ca xa p1 hca, ag cb ya p2 hcb] at p3
    exact p3
  unfold dEqA at hh
  split at hh
  · rename_i fs0 hk0
    exact key _ (und_eq hk0 (by simp)) rfl hh
  · rename_i n el hk0
    exact key _ (und_eq hk0 (by simp)) rfl hh
  · cases hh
end
end GoEv
namespace GoEv
open Go (IntKind Value World Addr MapEntry Program Oper Op Operand Act Exit undef execOp Sem Result TypeId TypeDesc BinOp UnOp)
section
variable {P : Program} {o : Oper} {h : H} {ι : Inj} {w : World} {a : Act} {e : Env} {nt : Nat}
/-! ### keys -/
def KS (d : TypeDesc) (eq : V → V → (Bool → A) → A) : Prop := ∀ (a b : V) (K : Bool → A) (r : V × H), eq a b K = some r → ∃ z, K z = some r ∧ (z = true → a = b) ∧ ∀ (ι : Inj) (ca cb : Value), VR ι a ca → VR ι b cb → Go.Instr.sameNow d ca cb = some z ∧ Go.MapKept.IsKey d ca ∧ (z = true → Go.Instr.sameBits 10000 cb ca = true)
theorem dKey_sound {kt : TypeId} {eq : V → V → (Bool → A) → A} (h : dKey P kt = some eq) : ∃ d, P.underlying kt = some d ∧ KS d eq := by
  unfold dKey at h
  split at h
  · rename_i k hk
    refine ⟨_, und_eq hk (by simp), ?_⟩
    cases h
    intro a b K r hh
    rw [toKd_some] at hh
    obtain ⟨x, rfl, hh⟩ := hh
    rw [toKd_some] at hh
    obtain ⟨y, rfl, hh⟩ := hh
    rw [eqZ_eq] at hh
    refine ⟨_, hh, fun hz => by rw [eq_of_beq hz], fun ι ca cb h1 h2 => ?_⟩
    rw [VR.mkI] at h1 h2
    subst h1 h2
    refine ⟨by simp [Go.Instr.sameNow], by simp [Go.MapKept.IsKey], fun hz => ?_⟩
    have := eq_of_beq hz
    subst this
    show (k == k && x == x) = true
    simp
  · rename_i hk
    refine ⟨_, und_eq hk (by simp), ?_⟩
    cases h
    intro a b K r hh
    rw [toB_some] at hh
    obtain ⟨x, rfl, hh⟩ := hh
    rw [toB_some] at hh
    obtain ⟨y, rfl, hh⟩ := hh
    rw [eqB_eq] at hh
    refine ⟨_, hh, fun hz => by rw [eq_of_beq hz], fun ι ca cb h1 h2 => ?_⟩
    simp only [VR] at h1 h2
    subst h1 h2
    refine ⟨by simp [Go.Instr.sameNow], by simp [Go.MapKept.IsKey], fun hz => ?_⟩
    have := eq_of_beq hz
    subst this
    show (x == x) = true
    simp
  · rename_i hk
    refine ⟨_, und_eq hk (by simp), ?_⟩
    cases h
    intro a b K r hh
    rw [toS_some] at hh
    obtain ⟨n, x, rfl, hh⟩ := hh
    rw [toS_some] at hh
    obtain ⟨n2, y, rfl, hh⟩ := hh
    refine ⟨_, hh, fun hz => by rw [sEq_eq] at hz; obtain ⟨rfl, rfl⟩ := of_decide_eq_true hz; rfl, fun ι ca cb h1 h2 => ?_⟩
    simp only [VR] at h1 h2
    obtain ⟨s, rfl, hs⟩ := h1
    obtain ⟨s2, rfl, hs2⟩ := h2
    refine ⟨by simp [Go.Instr.sameNow, sEqL hs hs2, Go.beq_toListBytes], by simp [Go.MapKept.IsKey], fun hz => ?_⟩
    rw [sEq_eq] at hz
    have := (hs.eq hs2).2 (of_decide_eq_true hz)
    subst this
    show (s == s) = true
    simp [Go.beq_toListBytes]
  · cases h
/-- what a look among the entries comes to -/
theorem fndM_sound {d : TypeDesc} {eq : V → V → (Bool → A) → A} (he : KS d eq) {k : V} {F : V → A} {N : A} {r : V × H} : ∀ (es : List (V × V)), fndM eq k es F N = some r →
    ∃ res : Option (Nat × V), (match res with | some (_, v) => F v = some r | none => N = some r) ∧ (∀ i v, res = some (i, v) → ∃ k', es[i]? = some (k', v) ∧ k = k') ∧
      ∀ (ι : Inj) (ck : Value) (mes : List MapEntry), VR ι k ck → MR ι es mes → ∀ i0, ∃ cres, Go.Instr.findNow d ck mes i0 = some cres ∧
        (match res, cres with | some (i, v), some (j, cv) => VR ι v cv ∧ j = i0 + i | none, none => True | _, _ => False)
  | [], hh => ⟨none, hh, (fun i v h => by cases h), fun ι ck mes hk hm i0 => by
      have : mes = [] := List.eq_nil_of_length_eq_zero hm.1
      subst this
      exact ⟨none, rfl, trivial⟩⟩
  | (k', v') :: es, hh => by
    have hh' : eq k k' (fun z => Bool.casesOn z (fndM eq k es F N) (F v')) = some r := hh
    obtain ⟨z, h1, h2, h3⟩ := he _ _ _ _ hh'
    cases z with
    | true =>
      refine ⟨some (0, v'), h1, fun i v hiv => ?_, fun ι ck mes hk hm i0 => ?_⟩
      · cases hiv; exact ⟨k', rfl, h2 rfl⟩
      · cases mes with
        | nil => have := hm.1; simp at this
        | cons m mes =>
          have hm0 := hm.2 0 (k', v') m rfl rfl
          obtain ⟨q1, _, _⟩ := h3 ι ck m.key hk hm0.1
          exact ⟨some (i0, m.val), by simp [Go.Instr.findNow, q1], hm0.2, by omega⟩
    | false =>
      obtain ⟨res, g1, g2, g3⟩ := fndM_sound he es h1
      refine ⟨res.map fun p => (p.1 + 1, p.2), ?_, fun i v hiv => ?_, fun ι ck mes hk hm i0 => ?_⟩
      · cases res with
        | none => exact g1
        | some p => exact g1
      · cases res with
        | none => cases hiv
        | some p =>
          obtain ⟨i', v''⟩ := p
          simp only [Option.map_some, Option.some.injEq, Prod.mk.injEq] at hiv
          obtain ⟨rfl, rfl⟩ := hiv
          obtain ⟨k2, h4, h5⟩ := g2 _ _ rfl
          exact ⟨k2, by simpa using h4, h5⟩
      · cases mes with
        | nil => have := hm.1; simp at this
        | cons m mes =>
          have hm0 := hm.2 0 (k', v') m rfl rfl
          obtain ⟨q1, _, _⟩ := h3 ι ck m.key hk hm0.1
          have hm' : MR ι es mes := ⟨by have := hm.1; simpa using this, fun i p m' hp hm' => hm.2 (i + 1) p m' (by simpa using hp) (by simpa using hm')⟩
          obtain ⟨cres, g4, g5⟩ := g3 ι ck mes hk hm' (i0 + 1)
          refine ⟨cres, by simp [Go.Instr.findNow, q1, g4], ?_⟩
          cases res with
          | none => cases cres <;> exact g5
          | some p =>
            cases cres with
            | none => exact g5.elim
            | some q => exact ⟨g5.1, by have := g5.2; omega⟩
theorem zv_sound {t : TypeId} {z : V} (hz : zv P t = some z) : ∃ zc, (∀ w, (Go.zeroValue t).run P w = .ok zc w) ∧ ∀ ι, VR ι z zc := by
  unfold zv at hz
  cases hi : P.info? t with
  | none => rw [hi] at hz; cases hz
  | some i =>
    rw [hi] at hz
    cases hzz : i.zero with
    | none => rw [Option.bind_some, hzz] at hz; cases hz
    | some zc =>
      rw [Option.bind_some, hzz] at hz
      cases hz
      exact ⟨zc, fun w => run_zero hi hzz w, fun ι => cst_sound ι zc⟩
theorem lookup_run {t kt el : TypeId} {x i : Operand} {ok : Bool} (ho : o.op = .lookup t x i ok) (hd : P.underlying t = some (.map kt el)) {w : World} {a : Act} {m : Option Nat} {es : Array MapEntry} {cres : Option (Nat × Value)} {zc : Value}
    (hx : a.eval x = .map m) (hes : match m with | some r => ∃ clock, w.heap[r]? = some (.map es clock) | none => es = #[])
    (h1 : (Go.Instr.checkKey es.isEmpty 10000 kt (a.eval i)).run P w = .ok () w) (h2 : (Go.Instr.findKey kt (a.eval i) es.toList).run P w = .ok cres w) (hz : (Go.zeroValue el).run P w = .ok zc w) :
    (execOp a.eval o).run P w = .ok (.value (let p := (match cres with | some (_, v) => (v, true) | none => (zc, false)); if ok then .tuple #[p.1, .bool p.2] else p.1)) w := by
  cases m with
  | none =>
    simp only at hes
    subst hes
    have h1' : (Go.Instr.checkKey true 10000 kt (a.eval i)).run P w = .ok () w := h1
    have h2' : (Go.Instr.findKey kt (a.eval i) []).run P w = .ok cres w := h2
    cases cres with
    | none => simp [execOp, ho, hx, Go.Instr.lookup, Go.run_underlying hd, h1', h2', hz]
    | some q => simp [execOp, ho, hx, Go.Instr.lookup, Go.run_underlying hd, h1', h2']
  | some r =>
    simp only at hes
    obtain ⟨clock, hes⟩ := hes
    have hg := Go.MapKept.run_getObj_map (P := P) hes
    cases cres with
    | none => simp [execOp, ho, hx, Go.Instr.lookup, Go.run_underlying hd, hg, h1, h2, hz]
    | some q => simp [execOp, ho, hx, Go.Instr.lookup, Go.run_underlying hd, hg, h1, h2]
theorem g_lookup {t kt el : TypeId} {x i : Operand} {ok : Bool} {eq : V → V → (Bool → A) → A} {z : V} {K : V → A} {r : V × H} (ho : o.op = .lookup t x i ok) (hd : P.underlying t = some (.map kt el)) (hk : dKey P kt = some eq) (hz : zv P el = some z)
    (hh : eq (evA P e i) (evA P e i) (fun _ => lkp eq h (evA P e x) (evA P e i) z (fun v b => cd ok (K (.tup [v, .bool b])) (opn P el v K))) = some r) : ∃ v, K v = some r ∧ ∀ h2, Sup h h2 → GR P o e nt h2 v := by
  obtain ⟨d, hkd, hks⟩ := dKey_sound hk
  obtain ⟨zc, hz1, hz2⟩ := zv_sound hz
  obtain ⟨_, hh, _, hkk⟩ := hks _ _ _ _ hh
  -- the result out of a value and a bool
  have fin : ∀ (v : V) (b : Bool), cd ok (K (.tup [v, .bool b])) (opn P el v K) = some r → ∃ v', K v' = some r ∧ ∀ (ι : Inj) (cv : Value), VR ι v cv → VR ι v' (if ok then .tuple #[cv, .bool b] else cv) := by
    intro v b hq
    cases ok with
    | true => exact ⟨_, hq, fun ι cv hv => by simp only [if_true, VR]; exact ⟨_, rfl, VRs.cons hv (VRs.cons (by simp only [VR]) VRs.nil)⟩⟩
    | false => exact ⟨_, opn_some hq, fun ι cv hv => by simpa using hv⟩
  unfold lkp at hh
  rw [toM_some] at hh
  rcases hh with ⟨b, hv, hh⟩ | ⟨hv, hh⟩
  · rw [gM_some'] at hh
    obtain ⟨hb, es, hg, hh⟩ := hh
    obtain ⟨res, h1, _, h3⟩ := fndM_sound hks es hh
    have run : ∀ (h2 : H), Sup h h2 → ∀ (ι : Inj) (w : World) (a : Act), HR P ι h2 w → ER P ι e nt a → ∃ cres : Option (Nat × Value), (execOp a.eval o).run P w = .ok (.value (let p := (match cres with | some (_, v) => (v, true) | none => (zc, false)); if ok then .tuple #[p.1, .bool p.2] else p.1)) w ∧
        (match res, cres with | some (_, v), some (_, cv) => VR ι v cv | none, none => True | _, _ => False) := by
      intro h2 hs ι w a hr he
      have e1 := he.eval x; rw [hv] at e1; simp only [VR] at e1
      obtain ⟨L, hL, e1⟩ := e1
      obtain ⟨mes, clock, q1, q2⟩ := hr.blk b L _ hL (by rw [hs b hb]; exact hg)
      obtain ⟨cres, q3, q4⟩ := h3 ι (a.eval i) mes.toList (he.eval i) q2 0
      have hkey := (hkk ι (a.eval i) (a.eval i) (he.eval i) (he.eval i)).2.1
      refine ⟨cres, lookup_run ho hd e1 (es := mes) ⟨clock, q1⟩ (Go.MapKept.run_checkKey hkd hkey _ 9999) (Go.MapKept.run_findKey hkd q3) (hz1 w), ?_⟩
      cases res with
      | none => cases cres <;> exact q4
      | some p =>
        cases cres with
        | none => exact q4
        | some q => exact q4.1
    cases res with
    | none =>
      obtain ⟨v', f1, f2⟩ := fin z false h1
      refine ⟨v', f1, fun h2 hs ι w a hr he => ?_⟩
      obtain ⟨cres, r1, r2⟩ := run h2 hs ι w a hr he
      cases cres with
      | none => exact Good.quiet hr r1 (f2 ι zc (hz2 ι))
      | some q => exact r2.elim
    | some p =>
      obtain ⟨j, v⟩ := p
      obtain ⟨v', f1, f2⟩ := fin v true h1
      refine ⟨v', f1, fun h2 hs ι w a hr he => ?_⟩
      obtain ⟨cres, r1, r2⟩ := run h2 hs ι w a hr he
      cases cres with
      | none => exact r2.elim
      | some q => exact Good.quiet hr r1 (f2 ι q.2 r2)
  · obtain ⟨v', f1, f2⟩ := fin z false hh
    refine ⟨v', f1, fun h2 hs ι w a hr he => ?_⟩
    have e1 := he.eval x; rw [hv] at e1; simp only [VR] at e1
    have hkey := (hkk ι (a.eval i) (a.eval i) (he.eval i) (he.eval i)).2.1
    exact Good.quiet hr (lookup_run (cres := none) ho hd e1 (es := #[]) rfl (Go.MapKept.run_checkKey hkd hkey _ 9999) (Go.MapKept.run_findKey hkd rfl) (hz1 w)) (f2 ι zc (hz2 ι))
theorem g_lenM {c : Go.Call} {t kt el : TypeId} {x : Operand} {K : V → A} {r : V × H} (ho : o.op = .call c) (hc : c.callee = .builtin .len) (ht : c.argTypes[0]? = some t) (hx : c.args[0]? = some x) (hd : P.underlying t = some (.map kt el))
    (hh : lenM h (evA P e x) (fun n => K (.i n)) = some r) : ∃ v, K v = some r ∧ ∀ h2, Sup h h2 → GR P o e nt h2 v := by
  have hl : ∀ es : List (V × V), (List.rec (motive := fun _ => Nat) 0 (fun _ _ ih => Nat.succ ih) es : Nat) = es.length := by
    intro es
    induction es with
    | nil => rfl
    | cons p es ih => show Nat.succ _ = _; rw [ih]; rfl
  unfold lenM at hh
  rw [toM_some] at hh
  rcases hh with ⟨b, hv, hh⟩ | ⟨hv, hh⟩
  · rw [gM_some'] at hh
    obtain ⟨hb, es, hg, hh⟩ := hh
    rw [fN_eq, hl] at hh
    refine ⟨_, hh, fun h2 hs ι w a hr he => ?_⟩
    have e1 := he.eval x; rw [hv] at e1; simp only [VR] at e1
    obtain ⟨L, hL, e1⟩ := e1
    obtain ⟨mes, clock, q1, q2⟩ := hr.blk b L _ hL (by rw [hs b hb]; exact hg)
    refine Good.quiet (cv := .int .i64 (es.length : Nat)) hr ?_ (by simp only [VR]; rfl)
    have hsz : mes.size = es.length := by rw [← q2.1]; simp
    simp [execOp, ho, Go.resolve, hc, Go.invoke, Go.builtin, Go.Builtin.len_, ht, hx, e1, Go.run_underlying hd, Go.goInt, Go.MapKept.run_getObj_map q1, hsz]
  · refine ⟨_, hh, fun h2 hs ι w a hr he => ?_⟩
    have e1 := he.eval x; rw [hv] at e1; simp only [VR] at e1
    refine Good.quiet (cv := .int .i64 (0 : Nat)) hr ?_ (by simp only [VR]; rfl)
    simp [execOp, ho, Go.resolve, hc, Go.invoke, Go.builtin, Go.Builtin.len_, ht, hx, e1, Go.run_underlying hd, Go.goInt]
end
end GoEv
namespace GoEv
open Go (IntKind Value World Addr MapEntry Program Oper Op Operand Act Exit undef execOp Sem Result TypeId TypeDesc BinOp UnOp)
section
variable {P : Program} {o : Oper} {h : H} {ι : Inj} {w : World} {a : Act} {e : Env} {nt : Nat}
theorem sOf_some : ∀ (cs : List V) {K : Nat → A} {r : V × H}, sOf cs K = some r → ∃ ns : List Nat, cs = ns.map (fun n : Nat => V.u8 (n : Int)) ∧ (∀ n ∈ ns, n < 256) ∧ K (bn (ns.map UInt8.ofNat)) = some r
  | [], K, r, hh => ⟨[], rfl, by simp, hh⟩
  | v :: cs, K, r, hh => by
    cases v with
    | u8 z =>
      cases z with
      | ofNat m =>
        have hh' : (Bool.casesOn (Nat.ble (Nat.succ m) 256) none (sOf cs (fun n => fN (Nat.add m (Nat.mul 256 n)) K)) : A) = some r := hh
        rw [bool_none, ble_eq] at hh'
        obtain ⟨hm, hh'⟩ := hh'
        have hm : m < 256 := of_decide_eq_true hm
        obtain ⟨ns, rfl, hlt, h1⟩ := sOf_some cs hh'
        rw [fN_eq] at h1
        refine ⟨m :: ns, rfl, fun n hn => ?_, ?_⟩
        · rcases List.mem_cons.1 hn with rfl | hn
          · exact hm
          · exact hlt n hn
        have : bn ((m :: ns).map UInt8.ofNat) = Nat.add m (Nat.mul 256 (bn (ns.map UInt8.ofNat))) := by
          show (UInt8.ofNat m).toNat + 256 * bn (ns.map UInt8.ofNat) = m + 256 * bn (ns.map UInt8.ofNat)
          have : (UInt8.ofNat m).toNat = m := by simp; omega
          rw [this]
        rw [this]; exact h1
      | negSucc m => cases hh
    | _ => cases hh
theorem u8s_of : ∀ {ns : List Nat} {ls : List Value}, VRs ι (ns.map fun n : Nat => V.u8 (n : Int)) ls → ls = (ns.map fun n : Nat => (n : Int)).map (Value.int .u8)
  | [], ls, h => by simpa [VRs] using h
  | n :: ns, ls, h => by
    simp only [List.map_cons, VRs, VR] at h
    obtain ⟨x, xs, rfl, rfl, h2⟩ := h
    rw [u8s_of h2]; rfl
theorem foldl_push : ∀ (ns : List Nat) (s : ByteArray), ((ns.map fun n : Nat => (n : Int)).foldl (fun (r : ByteArray) (n : Int) => r.push (UInt8.ofNat n.toNat)) s).data.toList = s.data.toList ++ ns.map UInt8.ofNat
  | [], s => by simp
  | n :: ns, s => by
    rw [List.map_cons, List.foldl_cons, foldl_push ns]
    simp [ByteArray.push]
theorem g_b2s {s d el : TypeId} {x : Operand} {K : V → A} {r : V × H} (ho : o.op = .convert s d x) (hs : P.underlying s = some (.slice el)) (hd : P.underlying d = some .string) (he : P.underlying el = some (.int .u8))
    (hh : b2s h (evA P e x) (fun l n => K (.str l n)) = some r) : ∃ v, K v = some r ∧ ∀ h2, Sup h h2 → GR P o e nt h2 v := by
  unfold b2s at hh
  rw [toSl_some] at hh
  rcases hh with ⟨b, o', l, c, sz, k, hv, hh⟩ | ⟨hv, hh⟩
  · rw [gB_some'] at hh
    obtain ⟨hb, ro, fz, cs, hg, hh⟩ := hh
    rw [tkc_some] at hh
    obtain ⟨hn, hh⟩ := hh
    obtain ⟨ns, hns, hlt, hh⟩ := sOf_some _ hh
    refine ⟨_, hh, fun h2 hsup ι w a hr hea => ?_⟩
    have h1 := hea.eval x; rw [hv] at h1; simp only [VR] at h1
    obtain ⟨L, c', off, hL, h1, h3, h4, h5, h6, h7⟩ := h1
    obtain ⟨ls, q1, q2, q3, q4⟩ := hr.loads hL (by rw [hsup b hb]; exact hg) hn
    rw [hns] at q3
    have hls := u8s_of q3
    have hload : (Go.loadCells ⟨L.cb, off, none⟩ l).run P w = .ok ((ns.map fun n : Nat => (n : Int)).map (Value.int .u8)).toArray w := by
      rw [← hls, ← q1]
      refine Go.run_loadCells_list w _ ls fun j v hj => ?_
      rcases h3 with h3 | h3
      · subst h3; rw [Go.Addr.add_lit]; exact q2 j v hj
      · have : l = 0 := by omega
        subst this
        have : ls = [] := List.eq_nil_of_length_eq_zero (by simpa using q1)
        subst this; simp at hj
    have hrun := Go.run_bytesToString w ⟨L.cb, off, none⟩ l c' _ hload
    refine Good.quiet (cv := .string ((ns.map fun n : Nat => (n : Int)).foldl (fun r n => r.push (UInt8.ofNat n.toNat)) ByteArray.empty)) hr ?_ ?_
    · simp only [execOp, ho, h1]
      rw [Go.Sem.run_bind, Go.run_convert_bytes_string w s d el _ l c' hs he hd, hrun]
      rfl
    · simp only [VR]
      refine ⟨_, rfl, ?_, ?_⟩
      · rw [foldl_push]
        have : ns.length = l := by
          have := congrArg List.length hns
          rw [hn, List.length_map] at this
          exact this.symm
        simp [this]
      · rw [foldl_push]; simp
  · refine ⟨_, hh, fun h2 hsup ι w a hr hea => ?_⟩
    have h1 := hea.eval x; rw [hv] at h1; simp only [VR] at h1
    refine Good.quiet (cv := .string .empty) hr ?_ (by simp only [VR]; exact ⟨_, rfl, rfl, rfl⟩)
    simp only [execOp, ho, h1]
    rw [Go.Sem.run_bind, Go.run_convert_bytes_string w s d el _ 0 0 hs he hd]
    rfl
theorem liesAt_self {t : TypeId} {total off n : Nat} (h1 : 1 ≤ P.cellsOf t) (h2 : off % P.cellsOf t = 0) (h3 : off + n * P.cellsOf t ≤ total) : Go.liesAt P P.depth t (total / P.cellsOf t) off t n = true := by
  have hd : P.depth = (2 * (P.types.size + Go.Made.depth) + 1) + 1 := rfl
  rw [hd]
  simp only [Go.liesAt, Bool.or_eq_true]
  left
  have h4 : off / P.cellsOf t + n ≤ total / P.cellsOf t := by
    rw [Nat.le_div_iff_mul_le (by omega), Nat.add_mul]
    have := Nat.div_mul_cancel (Nat.dvd_of_mod_eq_zero h2)
    omega
  have h5 : ¬ P.cellsOf t = 0 := by omega
  rw [hd]
  simp [Go.rowAt, h5, h2, h4, Go.sameLayout]
theorem own_shape {ro : Bool} {fz : Nat} {l : List V} {b : Nat} {L : Loc} (hr : HR P ι h w) (hb : ι b = some L) (hg : h.get b = some (.cells ro fz l)) (ho : own (.cells ro fz l) = true) : w.shape? L.cb = some (fz, L.base + L.room) ∧ L.base % P.cellsOf fz = 0 ∧ l.length ≤ L.room := by
  obtain ⟨h1, h2, h3, h4, h5⟩ := hr.blk b L _ hb hg
  exact ⟨(h5 ho).1, (h5 ho).2, h2⟩
theorem g_p2u {s d t : TypeId} {x : Operand} {K : V → A} {r : V × H} (ho : o.op = .convert s d x) (hs : P.underlying s = some (.pointer t)) (hd : P.underlying d = some .unsafePointer) (ht : 1 ≤ P.cellsOf t)
    (hh : p2u h (evA P e x) K = some r) : ∃ v, K v = some r ∧ ∀ h2, Sup h h2 → GR P o e nt h2 v := by
  obtain ⟨i, hi⟩ := info_of_cells (show P.cellsOf t ≠ 0 by omega)
  cases hv : evA P e x <;> rw [hv] at hh <;> simp only [p2u] at hh <;> first | cases hh | skip
  · rename_i b o'
    rw [gB_some'] at hh
    obtain ⟨hb, ro, fz, cs, hg, hh⟩ := hh
    rw [wr_some, bool_none, ble_eq, len_eq] at hh
    obtain ⟨rfl, h1, hh⟩ := hh
    have hlt : o' < cs.length := of_decide_eq_true h1
    refine ⟨_, hh, fun h2 hsup ι w a hr he => ?_⟩
    have e1 := he.eval x; rw [hv] at e1; simp only [VR] at e1
    obtain ⟨L, hL, e1⟩ := e1
    obtain ⟨q1, q2, q3⟩ := own_shape hr hL (by rw [hsup b hb]; exact hg) rfl
    refine Good.quiet (cv := .pointer (some ⟨L.cb, L.base + o', none⟩)) hr ?_ (by simp only [VR]; exact ⟨L, hL, rfl⟩)
    have hnot : ¬ (L.base + L.room ≤ L.base + o') := by omega
    have hne : ¬ P.cellsOf t = 0 := by omega
    simp [execOp, ho, e1, Go.convert, Go.run_underlying hs, Go.run_underlying hd, Go.Conv.unsafePointer, Go.Conv.seenAt, Go.viewAt, Go.cellsIn, q1, run_size hi, hnot, hne]
  · refine ⟨_, hh, fun h2 hsup ι w a hr he => ?_⟩
    have e1 := he.eval x; rw [hv] at e1; simp only [VR] at e1
    refine Good.quiet (cv := .pointer none) hr ?_ (by simp only [VR])
    simp [execOp, ho, e1, Go.convert, Go.run_underlying hs, Go.run_underlying hd, Go.Conv.unsafePointer]
theorem g_u2p {s d t : TypeId} {x : Operand} {K : V → A} {r : V × H} (ho : o.op = .convert s d x) (hs : P.underlying s = some .unsafePointer) (hd : P.underlying d = some (.pointer t)) (ht : 1 ≤ P.cellsOf t)
    (hh : u2p h t (P.cellsOf t) (evA P e x) K = some r) : ∃ v, K v = some r ∧ ∀ h2, Sup h h2 → GR P o e nt h2 v := by
  obtain ⟨i, hi⟩ := info_of_cells (show P.cellsOf t ≠ 0 by omega)
  cases hv : evA P e x <;> rw [hv] at hh <;> simp only [u2p] at hh <;> first | cases hh | skip
  · rename_i b o'
    rw [gB_some'] at hh
    obtain ⟨hb, ro, fz, cs, hg, hh⟩ := hh
    rw [wr_some, bool_none, beq_eq, bool_none, beq_eq, bool_none, ble_eq, len_eq] at hh
    obtain ⟨rfl, h1, h2, h3, hh⟩ := hh
    have hft : fz = t := of_decide_eq_true h1
    subst hft
    have hm : o' % P.cellsOf fz = 0 := of_decide_eq_true h2
    have hle : o' + P.cellsOf fz ≤ cs.length := of_decide_eq_true h3
    refine ⟨_, hh, fun h2 hsup ι w a hr he => ?_⟩
    have e1 := he.eval x; rw [hv] at e1; simp only [VR] at e1
    obtain ⟨L, hL, e1⟩ := e1
    obtain ⟨q1, q2, q3⟩ := own_shape hr hL (by rw [hsup b hb]; exact hg) rfl
    refine Good.quiet (cv := .pointer (some ⟨L.cb, L.base + o', none⟩)) hr ?_ (by simp only [VR]; exact ⟨L, hL, rfl⟩)
    have hlies : Go.liesAt P P.depth fz ((L.base + L.room) / P.cellsOf fz) (L.base + o') fz 1 = true := liesAt_self ht (by rw [Nat.add_mod, q2, hm]; simp) (by omega)
    have hne : ¬ P.cellsOf fz = 0 := by omega
    simp [execOp, ho, e1, Go.convert, Go.run_underlying hs, Go.run_underlying hd, Go.Conv.unsafePointer, Go.Conv.seenAt, Go.viewAt, q1, run_size hi, hne, Go.variablesAt, hlies]
  · refine ⟨_, hh, fun h2 hsup ι w a hr he => ?_⟩
    have e1 := he.eval x; rw [hv] at e1; simp only [VR] at e1
    refine Good.quiet (cv := .pointer none) hr ?_ (by simp only [VR])
    simp [execOp, ho, e1, Go.convert, Go.run_underlying hs, Go.run_underlying hd, Go.Conv.unsafePointer]
theorem rep_length (z : List V) : ∀ n, (rep n z).length = n * z.length
  | 0 => by simp [rep_zero]
  | n + 1 => by rw [rep_succ, List.length_append, rep_length z n, Nat.add_mul]; omega
theorem rep_get (z : List V) : ∀ (n i : Nat), i < n * z.length → (rep n z)[i]? = z[i % z.length]?
  | 0, i, h => by simp at h
  | n + 1, i, h => by
    rw [rep_succ]
    by_cases hi : i < z.length
    · rw [List.getElem?_append_left hi, Nat.mod_eq_of_lt hi]
    · rw [List.getElem?_append_right (by omega), rep_get z n _ (by rw [Nat.add_mul] at h; omega), ← Nat.mod_eq_sub_mod (by omega)]
theorem rep_VRs' {z : List V} {zc : Array Value} {n : Nat} (hz : VRs ι z zc.toList) (h1 : ∀ y ∈ zc.toList, y.oneCell' = true) :
    VRs ι (rep n z) (Go.madeCells zc (n * zc.size)).toList ∧ ∀ y ∈ (Go.madeCells zc (n * zc.size)).toList, y.oneCell' = true := by
  have hl : zc.size = z.length := by rw [← hz.length]; simp
  have get : ∀ i, i < n * z.length → ∃ x, zc.toList[i % z.length]? = some x ∧ (Go.madeCells zc (n * zc.size)).toList[i]? = some x := by
    intro i hi
    have hpos : 0 < z.length := by
      rcases Nat.eq_zero_or_pos z.length with h0 | h0
      · rw [h0] at hi; omega
      · exact h0
    have hlt : i % z.length < zc.size := by rw [hl]; exact Nat.mod_lt _ hpos
    refine ⟨zc[i % z.length], by rw [List.getElem?_eq_getElem (by simpa using hlt)]; simp, ?_⟩
    unfold Go.madeCells
    have hin : i < n * zc.size := by rw [hl]; exact hi
    rw [Array.toList_map, List.getElem?_map, Array.toList_range, List.getElem?_range hin]
    simp only [Option.map_some, hl]
    rw [getElem!_pos zc _ hlt]
  refine ⟨VRs.of (by rw [rep_length]; simp [Go.size_madeCells, hl]) fun i v x hi hx => ?_, fun y hy => ?_⟩
  · have hin : i < n * z.length := by
      have := (List.getElem?_eq_some_iff.1 hi).1
      rwa [rep_length] at this
    rw [rep_get z n i hin] at hi
    obtain ⟨x', h2, h3⟩ := get i hin
    rw [hx] at h3; cases h3
    obtain ⟨x', h4, h5⟩ := hz.get _ v hi
    rw [h2] at h4; cases h4
    exact h5
  · obtain ⟨i, hi, rfl⟩ := List.mem_iff_getElem.1 hy
    have hin : i < n * z.length := by
      rw [← hl]; simpa [Go.size_madeCells] using hi
    obtain ⟨x', h2, h3⟩ := get i hin
    rw [List.getElem?_eq_getElem hi] at h3
    cases h3
    exact h1 _ (List.mem_of_getElem? h2)
theorem ga_makeSlice {t el : TypeId} {i : Go.TypeInfo} {l c : Operand} {m n : Int} {z : List V} {K : Blk → (Nat → V) → A} {r : V × H} (ho : o.op = .makeSlice t l c) (hd : P.underlying t = some (.slice el)) (hi : P.info? el = some i) (h1 : 1 ≤ i.size) (hz : zcs P el = some z) (hzl : z.length = i.size)
    (hl : evA P e l = .i m) (hc : evA P e c = .i n) (hh : mkS i.bytes z m n (fun cs l c => K (.cells false el cs) fun b => .sl b 0 l c i.size true) = some r) : ∃ x vf, K x vf = some r ∧ GA P o e nt x vf := by
  unfold mkS at hh
  cases m with
  | negSucc m => cases hh
  | ofNat m =>
    cases n with
    | negSucc n => cases hh
    | ofNat n =>
      have hh' : (Bool.casesOn (Nat.ble m n) none (Bool.casesOn (Nat.ble (Nat.mul i.bytes n) 281474976710656) none (Bool.casesOn (Nat.ble n 16777216) none (K (.cells false el (rep n z)) fun b => .sl b 0 m n i.size true))) : A) = some r := hh
      rw [bool_none, ble_eq, bool_none, ble_eq, bool_none, ble_eq] at hh'
      obtain ⟨q1, q2, q3, hh⟩ := hh'
      have q1 := of_decide_eq_true q1
      have q2 : i.bytes * n ≤ 281474976710656 := of_decide_eq_true q2
      have q3 := of_decide_eq_true q3
      obtain ⟨i', zv, hi', hzz, rfl, ho1⟩ := zcs_some hz
      rw [hi] at hi'; cases hi'
      refine ⟨_, _, hh, fun h ι w a hr he => ?_⟩
      have e1 := he.eval l; rw [hl] at e1; simp only [VR] at e1
      have e2 := he.eval c; rw [hc] at e2; simp only [VR] at e2
      have hzs : zv.cells.size = i.size := by rw [← hzl]; simp
      obtain ⟨g1, g2⟩ := rep_VRs' (n := n) (cst1s_sound ι zv.cells.toList) ho1
      have h9 : (i.bytes : Int) * ((n : Nat) : Int) ≤ ((281474976710656 : Nat) : Int) := by
        rw [← Int.natCast_mul]; exact Int.ofNat_le.2 q2
      have hrun := Go.run_make (P := P) w t el i zv hd hi hzz .i64 .i64 (m : Int) (n : Int) (by omega) (by omega) h9 (by omega)
      refine ⟨.slice (some ⟨w.heap.size, 0, none⟩) m n, w, .cells (Go.madeCells zv.cells (n * zv.cells.size)) el, (rep n (zv.cells.toList.map cst1)).length, ?_, .inl rfl, row_BR' g1 g2 rfl, fun ι' b hb => ?_⟩
      · rw [hzs]
        have hrun' : (Go.Instr.makeSlice t (.int .i64 (m : Int)) (.int .i64 (n : Int))).run P w = .ok (.slice (some ⟨w.heap.size, 0, none⟩) m n) (w.alloc (.cells (Go.madeCells zv.cells (n * i.size)) el)) := by rw [Int.toNat_natCast, Int.toNat_natCast] at hrun; exact hrun
        have e1' : a.eval l = .int .i64 (m : Int) := e1
        have e2' : a.eval c = .int .i64 (n : Int) := e2
        simp only [execOp, ho, e1', e2', Go.Sem.run_bind, hrun', Go.Result.andThen_ok, Go.Sem.run_pure]
      · simp only [VR]
        refine ⟨_, n, 0, hb, rfl, .inl rfl, ?_, q1, Nat.le_refl _, fun _ => rfl⟩
        show 0 + n * i.size ≤ (rep n (zv.cells.toList.map cst1)).length
        rw [rep_length, hzl, Nat.zero_add]; exact Nat.le_refl _
end
end GoEv
namespace GoEv
open Go (IntKind Value World Addr MapEntry Program Oper Op Operand Act Exit undef execOp Sem Result TypeId TypeDesc BinOp UnOp)
section
variable {P : Program} {o : Oper} {h : H} {ι : Inj} {w : World} {a : Act} {e : Env} {nt : Nat}
theorem own_live {x : Blk} (h : own x = true) : live x = true := by cases x <;> first | rfl | cases h
/-- a block of the call's own is written anew -/
theorem HR.upd (hr : HR P ι h w) {b : Nat} {L : Loc} {x x' : Blk} (hb : ι b = some L) (hg : h.get b = some x) (hx : own x = true) {w' : World} (hw : ∀ c, c ≠ L.cb → w'.heap[c]? = w.heap[c]?) (hsz : w'.heap.size = w.heap.size)
    (hos : w'.os = w.os ∧ w'.tape = w.tape ∧ w'.output = w.output) (hbr : BR P ι x' L w') : HR P ι (h.put b x') w' ∧ Ext h ι w (h.put b x') ι w' := by
  refine ⟨⟨fun c hc => ?_, fun c L' hc => ?_, fun c L' y hc hy => ?_, fun c c' L1 L2 y y' hne hc hc' hy hy' ho hl => ?_, H.wf_put (hr.lt_n hb) hr.wf⟩, ⟨Sub.refl _, ?_, fun c y hc hy ho => ?_, hos.1, hos.2.1, hos.2.2, ?_, fun c hc hno => ?_, fun c _ hn => ?_, fun c L' h1 h2 => ?_⟩⟩
  · rw [H.n_put] at hc; exact hr.dom c hc
  · rw [hsz]; exact hr.lt c L' hc
  · rw [H.get_put] at hy
    by_cases e : c = b
    · subst e; rw [hb] at hc; cases hc; rw [if_pos rfl] at hy; cases hy; exact hbr
    · rw [if_neg e] at hy
      have hbr' := hr.blk c L' y hc hy
      cases hly : live y with
      | false => cases y <;> first | trivial | cases hly
      | true =>
        have hne := hr.apart b c L L' _ y (Ne.symm e) hb hc hg hy hx hly
        exact hbr'.same (Sub.refl _) (hw _ (Ne.symm hne))
  · rw [H.get_put] at hy hy'
    by_cases e : c = b
    · subst e
      rw [if_neg (Ne.symm hne)] at hy'
      exact hr.apart c c' L1 L2 _ y' hne hc hc' hg hy' hx hl
    · rw [if_neg e] at hy
      by_cases e' : c' = b
      · subst e'
        exact hr.apart c c' L1 L2 y _ hne hc hc' hy hg ho (own_live hx)
      · rw [if_neg e'] at hy'
        exact hr.apart c c' L1 L2 y y' hne hc hc' hy hy' ho hl
  · rw [H.n_put]; exact Nat.le_refl _
  · rw [H.get_put] at hy
    by_cases e : c = b
    · subst e; exact ⟨_, hg, hx⟩
    · rw [if_neg e] at hy; exact ⟨y, hy, ho⟩
  · rw [hsz]; exact Nat.le_refl _
  · exact hw c fun e => hno b L _ hb hg hx e.symm
  · rw [H.get_put, if_neg (fun e => by rw [e, hb] at hn; cases hn)]
  · rw [h1] at h2; cases h2

/-! ### maps -/
theorem MR.push {es : List (V × V)} {mes : Array MapEntry} {k v : V} {ck cv : Value} {n : Nat} (h : MR ι es mes.toList) (hk : VR ι k ck) (hv : VR ι v cv) : MR ι (es ++ [(k, v)]) (mes.push { key := ck, val := cv, born := n }).toList := by
  have hl : mes.size = es.length := by rw [← h.1]; simp
  refine ⟨by simp [hl], fun i p m hp hm => ?_⟩
  rw [Array.toList_push] at hm
  by_cases hi : i < es.length
  · rw [List.getElem?_append_left hi] at hp
    rw [List.getElem?_append_left (by rw [h.1]; exact hi)] at hm
    exact h.2 i p m hp hm
  · rw [List.getElem?_append_right (by omega)] at hp
    rw [List.getElem?_append_right (by rw [h.1]; omega), h.1] at hm
    have : i - es.length = 0 := by
      have := (List.getElem?_eq_some_iff.1 hp).1
      simp at this; omega
    rw [this] at hp hm
    cases hp; cases hm
    exact ⟨hk, hv⟩
theorem MR.modify {es : List (V × V)} {mes : Array MapEntry} {k v : V} {ck cv : Value} {i : Nat} (h : MR ι es mes.toList) (hk : VR ι k ck) (hv : VR ι v cv) : MR ι (es.set i (k, v)) (mes.modify i fun e => { e with key := ck, val := cv }).toList := by
  refine ⟨by simp [h.1], fun j p m hp hm => ?_⟩
  simp only [Array.toList_modify] at hm
  rw [List.getElem?_modify] at hm
  rw [List.getElem?_set] at hp
  cases hmj : mes.toList[j]? with
  | none => rw [hmj] at hm; cases hm
  | some m0 =>
    rw [hmj] at hm
    by_cases e : i = j
    · subst e
      simp at hm
      subst hm
      split at hp
      · split at hp
        · cases hp; exact ⟨hk, hv⟩
        · cases hp
      · rename_i h'; exact absurd rfl h'
    · rw [if_neg e] at hp
      simp [e] at hm
      subst hm
      exact h.2 j p m0 hp hmj
def setR (es : List (V × V)) (p : V × V) : Option Nat → List (V × V)
  | some i => es.set i p
  | none => es ++ [p]
theorem setM_sound {d : TypeDesc} {eq : V → V → (Bool → A) → A} (he : KS d eq) {k v : V} : ∀ (es : List (V × V)) {K : List (V × V) → A} {r : V × H}, setM eq k v es K = some r →
    ∃ res : Option Nat, K (setR es (k, v) res) = some r ∧
      ∀ (ι : Inj) (ck : Value) (mes : List MapEntry), VR ι k ck → MR ι es mes → ∀ i0, ∃ cres, Go.Instr.findNow d ck mes i0 = some cres ∧
        (match res, cres with | some i, some (j, _) => j = i0 + i ∧ ∃ m, mes[i]? = some m ∧ Go.Instr.sameBits 10000 m.key ck = true | none, none => True | _, _ => False)
  | [], K, r, hh => ⟨none, hh, fun ι ck mes hk hm i0 => by
      have : mes = [] := List.eq_nil_of_length_eq_zero hm.1
      subst this
      exact ⟨none, rfl, trivial⟩⟩
  | (k', v') :: es, K, r, hh => by
    have hh' : eq k k' (fun z => Bool.casesOn z (setM eq k v es fun r => K ((k', v') :: r)) (K ((k, v) :: es))) = some r := hh
    obtain ⟨z, h1, h2, h3⟩ := he _ _ _ _ hh'
    cases z with
    | true =>
      refine ⟨some 0, h1, fun ι ck mes hk hm i0 => ?_⟩
      cases mes with
      | nil => have := hm.1; simp at this
      | cons m mes =>
        have hm0 := hm.2 0 (k', v') m rfl rfl
        obtain ⟨q1, _, q3⟩ := h3 ι ck m.key hk hm0.1
        exact ⟨some (i0, m.val), by simp [Go.Instr.findNow, q1], by omega, m, rfl, q3 rfl⟩
    | false =>
      obtain ⟨res, g1, g3⟩ := setM_sound he es h1
      refine ⟨res.map (· + 1), ?_, fun ι ck mes hk hm i0 => ?_⟩
      · cases res with
        | none => exact g1
        | some p => exact g1
      · cases mes with
        | nil => have := hm.1; simp at this
        | cons m mes =>
          have hm0 := hm.2 0 (k', v') m rfl rfl
          obtain ⟨q1, _, _⟩ := h3 ι ck m.key hk hm0.1
          have hm' : MR ι es mes := ⟨by have := hm.1; simpa using this, fun i p m' hp hm' => hm.2 (i + 1) p m' (by simpa using hp) (by simpa using hm')⟩
          obtain ⟨cres, g4, g5⟩ := g3 ι ck mes hk hm' (i0 + 1)
          refine ⟨cres, by simp [Go.Instr.findNow, q1, g4], ?_⟩
          cases res with
          | none => cases cres <;> exact g5
          | some p =>
            cases cres with
            | none => exact g5.elim
            | some q =>
              obtain ⟨j, cv⟩ := q
              obtain ⟨g6, m1, g7, g8⟩ := g5
              exact ⟨by show j = i0 + (p + 1); omega, m1, by simpa using g7, g8⟩
theorem g_insert {t kt el : TypeId} {m k x : Operand} {eq : V → V → (Bool → A) → A} {K : V → H → A} {r : V × H} (ho : o.op = .insert t m k x ∨ o.op = .mapUpdate t m k x) (hd : P.underlying t = some (.map kt el)) (hk : dKey P kt = some eq)
    (hh : eq (evA P e k) (evA P e k) (fun _ => ins eq h (evA P e m) (evA P e k) (evA P e x) (fun h => K (.tup []) h)) = some r) : ∃ v h', K v h' = some r ∧ GW P o e nt h v h' := by
  obtain ⟨d, hkd, hks⟩ := dKey_sound hk
  obtain ⟨_, hh, _, hkk⟩ := hks _ _ _ _ hh
  unfold ins at hh
  rw [toM_some] at hh
  rcases hh with ⟨b, hv, hh⟩ | ⟨hv, hh⟩
  · rw [gM_some'] at hh
    obtain ⟨hb, es, hg, hh⟩ := hh
    obtain ⟨res, h1, h3⟩ := setM_sound hks es hh
    rw [pB_eq] at h1
    refine ⟨_, _, h1, fun ι w a hr he => ?_⟩
    have e1 := he.eval m; rw [hv] at e1; simp only [VR] at e1
    obtain ⟨L, hL, e1⟩ := e1
    obtain ⟨mes, clock, q1, q2⟩ := hr.blk b L _ hL hg
    obtain ⟨cres, q3, q4⟩ := h3 ι (a.eval k) mes.toList (he.eval k) q2 0
    have hkey := (hkk ι (a.eval k) (a.eval k) (he.eval k) (he.eval k)).2.1
    have hck := Go.MapKept.run_checkKey (P := P) (w := w) hkd hkey false 9999
    have hfk := Go.MapKept.run_findKey (P := P) (w := w) hkd q3
    have hgo := Go.MapKept.run_getObj_map (P := P) q1
    have hlt : L.cb < w.heap.size := hr.lt b L hL
    have fin : ∀ (mes' : Array MapEntry) (clock' : Nat), MR ι (setR es (evA P e k, evA P e x) res) mes'.toList → (execOp a.eval o).run P w = .ok .skip { w with heap := w.heap.setIfInBounds L.cb (.map mes' clock') } →
        Good P o h ι w a (.tup []) (h.put b (.map (setR es (evA P e k, evA P e x) res))) := by
      intro mes' clock' hm hrun
      obtain ⟨g1, g2⟩ := hr.upd (x' := .map (setR es (evA P e k, evA P e x) res)) hL hg rfl (w' := { w with heap := w.heap.setIfInBounds L.cb (.map mes' clock') }) (fun c hc => by simp [Array.getElem?_setIfInBounds_ne (Ne.symm hc)]) (by simp) ⟨rfl, rfl, rfl⟩
        ⟨mes', clock', by simp [hlt], hm⟩
      exact Good.skip hrun g1 g2
    have hso := fun o => Go.MapKept.run_setObj_map (P := P) o q1
    cases res with
    | none =>
      cases cres with
      | some q => exact q4.elim
      | none =>
        refine fin (mes.push { key := a.eval k, val := a.eval x, born := clock }) (clock + 1) (q2.push (he.eval k) (he.eval x)) ?_
        rcases ho with ho | ho <;> simp [execOp, ho, e1, Go.Instr.mapUpdate, Go.run_underlying hd, hgo, hck, hfk, hso]
    | some i =>
      cases cres with
      | none => exact q4.elim
      | some q =>
        obtain ⟨j, cv⟩ := q
        obtain ⟨hj, m0, hm0, hsb⟩ := q4
        have hj' : j = i := by omega
        subst hj'
        have hm0' : mes[j]? = some m0 := by rw [← hm0]; simp
        refine fin (mes.modify j fun e => { e with key := a.eval k, val := a.eval x }) clock (q2.modify (he.eval k) (he.eval x)) ?_
        rcases ho with ho | ho <;> simp [execOp, ho, e1, Go.Instr.mapUpdate, Go.run_underlying hd, hgo, hck, hfk, hso, hm0', Go.Instr.keyThatStays, hsb]
  · cases hh
end
end GoEv
namespace GoEv
open Go (IntKind Value World Addr MapEntry Program Oper Op Operand Act Exit undef execOp Sem Result TypeId TypeDesc BinOp UnOp)
section
variable {P : Program} {o : Oper} {h : H} {ι : Inj} {w : World} {a : Act} {e : Env} {nt : Nat}
/-! ### strings and bytes -/
theorem bytesWorld_eq (w : World) (el : TypeId) (s : ByteArray) : Go.Lib.bytesWorld w el s = w.drew.alloc (.cells (Go.Lib.bytesCells w el s) el ((Go.Lib.bytesCells w el s).size, (Go.Lib.bytesCells w el s).size + 1)) := by
  unfold Go.Lib.bytesWorld
  generalize Go.Lib.bytesCells w el s = c
  have : ((w.drew.alloc (.cells c el)).freeze ⟨w.heap.size, c.size, none⟩ 1).heap = (w.drew.alloc (.cells c el (c.size, c.size + 1))).heap := by
    apply Array.ext_getElem?
    intro i
    simp only [Go.World.freeze, Go.World.alloc, Go.World.drew]
    simp only [Nat.one_ne_zero, if_false, Array.getElem?_modify, Array.getElem?_push]
    by_cases e : w.heap.size = i
    · subst e; simp
    · simp [e, Ne.symm e]
  have h2 : ∀ (x y : World), x.heap = y.heap → x.tape = y.tape → x.drawn = y.drawn → x.os = y.os → x.output = y.output → x = y := by
    intro x y; cases x; cases y; simp; intros; simp_all
  exact h2 _ _ this (by unfold Go.World.freeze; split <;> rfl) (by unfold Go.World.freeze; split <;> rfl) (by unfold Go.World.freeze; split <;> rfl) (by unfold Go.World.freeze; split <;> rfl)
theorem g_s2b {s d el : TypeId} {x : Operand} {l n : Nat} {K : V → H → A} {r : V × H} (ho : o.op = .convert s d x) (hs : P.underlying s = some .string) (hd : P.underlying d = some (.slice el)) (he : P.underlying el = some (.int .u8)) (hx : evA P e x = .str l n)
    (hh : s2b h el l n K = some r) : ∃ v h', K v h' = some r ∧ GW P o e nt h v h' := by
  unfold s2b at hh
  rw [bool_none, al_eq] at hh
  refine ⟨_, _, hh.2, fun ι w a hr hea => ?_⟩
  have h1 := hea.eval x; rw [hx] at h1; simp only [VR] at h1
  obtain ⟨st, h1, hst⟩ := h1
  have hb := bytes_sound ι st.data.toList
  rw [hst.1, hst.2] at hb
  have hsz : st.size = l := hst.size
  have hdl : st.data.size = l := hsz
  have hrun := Go.Lib.run_convert_string_bytes (P := P) w s d el st hs hd he
  rw [bytesWorld_eq] at hrun
  have hcs : (Go.Lib.bytesCells w el st).toList = (st.data.toList.map fun b => Value.int .u8 b.toNat) ++ List.replicate (Go.grownCap w st.size 0 el - st.size) (.int .u8 0) := by simp [Go.Lib.bytesCells]
  have hlen : l ≤ (Go.Lib.bytesCells w el st).size := by
    have := congrArg List.length hcs
    simp [hdl] at this; omega
  obtain ⟨ι', q1, q2, q3⟩ := hr.drew.push (.cells false el (bytes l n)) (.cells (Go.Lib.bytesCells w el st) el ((Go.Lib.bytesCells w el st).size, (Go.Lib.bytesCells w el st).size + 1)) (Go.Lib.bytesCells w el st).size (fun ι' hsub => by
    have hcell : ∀ i, (w.drew.alloc (.cells (Go.Lib.bytesCells w el st) el ((Go.Lib.bytesCells w el st).size, (Go.Lib.bytesCells w el st).size + 1))).cell? ⟨w.heap.size, i, none⟩ = (Go.Lib.bytesCells w el st)[i]? := by
      intro i
      simp [Go.World.cell?, Go.World.alloc, Go.World.drew, -Go.World.alloc_eq, -Go.World.drew_eq]
    refine ⟨fun i v hv => ?_, by rw [bytes_length]; exact hlen, fun i hi => ?_, fun _ i hi => ?_, fun _ => ⟨?_, Nat.zero_mod _⟩⟩
    · obtain ⟨y, g1, g2⟩ := hb.get i v hv
      refine ⟨y, ?_, VR.mono hsub _ _ g2⟩
      show (w.drew.alloc _).cell? ⟨w.heap.size, 0 + i, none⟩ = _
      rw [Nat.zero_add, hcell, ← Array.getElem?_toList, hcs, List.getElem?_append_left (List.getElem?_eq_some_iff.1 g1).1, g1]
    · refine ⟨(Go.Lib.bytesCells w el st)[i], ?_, ?_⟩
      · show (w.drew.alloc _).cell? ⟨w.heap.size, 0 + i, none⟩ = _
        rw [Nat.zero_add, hcell, Array.getElem?_eq_getElem hi]
      · have : (Go.Lib.bytesCells w el st)[i] ∈ (Go.Lib.bytesCells w el st).toList := by simp
        rw [hcs] at this
        rcases List.mem_append.1 this with h5 | h5
        · obtain ⟨z, _, hz⟩ := List.mem_map.1 h5; rw [← hz]; rfl
        · rw [(List.mem_replicate.1 h5).2]; rfl
    · show (w.drew.alloc _).frozen? ⟨w.heap.size, 0 + i, none⟩ = false
      simp [Go.World.frozen?, Go.World.alloc, Go.World.drew, -Go.World.alloc_eq, -Go.World.drew_eq]
      intro h5
      have : i < (Go.Lib.bytesCells w el st).size := hi
      omega
    · show (w.drew.alloc _).shape? w.heap.size = some (el, 0 + _)
      simp [Go.World.shape?, Go.World.alloc, Go.World.drew, -Go.World.alloc_eq, -Go.World.drew_eq])
  have q1' : ι' h.n = some ⟨w.heap.size, 0, (Go.Lib.bytesCells w el st).size⟩ := q1
  refine Good.value (cv := .slice (some ⟨w.heap.size, 0, none⟩) st.size (Go.grownCap w st.size 0 el)) ?_ ?_ q2 (Ext.trans hr.dom (Ext.refl h ι w).drew q3)
  · simp only [execOp, ho, h1]
    rw [Go.Sem.run_bind, hrun]
    rfl
  · simp only [VR]
    have hsize : (Go.Lib.bytesCells w el st).size = max l (Go.grownCap w st.size 0 el) := by
      have := congrArg List.length hcs
      simp [hdl] at this; omega
    have hgc : l ≤ Go.grownCap w st.size 0 el := by rw [← hsz]; exact Go.grownCap_ge w st.size 0 el
    refine ⟨_, Go.grownCap w st.size 0 el, 0, q1', by rw [hsz], .inl rfl, ?_, Nat.le_refl _, hgc, fun hq => nomatch hq⟩
    show 0 + Go.grownCap w st.size 0 el * 1 ≤ (Go.Lib.bytesCells w el st).size
    omega
theorem ust_def (ats : Array TypeId) (ty : TypeId) (p : Option Addr) (len : Value) : Go.Builtin.unsafeString_ ats ty #[.pointer p, len] =
      (do
        let n ← Go.asInt len
        let some pt := ats[0]? | Go.stuck "unsafe.String: no argument types"
        if n < 0 then Go.runtimePanic (.error "unsafe.String: len out of range")
        if n > IntKind.i64.max then Go.unsupported (.unsafePointer "String: a length above the largest int")
        match p with
        | none =>
          if n = 0 then pure (.string .empty)
          else Go.runtimePanic (.error "unsafe.String: ptr is nil and len is not zero")
        | some a =>
          if n = 0 then pure (.string .empty)
          else if ← Go.variablesAt a (← Go.elemOf pt) n.toNat then do
            let s ← Go.loadBytes a .empty n.toNat
            Go.freeze a n.toNat
            pure (.string s)
          else Go.unsupported (.unsafePointer "String: not so many bytes at ptr")) := rfl
theorem run_ust0 {ats : Array TypeId} {ty pt : TypeId} (ht : ats[0]? = some pt) (p : Option Addr) : (Go.Builtin.unsafeString_ ats ty #[.pointer p, .int .i64 0]).run P w = .ok (.string .empty) w := by
  have hmax : IntKind.i64.max = 9223372036854775807 := rfl
  rw [ust_def]
  cases p <;> simp [Go.asInt, Go.asIntOf, hmax, ht]
theorem run_ust {ats : Array TypeId} {ty pt el : TypeId} (ht : ats[0]? = some pt) (hp : P.underlying pt = some (.pointer el)) (hc : P.cellsOf el = 1) (ad : Addr) (cells : Nat) (hsh : w.shape? ad.block = some (el, cells)) (l : List UInt8) (h0 : l ≠ []) (hn : ad.off + l.length ≤ cells) (h63 : l.length ≤ 9223372036854775807)
    (hcell : ∀ j x, l[j]? = some x → w.cell? (ad.add j) = some (.int .u8 x.toNat)) :
    (Go.Builtin.unsafeString_ ats ty #[.pointer (some ad), .int .i64 l.length]).run P w = .ok (.string ⟨l.toArray⟩) (w.freeze ad l.length) := by
  have hl : l.length ≠ 0 := by simpa using h0
  have hlb := Go.Lib.run_loadBytes (P := P) w l ad .empty hcell
  have hlies := liesAt_self (P := P) (t := el) (total := cells) (off := ad.off) (n := l.length) (by omega) (by rw [hc]; exact Nat.mod_one _) (by rw [hc]; omega)
  have h63' : ¬ (9223372036854775807 : Int) < (l.length : Int) := by omega
  rw [ust_def]
  have hmax : IntKind.i64.max = 9223372036854775807 := rfl
  have hneg : ¬ (l.length : Int) < 0 := by omega
  simp [Go.asInt, Go.asIntOf, hmax, h63', hneg, hl, Go.variablesAt, hsh, Go.elemOf, Go.run_underlying hp, hlies, hlb, ht]
theorem freeze_heap (w : World) (ad : Addr) (n : Nat) (c : Nat) (hc : c ≠ ad.block) : (w.freeze ad n).heap[c]? = w.heap[c]? := by
  unfold Go.World.freeze
  split
  · rfl
  · simp only [Array.getElem?_modify]; rw [if_neg (Ne.symm hc)]
theorem freeze_size (w : World) (ad : Addr) (n : Nat) : (w.freeze ad n).heap.size = w.heap.size := by unfold Go.World.freeze; split <;> simp
theorem freeze_cell (w : World) (ad : Addr) (n : Nat) (x : Addr) : (w.freeze ad n).cell? x = w.cell? x := by
  unfold Go.World.freeze
  split
  · rfl
  · simp only [Go.World.cell?, Array.getElem?_modify]
    by_cases e : ad.block = x.block
    · rw [if_pos e]
      cases hh : w.heap[x.block]? with
      | none => simp
      | some y => cases y <;> simp
    · rw [if_neg e]
theorem freeze_shape (w : World) (ad : Addr) (n : Nat) (c : Nat) : (w.freeze ad n).shape? c = w.shape? c := by
  unfold Go.World.freeze
  split
  · rfl
  · simp only [Go.World.shape?, Array.getElem?_modify]
    by_cases e : ad.block = c
    · rw [if_pos e]
      cases hh : w.heap[c]? with
      | none => simp
      | some y => cases y <;> simp
    · rw [if_neg e]
theorem g_ust {c : Go.Call} {t el : TypeId} {x y : Operand} {n : Int} {K : V → H → A} {r : V × H} (ho : o.op = .call c) (hc : c.callee = .builtin .unsafeString) (ht : c.argTypes[0]? = some t) (ha : c.args.toList = [x, y]) (hd : P.underlying t = some (.pointer el)) (h1 : P.cellsOf el = 1) (hy : evA P e y = .i n)
    (hh : ust h el (evA P e x) n K = some r) : ∃ v h', K v h' = some r ∧ GW P o e nt h v h' := by
  unfold ust at hh
  cases n with
  | negSucc n => cases hh
  | ofNat n =>
    cases n with
    | zero =>
      have hh' : ptrish (evA P e x) (K (.str 0 0) h) = some r := hh
      have hp : (∃ b o', evA P e x = .ptr b o') ∨ evA P e x = .nilp := by
        cases hv : evA P e x <;> rw [hv] at hh' <;> simp only [ptrish] at hh' <;> first | cases hh' | exact .inl ⟨_, _, rfl⟩ | exact .inr rfl
      have hh2 : K (.str 0 0) h = some r := by
        rcases hp with ⟨b, o', hp⟩ | hp <;> rw [hp] at hh' <;> exact hh'
      refine ⟨_, _, hh2, fun ι w a hr he => ?_⟩
      have e2 := he.eval y; rw [hy, VR.i] at e2
      have hq := fun p => run_ust0 (P := P) (w := w) (ty := o.type) ht p
      have e2' : a.eval y = .int .i64 0 := e2
      rcases hp with ⟨b, o', hp⟩ | hp
      · have e1 := he.eval x; rw [hp] at e1; simp only [VR] at e1
        obtain ⟨L, hL, e1⟩ := e1
        refine Good.quiet (cv := .string .empty) hr ?_ (by simp only [VR]; exact ⟨_, rfl, rfl, rfl⟩)
        simp [execOp, ho, Go.resolve, hc, Go.invoke, Go.builtin, args2 ha, e1, e2', hq]
      · have e1 := he.eval x; rw [hp] at e1; simp only [VR] at e1
        refine Good.quiet (cv := .string .empty) hr ?_ (by simp only [VR]; exact ⟨_, rfl, rfl, rfl⟩)
        simp [execOp, ho, Go.resolve, hc, Go.invoke, Go.builtin, args2 ha, e1, e2', hq]
    | succ n =>
      cases hv : evA P e x <;> rw [hv] at hh <;> simp only [] at hh <;> first | cases hh | skip
      rename_i b o'
      obtain ⟨hb, ro, fz, cs, hg, hh⟩ := gB_some'.1 hh
      cases fz with
      | zero => cases hh
      | succ fz =>
        have hh' : (Bool.casesOn (Nat.beq (fz + 1) el) none (Bool.casesOn (Nat.ble n 16777216) none (tkc cs o' (Nat.succ n) fun cs' => sOf cs' fun s => pB h b (.cells true (fz + 1) cs) fun h => K (.str (Nat.succ n) s) h)) : A) = some r := hh
        rw [bool_none, beq_eq, bool_none, ble_eq, tkc_some] at hh'
        obtain ⟨hf, hsm, hn, hh⟩ := hh'
        have hfe : fz + 1 = el := of_decide_eq_true hf
        obtain ⟨ns, hns, hlt, hh⟩ := sOf_some _ hh
        rw [pB_eq] at hh
        refine ⟨_, _, hh, fun ι w a hr he => ?_⟩
        have e1 := he.eval x; rw [hv] at e1; simp only [VR] at e1
        have e2 := he.eval y; rw [hy, VR.i] at e2
        obtain ⟨L, hL, e1⟩ := e1
        have hown : own (.cells ro (fz + 1) cs) = true := by simp [own, beq_eq]
        obtain ⟨q1, q2, q3⟩ := own_shape hr hL hg hown
        obtain ⟨b1, b2, b3, b4, b5⟩ := hr.blk b L _ hL hg
        obtain ⟨ls, g1, g2, g3, g4⟩ := hr.loads hL hg hn
        rw [hns] at g3
        have hls := u8s_of g3
        have hnl : ns.length = n + 1 := by
          have := congrArg List.length hns
          rw [hn, List.length_map] at this
          exact this.symm
        have hol : o' + (n + 1) ≤ cs.length := by
          simp only [List.length_take, List.length_drop] at hn; omega
        have hnat : ∀ m ∈ ns, (UInt8.ofNat m).toNat = m := fun m hm => by have := hlt m hm; simp; omega
        have hbyte : ∀ j x, (ns.map UInt8.ofNat)[j]? = some x → w.cell? ((⟨L.cb, L.base + o', none⟩ : Addr).add j) = some (.int .u8 x.toNat) := by
          intro j x hj
          rw [List.getElem?_map] at hj
          cases hm : ns[j]? with
          | none => rw [hm] at hj; cases hj
          | some m =>
            rw [hm] at hj
            simp only [Option.map_some, Option.some.injEq] at hj
            subst hj
            rw [Go.Addr.add_lit, hnat m (List.mem_of_getElem? hm)]
            refine g2 j _ ?_
            rw [hls, List.map_map, List.getElem?_map, hm]; rfl
        have hlen : (ns.map UInt8.ofNat).length = n + 1 := by rw [List.length_map, hnl]
        have hsmall : n + 1 ≤ 9223372036854775807 := by have := of_decide_eq_true hsm; omega
        have hrun := run_ust (P := P) (w := w) (ty := o.type) ht hd h1 ⟨L.cb, L.base + o', none⟩ (L.base + L.room) (by rw [q1, hfe]) (ns.map UInt8.ofNat) (fun hq => by rw [hq] at hlen; cases hlen) (by show L.base + o' + _ ≤ _; omega) (by omega) hbyte
        rw [hlen] at hrun
        obtain ⟨p1, p2⟩ := hr.upd (x' := .cells true (fz + 1) cs) hL hg hown (w' := w.freeze ⟨L.cb, L.base + o', none⟩ (n + 1)) (fun c hc => freeze_heap _ _ _ _ hc) (freeze_size _ _ _) (by unfold Go.World.freeze; split <;> exact ⟨rfl, rfl, rfl⟩)
          ⟨fun i v hv => by rw [freeze_cell]; exact b1 i v hv, b2, fun i hi => by rw [freeze_cell]; exact b3 i hi, (fun hq => nomatch hq), fun _ => by rw [freeze_shape]; exact b5 hown⟩
        refine Good.value (cv := .string ⟨(ns.map UInt8.ofNat).toArray⟩) ?_ (by simp only [VR]; exact ⟨_, rfl, by simp [hnl], by simp⟩) p1 p2
        have e2' : a.eval y = .int .i64 ((n + 1 : Nat) : Int) := e2
        generalize ((n + 1 : Nat) : Int) = z at hrun e2'
        simp [execOp, ho, Go.resolve, hc, Go.invoke, Go.builtin, args2 ha, e1, e2', hrun]
/-! ### copy -/
theorem g_copy {c : Go.Call} {t el : TypeId} {x y : Operand} {K : V → H → A} {r : V × H} (ho : o.op = .call c) (hc : c.callee = .builtin .copy) (ht : c.argTypes[0]? = some t) (ha : c.args.toList = [x, y]) (hd : P.underlying t = some (.slice el)) (h1 : 1 ≤ P.cellsOf el)
    (hh : cpy h (evA P e x) (evA P e y) (P.cellsOf el) (fun n h => K (.i n) h) = some r) : ∃ v h', K v h' = some r ∧ GW P o e nt h v h' := by
  obtain ⟨i, hi⟩ := info_of_cells (show P.cellsOf el ≠ 0 by omega)
  unfold cpy at hh
  obtain ⟨n, new, hh, hnl, hsrc⟩ := src_sound hh
  have hsz := run_size (P := P) hi
  have fin : ∀ (ι : Inj) (w w' : World) (a : Act) (base : Option Addr) (dl dc : Nat) (cs : List Value), HR P ι h w → ER P ι e nt a → a.eval x = .slice base dl dc → n ≤ dl → (Go.Builtin.lenOf (a.eval y) = (pure n : Sem Nat)) → ((Go.Builtin.firstCells (P.cellsOf el) n (a.eval y)).run P w = .ok cs.toArray w) →
      (match base with | some ad => (Go.storeCells ad cs).run P w = .ok () w' | none => w' = w) → (execOp a.eval o).run P w = .ok (.value (.int .i64 (n : Int))) w' := by
    intro ι w w' a base dl dc cs hr he h2 h3 h4 h5 h6
    have hmin : Nat.min n dl = n := Nat.min_eq_left h3
    cases base with
    | none =>
      simp only at h6
      subst h6
      simp [execOp, ho, Go.resolve, hc, Go.invoke, Go.builtin, args2 ha, Go.Builtin.copy_, ht, Go.run_underlying hd, h2, h4, hsz, hmin, h5, Go.goInt]
    | some ad =>
      simp only at h6
      simp [execOp, ho, Go.resolve, hc, Go.invoke, Go.builtin, args2 ha, Go.Builtin.copy_, ht, Go.run_underlying hd, h2, h4, hsz, hmin, h5, h6, Go.goInt]
  rw [toSl_some] at hh
  rcases hh with ⟨b, o', l, c', s', k, hv, hh⟩ | ⟨hv, hh⟩
  · rw [bool_none, ble_eq] at hh
    obtain ⟨hle, hh⟩ := hh
    have hle : n ≤ l := of_decide_eq_true hle
    cases n with
    | zero =>
      refine ⟨_, _, hh, fun ι w a hr he => ?_⟩
      have e1 := he.eval x; rw [hv] at e1; simp only [VR] at e1
      obtain ⟨L, cc, off, hL, e1, _, _, _, _, _⟩ := e1
      obtain ⟨cs, q1, q2, q3, q4⟩ := hsrc ι w _ hr (he.eval y)
      have hcs : cs = [] := List.eq_nil_of_length_eq_zero (by rw [q1.length, hnl]; simp)
      subst hcs
      refine Good.quiet (cv := .int .i64 (0 : Nat)) hr (fin ι w w a _ _ _ [] hr he e1 hle q3 (q4 w rfl) (storeCells_nil _ _)) (by simp only [VR]; rfl)
    | succ n =>
      have hh' : (Bool.casesOn (Nat.beq s' (P.cellsOf el)) none (stL h b o' new fun h => K (.i (Int.ofNat (n + 1))) h) : A) = some r := hh
      rw [bool_none, beq_eq] at hh'
      obtain ⟨hs, hh2⟩ := hh'
      have hs : s' = P.cellsOf el := of_decide_eq_true hs
      obtain ⟨fz, cl, hg, hfit, hh3⟩ := stL_some hh2
      refine ⟨_, _, hh3, fun ι w a hr he => ?_⟩
      have e1 := he.eval x; rw [hv] at e1; simp only [VR] at e1
      obtain ⟨L, cc, off, hL, e1, h6, _, _, _, _⟩ := e1
      have hoff : off = L.base + o' := by rcases h6 with h6 | h6; exact h6; omega
      subst hoff
      obtain ⟨cs, q1, q2, q3, q4⟩ := hsrc ι w _ hr (he.eval y)
      obtain ⟨g1, g2, g3⟩ := hr.store (o := o') hL hg new cs q1 q2 hfit
      have hst := run_store_there (P := P) g1 q2
      exact Good.value (cv := .int .i64 ((n + 1 : Nat) : Int)) (fin ι w _ a _ _ _ cs hr he e1 hle q3 (q4 w rfl) hst) (by simp only [VR]; rfl) g2 g3
  · cases n with
    | succ n => cases hh
    | zero =>
      refine ⟨_, _, hh, fun ι w a hr he => ?_⟩
      have e1 := he.eval x; rw [hv] at e1; simp only [VR] at e1
      obtain ⟨cs, q1, q2, q3, q4⟩ := hsrc ι w _ hr (he.eval y)
      have hcs : cs = [] := List.eq_nil_of_length_eq_zero (by rw [q1.length, hnl]; simp)
      subst hcs
      exact Good.quiet (cv := .int .i64 (0 : Nat)) hr (fin ι w w a _ _ _ [] hr he e1 (Nat.le_refl _) q3 (q4 w rfl) rfl) (by simp only [VR]; rfl)
/-! ### functions without a body -/
/-- functions that are entered by a call, as they are; and what some others do -/
structure XOK (P : Program) (X : Nat → Nat) : Prop where
  enter : ∀ f, X f = 0 → ∀ (args : Array Value) (w : World), (Go.callFunc f args).run P w = .ok (.enter f args) w
  same : ∀ f, X f = 2 → ∀ (v : Value) (w : World), (Go.callFunc f #[v]).run P w = .ok (.value v) w
  mnz : ∀ f, X f = 3 → ∃ ps t, P.underlying t = some (.slice (xel P f)) ∧ ∀ (args : Array Value) (w : World), (Go.callFunc f args).run P w = ((Go.Extern.BytealgMakeNoZero.makeNoZero ps #[t] args).run P w).andThen fun v w' => .ok (.value v) w'
  cmp : ∀ f, X f = 4 → ∀ (args : Array Value) (w : World), (Go.callFunc f args).run P w = ((Go.Extern.BytealgCompare.compare args).run P w).andThen fun v w' => .ok (.value v) w'
theorem g_x2 {X : Nat → Nat} (hX : XOK P X) {c : Go.Call} {f : Nat} {x : Operand} (ho : o.op = .call c) (hc : c.callee = .value (.func f)) (hx : X f = 2) (ha : c.args.toList = [x]) (hr : HR P ι h w) (he : ER P ι e nt a) :
    Good P o h ι w a (evA P e x) h := by
  refine Good.quiet (cv := a.eval x) hr ?_ (he.eval x)
  have := hX.same f hx (a.eval x) w
  simp [execOp, ho, Go.resolve, hc, Go.Deferred.ofValue, Go.Act.eval, Go.invoke, args1 ha]
  simpa [Go.Act.eval] using this
theorem digits_one : ∀ (n t : Nat) (acc : Array Value), (∀ y ∈ acc.toList, y.oneCell' = true) → ∀ y ∈ (Go.Extern.BytealgMakeNoZero.digits n t acc).toList, y.oneCell' = true
  | 0, _, acc, h => h
  | n + 1, t, acc, h => by
    rw [Go.Extern.BytealgMakeNoZero.digits]
    refine digits_one n _ _ fun y hy => ?_
    rw [Array.toList_push] at hy
    rcases List.mem_append.1 hy with h1 | h1
    · exact h y h1
    · rw [List.mem_singleton.1 h1]; rfl
theorem run_mnz (ps : Array TypeId) (t e : TypeId) (ht : P.underlying t = some (.slice e)) (n : Nat) (hn : n ≤ 281474976710656) :
    ∃ cs : Array Value, (Go.Extern.BytealgMakeNoZero.makeNoZero ps #[t] #[.int .i64 n]).run P w = .ok (.slice (some ⟨w.heap.size, 0, none⟩) n cs.size) (w.drew.drew.alloc (.cells cs e)) ∧ n ≤ cs.size ∧ ∀ y ∈ cs.toList, y.oneCell' = true := by
  have hdef : Go.Extern.BytealgMakeNoZero.makeNoZero ps #[t] #[.int .i64 n] =
      (do
        let .slice elem ← Go.underlying t | Go.stuck "bytealg.MakeNoZero: slice type expected"
        if (n : Int) < 0 || (n : Int) > 2 ^ 48 then Go.runtimePanic (.error "makeslice: len out of range")
        let cap ← Go.choose (.appendCap (n : Int).toNat 0 elem)
        Go.askRoom cap
        let bytes ← Go.choose (.extern "internal/bytealg.MakeNoZero.bytes" 0)
        let a ← Go.newRow elem (Go.Extern.BytealgMakeNoZero.digits cap bytes #[])
        pure (.slice (some a) (n : Int).toNat cap)) := rfl
  refine ⟨Go.Extern.BytealgMakeNoZero.digits (Go.grownCap w n 0 e) ((Go.Question.extern "internal/bytealg.MakeNoZero.bytes" 0).cut (w.tape (w.drawn + 1) (.extern "internal/bytealg.MakeNoZero.bytes" 0))) #[], ?_, ?_, digits_one _ _ _ (by simp)⟩
  · rw [hdef]
    have h1 : ¬ (n : Int) < 0 := by omega
    have h2 : ¬ (281474976710656 : Int) < (n : Int) := by omega
    simp [Go.run_underlying ht, h1, h2, Go.Question.forced, Go.newRow, Go.Lib.size_digits, Go.grownCap]
  · rw [Go.Lib.size_digits]
    simpa using Go.grownCap_ge w n 0 e
theorem VRs_undef : ∀ (n : Nat) (cs : List Value), cs.length = n → VRs ι (rep n [V.undef]) cs
  | 0, cs, h => by rw [List.eq_nil_of_length_eq_zero h]; exact VRs.nil
  | n + 1, [], h => by simp at h
  | n + 1, c :: cs, h => by
    rw [rep_succ]
    exact VRs.cons (by simp only [VR]) (VRs_undef n cs (by simpa using h))
theorem g_x3 {X : Nat → Nat} (hX : XOK P X) {c : Go.Call} {f : Nat} {x : Operand} {n : Int} {K : V → H → A} {r : V × H} (ho : o.op = .call c) (hc : c.callee = .value (.func f)) (hx : X f = 3) (ha : c.args.toList = [x]) (hn : evA P e x = .i n)
    (hh : mnz h (xel P f) n K = some r) : ∃ v h', K v h' = some r ∧ GW P o e nt h v h' := by
  obtain ⟨ps, t, ht, hrun⟩ := hX.mnz f hx
  unfold mnz at hh
  cases n with
  | negSucc n => cases hh
  | ofNat n =>
    have hh' : (Bool.casesOn (Nat.ble n 16777216) none (al h (xel P f) (rep n [.undef]) fun b h => K (.sl b 0 n n 1 false) h) : A) = some r := hh
    rw [bool_none, ble_eq, al_eq] at hh'
    obtain ⟨hsm, hh⟩ := hh'
    have hsm : n ≤ 16777216 := of_decide_eq_true hsm
    refine ⟨_, _, hh, fun ι w a hr he => ?_⟩
    have e1 := he.eval x; rw [hn, VR.i] at e1
    have e1' : a.eval x = .int .i64 (n : Int) := e1
    obtain ⟨cs, q1, q2, q3⟩ := run_mnz (P := P) (w := w) ps t _ ht n (by omega)
    have hrow := row_BR (P := P) (ι := ι) (el := xel P f) (l := rep n [V.undef]) (cs := cs.toList.take n) (extra := cs.toList.drop n) (w1 := w.drew.drew) (VRs_undef n _ (by simp [q2])) (fun y hy => q3 y (List.mem_of_mem_take hy)) (fun y hy => q3 y (List.mem_of_mem_drop hy)) (room := cs.size) (n := w.heap.size) (by simp; omega) rfl
    rw [List.take_append_drop, Array.toArray_toList] at hrow
    obtain ⟨ι', g1, g2, g3⟩ := hr.drew.drew.push (.cells false (xel P f) (rep n [V.undef])) (.cells cs (xel P f)) cs.size hrow
    have g1' : ι' h.n = some ⟨w.heap.size, 0, cs.size⟩ := g1
    have h5 := hrun #[.int .i64 (n : Int)] w
    rw [q1] at h5
    refine Good.value (cv := .slice (some ⟨w.heap.size, 0, none⟩) n cs.size) ?_ ?_ g2 (Ext.trans hr.dom (Ext.refl h ι w).drew.drew g3)
    · have hf : a.eval (.func f) = .func (.func f) #[] #[] := rfl
      simp [execOp, ho, Go.resolve, hc, Go.Deferred.ofValue, hf, Go.invoke, args1 ha, e1', h5]
    · simp only [VR]
      exact ⟨_, cs.size, 0, g1', rfl, .inl rfl, by show 0 + cs.size * 1 ≤ cs.size; omega, Nat.le_refl _, q2, fun hq => nomatch hq⟩
theorem compareBytes_eq : ∀ (a b : List UInt8), Go.Lib.compareBytes a b = if a = b then 0 else if Go.Op.bytesLess a b = true then -1 else 1
  | [], [] => rfl
  | [], b :: bs => by simp [Go.Lib.compareBytes, Go.Op.bytesLess]
  | a :: as, [] => by simp [Go.Lib.compareBytes, Go.Op.bytesLess]
  | a :: as, b :: bs => by
    simp only [Go.Lib.compareBytes, Go.Op.bytesLess]
    rw [compareBytes_eq as bs]
    by_cases hab : a = b
    · subst hab
      have h1 : ¬ (a < a) := by simp
      simp [h1]
    · by_cases hlt : a < b
      · simp [hlt, hab]
      · have h2 : b < a := by
          rw [UInt8.lt_iff_toNat_lt] at hlt ⊢
          have : a.toNat ≠ b.toNat := fun h => hab (UInt8.toNat_inj.1 h)
          omega
        simp [hlt, hab, h2]
theorem g_x4 {X : Nat → Nat} (hX : XOK P X) {c : Go.Call} {f : Nat} {x y : Operand} {l n l2 n2 : Nat} (ho : o.op = .call c) (hc : c.callee = .value (.func f)) (hx : X f = 4) (ha : c.args.toList = [x, y]) (h1 : evA P e x = .str l n) (h2 : evA P e y = .str l2 n2) (hr : HR P ι h w) (he : ER P ι e nt a) :
    Good P o h ι w a (.i (cmpZ l n l2 n2)) h := by
  have e1 := he.eval x; rw [h1] at e1; simp only [VR] at e1
  have e2 := he.eval y; rw [h2] at e2; simp only [VR] at e2
  obtain ⟨s, e1, hs⟩ := e1
  obtain ⟨s2, e2, hs2⟩ := e2
  have hz : cmpZ l n l2 n2 = Go.Lib.compareBytes s.data.toList s2.data.toList := by
    unfold cmpZ
    have h3 := sLs_eq hs hs2
    unfold sLs at h3
    rw [h3, sEqL hs hs2, compareBytes_eq, Go.ByteArray.toList_eq, Go.ByteArray.toList_eq]
    by_cases hq : s.data.toList = s2.data.toList
    · simp [hq]
    · rw [if_neg hq]
      have : (s.data.toList == s2.data.toList) = false := by simpa using hq
      rw [this]
      cases Go.Op.bytesLess s.data.toList s2.data.toList <;> rfl
  rw [hz]
  refine Good.quiet (cv := .int .i64 (Go.Lib.compareBytes s.data.toList s2.data.toList)) hr ?_ (by simp only [VR])
  have h5 := hX.cmp f hx #[a.eval x, a.eval y] w
  rw [e1, e2, Go.Lib.run_compareString] at h5
  have hf : a.eval (.func f) = .func (.func f) #[] #[] := rfl
  simp [execOp, ho, Go.resolve, hc, Go.Deferred.ofValue, hf, Go.invoke, args2 ha, e1, e2, h5]
end
end GoEv
namespace GoEv
open Go (IntKind Value World Addr MapEntry Program Oper Op Operand Act Exit undef execOp Sem Result TypeId TypeDesc BinOp UnOp)
section
variable {P : Program} {o : Oper} {h : H} {ι : Inj} {w : World} {a : Act} {e : Env} {nt : Nat}
/-! ### clear -/
theorem zeroCells_eq (z : Array Value) (n : Nat) : (Go.Builtin.zeroCells z n) = Go.madeCells z (n * z.size) := by
  simp [Go.Builtin.zeroCells, Go.madeCells]
theorem g_clear {c : Go.Call} {t el : TypeId} {x : Operand} {z : List V} {K : V → H → A} {r : V × H} (ho : o.op = .call c) (hc : c.callee = .builtin .clear) (ht : c.argTypes[0]? = some t) (ha : c.args.toList = [x]) (hd : P.underlying t = some (.slice el))
    (hz : zcs P el = some z) (h1 : 1 ≤ P.cellsOf el) (hzl : z.length = P.cellsOf el) (hh : clr h (evA P e x) (P.cellsOf el) z (fun h => K (.tup []) h) = some r) : ∃ v h', K v h' = some r ∧ GW P o e nt h v h' := by
  obtain ⟨i, zv, hi, hzz, rfl, ho1⟩ := zcs_some hz
  unfold clr at hh
  rw [toSl_some] at hh
  rcases hh with ⟨b, o', l, c', s', k, hv, hh⟩ | ⟨hv, hh⟩
  · cases l with
    | zero =>
      refine ⟨_, _, hh, fun ι w a hr he => ?_⟩
      have e1 := he.eval x; rw [hv] at e1; simp only [VR] at e1
      obtain ⟨L, cc, off, hL, e1, _⟩ := e1
      refine Good.quiet (cv := .tuple #[]) hr ?_ (by simp only [VR]; exact ⟨_, rfl, VRs.nil⟩)
      simp [execOp, ho, Go.resolve, hc, Go.invoke, Go.builtin, args1 ha, Go.Builtin.clear_, ht, Go.run_underlying hd, e1]
    | succ l =>
      have hh' : (Bool.casesOn (Nat.beq s' (P.cellsOf el)) none (stL h b o' (rep (l + 1) (zv.cells.toList.map cst1)) fun h => K (.tup []) h) : A) = some r := hh
      rw [bool_none, beq_eq] at hh'
      obtain ⟨hs, hh2⟩ := hh'
      have hs : s' = P.cellsOf el := of_decide_eq_true hs
      obtain ⟨fz, cl, hg, hfit, hh3⟩ := stL_some hh2
      refine ⟨_, _, hh3, fun ι w a hr he => ?_⟩
      have e1 := he.eval x; rw [hv] at e1; simp only [VR] at e1
      obtain ⟨L, cc, off, hL, e1, h6, _, h7, h8, _⟩ := e1
      have hoff : off = L.base + o' := by rcases h6 with h6 | h6; exact h6; omega
      subst hoff
      obtain ⟨q1, q2⟩ := rep_VRs' (n := l + 1) (cst1s_sound ι zv.cells.toList) ho1
      obtain ⟨g1, g2, g3⟩ := hr.store (o := o') hL hg _ (Go.madeCells zv.cells ((l + 1) * zv.cells.size)).toList q1 q2 hfit
      have hst := run_store_there (P := P) g1 q2
      refine Good.value (cv := .tuple #[]) ?_ (by simp only [VR]; exact ⟨_, rfl, VRs.nil⟩) g2 g3
      have hzero : (Go.zeroValue el).run P w = .ok zv w := run_zero hi hzz w
      simp [execOp, ho, Go.resolve, hc, Go.invoke, Go.builtin, args1 ha, Go.Builtin.clear_, ht, Go.run_underlying hd, e1, hzero, zeroCells_eq, hst]
  · refine ⟨_, _, hh, fun ι w a hr he => ?_⟩
    have e1 := he.eval x; rw [hv] at e1; simp only [VR] at e1
    refine Good.quiet (cv := .tuple #[]) hr ?_ (by simp only [VR]; exact ⟨_, rfl, VRs.nil⟩)
    simp [execOp, ho, Go.resolve, hc, Go.invoke, Go.builtin, args1 ha, Go.Builtin.clear_, ht, Go.run_underlying hd, e1]
end
end GoEv
