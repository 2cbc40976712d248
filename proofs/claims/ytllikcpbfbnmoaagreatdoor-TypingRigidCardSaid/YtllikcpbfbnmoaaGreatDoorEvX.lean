/- Comparisons, slices, append, composites and new blocks are sound. -/
import Derived.Test.YtllikcpbfbnmoaaGreatDoorEvA
import Derived.WideLaws
import Derived.LaidEql
import Derived.Laws.Slices
import Derived.Laws.AppendOwn
import Derived.Lib.UnsafeStr
import Derived.Laws.StructEq
import Derived.MapKept
import Derived.Laws.BytesString
import Derived.Laws.MakeOwn
import Derived.Lib.ConvBytes
import Derived.Lib.MakeNoZero
import Derived.Laws.Externs
import Derived.Lib.Bytealg
set_option linter.unusedVariables false
set_option linter.unusedSimpArgs false
namespace GoEv
open Go (IntKind Value World Addr MapEntry Program Oper Op Operand Act Exit undef execOp Sem Result TypeId TypeDesc BinOp UnOp)

section
variable {P : Program} {o : Oper} {h : H} {ι : Inj} {w : World} {a : Act} {e : Env} {nt : Nat}

theorem nilO_some {op : BinOp} {b : Bool} {K : V → A} {r : V × H} (hh : nilO op b K = some r) : ∃ v, K v = some r ∧ ((op = .eql ∧ v = .bool b) ∨ (op = .neq ∧ v = .bool (!b))) := by
  cases op <;> simp only [nilO, notB_eq] at hh <;> first | cases hh | exact ⟨_, hh, .inl ⟨rfl, rfl⟩⟩ | exact ⟨_, hh, .inr ⟨rfl, rfl⟩⟩
/-- '==' and '!=' out of what Op.equal says -/
theorem g_eql {op : BinOp} {t : TypeId} {x y : Operand} {yt : TypeId} {b : Bool} {v : V} {vx vy : Value} (ho : o.op = .binOp op t x y yt) (hv : (op = .eql ∧ v = .bool b) ∨ (op = .neq ∧ v = .bool (!b))) (hr : HR P ι h w)
    (hx : a.eval x = vx) (hy : a.eval y = vy)
    (hg : ∀ op, (Go.eqGuard op t x y vx vy).run P w = .ok () w)
    (h1 : Go.binOp .eql t vx vy = (do pure (.bool (← Go.Op.equal t vx vy)) : Sem Value))
    (h2 : Go.binOp .neq t vx vy = (do pure (.bool (!(← Go.Op.equal t vx vy))) : Sem Value))
    (heq : (Go.Op.equal t vx vy).run P w = .ok b w) : Good P o h ι w a v h := by
  rcases hv with ⟨rfl, rfl⟩ | ⟨rfl, rfl⟩
  · refine Good.quiet (cv := .bool b) hr ?_ (by simp [VR])
    simp [execOp, ho, hx, hy, hg, h1, heq]
  · refine Good.quiet (cv := .bool (!b)) hr ?_ (by simp [VR])
    simp [execOp, ho, hx, hy, hg, h2, heq]
theorem equal_run (t : TypeId) (x y : Value) (b : Bool) (h : ∀ d, (Go.Op.equalIn (d + 1) t x y).run P w = .ok b w) : (Go.Op.equal t x y).run P w = .ok b w := h 9999
theorem eqGuard_quiet {op : BinOp} {t : TypeId} {x y : Operand} {vx vy : Value} (h1 : (vx, vy) ≠ (.nilIface, .nilIface)) (h2 : ∀ p q, (vx, vy) ≠ (.agg p, .agg q)) : (Go.eqGuard op t x y vx vy).run P w = .ok () w := by
  unfold Go.eqGuard
  split
  · rw [if_neg (by decide)]; cases vx <;> cases vy <;> first | rfl | exact absurd rfl h1 | exact absurd rfl (h2 _ _)
  · rw [if_neg (by decide)]; cases vx <;> cases vy <;> first | rfl | exact absurd rfl h1 | exact absurd rfl (h2 _ _)
  · rw [if_pos (by decide)]; rfl

theorem g_bin_bool {op : BinOp} {t : TypeId} {x y : Operand} {yt : TypeId} {m n : Bool} {K : V → A} {r : V × H} (ho : o.op = .binOp op t x y yt) (hd : P.underlying t = some .bool) (hx : evA P e x = .bool m) (hy : evA P e y = .bool n)
    (hh : nilO op (eqB m n) K = some r) : ∃ v, K v = some r ∧ GQ P o e nt v := by
  rw [eqB_eq] at hh
  obtain ⟨v, hK, hv⟩ := nilO_some hh
  refine ⟨v, hK, fun h ι w a hr he => ?_⟩
  have h1 := he.eval x; rw [hx] at h1; simp only [VR] at h1
  have h2 := he.eval y; rw [hy] at h2; simp only [VR] at h2
  refine g_eql ho hv hr h1 h2 (fun op => by cases op <;> rfl) rfl rfl (equal_run _ _ _ _ fun d => ?_)
  simp [Go.Op.equalIn, Go.run_underlying hd]
theorem nlP_some {v : V} {K : Bool → A} {r : V × H} (hh : nlP v K = some r) : (v = .nilp ∧ K true = some r) ∨ (∃ b o, v = .ptr b o ∧ K false = some r) := by
  cases v <;> simp only [nlP] at hh <;> first | cases hh | exact .inl ⟨rfl, hh⟩ | exact .inr ⟨_, _, rfl, hh⟩
theorem nlS_some {v : V} {K : Bool → A} {r : V × H} (hh : nlS v K = some r) : (v = .nils ∧ K true = some r) ∨ (∃ b o l c s k, v = .sl b o l c s k ∧ K false = some r) := by
  cases v <;> simp only [nlS] at hh <;> first | cases hh | exact .inl ⟨rfl, hh⟩ | exact .inr ⟨_, _, _, _, _, _, rfl, hh⟩
theorem nlM_some {v : V} {K : Bool → A} {r : V × H} (hh : nlM v K = some r) : (v = .nilm ∧ K true = some r) ∨ (∃ b, v = .map b ∧ K false = some r) := by
  cases v <;> simp only [nlM] at hh <;> first | cases hh | exact .inl ⟨rfl, hh⟩ | exact .inr ⟨_, rfl, hh⟩
theorem nlF_some {v : V} {K : Bool → A} {r : V × H} (hh : nlF v K = some r) : (v = .nilf ∧ K true = some r) ∨ (∃ f x y, v = .fn f x y ∧ K false = some r) := by
  cases v <;> simp only [nlF] at hh <;> first | cases hh | exact .inl ⟨rfl, hh⟩ | exact .inr ⟨_, _, _, rfl, hh⟩
theorem nlI_some {v : V} {K : Bool → A} {r : V × H} (hh : nlI v K = some r) : (v = .nili ∧ K true = some r) ∨ (∃ t x, v = .iface t x ∧ K false = some r) := by
  cases v <;> simp only [nlI] at hh <;> first | cases hh | exact .inl ⟨rfl, hh⟩ | exact .inr ⟨_, _, rfl, hh⟩

theorem g_bin_nlP {op : BinOp} {t q : TypeId} {x : Operand} {yt : TypeId} {K : V → A} {r : V × H} (ho : o.op = .binOp op t x (.const (.pointer none)) yt) (hd : P.underlying t = some (.pointer q))
    (hh : nlP (evA P e x) (fun z => nilO op z K) = some r) : ∃ v, K v = some r ∧ GQ P o e nt v := by
  rcases nlP_some hh with ⟨hv, hh⟩ | ⟨b, o', hv, hh⟩ <;> obtain ⟨v, hK, hw⟩ := nilO_some hh <;> refine ⟨v, hK, fun h ι w a hr he => ?_⟩ <;> have h1 := he.eval x <;> rw [hv] at h1 <;> simp only [VR] at h1
  · refine g_eql (vy := (.pointer none)) ho hw hr h1 rfl (fun op => eqGuard_quiet (by simp) (by simp)) rfl rfl (equal_run _ _ _ _ fun d => ?_)
    simp [Go.Op.equalIn, Go.run_underlying hd]
  · obtain ⟨L, _, h1⟩ := h1
    refine g_eql (vy := (.pointer none)) ho hw hr h1 rfl (fun op => eqGuard_quiet (by simp) (by simp)) rfl rfl (equal_run _ _ _ _ fun d => ?_)
    simp [Go.Op.equalIn, Go.run_underlying hd]
theorem g_bin_nlS {op : BinOp} {t q : TypeId} {x : Operand} {yt : TypeId} {l c : Nat} {K : V → A} {r : V × H} (ho : o.op = .binOp op t x (.const (.slice none l c)) yt) (hd : P.underlying t = some (.slice q))
    (hh : nlS (evA P e x) (fun z => nilO op z K) = some r) : ∃ v, K v = some r ∧ GQ P o e nt v := by
  rcases nlS_some hh with ⟨hv, hh⟩ | ⟨b, o', _, _, _, _, hv, hh⟩ <;> obtain ⟨v, hK, hw⟩ := nilO_some hh <;> refine ⟨v, hK, fun h ι w a hr he => ?_⟩ <;> have h1 := he.eval x <;> rw [hv] at h1 <;> simp only [VR] at h1
  · refine g_eql (vy := (.slice none l c)) ho hw hr h1 rfl (fun op => eqGuard_quiet (by simp) (by simp)) rfl rfl (equal_run _ _ _ _ fun d => ?_)
    simp [Go.Op.equalIn, Go.run_underlying hd]
  · obtain ⟨L, c', off, _, h1, _⟩ := h1
    refine g_eql (vy := (.slice none l c)) ho hw hr h1 rfl (fun op => eqGuard_quiet (by simp) (by simp)) rfl rfl (equal_run _ _ _ _ fun d => ?_)
    simp [Go.Op.equalIn, Go.run_underlying hd]
theorem g_bin_nlM {op : BinOp} {t q q' : TypeId} {x : Operand} {yt : TypeId} {K : V → A} {r : V × H} (ho : o.op = .binOp op t x (.const (.map none)) yt) (hd : P.underlying t = some (.map q q'))
    (hh : nlM (evA P e x) (fun z => nilO op z K) = some r) : ∃ v, K v = some r ∧ GQ P o e nt v := by
  rcases nlM_some hh with ⟨hv, hh⟩ | ⟨b, hv, hh⟩ <;> obtain ⟨v, hK, hw⟩ := nilO_some hh <;> refine ⟨v, hK, fun h ι w a hr he => ?_⟩ <;> have h1 := he.eval x <;> rw [hv] at h1 <;> simp only [VR] at h1
  · refine g_eql (vy := (.map none)) ho hw hr h1 rfl (fun op => eqGuard_quiet (by simp) (by simp)) rfl rfl (equal_run _ _ _ _ fun d => ?_)
    simp [Go.Op.equalIn, Go.run_underlying hd]
  · obtain ⟨L, _, h1⟩ := h1
    refine g_eql (vy := (.map none)) ho hw hr h1 rfl (fun op => eqGuard_quiet (by simp) (by simp)) rfl rfl (equal_run _ _ _ _ fun d => ?_)
    simp [Go.Op.equalIn, Go.run_underlying hd]
theorem g_bin_nlF {op : BinOp} {t : TypeId} {q q' q''} {x : Operand} {yt : TypeId} {K : V → A} {r : V × H} (ho : o.op = .binOp op t x (.const .nilFunc) yt) (hd : P.underlying t = some (.func q q' q''))
    (hh : nlF (evA P e x) (fun z => nilO op z K) = some r) : ∃ v, K v = some r ∧ GQ P o e nt v := by
  rcases nlF_some hh with ⟨hv, hh⟩ | ⟨b, p, s, hv, hh⟩ <;> obtain ⟨v, hK, hw⟩ := nilO_some hh <;> refine ⟨v, hK, fun h ι w a hr he => ?_⟩ <;> have h1 := he.eval x <;> rw [hv] at h1 <;> simp only [VR] at h1
  · refine g_eql (vy := .nilFunc) ho hw hr h1 rfl (fun op => eqGuard_quiet (by simp) (by simp)) rfl rfl (equal_run _ _ _ _ fun d => ?_)
    simp [Go.Op.equalIn, Go.run_underlying hd]
  · obtain ⟨a', b', h1, _⟩ := h1
    refine g_eql (vy := .nilFunc) ho hw hr h1 rfl (fun op => eqGuard_quiet (by simp) (by simp)) rfl rfl (equal_run _ _ _ _ fun d => ?_)
    simp [Go.Op.equalIn, Go.run_underlying hd]
theorem g_bin_nlI {op : BinOp} {t : TypeId} {q} {x : Operand} {yt : TypeId} {K : V → A} {r : V × H} (ho : o.op = .binOp op t x (.const .nilIface) yt) (hd : P.underlying t = some (.interface q))
    (hh : nlI (evA P e x) (fun z => nilO op z K) = some r) : ∃ v, K v = some r ∧ GQ P o e nt v := by
  rcases nlI_some hh with ⟨hv, hh⟩ | ⟨b, p, hv, hh⟩ <;> obtain ⟨v, hK, hw⟩ := nilO_some hh <;> refine ⟨v, hK, fun h ι w a hr he => ?_⟩ <;> have h1 := he.eval x <;> rw [hv] at h1 <;> simp only [VR] at h1
  · refine g_eql (vy := .nilIface) ho hw hr h1 rfl (fun op => ?_) rfl rfl (equal_run _ _ _ _ fun d => ?_)
    · have : (Go.eqGuard op t x (.const .nilIface) .nilIface .nilIface) = (pure () : Sem Unit) := by cases op <;> cases x <;> rfl
      rw [this]; rfl
    · simp [Go.Op.equalIn, Go.run_underlying hd]
  · obtain ⟨y, h1, _⟩ := h1
    refine g_eql (vy := .nilIface) ho hw hr h1 rfl (fun op => eqGuard_quiet (by simp) (by simp)) rfl rfl (equal_run _ _ _ _ fun d => ?_)
    simp [Go.Op.equalIn, Go.run_underlying hd]
theorem pEq_some {v v' : V} {K : Bool → A} {r : V × H} (hh : pEq v v' K = some r) :
    (v = .nilp ∧ v' = .nilp ∧ K true = some r) ∨ (∃ b o, v = .ptr b o ∧ v' = .nilp ∧ K false = some r) ∨ (∃ b o, v = .nilp ∧ v' = .ptr b o ∧ K false = some r) ∨
    (∃ b o o', v = .ptr b o ∧ v' = .ptr b o' ∧ K (decide (o = o')) = some r) := by
  cases v <;> simp only [pEq] at hh <;> first | cases hh | skip
  all_goals (cases v' <;> simp only [] at hh <;> first | cases hh | skip)
  · rename_i x o y p
    cases hb : Nat.beq x y with
    | false => rw [hb] at hh; cases hh
    | true =>
      rw [hb] at hh
      have := Nat.eq_of_beq_eq_true hb
      subst this
      refine .inr (.inr (.inr ⟨_, _, _, rfl, rfl, ?_⟩))
      rw [beq_eq] at hh; exact hh
  · exact .inr (.inl ⟨_, _, rfl, rfl, hh⟩)
  · exact .inr (.inr (.inl ⟨_, _, rfl, rfl, hh⟩))
  · exact .inl ⟨rfl, rfl, hh⟩
theorem g_bin_pEq {op : BinOp} {t q : TypeId} {i : Go.TypeInfo} {x y : Operand} {yt : TypeId} {K : V → A} {r : V × H} (ho : o.op = .binOp op t x y yt) (hd : P.underlying t = some (.pointer q)) (hi : P.info? q = some i) (hsz : i.size ≠ 0)
    (hh : pEq (evA P e x) (evA P e y) (fun z => nilO op z K) = some r) : ∃ v, K v = some r ∧ GQ P o e nt v := by
  rcases pEq_some hh with ⟨hv, hv', hh⟩ | ⟨b, o', hv, hv', hh⟩ | ⟨b, o', hv, hv', hh⟩ | ⟨b, o1, o2, hv, hv', hh⟩ <;> obtain ⟨v, hK, hw⟩ := nilO_some hh <;> refine ⟨v, hK, fun h ι w a hr he => ?_⟩ <;> have h1 := he.eval x <;> have h2 := he.eval y <;> rw [hv] at h1 <;> rw [hv'] at h2 <;> simp only [VR] at h1 h2
  · refine g_eql ho hw hr h1 h2 (fun op => eqGuard_quiet (by simp) (by simp)) rfl rfl (equal_run _ _ _ _ fun d => ?_)
    simp [Go.Op.equalIn, Go.run_underlying hd]
  · obtain ⟨L, _, h1⟩ := h1
    refine g_eql ho hw hr h1 h2 (fun op => eqGuard_quiet (by simp) (by simp)) rfl rfl (equal_run _ _ _ _ fun d => ?_)
    simp [Go.Op.equalIn, Go.run_underlying hd]
  · obtain ⟨L, _, h2⟩ := h2
    refine g_eql ho hw hr h1 h2 (fun op => eqGuard_quiet (by simp) (by simp)) rfl rfl (equal_run _ _ _ _ fun d => ?_)
    simp [Go.Op.equalIn, Go.run_underlying hd]
  · obtain ⟨L, hL, h1⟩ := h1
    obtain ⟨L', hL', h2⟩ := h2
    rw [hL] at hL'; cases hL'
    refine g_eql ho hw hr h1 h2 (fun op => eqGuard_quiet (by simp) (by simp)) rfl rfl (equal_run _ _ _ _ fun d => ?_)
    have h3 : (Go.sameAddr (⟨L.cb, L.base + o1, none⟩ : Addr) ⟨L.cb, L.base + o2, none⟩).run P w = .ok (decide (o1 = o2)) w := by
      simp [Go.sameAddr]
      by_cases h : o1 = o2 <;> simp [h]
    simp [Go.Op.equalIn, Go.run_underlying hd, Go.sizeOf, Go.typeInfo, hi, hsz, h3]
end
end GoEv
namespace GoEv
open Go (IntKind Value World Addr MapEntry Program Oper Op Operand Act Exit undef execOp Sem Result TypeId TypeDesc BinOp UnOp)

section
variable {P : Program} {o : Oper} {h : H} {ι : Inj} {w : World} {a : Act} {e : Env} {nt : Nat}

theorem g_not {t : TypeId} {x : Operand} {z : Bool} (ho : o.op = .unOp .not t x) (hx : evA P e x = .bool z) (hr : HR P ι h w) (he : ER P ι e nt a) : Good P o h ι w a (.bool (notB z)) h := by
  have h1 := he.eval x; rw [hx] at h1; simp only [VR] at h1
  rw [notB_eq]
  exact Good.quiet (cv := .bool (!z)) hr (by simp [execOp, ho, h1, Go.Op.unary]) (by simp [VR])
theorem g_neg {t : TypeId} {x : Operand} {k : IntKind} {n : Int} (ho : o.op = .unOp .neg t x) (hx : evA P e x = mkI k n) (hr : HR P ι h w) (he : ER P ι e nt a) : Good P o h ι w a (mkI k (k.wrap (negZ n))) h := by
  have h1 := he.eval x; rw [hx, VR.mkI] at h1
  rw [negZ_eq]
  exact Good.quiet (cv := .int k (k.wrap (-n))) hr (by simp [execOp, ho, h1, Go.Op.unary, Go.Op.intArith]) (VR.mkI.2 rfl)
theorem g_conv_int {s d : TypeId} {x : Operand} {k k' : IntKind} {ds : TypeDesc} {n : Int} (ho : o.op = .convert s d x) (hs : P.underlying s = some ds) (hd : P.underlying d = some (.int k')) (hx : evA P e x = mkI k n) (hr : HR P ι h w) (he : ER P ι e nt a) :
    Good P o h ι w a (mkI k' (k'.wrap n)) h := by
  have h1 := he.eval x; rw [hx, VR.mkI] at h1
  refine Good.quiet (cv := .int k' (k'.wrap n)) hr ?_ (VR.mkI.2 rfl)
  simp [execOp, ho, h1, Go.convert, Go.run_underlying hs, Go.run_underlying hd, Go.Conv.intToInt]
theorem g_conv_str {s d : TypeId} {x : Operand} {ds : TypeDesc} {l n : Nat} (ho : o.op = .convert s d x) (hs : P.underlying s = some ds) (hd : P.underlying d = some .string) (hx : evA P e x = .str l n) (hr : HR P ι h w) (he : ER P ι e nt a) :
    Good P o h ι w a (.str l n) h := by
  have h1 := he.eval x; rw [hx] at h1
  have h2 := h1
  simp only [VR] at h1
  obtain ⟨b, h1, _⟩ := h1
  refine Good.quiet (cv := .string b) hr ?_ (h1 ▸ h2)
  simp [execOp, ho, h1, Go.convert, Go.run_underlying hs, Go.run_underlying hd]
theorem g_iface {t : TypeId} {x : Operand} {d : TypeDesc} (ho : o.op = .makeInterface t x) (hd : P.underlying t = some d) (hni : ∀ ms, d ≠ .interface ms) (hr : HR P ι h w) (he : ER P ι e nt a) : Good P o h ι w a (.iface t (evA P e x)) h := by
  refine Good.quiet (cv := .iface t (a.eval x)) hr ?_ (by simp only [VR]; exact ⟨_, rfl, he.eval x⟩)
  have : (Go.Instr.makeInterface t (a.eval x)).run P w = .ok (.iface t (a.eval x)) w := by
    unfold Go.Instr.makeInterface
    rw [Go.Sem.run_bind, Go.run_underlying hd w]
    cases d <;> first | rfl | exact absurd rfl (hni _)
  simp [execOp, ho, this]
theorem g_fn {f : Nat} {x y : Array Operand} (ho : o.op = .makeFunc (.func f) x y) (hr : HR P ι h w) (he : ER P ι e nt a) : Good P o h ι w a (.fn f (x.toList.map (evA P e)) (y.toList.map (evA P e))) h := by
  refine Good.quiet (cv := .func (.func f) (x.map a.eval) (y.map a.eval)) hr ?_ ?_
  · simp [execOp, ho, Go.Instr.makeFunc]
  · simp only [VR]
    exact ⟨_, _, rfl, by simpa using he.evals x.toList, by simpa using he.evals y.toList⟩
theorem g_map {t : TypeId} (ho : o.op = .makeMap t none) (hr : HR P ι h w) : Good P o h ι w a (.map h.n) (h.push (.map [])) := by
  obtain ⟨ι', h1, h2, h3⟩ := hr.push (.map []) (.map #[] 0) 0 fun ι' hs => ⟨#[], 0, by show (w.heap.push _)[w.heap.size]? = _; simp, rfl, by simp⟩
  refine Good.value (cv := .map (some w.heap.size)) (w' := w.alloc (.map #[] 0)) ?_ ?_ h2 h3
  · simp [execOp, ho, Go.Instr.makeMap]
  · simp only [VR]; exact ⟨_, h1, rfl⟩
theorem g_extract {x : Operand} {i : Nat} {l : List V} {v : V} (ho : o.op = .extract x i) (hx : evA P e x = .tup l) (hv : l[i]? = some v) (hr : HR P ι h w) (he : ER P ι e nt a) : Good P o h ι w a v h := by
  have h1 := he.eval x; rw [hx] at h1; simp only [VR] at h1
  obtain ⟨c, h1, h2⟩ := h1
  obtain ⟨cv, h3, h4⟩ := h2.get i v hv
  refine Good.quiet (cv := cv) hr ?_ h4
  have : c[i]? = some cv := by simpa using h3
  simp [execOp, ho, h1, Go.Instr.extract, this]
theorem fieldOf_some {t : TypeId} {f : Nat} {off n : Nat} {ft : TypeId} (hf : fieldOf P t f = some (off, n, ft)) : ∃ fs fd, P.underlying t = some (.struct fs) ∧ fs[f]? = some fd ∧ fd.offset = off ∧ fd.type = ft ∧ n = P.cellsOf ft := by
  unfold fieldOf at hf
  split at hf
  · rename_i fs hd
    split at hf
    · rename_i fd hfd
      simp only [Option.some.injEq, Prod.mk.injEq] at hf
      exact ⟨fs, fd, und_eq hd (by simp), hfd, hf.1, hf.2.2, by rw [← hf.2.1, hf.2.2]⟩
    · cases hf
  · cases hf
theorem run_size {t : TypeId} {i : Go.TypeInfo} (h : P.info? t = some i) (w : World) : (Go.sizeOf t).run P w = .ok (P.cellsOf t) w := by
  simp [Go.sizeOf, Go.typeInfo, h, Go.Program.cellsOf]
theorem info_of_cells {t : TypeId} (h : P.cellsOf t ≠ 0) : ∃ i, P.info? t = some i := by
  unfold Go.Program.cellsOf at h
  cases hi : P.info? t with
  | none => rw [hi] at h; simp at h
  | some i => exact ⟨i, rfl⟩
theorem info_of_und {t : TypeId} {d : TypeDesc} (h : P.underlying t = some d) : ∃ i, P.info? t = some i := by
  unfold Go.Program.underlying at h
  cases hi : P.info? t with
  | none => rw [hi] at h; simp at h
  | some i => exact ⟨i, rfl⟩
theorem g_fieldAddr {t : TypeId} {x : Operand} {f off n : Nat} {ft : TypeId} {b o' : Nat} (ho : o.op = .fieldAddr t x f) (hf : fieldOf P t f = some (off, n, ft)) (hn : n ≠ 0) (hx : evA P e x = .ptr b o') (hr : HR P ι h w) (he : ER P ι e nt a) :
    Good P o h ι w a (.ptr b (o' + off)) h := by
  have h1 := he.eval x; rw [hx] at h1; simp only [VR] at h1
  obtain ⟨L, hL, h1⟩ := h1
  obtain ⟨fs, fd, h2, h3, rfl, rfl, rfl⟩ := fieldOf_some hf
  obtain ⟨i, hi⟩ := info_of_cells hn
  refine Good.quiet (cv := .pointer (some ⟨L.cb, L.base + (o' + fd.offset), none⟩)) hr ?_ (by simp only [VR]; exact ⟨L, hL, rfl⟩)
  simp [execOp, ho, h1, Go.Instr.fieldAt, Go.run_underlying h2, h3, Go.Instr.sureAddr, Go.fieldPlace, run_size hi, hn, Go.Addr.add, Nat.add_assoc]
theorem run_part_agg {t : TypeId} {d : TypeDesc} {i : Go.TypeInfo} (hd : P.underlying t = some d) (hrow : d.isRow = true) (hi : P.info? t = some i) (cs : Array Value) (off : Nat) (w : World) : (Go.part t cs off).run P w = .ok (.agg (cs.extract off (off + P.cellsOf t))) w := by
  unfold Go.part
  rw [Go.Sem.run_bind, run_isAgg hd w]
  simp [hrow, Go.Result.andThen, run_size hi]
theorem run_part_one {t : TypeId} {d : TypeDesc} {v : Value} (hd : P.underlying t = some d) (hrow : d.isRow = false) (cs : Array Value) (off : Nat) (hv : cs[off]? = some v) (w : World) : (Go.part t cs off).run P w = .ok v w := by
  unfold Go.part
  rw [Go.Sem.run_bind, run_isAgg hd w]
  simp [hrow, Go.Result.andThen, hv]
theorem extract_take {cs : Array Value} {o n : Nat} : (cs.extract o (o + n)).toList = (cs.toList.drop o).take n := by
  rw [Array.toList_extract, List.extract_eq_take_drop]; simp
theorem g_field_agg {t : TypeId} {x : Operand} {f off n : Nat} {ft : TypeId} {l : List V} (ho : o.op = .field t x f) (hf : fieldOf P t f = some (off, n, ft)) (hx : evA P e x = .agg l) (hag : isAg P ft = true) (hr : HR P ι h w) (he : ER P ι e nt a) :
    Good P o h ι w a (.agg ((l.drop off).take n)) h := by
  have h1 := he.eval x; rw [hx] at h1; simp only [VR] at h1
  obtain ⟨c, h1, h2, h3⟩ := h1
  obtain ⟨fs, fd, h4, h5, rfl, rfl, rfl⟩ := fieldOf_some hf
  obtain ⟨d, hd, hrow⟩ := isAg_true hag
  obtain ⟨i, hi⟩ := info_of_und hd
  refine Good.quiet (cv := .agg (c.extract fd.offset (fd.offset + P.cellsOf fd.type))) hr ?_ ?_
  · simp [execOp, ho, h1, Go.Instr.field, Go.run_underlying h4, h5, Go.asAgg, run_part_agg hd hrow hi]
  · simp only [VR]
    refine ⟨_, rfl, ?_, ?_⟩
    · rw [extract_take]; exact (h2.drop _).take _
    · rw [extract_take]; exact fun y hy => h3 y (List.mem_of_mem_drop (List.mem_of_mem_take hy))
theorem g_field_one {t : TypeId} {x : Operand} {f off n : Nat} {ft : TypeId} {l : List V} {v : V} {d : TypeDesc} (ho : o.op = .field t x f) (hf : fieldOf P t f = some (off, n, ft)) (hx : evA P e x = .agg l) (hd : P.underlying ft = some d) (hag : isAg P ft = false)
    (hv : l[off]? = some v) (hr : HR P ι h w) (he : ER P ι e nt a) : Good P o h ι w a v h := by
  have h1 := he.eval x; rw [hx] at h1; simp only [VR] at h1
  obtain ⟨c, h1, h2, h3⟩ := h1
  obtain ⟨fs, fd, h4, h5, rfl, rfl, rfl⟩ := fieldOf_some hf
  obtain ⟨cv, h6, h7⟩ := h2.get _ v hv
  refine Good.quiet (cv := cv) hr ?_ h7
  simp [execOp, ho, h1, Go.Instr.field, Go.run_underlying h4, h5, Go.asAgg, run_part_one hd (isAg_false hag hd) c fd.offset (by simpa using h6)]
theorem VR.i {v : Value} {n : Int} : VR ι (.i n) v ↔ v = .int .i64 n := by simp only [VR]
theorem VR.isZ {ι : Inj} {v : V} {c : Value} {n : Int} (h : VR ι v c) (hz : isZ v n) : ∃ k, c = .int k n := by
  cases v <;> simp only [GoEv.isZ] at hz <;> simp only [VR] at h <;> subst hz <;> exact ⟨_, h⟩
theorem g_indexAddr_slice {t el : TypeId} {x y : Operand} {b o' l c s : Nat} {ck : Bool} {k : Nat} (ho : o.op = .indexAddr t x y) (hd : P.underlying t = some (.slice el)) (hi : ∃ i, P.info? el = some i) (hx : evA P e x = .sl b o' l c s ck) (hy : isZ (evA P e y) k) (hk : k < l)
    (hr : HR P ι h w) (he : ER P ι e nt a) : Good P o h ι w a (.ptr b (o' + k * P.cellsOf el)) h := by
  have h1 := he.eval x; rw [hx] at h1; simp only [VR] at h1
  obtain ⟨kd, h2⟩ := (he.eval y).isZ hy
  obtain ⟨L, c', off, hL, h1, h3, h4, h5, h6, h7⟩ := h1
  obtain ⟨i, hi⟩ := hi
  have h3' : off = L.base + o' := by rcases h3 with h3 | h3; exact h3; omega
  subst h3'
  refine Good.quiet (cv := .pointer (some ⟨L.cb, L.base + (o' + k * P.cellsOf el), none⟩)) hr ?_ (by simp only [VR]; exact ⟨L, hL, rfl⟩)
  simp [execOp, ho, h1, h2, Go.Instr.indexAt, Go.asIntOf, Go.run_underlying hd, hk, run_size hi, Go.Addr.add, Nat.add_assoc]
theorem g_indexAddr_array {t el : TypeId} {n : Nat} {x y : Operand} {b o' : Nat} {k : Nat} (ho : o.op = .indexAddr t x y) (hd : P.underlying t = some (.array n el)) (hi : ∃ i, P.info? el = some i) (hx : evA P e x = .ptr b o') (hy : isZ (evA P e y) k) (hk : k < n)
    (hr : HR P ι h w) (he : ER P ι e nt a) : Good P o h ι w a (.ptr b (o' + k * P.cellsOf el)) h := by
  have h1 := he.eval x; rw [hx] at h1; simp only [VR] at h1
  obtain ⟨kd, h2⟩ := (he.eval y).isZ hy
  obtain ⟨L, hL, h1⟩ := h1
  obtain ⟨i, hi⟩ := hi
  refine Good.quiet (cv := .pointer (some ⟨L.cb, L.base + (o' + k * P.cellsOf el), none⟩)) hr ?_ (by simp only [VR]; exact ⟨L, hL, rfl⟩)
  simp [execOp, ho, h1, h2, Go.Instr.indexAt, Go.asIntOf, Go.run_underlying hd, hk, run_size hi, Go.Addr.add, Nat.add_assoc, Go.Instr.sureAddr]
theorem g_index_string {t : TypeId} {x y : Operand} {l n : Nat} {k : Nat} (ho : o.op = .index t x y) (hd : P.underlying t = some .string) (hx : evA P e x = .str l n) (hy : isZ (evA P e y) k) (hk : k < l)
    (hr : HR P ι h w) (he : ER P ι e nt a) : Good P o h ι w a (.u8 ((n >>> (8 * k)) % 256 : Nat)) h := by
  have h1 := he.eval x; rw [hx] at h1; simp only [VR] at h1
  obtain ⟨kd, h2⟩ := (he.eval y).isZ hy
  obtain ⟨s, h1, hs⟩ := h1
  obtain ⟨h3, h4⟩ := hs.get hk
  refine Good.quiet (cv := .int .u8 (((n >>> (8 * k)) % 256 : Nat) : Int)) hr ?_ (by simp only [VR])
  have hnn : (0 : Int) ≤ (k : Int) := Int.natCast_nonneg _
  simp only [execOp, ho, h1, h2, Go.Instr.index, Go.asIntOf]
  simp [Go.run_underlying hd, h3, h4]
theorem g_index_array {t el : TypeId} {x y : Operand} {n : Nat} {l : List V} {k : Nat} {v : V} {d : TypeDesc} {i : Go.TypeInfo} (ho : o.op = .index t x y) (hd : P.underlying t = some (.array n el)) (hx : evA P e x = .agg l) (hy : isZ (evA P e y) k) (hk : k < n)
    (hde : P.underlying el = some d) (hi : P.info? el = some i) (hag : isAg P el = false) (hv : l[k * P.cellsOf el]? = some v) (hr : HR P ι h w) (he : ER P ι e nt a) : Good P o h ι w a v h := by
  have h1 := he.eval x; rw [hx] at h1; simp only [VR] at h1
  obtain ⟨kd, h2⟩ := (he.eval y).isZ hy
  obtain ⟨c, h1, h3, _⟩ := h1
  obtain ⟨cv, h6, h7⟩ := h3.get _ v hv
  refine Good.quiet (cv := cv) hr ?_ h7
  simp only [execOp, ho, h1, h2, Go.Instr.index, Go.asIntOf]
  simp [Go.run_underlying hd, hk, run_size hi, run_part_one hde (isAg_false hag hde) c (k * P.cellsOf el) (by simpa using h6)]
theorem g_len_str {c : Go.Call} {t : TypeId} {x : Operand} {l n : Nat} (ho : o.op = .call c) (hc : c.callee = .builtin .len) (ht : c.argTypes[0]? = some t) (hx : c.args[0]? = some x) (hd : P.underlying t = some .string) (hv : evA P e x = .str l n)
    (hr : HR P ι h w) (he : ER P ι e nt a) : Good P o h ι w a (.i (l : Nat)) h := by
  have h1 := he.eval x; rw [hv] at h1; simp only [VR] at h1
  obtain ⟨s, h1, hs⟩ := h1
  refine Good.quiet (cv := .int .i64 (l : Nat)) hr ?_ (by simp only [VR])
  have hsz : s.size = l := hs.size
  simp [execOp, ho, Go.resolve, hc, Go.invoke, Go.builtin, Go.Builtin.len_, ht, hx, h1, Go.run_underlying hd, Go.goInt, hsz]
theorem g_len_slice {c : Go.Call} {t el : TypeId} {x : Operand} {l : Nat} (ho : o.op = .call c) (hc : c.callee = .builtin .len) (ht : c.argTypes[0]? = some t) (hx : c.args[0]? = some x) (hd : P.underlying t = some (.slice el)) (hv : (∃ b o' c s k, evA P e x = .sl b o' l c s k) ∨ (evA P e x = .nils ∧ l = 0))
    (hr : HR P ι h w) (he : ER P ι e nt a) : Good P o h ι w a (.i (l : Nat)) h := by
  have h1 := he.eval x
  have : ∃ p c', a.eval x = .slice p l c' := by
    rcases hv with ⟨b, o', c, s, k, hv⟩ | ⟨hv, rfl⟩ <;> rw [hv] at h1 <;> simp only [VR] at h1
    · obtain ⟨L, c', off, _, h1, _⟩ := h1; exact ⟨_, _, h1⟩
    · exact ⟨_, _, h1⟩
  obtain ⟨p, c', h1⟩ := this
  refine Good.quiet (cv := .int .i64 (l : Nat)) hr ?_ (by simp only [VR])
  simp [execOp, ho, Go.resolve, hc, Go.invoke, Go.builtin, Go.Builtin.len_, ht, hx, h1, Go.run_underlying hd, Go.goInt]
end
end GoEv
namespace GoEv
open Go (IntKind Value World Addr MapEntry Program Oper Op Operand Act Exit undef execOp Sem Result TypeId TypeDesc BinOp UnOp)

section
variable {P : Program} {o : Oper} {h : H} {ι : Inj} {w : World} {a : Act} {e : Env} {nt : Nat}

def i64O (x : Option Int) : Option Value := x.map (Value.int .i64)
theorem lo_bound {isS : Bool} {l c : Nat} {lo : Option Int} {e : Nat} {code : Go.BoundsCode} {K : Nat → A} {r : V × H} (hh : (Option.casesOn lo (K 0) (fun lo => Int.casesOn lo (fun a => Bool.casesOn (Nat.ble a e) none (K a)) (fun _ => none)) : A) = some r) :
    ∃ a : Nat, a ≤ e ∧ K a = some r ∧ (lo = none ∧ a = 0 ∨ lo = some (a : Int)) := by
  cases lo with
  | none => exact ⟨0, Nat.zero_le _, hh, .inl ⟨rfl, rfl⟩⟩
  | some lo =>
    obtain ⟨a, rfl, h1, h2⟩ := natB.1 hh
    exact ⟨a, h1, h2, .inr rfl⟩
theorem sb_ok (n c : Nat) (code : Go.BoundsCode) (h : n ≤ c) : (Go.Instr.sliceBound (.int .i64 (n : Int)) c code).run P w = .ok n w := by
  have := Go.run_sliceBound (P := P) w .i64 (n : Int) c code (Int.natCast_nonneg _) (by omega)
  simpa using this
theorem bnd_sound {isS : Bool} {l c c' : Nat} {lo hi mx : Option Int} {K : Nat → Nat → Nat → A} {r : V × H} (hlc : l ≤ c) (hcc : c ≤ c') (hh : bnd l c lo hi mx K = some r) :
    ∃ a e m : Nat, K a e m = some r ∧ a ≤ e ∧ e ≤ m ∧ m ≤ c ∧ (mx = none → m = c) ∧
      (Go.Instr.sliceBounds isS l c' (i64O lo) (i64O hi) (i64O mx)).run P w = .ok (a, e, if mx.isSome then m else c') w := by
  cases mx with
  | none =>
    cases hi with
    | none =>
      obtain ⟨a, h1, h2, h3⟩ := lo_bound (isS := isS) (l := l) (c := c) (code := .sliceB) (K := fun a => K a l c) hh
      refine ⟨a, l, c, h2, h1, hlc, Nat.le_refl _, fun _ => rfl, ?_⟩
      rcases h3 with ⟨rfl, rfl⟩ | rfl
      · simp [Go.Instr.sliceBounds, i64O]
      · simp [Go.Instr.sliceBounds, i64O, sb_ok a l _ h1]
    | some hi =>
      obtain ⟨e, rfl, h1, h2⟩ := natB.1 hh
      obtain ⟨a, h3, h4, h5⟩ := lo_bound (isS := isS) (l := l) (c := c) (code := .sliceB) (K := fun a => K a e c) h2
      refine ⟨a, e, c, h4, h3, h1, Nat.le_refl _, fun _ => rfl, ?_⟩
      have h6 : ∀ code, (Go.Instr.sliceBound (.int .i64 (e : Int)) c' code).run P w = .ok e w := fun code => sb_ok e c' code (by omega)
      rcases h5 with ⟨rfl, rfl⟩ | rfl
      · simp [Go.Instr.sliceBounds, i64O, h6]
      · simp [Go.Instr.sliceBounds, i64O, sb_ok a e _ h3, h6]
  | some mx =>
    obtain ⟨m, rfl, h1, h2⟩ := natB.1 hh
    cases hi with
    | none => cases h2
    | some hi =>
      obtain ⟨e, rfl, h3, h4⟩ := natB.1 h2
      obtain ⟨a, h5, h6, h7⟩ := lo_bound (isS := isS) (l := l) (c := c) (code := .sliceB) (K := fun a => K a e m) h4
      refine ⟨a, e, m, h6, h5, h3, h1, (fun h => nomatch h), ?_⟩
      have h8 : ∀ code, (Go.Instr.sliceBound (.int .i64 (m : Int)) c' code).run P w = .ok m w := fun code => sb_ok m c' code (by omega)
      have h9 : ∀ code, (Go.Instr.sliceBound (.int .i64 (e : Int)) m code).run P w = .ok e w := fun code => sb_ok e m code h3
      rcases h7 with ⟨rfl, rfl⟩ | rfl
      · simp [Go.Instr.sliceBounds, i64O, h8, h9]
      · simp [Go.Instr.sliceBounds, i64O, sb_ok a e _ h5, h8, h9]
theorem bndO_some {x : Option Operand} {K : Option Int → A} {r : V × H} (hh : bndO P e x K = some r) : ∃ z, K z = some r ∧ ∀ (ι : Inj) (a : Act), ER P ι e nt a → x.map a.eval = i64O z := by
  cases x with
  | none => exact ⟨none, hh, fun _ _ _ => rfl⟩
  | some x =>
    have h1 : (toI (evA P e x) fun n => K (some n)) = some r := hh
    rw [toI_some] at h1
    obtain ⟨n, h2, h3⟩ := h1
    refine ⟨some n, h3, fun ι a he => ?_⟩
    have h4 := he.eval x
    rw [h2, VR.i] at h4
    simp [i64O, h4]
theorem g_slice_str {t : TypeId} {x : Operand} {lo hi : Option Operand} {l n : Nat} {zl zh : Option Int} {K : Nat → Nat → A} {r : V × H} (ho : o.op = .slice t x lo hi none) (hd : P.underlying t = some .string) (hx : evA P e x = .str l n)
    (hl' : ∀ (ι : Inj) (a : Act), ER P ι e nt a → lo.map a.eval = i64O zl) (hh' : ∀ (ι : Inj) (a : Act), ER P ι e nt a → hi.map a.eval = i64O zh) (hs : sSub l n (zl.getD (Int.ofNat 0)) (zh.getD (Int.ofNat l)) K = some r) :
    ∃ l' n', K l' n' = some r ∧ GQ P o e nt (.str l' n') := by
  rw [sSub_some] at hs
  obtain ⟨p, q, h2, h3, h4, h5, h6⟩ := hs
  refine ⟨_, _, h6, fun h ι w a hr he => ?_⟩
  have hl := hl' ι a he
  have hh := hh' ι a he
  have h1 := he.eval x; rw [hx] at h1; simp only [VR] at h1
  obtain ⟨s, h1, hsr⟩ := h1
  refine Good.quiet (cv := .string (s.extract p q)) hr ?_ (by simp only [VR]; exact ⟨_, rfl, hsr.sub h4 h5⟩)
  have hsz : s.size = l := hsr.size
  have hb : (Go.Instr.sliceBounds false s.size s.size (i64O zl) (i64O zh) none).run P w = .ok (p, q, s.size) w := by
    rw [hsz]
    cases zl with
    | none =>
      have hp : (0 : Int) = p := h2
      have hp' : p = 0 := by omega
      subst hp'
      cases zh with
      | none =>
        have hq : (l : Int) = q := h3
        have hq' : q = l := by omega
        subst hq'
        simp [Go.Instr.sliceBounds, i64O]
      | some zh =>
        have hq : zh = q := h3
        subst hq
        simp [Go.Instr.sliceBounds, i64O, sb_ok q l _ h5]
    | some zl =>
      have hp : zl = p := h2
      subst hp
      cases zh with
      | none =>
        have hq : (l : Int) = q := h3
        have hq' : q = l := by omega
        subst hq'
        simp [Go.Instr.sliceBounds, i64O, sb_ok p _ _ h4]
      | some zh =>
        have hq : zh = q := h3
        subst hq
        simp [Go.Instr.sliceBounds, i64O, sb_ok q l _ h5, sb_ok p q _ h4]
  simp [execOp, ho, h1, hl, hh, Go.Instr.sliceAt, Go.Instr.slice, Go.run_underlying hd, hb]
theorem bnd_all {l c : Nat} {lo hi mx : Option Int} {K : Nat → Nat → Nat → A} {r : V × H} (hh : bnd l c lo hi mx K = some r) :
    ∃ a e m : Nat, K a e m = some r ∧ ∀ K', bnd l c lo hi mx K' = K' a e m := by
  have low : ∀ (e : Nat) (F : Nat → A), (Option.casesOn lo (F 0) (fun lo => Int.casesOn lo (fun a => Bool.casesOn (Nat.ble a e) none (F a)) (fun _ => none)) : A) = some r →
      ∃ a, F a = some r ∧ ∀ G : Nat → A, (Option.casesOn lo (G 0) (fun lo => Int.casesOn lo (fun a => Bool.casesOn (Nat.ble a e) none (G a)) (fun _ => none)) : A) = G a := by
    intro e F hF
    cases lo with
    | none => exact ⟨0, hF, fun _ => rfl⟩
    | some lo =>
      obtain ⟨a, rfl, h1, h2⟩ := natB.1 hF
      refine ⟨a, h2, fun G => ?_⟩
      show (Bool.casesOn (Nat.ble a e) none (G a) : A) = G a
      rw [ble_eq, decide_eq_true h1]
  cases mx with
  | none =>
    cases hi with
    | none => obtain ⟨a, h1, h2⟩ := low l (fun a => K a l c) hh; exact ⟨a, l, c, h1, fun K' => h2 fun a => K' a l c⟩
    | some hi =>
      obtain ⟨e, rfl, h1, h2⟩ := natB.1 hh
      obtain ⟨a, h3, h4⟩ := low e (fun a => K a e c) h2
      refine ⟨a, e, c, h3, fun K' => ?_⟩
      show (Bool.casesOn (Nat.ble e c) none _ : A) = _
      rw [ble_eq, decide_eq_true h1]
      exact h4 fun a => K' a e c
  | some mx =>
    obtain ⟨m, rfl, h1, h2⟩ := natB.1 hh
    cases hi with
    | none => cases h2
    | some hi =>
      obtain ⟨e, rfl, h3, h4⟩ := natB.1 h2
      obtain ⟨a, h5, h6⟩ := low e (fun a => K a e m) h4
      refine ⟨a, e, m, h5, fun K' => ?_⟩
      show (Bool.casesOn (Nat.ble m c) none (Bool.casesOn (Nat.ble e m) none _) : A) = _
      rw [ble_eq, ble_eq, decide_eq_true h1, decide_eq_true h3]
      exact h6 fun a => K' a e m
theorem g_slice {t el : TypeId} {x : Operand} {lo hi mx : Option Operand} {zl zh zm : Option Int} {K : V → A} {r : V × H} (ho : o.op = .slice t x lo hi mx) (hd : P.underlying t = some (.slice el)) (hel : ∃ i, P.info? el = some i)
    (hl' : ∀ (ι : Inj) (a : Act), ER P ι e nt a → lo.map a.eval = i64O zl) (hh' : ∀ (ι : Inj) (a : Act), ER P ι e nt a → hi.map a.eval = i64O zh) (hm' : ∀ (ι : Inj) (a : Act), ER P ι e nt a → mx.map a.eval = i64O zm) (hs : slc (evA P e x) (P.cellsOf el) zl zh zm K = some r) :
    ∃ v, K v = some r ∧ GQ P o e nt v := by
  obtain ⟨i, hi⟩ := hel
  rw [slc_some] at hs
  rcases hs with ⟨b, o', l, c, k, hv, hs⟩ | ⟨hv, hs⟩
  · obtain ⟨p, q, m, h7, hall⟩ := bnd_all hs
    refine ⟨_, h7, fun h ι w a hr he => ?_⟩
    have hl := hl' ι a he
    have hh := hh' ι a he
    have hm := hm' ι a he
    have h1 := he.eval x
    rw [hv] at h1; simp only [VR] at h1
    obtain ⟨L, c', off, hL, h1, h2, h3, h4, h5, h6⟩ := h1
    have hcap := hall fun a e m => some (V.tup [.i a, .i e, .i m], h)
    obtain ⟨p', q', m0, h7', h8, h9, h10, h11, h12⟩ := bnd_sound (isS := true) (P := P) (w := w) h4 h5 hcap
    simp only [Option.some.injEq, Prod.mk.injEq, V.tup.injEq, List.cons.injEq, V.i.injEq, and_true] at h7'
    obtain ⟨e1, e2, e3⟩ := h7'
    have e1' : p' = p := by omega
    have e2' : q' = q := by omega
    have e3' : m0 = m := by omega
    subst e1' e2' e3'
    have hm' : ∃ m', (if zm.isSome then m0 else c') = m' ∧ m0 ≤ m' ∧ m' ≤ c' ∧ (ok3 zm k = true → m' = m0) := by
      cases zm with
      | none =>
        have := h11 rfl
        subst this
        exact ⟨c', rfl, h5, Nat.le_refl _, h6⟩
      | some z => exact ⟨m0, rfl, Nat.le_refl _, by omega, fun _ => rfl⟩
    obtain ⟨m', hme, hm1, hm2, hm3⟩ := hm'
    rw [hme] at h12
    refine Good.quiet (cv := .slice (some (if m' = p' then ⟨L.cb, off, none⟩ else Go.Addr.add ⟨L.cb, off, none⟩ (p' * P.cellsOf el))) (q' - p') (m' - p')) hr ?_ ?_
    · simp [execOp, ho, h1, hl, hh, hm, Go.Instr.sliceAt, Go.Instr.slice, Go.run_underlying hd, h12, run_size hi]
      by_cases hmp : m' = p' <;> simp [hmp]
    · simp only [VR]
      have hroom : o' + p' * P.cellsOf el + (m' - p') * P.cellsOf el ≤ L.room := by
        have : p' * P.cellsOf el + (m' - p') * P.cellsOf el = m' * P.cellsOf el := by rw [← Nat.add_mul]; congr 1; omega
        have : m' * P.cellsOf el ≤ c' * P.cellsOf el := Nat.mul_le_mul_right _ hm2
        omega
      by_cases hmp : m' = p'
      · rw [if_pos hmp]
        exact ⟨L, m' - p', off, hL, rfl, .inr (by omega), hroom, by omega, by omega, fun hk => by rw [hm3 hk]⟩
      · rw [if_neg hmp]
        have hoff : off = L.base + o' := by rcases h2 with h2 | h2; exact h2; omega
        refine ⟨L, m' - p', off + p' * P.cellsOf el, hL, by simp [Go.Addr.add], .inl (by omega), hroom, by omega, by omega, fun hk => by rw [hm3 hk]⟩
  · have h7 : ∃ p q m : Nat, K .nils = some r ∧ ∀ K', bnd 0 0 zl zh zm K' = K' p q m := by
      obtain ⟨p, q, m, h7, h8⟩ := bnd_all hs; exact ⟨p, q, m, h7, h8⟩
    obtain ⟨p, q, m, h7, hall⟩ := h7
    refine ⟨_, h7, fun h ι w a hr he => ?_⟩
    have hl := hl' ι a he
    have hh := hh' ι a he
    have hm := hm' ι a he
    have h1 := he.eval x
    rw [hv] at h1; simp only [VR] at h1
    obtain ⟨p, q, m, h7, h8, h9, h10, h11, h12⟩ := bnd_sound (isS := true) (P := P) (w := w) (c' := 0) (Nat.le_refl 0) (Nat.le_refl 0) hs
    have hm0 : m = 0 := by omega
    have hq0 : q = 0 := by omega
    have hp0 : p = 0 := by omega
    subst hm0 hq0 hp0
    refine Good.quiet (cv := .slice none 0 0) hr ?_ (by simp only [VR])
    simp [execOp, ho, h1, hl, hh, hm, Go.Instr.sliceAt, Go.Instr.slice, Go.run_underlying hd, h12, run_size hi]
end
end GoEv
namespace GoEv
open Go (IntKind Value World Addr MapEntry Program Oper Op Operand Act Exit undef execOp Sem Result TypeId TypeDesc BinOp UnOp)
open Go.RowKit (Below)

section
variable {P : Program} {o : Oper} {h : H} {ι : Inj} {w : World} {a : Act} {e : Env} {nt : Nat}

theorem HR.kill (hr : HR P ι h w) {b : Nat} {L : Loc} {x : Blk} (hb : ι b = some L) (hg : h.get b = some x) : HR P ι (h.put b .dead) w ∧ Ext h ι w (h.put b .dead) ι w := by
  refine ⟨⟨?_, hr.lt, ?_, ?_, H.wf_put (hr.lt_n hb) hr.wf⟩, ⟨Sub.refl _, by rw [H.n_put]; exact Nat.le_refl _, ?_, rfl, rfl, rfl, Nat.le_refl _, fun _ _ _ => rfl, fun c _ hn => by rw [H.get_put, if_neg (fun e => by rw [e, hb] at hn; cases hn)], fun c L h1 h2 => by rw [h1] at h2; cases h2⟩⟩
  · intro c hc; rw [H.n_put] at hc; exact hr.dom c hc
  · intro c L y hc hy
    rw [H.get_put] at hy
    by_cases e : c = b
    · rw [if_pos e] at hy; cases hy; trivial
    · rw [if_neg e] at hy; exact hr.blk c L y hc hy
  · intro c c' L1 L2 y y' hne hc hc' hy hy' ho hl
    rw [H.get_put] at hy hy'
    by_cases e : c = b
    · rw [if_pos e] at hy; cases hy; cases ho
    · by_cases e' : c' = b
      · rw [if_pos e'] at hy'; cases hy'; cases hl
      · rw [if_neg e] at hy; rw [if_neg e'] at hy'
        exact hr.apart c c' L1 L2 y y' hne hc hc' hy hy' ho hl
  · intro c y hc hy ho
    rw [H.get_put] at hy
    by_cases e : c = b
    · rw [if_pos e] at hy; cases hy; cases ho
    · rw [if_neg e] at hy; exact ⟨y, hy, ho⟩
/-- A row is taken over by a new block. -/
theorem HR.move (hr : HR P ι h w) {b ty : Nat} {L : Loc} {cs : List V} (hb : ι b = some L) (hg : h.get b = some (.cells false ty cs)) (w' : World) (hw : ∀ c, c ≠ L.cb → w'.heap[c]? = w.heap[c]?) (hs : w'.heap.size = w.heap.size)
    (ho : w'.os = w.os ∧ w'.tape = w.tape ∧ w'.output = w.output) (x : Blk) (L' : Loc) (hL : L'.cb = L.cb) (hx : ∀ ι', Sub ι ι' → BR P ι' x L' w') :
    ∃ ι', ι' h.n = some L' ∧ HR P ι' ((h.put b .dead).push x) w' ∧ Ext h ι w ((h.put b .dead).push x) ι' w' := by
  have hown : own (Blk.cells false ty cs) = true := rfl
  let ι' : Inj := fun c => if c = h.n then some L' else ι c
  have hnew : ι' h.n = some L' := by simp [ι']
  have hold : ∀ c, c ≠ h.n → ι' c = ι c := fun c hc => by simp [ι', hc]
  have hnone : ι h.n = none := hr.dom _ (Nat.le_refl _)
  have hsub : Sub ι ι' := fun c L1 hc => by
    have : c ≠ h.n := fun e => by rw [e, hnone] at hc; cases hc
    rw [hold c this]; exact hc
  have hbn : b ≠ h.n := fun e => by rw [e, hnone] at hb; cases hb
  have hget : ∀ c y, ((h.put b .dead).push x).get c = some y → (c = h.n ∧ y = x) ∨ (c = b ∧ y = .dead) ∨ (c ≠ h.n ∧ c ≠ b ∧ h.get c = some y) := by
    intro c y hy
    rw [H.get_push, H.n_put] at hy
    by_cases e : c = h.n
    · rw [if_pos e] at hy; cases hy; exact .inl ⟨e, rfl⟩
    · rw [if_neg e, H.get_put] at hy
      by_cases e' : c = b
      · rw [if_pos e'] at hy; cases hy; exact .inr (.inl ⟨e', rfl⟩)
      · rw [if_neg e'] at hy; exact .inr (.inr ⟨e, e', hy⟩)
  have hapart : ∀ c L1 y, c ≠ b → ι c = some L1 → h.get c = some y → live y = true → L.cb ≠ L1.cb := fun c L1 y hne hc hy hl => hr.apart b c L L1 _ y (Ne.symm hne) hb hc hg hy hown hl
  refine ⟨ι', hnew, ⟨?_, ?_, ?_, ?_, H.wf_push (H.wf_put (hr.lt_n hb) hr.wf)⟩, ⟨hsub, ?_, ?_, ho.1, ho.2.1, ho.2.2, by omega, ?_, fun c hc hn => by rw [H.get_push, H.n_put, if_neg (by omega), H.get_put, if_neg (fun e => by rw [e, hb] at hn; cases hn)], ?_⟩⟩
  · intro c hc
    rw [H.n_push, H.n_put] at hc
    rw [hold c (by omega)]; exact hr.dom c (by omega)
  · intro c L1 hc
    rw [hs]
    by_cases e : c = h.n
    · subst e; rw [hnew] at hc; cases hc; rw [hL]; exact hr.lt b L hb
    · rw [hold c e] at hc; exact hr.lt c L1 hc
  · intro c L1 y hc hy
    rcases hget c y hy with ⟨rfl, rfl⟩ | ⟨rfl, rfl⟩ | ⟨h1, h2, h3⟩
    · rw [hnew] at hc; cases hc; exact hx ι' hsub
    · trivial
    · rw [hold c h1] at hc
      have hbr := hr.blk c L1 y hc h3
      cases hl : live y with
      | false => cases y <;> first | trivial | cases hl
      | true => exact hbr.same hsub (hw _ (Ne.symm (hapart c L1 y h2 hc h3 hl)))
  · intro c c' L1 L2 y y' hne hc hc' hy hy' hoy hl
    rcases hget c y hy with ⟨rfl, rfl⟩ | ⟨rfl, rfl⟩ | ⟨h1, h2, h3⟩
    · rw [hnew] at hc; cases hc
      rcases hget c' y' hy' with ⟨rfl, rfl⟩ | ⟨rfl, rfl⟩ | ⟨h4, h5, h6⟩
      · exact absurd rfl hne
      · cases hl
      · rw [hold c' h4] at hc'
        rw [hL]; exact hapart c' L2 y' h5 hc' h6 hl
    · cases hoy
    · rw [hold c h1] at hc
      rcases hget c' y' hy' with ⟨rfl, rfl⟩ | ⟨rfl, rfl⟩ | ⟨h4, h5, h6⟩
      · rw [hnew] at hc'; cases hc'
        rw [hL]
        refine Ne.symm (hapart c L1 y h2 hc h3 ?_)
        cases y <;> first | rfl | cases hoy
      · cases hl
      · rw [hold c' h4] at hc'
        exact hr.apart c c' L1 L2 y y' hne hc hc' h3 h6 hoy hl
  · rw [H.n_push, H.n_put]; omega
  · intro c y hc hy hoy
    rcases hget c y hy with ⟨rfl, rfl⟩ | ⟨rfl, rfl⟩ | ⟨h1, h2, h3⟩
    · omega
    · cases hoy
    · exact ⟨y, h3, hoy⟩
  · intro c hc hno
    refine hw c fun e => hno b L _ hb hg hown e.symm
  · intro c L1 h1 h2
    by_cases e : c = h.n
    · subst e; rw [hnew] at h1; cases h1
      exact ⟨Nat.le_refl _, .inr ⟨b, L, _, hb, hg, hown, hL.symm⟩⟩
    · rw [hold c e, h2] at h1; cases h1

theorem bytes_sound (ι : Inj) : ∀ (l : List UInt8), VRs ι (bytes l.length (bn l)) (l.map fun b => Value.int .u8 (b.toNat : Int))
  | [] => VRs.nil
  | b :: r => by
    have h1 : (b.toNat + 256 * bn r) % 256 = b.toNat := by have := b.toNat_lt; omega
    have h2 : (b.toNat + 256 * bn r) / 256 = bn r := by have := b.toNat_lt; omega
    show VRs ι (V.u8 (Int.ofNat ((b.toNat + 256 * bn r) % 256)) :: bytes r.length ((b.toNat + 256 * bn r) / 256)) _
    rw [h1, h2]
    exact VRs.cons (by simp only [VR]; rfl) (bytes_sound ι r)
theorem bytes_length : ∀ (l n : Nat), (bytes l n).length = l
  | 0, _ => rfl
  | l + 1, n => by show (bytes l _).length + 1 = _; rw [bytes_length l]
/-- What is appended or copied. -/
theorem src_sound {x : V} {s : Nat} {K : Nat → List V → A} {r : V × H} (hh : src h x s K = some r) :
    ∃ (n : Nat) (new : List V), K n new = some r ∧ new.length = n * s ∧ ∀ (ι : Inj) (w : World) (vx : Value), HR P ι h w → VR ι x vx → ∃ cs : List Value, VRs ι new cs ∧ (∀ y ∈ cs, y.oneCell' = true) ∧ (Go.Builtin.lenOf vx = pure n) ∧
      ∀ w' : World, w'.heap = w.heap → (Go.Builtin.firstCells s n vx).run P w' = .ok cs.toArray w' := by
  rcases src_some hh with ⟨l, n, rfl, rfl, hK⟩ | ⟨rfl, hK⟩ | ⟨b, o', l, c, s', k, rfl, ro, ty, cs, hg, hn, hK⟩
  · refine ⟨l, _, hK, by rw [bytes_length]; omega, fun ι w vx hr hx => ?_⟩
    simp only [VR] at hx
    obtain ⟨st, rfl, hs⟩ := hx
    have hb := bytes_sound ι st.data.toList
    rw [hs.1, hs.2] at hb
    have hsz : st.size = l := hs.size
    refine ⟨_, hb, ?_, ?_, ?_⟩
    · intro y hy
      obtain ⟨z, _, rfl⟩ := List.mem_map.1 hy
      rfl
    · simp [Go.Builtin.lenOf, hsz]
    · intro w' _
      simp [Go.Builtin.firstCells]
      have hd : st.data.size = l := hsz
      apply Array.ext'
      simp [Array.toList_extract, List.extract_eq_take_drop, ← hd]
      exact List.take_of_length_le (by simp)
  · refine ⟨0, [], hK, by simp, fun ι w vx hr hx => ?_⟩
    simp only [VR] at hx
    subst hx
    refine ⟨[], VRs.nil, by simp, rfl, ?_⟩
    intro w' _
    simp [Go.Builtin.firstCells]
  · refine ⟨l, _, hK, hn, fun ι w vx hr hx => ?_⟩
    simp only [VR] at hx
    obtain ⟨L, c', off, hL, rfl, h2, h3, h4, h5, h6⟩ := hx
    obtain ⟨ls, h7, h8, h9, h10⟩ := hr.loads hL hg hn
    refine ⟨ls, h9, h10, rfl, ?_⟩
    intro w' hw
    have hc : ∀ a, w'.cell? a = w.cell? a := fun a => Go.World.cell?_of_block (by rw [hw])
    refine Go.run_firstCells_some w' s l ⟨L.cb, off, none⟩ l c' ls h7 fun j v hj => ?_
    rw [hc]
    rcases h2 with h2 | h2
    · subst h2; rw [Go.Addr.add_lit]; exact h8 j v hj
    · have : l = 0 := by omega
      subst this
      have : ls = [] := List.eq_nil_of_length_eq_zero (by simpa using h7)
      subst this; simp at hj

theorem VRs.take_ones {cs : List Value} (h : ∀ y ∈ cs, y.oneCell' = true) (cs' : List Value) (h' : ∀ y ∈ cs', y.oneCell' = true) : ∀ y ∈ cs ++ cs', y.oneCell' = true := by
  intro y hy
  rcases List.mem_append.1 hy with h1 | h1
  · exact h y h1
  · exact h' y h1
theorem zeros_one {i : Go.TypeInfo} {z : Value} (hz : ∀ x ∈ z.cells.toList, x.oneCell' = true) (n : Nat) : ∀ y ∈ (Go.Builtin.zeroCells z.cells n).toList, y.oneCell' = true := by
  intro y hy
  simp only [Go.Builtin.zeroCells, Array.toList_map, List.mem_map] at hy
  obtain ⟨j, hj, rfl⟩ := hy
  have hj' : j < n * z.cells.size := by simpa using hj
  have hpos : 0 < z.cells.size := by
    rcases Nat.eq_zero_or_pos z.cells.size with h0 | h0
    · rw [h0] at hj'; omega
    · exact h0
  have hlt : j % z.cells.size < z.cells.size := Nat.mod_lt _ hpos
  rw [getElem!_pos z.cells _ hlt]
  exact hz _ (by simp)
/-- append, where it fits -/
theorem run_append_in {t xt el : TypeId} {ty : TypeId} {d : TypeDesc} {i : Go.TypeInfo} {args : Array Value} {ats : Array TypeId} {base : Option Addr} {sLen sCap n : Nat} {vx : Value} {cs : List Value} {w' : World}
    (h1 : ats[0]? = some t) (h2 : ats[1]? = some xt) (h3 : args[0]? = some (.slice base sLen sCap)) (h4 : args[1]? = some vx) (ht : P.underlying t = some (.slice el)) (hx : P.underlying xt = some d) (hd : d = .string ∨ ∃ q, d = .slice q) (hi : P.info? el = some i)
    (hl : Go.Builtin.lenOf vx = pure n) (hf : (Go.Builtin.firstCells i.size n vx).run P w = .ok cs.toArray w) (hfit : sLen + n ≤ sCap)
    (hst : match base with | none => w' = w | some b => (Go.storeCells (b.add (sLen * i.size)) cs).run P w = .ok () w') :
    (Go.Builtin.append_ ats ty args).run P w = .ok (.slice base (sLen + n) sCap) w' := by
  cases base with
  | none =>
    subst hst
    rcases hd with rfl | ⟨q, rfl⟩ <;> simp [Go.Builtin.append_, h1, h2, h3, h4, Go.run_underlying ht, Go.run_underlying hx, Go.sizeOf, Go.typeInfo, hi, hl, hf, hfit]
  | some b =>
    rcases hd with rfl | ⟨q, rfl⟩ <;> simp [Go.Builtin.append_, h1, h2, h3, h4, Go.run_underlying ht, Go.run_underlying hx, Go.sizeOf, Go.typeInfo, hi, hl, hf, hfit, hst]
theorem run_append_out {t xt el : TypeId} {ty : TypeId} {d : TypeDesc} {i : Go.TypeInfo} {z : Value} {args : Array Value} {ats : Array TypeId} {base : Option Addr} {sLen sCap n : Nat} {vx : Value} {cs olds : List Value}
    (h1 : ats[0]? = some t) (h2 : ats[1]? = some xt) (h3 : args[0]? = some (.slice base sLen sCap)) (h4 : args[1]? = some vx) (ht : P.underlying t = some (.slice el)) (hx : P.underlying xt = some d) (hd : d = .string ∨ ∃ q, d = .slice q) (hi : P.info? el = some i) (hz : i.zero = some z)
    (hl : Go.Builtin.lenOf vx = pure n) (hf : (Go.Builtin.firstCells i.size n vx).run P w.drew = .ok cs.toArray w.drew) (hfit : ¬ (sLen + n ≤ sCap))
    (hfo : (Go.Builtin.firstCells i.size sLen (.slice base sLen sCap)).run P w.drew = .ok olds.toArray w.drew)
    (h63 : ((sLen + n : Nat) : Int) ≤ 9223372036854775807) (hby : (sLen + n) * i.bytes ≤ 140737488355328) :
    (Go.Builtin.append_ ats ty args).run P w = .ok (.slice (some ⟨w.heap.size, 0, none⟩) (sLen + n) (Go.grownCap w (sLen + n) sCap el))
        (w.drew.alloc (.cells ((olds ++ cs) ++ (Go.Builtin.zeroCells z.cells (Go.grownCap w (sLen + n) sCap el - (sLen + n))).toList).toArray el)) := by
  have h63' : ¬ (9223372036854775807 < ((sLen : Int) + (n : Int))) := by omega
  have h48' : ¬ (281474976710656 < Go.Builtin.nextslicecap (sLen + n) sCap * i.bytes) := by
    have := Go.growslice_fits (old := sCap) (show sCap < sLen + n by omega) hby
    omega
  have happ : ((olds ++ cs) ++ (Go.Builtin.zeroCells z.cells (Go.grownCap w (sLen + n) sCap el - (sLen + n))).toList).toArray = olds.toArray ++ cs.toArray ++ Go.Builtin.zeroCells z.cells (Go.grownCap w (sLen + n) sCap el - (sLen + n)) := by
    apply Array.ext'; simp
  rw [happ]
  rcases hd with rfl | ⟨q, rfl⟩ <;> simp [Go.Builtin.append_, h1, h2, h3, h4, Go.run_underlying ht, Go.run_underlying hx, Go.sizeOf, Go.typeInfo, Go.zeroValue, hi, hz, hl, hf, hfo, hfit, h63', h48', Go.Question.forced, Go.newRow, Go.grownCap] <;> (congr 2; apply Array.ext'; simp [List.append_assoc])

theorem run_store_there {b o : Nat} {cs : List Value} (ht : w.there b o cs.length) (h1 : ∀ y ∈ cs, y.oneCell' = true) : (Go.storeCells ⟨b, o, none⟩ cs).run P w = .ok () (w.setCells b o cs) := by
  have := Go.run_storeCells_cells (P := P) b o cs 0 w (fun j hj => by simpa using (ht j hj).1) (fun j hj => by simpa using (ht j hj).2) h1
  simpa using this
theorem storeCells_nil (b : Addr) (w : World) : (Go.storeCells b []).run P w = .ok () w := by
  simp [Go.storeCells]
theorem bytes_le {a b : Nat} (h : a ≤ 4294967296) (hb : b ≤ 4096) : a * b ≤ 140737488355328 := by
  have : a * b ≤ 4294967296 * 4096 := Nat.mul_le_mul h hb
  omega
/-- the new row of an append that does not fit -/
theorem fresh_row {el : TypeId} {i : Go.TypeInfo} {z : Value} {need old : Nat} {l : List V} {cs : List Value} (hi : P.info? el = some i) (hz : i.zero = some z) (hzo : ∀ q ∈ z.cells.toList, q.oneCell' = true) (hzs : z.cells.size = i.size)
    (hl : VRs ι l cs) (h1 : ∀ y ∈ cs, y.oneCell' = true) (hlen : l.length = need * i.size) (hr : HR P ι h w) :
    ∃ ι', VR ι' (.sl h.n 0 need need i.size false) (.slice (some ⟨w.heap.size, 0, none⟩) need (Go.grownCap w need old el)) ∧
      HR P ι' (h.push (.cells false el l)) (w.drew.alloc (.cells (cs ++ (Go.Builtin.zeroCells z.cells (Go.grownCap w need old el - need)).toList).toArray el)) ∧
      Ext h ι w (h.push (.cells false el l)) ι' (w.drew.alloc (.cells (cs ++ (Go.Builtin.zeroCells z.cells (Go.grownCap w need old el - need)).toList).toArray el)) := by
  have hge := Go.grownCap_ge w need old el
  have hcl : cs.length = need * i.size := hl.length.trans hlen
  have htot : cs.length + (Go.Builtin.zeroCells z.cells (Go.grownCap w need old el - need)).toList.length = Go.grownCap w need old el * i.size := by
    have hz2 : (Go.Builtin.zeroCells z.cells (Go.grownCap w need old el - need)).toList.length = (Go.grownCap w need old el - need) * i.size := by
      rw [Array.length_toList, Go.size_zeroCells, hzs]
    rw [hz2, hcl, ← Nat.add_mul]; congr 1; omega
  obtain ⟨ι', h2, h3, h4⟩ := new_row hr.drew l cs el hl h1 (Go.grownCap w need old el * i.size) (by rw [hlen]; exact Nat.mul_le_mul_right _ hge) _ htot (zeros_one (i := i) hzo _)
  refine ⟨ι', ?_, h3, Ext.trans hr.dom (Ext.drew (Ext.refl h ι w)) h4⟩
  simp only [VR]
  exact ⟨_, _, 0, h2, rfl, .inl rfl, by simp, Nat.le_refl _, hge, fun h => nomatch h⟩
/-- append -/
theorem g_append {c : Go.Call} {t xt el : TypeId} {d : TypeDesc} {x y : Operand} {i : Go.TypeInfo} {z : Value} {K : V → H → A} {r : V × H} (ho : o.op = .call c) (hc : c.callee = .builtin .append)
    (h1 : c.argTypes[0]? = some t) (h2 : c.argTypes[1]? = some xt) (h3 : c.args[0]? = some x) (h4 : c.args[1]? = some y) (ht : P.underlying t = some (.slice el)) (hxt : P.underlying xt = some d) (hd : d = .string ∨ ∃ q, d = .slice q)
    (hi : P.info? el = some i) (hz : i.zero = some z) (hzo : ∀ q ∈ z.cells.toList, q.oneCell' = true) (hzs : z.cells.size = i.size) (hby : i.bytes ≤ 4096)
    (hh : apd h (evA P e x) (evA P e y) i.size el K = some r) : ∃ v h', K v h' = some r ∧ GW P o e nt h v h' := by
  have hsz : P.cellsOf el = i.size := by simp [Go.Program.cellsOf, hi]
  unfold apd at hh
  obtain ⟨n, new, hK, hnl, hsrc⟩ := src_sound (P := P) hh
  obtain ⟨hn32, hcase⟩ := apd2_some hK
  rcases hcase with ⟨rfl, hs, hK⟩ | ⟨hn, hs, hK⟩ | ⟨hn, b, o', l, cp, k, ro, ty, cl, hs, hg, hK⟩
  · refine ⟨_, _, hK, fun ι w a hr he => ?_⟩
    have hvx := he.eval x
    have hop : ∀ v w', (Go.Builtin.append_ c.argTypes o.type (c.args.map a.eval)).run P w = .ok v w' → (execOp a.eval o).run P w = .ok (.value v) w' := by
      intro v w' hv
      simp [execOp, ho, Go.resolve, hc, Go.invoke, Go.builtin, hv]
    have h3' : (c.args.map a.eval)[0]? = some (a.eval x) := by simp [h3]
    have h4' : (c.args.map a.eval)[1]? = some (a.eval y) := by simp [h4]
    obtain ⟨cs, hvs, h1c, hlen, hfc⟩ := hsrc ι w _ hr (he.eval y)
    have hcl : cs.length = 0 * i.size := hvs.length.trans hnl
    have hcs : cs = [] := List.eq_nil_of_length_eq_zero (by simpa using hcl)
    subst hcs
    have : ∃ base sLen sCap, a.eval x = .slice base sLen sCap ∧ sLen ≤ sCap := by
      rcases hs with hs | ⟨b, o', l, c', s', k, hs⟩ <;> rw [hs] at hvx <;> simp only [VR] at hvx
      · exact ⟨_, _, _, hvx, Nat.le_refl _⟩
      · obtain ⟨L, c'', off, _, h5, _, _, h6, h7, _⟩ := hvx
        exact ⟨_, _, _, h5, by omega⟩
    obtain ⟨base, sLen, sCap, h5, h6⟩ := this
    rw [h5] at h3'
    have := run_append_in (ty := o.type) (w' := w) h1 h2 h3' h4' ht hxt hd hi hlen (hfc w rfl) (by omega) (by cases base with | none => rfl | some b => exact storeCells_nil _ _)
    refine Good.quiet (cv := a.eval x) hr ?_ hvx
    rw [h5]
    exact hop _ _ this
  · refine ⟨_, _, hK, fun ι w a hr he => ?_⟩
    have hvx := he.eval x
    have hop : ∀ v w', (Go.Builtin.append_ c.argTypes o.type (c.args.map a.eval)).run P w = .ok v w' → (execOp a.eval o).run P w = .ok (.value v) w' := by
      intro v w' hv
      simp [execOp, ho, Go.resolve, hc, Go.invoke, Go.builtin, hv]
    have h3' : (c.args.map a.eval)[0]? = some (a.eval x) := by simp [h3]
    have h4' : (c.args.map a.eval)[1]? = some (a.eval y) := by simp [h4]
    obtain ⟨cs, hvs, h1c, hlen, hfc⟩ := hsrc ι w _ hr (he.eval y)
    have hcl : cs.length = n * i.size := hvs.length.trans hnl
    rw [hs] at hvx; simp only [VR] at hvx
    rw [hvx] at h3'
    obtain ⟨ι', h5, h6, h7⟩ := fresh_row (old := 0) hi hz hzo hzs hvs h1c hnl hr
    have := run_append_out (ty := o.type) (olds := []) h1 h2 h3' h4' ht hxt hd hi hz hlen (hfc w.drew rfl) (by omega) (by simp [Go.Builtin.firstCells]) (by omega) (bytes_le (by omega) hby)
    simp only [Nat.zero_add, List.nil_append] at this
    exact Good.value (hop _ _ this) h5 h6 h7
  · have main : ∀ v h', ((l + n ≤ cp ∧ ro = false ∧ o' + l * i.size + new.length ≤ cl.length ∧ v = .sl b o' (l + n) cp i.size k ∧ h' = h.put b (.cells false ty (cl.take (o' + l * i.size) ++ (new ++ cl.drop (o' + l * i.size + new.length))))) ∨
       (¬ (l + n ≤ cp) ∧ ((cl.drop o').take (l * i.size)).length = l * i.size ∧ l + n ≤ 4294967296 ∧
         ((k = true ∧ v = .sl h.n 0 (l + n) (l + n) i.size false ∧ h' = h.push (.cells false el ((cl.drop o').take (l * i.size) ++ new))) ∨
          (k = false ∧ ro = false ∧ ty = el ∧ o' % i.size = 0 ∧ v = .sl h.n 0 (l + n) (l + n) i.size false ∧ h' = (h.put b .dead).push (.cells false el ((cl.drop o').take (l * i.size) ++ new)))))) → GW P o e nt h v h' := ?main
    · rcases hK with ⟨q1, q2, q3, q4⟩ | ⟨q1, q2, q3, ⟨q4, q5⟩ | ⟨q4, q5, q6, q7, q8⟩⟩
      · exact ⟨_, _, q4, main _ _ (.inl ⟨q1, q2, q3, rfl, rfl⟩)⟩
      · exact ⟨_, _, q5, main _ _ (.inr ⟨q1, q2, q3, .inl ⟨q4, rfl, rfl⟩⟩)⟩
      · exact ⟨_, _, q8, main _ _ (.inr ⟨q1, q2, q3, .inr ⟨q4, q5, q6, q7, rfl, rfl⟩⟩)⟩
    intro v h' hK ι w a hr he
    have hvx := he.eval x
    have hop : ∀ v w', (Go.Builtin.append_ c.argTypes o.type (c.args.map a.eval)).run P w = .ok v w' → (execOp a.eval o).run P w = .ok (.value v) w' := by
      intro v w' hv
      simp [execOp, ho, Go.resolve, hc, Go.invoke, Go.builtin, hv]
    have h3' : (c.args.map a.eval)[0]? = some (a.eval x) := by simp [h3]
    have h4' : (c.args.map a.eval)[1]? = some (a.eval y) := by simp [h4]
    obtain ⟨cs, hvs, h1c, hlen, hfc⟩ := hsrc ι w _ hr (he.eval y)
    have hcl : cs.length = n * i.size := hvs.length.trans hnl
    rw [hs] at hvx
    have hvx' := hvx
    simp only [VR] at hvx
    obtain ⟨L, c', off, hL, h5, h6, h7, h8, h9, h10⟩ := hvx
    rw [h5] at h3'
    rcases hK with ⟨hfit, rfl, hle, rfl, rfl⟩ | ⟨hnfit, hold, hn2, hK⟩
    · have hoff : off = L.base + o' := by rcases h6 with h6 | h6; exact h6; omega
      subst hoff
      obtain ⟨g1, g2, g3⟩ := hr.store (o := o' + l * i.size) hL hg new cs hvs h1c hle
      have hst := run_store_there (P := P) g1 h1c
      have := run_append_in (ty := o.type) (w' := w.setCells L.cb (L.base + (o' + l * i.size)) cs) h1 h2 h3' h4' ht hxt hd hi hlen (hfc w rfl) (by omega) (by show (Go.storeCells (Go.Addr.add _ _) cs).run P w = _; rw [Go.Addr.add_lit, Nat.add_assoc]; exact hst)
      refine Good.value (hop _ _ this) ?_ g2 g3
      simp only [VR]
      exact ⟨L, c', _, hL, rfl, .inl rfl, h7, by omega, h9, h10⟩
    · obtain ⟨olds, g1, g2, g3, g4⟩ := hr.loads hL hg hold
      have hoff : off = L.base + o' ∨ l = 0 := by rcases h6 with h6 | h6; exact .inl h6; exact .inr (by omega)
      have hfo : (Go.Builtin.firstCells i.size l (.slice (some ⟨L.cb, off, none⟩) l c')).run P w.drew = .ok olds.toArray w.drew := by
        refine Go.run_firstCells_some w.drew i.size l ⟨L.cb, off, none⟩ l c' olds g1 fun j v hj => ?_
        rcases hoff with rfl | rfl
        · rw [Go.Addr.add_lit]; exact g2 j v hj
        · have : olds = [] := List.eq_nil_of_length_eq_zero (by simpa using g1)
          subst this; simp at hj
      have hnew : ((cl.drop o').take (l * i.size) ++ new).length = (l + n) * i.size := by rw [List.length_append, hold, hnl, Nat.add_mul]
      have hfresh : ∀ h1 : H, HR P ι h1 w → Ext h ι w h1 ι w → h1.n = h.n → ¬ (l + n ≤ c') →
          Good P o h ι w a (.sl h.n 0 (l + n) (l + n) i.size false) (h1.push (.cells false el ((cl.drop o').take (l * i.size) ++ new))) := by
        intro h1' hr1 hx1 hnn hno
        obtain ⟨ι', h11, h12, h13⟩ := fresh_row (old := c') hi hz hzo hzs (VRs.append g3 hvs) (VRs.take_ones g4 cs h1c) hnew hr1
        have := run_append_out (ty := o.type) (olds := olds) h1 h2 h3' h4' ht hxt hd hi hz hlen (hfc w.drew rfl) hno hfo (by omega) (bytes_le (by omega) hby)
        rw [hnn] at h11
        exact Good.value (hop _ _ this) h11 h12 (Ext.trans hr.dom hx1 h13)
      rcases hK with ⟨rfl, rfl, rfl⟩ | ⟨rfl, rfl, rfl, hmod, rfl, rfl⟩
      · refine hfresh h hr (Ext.refl _ _ _) rfl ?_
        rw [h10 rfl]; exact hnfit
      · by_cases hno : l + n ≤ c'
        · have hoff : off = L.base + o' := by rcases h6 with h6 | h6; exact h6; omega
          subst hoff
          obtain ⟨q1, q2, q3, q4, q56⟩ := hr.blk _ _ _ hL hg
          obtain ⟨q5, q6⟩ := q56 rfl
          have hroom : o' + (l + n) * i.size ≤ L.room := by
            have : (l + n) * i.size ≤ c' * i.size := Nat.mul_le_mul_right _ hno
            omega
          have hsplit : (l + n) * i.size = l * i.size + n * i.size := Nat.add_mul _ _ _
          have hth : w.there L.cb (L.base + o' + l * i.size) cs.length := fun j hj => by
            obtain ⟨cv, h11, _⟩ := q3 (o' + l * i.size + j) (by omega)
            rw [show L.base + (o' + l * i.size + j) = L.base + o' + l * i.size + j by omega] at h11
            refine ⟨by rw [h11]; rfl, ?_⟩
            have := q4 rfl (o' + l * i.size + j) (by omega)
            rwa [show L.base + (o' + l * i.size + j) = L.base + o' + l * i.size + j by omega] at this
          have hst := run_store_there (P := P) hth h1c
          have := run_append_in (ty := o.type) (w' := w.setCells L.cb (L.base + o' + l * i.size) cs) h1 h2 h3' h4' ht hxt hd hi hlen (hfc w rfl) hno (by show (Go.storeCells (Go.Addr.add _ _) cs).run P w = _; rw [Go.Addr.add_lit]; exact hst)
          have hin : ∀ j (hj : j < cs.length), (w.setCells L.cb (L.base + o' + l * i.size) cs).cell? ⟨L.cb, L.base + o' + l * i.size + j, none⟩ = some cs[j] := fun j hj =>
            World.cell?_setCells_in L.cb cs (L.base + o' + l * i.size) w (fun i hi => (hth i hi).1) j hj
          have hout : ∀ q, (q < L.base + o' + l * i.size ∨ L.base + o' + l * i.size + cs.length ≤ q) → (w.setCells L.cb (L.base + o' + l * i.size) cs).cell? ⟨L.cb, q, none⟩ = w.cell? ⟨L.cb, q, none⟩ := fun q hq =>
            World.cell?_setCells_out L.cb cs (L.base + o' + l * i.size) w ⟨L.cb, q, none⟩ (by simp; omega)
          obtain ⟨ι', p1, p2, p3⟩ := hr.move hL hg (w.setCells L.cb (L.base + o' + l * i.size) cs) (fun c hc => heap_setCells _ _ _ _ _ hc) (size_setCells _ _ _ _) (os_setCells _ _ _ _)
            (.cells false ty ((cl.drop o').take (l * i.size) ++ new)) ⟨L.cb, L.base + o', L.room - o'⟩ rfl fun ι' hs' => by
              refine ⟨fun j v hv => ?_, by rw [hnew]; show _ ≤ L.room - o'; omega, fun j hj => ?_, fun _ j hj => ?_, fun _ => ⟨?_, ?_⟩⟩
              · by_cases hj : j < l * i.size
                · rw [List.getElem?_append_left (by rw [hold]; exact hj)] at hv
                  obtain ⟨cv, h11, h12⟩ := g3.get j v hv
                  refine ⟨cv, ?_, VR.mono hs' _ _ h12⟩
                  show (w.setCells _ _ _).cell? ⟨L.cb, L.base + o' + j, none⟩ = _
                  rw [hout _ (.inl (by omega))]
                  exact g2 j cv h11
                · rw [List.getElem?_append_right (by rw [hold]; omega), hold] at hv
                  obtain ⟨cv, h11, h12⟩ := hvs.get _ v hv
                  refine ⟨cv, ?_, VR.mono hs' _ _ h12⟩
                  have hlt : j - l * i.size < cs.length := (List.getElem?_eq_some_iff.1 h11).1
                  have := hin (j - l * i.size) hlt
                  rw [show L.base + o' + l * i.size + (j - l * i.size) = L.base + o' + j by omega] at this
                  show (w.setCells _ _ _).cell? ⟨L.cb, L.base + o' + j, none⟩ = _
                  rw [this, ← h11, List.getElem?_eq_getElem hlt]
              · have hj' : j < L.room - o' := hj
                by_cases hjo : L.base + o' + j < L.base + o' + l * i.size ∨ L.base + o' + l * i.size + cs.length ≤ L.base + o' + j
                · obtain ⟨cv, h11, h12⟩ := q3 (o' + j) (by omega)
                  refine ⟨cv, ?_, h12⟩
                  show (w.setCells _ _ _).cell? ⟨L.cb, L.base + o' + j, none⟩ = _
                  rw [hout _ hjo, Nat.add_assoc]; exact h11
                · have := hin (j - l * i.size) (by omega)
                  rw [show L.base + o' + l * i.size + (j - l * i.size) = L.base + o' + j by omega] at this
                  exact ⟨_, this, h1c _ (List.getElem_mem _)⟩
              · show (w.setCells _ _ _).frozen? ⟨L.cb, L.base + o' + j, none⟩ = false
                have hj' : j < L.room - o' := hj
                rw [World.frozen?_setCells, Nat.add_assoc]; exact q4 rfl (o' + j) (by omega)
              · rw [shape_setCells, q5]; show some (ty, _) = some (ty, L.base + o' + (L.room - o')); congr 2; omega
              · show (L.base + o') % P.cellsOf ty = 0
                rw [hsz]; rw [hsz] at q6
                rw [Nat.add_mod, q6, hmod]; simp
          refine Good.value (hop _ _ this) ?_ p2 p3
          simp only [VR]
          refine ⟨_, c', _, p1, rfl, .inl (Nat.add_zero _).symm, ?_, Nat.le_refl _, hno, fun h => nomatch h⟩
          show 0 + c' * i.size ≤ L.room - o'
          have : l * i.size + n * i.size ≤ c' * i.size := by rw [← hsplit]; exact Nat.mul_le_mul_right _ hno
          omega
        · obtain ⟨hk1, hk2⟩ := hr.kill hL hg
          exact hfresh _ hk1 hk2 (H.n_put _ _ _) hno
end
end GoEv
namespace GoEv
open Go (IntKind Value World Addr MapEntry Program Oper Op Operand Act Exit undef execOp Sem Result TypeId TypeDesc BinOp UnOp)

section
variable {P : Program} {o : Oper} {h : H} {ι : Inj} {w : World} {a : Act} {e : Env} {nt : Nat}

theorem hasInfo_some {t : TypeId} (h : hasInfo P t = true) : ∃ d i, P.underlying t = some d ∧ P.info? t = some i := by
  unfold hasInfo at h
  obtain ⟨d, hd⟩ := Option.isSome_iff_exists.1 h
  obtain ⟨i, hi⟩ := info_of_und hd
  exact ⟨d, i, hd, hi⟩
theorem bif_none {b : Bool} {x : A} {r : V × H} : (cd (b) (x) (none)) = some r ↔ b = true ∧ x = some r := by cases b <;> simp
theorem bif_none' {b : Bool} {x : A} {r : V × H} : (cd (b) (none) (x)) = some r ↔ b = false ∧ x = some r := by cases b <;> simp

/-! ### composites -/
theorem foldl_set (off : Nat) : ∀ (vs : List Value) (k : Nat) (ca : Array Value), off + k + vs.length ≤ ca.size →
    ((vs.zipIdx k).foldl (fun (cs : Array Value) (p : Value × Nat) => cs.setIfInBounds (off + p.2) p.1) ca).toList = ca.toList.take (off + k) ++ (vs ++ ca.toList.drop (off + k + vs.length))
  | [], k, ca, _ => by simp
  | v :: vs, k, ca, h => by
    simp only [List.length_cons] at h
    rw [List.zipIdx_cons, List.foldl_cons, foldl_set off vs (k + 1) _ (by simp; omega)]
    simp only [Array.toList_setIfInBounds, List.length_cons]
    rw [List.set_eq_take_append_cons_drop, if_pos (by simp; omega)]
    have hlt : (ca.toList.take (off + k)).length = off + k := by simp; omega
    have e1 : (ca.toList.take (off + k) ++ v :: ca.toList.drop (off + k + 1)).take (off + (k + 1)) = ca.toList.take (off + k) ++ [v] := by
      rw [List.take_append, hlt]
      rw [show off + (k + 1) - (off + k) = 1 by omega, List.take_of_length_le (by omega)]
      rfl
    have e2 : (ca.toList.take (off + k) ++ v :: ca.toList.drop (off + k + 1)).drop (off + (k + 1) + vs.length) = ca.toList.drop (off + k + (vs.length + 1)) := by
      rw [List.drop_append, hlt, List.drop_eq_nil_of_le (by omega), List.nil_append, show off + (k + 1) + vs.length - (off + k) = vs.length + 1 by omega, List.drop_succ_cons, List.drop_drop]
      congr 1; omega
    rw [e1, e2]; simp
def BuildR (P : Program) (e : Env) (nt : Nat) (parts : List (Nat × Operand)) (acc cs : List V) (place : Nat → Option (Nat × Nat)) : Prop :=
  ∀ (ι : Inj) (a : Act) (ca : Array Value), ER P ι e nt a → VRs ι acc ca.toList → (∀ y ∈ ca.toList, y.oneCell' = true) →
    ∃ cc, Go.Instr.fill place ca (parts.map fun p => (p.1, a.eval p.2)) = some cc ∧ VRs ι cs cc.toList ∧ ∀ y ∈ cc.toList, y.oneCell' = true
theorem dFill_some {pl : Nat → Option (Nat × Nat × Bool)} {place : Nat → Option (Nat × Nat)} (hpl : ∀ i off n b, pl i = some (off, n, b) → place i = some (off, n)) :
    ∀ (parts : List (Nat × Operand)) (acc : List V) {K : List V → A} {r : V × H}, dFill P e pl parts acc K = some r → ∃ cs, K cs = some r ∧ cs.length = acc.length ∧ BuildR P e nt parts acc cs place
  | [], acc, K, r, hh => ⟨acc, hh, rfl, fun ι a ca he h1 h2 => ⟨ca, rfl, h1, h2⟩⟩
  | (i, x) :: parts, acc, K, r, hh => by
    unfold dFill at hh
    have step : ∀ (off n : Nat) (b : Bool) (vs : List V), pl i = some (off, n, b) → vs.length = n → off + n ≤ acc.length →
        (∀ (ι : Inj) (a : Act), ER P ι e nt a → ∃ cs, (a.eval x).cells = cs ∧ VRs ι vs cs.toList ∧ ∀ y ∈ cs.toList, y.oneCell' = true) →
        (∃ cs, K cs = some r ∧ cs.length = (acc.take off ++ (vs ++ acc.drop (off + vs.length))).length ∧ BuildR P e nt parts (acc.take off ++ (vs ++ acc.drop (off + vs.length))) cs place) →
        ∃ cs, K cs = some r ∧ cs.length = acc.length ∧ BuildR P e nt ((i, x) :: parts) acc cs place := by
      intro off n b vs h1 h2 h3 h4 ⟨cs, h5, h6, h7⟩
      refine ⟨cs, h5, ?_, ?_⟩
      · rw [h6]; simp only [List.length_append, List.length_take, List.length_drop]; omega
      · intro ι a ca he hv ho1
        obtain ⟨c, h8, h9, h10⟩ := h4 ι a he
        have hca : ca.size = acc.length := by rw [← hv.length]; simp
        have hcl : c.size = n := by rw [← h2, ← h9.length]; simp
        have hf := foldl_set off c.toList 0 ca (by simp; omega)
        have hnew : VRs ι (acc.take off ++ (vs ++ acc.drop (off + vs.length))) (ca.toList.take off ++ (c.toList ++ ca.toList.drop (off + c.toList.length))) := by
          have : c.toList.length = vs.length := h9.length
          rw [this]
          exact VRs.append (hv.take _) (VRs.append h9 (hv.drop _))
        obtain ⟨cc, h11, h12, h13⟩ := h7 ι a (c.toList.zipIdx.foldl (fun (cs : Array Value) (p : Value × Nat) => cs.setIfInBounds (off + p.2) p.1) ca) he (by rw [hf]; simpa using hnew) (by
          rw [hf]
          intro y hy
          simp only [Nat.add_zero, List.mem_append] at hy
          rcases hy with hy | hy | hy
          · exact ho1 y (List.mem_of_mem_take hy)
          · exact h10 y hy
          · exact ho1 y (List.mem_of_mem_drop hy))
        refine ⟨cc, ?_, h12, h13⟩
        simp only [List.map_cons, Go.Instr.fill, hpl _ _ _ _ h1, h8]
        rw [if_neg]
        · rw [← h11]
          congr 1
          rw [← Array.foldl_toList, Array.toList_zipIdx]
        · simp [hcl]; omega
    split at hh
    · rename_i off n hp
      rw [toA_some] at hh
      obtain ⟨l, h1, h2⟩ := hh
      rw [lnc_some, smc_some] at h2
      obtain ⟨h3, h4, h5⟩ := h2
      refine step off n true l hp h3 (by omega) (fun ι a he => ?_) (dFill_some hpl parts _ h5)
      have h6 := he.eval x
      rw [h1] at h6; simp only [VR] at h6
      obtain ⟨c, h7, h8, h9⟩ := h6
      exact ⟨c, by rw [h7]; rfl, h8, h9⟩
    · rename_i off n hp
      rw [bif_none, one_some, setO_some, beq_eq] at hh
      obtain ⟨h1, h2, h3, h4⟩ := hh
      have hn : n = 1 := of_decide_eq_true h1
      subst hn
      have hset : acc.take off ++ ([evA P e x] ++ acc.drop (off + [evA P e x].length)) = acc.set off (evA P e x) := by
        rw [List.set_eq_take_append_cons_drop, if_pos h3]; rfl
      refine step off 1 false [evA P e x] hp rfl (by omega) (fun ι a he => ?_) ?_
      · obtain ⟨h5, h6⟩ := VR.one h2 (he.eval x)
        exact ⟨_, h6, VRs.cons (he.eval x) VRs.nil, by simpa using h5⟩
      · rw [hset]
        exact dFill_some hpl parts _ h4
    · cases hh
theorem mapM_list {fs : List Go.Field} (hi : ∀ f ∈ fs, ∃ i, P.info? f.type = some i) (w : World) :
    (fs.mapM fun f => (do pure (f.offset, ← Go.sizeOf f.type) : Sem (Nat × Nat))).run P w = .ok (fs.map fun f => (f.offset, P.cellsOf f.type)) w := by
  induction fs with
  | nil => rfl
  | cons f fs ih =>
    obtain ⟨i, hf⟩ := hi f (by simp)
    have ih' := ih fun g hg => hi g (by simp [hg])
    rw [List.mapM_cons, Go.Sem.run_bind, Go.Sem.run_bind, run_size hf]
    simp only [Go.Result.andThen, Go.Sem.run_pure, Go.Sem.run_bind, ih', List.map_cons]
theorem mapM_places {fs : Array Go.Field} (hi : ∀ f ∈ fs, ∃ i, P.info? f.type = some i) (w : World) :
    (fs.mapM fun f => (do pure (f.offset, ← Go.sizeOf f.type) : Sem (Nat × Nat))).run P w = .ok (fs.map fun f => (f.offset, P.cellsOf f.type)) w := by
  have := mapM_list (P := P) (fs := fs.toList) (fun f hf => hi f (by simpa using hf)) w
  rw [Array.mapM_eq_mapM_toList, Go.Sem.run_map, this]
  simp only [Go.Result.andThen]
  congr 1
  apply Array.ext'; simp
theorem fieldOf_of {t : TypeId} {fs : Array Go.Field} {f : Nat} {off n : Nat} {ft : TypeId} (hd : P.underlying t = some (.struct fs)) (hf : fieldOf P t f = some (off, n, ft)) : (fs.map fun f => (f.offset, P.cellsOf f.type))[f]? = some (off, n) := by
  obtain ⟨fs', fd, h1, h2, h3, h4, h5⟩ := fieldOf_some hf
  rw [hd] at h1; cases h1
  simp [h2, h3, h4, h5]
theorem zero_VRs {t : TypeId} {z : List V} (hz : zcs P t = some z) : ∃ zv, (∀ w, (Go.zeroValue t).run P w = .ok zv w) ∧ (∀ ι, VRs ι z zv.cells.toList) ∧ ∀ y ∈ zv.cells.toList, y.oneCell' = true := by
  obtain ⟨i, zv, hi, hzz, rfl, h1⟩ := zcs_some hz
  exact ⟨zv, fun w => run_zero hi hzz w, fun ι => cst1s_sound ι _, h1⟩
theorem g_build_struct {t : TypeId} {parts : Array (Nat × Operand)} {fs : Array Go.Field} {z : List V} {K : V → A} {r : V × H} (ho : o.op = .build t parts) (hd : P.underlying t = some (.struct fs)) (hfs : ∀ f ∈ fs, ∃ i, P.info? f.type = some i) (hz : zcs P t = some z)
    (hh : dFill P e (placeS P t) parts.toList z (fun cs => K (.agg cs)) = some r) : ∃ v, K v = some r ∧ GQ P o e nt v := by
  obtain ⟨cs, h1, h2, h3⟩ := dFill_some (nt := nt) (place := fun i => (fs.map fun f => (f.offset, P.cellsOf f.type))[i]?) (fun i off n b hp => by
    unfold placeS at hp
    split at hp
    · rename_i o' n' ft hf
      simp only [Option.some.injEq, Prod.mk.injEq] at hp
      obtain ⟨rfl, rfl, _⟩ := hp
      exact fieldOf_of hd hf
    · cases hp) _ _ hh
  obtain ⟨zv, h4, h5, h6⟩ := zero_VRs hz
  refine ⟨_, h1, fun h ι w a hr he => ?_⟩
  obtain ⟨cc, h7, h8, h9⟩ := h3 ι a zv.cells he (h5 ι) h6
  refine Good.quiet (cv := .agg cc) hr ?_ (by simp only [VR]; exact ⟨_, rfl, h8, h9⟩)
  have hm := mapM_places hfs w
  simp at hm h7
  simp [execOp, ho, Go.Instr.build, h4, Go.run_underlying hd, hm, h7]
theorem g_build_array {t el : TypeId} {n : Nat} {parts : Array (Nat × Operand)} {i : Go.TypeInfo} {z : List V} {K : V → A} {r : V × H} (ho : o.op = .build t parts) (hd : P.underlying t = some (.array n el)) (hi : P.info? el = some i) (hz : zcs P t = some z)
    (hh : dFill P e (placeA P el) parts.toList z (fun cs => K (.agg cs)) = some r) : ∃ v, K v = some r ∧ GQ P o e nt v := by
  obtain ⟨cs, h1, h2, h3⟩ := dFill_some (nt := nt) (place := fun i => some (i * P.cellsOf el, P.cellsOf el)) (fun i off n b hp => by
    unfold placeA at hp
    simp only [Option.some.injEq, Prod.mk.injEq] at hp
    obtain ⟨rfl, rfl, _⟩ := hp
    rfl) _ _ hh
  obtain ⟨zv, h4, h5, h6⟩ := zero_VRs hz
  refine ⟨_, h1, fun h ι w a hr he => ?_⟩
  obtain ⟨cc, h7, h8, h9⟩ := h3 ι a zv.cells he (h5 ι) h6
  refine Good.quiet (cv := .agg cc) hr ?_ (by simp only [VR]; exact ⟨_, rfl, h8, h9⟩)
  simp [execOp, ho, Go.Instr.build, h4, Go.run_underlying hd, run_size hi, h7]

/-! ### operations that make a block -/
def GA (P : Program) (o : Oper) (e : Env) (nt : Nat) (x : Blk) (vf : Nat → V) : Prop :=
  ∀ (h : H) (ι : Inj) (w : World) (a : Act), HR P ι h w → ER P ι e nt a → ∃ cv w1 obj room, (execOp a.eval o).run P w = .ok (.value cv) (w1.alloc obj) ∧ (w1 = w ∨ w1 = w.drew) ∧
    (∀ ι', Sub ι ι' → BR P ι' x ⟨w.heap.size, 0, room⟩ (w1.alloc obj)) ∧ ∀ (ι' : Inj) b, ι' b = some ⟨w.heap.size, 0, room⟩ → VR ι' (vf b) cv
theorem GA.good {x : Blk} {vf : Nat → V} (hg : GA P o e nt x vf) (hr : HR P ι h w) (he : ER P ι e nt a) : Good P o h ι w a (vf h.n) (h.push x) := by
  obtain ⟨cv, w1, obj, room, h1, h2, h3, h4⟩ := hg h ι w a hr he
  have hr1 : HR P ι h w1 := by rcases h2 with rfl | rfl; exact hr; exact hr.drew
  have hs : w1.heap.size = w.heap.size := by rcases h2 with rfl | rfl <;> rfl
  have hx1 : Ext h ι w h ι w1 := by rcases h2 with rfl | rfl; exact Ext.refl _ _ _; exact (Ext.refl _ _ _).drew
  obtain ⟨ι', h5, h6, h7⟩ := hr1.push x obj room (by rw [hs]; exact h3)
  rw [hs] at h5
  exact Good.value h1 (h4 _ _ h5) h6 (Ext.trans hr.dom hx1 h7)
theorem row_BR {el : TypeId} {l : List V} {cs extra : List Value} {w1 : World} (hl : VRs ι l cs) (h1 : ∀ y ∈ cs, y.oneCell' = true) (h2 : ∀ y ∈ extra, y.oneCell' = true) {room n : Nat} (hroom : cs.length + extra.length = room) (hn : w1.heap.size = n) :
    ∀ ι', Sub ι ι' → BR P ι' (.cells false el l) ⟨n, 0, room⟩ (w1.alloc (.cells (cs ++ extra).toArray el)) := by
  intro ι' hs
  subst hn
  have hlen := hl.length
  refine ⟨fun i v hv => ?_, by show _ ≤ room; omega, fun i hi => ?_, fun _ i _ => ?_, fun _ => ⟨?_, Nat.zero_mod _⟩⟩
  · obtain ⟨x, h3, h4⟩ := hl.get i v hv
    refine ⟨x, ?_, VR.mono hs _ _ h4⟩
    have hi : i < cs.length := (List.getElem?_eq_some_iff.1 h3).1
    simp [List.getElem?_append_left hi, h3]
  · have hi' : i < (cs ++ extra).length := by simpa [hroom] using hi
    refine ⟨(cs ++ extra)[i], by simp [List.getElem?_eq_getElem hi'], ?_⟩
    rcases List.mem_append.1 (List.getElem_mem hi') with h3 | h3
    · exact h1 _ h3
    · exact h2 _ h3
  · simp
  · have hh : (w1.alloc (.cells (cs ++ extra).toArray el)).heap[w1.heap.size]? = some (.cells (cs ++ extra).toArray el) := by show (w1.heap.push _)[w1.heap.size]? = _; simp
    show (w1.alloc _).shape? w1.heap.size = some (el, 0 + room)
    unfold Go.World.shape?; rw [hh]; subst hroom; simp
theorem row_BR' {el : TypeId} {l : List V} {cs : Array Value} {w1 : World} (hl : VRs ι l cs.toList) (h1 : ∀ y ∈ cs.toList, y.oneCell' = true) {n : Nat} (hn : w1.heap.size = n) :
    ∀ ι', Sub ι ι' → BR P ι' (.cells false el l) ⟨n, 0, l.length⟩ (w1.alloc (.cells cs el)) := by
  have := row_BR (P := P) (el := el) hl h1 (extra := []) (by simp) (room := l.length) (by simp [hl.length]) hn
  simpa using this
theorem ga_alloc {t : TypeId} {z : List V} (ho : o.op = .alloc t) (hz : zcs P t = some z) : GA P o e nt (.cells false t z) fun b => .ptr b 0 := by
  intro h ι w a hr he
  obtain ⟨i, zv, hi, hzz, rfl, h1⟩ := zcs_some hz
  refine ⟨.pointer (some ⟨w.heap.size, 0, none⟩), w, .cells zv.cells t, _, ?_, .inl rfl, row_BR' (cst1s_sound ι _) h1 rfl, fun ι' b hb => by simp only [VR]; exact ⟨_, hb, rfl⟩⟩
  simp [execOp, ho, Go.Instr.alloc, run_zero hi hzz, Go.newVar, Go.newRow]
theorem ga_box_one {t : TypeId} {x : Operand} (ho : o.op = .box t x) (h1 : isOne (evA P e x) = true) : GA P o e nt (.cells false t [evA P e x]) fun b => .ptr b 0 := by
  intro h ι w a hr he
  have hv := he.eval x
  obtain ⟨h2, h3⟩ := VR.one h1 hv
  refine ⟨.pointer (some ⟨w.heap.size, 0, none⟩), w, .cells #[a.eval x] t, _, ?_, .inl rfl, row_BR' (VRs.cons hv VRs.nil) (by simpa using h2) rfl, fun ι' b hb => by simp only [VR]; exact ⟨_, hb, rfl⟩⟩
  simp [execOp, ho, Go.Instr.box, Go.newVar, Go.newRow, h3]
theorem ga_box_agg {t : TypeId} {x : Operand} {l : List V} (ho : o.op = .box t x) (h1 : evA P e x = .agg l) : GA P o e nt (.cells false t l) fun b => .ptr b 0 := by
  intro h ι w a hr he
  have hv := he.eval x
  rw [h1] at hv; simp only [VR] at hv
  obtain ⟨c, hc, h2, h3⟩ := hv
  refine ⟨.pointer (some ⟨w.heap.size, 0, none⟩), w, .cells c t, _, ?_, .inl rfl, row_BR' h2 h3 rfl, fun ι' b hb => by simp only [VR]; exact ⟨_, hb, rfl⟩⟩
  simp [execOp, ho, Go.Instr.box, Go.newVar, Go.newRow, hc, Value.cells]
theorem ga_map {t : TypeId} (ho : o.op = .makeMap t none) : GA P o e nt (.map []) fun b => .map b := by
  intro h ι w a hr he
  refine ⟨.map (some w.heap.size), w, .map #[] 0, 0, ?_, .inl rfl, fun ι' hs => ⟨#[], 0, by show (w.heap.push _)[w.heap.size]? = _; simp, rfl, by simp⟩, fun ι' b hb => by simp only [VR]; exact ⟨_, hb, rfl⟩⟩
  simp [execOp, ho, Go.Instr.makeMap]
theorem rep_VRs {z : List V} {zc : Array Value} {n : Nat} (hz : VRs ι z zc.toList) (h1 : ∀ y ∈ zc.toList, y.oneCell' = true) :
    VRs ι (repS n z) ((Array.range (n * zc.size)).map (zc[· % zc.size]!)).toList ∧ ∀ y ∈ ((Array.range (n * zc.size)).map (zc[· % zc.size]!)).toList, y.oneCell' = true := by
  have hl : zc.size = z.length := by rw [← hz.length]; simp
  refine ⟨VRs.of (by simp [repS, hl]) fun i v x hi hx => ?_, zeros_one (i := default) (z := .agg zc) h1 n⟩
  simp only [repS, List.getElem?_map] at hi
  simp only [Array.toList_map, List.getElem?_map] at hx
  have hin : i < n * z.length := by
    cases hq : (List.range (n * z.length))[i]? with
    | none => rw [hq] at hi; simp at hi
    | some j => have := (List.getElem?_eq_some_iff.1 hq).1; simpa using this
  have hpos : 0 < z.length := by
    rcases Nat.eq_zero_or_pos z.length with h0 | h0
    · rw [h0] at hin; omega
    · exact h0
  have hlt : i % z.length < z.length := Nat.mod_lt _ hpos
  rw [List.getElem?_range hin] at hi
  have hr : (Array.range (n * zc.size)).toList[i]? = some i := by
    rw [Array.toList_range, List.getElem?_range (by rw [hl]; exact hin)]
  rw [hr] at hx
  simp only [Option.map_some, Option.some.injEq] at hi hx
  obtain ⟨x', h3, h4⟩ := hz.get (i % z.length) _ (List.getElem?_eq_getElem hlt)
  have e1 : v = z[i % z.length] := by rw [← hi]; simp [List.getD, hlt]
  have e2 : x = x' := by
    rw [← hx]
    have : i % zc.size < zc.size := by rw [hl]; exact hlt
    rw [getElem!_pos zc _ this]
    have h5 : zc.toList[i % z.length]? = some (zc[i % zc.size]) := by
      rw [List.getElem?_eq_getElem (by simpa [hl] using hlt)]
      simp [hl]
    rw [h3] at h5; exact (Option.some.inj h5).symm
  rw [e1, e2]; exact h4
theorem ga_buildSlice {t el : TypeId} {n : Nat} {parts : Array (Nat × Operand)} {z : List V} {K : Blk → (Nat → V) → A} {r : V × H} (ho : o.op = .buildSlice t n parts) (hd : P.underlying t = some (.slice el)) (hsz : n * P.cellsOf el ≤ 16777216) (h1 : 1 ≤ P.cellsOf el) (hz : zcs P el = some z) (hzl : z.length = P.cellsOf el)
    (hh : dFill P e (placeA P el) parts.toList (repS n z) (fun cs => K (.cells false el cs) fun b => .sl b 0 n n (P.cellsOf el) true) = some r) :
    ∃ x vf, K x vf = some r ∧ GA P o e nt x vf := by
  obtain ⟨cs, h2, h2l, h3⟩ := dFill_some (nt := nt) (place := fun i => some (i * P.cellsOf el, P.cellsOf el)) (fun i off n b hp => by
    unfold placeA at hp
    simp only [Option.some.injEq, Prod.mk.injEq] at hp
    obtain ⟨rfl, rfl, _⟩ := hp
    rfl) _ _ hh
  obtain ⟨zv, h4, h5, h6⟩ := zero_VRs hz
  refine ⟨_, _, h2, fun h ι w a hr he => ?_⟩
  obtain ⟨i, hi⟩ := info_of_cells (show P.cellsOf el ≠ 0 by omega)
  have hzs : zv.cells.size = P.cellsOf el := by rw [← hzl, ← (h5 ι).length]; simp
  obtain ⟨g1, g2⟩ := rep_VRs (n := n) (h5 ι) h6
  rw [hzs] at g1 g2
  obtain ⟨cc, h7, h8, h9⟩ := h3 ι a _ he g1 g2
  have hcl : cs.length = n * P.cellsOf el := by rw [h2l]; simp [repS, hzl]
  refine ⟨.slice (some ⟨w.heap.size, 0, none⟩) n n, w, .cells cc el, cs.length, ?_, .inl rfl, row_BR' h8 h9 rfl, fun ι' b hb => ?_⟩
  · have hns : ¬ (16777216 < n * P.cellsOf el) := by omega
    by_cases h0 : n = 0
    · subst h0
      simp only [Nat.zero_mul] at h7
      simp [execOp, ho, Go.Instr.buildSlice, Go.run_underlying hd, run_size hi, Go.newRow]
      have e0 : Array.range 0 = #[] := rfl
      simp only [e0, Array.map_empty] at h7 ⊢
      simp [h7]
    · have hn0 : ¬ (n * P.cellsOf el = 0) := by
        have : 0 < n * P.cellsOf el := Nat.mul_pos (by omega) (by omega)
        omega
      have hn0' : ¬ (n = 0 ∨ P.cellsOf el = 0) := by omega
      simp [execOp, ho, Go.Instr.buildSlice, Go.run_underlying hd, run_size hi, hns, hn0, hn0', h4, hzs, h7, Go.newRow]
  · simp only [VR]
    exact ⟨_, n, 0, hb, rfl, .inl rfl, by show 0 + n * _ ≤ cs.length; omega, Nat.le_refl _, Nat.le_refl _, fun _ => rfl⟩
end
end GoEv
namespace GoEv
open Go (IntKind Value World Addr MapEntry Program Oper Op Operand Act Exit undef execOp Sem Result TypeId TypeDesc BinOp UnOp)

/-- the same memory, or more -/
def Sup (h h2 : H) : Prop := ∀ b, b < h.n → h2.get b = h.get b
theorem Sup.refl (h : H) : Sup h h := fun _ _ => rfl
section
variable {P : Program} {o : Oper} {h : H} {ι : Inj} {w : World} {a : Act} {e : Env} {nt : Nat}
theorem g_shift {op : BinOp} {t yt : TypeId} {x y : Operand} {K : V → A} {r : V × H} (ho : o.op = .binOp op t x y yt) (hh : dShift P op t yt (evA P e x) (evA P e y) K = some r) : ∃ v, K v = some r ∧ GQ P o e nt v := by
  unfold dShift at hh
  split at hh
  · rename_i k k' hk hk'
    split at hh
    · rw [toKd_some] at hh
      obtain ⟨m, hx, hh⟩ := hh
      rw [toKd_some] at hh
      obtain ⟨n, hy, hh⟩ := hh
      rw [shN_some] at hh
      obtain ⟨n', rfl, hh⟩ := hh
      rw [wrapK_eq] at hh
      refine ⟨_, hh, fun h ι w a hr he => ?_⟩
      have h1 := he.eval x; rw [hx, VR.mkI] at h1
      have h2 := he.eval y; rw [hy, VR.mkI] at h2
      refine Good.quiet (cv := .int k (k.wrap (shlZ m (min n' k.bits)))) hr ?_ (VR.mkI.2 rfl)
      have hg : Go.eqGuard .shl t x y (.int k m) (.int k' n') = pure () := rfl
      have hn : ¬ ((n' : Int) < 0) := by omega
      simp [execOp, ho, h1, h2, hg, Go.binOp, Go.Op.shift, hn, shlZ_eq]
    · rw [toKd_some] at hh
      obtain ⟨m, hx, hh⟩ := hh
      rw [toKd_some] at hh
      obtain ⟨n, hy, hh⟩ := hh
      rw [shN_some] at hh
      obtain ⟨n', rfl, hh⟩ := hh
      rw [bZ_eq] at hh
      refine ⟨_, hh, fun h ι w a hr he => ?_⟩
      have h1 := he.eval x; rw [hx, VR.mkI] at h1
      have h2 := he.eval y; rw [hy, VR.mkI] at h2
      refine Good.quiet (cv := .int k (shrZ m (min n' k.bits))) hr ?_ (VR.mkI.2 rfl)
      have hg : Go.eqGuard .shr t x y (.int k m) (.int k' n') = pure () := rfl
      have hn : ¬ ((n' : Int) < 0) := by omega
      simp [execOp, ho, h1, h2, hg, Go.binOp, Go.Op.shift, hn, shrZ_eq]
    · cases hh
  · cases hh
theorem g_xor {t : TypeId} {k : IntKind} {x : Operand} {z : Int} (ho : o.op = .unOp .xor t x) (hx : evA P e x = mkI k z) (hr : HR P ι h w) (he : ER P ι e nt a) :
    Good P o h ι w a (mkI k (k.wrap (zXor (2 ^ k.bits) (if k.signed then -1 else k.max) z))) h := by
  have h1 := he.eval x; rw [hx, VR.mkI] at h1
  refine Good.quiet (cv := .int k (k.wrap (zXor (2 ^ k.bits) (if k.signed then -1 else k.max) z))) hr ?_ (VR.mkI.2 rfl)
  simp [execOp, ho, h1, Go.Op.unary, bits_xor]
theorem g_cap {c : Go.Call} {t el : TypeId} {x : Operand} {K : V → A} {r : V × H} (ho : o.op = .call c) (hc : c.callee = .builtin .cap) (ht : c.argTypes[0]? = some t) (hx : c.args[0]? = some x) (hd : P.underlying t = some (.slice el))
    (hh : capV (evA P e x) (fun n => K (.i n)) = some r) : ∃ v, K v = some r ∧ GQ P o e nt v := by
  unfold capV at hh
  rw [toSl_some] at hh
  rcases hh with ⟨b, o', l, c', s, k, hv, hh⟩ | ⟨hv, hh⟩
  · rw [bool_none, fN_eq] at hh
    obtain ⟨rfl, hh⟩ := hh
    refine ⟨_, hh, fun h ι w a hr he => ?_⟩
    have h1 := he.eval x; rw [hv] at h1; simp only [VR] at h1
    obtain ⟨L, cc, off, _, h1, _, _, _, _, h7⟩ := h1
    have := h7 trivial
    subst this
    refine Good.quiet (cv := .int .i64 (cc : Nat)) hr ?_ (by simp only [VR]; rfl)
    simp [execOp, ho, Go.resolve, hc, Go.invoke, Go.builtin, Go.Builtin.cap_, ht, hx, h1, Go.run_underlying hd, Go.goInt]
  · refine ⟨_, hh, fun h ι w a hr he => ?_⟩
    have h1 := he.eval x; rw [hv] at h1; simp only [VR] at h1
    refine Good.quiet (cv := .int .i64 (0 : Nat)) hr ?_ (by simp only [VR]; rfl)
    simp [execOp, ho, Go.resolve, hc, Go.invoke, Go.builtin, Go.Builtin.cap_, ht, hx, h1, Go.run_underlying hd, Go.goInt]
theorem args2 {c : Go.Call} {x y : Operand} (ha : c.args.toList = [x, y]) : c.args = #[x, y] := by rw [← Array.toArray_toList (xs := c.args), ha]
theorem args1 {c : Go.Call} {x : Operand} (ha : c.args.toList = [x]) : c.args = #[x] := by rw [← Array.toArray_toList (xs := c.args), ha]
theorem g_min {c : Go.Call} {x y : Operand} {m n : Int} (ho : o.op = .call c) (hc : c.callee = .builtin .min) (ha : c.args.toList = [x, y]) (hx : evA P e x = .i m) (hy : evA P e y = .i n) (hr : HR P ι h w) (he : ER P ι e nt a) :
    Good P o h ι w a (.i (minZ m n)) h := by
  have h1 := he.eval x; rw [hx, VR.i] at h1
  have h2 := he.eval y; rw [hy, VR.i] at h2
  refine Good.quiet (cv := .int .i64 (minZ m n)) hr ?_ (by simp only [VR])
  simp [execOp, ho, Go.resolve, hc, Go.invoke, Go.builtin, Go.Builtin.min_, args2 ha, h1, h2, Go.Builtin.min2, minZ_eq]
theorem g_max {c : Go.Call} {x y : Operand} {m n : Int} (ho : o.op = .call c) (hc : c.callee = .builtin .max) (ha : c.args.toList = [x, y]) (hx : evA P e x = .i m) (hy : evA P e y = .i n) (hr : HR P ι h w) (he : ER P ι e nt a) :
    Good P o h ι w a (.i (maxZ m n)) h := by
  have h1 := he.eval x; rw [hx, VR.i] at h1
  have h2 := he.eval y; rw [hy, VR.i] at h2
  refine Good.quiet (cv := .int .i64 (maxZ m n)) hr ?_ (by simp only [VR])
  simp [execOp, ho, Go.resolve, hc, Go.invoke, Go.builtin, Go.Builtin.max_, args2 ha, h1, h2, Go.Builtin.max2, maxZ_eq]
theorem g_sld {c : Go.Call} {x : Operand} {K : V → A} {r : V × H} (ho : o.op = .call c) (hc : c.callee = .builtin .unsafeSliceData) (ha : c.args.toList = [x]) (hh : sld (evA P e x) K = some r) : ∃ v, K v = some r ∧ GQ P o e nt v := by
  unfold sld at hh
  rw [toSl_some] at hh
  rcases hh with ⟨b, o', l, c', s, k, hv, hh⟩ | ⟨hv, hh⟩
  · cases c' with
    | zero => cases hh
    | succ c' =>
      refine ⟨_, hh, fun h ι w a hr he => ?_⟩
      have h1 := he.eval x; rw [hv] at h1; simp only [VR] at h1
      obtain ⟨L, cc, off, hL, h1, h2, _, _, h5, _⟩ := h1
      have hcc : cc ≠ 0 := by omega
      have hoff : off = L.base + o' := by rcases h2 with h2 | h2; exact h2; omega
      subst hoff
      refine Good.quiet (cv := .pointer (some ⟨L.cb, L.base + o', none⟩)) hr ?_ (by simp only [VR]; exact ⟨L, hL, rfl⟩)
      have hq := fun ts ty => Go.Lib.run_unsafeSliceData_row (P := P) w ts ty ⟨L.cb, L.base + o', none⟩ l cc hcc
      simp [execOp, ho, Go.resolve, hc, Go.invoke, Go.builtin, args1 ha, h1, hq]
  · refine ⟨_, hh, fun h ι w a hr he => ?_⟩
    have h1 := he.eval x; rw [hv] at h1; simp only [VR] at h1
    refine Good.quiet (cv := .pointer none) hr ?_ (by simp only [VR])
    have hq := fun ts ty => Go.Lib.run_unsafeSliceData_nil (P := P) w ts ty 0 0
    simp [execOp, ho, Go.resolve, hc, Go.invoke, Go.builtin, args1 ha, h1, hq]
end
end GoEv
namespace GoEv
open Go (IntKind Value World Addr MapEntry Program Oper Op Operand Act Exit undef execOp Sem Result TypeId TypeDesc BinOp UnOp)
section
variable {P : Program} {o : Oper} {h : H} {ι : Inj} {w : World} {a : Act} {e : Env} {nt : Nat}
theorem part_extract {t : TypeId} {d : TypeDesc} {i : Go.TypeInfo} (hd : P.underlying t = some d) (hi : P.info? t = some i) (ca : Array Value) (off n fo : Nat) (h1 : 1 ≤ i.size) (h2 : fo + i.size ≤ n) (w : World) :
    (Go.part t (ca.extract off (off + n)) fo).run P w = (Go.part t ca (off + fo)).run P w := by
  unfold Go.part
  simp only [Go.Sem.run_bind, run_isAgg hd, Go.Result.andThen_ok]
  cases hrow : d.isRow with
  | true =>
    simp only [if_true, Go.Sem.run_bind, run_size hi, Go.Result.andThen_ok]
    rw [Array.extract_extract]
    have : min (off + (fo + P.cellsOf t)) (off + n) = off + fo + P.cellsOf t := by
      have : P.cellsOf t = i.size := by simp [Go.Program.cellsOf, hi]
      omega
    rw [this]
  | false =>
    simp only [Bool.false_eq_true, if_false]
    have : (ca.extract off (off + n))[fo]? = ca[off + fo]? := by
      rw [Array.getElem?_extract]
      by_cases hlt : fo < min (off + n) ca.size - off
      · rw [if_pos hlt]
      · rw [if_neg hlt]
        symm
        rw [Array.getElem?_eq_none_iff]; omega
    rw [this]
theorem part_leaf {t : TypeId} {d : TypeDesc} (hd : P.underlying t = some d) (hr : d.isRow = false) {ca : Array Value} {off : Nat} {v : Value} (hv : ca.toList[off]? = some v) (w : World) : (Go.part t ca off).run P w = .ok v w := by
  unfold Go.part
  have : ca[off]? = some v := by rw [← hv]; simp
  simp [run_isAgg hd, hr, this]
def EqP (P : Program) (t : TypeId) (off d : Nat) (l l2 : List V) (z : Bool) : Prop := ∀ (ι : Inj) (ca cb : Array Value), VRs ι l ca.toList → VRs ι l2 cb.toList → ∀ (m : Nat) (w : World),
  ∃ x y, (Go.part t ca off).run P w = .ok x w ∧ (Go.part t cb off).run P w = .ok y w ∧ (Go.Op.equalIn (d + m) t x y).run P w = .ok z w
def eqElems (d n : Nat) (el : TypeId) (xs ys : Array Value) : List Nat → Sem Bool
  | [] => pure true
  | i :: is => do
      let a ← Go.part el xs (i * n)
      let b ← Go.part el ys (i * n)
      let r ← Go.Op.equalIn d el a b
      if (!r) = true then pure false else eqElems d n el xs ys is
theorem run_equalIn_array (w : World) (d : Nat) (t el : TypeId) (len : Nat) {i : Go.TypeInfo} (xs ys : Array Value) (ht : P.underlying t = some (.array len el)) (hi : P.info? el = some i) :
    (Go.Op.equalIn (d + 1) t (.agg xs) (.agg ys)).run P w = (eqElems d (P.cellsOf el) el xs ys (List.range len)).run P w := by
  simp only [Go.Op.equalIn, Go.Sem.run_bind, Go.run_underlying ht, Go.Result.andThen_ok, run_size hi]
  rw [Std.Legacy.Range.forIn_eq_forIn_range', List.range_eq_range']
  simp only [Std.Legacy.Range.size, Nat.sub_zero, Nat.add_sub_cancel, Nat.div_one]
  generalize List.range' 0 len 1 = l
  induction l generalizing w with
  | nil => simp [eqElems]
  | cons j l ih =>
    simp only [List.forIn_cons, eqElems, Go.Sem.run_bind, Go.Sem.run_ite]
    generalize (Go.part el xs (j * P.cellsOf el)).run P w = r1
    cases r1 with
    | ok a w1 =>
      simp only [Go.Result.andThen_ok]
      generalize (Go.part el ys (j * P.cellsOf el)).run P w1 = r2
      cases r2 with
      | ok b w2 =>
        simp only [Go.Result.andThen_ok]
        generalize (Go.Op.equalIn d el a b).run P w2 = r3
        cases r3 with
        | ok r w3 =>
          cases r
          · simp only [Go.Result.andThen_ok, Bool.not_false, if_true, Go.Sem.run_pure]
          · simp only [Go.Result.andThen_ok, Bool.not_true, Bool.false_eq_true, if_false, Go.Sem.run_pure]
            exact ih w3
        | halt x w3 => simp [Go.Result.andThen]
      | halt x w2 => simp [Go.Result.andThen]
    | halt x w1 => simp [Go.Result.andThen]
theorem dEq_sound : ∀ (d : Nat) (t : TypeId) (off : Nat) (l l2 : List V) (acc : Bool) (K : Bool → A) (r : V × H), dEq P d t off l l2 acc K = some r → ∃ z, K (acc && z) = some r ∧ EqP P t off d l l2 z
  | 0, t, off, l, l2, acc, K, r, hh => by cases hh
  | d + 1, t, off, l, l2, acc, K, r, hh => by
    unfold dEq at hh
    split at hh
    · rename_i k hk
      rw [nth_eq, ob_some] at hh
      obtain ⟨va, ha, hh⟩ := hh
      rw [nth_eq, ob_some] at hh
      obtain ⟨vb, hb, hh⟩ := hh
      rw [toKd_some] at hh
      obtain ⟨x, rfl, hh⟩ := hh
      rw [toKd_some] at hh
      obtain ⟨y, rfl, hh⟩ := hh
      rw [andB_eq] at hh
      refine ⟨_, hh, fun ι ca cb hca hcb m w => ?_⟩
      obtain ⟨cx, h1, h2⟩ := hca.get off _ ha
      obtain ⟨cy, h3, h4⟩ := hcb.get off _ hb
      rw [VR.mkI] at h2 h4
      subst h2 h4
      have hd := und_eq hk (by simp)
      refine ⟨_, _, part_leaf hd rfl h1 w, part_leaf hd rfl h3 w, ?_⟩
      rw [show d + 1 + m = (d + m) + 1 by omega, Go.run_equalIn_int _ _ _ _ _ _ _ hd, eqZ_eq]
    · rename_i hk
      rw [nth_eq, ob_some] at hh
      obtain ⟨va, ha, hh⟩ := hh
      rw [nth_eq, ob_some] at hh
      obtain ⟨vb, hb, hh⟩ := hh
      rw [toB_some] at hh
      obtain ⟨x, rfl, hh⟩ := hh
      rw [toB_some] at hh
      obtain ⟨y, rfl, hh⟩ := hh
      rw [andB_eq] at hh
      refine ⟨_, hh, fun ι ca cb hca hcb m w => ?_⟩
      obtain ⟨cx, h1, h2⟩ := hca.get off _ ha
      obtain ⟨cy, h3, h4⟩ := hcb.get off _ hb
      simp only [VR] at h2 h4
      subst h2 h4
      have hd := und_eq hk (by simp)
      refine ⟨_, _, part_leaf hd rfl h1 w, part_leaf hd rfl h3 w, ?_⟩
      rw [show d + 1 + m = (d + m) + 1 by omega, Go.run_equalIn_bool _ _ _ _ _ hd, eqB_eq]
    · rename_i hk
      rw [nth_eq, ob_some] at hh
      obtain ⟨va, ha, hh⟩ := hh
      rw [nth_eq, ob_some] at hh
      obtain ⟨vb, hb, hh⟩ := hh
      rw [toS_some] at hh
      obtain ⟨n, x, rfl, hh⟩ := hh
      rw [toS_some] at hh
      obtain ⟨n2, y, rfl, hh⟩ := hh
      rw [andB_eq] at hh
      refine ⟨_, hh, fun ι ca cb hca hcb m w => ?_⟩
      obtain ⟨cx, h1, h2⟩ := hca.get off _ ha
      obtain ⟨cy, h3, h4⟩ := hcb.get off _ hb
      simp only [VR] at h2 h4
      obtain ⟨s, rfl, hs⟩ := h2
      obtain ⟨s2, rfl, hs2⟩ := h4
      have hd := und_eq hk (by simp)
      refine ⟨_, _, part_leaf hd rfl h1 w, part_leaf hd rfl h3 w, ?_⟩
      rw [show d + 1 + m = (d + m) + 1 by omega, Go.run_equalIn_string _ _ _ _ _ hd, sEqL hs hs2]
    · rename_i fs hk
      have hd := und_eq hk (by simp)
      obtain ⟨i, hi⟩ := info_of_und hd
      rw [bif_none'] at hh
      obtain ⟨h1, hh⟩ := hh
      rw [Bool.or_eq_false_iff] at h1
      obtain ⟨hst, hall⟩ := h1
      have hall' : ∀ f ∈ fs.toList, f.name ≠ "_" ∧ 1 ≤ P.cellsOf f.type ∧ f.offset + P.cellsOf f.type ≤ P.cellsOf t := by
        intro f hf
        have := List.all_eq_true.1 (by rw [Bool.not_eq_false'] at hall; exact hall) f hf
        simp only [Bool.and_eq_true, bne_iff_ne, ne_eq, ble_eq, decide_eq_true_eq] at this
        exact this
      have key : ∀ (gs : List Go.Field), (∀ f ∈ gs, f.name ≠ "_" ∧ 1 ≤ P.cellsOf f.type ∧ f.offset + P.cellsOf f.type ≤ P.cellsOf t) → ∀ (acc : Bool), gs.foldr (fun f K acc => dEq P d f.type (off + f.offset) l l2 acc K) K acc = some r →
          ∃ z, K (acc && z) = some r ∧ ∀ (ι : Inj) (ca cb : Array Value), VRs ι l ca.toList → VRs ι l2 cb.toList → ∀ (m : Nat) (w : World), (Go.Op.eqFields (d + m) (ca.extract off (off + P.cellsOf t)) (cb.extract off (off + P.cellsOf t)) gs).run P w = .ok z w := by
        intro gs
        induction gs with
        | nil => intro _ acc hq; exact ⟨true, by simpa using hq, fun _ _ _ _ _ _ _ => rfl⟩
        | cons f gs ih =>
          intro hg acc hq
          obtain ⟨g1, g2, g3⟩ := hg f (by simp)
          rw [List.foldr_cons] at hq
          obtain ⟨z1, q1, q2⟩ := dEq_sound d f.type (off + f.offset) l l2 acc _ r hq
          obtain ⟨z2, q3, q4⟩ := ih (fun g hg' => hg g (by simp [hg'])) _ q1
          refine ⟨z1 && z2, by rw [← Bool.and_assoc]; exact q3, fun ι ca cb hca hcb m w => ?_⟩
          obtain ⟨x, y, p1, p2, p3⟩ := q2 ι ca cb hca hcb m w
          obtain ⟨fi, hfi⟩ := info_of_cells (show P.cellsOf f.type ≠ 0 by omega)
          have hsz : P.cellsOf f.type = fi.size := by simp [Go.Program.cellsOf, hfi]
          have hfd : ∃ fd, P.underlying f.type = some fd := by
            cases hu : P.underlying f.type with
            | some fd => exact ⟨fd, rfl⟩
            | none =>
              exfalso
              unfold Go.part at p1
              simp [Go.isAgg, Go.underlying, hu] at p1
          obtain ⟨fd, hfd⟩ := hfd
          have e1 := part_extract hfd hfi ca off (P.cellsOf t) f.offset (by omega) (by omega) w
          have e2 := part_extract hfd hfi cb off (P.cellsOf t) f.offset (by omega) (by omega) w
          rw [Go.Op.eqFields, if_pos g1]
          simp only [Go.Sem.run_bind, e1, p1, Go.Result.andThen_ok, e2, p2, p3]
          cases z1 with
          | false => simp
          | true => simp [q4 ι ca cb hca hcb m w]
      obtain ⟨z, h2, h3⟩ := key fs.toList hall' acc hh
      refine ⟨z, h2, fun ι ca cb hca hcb m w => ⟨.agg (ca.extract off (off + P.cellsOf t)), .agg (cb.extract off (off + P.cellsOf t)), ?_, ?_, ?_⟩⟩
      · unfold Go.part; simp [run_isAgg hd, Go.TypeDesc.isRow, run_size hi]
      · unfold Go.part; simp [run_isAgg hd, Go.TypeDesc.isRow, run_size hi]
      · have hfo : P.fieldsOf t = fs := by simp [Go.Program.fieldsOf, hd]
        rw [show d + 1 + m = (d + m) + 1 by omega, Go.run_equalIn_struct _ _ _ _ _ (by rw [hfo]; exact hd) hst, hfo]
        exact h3 ι ca cb hca hcb m w
    · rename_i n el hk
      have hd := und_eq hk (by simp)
      obtain ⟨i, hi⟩ := info_of_und hd
      rw [bif_none, Bool.and_eq_true, ble_eq, ble_eq] at hh
      obtain ⟨⟨g2, g3⟩, hh⟩ := hh
      have g2 : 1 ≤ P.cellsOf el := of_decide_eq_true g2
      have g3 : n * P.cellsOf el ≤ P.cellsOf t := of_decide_eq_true g3
      obtain ⟨fi, hfi⟩ := info_of_cells (show P.cellsOf el ≠ 0 by omega)
      have hsz : P.cellsOf el = fi.size := by simp [Go.Program.cellsOf, hfi]
      have key : ∀ (is : List Nat), (∀ j ∈ is, j < n) → ∀ (acc : Bool), is.foldr (fun i K acc => dEq P d el (off + i * P.cellsOf el) l l2 acc K) K acc = some r →
          ∃ z, K (acc && z) = some r ∧ ∀ (ι : Inj) (ca cb : Array Value), VRs ι l ca.toList → VRs ι l2 cb.toList → ∀ (m : Nat) (w : World), (eqElems (d + m) (P.cellsOf el) el (ca.extract off (off + P.cellsOf t)) (cb.extract off (off + P.cellsOf t)) is).run P w = .ok z w := by
        intro is
        induction is with
        | nil => intro _ acc hq; exact ⟨true, by simpa using hq, fun _ _ _ _ _ _ _ => rfl⟩
        | cons j is ih =>
          intro hg acc hq
          have hj : j < n := hg j (by simp)
          have hjn : (j + 1) * P.cellsOf el ≤ n * P.cellsOf el := Nat.mul_le_mul_right _ hj
          rw [Nat.add_mul] at hjn
          rw [List.foldr_cons] at hq
          obtain ⟨z1, q1, q2⟩ := dEq_sound d el (off + j * P.cellsOf el) l l2 acc _ r hq
          obtain ⟨z2, q3, q4⟩ := ih (fun g hg' => hg g (by simp [hg'])) _ q1
          refine ⟨z1 && z2, by rw [← Bool.and_assoc]; exact q3, fun ι ca cb hca hcb m w => ?_⟩
          obtain ⟨x, y, p1, p2, p3⟩ := q2 ι ca cb hca hcb m w
          have hfd : ∃ fd, P.underlying el = some fd := by
            cases hu : P.underlying el with
            | some fd => exact ⟨fd, rfl⟩
            | none =>
              exfalso
              unfold Go.part at p1
              simp [Go.isAgg, Go.underlying, hu] at p1
          obtain ⟨fd, hfd⟩ := hfd
          have e1 := part_extract hfd hfi ca off (P.cellsOf t) (j * P.cellsOf el) (by omega) (by omega) w
          have e2 := part_extract hfd hfi cb off (P.cellsOf t) (j * P.cellsOf el) (by omega) (by omega) w
          rw [eqElems]
          simp only [Go.Sem.run_bind, e1, p1, Go.Result.andThen_ok, e2, p2, p3]
          cases z1 with
          | false => simp
          | true => simp [q4 ι ca cb hca hcb m w]
      obtain ⟨z, h2, h3⟩ := key (List.range n) (fun j hj => List.mem_range.1 hj) acc hh
      refine ⟨z, h2, fun ι ca cb hca hcb m w => ⟨.agg (ca.extract off (off + P.cellsOf t)), .agg (cb.extract off (off + P.cellsOf t)), ?_, ?_, ?_⟩⟩
      · unfold Go.part; simp [run_isAgg hd, Go.TypeDesc.isRow, run_size hi]
      · unfold Go.part; simp [run_isAgg hd, Go.TypeDesc.isRow, run_size hi]
      · rw [show d + 1 + m = (d + m) + 1 by omega, run_equalIn_array _ _ _ _ _ _ _ hd hfi]
        exact h3 ι ca cb hca hcb m w
    · cases hh
theorem g_bin_agg {op : BinOp} {t yt : TypeId} {x y : Operand} {K : V → A} {r : V × H} (ho : o.op = .binOp op t x y yt) (hh : dEqA P t (evA P e x) (evA P e y) (fun z => nilO op z K) = some r) : ∃ v, K v = some r ∧ GQ P o e nt v := by
  have key : ∀ (d : TypeDesc), P.underlying t = some d → d.isRow = true → cd (P.eqGuardType P.depth t) (none) (toA (evA P e x) fun l => toA (evA P e y) fun l2 => lnc l (P.cellsOf t) (lnc l2 (P.cellsOf t) (dEq P 20 t 0 l l2 true fun z => nilO op z K))) = some r → ∃ v, K v = some r ∧ GQ P o e nt v := by
    intro d hud hrow hh
    rw [bif_none', toA_some] at hh
    obtain ⟨hgt, l, hx, hh⟩ := hh
    rw [toA_some] at hh
    obtain ⟨l2, hy, hh⟩ := hh
    rw [lnc_some, lnc_some] at hh
    obtain ⟨hl, hl2, hh⟩ := hh
    obtain ⟨z, h1, h2⟩ := dEq_sound 20 t 0 l l2 true _ r hh
    rw [Bool.true_and] at h1
    obtain ⟨v, hK, hv⟩ := nilO_some h1
    refine ⟨v, hK, fun h ι w a hr he => ?_⟩
    have e1 := he.eval x; rw [hx] at e1; simp only [VR] at e1
    have e2 := he.eval y; rw [hy] at e2; simp only [VR] at e2
    obtain ⟨ca, e1, q1, _⟩ := e1
    obtain ⟨cb, e2, q2, _⟩ := e2
    refine g_eql ho hv hr e1 e2 (fun op => Go.run_eqGuard_agg w op t x y ca cb hgt) rfl rfl ?_
    obtain ⟨xa, ya, p1, p2, p3⟩ := h2 ι ca cb q1 q2 9980 w
    have hca : ca.extract 0 (0 + P.cellsOf t) = ca := by
      have : ca.size = P.cellsOf t := by rw [← hl, ← q1.length]; simp
      rw [Nat.zero_add, ← this, Array.extract_size]
    have hcb : cb.extract 0 (0 + P.cellsOf t) = cb := by
      have : cb.size = P.cellsOf t := by rw [← hl2, ← q2.length]; simp
      rw [Nat.zero_add, ← this, Array.extract_size]
    have ag : ∀ (c : Array Value) (x : Value), (Go.part t c 0).run P w = .ok x w → c.extract 0 (0 + P.cellsOf t) = c → x = .agg c := by
      intro c x hp hc
      obtain ⟨i, hi⟩ := info_of_und hud
      unfold Go.part at hp
      simp only [Go.Sem.run_bind, run_isAgg hud, hrow, Go.Result.andThen_ok, if_true, run_size hi, Go.Sem.run_pure, hc] at hp
      exact ((Go.Result.ok.injEq _ _ _ _).mp hp).1.symm
    rw [ag ca xa p1 hca, ag cb ya p2 hcb] at p3
    exact p3
  unfold dEqA at hh
  split at hh
  · rename_i fs0 hk0
    exact key _ (und_eq hk0 (by simp)) rfl hh
  · rename_i n el hk0
    exact key _ (und_eq hk0 (by simp)) rfl hh
  · cases hh
end
end GoEv
namespace GoEv
open Go (IntKind Value World Addr MapEntry Program Oper Op Operand Act Exit undef execOp Sem Result TypeId TypeDesc BinOp UnOp)
section
variable {P : Program} {o : Oper} {h : H} {ι : Inj} {w : World} {a : Act} {e : Env} {nt : Nat}
/-! ### keys -/
def KS (d : TypeDesc) (eq : V → V → (Bool → A) → A) : Prop := ∀ (a b : V) (K : Bool → A) (r : V × H), eq a b K = some r → ∃ z, K z = some r ∧ (z = true → a = b) ∧ ∀ (ι : Inj) (ca cb : Value), VR ι a ca → VR ι b cb → Go.Instr.sameNow d ca cb = some z ∧ Go.MapKept.IsKey d ca ∧ (z = true → Go.Instr.sameBits 10000 cb ca = true)
theorem dKey_sound {kt : TypeId} {eq : V → V → (Bool → A) → A} (h : dKey P kt = some eq) : ∃ d, P.underlying kt = some d ∧ KS d eq := by
  unfold dKey at h
  split at h
  · rename_i k hk
    refine ⟨_, und_eq hk (by simp), ?_⟩
    cases h
    intro a b K r hh
    rw [toKd_some] at hh
    obtain ⟨x, rfl, hh⟩ := hh
    rw [toKd_some] at hh
    obtain ⟨y, rfl, hh⟩ := hh
    rw [eqZ_eq] at hh
    refine ⟨_, hh, fun hz => by rw [eq_of_beq hz], fun ι ca cb h1 h2 => ?_⟩
    rw [VR.mkI] at h1 h2
    subst h1 h2
    refine ⟨by simp [Go.Instr.sameNow], by simp [Go.MapKept.IsKey], fun hz => ?_⟩
    have := eq_of_beq hz
    subst this
    show (k == k && x == x) = true
    simp
  · rename_i hk
    refine ⟨_, und_eq hk (by simp), ?_⟩
    cases h
    intro a b K r hh
    rw [toB_some] at hh
    obtain ⟨x, rfl, hh⟩ := hh
    rw [toB_some] at hh
    obtain ⟨y, rfl, hh⟩ := hh
    rw [eqB_eq] at hh
    refine ⟨_, hh, fun hz => by rw [eq_of_beq hz], fun ι ca cb h1 h2 => ?_⟩
    simp only [VR] at h1 h2
    subst h1 h2
    refine ⟨by simp [Go.Instr.sameNow], by simp [Go.MapKept.IsKey], fun hz => ?_⟩
    have := eq_of_beq hz
    subst this
    show (x == x) = true
    simp
  · rename_i hk
    refine ⟨_, und_eq hk (by simp), ?_⟩
    cases h
    intro a b K r hh
    rw [toS_some] at hh
    obtain ⟨n, x, rfl, hh⟩ := hh
    rw [toS_some] at hh
    obtain ⟨n2, y, rfl, hh⟩ := hh
    refine ⟨_, hh, fun hz => by rw [sEq_eq] at hz; obtain ⟨rfl, rfl⟩ := of_decide_eq_true hz; rfl, fun ι ca cb h1 h2 => ?_⟩
    simp only [VR] at h1 h2
    obtain ⟨s, rfl, hs⟩ := h1
    obtain ⟨s2, rfl, hs2⟩ := h2
    refine ⟨by simp [Go.Instr.sameNow, sEqL hs hs2, Go.beq_toListBytes], by simp [Go.MapKept.IsKey], fun hz => ?_⟩
    rw [sEq_eq] at hz
    have := (hs.eq hs2).2 (of_decide_eq_true hz)
    subst this
    show (s == s) = true
    simp [Go.beq_toListBytes]
  · cases h
/-- what a look among the entries comes to -/
theorem fndM_sound {d : TypeDesc} {eq : V → V → (Bool → A) → A} (he : KS d eq) {k : V} {F : V → A} {N : A} {r : V × H} : ∀ (es : List (V × V)), fndM eq k es F N = some r →
    ∃ res : Option (Nat × V), (match res with | some (_, v) => F v = some r | none => N = some r) ∧ (∀ i v, res = some (i, v) → ∃ k', es[i]? = some (k', v) ∧ k = k') ∧
      ∀ (ι : Inj) (ck : Value) (mes : List MapEntry), VR ι k ck → MR ι es mes → ∀ i0, ∃ cres, Go.Instr.findNow d ck mes i0 = some cres ∧
        (match res, cres with | some (i, v), some (j, cv) => VR ι v cv ∧ j = i0 + i | none, none => True | _, _ => False)
  | [], hh => ⟨none, hh, (fun i v h => by cases h), fun ι ck mes hk hm i0 => by
      have : mes = [] := List.eq_nil_of_length_eq_zero hm.1
      subst this
      exact ⟨none, rfl, trivial⟩⟩
  | (k', v') :: es, hh => by
    have hh' : eq k k' (fun z => Bool.casesOn z (fndM eq k es F N) (F v')) = some r := hh
    obtain ⟨z, h1, h2, h3⟩ := he _ _ _ _ hh'
    cases z with
    | true =>
      refine ⟨some (0, v'), h1, fun i v hiv => ?_, fun ι ck mes hk hm i0 => ?_⟩
      · cases hiv; exact ⟨k', rfl, h2 rfl⟩
      · cases mes with
        | nil => have := hm.1; simp at this
        | cons m mes =>
          have hm0 := hm.2 0 (k', v') m rfl rfl
          obtain ⟨q1, _, _⟩ := h3 ι ck m.key hk hm0.1
          exact ⟨some (i0, m.val), by simp [Go.Instr.findNow, q1], hm0.2, by omega⟩
    | false =>
      obtain ⟨res, g1, g2, g3⟩ := fndM_sound he es h1
      refine ⟨res.map fun p => (p.1 + 1, p.2), ?_, fun i v hiv => ?_, fun ι ck mes hk hm i0 => ?_⟩
      · cases res with
        | none => exact g1
        | some p => exact g1
      · cases res with
        | none => cases hiv
        | some p =>
          obtain ⟨i', v''⟩ := p
          simp only [Option.map_some, Option.some.injEq, Prod.mk.injEq] at hiv
          obtain ⟨rfl, rfl⟩ := hiv
          obtain ⟨k2, h4, h5⟩ := g2 _ _ rfl
          exact ⟨k2, by simpa using h4, h5⟩
      · cases mes with
        | nil => have := hm.1; simp at this
        | cons m mes =>
          have hm0 := hm.2 0 (k', v') m rfl rfl
          obtain ⟨q1, _, _⟩ := h3 ι ck m.key hk hm0.1
          have hm' : MR ι es mes := ⟨by have := hm.1; simpa using this, fun i p m' hp hm' => hm.2 (i + 1) p m' (by simpa using hp) (by simpa using hm')⟩
          obtain ⟨cres, g4, g5⟩ := g3 ι ck mes hk hm' (i0 + 1)
          refine ⟨cres, by simp [Go.Instr.findNow, q1, g4], ?_⟩
          cases res with
          | none => cases cres <;> exact g5
          | some p =>
            cases cres with
            | none => exact g5.elim
            | some q => exact ⟨g5.1, by have := g5.2; omega⟩
theorem zv_sound {t : TypeId} {z : V} (hz : zv P t = some z) : ∃ zc, (∀ w, (Go.zeroValue t).run P w = .ok zc w) ∧ ∀ ι, VR ι z zc := by
  unfold zv at hz
  cases hi : P.info? t with
  | none => rw [hi] at hz; cases hz
  | some i =>
    rw [hi] at hz
    cases hzz : i.zero with
    | none => rw [Option.bind_some, hzz] at hz; cases hz
    | some zc =>
      rw [Option.bind_some, hzz] at hz
      cases hz
      exact ⟨zc, fun w => run_zero hi hzz w, fun ι => cst_sound ι zc⟩
theorem lookup_run {t kt el : TypeId} {x i : Operand} {ok : Bool} (ho : o.op = .lookup t x i ok) (hd : P.underlying t = some (.map kt el)) {w : World} {a : Act} {m : Option Nat} {es : Array MapEntry} {cres : Option (Nat × Value)} {zc : Value}
    (hx : a.eval x = .map m) (hes : match m with | some r => ∃ clock, w.heap[r]? = some (.map es clock) | none => es = #[])
    (h1 : (Go.Instr.checkKey es.isEmpty 10000 kt (a.eval i)).run P w = .ok () w) (h2 : (Go.Instr.findKey kt (a.eval i) es.toList).run P w = .ok cres w) (hz : (Go.zeroValue el).run P w = .ok zc w) :
    (execOp a.eval o).run P w = .ok (.value (let p := (match cres with | some (_, v) => (v, true) | none => (zc, false)); if ok then .tuple #[p.1, .bool p.2] else p.1)) w := by
  cases m with
  | none =>
    simp only at hes
    subst hes
    have h1' : (Go.Instr.checkKey true 10000 kt (a.eval i)).run P w = .ok () w := h1
    have h2' : (Go.Instr.findKey kt (a.eval i) []).run P w = .ok cres w := h2
    cases cres with
    | none => simp [execOp, ho, hx, Go.Instr.lookup, Go.run_underlying hd, h1', h2', hz]
    | some q => simp [execOp, ho, hx, Go.Instr.lookup, Go.run_underlying hd, h1', h2']
  | some r =>
    simp only at hes
    obtain ⟨clock, hes⟩ := hes
    have hg := Go.MapKept.run_getObj_map (P := P) hes
    cases cres with
    | none => simp [execOp, ho, hx, Go.Instr.lookup, Go.run_underlying hd, hg, h1, h2, hz]
    | some q => simp [execOp, ho, hx, Go.Instr.lookup, Go.run_underlying hd, hg, h1, h2]
theorem g_lookup {t kt el : TypeId} {x i : Operand} {ok : Bool} {eq : V → V → (Bool → A) → A} {z : V} {K : V → A} {r : V × H} (ho : o.op = .lookup t x i ok) (hd : P.underlying t = some (.map kt el)) (hk : dKey P kt = some eq) (hz : zv P el = some z)
    (hh : eq (evA P e i) (evA P e i) (fun _ => lkp eq h (evA P e x) (evA P e i) z (fun v b => cd ok (K (.tup [v, .bool b])) (opn P el v K))) = some r) : ∃ v, K v = some r ∧ ∀ h2, Sup h h2 → GR P o e nt h2 v := by
  obtain ⟨d, hkd, hks⟩ := dKey_sound hk
  obtain ⟨zc, hz1, hz2⟩ := zv_sound hz
  obtain ⟨_, hh, _, hkk⟩ := hks _ _ _ _ hh
  -- the result out of a value and a bool
  have fin : ∀ (v : V) (b : Bool), cd ok (K (.tup [v, .bool b])) (opn P el v K) = some r → ∃ v', K v' = some r ∧ ∀ (ι : Inj) (cv : Value), VR ι v cv → VR ι v' (if ok then .tuple #[cv, .bool b] else cv) := by
    intro v b hq
    cases ok with
    | true => exact ⟨_, hq, fun ι cv hv => by simp only [if_true, VR]; exact ⟨_, rfl, VRs.cons hv (VRs.cons (by simp only [VR]) VRs.nil)⟩⟩
    | false => exact ⟨_, opn_some hq, fun ι cv hv => by simpa using hv⟩
  unfold lkp at hh
  rw [toM_some] at hh
  rcases hh with ⟨b, hv, hh⟩ | ⟨hv, hh⟩
  · rw [gM_some'] at hh
    obtain ⟨hb, es, hg, hh⟩ := hh
    obtain ⟨res, h1, _, h3⟩ := fndM_sound hks es hh
    have run : ∀ (h2 : H), Sup h h2 → ∀ (ι : Inj) (w : World) (a : Act), HR P ι h2 w → ER P ι e nt a → ∃ cres : Option (Nat × Value), (execOp a.eval o).run P w = .ok (.value (let p := (match cres with | some (_, v) => (v, true) | none => (zc, false)); if ok then .tuple #[p.1, .bool p.2] else p.1)) w ∧
        (match res, cres with | some (_, v), some (_, cv) => VR ι v cv | none, none => True | _, _ => False) := by
      intro h2 hs ι w a hr he
      have e1 := he.eval x; rw [hv] at e1; simp only [VR] at e1
      obtain ⟨L, hL, e1⟩ := e1
      obtain ⟨mes, clock, q1, q2⟩ := hr.blk b L _ hL (by rw [hs b hb]; exact hg)
      obtain ⟨cres, q3, q4⟩ := h3 ι (a.eval i) mes.toList (he.eval i) q2 0
      have hkey := (hkk ι (a.eval i) (a.eval i) (he.eval i) (he.eval i)).2.1
      refine ⟨cres, lookup_run ho hd e1 (es := mes) ⟨clock, q1⟩ (Go.MapKept.run_checkKey hkd hkey _ 9999) (Go.MapKept.run_findKey hkd q3) (hz1 w), ?_⟩
      cases res with
      | none => cases cres <;> exact q4
      | some p =>
        cases cres with
        | none => exact q4
        | some q => exact q4.1
    cases res with
    | none =>
      obtain ⟨v', f1, f2⟩ := fin z false h1
      refine ⟨v', f1, fun h2 hs ι w a hr he => ?_⟩
      obtain ⟨cres, r1, r2⟩ := run h2 hs ι w a hr he
      cases cres with
      | none => exact Good.quiet hr r1 (f2 ι zc (hz2 ι))
      | some q => exact r2.elim
    | some p =>
      obtain ⟨j, v⟩ := p
      obtain ⟨v', f1, f2⟩ := fin v true h1
      refine ⟨v', f1, fun h2 hs ι w a hr he => ?_⟩
      obtain ⟨cres, r1, r2⟩ := run h2 hs ι w a hr he
      cases cres with
      | none => exact r2.elim
      | some q => exact Good.quiet hr r1 (f2 ι q.2 r2)
  · obtain ⟨v', f1, f2⟩ := fin z false hh
    refine ⟨v', f1, fun h2 hs ι w a hr he => ?_⟩
    have e1 := he.eval x; rw [hv] at e1; simp only [VR] at e1
    have hkey := (hkk ι (a.eval i) (a.eval i) (he.eval i) (he.eval i)).2.1
    exact Good.quiet hr (lookup_run (cres := none) ho hd e1 (es := #[]) rfl (Go.MapKept.run_checkKey hkd hkey _ 9999) (Go.MapKept.run_findKey hkd rfl) (hz1 w)) (f2 ι zc (hz2 ι))
theorem g_lenM {c : Go.Call} {t kt el : TypeId} {x : Operand} {K : V → A} {r : V × H} (ho : o.op = .call c) (hc : c.callee = .builtin .len) (ht : c.argTypes[0]? = some t) (hx : c.args[0]? = some x) (hd : P.underlying t = some (.map kt el))
    (hh : lenM h (evA P e x) (fun n => K (.i n)) = some r) : ∃ v, K v = some r ∧ ∀ h2, Sup h h2 → GR P o e nt h2 v := by
  have hl : ∀ es : List (V × V), (List.rec (motive := fun _ => Nat) 0 (fun _ _ ih => Nat.succ ih) es : Nat) = es.length := by
    intro es
    induction es with
    | nil => rfl
    | cons p es ih => show Nat.succ _ = _; rw [ih]; rfl
  unfold lenM at hh
  rw [toM_some] at hh
  rcases hh with ⟨b, hv, hh⟩ | ⟨hv, hh⟩
  · rw [gM_some'] at hh
    obtain ⟨hb, es, hg, hh⟩ := hh
    rw [fN_eq, hl] at hh
    refine ⟨_, hh, fun h2 hs ι w a hr he => ?_⟩
    have e1 := he.eval x; rw [hv] at e1; simp only [VR] at e1
    obtain ⟨L, hL, e1⟩ := e1
    obtain ⟨mes, clock, q1, q2⟩ := hr.blk b L _ hL (by rw [hs b hb]; exact hg)
    refine Good.quiet (cv := .int .i64 (es.length : Nat)) hr ?_ (by simp only [VR]; rfl)
    have hsz : mes.size = es.length := by rw [← q2.1]; simp
    simp [execOp, ho, Go.resolve, hc, Go.invoke, Go.builtin, Go.Builtin.len_, ht, hx, e1, Go.run_underlying hd, Go.goInt, Go.MapKept.run_getObj_map q1, hsz]
  · refine ⟨_, hh, fun h2 hs ι w a hr he => ?_⟩
    have e1 := he.eval x; rw [hv] at e1; simp only [VR] at e1
    refine Good.quiet (cv := .int .i64 (0 : Nat)) hr ?_ (by simp only [VR]; rfl)
    simp [execOp, ho, Go.resolve, hc, Go.invoke, Go.builtin, Go.Builtin.len_, ht, hx, e1, Go.run_underlying hd, Go.goInt]
end
end GoEv
namespace GoEv
open Go (IntKind Value World Addr MapEntry Program Oper Op Operand Act Exit undef execOp Sem Result TypeId TypeDesc BinOp UnOp)
section
variable {P : Program} {o : Oper} {h : H} {ι : Inj} {w : World} {a : Act} {e : Env} {nt : Nat}
theorem sOf_some : ∀ (cs : List V) {K : Nat → A} {r : V × H}, sOf cs K = some r → ∃ ns : List Nat, cs = ns.map (fun n : Nat => V.u8 (n : Int)) ∧ (∀ n ∈ ns, n < 256) ∧ K (bn (ns.map UInt8.ofNat)) = some r
  | [], K, r, hh => ⟨[], rfl, by simp, hh⟩
  | v :: cs, K, r, hh => by
    cases v with
    | u8 z =>
      cases z with
      | ofNat m =>
        have hh' : (Bool.casesOn (Nat.ble (Nat.succ m) 256) none (sOf cs (fun n => fN (Nat.add m (Nat.mul 256 n)) K)) : A) = some r := hh
        rw [bool_none, ble_eq] at hh'
        obtain ⟨hm, hh'⟩ := hh'
        have hm : m < 256 := of_decide_eq_true hm
        obtain ⟨ns, rfl, hlt, h1⟩ := sOf_some cs hh'
        rw [fN_eq] at h1
        refine ⟨m :: ns, rfl, fun n hn => ?_, ?_⟩
        · rcases List.mem_cons.1 hn with rfl | hn
          · exact hm
          · exact hlt n hn
        have : bn ((m :: ns).map UInt8.ofNat) = Nat.add m (Nat.mul 256 (bn (ns.map UInt8.ofNat))) := by
          show (UInt8.ofNat m).toNat + 256 * bn (ns.map UInt8.ofNat) = m + 256 * bn (ns.map UInt8.ofNat)
          have : (UInt8.ofNat m).toNat = m := by simp; omega
          rw [this]
        rw [this]; exact h1
      | negSucc m => cases hh
    | _ => cases hh
theorem u8s_of : ∀ {ns : List Nat} {ls : List Value}, VRs ι (ns.map fun n : Nat => V.u8 (n : Int)) ls → ls = (ns.map fun n : Nat => (n : Int)).map (Value.int .u8)
  | [], ls, h => by simpa [VRs] using h
  | n :: ns, ls, h => by
    simp only [List.map_cons, VRs, VR] at h
    obtain ⟨x, xs, rfl, rfl, h2⟩ := h
    rw [u8s_of h2]; rfl
theorem foldl_push : ∀ (ns : List Nat) (s : ByteArray), ((ns.map fun n : Nat => (n : Int)).foldl (fun (r : ByteArray) (n : Int) => r.push (UInt8.ofNat n.toNat)) s).data.toList = s.data.toList ++ ns.map UInt8.ofNat
  | [], s => by simp
  | n :: ns, s => by
    rw [List.map_cons, List.foldl_cons, foldl_push ns]
    simp [ByteArray.push]
theorem g_b2s {s d el : TypeId} {x : Operand} {K : V → A} {r : V × H} (ho : o.op = .convert s d x) (hs : P.underlying s = some (.slice el)) (hd : P.underlying d = some .string) (he : P.underlying el = some (.int .u8))
    (hh : b2s h (evA P e x) (fun l n => K (.str l n)) = some r) : ∃ v, K v = some r ∧ ∀ h2, Sup h h2 → GR P o e nt h2 v := by
  unfold b2s at hh
  rw [toSl_some] at hh
  rcases hh with ⟨b, o', l, c, sz, k, hv, hh⟩ | ⟨hv, hh⟩
  · rw [gB_some'] at hh
    obtain ⟨hb, ro, fz, cs, hg, hh⟩ := hh
    rw [tkc_some] at hh
    obtain ⟨hn, hh⟩ := hh
    obtain ⟨ns, hns, hlt, hh⟩ := sOf_some _ hh
    refine ⟨_, hh, fun h2 hsup ι w a hr hea => ?_⟩
    have h1 := hea.eval x; rw [hv] at h1; simp only [VR] at h1
    obtain ⟨L, c', off, hL, h1, h3, h4, h5, h6, h7⟩ := h1
    obtain ⟨ls, q1, q2, q3, q4⟩ := hr.loads hL (by rw [hsup b hb]; exact hg) hn
    rw [hns] at q3
    have hls := u8s_of q3
    have hload : (Go.loadCells ⟨L.cb, off, none⟩ l).run P w = .ok ((ns.map fun n : Nat => (n : Int)).map (Value.int .u8)).toArray w := by
      rw [← hls, ← q1]
      refine Go.run_loadCells_list w _ ls fun j v hj => ?_
      rcases h3 with h3 | h3
      · subst h3; rw [Go.Addr.add_lit]; exact q2 j v hj
      · have : l = 0 := by omega
        subst this
        have : ls = [] := List.eq_nil_of_length_eq_zero (by simpa using q1)
        subst this; simp at hj
    have hrun := Go.run_bytesToString w ⟨L.cb, off, none⟩ l c' _ hload
    refine Good.quiet (cv := .string ((ns.map fun n : Nat => (n : Int)).foldl (fun r n => r.push (UInt8.ofNat n.toNat)) ByteArray.empty)) hr ?_ ?_
    · simp only [execOp, ho, h1]
      rw [Go.Sem.run_bind, Go.run_convert_bytes_string w s d el _ l c' hs he hd, hrun]
      rfl
    · simp only [VR]
      refine ⟨_, rfl, ?_, ?_⟩
      · rw [foldl_push]
        have : ns.length = l := by
          have := congrArg List.length hns
          rw [hn, List.length_map] at this
          exact this.symm
        simp [this]
      · rw [foldl_push]; simp
  · refine ⟨_, hh, fun h2 hsup ι w a hr hea => ?_⟩
    have h1 := hea.eval x; rw [hv] at h1; simp only [VR] at h1
    refine Good.quiet (cv := .string .empty) hr ?_ (by simp only [VR]; exact ⟨_, rfl, rfl, rfl⟩)
    simp only [execOp, ho, h1]
    rw [Go.Sem.run_bind, Go.run_convert_bytes_string w s d el _ 0 0 hs he hd]
    rfl
theorem liesAt_self {t : TypeId} {total off n : Nat} (h1 : 1 ≤ P.cellsOf t) (h2 : off % P.cellsOf t = 0) (h3 : off + n * P.cellsOf t ≤ total) : Go.liesAt P P.depth t (total / P.cellsOf t) off t n = true := by
  have hd : P.depth = (2 * (P.types.size + Go.Made.depth) + 1) + 1 := rfl
  rw [hd]
  simp only [Go.liesAt, Bool.or_eq_true]
  left
  have h4 : off / P.cellsOf t + n ≤ total / P.cellsOf t := by
    rw [Nat.le_div_iff_mul_le (by omega), Nat.add_mul]
    have := Nat.div_mul_cancel (Nat.dvd_of_mod_eq_zero h2)
    omega
  have h5 : ¬ P.cellsOf t = 0 := by omega
  rw [hd]
  simp [Go.rowAt, h5, h2, h4, Go.sameLayout]
theorem own_shape {ro : Bool} {fz : Nat} {l : List V} {b : Nat} {L : Loc} (hr : HR P ι h w) (hb : ι b = some L) (hg : h.get b = some (.cells ro fz l)) (ho : own (.cells ro fz l) = true) : w.shape? L.cb = some (fz, L.base + L.room) ∧ L.base % P.cellsOf fz = 0 ∧ l.length ≤ L.room := by
  obtain ⟨h1, h2, h3, h4, h5⟩ := hr.blk b L _ hb hg
  exact ⟨(h5 ho).1, (h5 ho).2, h2⟩
theorem g_p2u {s d t : TypeId} {x : Operand} {K : V → A} {r : V × H} (ho : o.op = .convert s d x) (hs : P.underlying s = some (.pointer t)) (hd : P.underlying d = some .unsafePointer) (ht : 1 ≤ P.cellsOf t)
    (hh : p2u h (evA P e x) K = some r) : ∃ v, K v = some r ∧ ∀ h2, Sup h h2 → GR P o e nt h2 v := by
  obtain ⟨i, hi⟩ := info_of_cells (show P.cellsOf t ≠ 0 by omega)
  cases hv : evA P e x <;> rw [hv] at hh <;> simp only [p2u] at hh <;> first | cases hh | skip
  · rename_i b o'
    rw [gB_some'] at hh
    obtain ⟨hb, ro, fz, cs, hg, hh⟩ := hh
    rw [wr_some, bool_none, ble_eq, len_eq] at hh
    obtain ⟨rfl, h1, hh⟩ := hh
    have hlt : o' < cs.length := of_decide_eq_true h1
    refine ⟨_, hh, fun h2 hsup ι w a hr he => ?_⟩
    have e1 := he.eval x; rw [hv] at e1; simp only [VR] at e1
    obtain ⟨L, hL, e1⟩ := e1
    obtain ⟨q1, q2, q3⟩ := own_shape hr hL (by rw [hsup b hb]; exact hg) rfl
    refine Good.quiet (cv := .pointer (some ⟨L.cb, L.base + o', none⟩)) hr ?_ (by simp only [VR]; exact ⟨L, hL, rfl⟩)
    have hnot : ¬ (L.base + L.room ≤ L.base + o') := by omega
    have hne : ¬ P.cellsOf t = 0 := by omega
    simp [execOp, ho, e1, Go.convert, Go.run_underlying hs, Go.run_underlying hd, Go.Conv.unsafePointer, Go.Conv.seenAt, Go.viewAt, Go.cellsIn, q1, run_size hi, hnot, hne]
  · refine ⟨_, hh, fun h2 hsup ι w a hr he => ?_⟩
    have e1 := he.eval x; rw [hv] at e1; simp only [VR] at e1
    refine Good.quiet (cv := .pointer none) hr ?_ (by simp only [VR])
    simp [execOp, ho, e1, Go.convert, Go.run_underlying hs, Go.run_underlying hd, Go.Conv.unsafePointer]
theorem g_u2p {s d t : TypeId} {x : Operand} {K : V → A} {r : V × H} (ho : o.op = .convert s d x) (hs : P.underlying s = some .unsafePointer) (hd : P.underlying d = some (.pointer t)) (ht : 1 ≤ P.cellsOf t)
    (hh : u2p h t (P.cellsOf t) (evA P e x) K = some r) : ∃ v, K v = some r ∧ ∀ h2, Sup h h2 → GR P o e nt h2 v := by
  obtain ⟨i, hi⟩ := info_of_cells (show P.cellsOf t ≠ 0 by omega)
  cases hv : evA P e x <;> rw [hv] at hh <;> simp only [u2p] at hh <;> first | cases hh | skip
  · rename_i b o'
    rw [gB_some'] at hh
    obtain ⟨hb, ro, fz, cs, hg, hh⟩ := hh
    rw [wr_some, bool_none, beq_eq, bool_none, beq_eq, bool_none, ble_eq, len_eq] at hh
    obtain ⟨rfl, h1, h2, h3, hh⟩ := hh
    have hft : fz = t := of_decide_eq_true h1
    subst hft
    have hm : o' % P.cellsOf fz = 0 := of_decide_eq_true h2
    have hle : o' + P.cellsOf fz ≤ cs.length := of_decide_eq_true h3
    refine ⟨_, hh, fun h2 hsup ι w a hr he => ?_⟩
    have e1 := he.eval x; rw [hv] at e1; simp only [VR] at e1
    obtain ⟨L, hL, e1⟩ := e1
    obtain ⟨q1, q2, q3⟩ := own_shape hr hL (by rw [hsup b hb]; exact hg) rfl
    refine Good.quiet (cv := .pointer (some ⟨L.cb, L.base + o', none⟩)) hr ?_ (by simp only [VR]; exact ⟨L, hL, rfl⟩)
    have hlies : Go.liesAt P P.depth fz ((L.base + L.room) / P.cellsOf fz) (L.base + o') fz 1 = true := liesAt_self ht (by rw [Nat.add_mod, q2, hm]; simp) (by omega)
    have hne : ¬ P.cellsOf fz = 0 := by omega
    simp [execOp, ho, e1, Go.convert, Go.run_underlying hs, Go.run_underlying hd, Go.Conv.unsafePointer, Go.Conv.seenAt, Go.viewAt, q1, run_size hi, hne, Go.variablesAt, hlies]
  · refine ⟨_, hh, fun h2 hsup ι w a hr he => ?_⟩
    have e1 := he.eval x; rw [hv] at e1; simp only [VR] at e1
    refine Good.quiet (cv := .pointer none) hr ?_ (by simp only [VR])
    simp [execOp, ho, e1, Go.convert, Go.run_underlying hs, Go.run_underlying hd, Go.Conv.unsafePointer]
theorem rep_length (z : List V) : ∀ n, (rep n z).length = n * z.length
  | 0 => by simp [rep_zero]
  | n + 1 => by rw [rep_succ, List.length_append, rep_length z n, Nat.add_mul]; omega
theorem rep_get (z : List V) : ∀ (n i : Nat), i < n * z.length → (rep n z)[i]? = z[i % z.length]?
  | 0, i, h => by simp at h
  | n + 1, i, h => by
    rw [rep_succ]
    by_cases hi : i < z.length
    · rw [List.getElem?_append_left hi, Nat.mod_eq_of_lt hi]
    · rw [List.getElem?_append_right (by omega), rep_get z n _ (by rw [Nat.add_mul] at h; omega), ← Nat.mod_eq_sub_mod (by omega)]
theorem rep_VRs' {z : List V} {zc : Array Value} {n : Nat} (hz : VRs ι z zc.toList) (h1 : ∀ y ∈ zc.toList, y.oneCell' = true) :
    VRs ι (rep n z) (Go.madeCells zc (n * zc.size)).toList ∧ ∀ y ∈ (Go.madeCells zc (n * zc.size)).toList, y.oneCell' = true := by
  have hl : zc.size = z.length := by rw [← hz.length]; simp
  have get : ∀ i, i < n * z.length → ∃ x, zc.toList[i % z.length]? = some x ∧ (Go.madeCells zc (n * zc.size)).toList[i]? = some x := by
    intro i hi
    have hpos : 0 < z.length := by
      rcases Nat.eq_zero_or_pos z.length with h0 | h0
      · rw [h0] at hi; omega
      · exact h0
    have hlt : i % z.length < zc.size := by rw [hl]; exact Nat.mod_lt _ hpos
    refine ⟨zc[i % z.length], by rw [List.getElem?_eq_getElem (by simpa using hlt)]; simp, ?_⟩
    unfold Go.madeCells
    have hin : i < n * zc.size := by rw [hl]; exact hi
    rw [Array.toList_map, List.getElem?_map, Array.toList_range, List.getElem?_range hin]
    simp only [Option.map_some, hl]
    rw [getElem!_pos zc _ hlt]
  refine ⟨VRs.of (by rw [rep_length]; simp [Go.size_madeCells, hl]) fun i v x hi hx => ?_, fun y hy => ?_⟩
  · have hin : i < n * z.length := by
      have := (List.getElem?_eq_some_iff.1 hi).1
      rwa [rep_length] at this
    rw [rep_get z n i hin] at hi
    obtain ⟨x', h2, h3⟩ := get i hin
    rw [hx] at h3; cases h3
    obtain ⟨x', h4, h5⟩ := hz.get _ v hi
    rw [h2] at h4; cases h4
    exact h5
  · obtain ⟨i, hi, rfl⟩ := List.mem_iff_getElem.1 hy
    have hin : i < n * z.length := by
      rw [← hl]; simpa [Go.size_madeCells] using hi
    obtain ⟨x', h2, h3⟩ := get i hin
    rw [List.getElem?_eq_getElem hi] at h3
    cases h3
    exact h1 _ (List.mem_of_getElem? h2)
theorem ga_makeSlice {t el : TypeId} {i : Go.TypeInfo} {l c : Operand} {m n : Int} {z : List V} {K : Blk → (Nat → V) → A} {r : V × H} (ho : o.op = .makeSlice t l c) (hd : P.underlying t = some (.slice el)) (hi : P.info? el = some i) (h1 : 1 ≤ i.size) (hz : zcs P el = some z) (hzl : z.length = i.size)
    (hl : evA P e l = .i m) (hc : evA P e c = .i n) (hh : mkS i.bytes z m n (fun cs l c => K (.cells false el cs) fun b => .sl b 0 l c i.size true) = some r) : ∃ x vf, K x vf = some r ∧ GA P o e nt x vf := by
  unfold mkS at hh
  cases m with
  | negSucc m => cases hh
  | ofNat m =>
    cases n with
    | negSucc n => cases hh
    | ofNat n =>
      have hh' : (Bool.casesOn (Nat.ble m n) none (Bool.casesOn (Nat.ble (Nat.mul i.bytes n) 281474976710656) none (Bool.casesOn (Nat.ble n 16777216) none (K (.cells false el (rep n z)) fun b => .sl b 0 m n i.size true))) : A) = some r := hh
      rw [bool_none, ble_eq, bool_none, ble_eq, bool_none, ble_eq] at hh'
      obtain ⟨q1, q2, q3, hh⟩ := hh'
      have q1 := of_decide_eq_true q1
      have q2 : i.bytes * n ≤ 281474976710656 := of_decide_eq_true q2
      have q3 := of_decide_eq_true q3
      obtain ⟨i', zv, hi', hzz, rfl, ho1⟩ := zcs_some hz
      rw [hi] at hi'; cases hi'
      refine ⟨_, _, hh, fun h ι w a hr he => ?_⟩
      have e1 := he.eval l; rw [hl] at e1; simp only [VR] at e1
      have e2 := he.eval c; rw [hc] at e2; simp only [VR] at e2
      have hzs : zv.cells.size = i.size := by rw [← hzl]; simp
      obtain ⟨g1, g2⟩ := rep_VRs' (n := n) (cst1s_sound ι zv.cells.toList) ho1
      have h9 : (i.bytes : Int) * ((n : Nat) : Int) ≤ ((281474976710656 : Nat) : Int) := by
        rw [← Int.natCast_mul]; exact Int.ofNat_le.2 q2
      have hrun := Go.run_make (P := P) w t el i zv hd hi hzz .i64 .i64 (m : Int) (n : Int) (by omega) (by omega) h9 (by omega)
      refine ⟨.slice (some ⟨w.heap.size, 0, none⟩) m n, w, .cells (Go.madeCells zv.cells (n * zv.cells.size)) el, (rep n (zv.cells.toList.map cst1)).length, ?_, .inl rfl, row_BR' g1 g2 rfl, fun ι' b hb => ?_⟩
      · rw [hzs]
        have hrun' : (Go.Instr.makeSlice t (.int .i64 (m : Int)) (.int .i64 (n : Int))).run P w = .ok (.slice (some ⟨w.heap.size, 0, none⟩) m n) (w.alloc (.cells (Go.madeCells zv.cells (n * i.size)) el)) := by rw [Int.toNat_natCast, Int.toNat_natCast] at hrun; exact hrun
        have e1' : a.eval l = .int .i64 (m : Int) := e1
        have e2' : a.eval c = .int .i64 (n : Int) := e2
        simp only [execOp, ho, e1', e2', Go.Sem.run_bind, hrun', Go.Result.andThen_ok, Go.Sem.run_pure]
      · simp only [VR]
        refine ⟨_, n, 0, hb, rfl, .inl rfl, ?_, q1, Nat.le_refl _, fun _ => rfl⟩
        show 0 + n * i.size ≤ (rep n (zv.cells.toList.map cst1)).length
        rw [rep_length, hzl, Nat.zero_add]; exact Nat.le_refl _
end
end GoEv
namespace GoEv
open Go (IntKind Value World Addr MapEntry Program Oper Op Operand Act Exit undef execOp Sem Result TypeId TypeDesc BinOp UnOp)
section
variable {P : Program} {o : Oper} {h : H} {ι : Inj} {w : World} {a : Act} {e : Env} {nt : Nat}
theorem own_live {x : Blk} (h : own x = true) : live x = true := by cases x <;> first | rfl | cases h
/-- a block of the call's own is written anew -/
theorem HR.upd (hr : HR P ι h w) {b : Nat} {L : Loc} {x x' : Blk} (hb : ι b = some L) (hg : h.get b = some x) (hx : own x = true) {w' : World} (hw : ∀ c, c ≠ L.cb → w'.heap[c]? = w.heap[c]?) (hsz : w'.heap.size = w.heap.size)
    (hos : w'.os = w.os ∧ w'.tape = w.tape ∧ w'.output = w.output) (hbr : BR P ι x' L w') : HR P ι (h.put b x') w' ∧ Ext h ι w (h.put b x') ι w' := by
  refine ⟨⟨fun c hc => ?_, fun c L' hc => ?_, fun c L' y hc hy => ?_, fun c c' L1 L2 y y' hne hc hc' hy hy' ho hl => ?_, H.wf_put (hr.lt_n hb) hr.wf⟩, ⟨Sub.refl _, ?_, fun c y hc hy ho => ?_, hos.1, hos.2.1, hos.2.2, ?_, fun c hc hno => ?_, fun c _ hn => ?_, fun c L' h1 h2 => ?_⟩⟩
  · rw [H.n_put] at hc; exact hr.dom c hc
  · rw [hsz]; exact hr.lt c L' hc
  · rw [H.get_put] at hy
    by_cases e : c = b
    · subst e; rw [hb] at hc; cases hc; rw [if_pos rfl] at hy; cases hy; exact hbr
    · rw [if_neg e] at hy
      have hbr' := hr.blk c L' y hc hy
      cases hly : live y with
      | false => cases y <;> first | trivial | cases hly
      | true =>
        have hne := hr.apart b c L L' _ y (Ne.symm e) hb hc hg hy hx hly
        exact hbr'.same (Sub.refl _) (hw _ (Ne.symm hne))
  · rw [H.get_put] at hy hy'
    by_cases e : c = b
    · subst e
      rw [if_neg (Ne.symm hne)] at hy'
      exact hr.apart c c' L1 L2 _ y' hne hc hc' hg hy' hx hl
    · rw [if_neg e] at hy
      by_cases e' : c' = b
      · subst e'
        exact hr.apart c c' L1 L2 y _ hne hc hc' hy hg ho (own_live hx)
      · rw [if_neg e'] at hy'
        exact hr.apart c c' L1 L2 y y' hne hc hc' hy hy' ho hl
  · rw [H.n_put]; exact Nat.le_refl _
  · rw [H.get_put] at hy
    by_cases e : c = b
    · subst e; exact ⟨_, hg, hx⟩
    · rw [if_neg e] at hy; exact ⟨y, hy, ho⟩
  · rw [hsz]; exact Nat.le_refl _
  · exact hw c fun e => hno b L _ hb hg hx e.symm
  · rw [H.get_put, if_neg (fun e => by rw [e, hb] at hn; cases hn)]
  · rw [h1] at h2; cases h2

/-! ### maps -/
theorem MR.push {es : List (V × V)} {mes : Array MapEntry} {k v : V} {ck cv : Value} {n : Nat} (h : MR ι es mes.toList) (hk : VR ι k ck) (hv : VR ι v cv) : MR ι (es ++ [(k, v)]) (mes.push { key := ck, val := cv, born := n }).toList := by
  have hl : mes.size = es.length := by rw [← h.1]; simp
  refine ⟨by simp [hl], fun i p m hp hm => ?_⟩
  rw [Array.toList_push] at hm
  by_cases hi : i < es.length
  · rw [List.getElem?_append_left hi] at hp
    rw [List.getElem?_append_left (by rw [h.1]; exact hi)] at hm
    exact h.2 i p m hp hm
  · rw [List.getElem?_append_right (by omega)] at hp
    rw [List.getElem?_append_right (by rw [h.1]; omega), h.1] at hm
    have : i - es.length = 0 := by
      have := (List.getElem?_eq_some_iff.1 hp).1
      simp at this; omega
    rw [this] at hp hm
    cases hp; cases hm
    exact ⟨hk, hv⟩
theorem MR.modify {es : List (V × V)} {mes : Array MapEntry} {k v : V} {ck cv : Value} {i : Nat} (h : MR ι es mes.toList) (hk : VR ι k ck) (hv : VR ι v cv) : MR ι (es.set i (k, v)) (mes.modify i fun e => { e with key := ck, val := cv }).toList := by
  refine ⟨by simp [h.1], fun j p m hp hm => ?_⟩
  simp only [Array.toList_modify] at hm
  rw [List.getElem?_modify] at hm
  rw [List.getElem?_set] at hp
  cases hmj : mes.toList[j]? with
  | none => rw [hmj] at hm; cases hm
  | some m0 =>
    rw [hmj] at hm
    by_cases e : i = j
    · subst e
      simp at hm
      subst hm
      split at hp
      · split at hp
        · cases hp; exact ⟨hk, hv⟩
        · cases hp
      · rename_i h'; exact absurd rfl h'
    · rw [if_neg e] at hp
      simp [e] at hm
      subst hm
      exact h.2 j p m0 hp hmj
def setR (es : List (V × V)) (p : V × V) : Option Nat → List (V × V)
  | some i => es.set i p
  | none => es ++ [p]
theorem setM_sound {d : TypeDesc} {eq : V → V → (Bool → A) → A} (he : KS d eq) {k v : V} : ∀ (es : List (V × V)) {K : List (V × V) → A} {r : V × H}, setM eq k v es K = some r →
    ∃ res : Option Nat, K (setR es (k, v) res) = some r ∧
      ∀ (ι : Inj) (ck : Value) (mes : List MapEntry), VR ι k ck → MR ι es mes → ∀ i0, ∃ cres, Go.Instr.findNow d ck mes i0 = some cres ∧
        (match res, cres with | some i, some (j, _) => j = i0 + i ∧ ∃ m, mes[i]? = some m ∧ Go.Instr.sameBits 10000 m.key ck = true | none, none => True | _, _ => False)
  | [], K, r, hh => ⟨none, hh, fun ι ck mes hk hm i0 => by
      have : mes = [] := List.eq_nil_of_length_eq_zero hm.1
      subst this
      exact ⟨none, rfl, trivial⟩⟩
  | (k', v') :: es, K, r, hh => by
    have hh' : eq k k' (fun z => Bool.casesOn z (setM eq k v es fun r => K ((k', v') :: r)) (K ((k, v) :: es))) = some r := hh
    obtain ⟨z, h1, h2, h3⟩ := he _ _ _ _ hh'
    cases z with
    | true =>
      refine ⟨some 0, h1, fun ι ck mes hk hm i0 => ?_⟩
      cases mes with
      | nil => have := hm.1; simp at this
      | cons m mes =>
        have hm0 := hm.2 0 (k', v') m rfl rfl
        obtain ⟨q1, _, q3⟩ := h3 ι ck m.key hk hm0.1
        exact ⟨some (i0, m.val), by simp [Go.Instr.findNow, q1], by omega, m, rfl, q3 rfl⟩
    | false =>
      obtain ⟨res, g1, g3⟩ := setM_sound he es h1
      refine ⟨res.map (· + 1), ?_, fun ι ck mes hk hm i0 => ?_⟩
      · cases res with
        | none => exact g1
        | some p => exact g1
      · cases mes with
        | nil => have := hm.1; simp at this
        | cons m mes =>
          have hm0 := hm.2 0 (k', v') m rfl rfl
          obtain ⟨q1, _, _⟩ := h3 ι ck m.key hk hm0.1
          have hm' : MR ι es mes := ⟨by have := hm.1; simpa using this, fun i p m' hp hm' => hm.2 (i + 1) p m' (by simpa using hp) (by simpa using hm')⟩
          obtain ⟨cres, g4, g5⟩ := g3 ι ck mes hk hm' (i0 + 1)
          refine ⟨cres, by simp [Go.Instr.findNow, q1, g4], ?_⟩
          cases res with
          | none => cases cres <;> exact g5
          | some p =>
            cases cres with
            | none => exact g5.elim
            | some q =>
              obtain ⟨j, cv⟩ := q
              obtain ⟨g6, m1, g7, g8⟩ := g5
              exact ⟨by show j = i0 + (p + 1); omega, m1, by simpa using g7, g8⟩
theorem g_insert {t kt el : TypeId} {m k x : Operand} {eq : V → V → (Bool → A) → A} {K : V → H → A} {r : V × H} (ho : o.op = .insert t m k x ∨ o.op = .mapUpdate t m k x) (hd : P.underlying t = some (.map kt el)) (hk : dKey P kt = some eq)
    (hh : eq (evA P e k) (evA P e k) (fun _ => ins eq h (evA P e m) (evA P e k) (evA P e x) (fun h => K (.tup []) h)) = some r) : ∃ v h', K v h' = some r ∧ GW P o e nt h v h' := by
  obtain ⟨d, hkd, hks⟩ := dKey_sound hk
  obtain ⟨_, hh, _, hkk⟩ := hks _ _ _ _ hh
  unfold ins at hh
  rw [toM_some] at hh
  rcases hh with ⟨b, hv, hh⟩ | ⟨hv, hh⟩
  · rw [gM_some'] at hh
    obtain ⟨hb, es, hg, hh⟩ := hh
    obtain ⟨res, h1, h3⟩ := setM_sound hks es hh
    rw [pB_eq] at h1
    refine ⟨_, _, h1, fun ι w a hr he => ?_⟩
    have e1 := he.eval m; rw [hv] at e1; simp only [VR] at e1
    obtain ⟨L, hL, e1⟩ := e1
    obtain ⟨mes, clock, q1, q2⟩ := hr.blk b L _ hL hg
    obtain ⟨cres, q3, q4⟩ := h3 ι (a.eval k) mes.toList (he.eval k) q2 0
    have hkey := (hkk ι (a.eval k) (a.eval k) (he.eval k) (he.eval k)).2.1
    have hck := Go.MapKept.run_checkKey (P := P) (w := w) hkd hkey false 9999
    have hfk := Go.MapKept.run_findKey (P := P) (w := w) hkd q3
    have hgo := Go.MapKept.run_getObj_map (P := P) q1
    have hlt : L.cb < w.heap.size := hr.lt b L hL
    have fin : ∀ (mes' : Array MapEntry) (clock' : Nat), MR ι (setR es (evA P e k, evA P e x) res) mes'.toList → (execOp a.eval o).run P w = .ok .skip { w with heap := w.heap.setIfInBounds L.cb (.map mes' clock') } →
        Good P o h ι w a (.tup []) (h.put b (.map (setR es (evA P e k, evA P e x) res))) := by
      intro mes' clock' hm hrun
      obtain ⟨g1, g2⟩ := hr.upd (x' := .map (setR es (evA P e k, evA P e x) res)) hL hg rfl (w' := { w with heap := w.heap.setIfInBounds L.cb (.map mes' clock') }) (fun c hc => by simp [Array.getElem?_setIfInBounds_ne (Ne.symm hc)]) (by simp) ⟨rfl, rfl, rfl⟩
        ⟨mes', clock', by simp [hlt], hm⟩
      exact Good.skip hrun g1 g2
    have hso := fun o => Go.MapKept.run_setObj_map (P := P) o q1
    cases res with
    | none =>
      cases cres with
      | some q => exact q4.elim
      | none =>
        refine fin (mes.push { key := a.eval k, val := a.eval x, born := clock }) (clock + 1) (q2.push (he.eval k) (he.eval x)) ?_
        rcases ho with ho | ho <;> simp [execOp, ho, e1, Go.Instr.mapUpdate, Go.run_underlying hd, hgo, hck, hfk, hso]
    | some i =>
      cases cres with
      | none => exact q4.elim
      | some q =>
        obtain ⟨j, cv⟩ := q
        obtain ⟨hj, m0, hm0, hsb⟩ := q4
        have hj' : j = i := by omega
        subst hj'
        have hm0' : mes[j]? = some m0 := by rw [← hm0]; simp
        refine fin (mes.modify j fun e => { e with key := a.eval k, val := a.eval x }) clock (q2.modify (he.eval k) (he.eval x)) ?_
        rcases ho with ho | ho <;> simp [execOp, ho, e1, Go.Instr.mapUpdate, Go.run_underlying hd, hgo, hck, hfk, hso, hm0', Go.Instr.keyThatStays, hsb]
  · cases hh
end
end GoEv
namespace GoEv
open Go (IntKind Value World Addr MapEntry Program Oper Op Operand Act Exit undef execOp Sem Result TypeId TypeDesc BinOp UnOp)
section
variable {P : Program} {o : Oper} {h : H} {ι : Inj} {w : World} {a : Act} {e : Env} {nt : Nat}
/-! ### strings and bytes -/
theorem bytesWorld_eq (w : World) (el : TypeId) (s : ByteArray) : Go.Lib.bytesWorld w el s = w.drew.alloc (.cells (Go.Lib.bytesCells w el s) el ((Go.Lib.bytesCells w el s).size, (Go.Lib.bytesCells w el s).size + 1)) := by
  unfold Go.Lib.bytesWorld
  generalize Go.Lib.bytesCells w el s = c
  have : ((w.drew.alloc (.cells c el)).freeze ⟨w.heap.size, c.size, none⟩ 1).heap = (w.drew.alloc (.cells c el (c.size, c.size + 1))).heap := by
    apply Array.ext_getElem?
    intro i
    simp only [Go.World.freeze, Go.World.alloc, Go.World.drew]
    simp only [Nat.one_ne_zero, if_false, Array.getElem?_modify, Array.getElem?_push]
    by_cases e : w.heap.size = i
    · subst e; simp
    · simp [e, Ne.symm e]
  have h2 : ∀ (x y : World), x.heap = y.heap → x.tape = y.tape → x.drawn = y.drawn → x.os = y.os → x.output = y.output → x = y := by
    intro x y; cases x; cases y; simp; intros; simp_all
  exact h2 _ _ this (by unfold Go.World.freeze; split <;> rfl) (by unfold Go.World.freeze; split <;> rfl) (by unfold Go.World.freeze; split <;> rfl) (by unfold Go.World.freeze; split <;> rfl)
theorem g_s2b {s d el : TypeId} {x : Operand} {l n : Nat} {K : V → H → A} {r : V × H} (ho : o.op = .convert s d x) (hs : P.underlying s = some .string) (hd : P.underlying d = some (.slice el)) (he : P.underlying el = some (.int .u8)) (hx : evA P e x = .str l n)
    (hh : s2b h el l n K = some r) : ∃ v h', K v h' = some r ∧ GW P o e nt h v h' := by
  unfold s2b at hh
  rw [bool_none, al_eq] at hh
  refine ⟨_, _, hh.2, fun ι w a hr hea => ?_⟩
  have h1 := hea.eval x; rw [hx] at h1; simp only [VR] at h1
  obtain ⟨st, h1, hst⟩ := h1
  have hb := bytes_sound ι st.data.toList
  rw [hst.1, hst.2] at hb
  have hsz : st.size = l := hst.size
  have hdl : st.data.size = l := hsz
  have hrun := Go.Lib.run_convert_string_bytes (P := P) w s d el st hs hd he
  rw [bytesWorld_eq] at hrun
  have hcs : (Go.Lib.bytesCells w el st).toList = (st.data.toList.map fun b => Value.int .u8 b.toNat) ++ List.replicate (Go.grownCap w st.size 0 el - st.size) (.int .u8 0) := by simp [Go.Lib.bytesCells]
  have hlen : l ≤ (Go.Lib.bytesCells w el st).size := by
    have := congrArg List.length hcs
    simp [hdl] at this; omega
  obtain ⟨ι', q1, q2, q3⟩ := hr.drew.push (.cells false el (bytes l n)) (.cells (Go.Lib.bytesCells w el st) el ((Go.Lib.bytesCells w el st).size, (Go.Lib.bytesCells w el st).size + 1)) (Go.Lib.bytesCells w el st).size (fun ι' hsub => by
    have hcell : ∀ i, (w.drew.alloc (.cells (Go.Lib.bytesCells w el st) el ((Go.Lib.bytesCells w el st).size, (Go.Lib.bytesCells w el st).size + 1))).cell? ⟨w.heap.size, i, none⟩ = (Go.Lib.bytesCells w el st)[i]? := by
      intro i
      simp [Go.World.cell?, Go.World.alloc, Go.World.drew, -Go.World.alloc_eq, -Go.World.drew_eq]
    refine ⟨fun i v hv => ?_, by rw [bytes_length]; exact hlen, fun i hi => ?_, fun _ i hi => ?_, fun _ => ⟨?_, Nat.zero_mod _⟩⟩
    · obtain ⟨y, g1, g2⟩ := hb.get i v hv
      refine ⟨y, ?_, VR.mono hsub _ _ g2⟩
      show (w.drew.alloc _).cell? ⟨w.heap.size, 0 + i, none⟩ = _
      rw [Nat.zero_add, hcell, ← Array.getElem?_toList, hcs, List.getElem?_append_left (List.getElem?_eq_some_iff.1 g1).1, g1]
    · refine ⟨(Go.Lib.bytesCells w el st)[i], ?_, ?_⟩
      · show (w.drew.alloc _).cell? ⟨w.heap.size, 0 + i, none⟩ = _
        rw [Nat.zero_add, hcell, Array.getElem?_eq_getElem hi]
      · have : (Go.Lib.bytesCells w el st)[i] ∈ (Go.Lib.bytesCells w el st).toList := by simp
        rw [hcs] at this
        rcases List.mem_append.1 this with h5 | h5
        · obtain ⟨z, _, hz⟩ := List.mem_map.1 h5; rw [← hz]; rfl
        · rw [(List.mem_replicate.1 h5).2]; rfl
    · show (w.drew.alloc _).frozen? ⟨w.heap.size, 0 + i, none⟩ = false
      simp [Go.World.frozen?, Go.World.alloc, Go.World.drew, -Go.World.alloc_eq, -Go.World.drew_eq]
      intro h5
      have : i < (Go.Lib.bytesCells w el st).size := hi
      omega
    · show (w.drew.alloc _).shape? w.heap.size = some (el, 0 + _)
      simp [Go.World.shape?, Go.World.alloc, Go.World.drew, -Go.World.alloc_eq, -Go.World.drew_eq])
  have q1' : ι' h.n = some ⟨w.heap.size, 0, (Go.Lib.bytesCells w el st).size⟩ := q1
  refine Good.value (cv := .slice (some ⟨w.heap.size, 0, none⟩) st.size (Go.grownCap w st.size 0 el)) ?_ ?_ q2 (Ext.trans hr.dom (Ext.refl h ι w).drew q3)
  · simp only [execOp, ho, h1]
    rw [Go.Sem.run_bind, hrun]
    rfl
  · simp only [VR]
    have hsize : (Go.Lib.bytesCells w el st).size = max l (Go.grownCap w st.size 0 el) := by
      have := congrArg List.length hcs
      simp [hdl] at this; omega
    have hgc : l ≤ Go.grownCap w st.size 0 el := by rw [← hsz]; exact Go.grownCap_ge w st.size 0 el
    refine ⟨_, Go.grownCap w st.size 0 el, 0, q1', by rw [hsz], .inl rfl, ?_, Nat.le_refl _, hgc, fun hq => nomatch hq⟩
    show 0 + Go.grownCap w st.size 0 el * 1 ≤ (Go.Lib.bytesCells w el st).size
    omega
theorem ust_def (ats : Array TypeId) (ty : TypeId) (p : Option Addr) (len : Value) : Go.Builtin.unsafeString_ ats ty #[.pointer p, len] =
      (do
        let n ← Go.asInt len
        let some pt := ats[0]? | Go.stuck "unsafe.String: no argument types"
        if n < 0 then Go.runtimePanic (.error "unsafe.String: len out of range")
        if n > IntKind.i64.max then Go.unsupported (.unsafePointer "String: a length above the largest int")
        match p with
        | none =>
          if n = 0 then pure (.string .empty)
          else Go.runtimePanic (.error "unsafe.String: ptr is nil and len is not zero")
        | some a =>
          if n = 0 then pure (.string .empty)
          else if ← Go.variablesAt a (← Go.elemOf pt) n.toNat then do
            let s ← Go.loadBytes a .empty n.toNat
            Go.freeze a n.toNat
            pure (.string s)
          else Go.unsupported (.unsafePointer "String: not so many bytes at ptr")) := rfl
theorem run_ust0 {ats : Array TypeId} {ty pt : TypeId} (ht : ats[0]? = some pt) (p : Option Addr) : (Go.Builtin.unsafeString_ ats ty #[.pointer p, .int .i64 0]).run P w = .ok (.string .empty) w := by
  have hmax : IntKind.i64.max = 9223372036854775807 := rfl
  rw [ust_def]
  cases p <;> simp [Go.asInt, Go.asIntOf, hmax, ht]
theorem run_ust {ats : Array TypeId} {ty pt el : TypeId} (ht : ats[0]? = some pt) (hp : P.underlying pt = some (.pointer el)) (hc : P.cellsOf el = 1) (ad : Addr) (cells : Nat) (hsh : w.shape? ad.block = some (el, cells)) (l : List UInt8) (h0 : l ≠ []) (hn : ad.off + l.length ≤ cells) (h63 : l.length ≤ 9223372036854775807)
    (hcell : ∀ j x, l[j]? = some x → w.cell? (ad.add j) = some (.int .u8 x.toNat)) :
    (Go.Builtin.unsafeString_ ats ty #[.pointer (some ad), .int .i64 l.length]).run P w = .ok (.string ⟨l.toArray⟩) (w.freeze ad l.length) := by
  have hl : l.length ≠ 0 := by simpa using h0
  have hlb := Go.Lib.run_loadBytes (P := P) w l ad .empty hcell
  have hlies := liesAt_self (P := P) (t := el) (total := cells) (off := ad.off) (n := l.length) (by omega) (by rw [hc]; exact Nat.mod_one _) (by rw [hc]; omega)
  have h63' : ¬ (9223372036854775807 : Int) < (l.length : Int) := by omega
  rw [ust_def]
  have hmax : IntKind.i64.max = 9223372036854775807 := rfl
  have hneg : ¬ (l.length : Int) < 0 := by omega
  simp [Go.asInt, Go.asIntOf, hmax, h63', hneg, hl, Go.variablesAt, hsh, Go.elemOf, Go.run_underlying hp, hlies, hlb, ht]
theorem freeze_heap (w : World) (ad : Addr) (n : Nat) (c : Nat) (hc : c ≠ ad.block) : (w.freeze ad n).heap[c]? = w.heap[c]? := by
  unfold Go.World.freeze
  split
  · rfl
  · simp only [Array.getElem?_modify]; rw [if_neg (Ne.symm hc)]
theorem freeze_size (w : World) (ad : Addr) (n : Nat) : (w.freeze ad n).heap.size = w.heap.size := by unfold Go.World.freeze; split <;> simp
theorem freeze_cell (w : World) (ad : Addr) (n : Nat) (x : Addr) : (w.freeze ad n).cell? x = w.cell? x := by
  unfold Go.World.freeze
  split
  · rfl
  · simp only [Go.World.cell?, Array.getElem?_modify]
    by_cases e : ad.block = x.block
    · rw [if_pos e]
      cases hh : w.heap[x.block]? with
      | none => simp
      | some y => cases y <;> simp
    · rw [if_neg e]
theorem freeze_shape (w : World) (ad : Addr) (n : Nat) (c : Nat) : (w.freeze ad n).shape? c = w.shape? c := by
  unfold Go.World.freeze
  split
  · rfl
  · simp only [Go.World.shape?, Array.getElem?_modify]
    by_cases e : ad.block = c
    · rw [if_pos e]
      cases hh : w.heap[c]? with
      | none => simp
      | some y => cases y <;> simp
    · rw [if_neg e]
theorem g_ust {c : Go.Call} {t el : TypeId} {x y : Operand} {n : Int} {K : V → H → A} {r : V × H} (ho : o.op = .call c) (hc : c.callee = .builtin .unsafeString) (ht : c.argTypes[0]? = some t) (ha : c.args.toList = [x, y]) (hd : P.underlying t = some (.pointer el)) (h1 : P.cellsOf el = 1) (hy : evA P e y = .i n)
    (hh : ust h el (evA P e x) n K = some r) : ∃ v h', K v h' = some r ∧ GW P o e nt h v h' := by
  unfold ust at hh
  cases n with
  | negSucc n => cases hh
  | ofNat n =>
    cases n with
    | zero =>
      have hh' : ptrish (evA P e x) (K (.str 0 0) h) = some r := hh
      have hp : (∃ b o', evA P e x = .ptr b o') ∨ evA P e x = .nilp := by
        cases hv : evA P e x <;> rw [hv] at hh' <;> simp only [ptrish] at hh' <;> first | cases hh' | exact .inl ⟨_, _, rfl⟩ | exact .inr rfl
      have hh2 : K (.str 0 0) h = some r := by
        rcases hp with ⟨b, o', hp⟩ | hp <;> rw [hp] at hh' <;> exact hh'
      refine ⟨_, _, hh2, fun ι w a hr he => ?_⟩
      have e2 := he.eval y; rw [hy, VR.i] at e2
      have hq := fun p => run_ust0 (P := P) (w := w) (ty := o.type) ht p
      have e2' : a.eval y = .int .i64 0 := e2
      rcases hp with ⟨b, o', hp⟩ | hp
      · have e1 := he.eval x; rw [hp] at e1; simp only [VR] at e1
        obtain ⟨L, hL, e1⟩ := e1
        refine Good.quiet (cv := .string .empty) hr ?_ (by simp only [VR]; exact ⟨_, rfl, rfl, rfl⟩)
        simp [execOp, ho, Go.resolve, hc, Go.invoke, Go.builtin, args2 ha, e1, e2', hq]
      · have e1 := he.eval x; rw [hp] at e1; simp only [VR] at e1
        refine Good.quiet (cv := .string .empty) hr ?_ (by simp only [VR]; exact ⟨_, rfl, rfl, rfl⟩)
        simp [execOp, ho, Go.resolve, hc, Go.invoke, Go.builtin, args2 ha, e1, e2', hq]
    | succ n =>
      cases hv : evA P e x <;> rw [hv] at hh <;> simp only [] at hh <;> first | cases hh | skip
      rename_i b o'
      obtain ⟨hb, ro, fz, cs, hg, hh⟩ := gB_some'.1 hh
      cases fz with
      | zero => cases hh
      | succ fz =>
        have hh' : (Bool.casesOn (Nat.beq (fz + 1) el) none (Bool.casesOn (Nat.ble n 16777216) none (tkc cs o' (Nat.succ n) fun cs' => sOf cs' fun s => pB h b (.cells true (fz + 1) cs) fun h => K (.str (Nat.succ n) s) h)) : A) = some r := hh
        rw [bool_none, beq_eq, bool_none, ble_eq, tkc_some] at hh'
        obtain ⟨hf, hsm, hn, hh⟩ := hh'
        have hfe : fz + 1 = el := of_decide_eq_true hf
        obtain ⟨ns, hns, hlt, hh⟩ := sOf_some _ hh
        rw [pB_eq] at hh
        refine ⟨_, _, hh, fun ι w a hr he => ?_⟩
        have e1 := he.eval x; rw [hv] at e1; simp only [VR] at e1
        have e2 := he.eval y; rw [hy, VR.i] at e2
        obtain ⟨L, hL, e1⟩ := e1
        have hown : own (.cells ro (fz + 1) cs) = true := by simp [own, beq_eq]
        obtain ⟨q1, q2, q3⟩ := own_shape hr hL hg hown
        obtain ⟨b1, b2, b3, b4, b5⟩ := hr.blk b L _ hL hg
        obtain ⟨ls, g1, g2, g3, g4⟩ := hr.loads hL hg hn
        rw [hns] at g3
        have hls := u8s_of g3
        have hnl : ns.length = n + 1 := by
          have := congrArg List.length hns
          rw [hn, List.length_map] at this
          exact this.symm
        have hol : o' + (n + 1) ≤ cs.length := by
          simp only [List.length_take, List.length_drop] at hn; omega
        have hnat : ∀ m ∈ ns, (UInt8.ofNat m).toNat = m := fun m hm => by have := hlt m hm; simp; omega
        have hbyte : ∀ j x, (ns.map UInt8.ofNat)[j]? = some x → w.cell? ((⟨L.cb, L.base + o', none⟩ : Addr).add j) = some (.int .u8 x.toNat) := by
          intro j x hj
          rw [List.getElem?_map] at hj
          cases hm : ns[j]? with
          | none => rw [hm] at hj; cases hj
          | some m =>
            rw [hm] at hj
            simp only [Option.map_some, Option.some.injEq] at hj
            subst hj
            rw [Go.Addr.add_lit, hnat m (List.mem_of_getElem? hm)]
            refine g2 j _ ?_
            rw [hls, List.map_map, List.getElem?_map, hm]; rfl
        have hlen : (ns.map UInt8.ofNat).length = n + 1 := by rw [List.length_map, hnl]
        have hsmall : n + 1 ≤ 9223372036854775807 := by have := of_decide_eq_true hsm; omega
        have hrun := run_ust (P := P) (w := w) (ty := o.type) ht hd h1 ⟨L.cb, L.base + o', none⟩ (L.base + L.room) (by rw [q1, hfe]) (ns.map UInt8.ofNat) (fun hq => by rw [hq] at hlen; cases hlen) (by show L.base + o' + _ ≤ _; omega) (by omega) hbyte
        rw [hlen] at hrun
        obtain ⟨p1, p2⟩ := hr.upd (x' := .cells true (fz + 1) cs) hL hg hown (w' := w.freeze ⟨L.cb, L.base + o', none⟩ (n + 1)) (fun c hc => freeze_heap _ _ _ _ hc) (freeze_size _ _ _) (by unfold Go.World.freeze; split <;> exact ⟨rfl, rfl, rfl⟩)
          ⟨fun i v hv => by rw [freeze_cell]; exact b1 i v hv, b2, fun i hi => by rw [freeze_cell]; exact b3 i hi, (fun hq => nomatch hq), fun _ => by rw [freeze_shape]; exact b5 hown⟩
        refine Good.value (cv := .string ⟨(ns.map UInt8.ofNat).toArray⟩) ?_ (by simp only [VR]; exact ⟨_, rfl, by simp [hnl], by simp⟩) p1 p2
        have e2' : a.eval y = .int .i64 ((n + 1 : Nat) : Int) := e2
        generalize ((n + 1 : Nat) : Int) = z at hrun e2'
        simp [execOp, ho, Go.resolve, hc, Go.invoke, Go.builtin, args2 ha, e1, e2', hrun]
/-! ### copy -/
theorem g_copy {c : Go.Call} {t el : TypeId} {x y : Operand} {K : V → H → A} {r : V × H} (ho : o.op = .call c) (hc : c.callee = .builtin .copy) (ht : c.argTypes[0]? = some t) (ha : c.args.toList = [x, y]) (hd : P.underlying t = some (.slice el)) (h1 : 1 ≤ P.cellsOf el)
    (hh : cpy h (evA P e x) (evA P e y) (P.cellsOf el) (fun n h => K (.i n) h) = some r) : ∃ v h', K v h' = some r ∧ GW P o e nt h v h' := by
  obtain ⟨i, hi⟩ := info_of_cells (show P.cellsOf el ≠ 0 by omega)
  unfold cpy at hh
  obtain ⟨n, new, hh, hnl, hsrc⟩ := src_sound hh
  have hsz := run_size (P := P) hi
  have fin : ∀ (ι : Inj) (w w' : World) (a : Act) (base : Option Addr) (dl dc : Nat) (cs : List Value), HR P ι h w → ER P ι e nt a → a.eval x = .slice base dl dc → n ≤ dl → (Go.Builtin.lenOf (a.eval y) = (pure n : Sem Nat)) → ((Go.Builtin.firstCells (P.cellsOf el) n (a.eval y)).run P w = .ok cs.toArray w) →
      (match base with | some ad => (Go.storeCells ad cs).run P w = .ok () w' | none => w' = w) → (execOp a.eval o).run P w = .ok (.value (.int .i64 (n : Int))) w' := by
    intro ι w w' a base dl dc cs hr he h2 h3 h4 h5 h6
    have hmin : Nat.min n dl = n := Nat.min_eq_left h3
    cases base with
    | none =>
      simp only at h6
      subst h6
      simp [execOp, ho, Go.resolve, hc, Go.invoke, Go.builtin, args2 ha, Go.Builtin.copy_, ht, Go.run_underlying hd, h2, h4, hsz, hmin, h5, Go.goInt]
    | some ad =>
      simp only at h6
      simp [execOp, ho, Go.resolve, hc, Go.invoke, Go.builtin, args2 ha, Go.Builtin.copy_, ht, Go.run_underlying hd, h2, h4, hsz, hmin, h5, h6, Go.goInt]
  rw [toSl_some] at hh
  rcases hh with ⟨b, o', l, c', s', k, hv, hh⟩ | ⟨hv, hh⟩
  · rw [bool_none, ble_eq] at hh
    obtain ⟨hle, hh⟩ := hh
    have hle : n ≤ l := of_decide_eq_true hle
    cases n with
    | zero =>
      refine ⟨_, _, hh, fun ι w a hr he => ?_⟩
      have e1 := he.eval x; rw [hv] at e1; simp only [VR] at e1
      obtain ⟨L, cc, off, hL, e1, _, _, _, _, _⟩ := e1
      obtain ⟨cs, q1, q2, q3, q4⟩ := hsrc ι w _ hr (he.eval y)
      have hcs : cs = [] := List.eq_nil_of_length_eq_zero (by rw [q1.length, hnl]; simp)
      subst hcs
      refine Good.quiet (cv := .int .i64 (0 : Nat)) hr (fin ι w w a _ _ _ [] hr he e1 hle q3 (q4 w rfl) (storeCells_nil _ _)) (by simp only [VR]; rfl)
    | succ n =>
      have hh' : (Bool.casesOn (Nat.beq s' (P.cellsOf el)) none (stL h b o' new fun h => K (.i (Int.ofNat (n + 1))) h) : A) = some r := hh
      rw [bool_none, beq_eq] at hh'
      obtain ⟨hs, hh2⟩ := hh'
      have hs : s' = P.cellsOf el := of_decide_eq_true hs
      obtain ⟨fz, cl, hg, hfit, hh3⟩ := stL_some hh2
      refine ⟨_, _, hh3, fun ι w a hr he => ?_⟩
      have e1 := he.eval x; rw [hv] at e1; simp only [VR] at e1
      obtain ⟨L, cc, off, hL, e1, h6, _, _, _, _⟩ := e1
      have hoff : off = L.base + o' := by rcases h6 with h6 | h6; exact h6; omega
      subst hoff
      obtain ⟨cs, q1, q2, q3, q4⟩ := hsrc ι w _ hr (he.eval y)
      obtain ⟨g1, g2, g3⟩ := hr.store (o := o') hL hg new cs q1 q2 hfit
      have hst := run_store_there (P := P) g1 q2
      exact Good.value (cv := .int .i64 ((n + 1 : Nat) : Int)) (fin ι w _ a _ _ _ cs hr he e1 hle q3 (q4 w rfl) hst) (by simp only [VR]; rfl) g2 g3
  · cases n with
    | succ n => cases hh
    | zero =>
      refine ⟨_, _, hh, fun ι w a hr he => ?_⟩
      have e1 := he.eval x; rw [hv] at e1; simp only [VR] at e1
      obtain ⟨cs, q1, q2, q3, q4⟩ := hsrc ι w _ hr (he.eval y)
      have hcs : cs = [] := List.eq_nil_of_length_eq_zero (by rw [q1.length, hnl]; simp)
      subst hcs
      exact Good.quiet (cv := .int .i64 (0 : Nat)) hr (fin ι w w a _ _ _ [] hr he e1 (Nat.le_refl _) q3 (q4 w rfl) rfl) (by simp only [VR]; rfl)
/-! ### functions without a body -/
/-- functions that are entered by a call, as they are; and what some others do -/
structure XOK (P : Program) (X : Nat → Nat) : Prop where
  enter : ∀ f, X f = 0 → ∀ (args : Array Value) (w : World), (Go.callFunc f args).run P w = .ok (.enter f args) w
  same : ∀ f, X f = 2 → ∀ (v : Value) (w : World), (Go.callFunc f #[v]).run P w = .ok (.value v) w
  mnz : ∀ f, X f = 3 → ∃ ps t, P.underlying t = some (.slice (xel P f)) ∧ ∀ (args : Array Value) (w : World), (Go.callFunc f args).run P w = ((Go.Extern.BytealgMakeNoZero.makeNoZero ps #[t] args).run P w).andThen fun v w' => .ok (.value v) w'
  cmp : ∀ f, X f = 4 → ∀ (args : Array Value) (w : World), (Go.callFunc f args).run P w = ((Go.Extern.BytealgCompare.compare args).run P w).andThen fun v w' => .ok (.value v) w'
theorem g_x2 {X : Nat → Nat} (hX : XOK P X) {c : Go.Call} {f : Nat} {x : Operand} (ho : o.op = .call c) (hc : c.callee = .value (.func f)) (hx : X f = 2) (ha : c.args.toList = [x]) (hr : HR P ι h w) (he : ER P ι e nt a) :
    Good P o h ι w a (evA P e x) h := by
  refine Good.quiet (cv := a.eval x) hr ?_ (he.eval x)
  have := hX.same f hx (a.eval x) w
  simp [execOp, ho, Go.resolve, hc, Go.Deferred.ofValue, Go.Act.eval, Go.invoke, args1 ha]
  simpa [Go.Act.eval] using this
theorem digits_one : ∀ (n t : Nat) (acc : Array Value), (∀ y ∈ acc.toList, y.oneCell' = true) → ∀ y ∈ (Go.Extern.BytealgMakeNoZero.digits n t acc).toList, y.oneCell' = true
  | 0, _, acc, h => h
  | n + 1, t, acc, h => by
    rw [Go.Extern.BytealgMakeNoZero.digits]
    refine digits_one n _ _ fun y hy => ?_
    rw [Array.toList_push] at hy
    rcases List.mem_append.1 hy with h1 | h1
    · exact h y h1
    · rw [List.mem_singleton.1 h1]; rfl
theorem run_mnz (ps : Array TypeId) (t e : TypeId) (ht : P.underlying t = some (.slice e)) (n : Nat) (hn : n ≤ 281474976710656) :
    ∃ cs : Array Value, (Go.Extern.BytealgMakeNoZero.makeNoZero ps #[t] #[.int .i64 n]).run P w = .ok (.slice (some ⟨w.heap.size, 0, none⟩) n cs.size) (w.drew.drew.alloc (.cells cs e)) ∧ n ≤ cs.size ∧ ∀ y ∈ cs.toList, y.oneCell' = true := by
  have hdef : Go.Extern.BytealgMakeNoZero.makeNoZero ps #[t] #[.int .i64 n] =
      (do
        let .slice elem ← Go.underlying t | Go.stuck "bytealg.MakeNoZero: slice type expected"
        if (n : Int) < 0 || (n : Int) > 2 ^ 48 then Go.runtimePanic (.error "makeslice: len out of range")
        let cap ← Go.choose (.appendCap (n : Int).toNat 0 elem)
        Go.askRoom cap
        let bytes ← Go.choose (.extern "internal/bytealg.MakeNoZero.bytes" 0)
        let a ← Go.newRow elem (Go.Extern.BytealgMakeNoZero.digits cap bytes #[])
        pure (.slice (some a) (n : Int).toNat cap)) := rfl
  refine ⟨Go.Extern.BytealgMakeNoZero.digits (Go.grownCap w n 0 e) ((Go.Question.extern "internal/bytealg.MakeNoZero.bytes" 0).cut (w.tape (w.drawn + 1) (.extern "internal/bytealg.MakeNoZero.bytes" 0))) #[], ?_, ?_, digits_one _ _ _ (by simp)⟩
  · rw [hdef]
    have h1 : ¬ (n : Int) < 0 := by omega
    have h2 : ¬ (281474976710656 : Int) < (n : Int) := by omega
    simp [Go.run_underlying ht, h1, h2, Go.Question.forced, Go.newRow, Go.Lib.size_digits, Go.grownCap]
  · rw [Go.Lib.size_digits]
    simpa using Go.grownCap_ge w n 0 e
theorem VRs_undef : ∀ (n : Nat) (cs : List Value), cs.length = n → VRs ι (rep n [V.undef]) cs
  | 0, cs, h => by rw [List.eq_nil_of_length_eq_zero h]; exact VRs.nil
  | n + 1, [], h => by simp at h
  | n + 1, c :: cs, h => by
    rw [rep_succ]
    exact VRs.cons (by simp only [VR]) (VRs_undef n cs (by simpa using h))
theorem g_x3 {X : Nat → Nat} (hX : XOK P X) {c : Go.Call} {f : Nat} {x : Operand} {n : Int} {K : V → H → A} {r : V × H} (ho : o.op = .call c) (hc : c.callee = .value (.func f)) (hx : X f = 3) (ha : c.args.toList = [x]) (hn : evA P e x = .i n)
    (hh : mnz h (xel P f) n K = some r) : ∃ v h', K v h' = some r ∧ GW P o e nt h v h' := by
  obtain ⟨ps, t, ht, hrun⟩ := hX.mnz f hx
  unfold mnz at hh
  cases n with
  | negSucc n => cases hh
  | ofNat n =>
    have hh' : (Bool.casesOn (Nat.ble n 16777216) none (al h (xel P f) (rep n [.undef]) fun b h => K (.sl b 0 n n 1 false) h) : A) = some r := hh
    rw [bool_none, ble_eq, al_eq] at hh'
    obtain ⟨hsm, hh⟩ := hh'
    have hsm : n ≤ 16777216 := of_decide_eq_true hsm
    refine ⟨_, _, hh, fun ι w a hr he => ?_⟩
    have e1 := he.eval x; rw [hn, VR.i] at e1
    have e1' : a.eval x = .int .i64 (n : Int) := e1
    obtain ⟨cs, q1, q2, q3⟩ := run_mnz (P := P) (w := w) ps t _ ht n (by omega)
    have hrow := row_BR (P := P) (ι := ι) (el := xel P f) (l := rep n [V.undef]) (cs := cs.toList.take n) (extra := cs.toList.drop n) (w1 := w.drew.drew) (VRs_undef n _ (by simp [q2])) (fun y hy => q3 y (List.mem_of_mem_take hy)) (fun y hy => q3 y (List.mem_of_mem_drop hy)) (room := cs.size) (n := w.heap.size) (by simp; omega) rfl
    rw [List.take_append_drop, Array.toArray_toList] at hrow
    obtain ⟨ι', g1, g2, g3⟩ := hr.drew.drew.push (.cells false (xel P f) (rep n [V.undef])) (.cells cs (xel P f)) cs.size hrow
    have g1' : ι' h.n = some ⟨w.heap.size, 0, cs.size⟩ := g1
    have h5 := hrun #[.int .i64 (n : Int)] w
    rw [q1] at h5
    refine Good.value (cv := .slice (some ⟨w.heap.size, 0, none⟩) n cs.size) ?_ ?_ g2 (Ext.trans hr.dom (Ext.refl h ι w).drew.drew g3)
    · have hf : a.eval (.func f) = .func (.func f) #[] #[] := rfl
      simp [execOp, ho, Go.resolve, hc, Go.Deferred.ofValue, hf, Go.invoke, args1 ha, e1', h5]
    · simp only [VR]
      exact ⟨_, cs.size, 0, g1', rfl, .inl rfl, by show 0 + cs.size * 1 ≤ cs.size; omega, Nat.le_refl _, q2, fun hq => nomatch hq⟩
theorem compareBytes_eq : ∀ (a b : List UInt8), Go.Lib.compareBytes a b = if a = b then 0 else if Go.Op.bytesLess a b = true then -1 else 1
  | [], [] => rfl
  | [], b :: bs => by simp [Go.Lib.compareBytes, Go.Op.bytesLess]
  | a :: as, [] => by simp [Go.Lib.compareBytes, Go.Op.bytesLess]
  | a :: as, b :: bs => by
    simp only [Go.Lib.compareBytes, Go.Op.bytesLess]
    rw [compareBytes_eq as bs]
    by_cases hab : a = b
    · subst hab
      have h1 : ¬ (a < a) := by simp
      simp [h1]
    · by_cases hlt : a < b
      · simp [hlt, hab]
      · have h2 : b < a := by
          rw [UInt8.lt_iff_toNat_lt] at hlt ⊢
          have : a.toNat ≠ b.toNat := fun h => hab (UInt8.toNat_inj.1 h)
          omega
        simp [hlt, hab, h2]
theorem g_x4 {X : Nat → Nat} (hX : XOK P X) {c : Go.Call} {f : Nat} {x y : Operand} {l n l2 n2 : Nat} (ho : o.op = .call c) (hc : c.callee = .value (.func f)) (hx : X f = 4) (ha : c.args.toList = [x, y]) (h1 : evA P e x = .str l n) (h2 : evA P e y = .str l2 n2) (hr : HR P ι h w) (he : ER P ι e nt a) :
    Good P o h ι w a (.i (cmpZ l n l2 n2)) h := by
  have e1 := he.eval x; rw [h1] at e1; simp only [VR] at e1
  have e2 := he.eval y; rw [h2] at e2; simp only [VR] at e2
  obtain ⟨s, e1, hs⟩ := e1
  obtain ⟨s2, e2, hs2⟩ := e2
  have hz : cmpZ l n l2 n2 = Go.Lib.compareBytes s.data.toList s2.data.toList := by
    unfold cmpZ
    have h3 := sLs_eq hs hs2
    unfold sLs at h3
    rw [h3, sEqL hs hs2, compareBytes_eq, Go.ByteArray.toList_eq, Go.ByteArray.toList_eq]
    by_cases hq : s.data.toList = s2.data.toList
    · simp [hq]
    · rw [if_neg hq]
      have : (s.data.toList == s2.data.toList) = false := by simpa using hq
      rw [this]
      cases Go.Op.bytesLess s.data.toList s2.data.toList <;> rfl
  rw [hz]
  refine Good.quiet (cv := .int .i64 (Go.Lib.compareBytes s.data.toList s2.data.toList)) hr ?_ (by simp only [VR])
  have h5 := hX.cmp f hx #[a.eval x, a.eval y] w
  rw [e1, e2, Go.Lib.run_compareString] at h5
  have hf : a.eval (.func f) = .func (.func f) #[] #[] := rfl
  simp [execOp, ho, Go.resolve, hc, Go.Deferred.ofValue, hf, Go.invoke, args2 ha, e1, e2, h5]
end
end GoEv
namespace GoEv
open Go (IntKind Value World Addr MapEntry Program Oper Op Operand Act Exit undef execOp Sem Result TypeId TypeDesc BinOp UnOp)
section
variable {P : Program} {o : Oper} {h : H} {ι : Inj} {w : World} {a : Act} {e : Env} {nt : Nat}
/-! ### clear -/
theorem zeroCells_eq (z : Array Value) (n : Nat) : (Go.Builtin.zeroCells z n) = Go.madeCells z (n * z.size) := by
  simp [Go.Builtin.zeroCells, Go.madeCells]
theorem g_clear {c : Go.Call} {t el : TypeId} {x : Operand} {z : List V} {K : V → H → A} {r : V × H} (ho : o.op = .call c) (hc : c.callee = .builtin .clear) (ht : c.argTypes[0]? = some t) (ha : c.args.toList = [x]) (hd : P.underlying t = some (.slice el))
    (hz : zcs P el = some z) (h1 : 1 ≤ P.cellsOf el) (hzl : z.length = P.cellsOf el) (hh : clr h (evA P e x) (P.cellsOf el) z (fun h => K (.tup []) h) = some r) : ∃ v h', K v h' = some r ∧ GW P o e nt h v h' := by
  obtain ⟨i, zv, hi, hzz, rfl, ho1⟩ := zcs_some hz
  unfold clr at hh
  rw [toSl_some] at hh
  rcases hh with ⟨b, o', l, c', s', k, hv, hh⟩ | ⟨hv, hh⟩
  · cases l with
    | zero =>
      refine ⟨_, _, hh, fun ι w a hr he => ?_⟩
      have e1 := he.eval x; rw [hv] at e1; simp only [VR] at e1
      obtain ⟨L, cc, off, hL, e1, _⟩ := e1
      refine Good.quiet (cv := .tuple #[]) hr ?_ (by simp only [VR]; exact ⟨_, rfl, VRs.nil⟩)
      simp [execOp, ho, Go.resolve, hc, Go.invoke, Go.builtin, args1 ha, Go.Builtin.clear_, ht, Go.run_underlying hd, e1]
    | succ l =>
      have hh' : (Bool.casesOn (Nat.beq s' (P.cellsOf el)) none (stL h b o' (rep (l + 1) (zv.cells.toList.map cst1)) fun h => K (.tup []) h) : A) = some r := hh
      rw [bool_none, beq_eq] at hh'
      obtain ⟨hs, hh2⟩ := hh'
      have hs : s' = P.cellsOf el := of_decide_eq_true hs
      obtain ⟨fz, cl, hg, hfit, hh3⟩ := stL_some hh2
      refine ⟨_, _, hh3, fun ι w a hr he => ?_⟩
      have e1 := he.eval x; rw [hv] at e1; simp only [VR] at e1
      obtain ⟨L, cc, off, hL, e1, h6, _, h7, h8, _⟩ := e1
      have hoff : off = L.base + o' := by rcases h6 with h6 | h6; exact h6; omega
      subst hoff
      obtain ⟨q1, q2⟩ := rep_VRs' (n := l + 1) (cst1s_sound ι zv.cells.toList) ho1
      obtain ⟨g1, g2, g3⟩ := hr.store (o := o') hL hg _ (Go.madeCells zv.cells ((l + 1) * zv.cells.size)).toList q1 q2 hfit
      have hst := run_store_there (P := P) g1 q2
      refine Good.value (cv := .tuple #[]) ?_ (by simp only [VR]; exact ⟨_, rfl, VRs.nil⟩) g2 g3
      have hzero : (Go.zeroValue el).run P w = .ok zv w := run_zero hi hzz w
      simp [execOp, ho, Go.resolve, hc, Go.invoke, Go.builtin, args1 ha, Go.Builtin.clear_, ht, Go.run_underlying hd, e1, hzero, zeroCells_eq, hst]
  · refine ⟨_, _, hh, fun ι w a hr he => ?_⟩
    have e1 := he.eval x; rw [hv] at e1; simp only [VR] at e1
    refine Good.quiet (cv := .tuple #[]) hr ?_ (by simp only [VR]; exact ⟨_, rfl, VRs.nil⟩)
    simp [execOp, ho, Go.resolve, hc, Go.invoke, Go.builtin, args1 ha, Go.Builtin.clear_, ht, Go.run_underlying hd, e1]
end
end GoEv
