/- Comparisons, slices, append, composites and new blocks are sound. -/
import Derived.Test.YtdgaheekfeomoaaGreatDoorEvR
import Derived.WideLaws
import Derived.LaidEql
import Derived.Laws.Slices
import Derived.Laws.AppendOwn
set_option linter.unusedVariables false
set_option linter.unusedSimpArgs false
namespace GoEv
open Go (IntKind Value World Addr MapEntry Program Oper Op Operand Act Exit undef execOp Sem Result TypeId TypeDesc BinOp UnOp)

section
variable {P : Program} {o : Oper} {h : H} {ι : Inj} {w : World} {a : Act} {e : Env} {nt : Nat}

theorem nilO_some {op : BinOp} {b : Bool} {K : V → A} {r : V × H} (hh : nilO op b K = some r) : ∃ v, K v = some r ∧ ((op = .eql ∧ v = .bool b) ∨ (op = .neq ∧ v = .bool (!b))) := by
  cases op <;> simp only [nilO, notB_eq] at hh <;> first | cases hh | exact ⟨_, hh, .inl ⟨rfl, rfl⟩⟩ | exact ⟨_, hh, .inr ⟨rfl, rfl⟩⟩
/-- '==' and '!=' out of what Op.equal says -/
theorem g_eql {op : BinOp} {t : TypeId} {x y : Operand} {yt : TypeId} {b : Bool} {v : V} {vx vy : Value} (ho : o.op = .binOp op t x y yt) (hv : (op = .eql ∧ v = .bool b) ∨ (op = .neq ∧ v = .bool (!b))) (hr : HR P ι h w)
    (hx : a.eval x = vx) (hy : a.eval y = vy)
    (hg : ∀ op, (Go.eqGuard op t x y vx vy).run P w = .ok () w)
    (h1 : Go.binOp .eql t vx vy = (do pure (.bool (← Go.Op.equal t vx vy)) : Sem Value))
    (h2 : Go.binOp .neq t vx vy = (do pure (.bool (!(← Go.Op.equal t vx vy))) : Sem Value))
    (heq : (Go.Op.equal t vx vy).run P w = .ok b w) : Good P o h ι w a v h := by
  rcases hv with ⟨rfl, rfl⟩ | ⟨rfl, rfl⟩
  · refine Good.quiet (cv := .bool b) hr ?_ (by simp [VR])
    simp [execOp, ho, hx, hy, hg, h1, heq]
  · refine Good.quiet (cv := .bool (!b)) hr ?_ (by simp [VR])
    simp [execOp, ho, hx, hy, hg, h2, heq]
theorem equal_run (t : TypeId) (x y : Value) (b : Bool) (h : ∀ d, (Go.Op.equalIn (d + 1) t x y).run P w = .ok b w) : (Go.Op.equal t x y).run P w = .ok b w := h 9999
theorem eqGuard_quiet {op : BinOp} {t : TypeId} {x y : Operand} {vx vy : Value} (h1 : (vx, vy) ≠ (.nilIface, .nilIface)) (h2 : ∀ p q, (vx, vy) ≠ (.agg p, .agg q)) : (Go.eqGuard op t x y vx vy).run P w = .ok () w := by
  unfold Go.eqGuard
  split
  · rw [if_neg (by decide)]; cases vx <;> cases vy <;> first | rfl | exact absurd rfl h1 | exact absurd rfl (h2 _ _)
  · rw [if_neg (by decide)]; cases vx <;> cases vy <;> first | rfl | exact absurd rfl h1 | exact absurd rfl (h2 _ _)
  · rw [if_pos (by decide)]; rfl

theorem g_bin_bool {op : BinOp} {t : TypeId} {x y : Operand} {yt : TypeId} {m n : Bool} {K : V → A} {r : V × H} (ho : o.op = .binOp op t x y yt) (hd : P.underlying t = some .bool) (hx : evA P e x = .bool m) (hy : evA P e y = .bool n)
    (hh : nilO op (eqB m n) K = some r) : ∃ v, K v = some r ∧ GQ P o e nt v := by
  rw [eqB_eq] at hh
  obtain ⟨v, hK, hv⟩ := nilO_some hh
  refine ⟨v, hK, fun h ι w a hr he => ?_⟩
  have h1 := he.eval x; rw [hx] at h1; simp only [VR] at h1
  have h2 := he.eval y; rw [hy] at h2; simp only [VR] at h2
  refine g_eql ho hv hr h1 h2 (fun op => by cases op <;> rfl) rfl rfl (equal_run _ _ _ _ fun d => ?_)
  simp [Go.Op.equalIn, Go.run_underlying hd]
theorem nlP_some {v : V} {K : Bool → A} {r : V × H} (hh : nlP v K = some r) : (v = .nilp ∧ K true = some r) ∨ (∃ b o, v = .ptr b o ∧ K false = some r) := by
  cases v <;> simp only [nlP] at hh <;> first | cases hh | exact .inl ⟨rfl, hh⟩ | exact .inr ⟨_, _, rfl, hh⟩
theorem nlS_some {v : V} {K : Bool → A} {r : V × H} (hh : nlS v K = some r) : (v = .nils ∧ K true = some r) ∨ (∃ b o l c s k, v = .sl b o l c s k ∧ K false = some r) := by
  cases v <;> simp only [nlS] at hh <;> first | cases hh | exact .inl ⟨rfl, hh⟩ | exact .inr ⟨_, _, _, _, _, _, rfl, hh⟩
theorem nlM_some {v : V} {K : Bool → A} {r : V × H} (hh : nlM v K = some r) : (v = .nilm ∧ K true = some r) ∨ (∃ b, v = .map b ∧ K false = some r) := by
  cases v <;> simp only [nlM] at hh <;> first | cases hh | exact .inl ⟨rfl, hh⟩ | exact .inr ⟨_, rfl, hh⟩
theorem nlF_some {v : V} {K : Bool → A} {r : V × H} (hh : nlF v K = some r) : (v = .nilf ∧ K true = some r) ∨ (∃ f x y, v = .fn f x y ∧ K false = some r) := by
  cases v <;> simp only [nlF] at hh <;> first | cases hh | exact .inl ⟨rfl, hh⟩ | exact .inr ⟨_, _, _, rfl, hh⟩
theorem nlI_some {v : V} {K : Bool → A} {r : V × H} (hh : nlI v K = some r) : (v = .nili ∧ K true = some r) ∨ (∃ t x, v = .iface t x ∧ K false = some r) := by
  cases v <;> simp only [nlI] at hh <;> first | cases hh | exact .inl ⟨rfl, hh⟩ | exact .inr ⟨_, _, rfl, hh⟩

theorem g_bin_nlP {op : BinOp} {t q : TypeId} {x : Operand} {yt : TypeId} {K : V → A} {r : V × H} (ho : o.op = .binOp op t x (.const (.pointer none)) yt) (hd : P.underlying t = some (.pointer q))
    (hh : nlP (evA P e x) (fun z => nilO op z K) = some r) : ∃ v, K v = some r ∧ GQ P o e nt v := by
  rcases nlP_some hh with ⟨hv, hh⟩ | ⟨b, o', hv, hh⟩ <;> obtain ⟨v, hK, hw⟩ := nilO_some hh <;> refine ⟨v, hK, fun h ι w a hr he => ?_⟩ <;> have h1 := he.eval x <;> rw [hv] at h1 <;> simp only [VR] at h1
  · refine g_eql (vy := (.pointer none)) ho hw hr h1 rfl (fun op => eqGuard_quiet (by simp) (by simp)) rfl rfl (equal_run _ _ _ _ fun d => ?_)
    simp [Go.Op.equalIn, Go.run_underlying hd]
  · obtain ⟨L, _, h1⟩ := h1
    refine g_eql (vy := (.pointer none)) ho hw hr h1 rfl (fun op => eqGuard_quiet (by simp) (by simp)) rfl rfl (equal_run _ _ _ _ fun d => ?_)
    simp [Go.Op.equalIn, Go.run_underlying hd]
theorem g_bin_nlS {op : BinOp} {t q : TypeId} {x : Operand} {yt : TypeId} {l c : Nat} {K : V → A} {r : V × H} (ho : o.op = .binOp op t x (.const (.slice none l c)) yt) (hd : P.underlying t = some (.slice q))
    (hh : nlS (evA P e x) (fun z => nilO op z K) = some r) : ∃ v, K v = some r ∧ GQ P o e nt v := by
  rcases nlS_some hh with ⟨hv, hh⟩ | ⟨b, o', _, _, _, _, hv, hh⟩ <;> obtain ⟨v, hK, hw⟩ := nilO_some hh <;> refine ⟨v, hK, fun h ι w a hr he => ?_⟩ <;> have h1 := he.eval x <;> rw [hv] at h1 <;> simp only [VR] at h1
  · refine g_eql (vy := (.slice none l c)) ho hw hr h1 rfl (fun op => eqGuard_quiet (by simp) (by simp)) rfl rfl (equal_run _ _ _ _ fun d => ?_)
    simp [Go.Op.equalIn, Go.run_underlying hd]
  · obtain ⟨L, c', off, _, h1, _⟩ := h1
    refine g_eql (vy := (.slice none l c)) ho hw hr h1 rfl (fun op => eqGuard_quiet (by simp) (by simp)) rfl rfl (equal_run _ _ _ _ fun d => ?_)
    simp [Go.Op.equalIn, Go.run_underlying hd]
theorem g_bin_nlM {op : BinOp} {t q q' : TypeId} {x : Operand} {yt : TypeId} {K : V → A} {r : V × H} (ho : o.op = .binOp op t x (.const (.map none)) yt) (hd : P.underlying t = some (.map q q'))
    (hh : nlM (evA P e x) (fun z => nilO op z K) = some r) : ∃ v, K v = some r ∧ GQ P o e nt v := by
  rcases nlM_some hh with ⟨hv, hh⟩ | ⟨b, hv, hh⟩ <;> obtain ⟨v, hK, hw⟩ := nilO_some hh <;> refine ⟨v, hK, fun h ι w a hr he => ?_⟩ <;> have h1 := he.eval x <;> rw [hv] at h1 <;> simp only [VR] at h1
  · refine g_eql (vy := (.map none)) ho hw hr h1 rfl (fun op => eqGuard_quiet (by simp) (by simp)) rfl rfl (equal_run _ _ _ _ fun d => ?_)
    simp [Go.Op.equalIn, Go.run_underlying hd]
  · obtain ⟨L, _, h1⟩ := h1
    refine g_eql (vy := (.map none)) ho hw hr h1 rfl (fun op => eqGuard_quiet (by simp) (by simp)) rfl rfl (equal_run _ _ _ _ fun d => ?_)
    simp [Go.Op.equalIn, Go.run_underlying hd]
theorem g_bin_nlF {op : BinOp} {t : TypeId} {q q' q''} {x : Operand} {yt : TypeId} {K : V → A} {r : V × H} (ho : o.op = .binOp op t x (.const .nilFunc) yt) (hd : P.underlying t = some (.func q q' q''))
    (hh : nlF (evA P e x) (fun z => nilO op z K) = some r) : ∃ v, K v = some r ∧ GQ P o e nt v := by
  rcases nlF_some hh with ⟨hv, hh⟩ | ⟨b, p, s, hv, hh⟩ <;> obtain ⟨v, hK, hw⟩ := nilO_some hh <;> refine ⟨v, hK, fun h ι w a hr he => ?_⟩ <;> have h1 := he.eval x <;> rw [hv] at h1 <;> simp only [VR] at h1
  · refine g_eql (vy := .nilFunc) ho hw hr h1 rfl (fun op => eqGuard_quiet (by simp) (by simp)) rfl rfl (equal_run _ _ _ _ fun d => ?_)
    simp [Go.Op.equalIn, Go.run_underlying hd]
  · obtain ⟨a', b', h1, _⟩ := h1
    refine g_eql (vy := .nilFunc) ho hw hr h1 rfl (fun op => eqGuard_quiet (by simp) (by simp)) rfl rfl (equal_run _ _ _ _ fun d => ?_)
    simp [Go.Op.equalIn, Go.run_underlying hd]
theorem g_bin_nlI {op : BinOp} {t : TypeId} {q} {x : Operand} {yt : TypeId} {K : V → A} {r : V × H} (ho : o.op = .binOp op t x (.const .nilIface) yt) (hd : P.underlying t = some (.interface q))
    (hh : nlI (evA P e x) (fun z => nilO op z K) = some r) : ∃ v, K v = some r ∧ GQ P o e nt v := by
  rcases nlI_some hh with ⟨hv, hh⟩ | ⟨b, p, hv, hh⟩ <;> obtain ⟨v, hK, hw⟩ := nilO_some hh <;> refine ⟨v, hK, fun h ι w a hr he => ?_⟩ <;> have h1 := he.eval x <;> rw [hv] at h1 <;> simp only [VR] at h1
  · refine g_eql (vy := .nilIface) ho hw hr h1 rfl (fun op => ?_) rfl rfl (equal_run _ _ _ _ fun d => ?_)
    · have : (Go.eqGuard op t x (.const .nilIface) .nilIface .nilIface) = (pure () : Sem Unit) := by cases op <;> cases x <;> rfl
      rw [this]; rfl
    · simp [Go.Op.equalIn, Go.run_underlying hd]
  · obtain ⟨y, h1, _⟩ := h1
    refine g_eql (vy := .nilIface) ho hw hr h1 rfl (fun op => eqGuard_quiet (by simp) (by simp)) rfl rfl (equal_run _ _ _ _ fun d => ?_)
    simp [Go.Op.equalIn, Go.run_underlying hd]
theorem pEq_some {v v' : V} {K : Bool → A} {r : V × H} (hh : pEq v v' K = some r) :
    (v = .nilp ∧ v' = .nilp ∧ K true = some r) ∨ (∃ b o, v = .ptr b o ∧ v' = .nilp ∧ K false = some r) ∨ (∃ b o, v = .nilp ∧ v' = .ptr b o ∧ K false = some r) ∨
    (∃ b o o', v = .ptr b o ∧ v' = .ptr b o' ∧ K (decide (o = o')) = some r) := by
  cases v <;> simp only [pEq] at hh <;> first | cases hh | skip
  all_goals (cases v' <;> simp only [] at hh <;> first | cases hh | skip)
  · rename_i x o y p
    cases hb : Nat.beq x y with
    | false => rw [hb] at hh; cases hh
    | true =>
      rw [hb] at hh
      have := Nat.eq_of_beq_eq_true hb
      subst this
      refine .inr (.inr (.inr ⟨_, _, _, rfl, rfl, ?_⟩))
      rw [beq_eq] at hh; exact hh
  · exact .inr (.inl ⟨_, _, rfl, rfl, hh⟩)
  · exact .inr (.inr (.inl ⟨_, _, rfl, rfl, hh⟩))
  · exact .inl ⟨rfl, rfl, hh⟩
theorem g_bin_pEq {op : BinOp} {t q : TypeId} {i : Go.TypeInfo} {x y : Operand} {yt : TypeId} {K : V → A} {r : V × H} (ho : o.op = .binOp op t x y yt) (hd : P.underlying t = some (.pointer q)) (hi : P.info? q = some i) (hsz : i.size ≠ 0)
    (hh : pEq (evA P e x) (evA P e y) (fun z => nilO op z K) = some r) : ∃ v, K v = some r ∧ GQ P o e nt v := by
  rcases pEq_some hh with ⟨hv, hv', hh⟩ | ⟨b, o', hv, hv', hh⟩ | ⟨b, o', hv, hv', hh⟩ | ⟨b, o1, o2, hv, hv', hh⟩ <;> obtain ⟨v, hK, hw⟩ := nilO_some hh <;> refine ⟨v, hK, fun h ι w a hr he => ?_⟩ <;> have h1 := he.eval x <;> have h2 := he.eval y <;> rw [hv] at h1 <;> rw [hv'] at h2 <;> simp only [VR] at h1 h2
  · refine g_eql ho hw hr h1 h2 (fun op => eqGuard_quiet (by simp) (by simp)) rfl rfl (equal_run _ _ _ _ fun d => ?_)
    simp [Go.Op.equalIn, Go.run_underlying hd]
  · obtain ⟨L, _, h1⟩ := h1
    refine g_eql ho hw hr h1 h2 (fun op => eqGuard_quiet (by simp) (by simp)) rfl rfl (equal_run _ _ _ _ fun d => ?_)
    simp [Go.Op.equalIn, Go.run_underlying hd]
  · obtain ⟨L, _, h2⟩ := h2
    refine g_eql ho hw hr h1 h2 (fun op => eqGuard_quiet (by simp) (by simp)) rfl rfl (equal_run _ _ _ _ fun d => ?_)
    simp [Go.Op.equalIn, Go.run_underlying hd]
  · obtain ⟨L, hL, h1⟩ := h1
    obtain ⟨L', hL', h2⟩ := h2
    rw [hL] at hL'; cases hL'
    refine g_eql ho hw hr h1 h2 (fun op => eqGuard_quiet (by simp) (by simp)) rfl rfl (equal_run _ _ _ _ fun d => ?_)
    have h3 : (Go.sameAddr (⟨L.cb, L.base + o1, none⟩ : Addr) ⟨L.cb, L.base + o2, none⟩).run P w = .ok (decide (o1 = o2)) w := by
      simp [Go.sameAddr]
      by_cases h : o1 = o2 <;> simp [h]
    simp [Go.Op.equalIn, Go.run_underlying hd, Go.sizeOf, Go.typeInfo, hi, hsz, h3]
end
end GoEv
namespace GoEv
open Go (IntKind Value World Addr MapEntry Program Oper Op Operand Act Exit undef execOp Sem Result TypeId TypeDesc BinOp UnOp)

section
variable {P : Program} {o : Oper} {h : H} {ι : Inj} {w : World} {a : Act} {e : Env} {nt : Nat}

theorem g_not {t : TypeId} {x : Operand} {z : Bool} (ho : o.op = .unOp .not t x) (hx : evA P e x = .bool z) (hr : HR P ι h w) (he : ER P ι e nt a) : Good P o h ι w a (.bool (notB z)) h := by
  have h1 := he.eval x; rw [hx] at h1; simp only [VR] at h1
  rw [notB_eq]
  exact Good.quiet (cv := .bool (!z)) hr (by simp [execOp, ho, h1, Go.Op.unary]) (by simp [VR])
theorem g_neg {t : TypeId} {x : Operand} {k : IntKind} {n : Int} (ho : o.op = .unOp .neg t x) (hx : evA P e x = mkI k n) (hr : HR P ι h w) (he : ER P ι e nt a) : Good P o h ι w a (mkI k (k.wrap (negZ n))) h := by
  have h1 := he.eval x; rw [hx, VR.mkI] at h1
  rw [negZ_eq]
  exact Good.quiet (cv := .int k (k.wrap (-n))) hr (by simp [execOp, ho, h1, Go.Op.unary, Go.Op.intArith]) (VR.mkI.2 rfl)
theorem g_conv_int {s d : TypeId} {x : Operand} {k k' : IntKind} {ds : TypeDesc} {n : Int} (ho : o.op = .convert s d x) (hs : P.underlying s = some ds) (hd : P.underlying d = some (.int k')) (hx : evA P e x = mkI k n) (hr : HR P ι h w) (he : ER P ι e nt a) :
    Good P o h ι w a (mkI k' (k'.wrap n)) h := by
  have h1 := he.eval x; rw [hx, VR.mkI] at h1
  refine Good.quiet (cv := .int k' (k'.wrap n)) hr ?_ (VR.mkI.2 rfl)
  simp [execOp, ho, h1, Go.convert, Go.run_underlying hs, Go.run_underlying hd, Go.Conv.intToInt]
theorem g_conv_str {s d : TypeId} {x : Operand} {ds : TypeDesc} {l n : Nat} (ho : o.op = .convert s d x) (hs : P.underlying s = some ds) (hd : P.underlying d = some .string) (hx : evA P e x = .str l n) (hr : HR P ι h w) (he : ER P ι e nt a) :
    Good P o h ι w a (.str l n) h := by
  have h1 := he.eval x; rw [hx] at h1
  have h2 := h1
  simp only [VR] at h1
  obtain ⟨b, h1, _⟩ := h1
  refine Good.quiet (cv := .string b) hr ?_ (h1 ▸ h2)
  simp [execOp, ho, h1, Go.convert, Go.run_underlying hs, Go.run_underlying hd]
theorem g_iface {t : TypeId} {x : Operand} {d : TypeDesc} (ho : o.op = .makeInterface t x) (hd : P.underlying t = some d) (hni : ∀ ms, d ≠ .interface ms) (hr : HR P ι h w) (he : ER P ι e nt a) : Good P o h ι w a (.iface t (evA P e x)) h := by
  refine Good.quiet (cv := .iface t (a.eval x)) hr ?_ (by simp only [VR]; exact ⟨_, rfl, he.eval x⟩)
  have : (Go.Instr.makeInterface t (a.eval x)).run P w = .ok (.iface t (a.eval x)) w := by
    unfold Go.Instr.makeInterface
    rw [Go.Sem.run_bind, Go.run_underlying hd w]
    cases d <;> first | rfl | exact absurd rfl (hni _)
  simp [execOp, ho, this]
theorem g_fn {f : Nat} {x y : Array Operand} (ho : o.op = .makeFunc (.func f) x y) (hr : HR P ι h w) (he : ER P ι e nt a) : Good P o h ι w a (.fn f (x.toList.map (evA P e)) (y.toList.map (evA P e))) h := by
  refine Good.quiet (cv := .func (.func f) (x.map a.eval) (y.map a.eval)) hr ?_ ?_
  · simp [execOp, ho, Go.Instr.makeFunc]
  · simp only [VR]
    exact ⟨_, _, rfl, by simpa using he.evals x.toList, by simpa using he.evals y.toList⟩
theorem g_map {t : TypeId} (ho : o.op = .makeMap t none) (hr : HR P ι h w) : Good P o h ι w a (.map h.n) (h.push (.map [])) := by
  obtain ⟨ι', h1, h2, h3⟩ := hr.push (.map []) (.map #[] 0) 0 fun ι' hs => ⟨#[], 0, by show (w.heap.push _)[w.heap.size]? = _; simp, rfl, by simp⟩
  refine Good.value (cv := .map (some w.heap.size)) (w' := w.alloc (.map #[] 0)) ?_ ?_ h2 h3
  · simp [execOp, ho, Go.Instr.makeMap]
  · simp only [VR]; exact ⟨_, h1, rfl⟩
theorem g_extract {x : Operand} {i : Nat} {l : List V} {v : V} (ho : o.op = .extract x i) (hx : evA P e x = .tup l) (hv : l[i]? = some v) (hr : HR P ι h w) (he : ER P ι e nt a) : Good P o h ι w a v h := by
  have h1 := he.eval x; rw [hx] at h1; simp only [VR] at h1
  obtain ⟨c, h1, h2⟩ := h1
  obtain ⟨cv, h3, h4⟩ := h2.get i v hv
  refine Good.quiet (cv := cv) hr ?_ h4
  have : c[i]? = some cv := by simpa using h3
  simp [execOp, ho, h1, Go.Instr.extract, this]
theorem fieldOf_some {t : TypeId} {f : Nat} {off n : Nat} {ft : TypeId} (hf : fieldOf P t f = some (off, n, ft)) : ∃ fs fd, P.underlying t = some (.struct fs) ∧ fs[f]? = some fd ∧ fd.offset = off ∧ fd.type = ft ∧ n = P.cellsOf ft := by
  unfold fieldOf at hf
  split at hf
  · rename_i fs hd
    split at hf
    · rename_i fd hfd
      simp only [Option.some.injEq, Prod.mk.injEq] at hf
      exact ⟨fs, fd, und_eq hd (by simp), hfd, hf.1, hf.2.2, by rw [← hf.2.1, hf.2.2]⟩
    · cases hf
  · cases hf
theorem run_size {t : TypeId} {i : Go.TypeInfo} (h : P.info? t = some i) (w : World) : (Go.sizeOf t).run P w = .ok (P.cellsOf t) w := by
  simp [Go.sizeOf, Go.typeInfo, h, Go.Program.cellsOf]
theorem info_of_cells {t : TypeId} (h : P.cellsOf t ≠ 0) : ∃ i, P.info? t = some i := by
  unfold Go.Program.cellsOf at h
  cases hi : P.info? t with
  | none => rw [hi] at h; simp at h
  | some i => exact ⟨i, rfl⟩
theorem info_of_und {t : TypeId} {d : TypeDesc} (h : P.underlying t = some d) : ∃ i, P.info? t = some i := by
  unfold Go.Program.underlying at h
  cases hi : P.info? t with
  | none => rw [hi] at h; simp at h
  | some i => exact ⟨i, rfl⟩
theorem g_fieldAddr {t : TypeId} {x : Operand} {f off n : Nat} {ft : TypeId} {b o' : Nat} (ho : o.op = .fieldAddr t x f) (hf : fieldOf P t f = some (off, n, ft)) (hn : n ≠ 0) (hx : evA P e x = .ptr b o') (hr : HR P ι h w) (he : ER P ι e nt a) :
    Good P o h ι w a (.ptr b (o' + off)) h := by
  have h1 := he.eval x; rw [hx] at h1; simp only [VR] at h1
  obtain ⟨L, hL, h1⟩ := h1
  obtain ⟨fs, fd, h2, h3, rfl, rfl, rfl⟩ := fieldOf_some hf
  obtain ⟨i, hi⟩ := info_of_cells hn
  refine Good.quiet (cv := .pointer (some ⟨L.cb, L.base + (o' + fd.offset), none⟩)) hr ?_ (by simp only [VR]; exact ⟨L, hL, rfl⟩)
  simp [execOp, ho, h1, Go.Instr.fieldAt, Go.run_underlying h2, h3, Go.Instr.sureAddr, Go.fieldPlace, run_size hi, hn, Go.Addr.add, Nat.add_assoc]
theorem run_part_agg {t : TypeId} {d : TypeDesc} {i : Go.TypeInfo} (hd : P.underlying t = some d) (hrow : d.isRow = true) (hi : P.info? t = some i) (cs : Array Value) (off : Nat) (w : World) : (Go.part t cs off).run P w = .ok (.agg (cs.extract off (off + P.cellsOf t))) w := by
  unfold Go.part
  rw [Go.Sem.run_bind, run_isAgg hd w]
  simp [hrow, Go.Result.andThen, run_size hi]
theorem run_part_one {t : TypeId} {d : TypeDesc} {v : Value} (hd : P.underlying t = some d) (hrow : d.isRow = false) (cs : Array Value) (off : Nat) (hv : cs[off]? = some v) (w : World) : (Go.part t cs off).run P w = .ok v w := by
  unfold Go.part
  rw [Go.Sem.run_bind, run_isAgg hd w]
  simp [hrow, Go.Result.andThen, hv]
theorem extract_take {cs : Array Value} {o n : Nat} : (cs.extract o (o + n)).toList = (cs.toList.drop o).take n := by
  rw [Array.toList_extract, List.extract_eq_take_drop]; simp
theorem g_field_agg {t : TypeId} {x : Operand} {f off n : Nat} {ft : TypeId} {l : List V} (ho : o.op = .field t x f) (hf : fieldOf P t f = some (off, n, ft)) (hx : evA P e x = .agg l) (hag : isAg P ft = true) (hr : HR P ι h w) (he : ER P ι e nt a) :
    Good P o h ι w a (.agg ((l.drop off).take n)) h := by
  have h1 := he.eval x; rw [hx] at h1; simp only [VR] at h1
  obtain ⟨c, h1, h2, h3⟩ := h1
  obtain ⟨fs, fd, h4, h5, rfl, rfl, rfl⟩ := fieldOf_some hf
  obtain ⟨d, hd, hrow⟩ := isAg_true hag
  obtain ⟨i, hi⟩ := info_of_und hd
  refine Good.quiet (cv := .agg (c.extract fd.offset (fd.offset + P.cellsOf fd.type))) hr ?_ ?_
  · simp [execOp, ho, h1, Go.Instr.field, Go.run_underlying h4, h5, Go.asAgg, run_part_agg hd hrow hi]
  · simp only [VR]
    refine ⟨_, rfl, ?_, ?_⟩
    · rw [extract_take]; exact (h2.drop _).take _
    · rw [extract_take]; exact fun y hy => h3 y (List.mem_of_mem_drop (List.mem_of_mem_take hy))
theorem g_field_one {t : TypeId} {x : Operand} {f off n : Nat} {ft : TypeId} {l : List V} {v : V} {d : TypeDesc} (ho : o.op = .field t x f) (hf : fieldOf P t f = some (off, n, ft)) (hx : evA P e x = .agg l) (hd : P.underlying ft = some d) (hag : isAg P ft = false)
    (hv : l[off]? = some v) (hr : HR P ι h w) (he : ER P ι e nt a) : Good P o h ι w a v h := by
  have h1 := he.eval x; rw [hx] at h1; simp only [VR] at h1
  obtain ⟨c, h1, h2, h3⟩ := h1
  obtain ⟨fs, fd, h4, h5, rfl, rfl, rfl⟩ := fieldOf_some hf
  obtain ⟨cv, h6, h7⟩ := h2.get _ v hv
  refine Good.quiet (cv := cv) hr ?_ h7
  simp [execOp, ho, h1, Go.Instr.field, Go.run_underlying h4, h5, Go.asAgg, run_part_one hd (isAg_false hag hd) c fd.offset (by simpa using h6)]
theorem VR.i {v : Value} {n : Int} : VR ι (.i n) v ↔ v = .int .i64 n := by simp only [VR]
theorem VR.isZ {ι : Inj} {v : V} {c : Value} {n : Int} (h : VR ι v c) (hz : isZ v n) : ∃ k, c = .int k n := by
  cases v <;> simp only [GoEv.isZ] at hz <;> simp only [VR] at h <;> subst hz <;> exact ⟨_, h⟩
theorem g_indexAddr_slice {t el : TypeId} {x y : Operand} {b o' l c s : Nat} {ck : Bool} {k : Nat} (ho : o.op = .indexAddr t x y) (hd : P.underlying t = some (.slice el)) (hi : ∃ i, P.info? el = some i) (hx : evA P e x = .sl b o' l c s ck) (hy : isZ (evA P e y) k) (hk : k < l)
    (hr : HR P ι h w) (he : ER P ι e nt a) : Good P o h ι w a (.ptr b (o' + k * P.cellsOf el)) h := by
  have h1 := he.eval x; rw [hx] at h1; simp only [VR] at h1
  obtain ⟨kd, h2⟩ := (he.eval y).isZ hy
  obtain ⟨L, c', off, hL, h1, h3, h4, h5, h6, h7⟩ := h1
  obtain ⟨i, hi⟩ := hi
  have h3' : off = L.base + o' := by rcases h3 with h3 | h3; exact h3; omega
  subst h3'
  refine Good.quiet (cv := .pointer (some ⟨L.cb, L.base + (o' + k * P.cellsOf el), none⟩)) hr ?_ (by simp only [VR]; exact ⟨L, hL, rfl⟩)
  simp [execOp, ho, h1, h2, Go.Instr.indexAt, Go.asIntOf, Go.run_underlying hd, hk, run_size hi, Go.Addr.add, Nat.add_assoc]
theorem g_indexAddr_array {t el : TypeId} {n : Nat} {x y : Operand} {b o' : Nat} {k : Nat} (ho : o.op = .indexAddr t x y) (hd : P.underlying t = some (.array n el)) (hi : ∃ i, P.info? el = some i) (hx : evA P e x = .ptr b o') (hy : isZ (evA P e y) k) (hk : k < n)
    (hr : HR P ι h w) (he : ER P ι e nt a) : Good P o h ι w a (.ptr b (o' + k * P.cellsOf el)) h := by
  have h1 := he.eval x; rw [hx] at h1; simp only [VR] at h1
  obtain ⟨kd, h2⟩ := (he.eval y).isZ hy
  obtain ⟨L, hL, h1⟩ := h1
  obtain ⟨i, hi⟩ := hi
  refine Good.quiet (cv := .pointer (some ⟨L.cb, L.base + (o' + k * P.cellsOf el), none⟩)) hr ?_ (by simp only [VR]; exact ⟨L, hL, rfl⟩)
  simp [execOp, ho, h1, h2, Go.Instr.indexAt, Go.asIntOf, Go.run_underlying hd, hk, run_size hi, Go.Addr.add, Nat.add_assoc, Go.Instr.sureAddr]
theorem g_index_string {t : TypeId} {x y : Operand} {l n : Nat} {k : Nat} (ho : o.op = .index t x y) (hd : P.underlying t = some .string) (hx : evA P e x = .str l n) (hy : isZ (evA P e y) k) (hk : k < l)
    (hr : HR P ι h w) (he : ER P ι e nt a) : Good P o h ι w a (.u8 ((n >>> (8 * k)) % 256 : Nat)) h := by
  have h1 := he.eval x; rw [hx] at h1; simp only [VR] at h1
  obtain ⟨kd, h2⟩ := (he.eval y).isZ hy
  obtain ⟨s, h1, hs⟩ := h1
  obtain ⟨h3, h4⟩ := hs.get hk
  refine Good.quiet (cv := .int .u8 (((n >>> (8 * k)) % 256 : Nat) : Int)) hr ?_ (by simp only [VR])
  have hnn : (0 : Int) ≤ (k : Int) := Int.natCast_nonneg _
  simp only [execOp, ho, h1, h2, Go.Instr.index, Go.asIntOf]
  simp [Go.run_underlying hd, h3, h4]
theorem g_len_str {c : Go.Call} {t : TypeId} {x : Operand} {l n : Nat} (ho : o.op = .call c) (hc : c.callee = .builtin .len) (ht : c.argTypes[0]? = some t) (hx : c.args[0]? = some x) (hd : P.underlying t = some .string) (hv : evA P e x = .str l n)
    (hr : HR P ι h w) (he : ER P ι e nt a) : Good P o h ι w a (.i (l : Nat)) h := by
  have h1 := he.eval x; rw [hv] at h1; simp only [VR] at h1
  obtain ⟨s, h1, hs⟩ := h1
  refine Good.quiet (cv := .int .i64 (l : Nat)) hr ?_ (by simp only [VR])
  have hsz : s.size = l := hs.size
  simp [execOp, ho, Go.resolve, hc, Go.invoke, Go.builtin, Go.Builtin.len_, ht, hx, h1, Go.run_underlying hd, Go.goInt, hsz]
theorem g_len_slice {c : Go.Call} {t el : TypeId} {x : Operand} {l : Nat} (ho : o.op = .call c) (hc : c.callee = .builtin .len) (ht : c.argTypes[0]? = some t) (hx : c.args[0]? = some x) (hd : P.underlying t = some (.slice el)) (hv : (∃ b o' c s k, evA P e x = .sl b o' l c s k) ∨ (evA P e x = .nils ∧ l = 0))
    (hr : HR P ι h w) (he : ER P ι e nt a) : Good P o h ι w a (.i (l : Nat)) h := by
  have h1 := he.eval x
  have : ∃ p c', a.eval x = .slice p l c' := by
    rcases hv with ⟨b, o', c, s, k, hv⟩ | ⟨hv, rfl⟩ <;> rw [hv] at h1 <;> simp only [VR] at h1
    · obtain ⟨L, c', off, _, h1, _⟩ := h1; exact ⟨_, _, h1⟩
    · exact ⟨_, _, h1⟩
  obtain ⟨p, c', h1⟩ := this
  refine Good.quiet (cv := .int .i64 (l : Nat)) hr ?_ (by simp only [VR])
  simp [execOp, ho, Go.resolve, hc, Go.invoke, Go.builtin, Go.Builtin.len_, ht, hx, h1, Go.run_underlying hd, Go.goInt]
end
end GoEv
namespace GoEv
open Go (IntKind Value World Addr MapEntry Program Oper Op Operand Act Exit undef execOp Sem Result TypeId TypeDesc BinOp UnOp)

section
variable {P : Program} {o : Oper} {h : H} {ι : Inj} {w : World} {a : Act} {e : Env} {nt : Nat}

def i64O (x : Option Int) : Option Value := x.map (Value.int .i64)
theorem lo_bound {isS : Bool} {l c : Nat} {lo : Option Int} {e : Nat} {code : Go.BoundsCode} {K : Nat → A} {r : V × H} (hh : (Option.casesOn lo (K 0) (fun lo => Int.casesOn lo (fun a => Bool.casesOn (Nat.ble a e) none (K a)) (fun _ => none)) : A) = some r) :
    ∃ a : Nat, a ≤ e ∧ K a = some r ∧ (lo = none ∧ a = 0 ∨ lo = some (a : Int)) := by
  cases lo with
  | none => exact ⟨0, Nat.zero_le _, hh, .inl ⟨rfl, rfl⟩⟩
  | some lo =>
    obtain ⟨a, rfl, h1, h2⟩ := natB.1 hh
    exact ⟨a, h1, h2, .inr rfl⟩
theorem sb_ok (n c : Nat) (code : Go.BoundsCode) (h : n ≤ c) : (Go.Instr.sliceBound (.int .i64 (n : Int)) c code).run P w = .ok n w := by
  have := Go.run_sliceBound (P := P) w .i64 (n : Int) c code (Int.natCast_nonneg _) (by omega)
  simpa using this
theorem bnd_sound {isS : Bool} {l c c' : Nat} {lo hi mx : Option Int} {K : Nat → Nat → Nat → A} {r : V × H} (hlc : l ≤ c) (hcc : c ≤ c') (hh : bnd l c lo hi mx K = some r) :
    ∃ a e m : Nat, K a e m = some r ∧ a ≤ e ∧ e ≤ m ∧ m ≤ c ∧ (mx = none → m = c) ∧
      (Go.Instr.sliceBounds isS l c' (i64O lo) (i64O hi) (i64O mx)).run P w = .ok (a, e, if mx.isSome then m else c') w := by
  cases mx with
  | none =>
    cases hi with
    | none =>
      obtain ⟨a, h1, h2, h3⟩ := lo_bound (isS := isS) (l := l) (c := c) (code := .sliceB) (K := fun a => K a l c) hh
      refine ⟨a, l, c, h2, h1, hlc, Nat.le_refl _, fun _ => rfl, ?_⟩
      rcases h3 with ⟨rfl, rfl⟩ | rfl
      · simp [Go.Instr.sliceBounds, i64O]
      · simp [Go.Instr.sliceBounds, i64O, sb_ok a l _ h1]
    | some hi =>
      obtain ⟨e, rfl, h1, h2⟩ := natB.1 hh
      obtain ⟨a, h3, h4, h5⟩ := lo_bound (isS := isS) (l := l) (c := c) (code := .sliceB) (K := fun a => K a e c) h2
      refine ⟨a, e, c, h4, h3, h1, Nat.le_refl _, fun _ => rfl, ?_⟩
      have h6 : ∀ code, (Go.Instr.sliceBound (.int .i64 (e : Int)) c' code).run P w = .ok e w := fun code => sb_ok e c' code (by omega)
      rcases h5 with ⟨rfl, rfl⟩ | rfl
      · simp [Go.Instr.sliceBounds, i64O, h6]
      · simp [Go.Instr.sliceBounds, i64O, sb_ok a e _ h3, h6]
  | some mx =>
    obtain ⟨m, rfl, h1, h2⟩ := natB.1 hh
    cases hi with
    | none => cases h2
    | some hi =>
      obtain ⟨e, rfl, h3, h4⟩ := natB.1 h2
      obtain ⟨a, h5, h6, h7⟩ := lo_bound (isS := isS) (l := l) (c := c) (code := .sliceB) (K := fun a => K a e m) h4
      refine ⟨a, e, m, h6, h5, h3, h1, (fun h => nomatch h), ?_⟩
      have h8 : ∀ code, (Go.Instr.sliceBound (.int .i64 (m : Int)) c' code).run P w = .ok m w := fun code => sb_ok m c' code (by omega)
      have h9 : ∀ code, (Go.Instr.sliceBound (.int .i64 (e : Int)) m code).run P w = .ok e w := fun code => sb_ok e m code h3
      rcases h7 with ⟨rfl, rfl⟩ | rfl
      · simp [Go.Instr.sliceBounds, i64O, h8, h9]
      · simp [Go.Instr.sliceBounds, i64O, sb_ok a e _ h5, h8, h9]
theorem bndO_some {x : Option Operand} {K : Option Int → A} {r : V × H} (hh : bndO P e x K = some r) : ∃ z, K z = some r ∧ ∀ (ι : Inj) (a : Act), ER P ι e nt a → x.map a.eval = i64O z := by
  cases x with
  | none => exact ⟨none, hh, fun _ _ _ => rfl⟩
  | some x =>
    have h1 : (toI (evA P e x) fun n => K (some n)) = some r := hh
    rw [toI_some] at h1
    obtain ⟨n, h2, h3⟩ := h1
    refine ⟨some n, h3, fun ι a he => ?_⟩
    have h4 := he.eval x
    rw [h2, VR.i] at h4
    simp [i64O, h4]
theorem g_slice_str {t : TypeId} {x : Operand} {lo hi : Option Operand} {l n : Nat} {zl zh : Option Int} {K : Nat → Nat → A} {r : V × H} (ho : o.op = .slice t x lo hi none) (hd : P.underlying t = some .string) (hx : evA P e x = .str l n)
    (hl' : ∀ (ι : Inj) (a : Act), ER P ι e nt a → lo.map a.eval = i64O zl) (hh' : ∀ (ι : Inj) (a : Act), ER P ι e nt a → hi.map a.eval = i64O zh) (hs : sSub l n (zl.getD (Int.ofNat 0)) (zh.getD (Int.ofNat l)) K = some r) :
    ∃ l' n', K l' n' = some r ∧ GQ P o e nt (.str l' n') := by
  rw [sSub_some] at hs
  obtain ⟨p, q, h2, h3, h4, h5, h6⟩ := hs
  refine ⟨_, _, h6, fun h ι w a hr he => ?_⟩
  have hl := hl' ι a he
  have hh := hh' ι a he
  have h1 := he.eval x; rw [hx] at h1; simp only [VR] at h1
  obtain ⟨s, h1, hsr⟩ := h1
  refine Good.quiet (cv := .string (s.extract p q)) hr ?_ (by simp only [VR]; exact ⟨_, rfl, hsr.sub h4 h5⟩)
  have hsz : s.size = l := hsr.size
  have hb : (Go.Instr.sliceBounds false s.size s.size (i64O zl) (i64O zh) none).run P w = .ok (p, q, s.size) w := by
    rw [hsz]
    cases zl with
    | none =>
      have hp : (0 : Int) = p := h2
      have hp' : p = 0 := by omega
      subst hp'
      cases zh with
      | none =>
        have hq : (l : Int) = q := h3
        have hq' : q = l := by omega
        subst hq'
        simp [Go.Instr.sliceBounds, i64O]
      | some zh =>
        have hq : zh = q := h3
        subst hq
        simp [Go.Instr.sliceBounds, i64O, sb_ok q l _ h5]
    | some zl =>
      have hp : zl = p := h2
      subst hp
      cases zh with
      | none =>
        have hq : (l : Int) = q := h3
        have hq' : q = l := by omega
        subst hq'
        simp [Go.Instr.sliceBounds, i64O, sb_ok p _ _ h4]
      | some zh =>
        have hq : zh = q := h3
        subst hq
        simp [Go.Instr.sliceBounds, i64O, sb_ok q l _ h5, sb_ok p q _ h4]
  simp [execOp, ho, h1, hl, hh, Go.Instr.sliceAt, Go.Instr.slice, Go.run_underlying hd, hb]
theorem bnd_all {l c : Nat} {lo hi mx : Option Int} {K : Nat → Nat → Nat → A} {r : V × H} (hh : bnd l c lo hi mx K = some r) :
    ∃ a e m : Nat, K a e m = some r ∧ ∀ K', bnd l c lo hi mx K' = K' a e m := by
  have low : ∀ (e : Nat) (F : Nat → A), (Option.casesOn lo (F 0) (fun lo => Int.casesOn lo (fun a => Bool.casesOn (Nat.ble a e) none (F a)) (fun _ => none)) : A) = some r →
      ∃ a, F a = some r ∧ ∀ G : Nat → A, (Option.casesOn lo (G 0) (fun lo => Int.casesOn lo (fun a => Bool.casesOn (Nat.ble a e) none (G a)) (fun _ => none)) : A) = G a := by
    intro e F hF
    cases lo with
    | none => exact ⟨0, hF, fun _ => rfl⟩
    | some lo =>
      obtain ⟨a, rfl, h1, h2⟩ := natB.1 hF
      refine ⟨a, h2, fun G => ?_⟩
      show (Bool.casesOn (Nat.ble a e) none (G a) : A) = G a
      rw [ble_eq, decide_eq_true h1]
  cases mx with
  | none =>
    cases hi with
    | none => obtain ⟨a, h1, h2⟩ := low l (fun a => K a l c) hh; exact ⟨a, l, c, h1, fun K' => h2 fun a => K' a l c⟩
    | some hi =>
      obtain ⟨e, rfl, h1, h2⟩ := natB.1 hh
      obtain ⟨a, h3, h4⟩ := low e (fun a => K a e c) h2
      refine ⟨a, e, c, h3, fun K' => ?_⟩
      show (Bool.casesOn (Nat.ble e c) none _ : A) = _
      rw [ble_eq, decide_eq_true h1]
      exact h4 fun a => K' a e c
  | some mx =>
    obtain ⟨m, rfl, h1, h2⟩ := natB.1 hh
    cases hi with
    | none => cases h2
    | some hi =>
      obtain ⟨e, rfl, h3, h4⟩ := natB.1 h2
      obtain ⟨a, h5, h6⟩ := low e (fun a => K a e m) h4
      refine ⟨a, e, m, h5, fun K' => ?_⟩
      show (Bool.casesOn (Nat.ble m c) none (Bool.casesOn (Nat.ble e m) none _) : A) = _
      rw [ble_eq, ble_eq, decide_eq_true h1, decide_eq_true h3]
      exact h6 fun a => K' a e m
theorem g_slice {t el : TypeId} {x : Operand} {lo hi mx : Option Operand} {zl zh zm : Option Int} {K : V → A} {r : V × H} (ho : o.op = .slice t x lo hi mx) (hd : P.underlying t = some (.slice el)) (hel : ∃ i, P.info? el = some i)
    (hl' : ∀ (ι : Inj) (a : Act), ER P ι e nt a → lo.map a.eval = i64O zl) (hh' : ∀ (ι : Inj) (a : Act), ER P ι e nt a → hi.map a.eval = i64O zh) (hm' : ∀ (ι : Inj) (a : Act), ER P ι e nt a → mx.map a.eval = i64O zm) (hs : slc (evA P e x) (P.cellsOf el) zl zh zm K = some r) :
    ∃ v, K v = some r ∧ GQ P o e nt v := by
  obtain ⟨i, hi⟩ := hel
  rw [slc_some] at hs
  rcases hs with ⟨b, o', l, c, k, hv, hs⟩ | ⟨hv, hs⟩
  · obtain ⟨p, q, m, h7, hall⟩ := bnd_all hs
    refine ⟨_, h7, fun h ι w a hr he => ?_⟩
    have hl := hl' ι a he
    have hh := hh' ι a he
    have hm := hm' ι a he
    have h1 := he.eval x
    rw [hv] at h1; simp only [VR] at h1
    obtain ⟨L, c', off, hL, h1, h2, h3, h4, h5, h6⟩ := h1
    have hcap := hall fun a e m => some (V.tup [.i a, .i e, .i m], h)
    obtain ⟨p', q', m0, h7', h8, h9, h10, h11, h12⟩ := bnd_sound (isS := true) (P := P) (w := w) h4 h5 hcap
    simp only [Option.some.injEq, Prod.mk.injEq, V.tup.injEq, List.cons.injEq, V.i.injEq, and_true] at h7'
    obtain ⟨e1, e2, e3⟩ := h7'
    have e1' : p' = p := by omega
    have e2' : q' = q := by omega
    have e3' : m0 = m := by omega
    subst e1' e2' e3'
    have hm' : ∃ m', (if zm.isSome then m0 else c') = m' ∧ m0 ≤ m' ∧ m' ≤ c' ∧ (ok3 zm k = true → m' = m0) := by
      cases zm with
      | none =>
        have := h11 rfl
        subst this
        exact ⟨c', rfl, h5, Nat.le_refl _, h6⟩
      | some z => exact ⟨m0, rfl, Nat.le_refl _, by omega, fun _ => rfl⟩
    obtain ⟨m', hme, hm1, hm2, hm3⟩ := hm'
    rw [hme] at h12
    refine Good.quiet (cv := .slice (some (if m' = p' then ⟨L.cb, off, none⟩ else Go.Addr.add ⟨L.cb, off, none⟩ (p' * P.cellsOf el))) (q' - p') (m' - p')) hr ?_ ?_
    · simp [execOp, ho, h1, hl, hh, hm, Go.Instr.sliceAt, Go.Instr.slice, Go.run_underlying hd, h12, run_size hi]
      by_cases hmp : m' = p' <;> simp [hmp]
    · simp only [VR]
      have hroom : o' + p' * P.cellsOf el + (m' - p') * P.cellsOf el ≤ L.room := by
        have : p' * P.cellsOf el + (m' - p') * P.cellsOf el = m' * P.cellsOf el := by rw [← Nat.add_mul]; congr 1; omega
        have : m' * P.cellsOf el ≤ c' * P.cellsOf el := Nat.mul_le_mul_right _ hm2
        omega
      by_cases hmp : m' = p'
      · rw [if_pos hmp]
        exact ⟨L, m' - p', off, hL, rfl, .inr (by omega), hroom, by omega, by omega, fun hk => by rw [hm3 hk]⟩
      · rw [if_neg hmp]
        have hoff : off = L.base + o' := by rcases h2 with h2 | h2; exact h2; omega
        refine ⟨L, m' - p', off + p' * P.cellsOf el, hL, by simp [Go.Addr.add], .inl (by omega), hroom, by omega, by omega, fun hk => by rw [hm3 hk]⟩
  · have h7 : ∃ p q m : Nat, K .nils = some r ∧ ∀ K', bnd 0 0 zl zh zm K' = K' p q m := by
      obtain ⟨p, q, m, h7, h8⟩ := bnd_all hs; exact ⟨p, q, m, h7, h8⟩
    obtain ⟨p, q, m, h7, hall⟩ := h7
    refine ⟨_, h7, fun h ι w a hr he => ?_⟩
    have hl := hl' ι a he
    have hh := hh' ι a he
    have hm := hm' ι a he
    have h1 := he.eval x
    rw [hv] at h1; simp only [VR] at h1
    obtain ⟨p, q, m, h7, h8, h9, h10, h11, h12⟩ := bnd_sound (isS := true) (P := P) (w := w) (c' := 0) (Nat.le_refl 0) (Nat.le_refl 0) hs
    have hm0 : m = 0 := by omega
    have hq0 : q = 0 := by omega
    have hp0 : p = 0 := by omega
    subst hm0 hq0 hp0
    refine Good.quiet (cv := .slice none 0 0) hr ?_ (by simp only [VR])
    simp [execOp, ho, h1, hl, hh, hm, Go.Instr.sliceAt, Go.Instr.slice, Go.run_underlying hd, h12, run_size hi]
end
end GoEv
namespace GoEv
open Go (IntKind Value World Addr MapEntry Program Oper Op Operand Act Exit undef execOp Sem Result TypeId TypeDesc BinOp UnOp)
open Go.RowKit (Below)

section
variable {P : Program} {o : Oper} {h : H} {ι : Inj} {w : World} {a : Act} {e : Env} {nt : Nat}

theorem HR.kill (hr : HR P ι h w) {b : Nat} {L : Loc} {x : Blk} (hb : ι b = some L) (hg : h.get b = some x) : HR P ι (h.put b .dead) w ∧ Ext h ι w (h.put b .dead) ι w := by
  refine ⟨⟨?_, hr.lt, ?_, ?_, H.wf_put (hr.lt_n hb) hr.wf⟩, ⟨Sub.refl _, by rw [H.n_put]; exact Nat.le_refl _, ?_, rfl, rfl, rfl, Nat.le_refl _, fun _ _ _ => rfl, fun c _ hn => by rw [H.get_put, if_neg (fun e => by rw [e, hb] at hn; cases hn)], fun c L h1 h2 => by rw [h1] at h2; cases h2⟩⟩
  · intro c hc; rw [H.n_put] at hc; exact hr.dom c hc
  · intro c L y hc hy
    rw [H.get_put] at hy
    by_cases e : c = b
    · rw [if_pos e] at hy; cases hy; trivial
    · rw [if_neg e] at hy; exact hr.blk c L y hc hy
  · intro c c' L1 L2 y y' hne hc hc' hy hy' ho hl
    rw [H.get_put] at hy hy'
    by_cases e : c = b
    · rw [if_pos e] at hy; cases hy; cases ho
    · by_cases e' : c' = b
      · rw [if_pos e'] at hy'; cases hy'; cases hl
      · rw [if_neg e] at hy; rw [if_neg e'] at hy'
        exact hr.apart c c' L1 L2 y y' hne hc hc' hy hy' ho hl
  · intro c y hc hy ho
    rw [H.get_put] at hy
    by_cases e : c = b
    · rw [if_pos e] at hy; cases hy; cases ho
    · rw [if_neg e] at hy; exact ⟨y, hy, ho⟩
/-- A row is taken over by a new block. -/
theorem HR.move (hr : HR P ι h w) {b ty : Nat} {L : Loc} {cs : List V} (hb : ι b = some L) (hg : h.get b = some (.cells false ty cs)) (w' : World) (hw : ∀ c, c ≠ L.cb → w'.heap[c]? = w.heap[c]?) (hs : w'.heap.size = w.heap.size)
    (ho : w'.os = w.os ∧ w'.tape = w.tape ∧ w'.output = w.output) (x : Blk) (L' : Loc) (hL : L'.cb = L.cb) (hx : ∀ ι', Sub ι ι' → BR P ι' x L' w') :
    ∃ ι', ι' h.n = some L' ∧ HR P ι' ((h.put b .dead).push x) w' ∧ Ext h ι w ((h.put b .dead).push x) ι' w' := by
  have hown : own (Blk.cells false ty cs) = true := rfl
  let ι' : Inj := fun c => if c = h.n then some L' else ι c
  have hnew : ι' h.n = some L' := by simp [ι']
  have hold : ∀ c, c ≠ h.n → ι' c = ι c := fun c hc => by simp [ι', hc]
  have hnone : ι h.n = none := hr.dom _ (Nat.le_refl _)
  have hsub : Sub ι ι' := fun c L1 hc => by
    have : c ≠ h.n := fun e => by rw [e, hnone] at hc; cases hc
    rw [hold c this]; exact hc
  have hbn : b ≠ h.n := fun e => by rw [e, hnone] at hb; cases hb
  have hget : ∀ c y, ((h.put b .dead).push x).get c = some y → (c = h.n ∧ y = x) ∨ (c = b ∧ y = .dead) ∨ (c ≠ h.n ∧ c ≠ b ∧ h.get c = some y) := by
    intro c y hy
    rw [H.get_push, H.n_put] at hy
    by_cases e : c = h.n
    · rw [if_pos e] at hy; cases hy; exact .inl ⟨e, rfl⟩
    · rw [if_neg e, H.get_put] at hy
      by_cases e' : c = b
      · rw [if_pos e'] at hy; cases hy; exact .inr (.inl ⟨e', rfl⟩)
      · rw [if_neg e'] at hy; exact .inr (.inr ⟨e, e', hy⟩)
  have hapart : ∀ c L1 y, c ≠ b → ι c = some L1 → h.get c = some y → live y = true → L.cb ≠ L1.cb := fun c L1 y hne hc hy hl => hr.apart b c L L1 _ y (Ne.symm hne) hb hc hg hy hown hl
  refine ⟨ι', hnew, ⟨?_, ?_, ?_, ?_, H.wf_push (H.wf_put (hr.lt_n hb) hr.wf)⟩, ⟨hsub, ?_, ?_, ho.1, ho.2.1, ho.2.2, by omega, ?_, fun c hc hn => by rw [H.get_push, H.n_put, if_neg (by omega), H.get_put, if_neg (fun e => by rw [e, hb] at hn; cases hn)], ?_⟩⟩
  · intro c hc
    rw [H.n_push, H.n_put] at hc
    rw [hold c (by omega)]; exact hr.dom c (by omega)
  · intro c L1 hc
    rw [hs]
    by_cases e : c = h.n
    · subst e; rw [hnew] at hc; cases hc; rw [hL]; exact hr.lt b L hb
    · rw [hold c e] at hc; exact hr.lt c L1 hc
  · intro c L1 y hc hy
    rcases hget c y hy with ⟨rfl, rfl⟩ | ⟨rfl, rfl⟩ | ⟨h1, h2, h3⟩
    · rw [hnew] at hc; cases hc; exact hx ι' hsub
    · trivial
    · rw [hold c h1] at hc
      have hbr := hr.blk c L1 y hc h3
      cases hl : live y with
      | false => cases y <;> first | trivial | cases hl
      | true => exact hbr.same hsub (hw _ (Ne.symm (hapart c L1 y h2 hc h3 hl)))
  · intro c c' L1 L2 y y' hne hc hc' hy hy' hoy hl
    rcases hget c y hy with ⟨rfl, rfl⟩ | ⟨rfl, rfl⟩ | ⟨h1, h2, h3⟩
    · rw [hnew] at hc; cases hc
      rcases hget c' y' hy' with ⟨rfl, rfl⟩ | ⟨rfl, rfl⟩ | ⟨h4, h5, h6⟩
      · exact absurd rfl hne
      · cases hl
      · rw [hold c' h4] at hc'
        rw [hL]; exact hapart c' L2 y' h5 hc' h6 hl
    · cases hoy
    · rw [hold c h1] at hc
      rcases hget c' y' hy' with ⟨rfl, rfl⟩ | ⟨rfl, rfl⟩ | ⟨h4, h5, h6⟩
      · rw [hnew] at hc'; cases hc'
        rw [hL]
        refine Ne.symm (hapart c L1 y h2 hc h3 ?_)
        cases y <;> first | rfl | cases hoy
      · cases hl
      · rw [hold c' h4] at hc'
        exact hr.apart c c' L1 L2 y y' hne hc hc' h3 h6 hoy hl
  · rw [H.n_push, H.n_put]; omega
  · intro c y hc hy hoy
    rcases hget c y hy with ⟨rfl, rfl⟩ | ⟨rfl, rfl⟩ | ⟨h1, h2, h3⟩
    · omega
    · cases hoy
    · exact ⟨y, h3, hoy⟩
  · intro c hc hno
    refine hw c fun e => hno b L _ hb hg hown e.symm
  · intro c L1 h1 h2
    by_cases e : c = h.n
    · subst e; rw [hnew] at h1; cases h1
      exact ⟨Nat.le_refl _, .inr ⟨b, L, _, hb, hg, hown, hL.symm⟩⟩
    · rw [hold c e, h2] at h1; cases h1

theorem bytes_sound (ι : Inj) : ∀ (l : List UInt8), VRs ι (bytes l.length (bn l)) (l.map fun b => Value.int .u8 (b.toNat : Int))
  | [] => VRs.nil
  | b :: r => by
    have h1 : (b.toNat + 256 * bn r) % 256 = b.toNat := by have := b.toNat_lt; omega
    have h2 : (b.toNat + 256 * bn r) / 256 = bn r := by have := b.toNat_lt; omega
    show VRs ι (V.u8 (Int.ofNat ((b.toNat + 256 * bn r) % 256)) :: bytes r.length ((b.toNat + 256 * bn r) / 256)) _
    rw [h1, h2]
    exact VRs.cons (by simp only [VR]; rfl) (bytes_sound ι r)
theorem bytes_length : ∀ (l n : Nat), (bytes l n).length = l
  | 0, _ => rfl
  | l + 1, n => by show (bytes l _).length + 1 = _; rw [bytes_length l]
/-- What is appended or copied. -/
theorem src_sound {x : V} {s : Nat} {K : Nat → List V → A} {r : V × H} (hh : src h x s K = some r) :
    ∃ (n : Nat) (new : List V), K n new = some r ∧ new.length = n * s ∧ ∀ (ι : Inj) (w : World) (vx : Value), HR P ι h w → VR ι x vx → ∃ cs : List Value, VRs ι new cs ∧ (∀ y ∈ cs, y.oneCell' = true) ∧ (Go.Builtin.lenOf vx = pure n) ∧
      ∀ w' : World, w'.heap = w.heap → (Go.Builtin.firstCells s n vx).run P w' = .ok cs.toArray w' := by
  rcases src_some hh with ⟨l, n, rfl, rfl, hK⟩ | ⟨rfl, hK⟩ | ⟨b, o', l, c, s', k, rfl, ro, ty, cs, hg, hn, hK⟩
  · refine ⟨l, _, hK, by rw [bytes_length]; omega, fun ι w vx hr hx => ?_⟩
    simp only [VR] at hx
    obtain ⟨st, rfl, hs⟩ := hx
    have hb := bytes_sound ι st.data.toList
    rw [hs.1, hs.2] at hb
    have hsz : st.size = l := hs.size
    refine ⟨_, hb, ?_, ?_, ?_⟩
    · intro y hy
      obtain ⟨z, _, rfl⟩ := List.mem_map.1 hy
      rfl
    · simp [Go.Builtin.lenOf, hsz]
    · intro w' _
      simp [Go.Builtin.firstCells]
      have hd : st.data.size = l := hsz
      apply Array.ext'
      simp [Array.toList_extract, List.extract_eq_take_drop, ← hd]
      exact List.take_of_length_le (by simp)
  · refine ⟨0, [], hK, by simp, fun ι w vx hr hx => ?_⟩
    simp only [VR] at hx
    subst hx
    refine ⟨[], VRs.nil, by simp, rfl, ?_⟩
    intro w' _
    simp [Go.Builtin.firstCells]
  · refine ⟨l, _, hK, hn, fun ι w vx hr hx => ?_⟩
    simp only [VR] at hx
    obtain ⟨L, c', off, hL, rfl, h2, h3, h4, h5, h6⟩ := hx
    obtain ⟨ls, h7, h8, h9, h10⟩ := hr.loads hL hg hn
    refine ⟨ls, h9, h10, rfl, ?_⟩
    intro w' hw
    have hc : ∀ a, w'.cell? a = w.cell? a := fun a => Go.World.cell?_of_block (by rw [hw])
    refine Go.run_firstCells_some w' s l ⟨L.cb, off, none⟩ l c' ls h7 fun j v hj => ?_
    rw [hc]
    rcases h2 with h2 | h2
    · subst h2; rw [Go.Addr.add_lit]; exact h8 j v hj
    · have : l = 0 := by omega
      subst this
      have : ls = [] := List.eq_nil_of_length_eq_zero (by simpa using h7)
      subst this; simp at hj

theorem VRs.take_ones {cs : List Value} (h : ∀ y ∈ cs, y.oneCell' = true) (cs' : List Value) (h' : ∀ y ∈ cs', y.oneCell' = true) : ∀ y ∈ cs ++ cs', y.oneCell' = true := by
  intro y hy
  rcases List.mem_append.1 hy with h1 | h1
  · exact h y h1
  · exact h' y h1
theorem zeros_one {i : Go.TypeInfo} {z : Value} (hz : ∀ x ∈ z.cells.toList, x.oneCell' = true) (n : Nat) : ∀ y ∈ (Go.Builtin.zeroCells z.cells n).toList, y.oneCell' = true := by
  intro y hy
  simp only [Go.Builtin.zeroCells, Array.toList_map, List.mem_map] at hy
  obtain ⟨j, hj, rfl⟩ := hy
  have hj' : j < n * z.cells.size := by simpa using hj
  have hpos : 0 < z.cells.size := by
    rcases Nat.eq_zero_or_pos z.cells.size with h0 | h0
    · rw [h0] at hj'; omega
    · exact h0
  have hlt : j % z.cells.size < z.cells.size := Nat.mod_lt _ hpos
  rw [getElem!_pos z.cells _ hlt]
  exact hz _ (by simp)
/-- append, where it fits -/
theorem run_append_in {t xt el : TypeId} {ty : TypeId} {d : TypeDesc} {i : Go.TypeInfo} {args : Array Value} {ats : Array TypeId} {base : Option Addr} {sLen sCap n : Nat} {vx : Value} {cs : List Value} {w' : World}
    (h1 : ats[0]? = some t) (h2 : ats[1]? = some xt) (h3 : args[0]? = some (.slice base sLen sCap)) (h4 : args[1]? = some vx) (ht : P.underlying t = some (.slice el)) (hx : P.underlying xt = some d) (hd : d = .string ∨ ∃ q, d = .slice q) (hi : P.info? el = some i)
    (hl : Go.Builtin.lenOf vx = pure n) (hf : (Go.Builtin.firstCells i.size n vx).run P w = .ok cs.toArray w) (hfit : sLen + n ≤ sCap)
    (hst : match base with | none => w' = w | some b => (Go.storeCells (b.add (sLen * i.size)) cs).run P w = .ok () w') :
    (Go.Builtin.append_ ats ty args).run P w = .ok (.slice base (sLen + n) sCap) w' := by
  cases base with
  | none =>
    subst hst
    rcases hd with rfl | ⟨q, rfl⟩ <;> simp [Go.Builtin.append_, h1, h2, h3, h4, Go.run_underlying ht, Go.run_underlying hx, Go.sizeOf, Go.typeInfo, hi, hl, hf, hfit]
  | some b =>
    rcases hd with rfl | ⟨q, rfl⟩ <;> simp [Go.Builtin.append_, h1, h2, h3, h4, Go.run_underlying ht, Go.run_underlying hx, Go.sizeOf, Go.typeInfo, hi, hl, hf, hfit, hst]
theorem run_append_out {t xt el : TypeId} {ty : TypeId} {d : TypeDesc} {i : Go.TypeInfo} {z : Value} {args : Array Value} {ats : Array TypeId} {base : Option Addr} {sLen sCap n : Nat} {vx : Value} {cs olds : List Value}
    (h1 : ats[0]? = some t) (h2 : ats[1]? = some xt) (h3 : args[0]? = some (.slice base sLen sCap)) (h4 : args[1]? = some vx) (ht : P.underlying t = some (.slice el)) (hx : P.underlying xt = some d) (hd : d = .string ∨ ∃ q, d = .slice q) (hi : P.info? el = some i) (hz : i.zero = some z)
    (hl : Go.Builtin.lenOf vx = pure n) (hf : (Go.Builtin.firstCells i.size n vx).run P w.drew = .ok cs.toArray w.drew) (hfit : ¬ (sLen + n ≤ sCap))
    (hfo : (Go.Builtin.firstCells i.size sLen (.slice base sLen sCap)).run P w.drew = .ok olds.toArray w.drew)
    (h63 : ((sLen + n : Nat) : Int) ≤ 9223372036854775807) (hby : (sLen + n) * i.bytes ≤ 140737488355328) :
    (Go.Builtin.append_ ats ty args).run P w = .ok (.slice (some ⟨w.heap.size, 0, none⟩) (sLen + n) (Go.grownCap w (sLen + n) sCap el))
        (w.drew.alloc (.cells ((olds ++ cs) ++ (Go.Builtin.zeroCells z.cells (Go.grownCap w (sLen + n) sCap el - (sLen + n))).toList).toArray el)) := by
  have h63' : ¬ (9223372036854775807 < ((sLen : Int) + (n : Int))) := by omega
  have h48' : ¬ (281474976710656 < Go.Builtin.nextslicecap (sLen + n) sCap * i.bytes) := by
    have := Go.growslice_fits (old := sCap) (show sCap < sLen + n by omega) hby
    omega
  have happ : ((olds ++ cs) ++ (Go.Builtin.zeroCells z.cells (Go.grownCap w (sLen + n) sCap el - (sLen + n))).toList).toArray = olds.toArray ++ cs.toArray ++ Go.Builtin.zeroCells z.cells (Go.grownCap w (sLen + n) sCap el - (sLen + n)) := by
    apply Array.ext'; simp
  rw [happ]
  rcases hd with rfl | ⟨q, rfl⟩ <;> simp [Go.Builtin.append_, h1, h2, h3, h4, Go.run_underlying ht, Go.run_underlying hx, Go.sizeOf, Go.typeInfo, Go.zeroValue, hi, hz, hl, hf, hfo, hfit, h63', h48', Go.Question.forced, Go.newRow, Go.grownCap] <;> (congr 2; apply Array.ext'; simp [List.append_assoc])

theorem run_store_there {b o : Nat} {cs : List Value} (ht : w.there b o cs.length) (h1 : ∀ y ∈ cs, y.oneCell' = true) : (Go.storeCells ⟨b, o, none⟩ cs).run P w = .ok () (w.setCells b o cs) := by
  have := Go.run_storeCells_cells (P := P) b o cs 0 w (fun j hj => by simpa using (ht j hj).1) (fun j hj => by simpa using (ht j hj).2) h1
  simpa using this
theorem storeCells_nil (b : Addr) (w : World) : (Go.storeCells b []).run P w = .ok () w := by
  simp [Go.storeCells]
theorem bytes_le {a b : Nat} (h : a ≤ 4294967296) (hb : b ≤ 4096) : a * b ≤ 140737488355328 := by
  have : a * b ≤ 4294967296 * 4096 := Nat.mul_le_mul h hb
  omega
/-- the new row of an append that does not fit -/
theorem fresh_row {el : TypeId} {i : Go.TypeInfo} {z : Value} {need old : Nat} {l : List V} {cs : List Value} (hi : P.info? el = some i) (hz : i.zero = some z) (hzo : ∀ q ∈ z.cells.toList, q.oneCell' = true) (hzs : z.cells.size = i.size)
    (hl : VRs ι l cs) (h1 : ∀ y ∈ cs, y.oneCell' = true) (hlen : l.length = need * i.size) (hr : HR P ι h w) :
    ∃ ι', VR ι' (.sl h.n 0 need need i.size false) (.slice (some ⟨w.heap.size, 0, none⟩) need (Go.grownCap w need old el)) ∧
      HR P ι' (h.push (.cells false el l)) (w.drew.alloc (.cells (cs ++ (Go.Builtin.zeroCells z.cells (Go.grownCap w need old el - need)).toList).toArray el)) ∧
      Ext h ι w (h.push (.cells false el l)) ι' (w.drew.alloc (.cells (cs ++ (Go.Builtin.zeroCells z.cells (Go.grownCap w need old el - need)).toList).toArray el)) := by
  have hge := Go.grownCap_ge w need old el
  have hcl : cs.length = need * i.size := hl.length.trans hlen
  have htot : cs.length + (Go.Builtin.zeroCells z.cells (Go.grownCap w need old el - need)).toList.length = Go.grownCap w need old el * i.size := by
    have hz2 : (Go.Builtin.zeroCells z.cells (Go.grownCap w need old el - need)).toList.length = (Go.grownCap w need old el - need) * i.size := by
      rw [Array.length_toList, Go.size_zeroCells, hzs]
    rw [hz2, hcl, ← Nat.add_mul]; congr 1; omega
  obtain ⟨ι', h2, h3, h4⟩ := new_row hr.drew l cs el hl h1 (Go.grownCap w need old el * i.size) (by rw [hlen]; exact Nat.mul_le_mul_right _ hge) _ htot (zeros_one (i := i) hzo _)
  refine ⟨ι', ?_, h3, Ext.trans hr.dom (Ext.drew (Ext.refl h ι w)) h4⟩
  simp only [VR]
  exact ⟨_, _, 0, h2, rfl, .inl rfl, by simp, Nat.le_refl _, hge, fun h => nomatch h⟩
/-- append -/
theorem g_append {c : Go.Call} {t xt el : TypeId} {d : TypeDesc} {x y : Operand} {i : Go.TypeInfo} {z : Value} {K : V → H → A} {r : V × H} (ho : o.op = .call c) (hc : c.callee = .builtin .append)
    (h1 : c.argTypes[0]? = some t) (h2 : c.argTypes[1]? = some xt) (h3 : c.args[0]? = some x) (h4 : c.args[1]? = some y) (ht : P.underlying t = some (.slice el)) (hxt : P.underlying xt = some d) (hd : d = .string ∨ ∃ q, d = .slice q)
    (hi : P.info? el = some i) (hz : i.zero = some z) (hzo : ∀ q ∈ z.cells.toList, q.oneCell' = true) (hzs : z.cells.size = i.size) (hby : i.bytes ≤ 4096)
    (hh : apd h (evA P e x) (evA P e y) i.size el K = some r) : ∃ v h', K v h' = some r ∧ GW P o e nt h v h' := by
  have hsz : P.cellsOf el = i.size := by simp [Go.Program.cellsOf, hi]
  unfold apd at hh
  obtain ⟨n, new, hK, hnl, hsrc⟩ := src_sound (P := P) hh
  obtain ⟨hn32, hcase⟩ := apd2_some hK
  rcases hcase with ⟨rfl, hs, hK⟩ | ⟨hn, hs, hK⟩ | ⟨hn, b, o', l, cp, k, ro, ty, cl, hs, hg, hK⟩
  · refine ⟨_, _, hK, fun ι w a hr he => ?_⟩
    have hvx := he.eval x
    have hop : ∀ v w', (Go.Builtin.append_ c.argTypes o.type (c.args.map a.eval)).run P w = .ok v w' → (execOp a.eval o).run P w = .ok (.value v) w' := by
      intro v w' hv
      simp [execOp, ho, Go.resolve, hc, Go.invoke, Go.builtin, hv]
    have h3' : (c.args.map a.eval)[0]? = some (a.eval x) := by simp [h3]
    have h4' : (c.args.map a.eval)[1]? = some (a.eval y) := by simp [h4]
    obtain ⟨cs, hvs, h1c, hlen, hfc⟩ := hsrc ι w _ hr (he.eval y)
    have hcl : cs.length = 0 * i.size := hvs.length.trans hnl
    have hcs : cs = [] := List.eq_nil_of_length_eq_zero (by simpa using hcl)
    subst hcs
    have : ∃ base sLen sCap, a.eval x = .slice base sLen sCap ∧ sLen ≤ sCap := by
      rcases hs with hs | ⟨b, o', l, c', s', k, hs⟩ <;> rw [hs] at hvx <;> simp only [VR] at hvx
      · exact ⟨_, _, _, hvx, Nat.le_refl _⟩
      · obtain ⟨L, c'', off, _, h5, _, _, h6, h7, _⟩ := hvx
        exact ⟨_, _, _, h5, by omega⟩
    obtain ⟨base, sLen, sCap, h5, h6⟩ := this
    rw [h5] at h3'
    have := run_append_in (ty := o.type) (w' := w) h1 h2 h3' h4' ht hxt hd hi hlen (hfc w rfl) (by omega) (by cases base with | none => rfl | some b => exact storeCells_nil _ _)
    refine Good.quiet (cv := a.eval x) hr ?_ hvx
    rw [h5]
    exact hop _ _ this
  · refine ⟨_, _, hK, fun ι w a hr he => ?_⟩
    have hvx := he.eval x
    have hop : ∀ v w', (Go.Builtin.append_ c.argTypes o.type (c.args.map a.eval)).run P w = .ok v w' → (execOp a.eval o).run P w = .ok (.value v) w' := by
      intro v w' hv
      simp [execOp, ho, Go.resolve, hc, Go.invoke, Go.builtin, hv]
    have h3' : (c.args.map a.eval)[0]? = some (a.eval x) := by simp [h3]
    have h4' : (c.args.map a.eval)[1]? = some (a.eval y) := by simp [h4]
    obtain ⟨cs, hvs, h1c, hlen, hfc⟩ := hsrc ι w _ hr (he.eval y)
    have hcl : cs.length = n * i.size := hvs.length.trans hnl
    rw [hs] at hvx; simp only [VR] at hvx
    rw [hvx] at h3'
    obtain ⟨ι', h5, h6, h7⟩ := fresh_row (old := 0) hi hz hzo hzs hvs h1c hnl hr
    have := run_append_out (ty := o.type) (olds := []) h1 h2 h3' h4' ht hxt hd hi hz hlen (hfc w.drew rfl) (by omega) (by simp [Go.Builtin.firstCells]) (by omega) (bytes_le (by omega) hby)
    simp only [Nat.zero_add, List.nil_append] at this
    exact Good.value (hop _ _ this) h5 h6 h7
  · have main : ∀ v h', ((l + n ≤ cp ∧ ro = false ∧ o' + l * i.size + new.length ≤ cl.length ∧ v = .sl b o' (l + n) cp i.size k ∧ h' = h.put b (.cells false ty (cl.take (o' + l * i.size) ++ (new ++ cl.drop (o' + l * i.size + new.length))))) ∨
       (¬ (l + n ≤ cp) ∧ ((cl.drop o').take (l * i.size)).length = l * i.size ∧ l + n ≤ 4294967296 ∧
         ((k = true ∧ v = .sl h.n 0 (l + n) (l + n) i.size false ∧ h' = h.push (.cells false el ((cl.drop o').take (l * i.size) ++ new))) ∨
          (k = false ∧ ro = false ∧ ty = el ∧ o' % i.size = 0 ∧ v = .sl h.n 0 (l + n) (l + n) i.size false ∧ h' = (h.put b .dead).push (.cells false el ((cl.drop o').take (l * i.size) ++ new)))))) → GW P o e nt h v h' := ?main
    · rcases hK with ⟨q1, q2, q3, q4⟩ | ⟨q1, q2, q3, ⟨q4, q5⟩ | ⟨q4, q5, q6, q7, q8⟩⟩
      · exact ⟨_, _, q4, main _ _ (.inl ⟨q1, q2, q3, rfl, rfl⟩)⟩
      · exact ⟨_, _, q5, main _ _ (.inr ⟨q1, q2, q3, .inl ⟨q4, rfl, rfl⟩⟩)⟩
      · exact ⟨_, _, q8, main _ _ (.inr ⟨q1, q2, q3, .inr ⟨q4, q5, q6, q7, rfl, rfl⟩⟩)⟩
    intro v h' hK ι w a hr he
    have hvx := he.eval x
    have hop : ∀ v w', (Go.Builtin.append_ c.argTypes o.type (c.args.map a.eval)).run P w = .ok v w' → (execOp a.eval o).run P w = .ok (.value v) w' := by
      intro v w' hv
      simp [execOp, ho, Go.resolve, hc, Go.invoke, Go.builtin, hv]
    have h3' : (c.args.map a.eval)[0]? = some (a.eval x) := by simp [h3]
    have h4' : (c.args.map a.eval)[1]? = some (a.eval y) := by simp [h4]
    obtain ⟨cs, hvs, h1c, hlen, hfc⟩ := hsrc ι w _ hr (he.eval y)
    have hcl : cs.length = n * i.size := hvs.length.trans hnl
    rw [hs] at hvx
    have hvx' := hvx
    simp only [VR] at hvx
    obtain ⟨L, c', off, hL, h5, h6, h7, h8, h9, h10⟩ := hvx
    rw [h5] at h3'
    rcases hK with ⟨hfit, rfl, hle, rfl, rfl⟩ | ⟨hnfit, hold, hn2, hK⟩
    · have hoff : off = L.base + o' := by rcases h6 with h6 | h6; exact h6; omega
      subst hoff
      obtain ⟨g1, g2, g3⟩ := hr.store (o := o' + l * i.size) hL hg new cs hvs h1c hle
      have hst := run_store_there (P := P) g1 h1c
      have := run_append_in (ty := o.type) (w' := w.setCells L.cb (L.base + (o' + l * i.size)) cs) h1 h2 h3' h4' ht hxt hd hi hlen (hfc w rfl) (by omega) (by show (Go.storeCells (Go.Addr.add _ _) cs).run P w = _; rw [Go.Addr.add_lit, Nat.add_assoc]; exact hst)
      refine Good.value (hop _ _ this) ?_ g2 g3
      simp only [VR]
      exact ⟨L, c', _, hL, rfl, .inl rfl, h7, by omega, h9, h10⟩
    · obtain ⟨olds, g1, g2, g3, g4⟩ := hr.loads hL hg hold
      have hoff : off = L.base + o' ∨ l = 0 := by rcases h6 with h6 | h6; exact .inl h6; exact .inr (by omega)
      have hfo : (Go.Builtin.firstCells i.size l (.slice (some ⟨L.cb, off, none⟩) l c')).run P w.drew = .ok olds.toArray w.drew := by
        refine Go.run_firstCells_some w.drew i.size l ⟨L.cb, off, none⟩ l c' olds g1 fun j v hj => ?_
        rcases hoff with rfl | rfl
        · rw [Go.Addr.add_lit]; exact g2 j v hj
        · have : olds = [] := List.eq_nil_of_length_eq_zero (by simpa using g1)
          subst this; simp at hj
      have hnew : ((cl.drop o').take (l * i.size) ++ new).length = (l + n) * i.size := by rw [List.length_append, hold, hnl, Nat.add_mul]
      have hfresh : ∀ h1 : H, HR P ι h1 w → Ext h ι w h1 ι w → h1.n = h.n → ¬ (l + n ≤ c') →
          Good P o h ι w a (.sl h.n 0 (l + n) (l + n) i.size false) (h1.push (.cells false el ((cl.drop o').take (l * i.size) ++ new))) := by
        intro h1' hr1 hx1 hnn hno
        obtain ⟨ι', h11, h12, h13⟩ := fresh_row (old := c') hi hz hzo hzs (VRs.append g3 hvs) (VRs.take_ones g4 cs h1c) hnew hr1
        have := run_append_out (ty := o.type) (olds := olds) h1 h2 h3' h4' ht hxt hd hi hz hlen (hfc w.drew rfl) hno hfo (by omega) (bytes_le (by omega) hby)
        rw [hnn] at h11
        exact Good.value (hop _ _ this) h11 h12 (Ext.trans hr.dom hx1 h13)
      rcases hK with ⟨rfl, rfl, rfl⟩ | ⟨rfl, rfl, rfl, hmod, rfl, rfl⟩
      · refine hfresh h hr (Ext.refl _ _ _) rfl ?_
        rw [h10 rfl]; exact hnfit
      · by_cases hno : l + n ≤ c'
        · have hoff : off = L.base + o' := by rcases h6 with h6 | h6; exact h6; omega
          subst hoff
          obtain ⟨q1, q2, q3, q4, q56⟩ := hr.blk _ _ _ hL hg
          obtain ⟨q5, q6⟩ := q56 rfl
          have hroom : o' + (l + n) * i.size ≤ L.room := by
            have : (l + n) * i.size ≤ c' * i.size := Nat.mul_le_mul_right _ hno
            omega
          have hsplit : (l + n) * i.size = l * i.size + n * i.size := Nat.add_mul _ _ _
          have hth : w.there L.cb (L.base + o' + l * i.size) cs.length := fun j hj => by
            obtain ⟨cv, h11, _⟩ := q3 (o' + l * i.size + j) (by omega)
            rw [show L.base + (o' + l * i.size + j) = L.base + o' + l * i.size + j by omega] at h11
            refine ⟨by rw [h11]; rfl, ?_⟩
            have := q4 rfl (o' + l * i.size + j) (by omega)
            rwa [show L.base + (o' + l * i.size + j) = L.base + o' + l * i.size + j by omega] at this
          have hst := run_store_there (P := P) hth h1c
          have := run_append_in (ty := o.type) (w' := w.setCells L.cb (L.base + o' + l * i.size) cs) h1 h2 h3' h4' ht hxt hd hi hlen (hfc w rfl) hno (by show (Go.storeCells (Go.Addr.add _ _) cs).run P w = _; rw [Go.Addr.add_lit]; exact hst)
          have hin : ∀ j (hj : j < cs.length), (w.setCells L.cb (L.base + o' + l * i.size) cs).cell? ⟨L.cb, L.base + o' + l * i.size + j, none⟩ = some cs[j] := fun j hj =>
            World.cell?_setCells_in L.cb cs (L.base + o' + l * i.size) w (fun i hi => (hth i hi).1) j hj
          have hout : ∀ q, (q < L.base + o' + l * i.size ∨ L.base + o' + l * i.size + cs.length ≤ q) → (w.setCells L.cb (L.base + o' + l * i.size) cs).cell? ⟨L.cb, q, none⟩ = w.cell? ⟨L.cb, q, none⟩ := fun q hq =>
            World.cell?_setCells_out L.cb cs (L.base + o' + l * i.size) w ⟨L.cb, q, none⟩ (by simp; omega)
          obtain ⟨ι', p1, p2, p3⟩ := hr.move hL hg (w.setCells L.cb (L.base + o' + l * i.size) cs) (fun c hc => heap_setCells _ _ _ _ _ hc) (size_setCells _ _ _ _) (os_setCells _ _ _ _)
            (.cells false ty ((cl.drop o').take (l * i.size) ++ new)) ⟨L.cb, L.base + o', L.room - o'⟩ rfl fun ι' hs' => by
              refine ⟨fun j v hv => ?_, by rw [hnew]; show _ ≤ L.room - o'; omega, fun j hj => ?_, fun _ j hj => ?_, fun _ => ⟨?_, ?_⟩⟩
              · by_cases hj : j < l * i.size
                · rw [List.getElem?_append_left (by rw [hold]; exact hj)] at hv
                  obtain ⟨cv, h11, h12⟩ := g3.get j v hv
                  refine ⟨cv, ?_, VR.mono hs' _ _ h12⟩
                  show (w.setCells _ _ _).cell? ⟨L.cb, L.base + o' + j, none⟩ = _
                  rw [hout _ (.inl (by omega))]
                  exact g2 j cv h11
                · rw [List.getElem?_append_right (by rw [hold]; omega), hold] at hv
                  obtain ⟨cv, h11, h12⟩ := hvs.get _ v hv
                  refine ⟨cv, ?_, VR.mono hs' _ _ h12⟩
                  have hlt : j - l * i.size < cs.length := (List.getElem?_eq_some_iff.1 h11).1
                  have := hin (j - l * i.size) hlt
                  rw [show L.base + o' + l * i.size + (j - l * i.size) = L.base + o' + j by omega] at this
                  show (w.setCells _ _ _).cell? ⟨L.cb, L.base + o' + j, none⟩ = _
                  rw [this, ← h11, List.getElem?_eq_getElem hlt]
              · have hj' : j < L.room - o' := hj
                by_cases hjo : L.base + o' + j < L.base + o' + l * i.size ∨ L.base + o' + l * i.size + cs.length ≤ L.base + o' + j
                · obtain ⟨cv, h11, h12⟩ := q3 (o' + j) (by omega)
                  refine ⟨cv, ?_, h12⟩
                  show (w.setCells _ _ _).cell? ⟨L.cb, L.base + o' + j, none⟩ = _
                  rw [hout _ hjo, Nat.add_assoc]; exact h11
                · have := hin (j - l * i.size) (by omega)
                  rw [show L.base + o' + l * i.size + (j - l * i.size) = L.base + o' + j by omega] at this
                  exact ⟨_, this, h1c _ (List.getElem_mem _)⟩
              · show (w.setCells _ _ _).frozen? ⟨L.cb, L.base + o' + j, none⟩ = false
                have hj' : j < L.room - o' := hj
                rw [World.frozen?_setCells, Nat.add_assoc]; exact q4 rfl (o' + j) (by omega)
              · rw [shape_setCells, q5]; show some (ty, _) = some (ty, L.base + o' + (L.room - o')); congr 2; omega
              · show (L.base + o') % P.cellsOf ty = 0
                rw [hsz]; rw [hsz] at q6
                rw [Nat.add_mod, q6, hmod]; simp
          refine Good.value (hop _ _ this) ?_ p2 p3
          simp only [VR]
          refine ⟨_, c', _, p1, rfl, .inl (Nat.add_zero _).symm, ?_, Nat.le_refl _, hno, fun h => nomatch h⟩
          show 0 + c' * i.size ≤ L.room - o'
          have : l * i.size + n * i.size ≤ c' * i.size := by rw [← hsplit]; exact Nat.mul_le_mul_right _ hno
          omega
        · obtain ⟨hk1, hk2⟩ := hr.kill hL hg
          exact hfresh _ hk1 hk2 (H.n_put _ _ _) hno
end
end GoEv
namespace GoEv
open Go (IntKind Value World Addr MapEntry Program Oper Op Operand Act Exit undef execOp Sem Result TypeId TypeDesc BinOp UnOp)

section
variable {P : Program} {o : Oper} {h : H} {ι : Inj} {w : World} {a : Act} {e : Env} {nt : Nat}

theorem hasInfo_some {t : TypeId} (h : hasInfo P t = true) : ∃ d i, P.underlying t = some d ∧ P.info? t = some i := by
  unfold hasInfo at h
  obtain ⟨d, hd⟩ := Option.isSome_iff_exists.1 h
  obtain ⟨i, hi⟩ := info_of_und hd
  exact ⟨d, i, hd, hi⟩
theorem bif_none {b : Bool} {x : A} {r : V × H} : (cd (b) (x) (none)) = some r ↔ b = true ∧ x = some r := by cases b <;> simp
theorem bif_none' {b : Bool} {x : A} {r : V × H} : (cd (b) (none) (x)) = some r ↔ b = false ∧ x = some r := by cases b <;> simp

/-! ### composites -/
theorem foldl_set (off : Nat) : ∀ (vs : List Value) (k : Nat) (ca : Array Value), off + k + vs.length ≤ ca.size →
    ((vs.zipIdx k).foldl (fun (cs : Array Value) (p : Value × Nat) => cs.setIfInBounds (off + p.2) p.1) ca).toList = ca.toList.take (off + k) ++ (vs ++ ca.toList.drop (off + k + vs.length))
  | [], k, ca, _ => by simp
  | v :: vs, k, ca, h => by
    simp only [List.length_cons] at h
    rw [List.zipIdx_cons, List.foldl_cons, foldl_set off vs (k + 1) _ (by simp; omega)]
    simp only [Array.toList_setIfInBounds, List.length_cons]
    rw [List.set_eq_take_append_cons_drop, if_pos (by simp; omega)]
    have hlt : (ca.toList.take (off + k)).length = off + k := by simp; omega
    have e1 : (ca.toList.take (off + k) ++ v :: ca.toList.drop (off + k + 1)).take (off + (k + 1)) = ca.toList.take (off + k) ++ [v] := by
      rw [List.take_append, hlt]
      rw [show off + (k + 1) - (off + k) = 1 by omega, List.take_of_length_le (by omega)]
      rfl
    have e2 : (ca.toList.take (off + k) ++ v :: ca.toList.drop (off + k + 1)).drop (off + (k + 1) + vs.length) = ca.toList.drop (off + k + (vs.length + 1)) := by
      rw [List.drop_append, hlt, List.drop_eq_nil_of_le (by omega), List.nil_append, show off + (k + 1) + vs.length - (off + k) = vs.length + 1 by omega, List.drop_succ_cons, List.drop_drop]
      congr 1; omega
    rw [e1, e2]; simp
def BuildR (P : Program) (e : Env) (nt : Nat) (parts : List (Nat × Operand)) (acc cs : List V) (place : Nat → Option (Nat × Nat)) : Prop :=
  ∀ (ι : Inj) (a : Act) (ca : Array Value), ER P ι e nt a → VRs ι acc ca.toList → (∀ y ∈ ca.toList, y.oneCell' = true) →
    ∃ cc, Go.Instr.fill place ca (parts.map fun p => (p.1, a.eval p.2)) = some cc ∧ VRs ι cs cc.toList ∧ ∀ y ∈ cc.toList, y.oneCell' = true
theorem dFill_some {pl : Nat → Option (Nat × Nat × Bool)} {place : Nat → Option (Nat × Nat)} (hpl : ∀ i off n b, pl i = some (off, n, b) → place i = some (off, n)) :
    ∀ (parts : List (Nat × Operand)) (acc : List V) {K : List V → A} {r : V × H}, dFill P e pl parts acc K = some r → ∃ cs, K cs = some r ∧ cs.length = acc.length ∧ BuildR P e nt parts acc cs place
  | [], acc, K, r, hh => ⟨acc, hh, rfl, fun ι a ca he h1 h2 => ⟨ca, rfl, h1, h2⟩⟩
  | (i, x) :: parts, acc, K, r, hh => by
    unfold dFill at hh
    have step : ∀ (off n : Nat) (b : Bool) (vs : List V), pl i = some (off, n, b) → vs.length = n → off + n ≤ acc.length →
        (∀ (ι : Inj) (a : Act), ER P ι e nt a → ∃ cs, (a.eval x).cells = cs ∧ VRs ι vs cs.toList ∧ ∀ y ∈ cs.toList, y.oneCell' = true) →
        (∃ cs, K cs = some r ∧ cs.length = (acc.take off ++ (vs ++ acc.drop (off + vs.length))).length ∧ BuildR P e nt parts (acc.take off ++ (vs ++ acc.drop (off + vs.length))) cs place) →
        ∃ cs, K cs = some r ∧ cs.length = acc.length ∧ BuildR P e nt ((i, x) :: parts) acc cs place := by
      intro off n b vs h1 h2 h3 h4 ⟨cs, h5, h6, h7⟩
      refine ⟨cs, h5, ?_, ?_⟩
      · rw [h6]; simp only [List.length_append, List.length_take, List.length_drop]; omega
      · intro ι a ca he hv ho1
        obtain ⟨c, h8, h9, h10⟩ := h4 ι a he
        have hca : ca.size = acc.length := by rw [← hv.length]; simp
        have hcl : c.size = n := by rw [← h2, ← h9.length]; simp
        have hf := foldl_set off c.toList 0 ca (by simp; omega)
        have hnew : VRs ι (acc.take off ++ (vs ++ acc.drop (off + vs.length))) (ca.toList.take off ++ (c.toList ++ ca.toList.drop (off + c.toList.length))) := by
          have : c.toList.length = vs.length := h9.length
          rw [this]
          exact VRs.append (hv.take _) (VRs.append h9 (hv.drop _))
        obtain ⟨cc, h11, h12, h13⟩ := h7 ι a (c.toList.zipIdx.foldl (fun (cs : Array Value) (p : Value × Nat) => cs.setIfInBounds (off + p.2) p.1) ca) he (by rw [hf]; simpa using hnew) (by
          rw [hf]
          intro y hy
          simp only [Nat.add_zero, List.mem_append] at hy
          rcases hy with hy | hy | hy
          · exact ho1 y (List.mem_of_mem_take hy)
          · exact h10 y hy
          · exact ho1 y (List.mem_of_mem_drop hy))
        refine ⟨cc, ?_, h12, h13⟩
        simp only [List.map_cons, Go.Instr.fill, hpl _ _ _ _ h1, h8]
        rw [if_neg]
        · rw [← h11]
          congr 1
          rw [← Array.foldl_toList, Array.toList_zipIdx]
        · simp [hcl]; omega
    split at hh
    · rename_i off n hp
      rw [toA_some] at hh
      obtain ⟨l, h1, h2⟩ := hh
      rw [lnc_some, smc_some] at h2
      obtain ⟨h3, h4, h5⟩ := h2
      refine step off n true l hp h3 (by omega) (fun ι a he => ?_) (dFill_some hpl parts _ h5)
      have h6 := he.eval x
      rw [h1] at h6; simp only [VR] at h6
      obtain ⟨c, h7, h8, h9⟩ := h6
      exact ⟨c, by rw [h7]; rfl, h8, h9⟩
    · rename_i off n hp
      rw [bif_none, one_some, setO_some, beq_eq] at hh
      obtain ⟨h1, h2, h3, h4⟩ := hh
      have hn : n = 1 := of_decide_eq_true h1
      subst hn
      have hset : acc.take off ++ ([evA P e x] ++ acc.drop (off + [evA P e x].length)) = acc.set off (evA P e x) := by
        rw [List.set_eq_take_append_cons_drop, if_pos h3]; rfl
      refine step off 1 false [evA P e x] hp rfl (by omega) (fun ι a he => ?_) ?_
      · obtain ⟨h5, h6⟩ := VR.one h2 (he.eval x)
        exact ⟨_, h6, VRs.cons (he.eval x) VRs.nil, by simpa using h5⟩
      · rw [hset]
        exact dFill_some hpl parts _ h4
    · cases hh
theorem mapM_list {fs : List Go.Field} (hi : ∀ f ∈ fs, ∃ i, P.info? f.type = some i) (w : World) :
    (fs.mapM fun f => (do pure (f.offset, ← Go.sizeOf f.type) : Sem (Nat × Nat))).run P w = .ok (fs.map fun f => (f.offset, P.cellsOf f.type)) w := by
  induction fs with
  | nil => rfl
  | cons f fs ih =>
    obtain ⟨i, hf⟩ := hi f (by simp)
    have ih' := ih fun g hg => hi g (by simp [hg])
    rw [List.mapM_cons, Go.Sem.run_bind, Go.Sem.run_bind, run_size hf]
    simp only [Go.Result.andThen, Go.Sem.run_pure, Go.Sem.run_bind, ih', List.map_cons]
theorem mapM_places {fs : Array Go.Field} (hi : ∀ f ∈ fs, ∃ i, P.info? f.type = some i) (w : World) :
    (fs.mapM fun f => (do pure (f.offset, ← Go.sizeOf f.type) : Sem (Nat × Nat))).run P w = .ok (fs.map fun f => (f.offset, P.cellsOf f.type)) w := by
  have := mapM_list (P := P) (fs := fs.toList) (fun f hf => hi f (by simpa using hf)) w
  rw [Array.mapM_eq_mapM_toList, Go.Sem.run_map, this]
  simp only [Go.Result.andThen]
  congr 1
  apply Array.ext'; simp
theorem fieldOf_of {t : TypeId} {fs : Array Go.Field} {f : Nat} {off n : Nat} {ft : TypeId} (hd : P.underlying t = some (.struct fs)) (hf : fieldOf P t f = some (off, n, ft)) : (fs.map fun f => (f.offset, P.cellsOf f.type))[f]? = some (off, n) := by
  obtain ⟨fs', fd, h1, h2, h3, h4, h5⟩ := fieldOf_some hf
  rw [hd] at h1; cases h1
  simp [h2, h3, h4, h5]
theorem zero_VRs {t : TypeId} {z : List V} (hz : zcs P t = some z) : ∃ zv, (∀ w, (Go.zeroValue t).run P w = .ok zv w) ∧ (∀ ι, VRs ι z zv.cells.toList) ∧ ∀ y ∈ zv.cells.toList, y.oneCell' = true := by
  obtain ⟨i, zv, hi, hzz, rfl, h1⟩ := zcs_some hz
  exact ⟨zv, fun w => run_zero hi hzz w, fun ι => cst1s_sound ι _, h1⟩
theorem g_build_struct {t : TypeId} {parts : Array (Nat × Operand)} {fs : Array Go.Field} {z : List V} {K : V → A} {r : V × H} (ho : o.op = .build t parts) (hd : P.underlying t = some (.struct fs)) (hfs : ∀ f ∈ fs, ∃ i, P.info? f.type = some i) (hz : zcs P t = some z)
    (hh : dFill P e (placeS P t) parts.toList z (fun cs => K (.agg cs)) = some r) : ∃ v, K v = some r ∧ GQ P o e nt v := by
  obtain ⟨cs, h1, h2, h3⟩ := dFill_some (nt := nt) (place := fun i => (fs.map fun f => (f.offset, P.cellsOf f.type))[i]?) (fun i off n b hp => by
    unfold placeS at hp
    split at hp
    · rename_i o' n' ft hf
      simp only [Option.some.injEq, Prod.mk.injEq] at hp
      obtain ⟨rfl, rfl, _⟩ := hp
      exact fieldOf_of hd hf
    · cases hp) _ _ hh
  obtain ⟨zv, h4, h5, h6⟩ := zero_VRs hz
  refine ⟨_, h1, fun h ι w a hr he => ?_⟩
  obtain ⟨cc, h7, h8, h9⟩ := h3 ι a zv.cells he (h5 ι) h6
  refine Good.quiet (cv := .agg cc) hr ?_ (by simp only [VR]; exact ⟨_, rfl, h8, h9⟩)
  have hm := mapM_places hfs w
  simp at hm h7
  simp [execOp, ho, Go.Instr.build, h4, Go.run_underlying hd, hm, h7]
theorem g_build_array {t el : TypeId} {n : Nat} {parts : Array (Nat × Operand)} {i : Go.TypeInfo} {z : List V} {K : V → A} {r : V × H} (ho : o.op = .build t parts) (hd : P.underlying t = some (.array n el)) (hi : P.info? el = some i) (hz : zcs P t = some z)
    (hh : dFill P e (placeA P el) parts.toList z (fun cs => K (.agg cs)) = some r) : ∃ v, K v = some r ∧ GQ P o e nt v := by
  obtain ⟨cs, h1, h2, h3⟩ := dFill_some (nt := nt) (place := fun i => some (i * P.cellsOf el, P.cellsOf el)) (fun i off n b hp => by
    unfold placeA at hp
    simp only [Option.some.injEq, Prod.mk.injEq] at hp
    obtain ⟨rfl, rfl, _⟩ := hp
    rfl) _ _ hh
  obtain ⟨zv, h4, h5, h6⟩ := zero_VRs hz
  refine ⟨_, h1, fun h ι w a hr he => ?_⟩
  obtain ⟨cc, h7, h8, h9⟩ := h3 ι a zv.cells he (h5 ι) h6
  refine Good.quiet (cv := .agg cc) hr ?_ (by simp only [VR]; exact ⟨_, rfl, h8, h9⟩)
  simp [execOp, ho, Go.Instr.build, h4, Go.run_underlying hd, run_size hi, h7]

/-! ### operations that make a block -/
def GA (P : Program) (o : Oper) (e : Env) (nt : Nat) (x : Blk) (vf : Nat → V) : Prop :=
  ∀ (h : H) (ι : Inj) (w : World) (a : Act), HR P ι h w → ER P ι e nt a → ∃ cv w1 obj room, (execOp a.eval o).run P w = .ok (.value cv) (w1.alloc obj) ∧ (w1 = w ∨ w1 = w.drew) ∧
    (∀ ι', Sub ι ι' → BR P ι' x ⟨w.heap.size, 0, room⟩ (w1.alloc obj)) ∧ ∀ (ι' : Inj) b, ι' b = some ⟨w.heap.size, 0, room⟩ → VR ι' (vf b) cv
theorem GA.good {x : Blk} {vf : Nat → V} (hg : GA P o e nt x vf) (hr : HR P ι h w) (he : ER P ι e nt a) : Good P o h ι w a (vf h.n) (h.push x) := by
  obtain ⟨cv, w1, obj, room, h1, h2, h3, h4⟩ := hg h ι w a hr he
  have hr1 : HR P ι h w1 := by rcases h2 with rfl | rfl; exact hr; exact hr.drew
  have hs : w1.heap.size = w.heap.size := by rcases h2 with rfl | rfl <;> rfl
  have hx1 : Ext h ι w h ι w1 := by rcases h2 with rfl | rfl; exact Ext.refl _ _ _; exact (Ext.refl _ _ _).drew
  obtain ⟨ι', h5, h6, h7⟩ := hr1.push x obj room (by rw [hs]; exact h3)
  rw [hs] at h5
  exact Good.value h1 (h4 _ _ h5) h6 (Ext.trans hr.dom hx1 h7)
theorem row_BR {el : TypeId} {l : List V} {cs extra : List Value} {w1 : World} (hl : VRs ι l cs) (h1 : ∀ y ∈ cs, y.oneCell' = true) (h2 : ∀ y ∈ extra, y.oneCell' = true) {room n : Nat} (hroom : cs.length + extra.length = room) (hn : w1.heap.size = n) :
    ∀ ι', Sub ι ι' → BR P ι' (.cells false el l) ⟨n, 0, room⟩ (w1.alloc (.cells (cs ++ extra).toArray el)) := by
  intro ι' hs
  subst hn
  have hlen := hl.length
  refine ⟨fun i v hv => ?_, by show _ ≤ room; omega, fun i hi => ?_, fun _ i _ => ?_, fun _ => ⟨?_, Nat.zero_mod _⟩⟩
  · obtain ⟨x, h3, h4⟩ := hl.get i v hv
    refine ⟨x, ?_, VR.mono hs _ _ h4⟩
    have hi : i < cs.length := (List.getElem?_eq_some_iff.1 h3).1
    simp [List.getElem?_append_left hi, h3]
  · have hi' : i < (cs ++ extra).length := by simpa [hroom] using hi
    refine ⟨(cs ++ extra)[i], by simp [List.getElem?_eq_getElem hi'], ?_⟩
    rcases List.mem_append.1 (List.getElem_mem hi') with h3 | h3
    · exact h1 _ h3
    · exact h2 _ h3
  · simp
  · have hh : (w1.alloc (.cells (cs ++ extra).toArray el)).heap[w1.heap.size]? = some (.cells (cs ++ extra).toArray el) := by show (w1.heap.push _)[w1.heap.size]? = _; simp
    show (w1.alloc _).shape? w1.heap.size = some (el, 0 + room)
    unfold Go.World.shape?; rw [hh]; subst hroom; simp
theorem row_BR' {el : TypeId} {l : List V} {cs : Array Value} {w1 : World} (hl : VRs ι l cs.toList) (h1 : ∀ y ∈ cs.toList, y.oneCell' = true) {n : Nat} (hn : w1.heap.size = n) :
    ∀ ι', Sub ι ι' → BR P ι' (.cells false el l) ⟨n, 0, l.length⟩ (w1.alloc (.cells cs el)) := by
  have := row_BR (P := P) (el := el) hl h1 (extra := []) (by simp) (room := l.length) (by simp [hl.length]) hn
  simpa using this
theorem ga_alloc {t : TypeId} {z : List V} (ho : o.op = .alloc t) (hz : zcs P t = some z) : GA P o e nt (.cells false t z) fun b => .ptr b 0 := by
  intro h ι w a hr he
  obtain ⟨i, zv, hi, hzz, rfl, h1⟩ := zcs_some hz
  refine ⟨.pointer (some ⟨w.heap.size, 0, none⟩), w, .cells zv.cells t, _, ?_, .inl rfl, row_BR' (cst1s_sound ι _) h1 rfl, fun ι' b hb => by simp only [VR]; exact ⟨_, hb, rfl⟩⟩
  simp [execOp, ho, Go.Instr.alloc, run_zero hi hzz, Go.newVar, Go.newRow]
theorem ga_box_one {t : TypeId} {x : Operand} (ho : o.op = .box t x) (h1 : isOne (evA P e x) = true) : GA P o e nt (.cells false t [evA P e x]) fun b => .ptr b 0 := by
  intro h ι w a hr he
  have hv := he.eval x
  obtain ⟨h2, h3⟩ := VR.one h1 hv
  refine ⟨.pointer (some ⟨w.heap.size, 0, none⟩), w, .cells #[a.eval x] t, _, ?_, .inl rfl, row_BR' (VRs.cons hv VRs.nil) (by simpa using h2) rfl, fun ι' b hb => by simp only [VR]; exact ⟨_, hb, rfl⟩⟩
  simp [execOp, ho, Go.Instr.box, Go.newVar, Go.newRow, h3]
theorem ga_box_agg {t : TypeId} {x : Operand} {l : List V} (ho : o.op = .box t x) (h1 : evA P e x = .agg l) : GA P o e nt (.cells false t l) fun b => .ptr b 0 := by
  intro h ι w a hr he
  have hv := he.eval x
  rw [h1] at hv; simp only [VR] at hv
  obtain ⟨c, hc, h2, h3⟩ := hv
  refine ⟨.pointer (some ⟨w.heap.size, 0, none⟩), w, .cells c t, _, ?_, .inl rfl, row_BR' h2 h3 rfl, fun ι' b hb => by simp only [VR]; exact ⟨_, hb, rfl⟩⟩
  simp [execOp, ho, Go.Instr.box, Go.newVar, Go.newRow, hc, Value.cells]
theorem ga_map {t : TypeId} (ho : o.op = .makeMap t none) : GA P o e nt (.map []) fun b => .map b := by
  intro h ι w a hr he
  refine ⟨.map (some w.heap.size), w, .map #[] 0, 0, ?_, .inl rfl, fun ι' hs => ⟨#[], 0, by show (w.heap.push _)[w.heap.size]? = _; simp, rfl, by simp⟩, fun ι' b hb => by simp only [VR]; exact ⟨_, hb, rfl⟩⟩
  simp [execOp, ho, Go.Instr.makeMap]
theorem rep_VRs {z : List V} {zc : Array Value} {n : Nat} (hz : VRs ι z zc.toList) (h1 : ∀ y ∈ zc.toList, y.oneCell' = true) :
    VRs ι (repS n z) ((Array.range (n * zc.size)).map (zc[· % zc.size]!)).toList ∧ ∀ y ∈ ((Array.range (n * zc.size)).map (zc[· % zc.size]!)).toList, y.oneCell' = true := by
  have hl : zc.size = z.length := by rw [← hz.length]; simp
  refine ⟨VRs.of (by simp [repS, hl]) fun i v x hi hx => ?_, zeros_one (i := default) (z := .agg zc) h1 n⟩
  simp only [repS, List.getElem?_map] at hi
  simp only [Array.toList_map, List.getElem?_map] at hx
  have hin : i < n * z.length := by
    cases hq : (List.range (n * z.length))[i]? with
    | none => rw [hq] at hi; simp at hi
    | some j => have := (List.getElem?_eq_some_iff.1 hq).1; simpa using this
  have hpos : 0 < z.length := by
    rcases Nat.eq_zero_or_pos z.length with h0 | h0
    · rw [h0] at hin; omega
    · exact h0
  have hlt : i % z.length < z.length := Nat.mod_lt _ hpos
  rw [List.getElem?_range hin] at hi
  have hr : (Array.range (n * zc.size)).toList[i]? = some i := by
    rw [Array.toList_range, List.getElem?_range (by rw [hl]; exact hin)]
  rw [hr] at hx
  simp only [Option.map_some, Option.some.injEq] at hi hx
  obtain ⟨x', h3, h4⟩ := hz.get (i % z.length) _ (List.getElem?_eq_getElem hlt)
  have e1 : v = z[i % z.length] := by rw [← hi]; simp [List.getD, hlt]
  have e2 : x = x' := by
    rw [← hx]
    have : i % zc.size < zc.size := by rw [hl]; exact hlt
    rw [getElem!_pos zc _ this]
    have h5 : zc.toList[i % z.length]? = some (zc[i % zc.size]) := by
      rw [List.getElem?_eq_getElem (by simpa [hl] using hlt)]
      simp [hl]
    rw [h3] at h5; exact (Option.some.inj h5).symm
  rw [e1, e2]; exact h4
theorem ga_buildSlice {t el : TypeId} {n : Nat} {parts : Array (Nat × Operand)} {z : List V} {K : Blk → (Nat → V) → A} {r : V × H} (ho : o.op = .buildSlice t n parts) (hd : P.underlying t = some (.slice el)) (hsz : n * P.cellsOf el ≤ 16777216) (h1 : 1 ≤ P.cellsOf el) (hz : zcs P el = some z) (hzl : z.length = P.cellsOf el)
    (hh : dFill P e (placeA P el) parts.toList (repS n z) (fun cs => K (.cells false el cs) fun b => .sl b 0 n n (P.cellsOf el) true) = some r) :
    ∃ x vf, K x vf = some r ∧ GA P o e nt x vf := by
  obtain ⟨cs, h2, h2l, h3⟩ := dFill_some (nt := nt) (place := fun i => some (i * P.cellsOf el, P.cellsOf el)) (fun i off n b hp => by
    unfold placeA at hp
    simp only [Option.some.injEq, Prod.mk.injEq] at hp
    obtain ⟨rfl, rfl, _⟩ := hp
    rfl) _ _ hh
  obtain ⟨zv, h4, h5, h6⟩ := zero_VRs hz
  refine ⟨_, _, h2, fun h ι w a hr he => ?_⟩
  obtain ⟨i, hi⟩ := info_of_cells (show P.cellsOf el ≠ 0 by omega)
  have hzs : zv.cells.size = P.cellsOf el := by rw [← hzl, ← (h5 ι).length]; simp
  obtain ⟨g1, g2⟩ := rep_VRs (n := n) (h5 ι) h6
  rw [hzs] at g1 g2
  obtain ⟨cc, h7, h8, h9⟩ := h3 ι a _ he g1 g2
  have hcl : cs.length = n * P.cellsOf el := by rw [h2l]; simp [repS, hzl]
  refine ⟨.slice (some ⟨w.heap.size, 0, none⟩) n n, w, .cells cc el, cs.length, ?_, .inl rfl, row_BR' h8 h9 rfl, fun ι' b hb => ?_⟩
  · have hns : ¬ (16777216 < n * P.cellsOf el) := by omega
    by_cases h0 : n = 0
    · subst h0
      simp only [Nat.zero_mul] at h7
      simp [execOp, ho, Go.Instr.buildSlice, Go.run_underlying hd, run_size hi, Go.newRow]
      have e0 : Array.range 0 = #[] := rfl
      simp only [e0, Array.map_empty] at h7 ⊢
      simp [h7]
    · have hn0 : ¬ (n * P.cellsOf el = 0) := by
        have : 0 < n * P.cellsOf el := Nat.mul_pos (by omega) (by omega)
        omega
      have hn0' : ¬ (n = 0 ∨ P.cellsOf el = 0) := by omega
      simp [execOp, ho, Go.Instr.buildSlice, Go.run_underlying hd, run_size hi, hns, hn0, hn0', h4, hzs, h7, Go.newRow]
  · simp only [VR]
    exact ⟨_, n, 0, hb, rfl, .inl rfl, by show 0 + n * _ ≤ cs.length; omega, Nat.le_refl _, Nat.le_refl _, fun _ => rfl⟩
end
end GoEv
