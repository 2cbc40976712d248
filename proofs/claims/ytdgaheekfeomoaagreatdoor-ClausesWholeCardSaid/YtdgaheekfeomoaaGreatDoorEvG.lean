/- Regions of free order are sound, and so is a table of functions. -/
import Derived.Test.YtdgaheekfeomoaaGreatDoorEvE
import Derived.Orders
set_option linter.unusedVariables false
set_option linter.unusedSimpArgs false
namespace GoEv
open Go (IntKind Value World Addr MapEntry Program Oper Op Operand Act Exit undef execOp Sem Result TypeId TypeDesc BinOp UnOp Code Func)

/-- equal values of a simple kind -/
def eq0 : V → V → Bool
  | .bool a, .bool b => a == b
  | .i a, .i b => decide (a = b)
  | .u8 a, .u8 b => decide (a = b)
  | .int k a, .int j b => kb k j && decide (a = b)
  | .str l n, .str m k => Nat.beq l m && Nat.beq n k
  | .ptr b o, .ptr c p => Nat.beq b c && Nat.beq o p
  | .nilp, .nilp => true
  | .sl b o l c s k, .sl b' o' l' c' s' k' => Nat.beq b b' && Nat.beq o o' && Nat.beq l l' && Nat.beq c c' && Nat.beq s s' && (k == k')
  | .nils, .nils => true
  | .map b, .map c => Nat.beq b c
  | .nilm, .nilm => true
  | .fn f [] [], .fn g [] [] => Nat.beq f g
  | .nilf, .nilf => true
  | .nili, .nili => true
  | _, _ => false
theorem eq0_eq : ∀ {a b : V}, eq0 a b = true → a = b := by
  intro a b h
  unfold eq0 at h
  split at h <;> (try simp only [Bool.and_eq_true, beq_eq, decide_eq_true_eq, beq_iff_eq] at h) <;> first
    | rfl
    | (cases h; done)
    | (subst h; rfl)
    | skip
  · obtain ⟨h1, rfl⟩ := h; rw [kb_eq h1]
  · obtain ⟨rfl, rfl⟩ := h; rfl
  · obtain ⟨rfl, rfl⟩ := h; rfl
  · obtain ⟨⟨⟨⟨⟨rfl, rfl⟩, rfl⟩, rfl⟩, rfl⟩, rfl⟩ := h; rfl
def eq1 : V → V → Bool
  | .iface t x, .iface u y => Nat.beq t u && eq0 x y
  | a, b => eq0 a b
theorem eq1_eq {a b : V} (h : eq1 a b = true) : a = b := by
  unfold eq1 at h
  split at h
  · rw [Bool.and_eq_true, beq_eq] at h
    rw [of_decide_eq_true h.1, eq0_eq h.2]
  · exact eq0_eq h
noncomputable def eqL (l : List V) : List V → Bool := List.rec (motive := fun _ => List V → Bool) (fun r => match r with | [] => true | _ => false) (fun a _ ih r => match r with | b :: r => eq1 a b && ih r | [] => false) l
theorem eqL_eq : ∀ {l r : List V}, eqL l r = true → l = r
  | [], [], _ => rfl
  | [], _ :: _, h => by cases h
  | _ :: _, [], h => by cases h
  | a :: l, b :: r, h => by
    have h' : (eq1 a b && eqL l r) = true := h
    rw [Bool.and_eq_true] at h'
    rw [eq1_eq h'.1, eqL_eq h'.2]
noncomputable def eq2 : V → V → Bool
  | .agg l, .agg r => eqL l r
  | a, b => eq1 a b
theorem eq2_eq {a b : V} (h : eq2 a b = true) : a = b := by
  unfold eq2 at h
  split at h
  · rw [eqL_eq h]
  · exact eq1_eq h
noncomputable def veq (a b : V) (K : A) : A := Bool.casesOn (eq2 a b) none K
theorem veq_some {a b : V} {K : A} {r : V × H} (h : veq a b K = some r) : a = b ∧ K = some r := by
  unfold veq at h
  rw [bool_none] at h
  exact ⟨eq2_eq h.1, h.2⟩
noncomputable def chg (v : V) (want : Bool) (R : A → A) (K : A) : A := match want with
  | true => gd v K fun b => cnd b (R K) K
  | false => gd v K fun b => cnd b K (R K)
theorem chg_some {v : V} {want : Bool} {R : A → A} {K : A} {r : V × H} (hh : chg v want R K = some r) :
    (v = .bool want ∧ R K = some r) ∨ ((v = .bool (!want) ∨ ∃ l, v = .tup l) ∧ K = some r) := by
  unfold chg at hh
  cases want <;> simp only [] at hh <;> rw [gd_some] at hh <;> rcases hh with ⟨b, h1, h2⟩ | ⟨l, h1, h2⟩
  · rw [cnd_some] at h2
    rcases h2 with ⟨rfl, h2⟩ | ⟨rfl, h2⟩
    · exact .inr ⟨.inl h1, h2⟩
    · exact .inl ⟨h1, h2⟩
  · exact .inr ⟨.inr ⟨l, h1⟩, h2⟩
  · rw [cnd_some] at h2
    rcases h2 with ⟨rfl, h2⟩ | ⟨rfl, h2⟩
    · exact .inl ⟨h1, h2⟩
    · exact .inr ⟨.inl h1, h2⟩
  · exact .inr ⟨.inr ⟨l, h1⟩, h2⟩

abbrev rd (o : Oper) : List Nat := o.op.operands.toList.filterMap fun x => match x with | .tmp t => some t | _ => none
abbrev mem (l : List Nat) (t : Nat) : Bool := l.any fun s => Nat.beq t s
theorem mem_true {l : List Nat} {t : Nat} : mem l t = true ↔ t ∈ l := by
  unfold mem
  rw [List.any_eq_true]
  constructor
  · rintro ⟨s, h1, h2⟩; rw [beq_eq] at h2; rw [of_decide_eq_true h2]; exact h1
  · intro h; exact ⟨t, h, by rw [beq_eq]; simp⟩
abbrev msk (o : Oper) (e : Env) : Env := fun t => bif mem (rd o) t then e t else .undef
theorem msk_congr {o : Oper} {e e' : Env} (h : ∀ t ∈ rd o, e t = e' t) : msk o e = msk o e' := by
  funext t
  unfold msk
  cases hm : mem (rd o) t with
  | true => rw [cond_true, cond_true]; exact h t (mem_true.1 hm)
  | false => rfl
/-- what must come before each operation -/
abbrev bfrM (acc : List Nat) (o : Oper) : Nat := o.after.toList.foldl (fun s e => bif Go.Region.binds .any e then Nat.lor (Nat.lor s (2 ^ e.on)) (acc.getD e.on 0) else s) 0
abbrev bfrL : List Oper → List Nat → List Nat
  | [], acc => acc
  | o :: r, acc => bfrL r (acc ++ [bfrM acc o])
abbrev bef (ms : List Nat) (i j : Nat) : Bool := Nat.testBit (ms.getD i 0) j
abbrev opAt (ops : Array Oper) (i : Nat) : Oper := ops.getD i default
abbrev gds (ops : Array Oper) (o : Oper) : List Nat := match o.guard with
  | some (g, _) => ((ops[g]?).bind (·.dst)).toList
  | none => []
abbrev dsts (ops : Array Oper) (l : List Nat) : List Nat := l.filterMap fun i => (ops[i]?).bind (·.dst)
/-- two stores of no set order, the last two of a region -/
abbrev plainSt (o : Oper) : Bool := match o.op, o.guard, o.dst with
  | .store .., none, none => true
  | _, _, _ => false
abbrev isPr (ops : Array Oper) (ms : List Nat) (i : Nat) (r : List Nat) : Bool := match r with
  | [j] => !bef ms j i && plainSt (opAt ops i) && plainSt (opAt ops j)
  | _ => false
abbrev okS (P : Program) (ops : Array Oper) (ms : List Nat) : List Nat → Bool
  | [] => true
  | i :: r => (match ops[i]? with
    | some o => (rd o ++ gds ops o).all (fun t => !mem (dsts ops (i :: r)) t && (List.range ops.size).all fun j => match (ops[j]?).bind (·.dst) with
          | some d => !Nat.beq d t || bef ms i j
          | none => true) &&
        (match o.dst with | some d => !mem (dsts ops r) d | none => true) &&
        (match o.guard with | some (g, _) => ((ops[g]?).bind (·.dst)).isSome | none => true) &&
        (o.after.toList.all fun d => !Go.Region.binds .any d || (Nat.blt d.on ops.size && !mem (i :: r) d.on)) &&
        (!Nat.beq (cls P o.op) 3 || (r.all fun j => Nat.beq (cls P (opAt ops j).op) 0 || bef ms j i) || isPr ops ms i r)
    | none => false) && !mem r i && okS P ops ms r
abbrev okP (P : Program) (ops : Array Oper) (ms σ : List Nat) : Bool := match σ.reverse with
  | j :: i :: r => !isPr ops ms i [j] || okS P ops ms (i :: j :: r).reverse
  | _ => true
abbrev okσ (P : Program) (ops : Array Oper) (ms σ : List Nat) : Bool := (List.range ops.size).all (mem σ) && (okS P ops ms σ && okP P ops ms σ)

noncomputable abbrev chk1 (P : Program) (ops : Array Oper) (e : Env) (h : H) (j : Nat) (K : A) : A := match ops[j]? with
  | some o => match o.dst with
    | some d => match o.guard with
      | none => dR P o (msk o e) h fun v => veq v (e d) K
      | some (g, want) => chg (gv ops e g) want (fun K => dR P o (msk o e) h fun v => veq v (e d) K) K
    | none => none
  | none => none
noncomputable abbrev chks (P : Program) (ops : Array Oper) (e : Env) (h : H) : List Nat → A → A
  | [], K => K
  | j :: r, K => chk1 P ops e h j (chks P ops e h r K)
abbrev cks (P : Program) (ms : List Nat) (o : Oper) (i : Nat) (js : List Nat) : List Nat := bif Nat.beq (cls P o.op) 3 then js.filter fun j => !bef ms i j else []
abbrev jsn (P : Program) (o : Oper) (i : Nat) (js : List Nat) : List Nat := bif Nat.beq (cls P o.op) 1 then i :: js else js
/-- two places apart -/
noncomputable def dsj (b o n b' o' n' : Nat) (K : A) : A := Bool.casesOn (Nat.beq b b') K (Bool.casesOn (Nat.ble (Nat.add o n) o') (Bool.casesOn (Nat.ble (Nat.add o' n') o) none K) K)
abbrev stT : Op → Nat × Operand
  | .store t a _ => (t, a)
  | _ => (0, .tmp 0)
noncomputable abbrev dPair (P : Program) (X : Nat → Nat) (S : Sm) (ops : Array Oper) (ms : List Nat) (i j : Nat) (js : List Nat) (e : Env) (h : H) (K : Env → H → A) : A :=
  toP (evA P (msk (opAt ops i) e) (stT (opAt ops i).op).2) fun b p => toP (evA P (msk (opAt ops j) e) (stT (opAt ops j).op).2) fun b' p' =>
    dsj b p (P.cellsOf (stT (opAt ops i).op).1) b' p' (P.cellsOf (stT (opAt ops j).op).1) <|
      dW P X S (opAt ops i) (msk (opAt ops i) e) h fun _ h1 => dW P X S (opAt ops j) (msk (opAt ops j) e) h1 fun _ h2 => dW P X S (opAt ops j) (msk (opAt ops j) e) h fun _ h1' =>
        chks P ops e h1 (cks P ms (opAt ops i) i js) <| chks P ops e h2 (cks P ms (opAt ops j) j js) <| chks P ops e h1' (cks P ms (opAt ops j) j js) <| chks P ops e h2 (cks P ms (opAt ops i) i js) <| K e h2
noncomputable abbrev dDr (P : Program) (X : Nat → Nat) (S : Sm) (ops : Array Oper) (ms : List Nat) : List Nat → List Nat → Env → H → (Env → H → A) → A
  | [], js, e, h, K => K e h
  | i :: r, js, e, h, K => match ops[i]? with
    | none => none
    | some o => match o.guard with
      | none => cd (isPr ops ms i r) (dPair P X S ops ms i (r.headD 0) js e h K) <| dAny P X S o (msk o e) h fun v h => chks P ops (put e o.dst v) h (cks P ms o i js) (dDr P X S ops ms r (jsn P o i js) (put e o.dst v) h K)
      | some (g, want) => grd (gv ops e g) want h (fun J => dAny P X S o (msk o e) h J) fun v h => chks P ops (put e o.dst v) h (cks P ms o i js) (dDr P X S ops ms r (jsn P o i js) (put e o.dst v) h K)
/-- all but the last operation -/
abbrev popA (ops : Array Oper) : Array Oper := ⟨ops.toList.dropLast⟩
/-- the last operation comes behind all others -/
abbrev okZ (ops : Array Oper) : Bool := match ops.toList.getLast? with
  | some o => o.guard.isNone && (List.range (ops.size - 1)).all (bef (bfrL ops.toList []) (ops.size - 1)) &&
      ((List.range ops.size).all fun i => (opAt ops i).after.toList.all fun d => !Go.Region.binds .any d || Nat.blt d.on i) &&
      (popA ops).toList.all (fun o => match o.guard with | some (g, _) => Nat.blt g (ops.size - 1) | none => true)
  | none => false
noncomputable abbrev dDrN (P : Program) (X : Nat → Nat) (S : Sm) : Nat → Array Oper → List Nat → Env → H → (Env → H → A) → A
  | 0, ops, σ, e, h, K => cd (okσ P ops (bfrL ops.toList []) σ) (dDr P X S ops (bfrL ops.toList []) σ [] e h K) (none)
  | k + 1, ops, σ, e, h, K => cd (okσ P ops (bfrL ops.toList []) σ) (dDr P X S ops (bfrL ops.toList []) σ [] e h K)
      (cd (okZ ops) (dDrN P X S k (popA ops) σ.dropLast e h fun e h => dAny P X S (opAt ops (ops.size - 1)) e h fun v h => K (put e (opAt ops (ops.size - 1)).dst v) h) (none))
noncomputable abbrev dDraw (P : Program) (X : Nat → Nat) (S : Sm) (nt : Nat) (ops : Array Oper) (σ : List Nat) (e : Env) (h : H) (K : Env → H → A) : A := dDrN P X S 4 ops σ e h K

/-! ### the order -/
theorem foldl_bits (acc : List Nat) (k : Nat) (D : Nat → Prop) : ∀ (l : List Go.Edge) (s : Nat), (Nat.testBit s k = true → D k) → (∀ d ∈ l, Go.Region.binds .any d = true → D d.on ∧ (Nat.testBit (acc.getD d.on 0) k = true → D k)) →
    Nat.testBit (l.foldl (fun s e => bif Go.Region.binds .any e then Nat.lor (Nat.lor s (2 ^ e.on)) (acc.getD e.on 0) else s) s) k = true → D k
  | [], s, h, _, hb => h hb
  | d :: l, s, h, hd, hb => by
    rw [List.foldl_cons] at hb
    refine foldl_bits acc k D l _ ?_ (fun x hx => hd x (by simp [hx])) hb
    intro hs
    cases hbd : Go.Region.binds .any d with
    | false => rw [hbd] at hs; exact h hs
    | true =>
      rw [hbd, cond_true] at hs
      obtain ⟨h1, h2⟩ := hd d (by simp) hbd
      have h3 : ((s ||| 2 ^ d.on) ||| acc.getD d.on 0).testBit k = true := hs
      rw [Nat.testBit_or, Nat.testBit_or, Nat.testBit_two_pow] at h3
      simp only [Bool.or_eq_true, decide_eq_true_eq] at h3
      rcases h3 with (h3 | h3) | h3
      · exact h h3
      · rw [← h3]; exact h1
      · exact h2 h3
theorem bfrL_sound (D : Nat → Prop) : ∀ (l : List Oper) (acc : List Nat) (done : List Oper), acc.length = done.length →
    (∀ (j : Nat) (o : Oper), (done ++ l)[j]? = some o → D j → ∀ d ∈ o.after.toList, Go.Region.binds .any d = true → D d.on) →
    (∀ (j : Nat) (o : Oper), done[j]? = some o → (∀ d ∈ o.after.toList, Go.Region.binds .any d = true → D d.on) → ∀ k, Nat.testBit (acc.getD j 0) k = true → D k) →
    ∀ (j : Nat) (o : Oper), (done ++ l)[j]? = some o → (∀ d ∈ o.after.toList, Go.Region.binds .any d = true → D d.on) → ∀ k, Nat.testBit ((bfrL l acc).getD j 0) k = true → D k
  | [], acc, done, hl, hD, hacc => by
    intro j o ho
    rw [List.append_nil] at ho
    exact hacc j o ho
  | o1 :: l, acc, done, hl, hD, hacc => by
    have hsplit : done ++ o1 :: l = (done ++ [o1]) ++ l := by simp
    rw [hsplit]
    refine bfrL_sound D l (acc ++ [bfrM acc o1]) (done ++ [o1]) (by simp [hl]) (by rw [← hsplit]; exact hD) ?_
    intro j o ho hdeps k hk
    by_cases hj : j < done.length
    · rw [List.getElem?_append_left hj] at ho
      have : (acc ++ [bfrM acc o1]).getD j 0 = acc.getD j 0 := by simp [List.getD, List.getElem?_append_left (show j < acc.length by omega)]
      rw [this] at hk
      exact hacc j o ho hdeps k hk
    · have hj2 : j = done.length := by
        have := (List.getElem?_eq_some_iff.1 ho).1
        simp at this; omega
      subst hj2
      have ho1 : o1 = o := by simpa using ho
      subst ho1
      have : (acc ++ [bfrM acc o1]).getD done.length 0 = bfrM acc o1 := by rw [← hl]; simp [List.getD]
      rw [this] at hk
      refine foldl_bits acc k D _ 0 (by simp) (fun d hd hb => ⟨hdeps d hd hb, fun hbit => ?_⟩) hk
      by_cases hlt : d.on < done.length
      · obtain ⟨o2, ho2⟩ : ∃ o2, done[d.on]? = some o2 := ⟨done[d.on], List.getElem?_eq_getElem hlt⟩
        refine hacc d.on o2 ho2 ?_ k hbit
        exact hD d.on o2 (by rw [List.getElem?_append_left hlt]; exact ho2) (hdeps d hd hb)
      · have : acc.getD d.on 0 = 0 := by simp [List.getD, List.getElem?_eq_none (show acc.length ≤ d.on by omega)]
        rw [this] at hbit; simp at hbit
theorem bef_sound {ops : Array Oper} {D : Nat → Prop} (hD : ∀ (j : Nat) (o : Oper), ops[j]? = some o → D j → ∀ d ∈ o.after.toList, Go.Region.binds .any d = true → D d.on)
    {i : Nat} {o : Oper} (ho : ops[i]? = some o) (hi : ∀ d ∈ o.after.toList, Go.Region.binds .any d = true → D d.on) {k : Nat} (hk : bef (bfrL ops.toList []) i k = true) : D k :=
  bfrL_sound D ops.toList [] [] rfl (by simpa using hD) (by simp) i o (by simpa using ho) hi k hk

/-! ### the trace of a run -/
section
variable (P : Program) (ops : Array Oper) (ms : List Nat) (nt : Nat) (f : Env)
def unw (o : Oper) : Prop := ∃ g want, o.guard = some (g, want) ∧ (gv ops f g = .bool (!want) ∨ ∃ l, gv ops f g = .tup l)
def wnt (o : Oper) : Prop := o.guard = none ∨ ∃ g want, o.guard = some (g, want) ∧ gv ops f g = .bool want
def dv (o : Oper) (v : V) : Prop := ∀ d, o.dst = some d → f d = v
def Rok (h : H) (j : Nat) : Prop := ∃ o, ops[j]? = some o ∧ (unw ops f o ∨ ∃ v, dv f o v ∧ ∀ h2, Sup h h2 → GR P o (msk o f) nt h2 v)
/-- the same memory, read by read -/
def HEq' (a b : H) : Prop := a.n = b.n ∧ ∀ k, a.get k = b.get k
inductive TR : List Nat → List Nat → H → H → Prop
  | nil {js : List Nat} {h : H} : TR js [] h h
  | skip {js r : List Nat} {i : Nat} {h hf : H} {o : Oper} : ops[i]? = some o → unw ops f o → dv f o (.tup []) → TR (jsn P o i js) r h hf → TR js (i :: r) h hf
  | pr {js r : List Nat} {i : Nat} {h hf : H} {o : Oper} {v : V} : ops[i]? = some o → wnt ops f o → cls P o.op = 0 → dv f o v → GQ P o (msk o f) nt v → TR (jsn P o i js) r h hf → TR js (i :: r) h hf
  | rr {js r : List Nat} {i : Nat} {h hf : H} {o : Oper} {v : V} : ops[i]? = some o → wnt ops f o → cls P o.op = 1 → dv f o v → (∀ h2, Sup h h2 → GR P o (msk o f) nt h2 v) → TR (jsn P o i js) r h hf → TR js (i :: r) h hf
  | ar {js r : List Nat} {i : Nat} {h hf : H} {o : Oper} {x : Blk} {vf : Nat → V} : ops[i]? = some o → wnt ops f o → cls P o.op = 2 → dv f o (vf h.n) → GA P o (msk o f) nt x vf → TR (jsn P o i js) r (h.push x) hf → TR js (i :: r) h hf
  | wr {js r : List Nat} {i : Nat} {h h' hf : H} {o : Oper} {v : V} : ops[i]? = some o → wnt ops f o → cls P o.op = 3 → dv f o v → GW P o (msk o f) nt h v h' → (∀ j ∈ js, bef ms i j = true ∨ Rok P ops nt f h' j) → (∀ j ∈ r, cls P (opAt ops j).op = 0 ∨ bef ms j i = true) → TR (jsn P o i js) r h' hf → TR js (i :: r) h hf
  | ws {js : List Nat} {i j : Nat} {h h1 h2 h3 h4 : H} {oi oj : Oper} : ops[i]? = some oi → ops[j]? = some oj → isPr ops ms i [j] = true → oi.guard = none → oj.guard = none → cls P oi.op = 3 → cls P oj.op = 3 → oi.dst = none → oj.dst = none →
      GW P oi (msk oi f) nt h (.tup []) h1 → GW P oj (msk oj f) nt h1 (.tup []) h2 → GW P oj (msk oj f) nt h (.tup []) h3 → GW P oi (msk oi f) nt h3 (.tup []) h4 → HEq' h4 h2 →
      (∀ k ∈ js, bef ms i k = true ∨ Rok P ops nt f h1 k) → (∀ k ∈ js, bef ms j k = true ∨ Rok P ops nt f h2 k) → (∀ k ∈ js, bef ms j k = true ∨ Rok P ops nt f h3 k) → (∀ k ∈ js, bef ms i k = true ∨ Rok P ops nt f h4 k) → TR js [i, j] h h2
end

section
variable {P : Program} {X : Nat → Nat} {S : Sm} {ops : Array Oper} {ms : List Nat} {nt : Nat}
theorem cls_le (op : Op) : cls P op ≤ 3 := by
  unfold cls
  repeat' split
  all_goals omega
theorem dsts_cons {i : Nat} {o : Oper} (ho : ops[i]? = some o) (r : List Nat) (t : Nat) : t ∈ dsts ops (i :: r) ↔ o.dst = some t ∨ t ∈ dsts ops r := by
  unfold dsts
  simp only [List.filterMap_cons, ho, Option.bind_some]
  cases hd : o.dst with
  | none => simp
  | some d => simp [eq_comm]
theorem put_other {e : Env} {o : Oper} {v : V} {t : Nat} (h : o.dst ≠ some t) : put e o.dst v t = e t := by
  cases hd : o.dst with
  | none => rfl
  | some d =>
    show (bif Nat.beq t d then v else e t) = e t
    rw [beq_eq, decide_eq_false (fun e => h (by rw [hd, e]))]; rfl
theorem put_self {e : Env} {d : Nat} {v : V} : put e (some d) v d = v := by simp [put, upd]
structure OK1 (P : Program) (ops : Array Oper) (ms : List Nat) (i : Nat) (r : List Nat) (o : Oper) : Prop where
  rds : ∀ t ∈ rd o ++ gds ops o, t ∉ dsts ops (i :: r) ∧ ∀ j d, j < ops.size → (ops[j]?).bind (·.dst) = some d → d = t → bef ms i j = true
  dst : ∀ d, o.dst = some d → d ∉ dsts ops r
  gd : ∀ g want, o.guard = some (g, want) → ((ops[g]?).bind (·.dst)).isSome = true
  deps : ∀ d ∈ o.after.toList, Go.Region.binds .any d = true → d.on < ops.size ∧ d.on ∉ i :: r
  wr : cls P o.op = 3 → (∀ j ∈ r, cls P (opAt ops j).op = 0 ∨ bef ms j i = true) ∨ isPr ops ms i r = true
  new : i ∉ r
theorem okS_cons {i : Nat} {r : List Nat} (h : okS P ops ms (i :: r) = true) : ∃ o, ops[i]? = some o ∧ OK1 P ops ms i r o ∧ okS P ops ms r = true := by
  unfold okS at h
  rw [Bool.and_eq_true, Bool.and_eq_true] at h
  obtain ⟨⟨h1, h2⟩, h3⟩ := h
  cases ho : ops[i]? with
  | none => rw [ho] at h1; cases h1
  | some o =>
    rw [ho] at h1
    simp only [Bool.and_eq_true] at h1
    obtain ⟨⟨⟨⟨q1, q2⟩, q3⟩, q4⟩, q5⟩ := h1
    refine ⟨o, rfl, ⟨fun t ht => ?_, fun d hd => ?_, fun g want hg => ?_, fun d hd hb => ?_, fun hc => ?_, fun hm => ?_⟩, h3⟩
    · have := List.all_eq_true.1 q1 t ht
      rw [Bool.and_eq_true] at this
      refine ⟨fun hm => ?_, fun j d hj hd hdt => ?_⟩
      · rw [mem_true.2 hm] at this; cases this.1
      · have h4 := List.all_eq_true.1 this.2 j (by simpa using hj)
        rw [hd] at h4
        simp only [beq_eq, hdt, decide_true, Bool.not_true, Bool.false_or] at h4
        exact h4
    · rw [hd] at q2
      intro hm
      have q2' : (!mem (dsts ops r) d) = true := q2
      rw [mem_true.2 hm] at q2'; cases q2'
    · rw [hg] at q3; exact q3
    · have := List.all_eq_true.1 q4 d hd
      rw [hb] at this
      simp only [Bool.not_true, Bool.false_or, Bool.and_eq_true] at this
      refine ⟨Nat.le_of_ble_eq_true this.1, fun hm => ?_⟩
      rw [mem_true.2 hm] at this; cases this.2
    · rw [hc] at q5
      rcases (by simpa using q5 : (∀ x ∈ r, cls P (opAt ops x).op = 0 ∨ bef ms x i = true) ∨ isPr ops ms i r = true) with h5 | h5
      · exact .inl h5
      · exact .inr h5
    · rw [mem_true.2 hm] at h2; cases h2
theorem gv_eq {e f : Env} {g : Nat} (h : ∀ t, (ops[g]?).bind (·.dst) = some t → f t = e t) : gv ops f g = gv ops e g := by
  unfold gv
  cases hd : (ops[g]?).bind (·.dst) with
  | none => rfl
  | some t => exact h t hd
/-- the loads behind a writer -/
theorem chks_some {e : Env} {h : H} {K : A} {r : V × H} : ∀ (js : List Nat), chks P ops e h js K = some r → K = some r ∧ ∀ j ∈ js, ∃ o, ops[j]? = some o ∧
    ((∃ g want, o.guard = some (g, want) ∧ (gv ops e g = .bool (!want) ∨ ∃ l, gv ops e g = .tup l)) ∨ ∃ d, o.dst = some d ∧ ∀ h2, Sup h h2 → GR P o (msk o e) nt h2 (e d))
  | [], hh => ⟨hh, by simp⟩
  | j :: js, hh => by
    have hh' : chk1 P ops e h j (chks P ops e h js K) = some r := hh
    unfold chk1 at hh'
    have fin : ∀ o d, ops[j]? = some o → o.dst = some d → (dR P o (msk o e) h fun v => veq v (e d) (chks P ops e h js K)) = some r → K = some r ∧ ∀ k ∈ j :: js, ∃ o, ops[k]? = some o ∧
        ((∃ g want, o.guard = some (g, want) ∧ (gv ops e g = .bool (!want) ∨ ∃ l, gv ops e g = .tup l)) ∨ ∃ d, o.dst = some d ∧ ∀ h2, Sup h h2 → GR P o (msk o e) nt h2 (e d)) := by
      intro o d ho hd hq
      obtain ⟨v, h1, h2⟩ := dR_sound (nt := nt) hq
      obtain ⟨rfl, h3⟩ := veq_some h1
      obtain ⟨h4, h5⟩ := chks_some js h3
      refine ⟨h4, fun k hk => ?_⟩
      rcases List.mem_cons.1 hk with rfl | hk
      · exact ⟨o, ho, .inr ⟨d, hd, h2⟩⟩
      · exact h5 k hk
    split at hh'
    · rename_i o ho
      split at hh'
      · rename_i d hd
        split at hh'
        · exact fin o d ho hd hh'
        · rename_i g want hg
          rcases chg_some hh' with ⟨h1, h2⟩ | ⟨h1, h2⟩
          · exact fin o d ho hd h2
          · obtain ⟨h4, h5⟩ := chks_some js h2
            refine ⟨h4, fun k hk => ?_⟩
            rcases List.mem_cons.1 hk with rfl | hk
            · exact ⟨o, ho, .inl ⟨g, want, hg, h1⟩⟩
            · exact h5 k hk
      · cases hh'
    · cases hh'
/-! ### two stores of no set order -/
theorem HEq'.symm {a b : H} (h : HEq' a b) : HEq' b a := ⟨h.1.symm, fun k => (h.2 k).symm⟩
def wrL (l : List V) (p : Nat) (vs : List V) : List V := l.take p ++ (vs ++ l.drop (p + vs.length))
theorem wrL_length {l : List V} {p : Nat} {vs : List V} (h : p + vs.length ≤ l.length) : (wrL l p vs).length = l.length := by
  unfold wrL; simp only [List.length_append, List.length_take, List.length_drop]; omega
theorem wrL_get {l : List V} {p : Nat} {vs : List V} (h : p + vs.length ≤ l.length) (k : Nat) : (wrL l p vs)[k]? = if k < p then l[k]? else if k < p + vs.length then vs[k - p]? else l[k]? := by
  unfold wrL
  have htl : (l.take p).length = p := by simp; omega
  by_cases h1 : k < p
  · rw [if_pos h1, List.getElem?_append_left (by omega), List.getElem?_take_of_lt h1]
  · rw [if_neg h1, List.getElem?_append_right (by omega), htl]
    by_cases h2 : k < p + vs.length
    · rw [if_pos h2, List.getElem?_append_left (by omega)]
    · rw [if_neg h2, List.getElem?_append_right (by omega), List.getElem?_drop, show p + vs.length + (k - p - vs.length) = k by omega]
theorem wrL_comm {l : List V} {p q : Nat} {vs us : List V} (h : p + vs.length ≤ l.length) (h' : q + us.length ≤ l.length) (hd : p + vs.length ≤ q ∨ q + us.length ≤ p) : wrL (wrL l p vs) q us = wrL (wrL l q us) p vs := by
  apply List.ext_getElem?
  intro k
  rw [wrL_get (l := wrL l p vs) (p := q) (vs := us) (by rw [wrL_length h]; exact h'), wrL_get (l := wrL l q us) (p := p) (vs := vs) (by rw [wrL_length h']; exact h), wrL_get (l := l) (p := p) (vs := vs) h, wrL_get (l := l) (p := q) (vs := us) h']
  by_cases h1 : k < p <;> by_cases h2 : k < q <;> by_cases h3 : k < p + vs.length <;> by_cases h4 : k < q + us.length <;> simp only [h1, h2, h3, h4, if_true, if_false] <;> omega
def stVs (P : Program) (e : Env) (t : TypeId) (x : Operand) : List V := bif isAg P t then (match evA P e x with | .agg l => l | _ => []) else [evA P e x]
theorem store_form {o : Oper} {t : TypeId} {x y : Operand} (ho : o.op = .store t x y) {e : Env} {h : H} {K : V → H → A} {r : V × H} (hh : dW P X S o e h K = some r) :
    ∃ b p fz l, evA P e x = .ptr b p ∧ h.get b = some (.cells false fz l) ∧ (stVs P e t y).length = P.cellsOf t ∧ p + (stVs P e t y).length ≤ l.length ∧ K (.tup []) (h.put b (.cells false fz (wrL l p (stVs P e t y)))) = some r ∧
      ∀ (g : H) (l' : List V), g.get b = some (.cells false fz l') → l'.length = l.length → GW P o e nt g (.tup []) (g.put b (.cells false fz (wrL l' p (stVs P e t y)))) := by
  unfold dW at hh
  rw [ho] at hh
  simp only at hh
  rw [toP_some] at hh
  obtain ⟨b, o', hx, hh⟩ := hh
  rw [bif_none] at hh
  obtain ⟨hi, hh⟩ := hh
  obtain ⟨d, i, hd, hi'⟩ := hasInfo_some hi
  cases hag : isAg P t with
  | true =>
    rw [hag, cd_true, toA_some] at hh
    obtain ⟨l, hy, hh⟩ := hh
    rw [stN_some] at hh
    obtain ⟨h1, hh⟩ := hh
    obtain ⟨fz, cs, h2, h3, h4⟩ := stL_some hh
    have hvs : stVs P e t y = l := by simp [stVs, hag, hy]
    rw [hvs]
    exact ⟨b, o', fz, cs, hx, h2, h1, h3, h4, fun g l' hg hl ι w a hr he => g_store_agg ho hx hy (by rw [hi']; rfl) h1 hg (by omega) hr he⟩
  | false =>
    rw [hag, cd_false, bif_none, beq_eq] at hh
    obtain ⟨h1, hh⟩ := hh
    have h1 := of_decide_eq_true h1
    obtain ⟨fz, cs, h2, h3, h4, h5⟩ := st_some hh
    have hvs : stVs P e t y = [evA P e y] := by simp [stVs, hag]
    have hset : ∀ l' : List V, o' < l'.length → wrL l' o' [evA P e y] = l'.set o' (evA P e y) := by
      intro l' hl
      unfold wrL
      rw [List.set_eq_take_append_cons_drop, if_pos hl]; rfl
    rw [hvs]
    refine ⟨b, o', fz, cs, hx, h2, h1.symm, (by show o' + 1 ≤ cs.length; omega), by rw [hset cs h4]; exact h5, fun g l' hg hl ι w a hr he => ?_⟩
    rw [hset l' (by omega)]
    exact g_store_one ho hx h3 h1 hg (by omega) hr he
theorem dsj_some {b p n b' p' n' : Nat} {K : A} {r : V × H} (h : dsj b p n b' p' n' K = some r) : K = some r ∧ (b ≠ b' ∨ p + n ≤ p' ∨ p' + n' ≤ p) := by
  unfold dsj at h
  rw [beq_eq] at h
  by_cases hb : b = b'
  · rw [decide_eq_true hb] at h
    have h' : (Bool.casesOn (Nat.ble (Nat.add p n) p') (Bool.casesOn (Nat.ble (Nat.add p' n') p) none K) K : A) = some r := h
    rw [ble_eq] at h'
    by_cases h1 : Nat.add p n ≤ p'
    · rw [decide_eq_true h1] at h'; exact ⟨h', .inr (.inl h1)⟩
    · rw [decide_eq_false h1] at h'
      have h'' : (Bool.casesOn (Nat.ble (Nat.add p' n') p) none K : A) = some r := h'
      rw [bool_none, ble_eq] at h''
      exact ⟨h''.2, .inr (.inr (of_decide_eq_true h''.1))⟩
  · rw [decide_eq_false hb] at h
    exact ⟨h, .inl hb⟩
theorem plainSt_of {o : Oper} (h : plainSt o = true) : ∃ t x y, o.op = .store t x y ∧ o.guard = none ∧ o.dst = none := by
  unfold plainSt at h
  split at h
  · rename_i t x y h1 h2 h3; exact ⟨t, x, y, h1, h2, h3⟩
  · cases h
theorem isPr_of {i : Nat} {r : List Nat} (h : isPr ops ms i r = true) : ∃ j, r = [j] ∧ bef ms j i = false ∧ plainSt (opAt ops i) = true ∧ plainSt (opAt ops j) = true := by
  unfold isPr at h
  split at h
  · rename_i j
    simp only [Bool.and_eq_true, Bool.not_eq_true'] at h
    exact ⟨j, rfl, h.1.1, h.1.2, h.2⟩
  · cases h
def JS (P : Program) (ops : Array Oper) (l js : List Nat) : Prop := ∀ j ∈ js, ∃ o, ops[j]? = some o ∧ (∀ t ∈ rd o ++ gds ops o, t ∉ dsts ops l) ∧ ∀ d, o.dst = some d → d ∉ dsts ops l
theorem dDr_TR (hX : XOK P X) (hS : SOK P S) {r : V × H} : ∀ (l js : List Nat) (e : Env) (h : H) (K : Env → H → A), okS P ops ms l = true → JS P ops l js → dDr P X S ops ms l js e h K = some r →
    ∃ f hf, K f hf = some r ∧ (∀ t, t ∉ dsts ops l → f t = e t) ∧ TR P ops ms nt f js l h hf
  | [], js, e, h, K, hok, hjs, hh => ⟨e, h, hh, fun _ _ => rfl, .nil⟩
  | i :: l, js, e, h, K, hok, hjs, hh => by
    obtain ⟨o, ho, h1, hok'⟩ := okS_cons hok
    unfold dDr at hh
    rw [ho] at hh
    simp only at hh
    have hjs' : JS P ops l (jsn P o i js) := by
      intro j hj
      unfold jsn at hj
      have sub : ∀ t, t ∉ dsts ops (i :: l) → t ∉ dsts ops l := fun t h2 h3 => h2 ((dsts_cons ho l t).2 (.inr h3))
      have old : j ∈ js → ∃ o, ops[j]? = some o ∧ (∀ t ∈ rd o ++ gds ops o, t ∉ dsts ops l) ∧ ∀ d, o.dst = some d → d ∉ dsts ops l := by
        intro hj
        obtain ⟨o2, g1, g2, g3⟩ := hjs j hj
        exact ⟨o2, g1, fun t ht => sub t (g2 t ht), fun d hd => sub d (g3 d hd)⟩
      cases hc : Nat.beq (cls P o.op) 1 with
      | false => rw [hc] at hj; exact old hj
      | true =>
        rw [hc, cond_true] at hj
        rcases List.mem_cons.1 hj with rfl | hj
        · exact ⟨o, ho, fun t ht => sub t (h1.rds t ht).1, fun d hd => h1.dst d hd⟩
        · exact old hj
    have next : ∀ (v : V) (h' : H), chks P ops (put e o.dst v) h' (cks P ms o i js) (dDr P X S ops ms l (jsn P o i js) (put e o.dst v) h' K) = some r →
        ∃ f hf, K f hf = some r ∧ (∀ t, t ∉ dsts ops (i :: l) → f t = e t) ∧ TR P ops ms nt f (jsn P o i js) l h' hf ∧ dv f o v ∧ (∀ t ∈ rd o ++ gds ops o, f t = e t) ∧ (cls P o.op = 3 → ∀ j ∈ js, bef ms i j = true ∨ Rok P ops nt f h' j) := by
      intro v h' hq
      obtain ⟨h2, h3⟩ := chks_some (nt := nt) _ hq
      obtain ⟨f, hf, h4, h5, h6⟩ := dDr_TR hX hS l _ _ _ _ hok' hjs' h2
      have hfe : ∀ t, t ∉ dsts ops (i :: l) → f t = e t := fun t ht => by
        rw [h5 t (fun h7 => ht ((dsts_cons ho l t).2 (.inr h7)))]
        exact put_other fun h7 => ht ((dsts_cons ho l t).2 (.inl h7))
      refine ⟨f, hf, h4, hfe, h6, fun d hd => ?_, fun t ht => hfe t (h1.rds t ht).1, fun hc j hj => ?_⟩
      · rw [h5 d (h1.dst d hd), hd]; exact put_self
      · cases hb : bef ms i j with
        | true => exact .inl rfl
        | false =>
          right
          have hmem : j ∈ cks P ms o i js := by
            unfold cks
            rw [hc]
            simp [hj, hb]
          obtain ⟨o2, g1, g2⟩ := h3 j hmem
          obtain ⟨o2', g3, g4, g5⟩ := hjs j hj
          rw [g1] at g3; cases g3
          have hrd : ∀ t ∈ rd o2 ++ gds ops o2, f t = put e o.dst v t := fun t ht => h5 t fun h7 => g4 t ht ((dsts_cons ho l t).2 (.inr h7))
          refine ⟨o2, g1, ?_⟩
          rcases g2 with ⟨g, want, hg, g6⟩ | ⟨d, hd, g6⟩
          · left
            refine ⟨g, want, hg, ?_⟩
            have : gv ops f g = gv ops (put e o.dst v) g := gv_eq fun t ht => hrd t (List.mem_append.2 (.inr (by unfold gds; rw [hg]; simp only []; rw [ht]; simp)))
            rw [this]; exact g6
          · right
            refine ⟨f d, fun d' hd' => by rw [hd] at hd'; cases hd'; rfl, fun h2 hs => ?_⟩
            have hm : msk o2 f = msk o2 (put e o.dst v) := msk_congr fun t ht => hrd t (List.mem_append.2 (.inl ht))
            have hd2 : f d = put e o.dst v d := h5 d fun h7 => g5 d hd ((dsts_cons ho l d).2 (.inr h7))
            rw [hm, hd2]; exact g6 h2 hs
    have run : ∀ {K' : V → H → A}, dAny P X S o (msk o e) h K' = some r → (∀ v h', K' v h' = chks P ops (put e o.dst v) h' (cks P ms o i js) (dDr P X S ops ms l (jsn P o i js) (put e o.dst v) h' K)) →
        (∀ f : Env, (∀ t ∈ rd o ++ gds ops o, f t = e t) → wnt ops f o) → (cls P o.op = 3 → ∀ j ∈ l, cls P (opAt ops j).op = 0 ∨ bef ms j i = true) → ∃ f hf, K f hf = some r ∧ (∀ t, t ∉ dsts ops (i :: l) → f t = e t) ∧ TR P ops ms nt f js (i :: l) h hf := by
      intro K' hq hK' hw hwr
      unfold dAny at hq
      have hle := cls_le (P := P) o.op
      split at hq
      · rename_i hc
        obtain ⟨v, g1, g2⟩ := dP_sound (nt := nt) hq
        rw [hK'] at g1
        obtain ⟨f, hf, g3, g4, g5, g6, g7, g8⟩ := next v h g1
        have hm : msk o e = msk o f := msk_congr fun t ht => (g7 t (List.mem_append.2 (.inl ht))).symm
        exact ⟨f, hf, g3, g4, .pr ho (hw f g7) hc g6 (hm ▸ g2) g5⟩
      · rename_i hc
        obtain ⟨v, g1, g2⟩ := dR_sound (nt := nt) hq
        rw [hK'] at g1
        obtain ⟨f, hf, g3, g4, g5, g6, g7, g8⟩ := next v h g1
        have hm : msk o e = msk o f := msk_congr fun t ht => (g7 t (List.mem_append.2 (.inl ht))).symm
        exact ⟨f, hf, g3, g4, .rr ho (hw f g7) hc g6 (hm ▸ g2) g5⟩
      · rename_i hc
        obtain ⟨x, vf, g1, g2⟩ := dA_sound (nt := nt) hq
        rw [nB_eq, hK'] at g1
        obtain ⟨f, hf, g3, g4, g5, g6, g7, g8⟩ := next _ _ g1
        have hm : msk o e = msk o f := msk_congr fun t ht => (g7 t (List.mem_append.2 (.inl ht))).symm
        exact ⟨f, hf, g3, g4, .ar ho (hw f g7) hc g6 (hm ▸ g2) g5⟩
      · rename_i n0 n1 n2
        have hc : cls P o.op = 3 := by
          have a0 : cls P o.op ≠ 0 := fun h => n0 h
          have a1 : cls P o.op ≠ 1 := fun h => n1 h
          have a2 : cls P o.op ≠ 2 := fun h => n2 h
          omega
        obtain ⟨v, h', g1, g2⟩ := dW_sound (nt := nt) hX hS hq
        rw [hK'] at g1
        obtain ⟨f, hf, g3, g4, g5, g6, g7, g8⟩ := next v h' g1
        have hm : msk o e = msk o f := msk_congr fun t ht => (g7 t (List.mem_append.2 (.inl ht))).symm
        exact ⟨f, hf, g3, g4, .wr ho (hw f g7) hc g6 (hm ▸ g2) (g8 hc) (hwr hc) g5⟩
    cases hg : o.guard with
    | none =>
      rw [hg] at hh
      simp only at hh
      cases hpr : isPr ops ms i l with
      | false =>
        rw [hpr, cd_false] at hh
        exact run hh (fun _ _ => rfl) (fun f _ => .inl hg) fun hc => by
          rcases h1.wr hc with h9 | h9
          · exact h9
          · rw [hpr] at h9; cases h9
      | true =>
        rw [hpr, cd_true] at hh
        obtain ⟨j, rfl, hbji, hpi, hpj⟩ := isPr_of hpr
        have hopi : opAt ops i = o := by unfold opAt; simp [ho]
        obtain ⟨oj, hoj, ok1j, _⟩ := okS_cons hok'
        have hopj : opAt ops j = oj := by unfold opAt; simp [hoj]
        rw [hopi] at hpi
        rw [hopj] at hpj
        obtain ⟨t, x, y, hs1, hs2, hs3⟩ := plainSt_of hpi
        obtain ⟨t', x', y', hs1', hs2', hs3'⟩ := plainSt_of hpj
        have hj0 : [j].headD 0 = j := rfl
        unfold dPair at hh
        rw [hj0, hopi, hopj, hs1, hs1'] at hh
        simp only [stT] at hh
        rw [toP_some] at hh
        obtain ⟨b, p, hb, hh⟩ := hh
        rw [toP_some] at hh
        obtain ⟨b', p', hb', hh⟩ := hh
        obtain ⟨hh, hdis⟩ := dsj_some hh
        obtain ⟨b1, p1, fz, cs, e1, g1, v1, f1, hh, W1⟩ := store_form (nt := nt) hs1 hh
        rw [hb] at e1; cases e1
        obtain ⟨b2, p2, fz2, cs2, e2, g2, v2, f2, hh, W2⟩ := store_form (nt := nt) hs1' hh
        rw [hb'] at e2; cases e2
        obtain ⟨b3, p3, fz3, cs3, e3, g3, v3, f3, hh, W3⟩ := store_form (nt := nt) hs1' hh
        rw [hb'] at e3; cases e3
        obtain ⟨hh, c1⟩ := chks_some (nt := nt) _ hh
        obtain ⟨hh, c2⟩ := chks_some (nt := nt) _ hh
        obtain ⟨hh, c3⟩ := chks_some (nt := nt) _ hh
        obtain ⟨hh, c4⟩ := chks_some (nt := nt) _ hh
        have hci : cls P o.op = 3 := by rw [hs1]
        have hcj : cls P oj.op = 3 := by rw [hs1']
        have stab : ∀ {k : Nat} {ok : Oper} {hx : H}, cls P ok.op = 3 → (∀ m ∈ cks P ms ok k js, ∃ o, ops[m]? = some o ∧
            ((∃ g want, o.guard = some (g, want) ∧ (gv ops e g = .bool (!want) ∨ ∃ l, gv ops e g = .tup l)) ∨ ∃ d, o.dst = some d ∧ ∀ h2, Sup hx h2 → GR P o (msk o e) nt h2 (e d))) →
            ∀ m ∈ js, bef ms k m = true ∨ Rok P ops nt e hx m := by
          intro k ok hx hc hall m hm
          cases hbm : bef ms k m with
          | true => exact .inl rfl
          | false =>
            right
            have hmem : m ∈ cks P ms ok k js := by
              unfold cks
              rw [hc]
              simp [hm, hbm]
            obtain ⟨o2, q1, q2⟩ := hall m hmem
            refine ⟨o2, q1, ?_⟩
            rcases q2 with q2 | ⟨d, hd, q3⟩
            · exact .inl q2
            · exact .inr ⟨e d, fun d' hd' => by rw [hd] at hd'; cases hd'; rfl, q3⟩
        have W1h := W1 h cs g1 rfl
        have W2h := W2 _ cs2 g2 rfl
        have W3h := W3 h cs3 g3 rfl
        -- the other order
        have other : ∃ h4, GW P o (msk o e) nt (h.put b' (.cells false fz3 (wrL cs3 p' (stVs P (msk oj e) t' y')))) (.tup []) h4 ∧ HEq' h4 ((h.put b (.cells false fz (wrL cs p (stVs P (msk o e) t y)))).put b' (.cells false fz2 (wrL cs2 p' (stVs P (msk oj e) t' y')))) := by
          by_cases hbb : b = b'
          · subst hbb
            rw [g1] at g3; cases g3
            rw [H.get_put, if_pos rfl] at g2; cases g2
            refine ⟨_, W1 _ (wrL cs p' (stVs P (msk oj e) t' y')) (by rw [H.get_put, if_pos rfl]) (wrL_length f3), by simp only [H.n_put], fun k => ?_⟩
            simp only [H.get_put]
            by_cases hk : k = b
            · simp only [if_pos hk]
              rw [wrL_comm f1 f3 (by rw [v1, v3]; rcases hdis with h9 | h9 | h9; exact absurd rfl h9; exact .inl h9; exact .inr h9)]
            · simp only [if_neg hk]
          · have g2' : h.get b' = some (.cells false fz2 cs2) := by rw [H.get_put, if_neg (Ne.symm hbb)] at g2; exact g2
            rw [g3] at g2'; cases g2'
            refine ⟨_, W1 _ cs (by rw [H.get_put, if_neg hbb]; exact g1) rfl, by simp only [H.n_put], fun k => ?_⟩
            simp only [H.get_put]
            by_cases hk : k = b
            · subst hk; simp only [if_true, if_neg hbb]
            · simp only [if_neg hk]
        obtain ⟨h4, W4, heq⟩ := other
        have c4' := stab hci c4
        refine ⟨e, _, hh, fun _ _ => rfl, .ws ho hoj hpr hg hs2' hci hcj hs3 hs3' W1h W2h W3h W4 heq (stab hci c1) (stab hcj c2) (stab hcj c3) fun k hk => ?_⟩
        rcases c4' k hk with h9 | ⟨o2, q1, q2⟩
        · exact .inl h9
        · refine .inr ⟨o2, q1, ?_⟩
          rcases q2 with q2 | ⟨v, q3, q4⟩
          · exact .inl q2
          · exact .inr ⟨v, q3, fun h5 hs => q4 h5 fun k hk => (hs k (by rw [heq.1]; exact hk)).trans (heq.2 k)⟩
    | some gw =>
      obtain ⟨g, want⟩ := gw
      rw [hg] at hh
      have hgv : ∀ f : Env, (∀ t ∈ rd o ++ gds ops o, f t = e t) → gv ops f g = gv ops e g := fun f hf => gv_eq fun t ht => hf t (List.mem_append.2 (.inr (by unfold gds; rw [hg]; simp only []; rw [ht]; simp)))
      rcases grd_some hh with ⟨q1, q2⟩ | ⟨q1, q2⟩
      · exact run q2 (fun _ _ => rfl) (fun f hf => .inr ⟨g, want, hg, by rw [hgv f hf]; exact q1⟩) fun hc => by
          rcases h1.wr hc with h9 | h9
          · exact h9
          · obtain ⟨_, _, _, hp9, _⟩ := isPr_of h9
            have hopi : opAt ops i = o := by unfold opAt; simp [ho]
            rw [hopi] at hp9
            obtain ⟨_, _, _, _, hgn, _⟩ := plainSt_of hp9
            rw [hg] at hgn; cases hgn
      · obtain ⟨f, hf, g3, g4, g5, g6, g7, g8⟩ := next _ _ q2
        exact ⟨f, hf, g3, g4, .skip ho ⟨g, want, hg, by rw [hgv f g7]; exact q1⟩ g6 g5⟩
end
end GoEv
namespace GoEv
open Go (IntKind Value World Addr MapEntry Program Oper Op Operand Act Exit undef execOp Sem Result TypeId TypeDesc BinOp UnOp Code Func)
open Go.RowKit (Below)

theorem Sup.push (h : H) (x : Blk) : Sup h (h.push x) := fun b hb => by rw [H.get_push, if_neg (by omega)]
theorem Sup.trans {a b c : H} (h1 : Sup a b) (hn : a.n ≤ b.n) (h2 : Sup b c) : Sup a c := fun k hk => (h2 k (by omega)).trans (h1 k hk)
section
variable {P : Program}
theorem HR.ghost {ι : Inj} {h : H} {w : World} (hr : HR P ι h w) (x : Blk) : HR P ι (h.push x) w := by
  have hne : ∀ b L, ι b = some L → b ≠ h.n := fun b L hb e => by rw [e, hr.dom _ (Nat.le_refl _)] at hb; cases hb
  refine ⟨fun b hb => hr.dom b (by rw [H.n_push] at hb; omega), hr.lt, fun b L y hb hy => ?_, fun b b' L L' y y' hn hb hb' hy hy' ho hl => ?_, H.wf_push hr.wf⟩
  · rw [H.get_push, if_neg (hne b L hb)] at hy; exact hr.blk b L y hb hy
  · rw [H.get_push, if_neg (hne b L hb)] at hy
    rw [H.get_push, if_neg (hne b' L' hb')] at hy'
    exact hr.apart b b' L L' y y' hn hb hb' hy hy' ho hl
theorem Ext.gpush {h0 h : H} {ι0 ι : Inj} {w0 w : World} (hx : Ext h0 ι0 w0 h ι w) (x : Blk) : Ext h0 ι0 w0 (h.push x) ι w := by
  have hn := hx.n
  refine ⟨hx.sub, by rw [H.n_push]; omega, fun b y hb hy ho => ?_, hx.os, hx.tape, hx.output, hx.size, hx.keep, fun b hb hn0 => ?_, hx.new⟩
  · rw [H.get_push, if_neg (by omega)] at hy; exact hx.mono b y hb hy ho
  · rw [H.get_push, if_neg (by omega)]; exact hx.ghost b hb hn0
theorem HR.late {ι : Inj} {h : H} {w : World} (hr : HR P ι h w) {n : Nat} {x : Blk} (hn : n < h.n) (hi : ι n = none) (hg : h.get n = some x) (obj : Go.Obj) (room : Nat) (hx : ∀ ι', Sub ι ι' → BR P ι' x ⟨w.heap.size, 0, room⟩ (w.alloc obj)) :
    ∃ ι', ι' n = some ⟨w.heap.size, 0, room⟩ ∧ (∀ b, b ≠ n → ι' b = ι b) ∧ Sub ι ι' ∧ HR P ι' h (w.alloc obj) := by
  let ι' : Inj := fun b => if b = n then some ⟨w.heap.size, 0, room⟩ else ι b
  have hnew : ι' n = some ⟨w.heap.size, 0, room⟩ := by simp [ι']
  have hold : ∀ b, b ≠ n → ι' b = ι b := fun b hb => by simp [ι', hb]
  have hsub : Sub ι ι' := fun b L hb => by
    have : b ≠ n := fun e => by rw [e, hi] at hb; cases hb
    rw [hold b this]; exact hb
  have hheap : ∀ c, c < w.heap.size → (w.alloc obj).heap[c]? = w.heap[c]? := fun c hc => Below.heap_alloc w obj c hc
  refine ⟨ι', hnew, hold, hsub, ⟨fun b hb => ?_, fun b L hb => ?_, fun b L y hb hy => ?_, fun b b' L L' y y' hne hb hb' hy hy' ho hl => ?_, hr.wf⟩⟩
  · rw [hold b (by omega)]; exact hr.dom b hb
  · by_cases e : b = n
    · subst e; rw [hnew] at hb; cases hb; simp
    · rw [hold b e] at hb; have := hr.lt b L hb; simp; omega
  · by_cases e : b = n
    · subst e; rw [hnew] at hb; cases hb; rw [hg] at hy; cases hy; exact hx ι' hsub
    · rw [hold b e] at hb
      exact (hr.blk b L y hb hy).same hsub (hheap _ (hr.lt b L hb))
  · by_cases e : b = n
    · subst e; rw [hnew] at hb; cases hb
      rw [hold b' (Ne.symm hne)] at hb'
      have := hr.lt b' L' hb'
      show w.heap.size ≠ L'.cb
      omega
    · by_cases e' : b' = n
      · subst e'; rw [hnew] at hb'; cases hb'
        rw [hold b e] at hb
        have := hr.lt b L hb
        show L.cb ≠ w.heap.size
        omega
      · rw [hold b e] at hb; rw [hold b' e'] at hb'
        exact hr.apart b b' L L' y y' hne hb hb' hy hy' ho hl
theorem Ext.late {h0 h : H} {ι0 ι ι' : Inj} {w0 w : World} (hx : Ext h0 ι0 w0 h ι w) {n : Nat} (hn : h0.n ≤ n) {obj : Go.Obj} {room : Nat} (h1 : ι' n = some ⟨w.heap.size, 0, room⟩) (h2 : ∀ b, b ≠ n → ι' b = ι b) (h3 : Sub ι ι') :
    Ext h0 ι0 w0 h ι' (w.alloc obj) := by
  have hs := hx.size
  refine ⟨hx.sub.trans h3, hx.n, hx.mono, hx.os, hx.tape, hx.output, by simp; omega, fun c hc hno => ?_, hx.ghost, fun b L hb hb0 => ?_⟩
  · rw [Below.heap_alloc w obj c (by omega)]; exact hx.keep c hc hno
  · by_cases e : b = n
    · subst e; rw [h1] at hb; cases hb; exact ⟨hn, .inl hs⟩
    · rw [h2 b e] at hb; exact hx.new b L hb hb0

variable (P) (ops : Array Oper) (ms : List Nat) (nt : Nat) (f : Env) (h0 : H) (ι0 : Inj) (w0 : World) (hf : H) (σ : List Nat)
def PendA (ι : Inj) (h : H) (o : Oper) (n : Nat) : Prop := ∃ x vf, GA P o (msk o f) nt x vf ∧ dv f o (vf n) ∧ h.get n = some x ∧ ι n = none ∧ n < h.n ∧ h0.n ≤ n
def Pend (ι : Inj) (h : H) (an : Nat → Nat) (i : Nat) : Prop := ∃ o, ops[i]? = some o ∧ ((unw ops f o ∧ dv f o (.tup [])) ∨ (wnt ops f o ∧
  ((cls P o.op = 0 ∧ ∃ v, dv f o v ∧ GQ P o (msk o f) nt v) ∨ (cls P o.op = 1 ∧ ∃ v, dv f o v ∧ ∀ h2, Sup h h2 → GR P o (msk o f) nt h2 v) ∨ (cls P o.op = 2 ∧ PendA P nt f h0 ι h o (an i)))))
def isA (i : Nat) : Prop := ∃ o, ops[i]? = some o ∧ cls P o.op = 2 ∧ wnt ops f o
structure Mid (D : Nat → Prop) (a : Act) (w : World) (pre suf js : List Nat) (ι : Inj) (h : H) (an : Nat → Nat) : Prop where
  tr : TR P ops ms nt f js suf h hf
  hr : HR P ι h w
  rel : ∀ t, (∀ j o, ops[j]? = some o → o.dst = some t → D j) → VR ι (f t) (a.tmps.getD t undef)
  size : a.tmps.size = nt
  glob : ∀ g, g < P.globals.size → ∃ room, ι g = some ⟨g, 0, room⟩
  defers : a.defers = []
  ext : Ext h0 ι0 w0 h ι w
  pend : ∀ i ∈ pre, ¬ D i → Pend P ops nt f h0 ι h an i
  apart : ∀ i ∈ pre, ∀ j ∈ pre, ¬ D i → ¬ D j → isA P ops f i → isA P ops f j → an i = an j → i = j
  js : ∀ i ∈ pre, ∀ o, ops[i]? = some o → cls P o.op = 1 → i ∈ js
  done : ∀ i ∈ suf, D i → ∀ o, ops[i]? = some o → cls P o.op = 0
def Hp : Prop := ∀ pre i j, σ = pre ++ [i, j] → isPr ops ms i [j] = true → okS P ops ms (pre ++ [j, i]) = true
def Inv (D : Nat → Prop) (a : Act) (w : World) : Prop := ∃ pre suf js ι h an, σ = pre ++ suf ∧ Mid P ops ms nt f h0 ι0 w0 hf D a w pre suf js ι h an ∧ (suf = [] ∨ ∃ i r o, suf = i :: r ∧ ops[i]? = some o ∧ cls P o.op = 3 ∧ ¬ D i)
def Inv2 (D : Nat → Prop) (a : Act) (w : World) : Prop := ∃ σ hf2, okS P ops ms σ = true ∧ Hp P ops ms σ ∧ (∀ i, i < ops.size → i ∈ σ) ∧ HEq' hf2 hf ∧ Inv P ops ms nt f h0 ι0 w0 hf2 σ D a w
end

section
variable {P : Program} {ops : Array Oper} {ms : List Nat} {nt : Nat} {f : Env} {h0 : H} {ι0 : Inj} {w0 : World} {hf : H} {σ : List Nat}
theorem Inv.two {D : Nat → Prop} {a : Act} {w : World} (h1 : okS P ops ms σ = true) (h2 : Hp P ops ms σ) (h3 : ∀ i, i < ops.size → i ∈ σ) (h : Inv P ops ms nt f h0 ι0 w0 hf σ D a w) : Inv2 P ops ms nt f h0 ι0 w0 hf D a w := ⟨σ, hf, h1, h2, h3, ⟨rfl, fun _ => rfl⟩, h⟩
theorem wnt_unw {o : Oper} (h1 : wnt ops f o) (h2 : unw ops f o) : False := by
  obtain ⟨g, want, hg, h3⟩ := h2
  rcases h1 with h1 | ⟨g', want', hg', h4⟩
  · rw [h1] at hg; cases hg
  · rw [hg] at hg'; cases hg'
    rcases h3 with h3 | ⟨l, h3⟩
    · rw [h3] at h4; cases want <;> cases h4
    · rw [h3] at h4; cases h4
theorem jsn_mem {o : Oper} {i : Nat} {js : List Nat} : (∀ j ∈ js, j ∈ jsn P o i js) ∧ (cls P o.op = 1 → i ∈ jsn P o i js) := by
  unfold jsn
  rw [beq_eq]
  by_cases hc : cls P o.op = 1
  · rw [decide_eq_true hc]; exact ⟨fun j hj => by simp [hj], fun _ => by simp⟩
  · rw [decide_eq_false hc]; exact ⟨fun j hj => hj, fun h => absurd h hc⟩
theorem okS_apart : ∀ (pre suf : List Nat), okS P ops ms (pre ++ suf) = true → okS P ops ms suf = true ∧ ∀ j ∈ pre, j ∉ suf
  | [], suf, h => ⟨h, by simp⟩
  | i :: pre, suf, h => by
    obtain ⟨o, ho, h1, h2⟩ := okS_cons (i := i) (r := pre ++ suf) h
    obtain ⟨h3, h4⟩ := okS_apart pre suf h2
    refine ⟨h3, fun j hj => ?_⟩
    rcases List.mem_cons.1 hj with rfl | hj
    · exact fun hm => h1.new (List.mem_append.2 (.inr hm))
    · exact h4 j hj
theorem okS_mem : ∀ (l : List Nat), okS P ops ms l = true → ∀ i ∈ l, ∃ r o, ops[i]? = some o ∧ OK1 P ops ms i r o
  | [], _, i, hi => by cases hi
  | k :: l, h, i, hi => by
    obtain ⟨o, ho, h1, h2⟩ := okS_cons h
    rcases List.mem_cons.1 hi with rfl | hi
    · exact ⟨l, o, ho, h1⟩
    · exact okS_mem l h2 i hi
theorem TR_mem : ∀ {js l : List Nat} {h : H}, TR P ops ms nt f js l h hf → ∀ i ∈ l, ∃ o, ops[i]? = some o ∧ ((unw ops f o ∧ dv f o (.tup [])) ∨ (wnt ops f o ∧ (cls P o.op = 0 → ∃ v, dv f o v ∧ GQ P o (msk o f) nt v))) := by
  intro js l h ht
  induction ht with
  | nil => intro i hi; cases hi
  | skip ho hu hd _ ih =>
    intro k hk
    rcases List.mem_cons.1 hk with rfl | hk
    · exact ⟨_, ho, .inl ⟨hu, hd⟩⟩
    · exact ih k hk
  | pr ho hw hc hd hg _ ih =>
    intro k hk
    rcases List.mem_cons.1 hk with rfl | hk
    · exact ⟨_, ho, .inr ⟨hw, fun _ => ⟨_, hd, hg⟩⟩⟩
    · exact ih k hk
  | rr ho hw hc hd hg _ ih =>
    intro k hk
    rcases List.mem_cons.1 hk with rfl | hk
    · exact ⟨_, ho, .inr ⟨hw, fun h => by omega⟩⟩
    · exact ih k hk
  | ar ho hw hc hd hg _ ih =>
    intro k hk
    rcases List.mem_cons.1 hk with rfl | hk
    · exact ⟨_, ho, .inr ⟨hw, fun h => by omega⟩⟩
    · exact ih k hk
  | wr ho hw hc hd hg hj _ _ ih =>
    intro k hk
    rcases List.mem_cons.1 hk with rfl | hk
    · exact ⟨_, ho, .inr ⟨hw, fun h => by omega⟩⟩
    · exact ih k hk
  | ws hi hj _ hgi hgj hci hcj =>
    intro k hk
    rcases List.mem_cons.1 hk with rfl | hk
    · exact ⟨_, hi, .inr ⟨.inl hgi, fun h => by omega⟩⟩
    · have := List.mem_singleton.1 hk
      subst this
      exact ⟨_, hj, .inr ⟨.inl hgj, fun h => by omega⟩⟩

theorem advance {D : Nat → Prop} {a : Act} {w : World} : ∀ (suf pre js : List Nat) (ι : Inj) (h : H) (an : Nat → Nat), σ = pre ++ suf → okS P ops ms σ = true → Mid P ops ms nt f h0 ι0 w0 hf D a w pre suf js ι h an → Inv P ops ms nt f h0 ι0 w0 hf σ D a w
  | [], pre, js, ι, h, an, hσ, hok, hm => ⟨pre, [], js, ι, h, an, hσ, hm, .inl rfl⟩
  | i :: r, pre, js, ι, h, an, hσ, hok, hm => by
    have hσ' : σ = (pre ++ [i]) ++ r := by rw [hσ]; simp
    have hip : i ∉ pre := fun hp => (okS_apart pre (i :: r) (hσ ▸ hok)).2 i hp (by simp)
    have stop : ∀ o, ops[i]? = some o → cls P o.op = 3 → Inv P ops ms nt f h0 ι0 w0 hf σ D a w := by
      intro o ho hc
      refine ⟨pre, i :: r, js, ι, h, an, hσ, hm, .inr ⟨i, r, o, rfl, ho, hc, fun hd => ?_⟩⟩
      have := hm.done i (by simp) hd o ho
      omega
    -- one more operation lies behind
    have move : ∀ o, ops[i]? = some o → cls P o.op ≠ 3 → cls P o.op ≠ 2 ∨ unw ops f o → TR P ops ms nt f (jsn P o i js) r h hf → (¬ D i → Pend P ops nt f h0 ι h an i) → Inv P ops ms nt f h0 ι0 w0 hf σ D a w := by
      intro o ho hc hna ht hp
      have hnA : ¬ isA P ops f i := by
        rintro ⟨o2, h1, h2, h3⟩
        rw [ho] at h1; cases h1
        rcases hna with h4 | h4
        · exact h4 h2
        · exact wnt_unw h3 h4
      refine advance r (pre ++ [i]) _ ι h an hσ' hok ⟨ht, hm.hr, hm.rel, hm.size, hm.glob, hm.defers, hm.ext, ?_, ?_, ?_, fun j hj => hm.done j (by simp [hj])⟩
      · intro j hj hD
        rcases List.mem_append.1 hj with hj | hj
        · exact hm.pend j hj hD
        · have : j = i := by simpa using hj
          subst this; exact hp hD
      · intro j hj k hk hDj hDk hAj hAk he
        rcases List.mem_append.1 hj with hj | hj
        · rcases List.mem_append.1 hk with hk | hk
          · exact hm.apart j hj k hk hDj hDk hAj hAk he
          · have : k = i := by simpa using hk
            subst this; exact absurd hAk hnA
        · have : j = i := by simpa using hj
          subst this; exact absurd hAj hnA
      · intro j hj o2 ho2 hc2
        rcases List.mem_append.1 hj with hj | hj
        · exact jsn_mem.1 j (hm.js j hj o2 ho2 hc2)
        · have : j = i := by simpa using hj
          subst this
          rw [ho] at ho2; cases ho2
          exact jsn_mem.2 hc2
    have ht := hm.tr
    cases ht with
    | skip ho hu hd ht' =>
      rename_i o
      by_cases hc : cls P o.op = 3
      · exact stop o ho hc
      · exact move o ho hc (.inr hu) ht' fun _ => ⟨o, ho, .inl ⟨hu, hd⟩⟩
    | pr ho hw hc hd hg ht' =>
      rename_i o v
      exact move o ho (by omega) (.inl (by omega)) ht' fun _ => ⟨o, ho, .inr ⟨hw, .inl ⟨hc, v, hd, hg⟩⟩⟩
    | rr ho hw hc hd hg ht' =>
      rename_i o v
      exact move o ho (by omega) (.inl (by omega)) ht' fun _ => ⟨o, ho, .inr ⟨hw, .inr (.inl ⟨hc, v, hd, hg⟩)⟩⟩
    | wr ho hw hc hd hg hj _ ht' => exact stop _ ho hc
    | ws hi hj hpr hgi hgj hci hcj => exact stop _ hi hci
    | ar ho hw hc hd hg ht' =>
      rename_i o x vf
      have hDi : ¬ D i := fun hD => by have := hm.done i (by simp) hD o ho; omega
      let an' : Nat → Nat := fun j => if j = i then h.n else an j
      have ani : an' i = h.n := by simp [an']
      have anj : ∀ j, j ≠ i → an' j = an j := fun j hj => by simp [an', hj]
      have hsup : ∀ h2, Sup (h.push x) h2 → Sup h h2 := fun h2 hs => (Sup.push h x).trans (by rw [H.n_push]; omega) hs
      have pold : ∀ j ∈ pre, ¬ D j → Pend P ops nt f h0 ι (h.push x) an' j := by
        intro j hj hD
        have hji : j ≠ i := fun e => hip (e ▸ hj)
        obtain ⟨o2, ho2, hp⟩ := hm.pend j hj hD
        refine ⟨o2, ho2, ?_⟩
        rcases hp with hp | ⟨hw2, hp⟩
        · exact .inl hp
        · refine .inr ⟨hw2, ?_⟩
          rcases hp with hp | ⟨hc2, v, hd2, hg2⟩ | ⟨hc2, x2, vf2, g1, g2, g3, g4, g5, g6⟩
          · exact .inl hp
          · exact .inr (.inl ⟨hc2, v, hd2, fun h2 hs => hg2 h2 (hsup h2 hs)⟩)
          · refine .inr (.inr ⟨hc2, x2, vf2, g1, ?_, ?_, ?_, ?_, ?_⟩)
            · rw [anj j hji]; exact g2
            · rw [anj j hji, H.get_push, if_neg (by omega)]; exact g3
            · rw [anj j hji]; exact g4
            · rw [anj j hji, H.n_push]; omega
            · rw [anj j hji]; exact g6
      refine advance r (pre ++ [i]) _ ι (h.push x) an' hσ' hok ⟨ht', hm.hr.ghost x, hm.rel, hm.size, hm.glob, hm.defers, hm.ext.gpush x, ?_, ?_, ?_, fun j hj => hm.done j (by simp [hj])⟩
      · intro j hj hD
        rcases List.mem_append.1 hj with hj | hj
        · exact pold j hj hD
        · have : j = i := by simpa using hj
          subst this
          refine ⟨o, ho, .inr ⟨hw, .inr (.inr ⟨hc, x, vf, hg, ?_, ?_, ?_, ?_, ?_⟩)⟩⟩
          · rw [ani]; exact hd
          · rw [ani, H.get_push, if_pos rfl]
          · rw [ani]; exact hm.hr.dom _ (Nat.le_refl _)
          · rw [ani, H.n_push]; omega
          · rw [ani]; exact hm.ext.n
      · have lt : ∀ j ∈ pre, ¬ D j → isA P ops f j → an' j < h.n := by
          intro j hj hD hA
          have hji : j ≠ i := fun e => hip (e ▸ hj)
          obtain ⟨o2, ho2, hp⟩ := hm.pend j hj hD
          obtain ⟨o3, ho3, hc3, hw3⟩ := hA
          rw [ho2] at ho3; cases ho3
          rcases hp with hp | ⟨hw2, hp⟩
          · exact (wnt_unw hw3 hp.1).elim
          · rcases hp with hp | hp | ⟨_, _, _, _, _, _, _, g5, _⟩
            · omega
            · omega
            · rw [anj j hji]; exact g5
        intro j hj k hk hDj hDk hAj hAk he
        rcases List.mem_append.1 hj with hj1 | hj1
        · rcases List.mem_append.1 hk with hk1 | hk1
          · rw [anj j (fun e => hip (e ▸ hj1)), anj k (fun e => hip (e ▸ hk1))] at he
            exact hm.apart j hj1 k hk1 hDj hDk hAj hAk he
          · have hki : k = i := by simpa using hk1
            have := lt j hj1 hDj hAj
            rw [he, hki, ani] at this; omega
        · have hji : j = i := by simpa using hj1
          rcases List.mem_append.1 hk with hk1 | hk1
          · have := lt k hk1 hDk hAk
            rw [← he, hji, ani] at this; omega
          · have hki : k = i := by simpa using hk1
            rw [hji, hki]
      · intro j hj o2 ho2 hc2
        rcases List.mem_append.1 hj with hj | hj
        · exact jsn_mem.1 j (hm.js j hj o2 ho2 hc2)
        · have : j = i := by simpa using hj
          subst this
          rw [ho] at ho2; cases ho2
          exact jsn_mem.2 hc2
end
end GoEv
namespace GoEv
open Go (IntKind Value World Addr MapEntry Program Oper Op Operand Act Exit undef execOp Sem Result TypeId TypeDesc BinOp UnOp Code Func)

section
variable {P : Program} {X : Nat → Nat} {S : Sm} {ops : Array Oper} {nt : Nat} {f : Env} {h0 : H} {ι0 : Inj} {w0 : World} {hf : H} {σ : List Nat} {ms : List Nat}

theorem rel_put {D : Nat → Prop} {i : Nat} {o : Oper} (ho : ops[i]? = some o) {ι ι' : Inj} {a : Act} {v : V} {cv : Value} (hs : Sub ι ι') (hv : VR ι' v cv) (hd : dv f o v) (hlt : ∀ t, o.dst = some t → t < a.tmps.size)
    (hrel : ∀ t, (∀ j o, ops[j]? = some o → o.dst = some t → D j) → VR ι (f t) (a.tmps.getD t undef)) :
    ∀ t, (∀ j o, ops[j]? = some o → o.dst = some t → D j ∨ j = i) → VR ι' (f t) ((a.put o.dst cv).tmps.getD t undef) := by
  intro t ht
  cases hdst : o.dst with
  | none =>
    refine VR.mono hs _ _ (hrel t fun j o' hj hj' => ?_)
    rcases ht j o' hj hj' with h | h
    · exact h
    · subst h; rw [ho] at hj; cases hj; rw [hdst] at hj'; cases hj'
  | some d =>
    by_cases e : t = d
    · subst e
      rw [hd t hdst]
      have := hlt t hdst
      simp [Go.Act.put, this]; exact hv
    · have h1 : VR ι (f t) (a.tmps.getD t undef) := hrel t fun j o' hj hj' => by
        rcases ht j o' hj hj' with h | h
        · exact h
        · subst h; rw [ho] at hj; cases hj; rw [hdst] at hj'; cases hj'; exact absurd rfl e
      have h2 : (a.put (some d) cv).tmps.getD t undef = a.tmps.getD t undef := by
        simp [Go.Act.put, Array.getElem?_setIfInBounds_ne (Ne.symm e)]
      rw [h2]; exact VR.mono hs _ _ h1
theorem put_size (a : Act) (d : Option Nat) (v : Value) : (a.put d v).tmps.size = a.tmps.size := by cases d <;> simp [Go.Act.put]
theorem put_defers (a : Act) (d : Option Nat) (v : Value) : (a.put d v).defers = a.defers := by cases d <;> rfl
theorem Pend.keep {ι ι' : Inj} {h : H} {an : Nat → Nat} {i : Nat} (hp : Pend P ops nt f h0 ι h an i) (hn : isA P ops f i → ∀ n, n < h.n → ι n = none → n = an i → ι' n = none) : Pend P ops nt f h0 ι' h an i := by
  obtain ⟨o, ho, hp⟩ := hp
  refine ⟨o, ho, ?_⟩
  rcases hp with hp | ⟨hw, hp⟩
  · exact .inl hp
  · refine .inr ⟨hw, ?_⟩
    rcases hp with hp | hp | ⟨hc, x, vf, g1, g2, g3, g4, g5, g6⟩
    · exact .inl hp
    · exact .inr (.inl hp)
    · exact .inr (.inr ⟨hc, x, vf, g1, g2, g3, hn ⟨o, ho, hc, hw⟩ _ g5 g4 rfl, g5, g6⟩)
/-- an operation was run, and the memory of the abstract machine is as it was -/
theorem Mid.same {D : Nat → Prop} {a : Act} {w w' : World} {pre suf js : List Nat} {ι ι' : Inj} {h : H} {an : Nat → Nat} {i : Nat} {o : Oper} {v : V} {cv : Value} (hok : okS P ops ms σ = true) (hσ : σ = pre ++ suf) (hm : Mid P ops ms nt f h0 ι0 w0 hf D a w pre suf js ι h an)
    (hhead : suf = [] ∨ ∃ i r o, suf = i :: r ∧ ops[i]? = some o ∧ cls P o.op = 3 ∧ ¬ D i) (ho : ops[i]? = some o) (hlt : ∀ t, o.dst = some t → t < nt)
    (hs : Sub ι ι') (hv : VR ι' v cv) (hd : dv f o v) (hr : HR P ι' h w') (hx : Ext h0 ι0 w0 h ι' w') (hi : i ∈ pre ∨ (i ∈ suf ∧ cls P o.op = 0))
    (hn : ∀ j ∈ pre, j ≠ i → ¬ D j → isA P ops f j → ∀ n, n < h.n → ι n = none → n = an j → ι' n = none) : Inv P ops ms nt f h0 ι0 w0 hf σ (fun j => D j ∨ j = i) (a.put o.dst cv) w' := by
  have hap := (okS_apart pre suf (hσ ▸ hok)).2
  refine ⟨pre, suf, js, ι', h, an, hσ, ⟨hm.tr, hr, rel_put ho hs hv hd (by rw [hm.size]; exact hlt) hm.rel, by rw [put_size]; exact hm.size, fun g hg => ?_, by rw [put_defers]; exact hm.defers, hx, fun j hj hD => ?_, fun j hj k hk hDj hDk => ?_, hm.js, fun j hj hD o' ho' => ?_⟩, ?_⟩
  · obtain ⟨r, h1⟩ := hm.glob g hg; exact ⟨r, hs _ _ h1⟩
  · have hD1 : ¬ D j := fun h => hD (.inl h)
    have hD2 : j ≠ i := fun h => hD (.inr h)
    exact (hm.pend j hj hD1).keep fun hA n h1 h2 h3 => hn j hj hD2 hD1 hA n h1 h2 h3
  · exact hm.apart j hj k hk (fun h => hDj (.inl h)) (fun h => hDk (.inl h))
  · rcases hD with hD | rfl
    · exact hm.done j hj hD o' ho'
    · rw [ho] at ho'; cases ho'
      rcases hi with hi | hi
      · exact absurd hj (hap _ hi)
      · exact hi.2
  · rcases hhead with h1 | ⟨i0, r, o1, h1, h2, h3, h4⟩
    · exact .inl h1
    · refine .inr ⟨i0, r, o1, h1, h2, h3, fun hD => ?_⟩
      rcases hD with hD | rfl
      · exact h4 hD
      · rcases hi with hi | hi
        · exact hap _ hi (by rw [h1]; simp)
        · rw [ho] at h2; cases h2; omega

theorem inv_step (hms : ms = bfrL ops.toList []) (hok : okS P ops ms σ = true) (hHp : Hp P ops ms σ) (hcov : ∀ i, i < ops.size → i ∈ σ) (hdst : dstOK nt ops = true) (hd0 : ∀ b, h0.n ≤ b → ι0 b = none) {Q : Exit → Act → World → Prop} {D : Nat → Prop}
    (hD : ∀ (j : Nat) (o : Oper), ops[j]? = some o → D j → ∀ d ∈ o.after.toList, Go.Region.binds .any d = true → D d.on)
    {i : Nat} (hi : i < ops.size) (hnD : ¬ D i) (hdeps : ∀ o, ops[i]? = some o → ∀ d ∈ o.after.toList, Go.Region.binds .any d = true → D d.on) {a : Act} {w : World} (hinv : Inv P ops ms nt f h0 ι0 w0 hf σ D a w) :
    Go.wpOp P ops Q i (fun a' w' => Inv2 P ops ms nt f h0 ι0 w0 hf (fun j => D j ∨ j = i) a' w') a w := by
  obtain ⟨r, o, ho, ok1⟩ := okS_mem σ hok i (hcov i hi)
  have hlt := dstOK_get hdst ho
  have hbef : ∀ k, bef ms i k = true → D k := fun k hk => bef_sound hD ho (hdeps o ho) (by rw [← hms]; exact hk)
  have hset : ∀ t ∈ rd o ++ gds ops o, ∀ j o', ops[j]? = some o' → o'.dst = some t → D j := by
    intro t ht j o' hj hj'
    have hjs : j < ops.size := (Array.getElem?_eq_some_iff.1 hj).1
    exact hbef j ((ok1.rds t ht).2 j t hjs (by rw [hj]; exact hj') rfl)
  obtain ⟨pre, suf, js, ι, h, an, hσ, hm, hhead⟩ := hinv
  obtain ⟨hoks, hap⟩ := okS_apart pre suf (hσ ▸ hok)
  -- the environment of what the operation reads
  have her : ∀ l : List Nat, (∀ t ∈ l, t ∈ rd o ++ gds ops o) → ER P ι (fun t => bif mem l t then f t else .undef) nt a := by
    intro l hl
    refine ⟨hm.size, fun t => ?_, hm.glob, hm.defers⟩
    cases hq : mem l t with
    | false => simp [VR]
    | true =>
      simp only [cond_true]
      exact hm.rel t (hset t (hl t (mem_true.1 hq)))
  have her1 : ER P ι (msk o f) nt a := her (rd o) fun t ht => List.mem_append.2 (.inl ht)
  have her2 := her (rd o ++ gds ops o) fun t ht => ht
  have hwant : wnt ops f o → Go.Region.wanted o (Go.yielded ops a.tmps) = true := by
    rintro (hg | ⟨g, want, hg, h1⟩)
    · exact wanted_none hg _
    · rw [wanted_some hg]
      have h2 : gv ops (fun t => bif mem (rd o ++ gds ops o) t then f t else .undef) g = .bool want := by
        rw [← h1]
        refine gv_eq fun t ht => ?_
        have : t ∈ rd o ++ gds ops o := List.mem_append.2 (.inr (by unfold gds; rw [hg]; simp only []; rw [ht]; simp))
        rw [mem_true.2 this]; rfl
      rw [(yielded_of her2 ops g).1 _ h2]; simp
  have hunw : unw ops f o → Go.Region.wanted o (Go.yielded ops a.tmps) = false := by
    rintro ⟨g, want, hg, h1⟩
    rw [wanted_some hg]
    have h2 : gv ops (fun t => bif mem (rd o ++ gds ops o) t then f t else .undef) g = gv ops f g := by
      refine gv_eq fun t ht => ?_
      have : t ∈ rd o ++ gds ops o := List.mem_append.2 (.inr (by unfold gds; rw [hg]; simp only []; rw [ht]; simp))
      rw [mem_true.2 this]; rfl
    rcases h1 with h1 | ⟨l, h1⟩
    · rw [(yielded_of her2 ops g).1 _ (h2.trans h1)]; cases want <;> rfl
    · rw [(yielded_of her2 ops g).2 _ (h2.trans h1)]; rfl
  unfold Go.wpOp
  rw [ho]
  simp only
  -- not wanted
  have skip : unw ops f o → dv f o (.tup []) → (i ∈ pre ∨ (i ∈ suf ∧ cls P o.op = 0)) → (if Go.Region.wanted o (Go.yielded ops a.tmps) = true then o.wp P a w (fun a' w' => Inv2 P ops ms nt f h0 ι0 w0 hf (fun j => D j ∨ j = i) a' w') Q ∨ (o.asks P a w ∧ Go.LetsOut Q) else Inv2 P ops ms nt f h0 ι0 w0 hf (fun j => D j ∨ j = i) (a.put o.dst undef) w) := by
    intro hu hdv hpl
    rw [hunw hu, if_neg (by simp)]
    refine Inv.two hok hHp hcov ?_
    exact Mid.same hok hσ hm hhead ho hlt (Sub.refl _) (VR_undef ι) hdv hm.hr hm.ext hpl fun _ _ _ _ _ _ _ h2 _ => h2
  -- wanted, and the memory stays
  have stay : wnt ops f o → ∀ v, dv f o v → Good P o h ι w a v h → (i ∈ pre ∨ (i ∈ suf ∧ cls P o.op = 0)) → (if Go.Region.wanted o (Go.yielded ops a.tmps) = true then o.wp P a w (fun a' w' => Inv2 P ops ms nt f h0 ι0 w0 hf (fun j => D j ∨ j = i) a' w') Q ∨ (o.asks P a w ∧ Go.LetsOut Q) else Inv2 P ops ms nt f h0 ι0 w0 hf (fun j => D j ∨ j = i) (a.put o.dst undef) w) := by
    intro hw v hdv hg hpl
    rw [hwant hw, if_pos rfl]
    refine .inl (hg _ Q fun cv w' ι' h1 h2 h3 => ?_)
    refine Inv.two hok hHp hcov ?_
    refine Mid.same hok hσ hm hhead ho hlt h3.sub h1 hdv h2 (hm.ext.trans hd0 h3) hpl fun _ _ _ _ _ n hn hι _ => ?_
    cases hq : ι' n with
    | none => rfl
    | some L => have := (h3.new n L hq hι).1; omega
  -- a write
  have wstep : ∀ (σx r : List Nat) (hfx h' : H) (v : V), okS P ops ms σx = true → Hp P ops ms σx → (∀ i, i < ops.size → i ∈ σx) → HEq' hfx hf → σx = (pre ++ [i]) ++ r → TR P ops ms nt f (jsn P o i js) r h' hfx → dv f o v → GW P o (msk o f) nt h v h' →
      (∀ k ∈ js, bef ms i k = true ∨ Rok P ops nt f h' k) → wnt ops f o → cls P o.op = 3 → (∀ k ∈ r, D k ∨ k = i → ∀ o', ops[k]? = some o' → cls P o'.op = 0) →
      (if Go.Region.wanted o (Go.yielded ops a.tmps) = true then o.wp P a w (fun a' w' => Inv2 P ops ms nt f h0 ι0 w0 hf (fun j => D j ∨ j = i) a' w') Q ∨ (o.asks P a w ∧ Go.LetsOut Q) else Inv2 P ops ms nt f h0 ι0 w0 hf (fun j => D j ∨ j = i) (a.put o.dst undef) w) := by
    intro σx r hfx h' v hokx hHpx hcovx heqx hσx htx hdv hg hchk hw hc3 hdonex
    have hjs' : ∀ k ∈ pre ++ [i], ∀ o', ops[k]? = some o' → cls P o'.op = 1 → k ∈ jsn P o i js := by
      intro k hk o' hk' hc
      rcases List.mem_append.1 hk with hk1 | hk1
      · exact jsn_mem.1 k (hm.js k hk1 o' hk' hc)
      · have : k = i := by simpa using hk1
        subst this
        rw [ho] at hk'; cases hk'; omega
    have hpre : ∀ k ∈ pre ++ [i], ¬ (D k ∨ k = i) → k ∈ pre ∧ ¬ D k := by
      intro k hk hD'
      rcases List.mem_append.1 hk with hk1 | hk1
      · exact ⟨hk1, fun hh => hD' (.inl hh)⟩
      · exact absurd (.inr (by simpa using hk1)) hD'
    have hapart' : ∀ k ∈ pre ++ [i], ∀ l ∈ pre ++ [i], ¬ (D k ∨ k = i) → ¬ (D l ∨ l = i) → isA P ops f k → isA P ops f l → an k = an l → k = l := by
      intro k hk l hl hDk hDl
      obtain ⟨k1, k2⟩ := hpre k hk hDk
      obtain ⟨l1, l2⟩ := hpre l hl hDl
      exact hm.apart k k1 l l1 k2 l2
    rw [hwant hw, if_pos rfl]
    refine .inl (hg ι w a hm.hr her1 _ Q fun cv w' ι' p1 p2 p3 => ?_)
    refine ⟨σx, hfx, hokx, hHpx, hcovx, heqx, ?_⟩
    refine advance r (pre ++ [i]) _ ι' h' an hσx hokx ⟨htx, p2, rel_put ho p3.sub p1 hdv (by rw [hm.size]; exact hlt) hm.rel, by rw [put_size]; exact hm.size, fun g hg => ?_, by rw [put_defers]; exact hm.defers, hm.ext.trans hd0 p3, fun k hk hDk => ?_, hapart', hjs', hdonex⟩
    · obtain ⟨r, h1⟩ := hm.glob g hg; exact ⟨r, p3.sub _ _ h1⟩
    · obtain ⟨k1, k2⟩ := hpre k hk hDk
      obtain ⟨o2, ho2, hp⟩ := hm.pend k k1 k2
      refine ⟨o2, ho2, ?_⟩
      rcases hp with hp | ⟨hw2, hp⟩
      · exact .inl hp
      · refine .inr ⟨hw2, ?_⟩
        rcases hp with hp | ⟨hc2, hp⟩ | ⟨hc2, x, vf, g1, g2, g3, g4, g5, g6⟩
        · exact .inl hp
        · refine .inr (.inl ⟨hc2, ?_⟩)
          rcases hchk k (hm.js k k1 o2 ho2 hc2) with hb | ⟨o3, ho3, hb⟩
          · exact absurd (hbef k hb) k2
          · rw [ho2] at ho3; cases ho3
            rcases hb with hb | hb
            · exact (wnt_unw hw2 hb).elim
            · exact hb
        · have hnn := p3.n
          refine .inr (.inr ⟨hc2, x, vf, g1, g2, by rw [p3.ghost _ g5 g4]; exact g3, ?_, by omega, g6⟩)
          cases hq : ι' (an k) with
          | none => rfl
          | some L => have := (p3.new _ L hq g4).1; omega
  have hrefl : HEq' hf hf := ⟨rfl, fun _ => rfl⟩
  have hjsn3 : cls P o.op = 3 → jsn P o i js = js := by
    intro hc; unfold jsn; rw [hc]; rfl
  have hmem : i ∈ pre ++ suf := hσ ▸ hcov i hi
  rcases List.mem_append.1 hmem with hip | his
  · obtain ⟨o2, ho2, hp⟩ := hm.pend i hip hnD
    rw [ho] at ho2; cases ho2
    rcases hp with ⟨hu, hdv⟩ | ⟨hw, hp⟩
    · exact skip hu hdv (.inl hip)
    · rcases hp with ⟨hc, v, hdv, hg⟩ | ⟨hc, v, hdv, hg⟩ | ⟨hc, x, vf, g1, g2, g3, g4, g5, g6⟩
      · exact stay hw v hdv (hg h ι w a hm.hr her1) (.inl hip)
      · exact stay hw v hdv (hg h (Sup.refl h) ι w a hm.hr her1) (.inl hip)
      · rw [hwant hw, if_pos rfl]
        left
        obtain ⟨cv, w1, obj, room, q1, q2, q3, q4⟩ := g1 h ι w a hm.hr her1
        have hr1 : HR P ι h w1 := by rcases q2 with rfl | rfl; exact hm.hr; exact hm.hr.drew
        have hx1 : Ext h0 ι0 w0 h ι w1 := by rcases q2 with rfl | rfl; exact hm.ext; exact hm.ext.drew
        have hs1 : w1.heap.size = w.heap.size := by rcases q2 with rfl | rfl <;> rfl
        obtain ⟨ι', p1, p2, p3, p4⟩ := hr1.late g5 g4 g3 obj room (by rw [hs1]; exact q3)
        unfold Go.Oper.wp
        rw [q1]
        refine Inv.two hok hHp hcov ?_
        refine Mid.same hok hσ hm hhead ho hlt p3 (q4 ι' _ (by rw [← hs1]; exact p1)) g2 p4 (hx1.late g6 p1 p2 p3) (.inl hip) fun j hj hji hDj hA n hn hι hnj => ?_
        have : n ≠ an i := fun e => hji (hm.apart j hj i hip hDj hnD hA ⟨o, ho, hc, hw⟩ (by rw [← hnj, e]))
        rw [p2 n this]; exact hι
  · rcases hhead with h1 | ⟨i0, r0, oo, hsuf, ho0, hc0, hnD0⟩
    · rw [h1] at his; cases his
    · subst hsuf
      by_cases hii : i = i0
      · subst hii
        rw [ho] at ho0; cases ho0
        have hσ' : σ = (pre ++ [i]) ++ r0 := by rw [hσ]; simp
        have hnr : i ∉ r0 := by
          obtain ⟨o', ho', ok', _⟩ := okS_cons hoks
          exact ok'.new
        have hjs' : ∀ k ∈ pre ++ [i], ∀ o', ops[k]? = some o' → cls P o'.op = 1 → k ∈ jsn P o i js := by
          intro k hk o' hk' hc
          rcases List.mem_append.1 hk with hk1 | hk1
          · exact jsn_mem.1 k (hm.js k hk1 o' hk' hc)
          · have : k = i := by simpa using hk1
            subst this
            rw [ho] at hk'; cases hk'; omega
        have hdone' : ∀ k ∈ r0, D k ∨ k = i → ∀ o', ops[k]? = some o' → cls P o'.op = 0 := by
          intro k hk hDk o' hk'
          rcases hDk with hDk | rfl
          · exact hm.done k (by simp [hk]) hDk o' hk'
          · exact absurd hk hnr
        have hpre : ∀ k ∈ pre ++ [i], ¬ (D k ∨ k = i) → k ∈ pre ∧ ¬ D k := by
          intro k hk hD'
          rcases List.mem_append.1 hk with hk1 | hk1
          · exact ⟨hk1, fun hh => hD' (.inl hh)⟩
          · exact absurd (.inr (by simpa using hk1)) hD'
        have hapart' : ∀ k ∈ pre ++ [i], ∀ l ∈ pre ++ [i], ¬ (D k ∨ k = i) → ¬ (D l ∨ l = i) → isA P ops f k → isA P ops f l → an k = an l → k = l := by
          intro k hk l hl hDk hDl
          obtain ⟨k1, k2⟩ := hpre k hk hDk
          obtain ⟨l1, l2⟩ := hpre l hl hDl
          exact hm.apart k k1 l l1 k2 l2
        have ht := hm.tr
        cases ht with
        | skip ho' hu hdv ht' =>
          rw [ho] at ho'; cases ho'
          rw [hunw hu, if_neg (by simp)]
          refine Inv.two hok hHp hcov ?_
          refine advance r0 (pre ++ [i]) _ ι h an hσ' hok ⟨ht', hm.hr, rel_put ho (Sub.refl _) (VR_undef ι) hdv (by rw [hm.size]; exact hlt) hm.rel, by rw [put_size]; exact hm.size, hm.glob, by rw [put_defers]; exact hm.defers, hm.ext, fun k hk hDk => ?_, hapart', hjs', hdone'⟩
          obtain ⟨k1, k2⟩ := hpre k hk hDk
          exact hm.pend k k1 k2
        | pr ho' hw hc => rw [ho] at ho'; cases ho'; omega
        | rr ho' hw hc => rw [ho] at ho'; cases ho'; omega
        | ar ho' hw hc => rw [ho] at ho'; cases ho'; omega
        | wr ho' hw hc hdv hg hchk _ ht' =>
          rw [ho] at ho'; cases ho'
          exact wstep σ r0 hf _ _ hok hHp hcov hrefl hσ' ht' hdv hg hchk hw hc hdone'
        | ws hi' hj' hpr hgi hgj hci hcj hdi hdj w1 w2 w3 w4 heq s1 s2 s3 s4 =>
          rename_i j h1 h3 h4 oj oi
          rw [ho] at hi'; cases hi'
          refine wstep σ [j] hf _ _ hok hHp hcov hrefl hσ' ?_ (fun d hd => by rw [hdi] at hd; cases hd) w1 s1 (.inl hgi) hci hdone'
          rw [hjsn3 hci]
          exact .wr hj' (.inl hgj) hcj (fun d hd => by rw [hdj] at hd; cases hd) w2 s2 (by simp) .nil
      · have hir : i ∈ r0 := by
          rcases List.mem_cons.1 his with h1 | h1
          · exact absurd h1 hii
          · exact h1
        obtain ⟨o0, ho0', ok0, _⟩ := okS_cons hoks
        rw [ho0] at ho0'; cases ho0'
        have hopAt : opAt ops i = o := by unfold opAt; simp [ho]
        have plain : (∀ j ∈ r0, cls P (opAt ops j).op = 0 ∨ bef ms j i0 = true) → (if Go.Region.wanted o (Go.yielded ops a.tmps) = true then o.wp P a w (fun a' w' => Inv2 P ops ms nt f h0 ι0 w0 hf (fun j => D j ∨ j = i) a' w') Q ∨ (o.asks P a w ∧ Go.LetsOut Q) else Inv2 P ops ms nt f h0 ι0 w0 hf (fun j => D j ∨ j = i) (a.put o.dst undef) w) := by
          intro hall
          have hc : cls P o.op = 0 := by
            rcases hall i hir with h1 | h1
            · rw [hopAt] at h1; exact h1
            · exact absurd (hbef i0 h1) hnD0
          obtain ⟨o2, ho2, hp⟩ := TR_mem hm.tr i his
          rw [ho] at ho2; cases ho2
          rcases hp with ⟨hu, hdv⟩ | ⟨hw, hp⟩
          · exact skip hu hdv (.inr ⟨his, hc⟩)
          · obtain ⟨v, hdv, hg⟩ := hp hc
            exact stay hw v hdv (hg h ι w a hm.hr her1) (.inr ⟨his, hc⟩)
        have ht := hm.tr
        cases ht with
        | skip ho' hu hdv ht' =>
          rw [ho0] at ho'; cases ho'
          rcases ok0.wr hc0 with h9 | h9
          · exact plain h9
          · exfalso
            obtain ⟨_, _, _, hp9, _⟩ := isPr_of h9
            have hopi : opAt ops i0 = oo := by unfold opAt; simp [ho0]
            rw [hopi] at hp9
            obtain ⟨_, _, _, _, hgn, _⟩ := plainSt_of hp9
            obtain ⟨g, want, hg, _⟩ := hu
            rw [hg] at hgn; cases hgn
        | pr ho' hw hc => rw [ho0] at ho'; cases ho'; omega
        | rr ho' hw hc => rw [ho0] at ho'; cases ho'; omega
        | ar ho' hw hc => rw [ho0] at ho'; cases ho'; omega
        | wr ho' hw hc hdv hg hchk hall ht' => exact plain hall
        | ws hi' hj' hpr hgi hgj hci hcj hdi hdj w1 w2 w3 w4 heq s1 s2 s3 s4 =>
          have hij := List.mem_singleton.1 hir
          subst hij
          rw [ho] at hj'; cases hj'
          refine wstep (pre ++ [i, i0]) [i0] _ _ _ (hHp pre i0 i hσ hpr) ?_ (fun k hk => ?_) heq (by simp) ?_ (fun d hd => by rw [hdj] at hd; cases hd) w3 s3 (.inl hgj) hcj ?_
          · intro pre' i' j' he _
            have h9 := congrArg List.reverse he
            simp at h9
            obtain ⟨rfl, rfl, rfl⟩ := h9
            rw [← hσ]; exact hok
          · have := hcov k hk
            rw [hσ] at this
            simp at this ⊢
            rcases this with h9 | h9 | h9
            · exact .inl h9
            · exact .inr (.inr h9)
            · exact .inr (.inl h9)
          · rw [hjsn3 hcj]
            exact .wr hi' (.inl hgi) hci (fun d hd => by rw [hdi] at hd; cases hd) w4 s4 (by simp) .nil
          · intro k hk hDk
            have hk0 : k = i0 := List.mem_singleton.1 hk
            subst hk0
            rcases hDk with h9 | h9
            · exact absurd h9 hnD0
            · exact absurd h9.symm hii
end
end GoEv
namespace GoEv
open Go (IntKind Value World Addr MapEntry Program Oper Op Operand Act Exit undef execOp Sem Result TypeId TypeDesc BinOp UnOp Code Func)

theorem HR.heq {P : Program} {ι : Inj} {h h' : H} {w : World} (hr : HR P ι h w) (e : HEq' h h') : HR P ι h' w :=
  ⟨fun b hb => hr.dom b (by rw [e.1]; exact hb), hr.lt, fun b L x hb hg => hr.blk b L x hb (by rw [e.2]; exact hg), fun b b' L L' x x' hne hb hb' hg hg' => hr.apart b b' L L' x x' hne hb hb' (by rw [e.2]; exact hg) (by rw [e.2]; exact hg'), fun b hb => by rw [← e.2]; exact hr.wf b (by rw [e.1]; exact hb)⟩
theorem Ext.heq {h0 h h' : H} {ι0 ι : Inj} {w0 w : World} (hx : Ext h0 ι0 w0 h ι w) (e : HEq' h h') : Ext h0 ι0 w0 h' ι w :=
  ⟨hx.sub, by rw [← e.1]; exact hx.n, fun b x hb hg ho => hx.mono b x hb (by rw [e.2]; exact hg) ho, hx.os, hx.tape, hx.output, hx.size, hx.keep, fun b hb hn => by rw [← e.2]; exact hx.ghost b hb hn, hx.new⟩
theorem filter_lt {α : Type} (p p' : α → Bool) (hp : ∀ x, p' x = true → p x = true) : ∀ (l : List α), (l.filter p').length ≤ (l.filter p).length ∧ ∀ x ∈ l, p x = true → p' x = false → (l.filter p').length < (l.filter p).length
  | [] => ⟨Nat.le_refl _, by simp⟩
  | a :: l => by
    obtain ⟨h1, h2⟩ := filter_lt p p' hp l
    cases h3 : p' a with
    | true =>
      have h4 := hp a h3
      simp only [List.filter_cons, h3, h4, if_true, List.length_cons]
      refine ⟨by omega, fun x hx hpx hpx' => ?_⟩
      rcases List.mem_cons.1 hx with rfl | hx
      · rw [h3] at hpx'; cases hpx'
      · have := h2 x hx hpx hpx'; omega
    | false =>
      cases h4 : p a with
      | true =>
        simp only [List.filter_cons, h3, h4, if_true, List.length_cons]
        refine ⟨by simp; omega, fun x hx hpx hpx' => by simp; omega⟩
      | false =>
        simp only [List.filter_cons, h3, h4]
        refine ⟨by simpa using h1, fun x hx hpx hpx' => ?_⟩
        rcases List.mem_cons.1 hx with rfl | hx
        · rw [h4] at hpx; cases hpx
        · simpa using h2 x hx hpx hpx'

section
variable {P : Program} {X : Nat → Nat} {S : Sm} {ops : Array Oper} {nt : Nat} {f : Env} {h0 : H} {ι0 : Inj} {w0 : World} {hf : H} {σ : List Nat} {ms : List Nat}
def Dl (l : Array Bool) (i : Nat) : Prop := l.getD i false = true
theorem ready_mem {l : Array Bool} (hl : l.size = ops.size) {i : Nat} : i ∈ Go.Region.ready .any ops l ↔ i < ops.size ∧ ¬ Dl l i ∧ ∀ o, ops[i]? = some o → ∀ d ∈ o.after.toList, Go.Region.binds .any d = true → Dl l d.on := by
  unfold Go.Region.ready
  rw [List.mem_filter, List.mem_range]
  refine and_congr_right fun hi => ?_
  rw [Bool.and_eq_true]
  obtain ⟨o, ho⟩ : ∃ o, ops[i]? = some o := ⟨ops[i], Array.getElem?_eq_getElem hi⟩
  have hli : i < l.size := by omega
  refine and_congr ?_ ?_
  · unfold Dl
    simp [hli]
  · rw [ho]
    simp only [Option.map_some, Option.getD_some]
    rw [Array.all_eq_true_iff_forall_mem]
    constructor
    · intro h o' ho' d hd hb
      cases ho'
      have := h d (by simpa using hd)
      rw [hb] at this
      simpa [Dl] using this
    · intro h d hd
      cases hb : Go.Region.binds .any d with
      | false => rfl
      | true => have := h o rfl d (by simpa using hd) hb; simpa [Dl] using this
theorem all_listed {l : Array Bool} (hl : l.size = ops.size) (hok : okS P ops ms σ = true) (hcov : ∀ i, i < ops.size → i ∈ σ) (hr : Go.Region.ready .any ops l = []) : ∀ (suf pre : List Nat), σ = pre ++ suf → (∀ k ∈ pre, Dl l k) → ∀ k ∈ suf, Dl l k
  | [], _, _, _ => by simp
  | i :: r, pre, hσ, hp => by
    obtain ⟨o, ho, ok1, _⟩ := okS_cons (okS_apart pre (i :: r) (hσ ▸ hok)).1
    have hi : Dl l i := by
      by_cases hD : Dl l i
      · exact hD
      · exfalso
        have hlt : i < ops.size := (Array.getElem?_eq_some_iff.1 ho).1
        have : i ∈ Go.Region.ready .any ops l := by
          rw [ready_mem hl]
          refine ⟨hlt, hD, fun o' ho' d hd hb => ?_⟩
          rw [ho] at ho'; cases ho'
          obtain ⟨h1, h2⟩ := ok1.deps d hd hb
          have h3 : d.on ∈ pre ++ i :: r := hσ ▸ hcov _ h1
          rcases List.mem_append.1 h3 with h4 | h4
          · exact hp _ h4
          · exact absurd h4 h2
        rw [hr] at this; cases this
    intro k hk
    rcases List.mem_cons.1 hk with rfl | hk
    · exact hi
    · refine all_listed hl hok hcov hr r (pre ++ [i]) (by rw [hσ]; simp) (fun j hj => ?_) k hk
      rcases List.mem_append.1 hj with h1 | h1
      · exact hp j h1
      · have : j = i := by simpa using h1
        subst this; exact hi
theorem any_sound (hms : ms = bfrL ops.toList []) (hok : okS P ops ms σ = true) (hcov : ∀ i, i < ops.size → i ∈ σ) (hHp : Hp P ops ms σ) (hdst : dstOK nt ops = true) (hd0 : ∀ b, h0.n ≤ b → ι0 b = none) {Q : Exit → Act → World → Prop}
    (hQ : ∀ a w, St P nt h0 ι0 w0 f hf a w → Q .normal a w) : ∀ (fuel : Nat) (l : Array Bool) (a : Act) (w : World), l.size = ops.size → ((List.range ops.size).filter fun i => !l.getD i false).length ≤ fuel →
      (∀ (j : Nat) (o : Oper), ops[j]? = some o → Dl l j → ∀ d ∈ o.after.toList, Go.Region.binds .any d = true → Dl l d.on) → Inv2 P ops ms nt f h0 ι0 w0 hf (Dl l) a w → Go.wpAny P .any ops Q fuel l a w := by
  have fin : ∀ (l : Array Bool) (a : Act) (w : World), (∀ k ∈ σ, Dl l k) → Inv2 P ops ms nt f h0 ι0 w0 hf (Dl l) a w → Q .normal a w := by
    intro l a w hall2 hinv2
    obtain ⟨σ2, hf2, hok2, hHp2, hcov2, heq2, hinv⟩ := hinv2
    have hall : ∀ k ∈ σ2, Dl l k := fun k hk => by
      obtain ⟨r, o, ho, _⟩ := okS_mem σ2 hok2 k hk
      exact hall2 k (hcov k (Array.getElem?_eq_some_iff.1 ho).1)
    obtain ⟨pre, suf, js, ι, h, an, hσ, hm, hhead⟩ := hinv
    rcases hhead with rfl | ⟨i, r, o, rfl, ho, hc, hnD⟩
    · have ht := hm.tr
      cases ht
      exact hQ a w ⟨ι, hm.hr.heq heq2, ⟨hm.size, fun t => hm.rel t fun j o hj _ => hall j (hcov2 j (Array.getElem?_eq_some_iff.1 hj).1), hm.glob, hm.defers⟩, hm.ext.heq heq2⟩
    · exact absurd (hall i (by rw [hσ]; simp)) hnD
  intro fuel
  induction fuel with
  | zero =>
    intro l a w hl hc hD hinv
    have hnil : ((List.range ops.size).filter fun i => !l.getD i false) = [] := List.eq_nil_of_length_eq_zero (by omega)
    have hall : ∀ i, i < ops.size → Dl l i := by
      intro i hi
      unfold Dl
      cases hq : l.getD i false with
      | true => rfl
      | false =>
        have : i ∈ (List.range ops.size).filter fun i => !l.getD i false := List.mem_filter.2 ⟨List.mem_range.2 hi, by rw [hq]; rfl⟩
        rw [hnil] at this; cases this
    have hrn : Go.Region.ready .any ops l = [] := by
      rw [List.eq_nil_iff_forall_not_mem]
      intro i hi
      rw [ready_mem hl] at hi
      exact hi.2.1 (hall i hi.1)
    refine ⟨hrn, fin l a w (fun k hk => ?_) hinv⟩
    obtain ⟨r, o, ho, _⟩ := okS_mem σ hok k hk
    exact hall k (Array.getElem?_eq_some_iff.1 ho).1
  | succ fuel ih =>
    intro l a w hl hc hD hinv
    refine ⟨fun hrn => fin l a w (fun k hk => all_listed hl hok hcov hrn σ [] (by simp) (by simp) k hk) hinv, fun i hi => ?_⟩
    rw [ready_mem hl] at hi
    obtain ⟨hi1, hi2, hi3⟩ := hi
    obtain ⟨σ2, hf2, hok2, hHp2, hcov2, heq2, hinv⟩ := hinv
    refine Go.wpOp_mono (fun a' w' hinv2 => ?_) (inv_step hms hok2 hHp2 hcov2 hdst hd0 hD hi1 hi2 hi3 hinv)
    have hinv' : Inv2 P ops ms nt f h0 ι0 w0 hf (fun j => Dl l j ∨ j = i) a' w' := by
      obtain ⟨σ3, hf3, q1, q2, q3, q4, q5⟩ := hinv2
      exact ⟨σ3, hf3, q1, q2, q3, ⟨q4.1.trans heq2.1, fun k => (q4.2 k).trans (heq2.2 k)⟩, q5⟩
    have hDl : ∀ j, Dl (l.setIfInBounds i true) j ↔ (Dl l j ∨ j = i) := by
      intro j
      unfold Dl
      by_cases e : j = i
      · subst e; simp [hl, hi1]
      · simp [e, Array.getElem?_setIfInBounds_ne (Ne.symm e)]
    have hfun : Dl (l.setIfInBounds i true) = fun j => Dl l j ∨ j = i := funext fun j => propext (hDl j)
    refine ih _ a' w' (by simp [hl]) ?_ ?_ (by rw [hfun]; exact hinv')
    · have h1 := (filter_lt (fun k => !l.getD k false) (fun k => !(l.setIfInBounds i true).getD k false) (fun x hx => by
        have hx' : ¬ Dl (l.setIfInBounds i true) x := by
          intro h; unfold Dl at h; rw [h] at hx; cases hx
        rw [hDl] at hx'
        cases hq : l.getD x false with
        | false => rfl
        | true => exact absurd (.inl hq) hx') (List.range ops.size)).2 i (List.mem_range.2 hi1) (by
          cases hq : l.getD i false with
          | false => rfl
          | true => exact absurd hq hi2) (by
          have : Dl (l.setIfInBounds i true) i := (hDl i).2 (.inr rfl)
          unfold Dl at this; rw [this]; rfl)
      omega
    · intro j o hj hDj d hd hb
      rw [hDl] at hDj
      rw [hDl]
      rcases hDj with hDj | rfl
      · exact .inl (hD j o hj hDj d hd hb)
      · exact .inl (hi3 o hj d hd hb)
theorem popA_size (opz : Array Oper) : (popA opz).size = opz.size - 1 := by simp [popA]
theorem popA_get {opz : Array Oper} {i : Nat} (hi : i < opz.size - 1) : (popA opz)[i]? = opz[i]? := by
  simp only [popA, List.getElem?_toArray, List.getElem?_dropLast, Array.length_toList]
  rw [if_pos hi, Array.getElem?_toList]
theorem wp_exits {o : Oper} {a : Act} {w : World} {K : Act → World → Prop} {Q1 Q : Exit → Act → World → Prop} (h : ∀ ex a w, ex ≠ .normal → Q1 ex a w → Q ex a w) (hh : o.wp P a w K Q1) : o.wp P a w K Q := by
  unfold Go.Oper.wp at *
  generalize (execOp a.eval o).run P w = r at *
  cases r with
  | ok n w' =>
    cases n <;> simp only [Go.Oper.upon] at hh ⊢ <;>
      first
        | exact hh
        | exact Go.Calls.mono hh (fun e w'' he => by
            cases e with
            | returned v => exact he
            | panicked c => exact h _ _ _ (by simp) he
            | outgrown => exact he.imp fun a he => he.imp fun w he => h _ _ _ (by simp) he)
  | halt x w' =>
    cases x <;> simp only [Go.Oper.upon] at hh ⊢ <;> first | exact hh | exact h _ _ _ (by simp) hh
/-- a region whose last operation comes behind all others -/
theorem wpAny_last {opz : Array Oper} {oz : Oper} (hoz : opz[opz.size - 1]? = some oz) (hsz : 0 < opz.size) (hbz : ∀ j, j < opz.size - 1 → bef (bfrL opz.toList []) (opz.size - 1) j = true)
    (hdown : ∀ i o, opz[i]? = some o → ∀ d ∈ o.after.toList, Go.Region.binds .any d = true → d.on < i) (hgd : ∀ o ∈ (popA opz).toList, ∀ g want, o.guard = some (g, want) → g < opz.size - 1)
    {Q Q1 : Exit → Act → World → Prop} (hQn : ∀ a w, Q1 .normal a w → Go.wpOp P opz Q (opz.size - 1) (fun a w => Q .normal a w) a w) (hQx : ∀ ex a w, ex ≠ .normal → Q1 ex a w → Q ex a w) : ∀ (fuel : Nat) (l : Array Bool) (a : Act) (w : World), l.size = opz.size - 1 →
      (∀ (j : Nat) (o : Oper), (popA opz)[j]? = some o → Dl l j → ∀ d ∈ o.after.toList, Go.Region.binds .any d = true → Dl l d.on) → Go.wpAny P .any (popA opz) Q1 fuel l a w → Go.wpAny P .any opz Q (fuel + 1) (l.push false) a w := by
  have hget : ∀ i, i < opz.size - 1 → (popA opz)[i]? = opz[i]? := fun i hi => popA_get hi
  have hps := popA_size opz
  have hDl : ∀ (l : Array Bool), l.size = opz.size - 1 → ∀ k, k < opz.size - 1 → (Dl (l.push false) k ↔ Dl l k) := by
    intro l hl k hk
    unfold Dl
    simp [Array.getElem?_push, hl, Nat.ne_of_lt hk]
  have hDz : ∀ (l : Array Bool), l.size = opz.size - 1 → ¬ Dl (l.push false) (opz.size - 1) := by
    intro l hl hh
    unfold Dl at hh
    rw [← hl] at hh
    simp at hh
  have hpz : ∀ (l : Array Bool), l.size = opz.size - 1 → (l.push false).size = opz.size := fun l hl => by simp [hl]; omega
  have rdy : ∀ (l : Array Bool), l.size = opz.size - 1 → ∀ i, i < opz.size - 1 → (i ∈ Go.Region.ready .any opz (l.push false) ↔ i ∈ Go.Region.ready .any (popA opz) l) := by
    intro l hl i hi
    rw [ready_mem (hpz l hl), ready_mem (by rw [hps, hl]), hget i hi]
    refine ⟨fun ⟨_, h2, h3⟩ => ⟨by omega, fun hh => h2 ((hDl l hl i hi).2 hh), fun o ho d hd hb => ?_⟩, fun ⟨_, h2, h3⟩ => ⟨by omega, fun hh => h2 ((hDl l hl i hi).1 hh), fun o ho d hd hb => ?_⟩⟩
    · have := hdown i o ho d hd hb
      exact (hDl l hl _ (by omega)).1 (h3 o ho d hd hb)
    · have := hdown i o ho d hd hb
      exact (hDl l hl _ (by omega)).2 (h3 o ho d hd hb)
  -- nothing ready: all done
  have hall : ∀ (l : Array Bool), l.size = opz.size - 1 → Go.Region.ready .any (popA opz) l = [] → ∀ n k, k < n → k < opz.size - 1 → Dl l k := by
    intro l hl hr n
    induction n with
    | zero => intro k hk; omega
    | succ n ih =>
      intro k hk hks
      by_cases hD : Dl l k
      · exact hD
      · exfalso
        have : k ∈ Go.Region.ready .any (popA opz) l := by
          rw [ready_mem (by rw [hps, hl])]
          refine ⟨by omega, hD, fun o ho d hd hb => ?_⟩
          have := hdown k o (by rw [← hget k hks]; exact ho) d hd hb
          exact ih d.on (by omega) (by omega)
        rw [hr] at this; cases this
  -- the last one is ready if and only if all others are done
  have zready : ∀ (l : Array Bool), l.size = opz.size - 1 → (∀ k, k < opz.size - 1 → Dl l k) → opz.size - 1 ∈ Go.Region.ready .any opz (l.push false) := by
    intro l hl hd
    rw [ready_mem (hpz l hl)]
    refine ⟨by omega, hDz l hl, fun o ho d hd' hb => ?_⟩
    have := hdown _ o ho d hd' hb
    exact (hDl l hl _ this).2 (hd _ this)
  have zdone : ∀ (l : Array Bool), l.size = opz.size - 1 → (∀ (j : Nat) (o : Oper), (popA opz)[j]? = some o → Dl l j → ∀ d ∈ o.after.toList, Go.Region.binds .any d = true → Dl l d.on) →
      opz.size - 1 ∈ Go.Region.ready .any opz (l.push false) → ∀ k, k < opz.size - 1 → Dl l k := by
    intro l hl hD hi k hk
    have hrd := (ready_mem (hpz l hl)).1 hi
    have hz2 : ∀ d ∈ oz.after.toList, Go.Region.binds .any d = true → Dl (l.push false) d.on := hrd.2.2 oz hoz
    have := bfrL_sound (fun j => Dl (l.push false) j) opz.toList [] [] rfl (fun j o ho hDj d hd hb => ?_) (fun j o ho => by simp at ho) (opz.size - 1) oz (by simpa using hoz) hz2 k (hbz k hk)
    · exact (hDl l hl k hk).1 this
    · have ho' : opz[j]? = some o := by simpa using ho
      by_cases hj : j < opz.size - 1
      · have hdn := hdown j o ho' d hd hb
        exact (hDl l hl _ (by omega)).2 (hD j o (by rw [hget j hj]; exact ho') ((hDl l hl j hj).1 hDj) d hd hb)
      · have hj2 : j = opz.size - 1 := by have := (Array.getElem?_eq_some_iff.1 ho').1; omega
        subst hj2
        exact absurd hDj (hDz l hl)
  have zrest : ∀ (l : Array Bool), l.size = opz.size - 1 → (∀ k, k < opz.size - 1 → Dl l k) → Go.Region.ready .any opz ((l.push false).setIfInBounds (opz.size - 1) true) = [] := by
    intro l hl hd
    rw [List.eq_nil_iff_forall_not_mem]
    intro k hk
    rw [ready_mem (by simp [hl]; omega)] at hk
    refine hk.2.1 ?_
    unfold Dl
    by_cases e : k = opz.size - 1
    · subst e; rw [← hl]; simp
    · have := (hDl l hl k (by omega)).2 (hd k (by omega))
      unfold Dl at this
      simp only [Array.getD_eq_getD_getElem?] at this ⊢
      rw [Array.getElem?_setIfInBounds_ne (Ne.symm e)]
      exact this
  have conv : ∀ i, i < opz.size - 1 → ∀ (K : Act → World → Prop) a w, Go.wpOp P (popA opz) Q1 i K a w → Go.wpOp P opz Q i K a w := by
    intro i hi K a w hh
    unfold Go.wpOp at hh ⊢
    rw [← hget i hi]
    cases ho : (popA opz)[i]? with
    | none => rw [ho] at hh; exact hh
    | some o =>
      rw [ho] at hh
      simp only at hh ⊢
      have hwn : Go.Region.wanted o (Go.yielded opz a.tmps) = Go.Region.wanted o (Go.yielded (popA opz) a.tmps) := by
        cases hg : o.guard with
        | none => rw [wanted_none hg, wanted_none hg]
        | some gw =>
          obtain ⟨g, want⟩ := gw
          rw [wanted_some hg, wanted_some hg]
          have hg2 := hgd o (by have := Array.mem_of_getElem? ho; simpa using this) g want hg
          unfold Go.yielded
          rw [hget g hg2]
      rw [hwn]
      split
      · rename_i hw
        rw [if_pos hw] at hh
        refine hh.imp (wp_exits hQx) fun ⟨h1, h2⟩ => ⟨h1, h2.imp fun a h2 => h2.imp fun w h2 => hQx _ _ _ (by simp) h2⟩
      · rename_i hw
        rw [if_neg hw] at hh
        exact hh
  have zstep : ∀ (fuel : Nat) (l : Array Bool) (a : Act) (w : World), l.size = opz.size - 1 → (∀ k, k < opz.size - 1 → Dl l k) → Q1 .normal a w → Go.wpOp P opz Q (opz.size - 1) (Go.wpAny P .any opz Q fuel ((l.push false).setIfInBounds (opz.size - 1) true)) a w := by
    intro fuel l a w hl hd hq
    refine Go.wpOp_mono (fun a' w' hq => ?_) (hQn a w hq)
    have hnone := zrest l hl hd
    cases fuel with
    | zero => exact ⟨hnone, hq⟩
    | succ fuel => exact ⟨fun _ => hq, fun k hk => by rw [hnone] at hk; cases hk⟩
  intro fuel
  induction fuel with
  | zero =>
    intro l a w hl hD hh
    obtain ⟨hr, hq⟩ := hh
    have hd := fun k hk => hall l hl hr (k + 1) k (by omega) hk
    refine ⟨(fun hrn => by have := zready l hl hd; rw [hrn] at this; cases this), fun i hi => ?_⟩
    have hi1 := ((ready_mem (hpz l hl)).1 hi)
    by_cases e : i = opz.size - 1
    · subst e; exact zstep 0 l a w hl hd hq
    · exact absurd ((hDl l hl i (by omega)).2 (hd i (by omega))) hi1.2.1
  | succ fuel ih =>
    intro l a w hl hD hh
    obtain ⟨hq, hs⟩ := hh
    refine ⟨fun hrn => ?_, fun i hi => ?_⟩
    · exfalso
      have hr : Go.Region.ready .any (popA opz) l = [] := by
        rw [List.eq_nil_iff_forall_not_mem]
        intro i hi
        have hlt : i < opz.size - 1 := by have := ((ready_mem (by rw [hps, hl])).1 hi).1; omega
        have := (rdy l hl i hlt).2 hi
        rw [hrn] at this; cases this
      have := zready l hl fun k hk => hall l hl hr (k + 1) k (by omega) hk
      rw [hrn] at this; cases this
    · have hi1 := ((ready_mem (hpz l hl)).1 hi)
      by_cases e : i = opz.size - 1
      · subst e
        have hd := zdone l hl hD hi
        refine zstep (fuel + 1) l a w hl hd (hq ?_)
        rw [List.eq_nil_iff_forall_not_mem]
        intro k hk
        have hk1 := (ready_mem (by rw [hps, hl])).1 hk
        exact hk1.2.1 (hd k (by omega))
      · have hlt : i < opz.size - 1 := by omega
        have hi' := (rdy l hl i hlt).1 hi
        refine Go.wpOp_mono (fun a' w' hq' => ?_) (conv i hlt _ _ _ (hs i hi'))
        have hset : (l.push false).setIfInBounds i true = (l.setIfInBounds i true).push false := by
          apply Array.ext_getElem?
          intro k
          simp only [Array.getElem?_setIfInBounds, Array.getElem?_push, Array.size_push, Array.size_setIfInBounds]
          by_cases h1 : i = k
          · subst h1
            rw [if_pos rfl, if_pos (by omega), if_neg (by omega), if_pos rfl, if_pos (by omega)]
          · rw [if_neg h1, if_neg h1]
        rw [hset]
        have hDs : ∀ j, Dl (l.setIfInBounds i true) j ↔ (Dl l j ∨ j = i) := by
          intro j
          unfold Dl
          by_cases e : j = i
          · subst e; simp [hl]; omega
          · simp [e, Array.getElem?_setIfInBounds_ne (Ne.symm e)]
        refine ih _ a' w' (by simp [hl]) (fun j o hj hDj d hd hb => ?_) hq'
        rw [hDs] at hDj
        rw [hDs]
        rcases hDj with hDj | rfl
        · exact .inl (hD j o hj hDj d hd hb)
        · have hdn := hdown j o (by rw [← hget j hlt]; exact hj) d hd hb
          exact .inl ((hDl l hl _ (by omega)).1 (hi1.2.2 o (by rw [← hget j hlt]; exact hj) d hd hb))
theorem Hp_of (hok2 : okP P ops (bfrL ops.toList []) σ = true) : Hp P ops (bfrL ops.toList []) σ := by
  intro pre i j hσ hpr
  unfold okP at hok2
  rw [hσ] at hok2
  simp only [List.reverse_append, List.reverse_cons, List.reverse_nil, List.nil_append, List.cons_append, List.singleton_append] at hok2
  rw [hpr] at hok2
  simpa using hok2
theorem Inv2_start (hok : okS P ops (bfrL ops.toList []) σ = true) (hHp : Hp P ops (bfrL ops.toList []) σ) (hcov : ∀ i, i < ops.size → i ∈ σ) {n : Nat} {e : Env} {h : H} {a : Act} {w : World} (hs : St P nt h0 ι0 w0 e h a w)
    (h2 : ∀ t, t ∉ dsts ops σ → f t = e t) (h3 : TR P ops (bfrL ops.toList []) nt f [] σ h hf) : Inv2 P ops (bfrL ops.toList []) nt f h0 ι0 w0 hf (Dl (Array.replicate n false)) a w.drew := by
  obtain ⟨ι, hr, he, hx⟩ := hs
  have hDf : ∀ j, ¬ Dl (Array.replicate n false) j := by
    intro j hj
    unfold Dl at hj
    by_cases hlt : j < n
    · simp [hlt] at hj
    · simp [hlt] at hj
  refine Inv.two hok hHp hcov ?_
  refine advance σ [] [] ι h (fun _ => 0) rfl hok ⟨h3, hr.drew, fun t ht => ?_, he.size, he.glob, he.defers, hx.drew, (fun i hi => nomatch hi), (fun i hi => nomatch hi), (fun i hi => nomatch hi), fun i _ hD => absurd hD (hDf i)⟩
  have hnd : t ∉ dsts ops σ := by
    intro hm
    unfold dsts at hm
    obtain ⟨j, hj, hjd⟩ := List.mem_filterMap.1 hm
    cases hoj : ops[j]? with
    | none => rw [hoj] at hjd; cases hjd
    | some o => rw [hoj] at hjd; exact hDf j (ht j o hoj hjd)
  rw [h2 t hnd]; exact he.tmp t
theorem dDrN_sound (hX : XOK P X) (hS : SOK P S) {h0 : H} {ι0 : Inj} {w0 : World} (hd0 : ∀ b, h0.n ≤ b → ι0 b = none) : ∀ (k : Nat) (ops : Array Oper) (σ : List Nat) (e : Env) (h : H) (K : Env → H → A) (r : V × H) (Q : Exit → Act → World → Prop) (a : Act) (w : World),
    dstOK nt ops = true → dDrN P X S k ops σ e h K = some r → (∀ e h a w, K e h = some r → St P nt h0 ι0 w0 e h a w → Q .normal a w) → St P nt h0 ι0 w0 e h a w → Go.wpAny P .any ops Q ops.size (Array.replicate ops.size false) a w.drew := by
  intro k ops σ e h K r Q a w hdst hh hK hs
  have hDf : ∀ (n j : Nat), ¬ Dl (Array.replicate n false) j := by
    intro n j hj
    unfold Dl at hj
    by_cases hlt : j < n
    · simp [hlt] at hj
    · simp [hlt] at hj
  have base : okσ P ops (bfrL ops.toList []) σ = true → dDr P X S ops (bfrL ops.toList []) σ [] e h K = some r → Go.wpAny P .any ops Q ops.size (Array.replicate ops.size false) a w.drew := by
    intro hc0 hh
    unfold okσ at hc0
    rw [Bool.and_eq_true, Bool.and_eq_true] at hc0
    obtain ⟨hc, hok, hok2⟩ := hc0
    have hHp := Hp_of hok2
    have hcov : ∀ i, i < ops.size → i ∈ σ := fun i hi => mem_true.1 (List.all_eq_true.1 hc i (List.mem_range.2 hi))
    obtain ⟨f, hf, h1, h2, h3⟩ := dDr_TR (nt := nt) hX hS σ [] e h K hok (fun j hj => nomatch hj) hh
    refine any_sound (h0 := h0) (ι0 := ι0) (w0 := w0) (f := f) (hf := hf) rfl hok hcov hHp hdst hd0 (fun a w hst => hK f hf a w h1 hst) ops.size _ a _ (by simp) ?_ (fun j o _ hj => absurd hj (hDf _ j)) (Inv2_start hok hHp hcov hs h2 h3)
    exact Nat.le_trans (List.length_filter_le _ _) (by simp)
  cases k with
  | zero =>
    unfold dDrN at hh
    rw [bif_none] at hh
    exact base hh.1 hh.2
  | succ k =>
    unfold dDrN at hh
    cases hc0 : okσ P ops (bfrL ops.toList []) σ with
    | true => rw [hc0, cd_true] at hh; exact base hc0 hh
    | false =>
      rw [hc0, cd_false, bif_none] at hh
      obtain ⟨hz, hh⟩ := hh
      unfold okZ at hz
      split at hz
      case h_2 => cases hz
      rename_i oz hoz
      rw [Bool.and_eq_true, Bool.and_eq_true, Bool.and_eq_true] at hz
      obtain ⟨⟨⟨z1, z2⟩, z3⟩, z4⟩ := hz
      have hoz' : ops[ops.size - 1]? = some oz := by
        rw [List.getLast?_eq_getElem?] at hoz
        simpa using hoz
      have hpos : 0 < ops.size := by have := (Array.getElem?_eq_some_iff.1 hoz').1; omega
      have hopz : opAt ops (ops.size - 1) = oz := by
        unfold opAt
        simp [hoz']
      rw [hopz] at hh
      have hdst' : dstOK nt (popA ops) = true := by
        unfold dstOK at hdst ⊢
        rw [List.all_eq_true] at hdst ⊢
        intro o ho
        exact hdst o (List.dropLast_subset _ ho)
      have ih := dDrN_sound hX hS hd0 k (popA ops) σ.dropLast e h _ r (fun ex a w => match ex with | .normal => Go.wpOp P ops Q (ops.size - 1) (fun a w => Q .normal a w) a w | ex => Q ex a w) a w hdst' hh (fun e h a w hq hst => by
        obtain ⟨v, h', q1, q2⟩ := dAny_sound (nt := nt) hX hS hq
        show Go.wpOp P ops Q (ops.size - 1) (fun a w => Q .normal a w) a w
        unfold Go.wpOp
        rw [hoz']
        simp only
        rw [wanted_none (by simpa using z1), if_pos rfl]
        exact .inl (hst.step hd0 q2 (dstOK_get hdst hoz') fun a' w' hs' => hK _ _ a' w' q1 hs')) hs
      have hl := wpAny_last (P := P) (Q := Q) hoz' hpos (fun j hj => List.all_eq_true.1 z2 j (List.mem_range.2 hj)) (fun i o ho d hd hb => ?_) (fun o ho g want hg => ?_) (fun a w hq => hq) (fun ex a w hne hq => by cases ex <;> first | exact absurd rfl hne | exact hq) (popA ops).size (Array.replicate (popA ops).size false) a w.drew (by simp) (fun j o _ hj => absurd hj (hDf _ j)) ih
      · rw [popA_size] at hl
        have e1 : (Array.replicate (ops.size - 1) false).push false = Array.replicate ops.size false := by
          have : ops.size = (ops.size - 1) + 1 := by omega
          rw [this, Nat.add_sub_cancel, Array.replicate_succ]
        rw [e1, show ops.size - 1 + 1 = ops.size by omega] at hl
        exact hl
      · have hi := (Array.getElem?_eq_some_iff.1 ho).1
        have := List.all_eq_true.1 (List.all_eq_true.1 z3 i (List.mem_range.2 hi)) d (by unfold opAt; simpa [ho] using hd)
        rw [hb] at this
        exact Nat.le_of_ble_eq_true this
      · have := List.all_eq_true.1 z4 o ho
        rw [hg] at this
        exact Nat.le_of_ble_eq_true this
theorem dDraw_sound (hmix : P.follows .mixedOrders = true) (hX : XOK P X) (hS : SOK P S) : DOK P nt (dDraw P X S nt) := by
  intro h0 ι0 w0 hd0 id ops σ e h K r Q a w hdst hh hK hs
  exact Go.wp_region_any hmix (dDrN_sound hX hS hd0 4 ops σ e h K r Q a w hdst hh hK hs)
/-- what function f comes to -/
noncomputable abbrev theD (P : Program) (X : Nat → Nat) : Sm → Nat → Array Oper → List Nat → Env → H → (Env → H → A) → A := fun S nt => dDraw P X S nt
theorem Sem_ok (hmix : P.follows .mixedOrders = true) (hX : XOK P X) {t : Tr} (ht : t.All (FOK P X (theD P X))) (n : Nat) : SOK P (GoEv.Sem t n) :=
  Sem_sound hX (fun S hS nt => dDraw_sound hmix hX hS) ht n
end
end GoEv
