/- What each operation of the model's code comes to on the abstract machine. -/
import Derived.Test.YtdgaheekfeomoaaGreatDoorEvA
import GoSem.Core.Region
import GoSem.Core.Layout
import GoSem.Op.Equal
set_option linter.unusedVariables false
set_option linter.unusedSimpArgs false
namespace GoEv
open Go (IntKind Value Program Oper Op Operand Code TypeId BinOp TypeDesc)

abbrev mkI (k : IntKind) (z : Int) : V := match k with | .i64 => .i z | .u8 => .u8 z | k => .int k z
noncomputable abbrev toKd (k : IntKind) (v : V) (K : Int → A) : A := match k with | .i64 => toI v K | .u8 => toU v K | k => toK k v K
theorem toKd_some {k : IntKind} {v : V} {K : Int → A} {r : V × H} : toKd k v K = some r ↔ ∃ n, v = mkI k n ∧ K n = some r := by
  cases k <;> simp only [toKd, mkI, toI_some, toU_some, toK_some]
noncomputable abbrev wrapK (k : IntKind) (z : Int) (K : Int → A) : A := match k with | .i64 => bW64 z K | k => bW k z K
theorem wrapK_eq (k : IntKind) (z : Int) (K : Int → A) : wrapK k z K = K (k.wrap z) := by
  cases k <;> simp only [wrapK, bW64_eq, bW_eq]

def bn : List UInt8 → Nat
  | [] => 0
  | b :: r => b.toNat + 256 * bn r
/-- a constant of one cell -/
abbrev cst1 : Value → V
  | .bool b => .bool b
  | .int k n => mkI k n
  | .string s => .str s.data.toList.length (bn s.data.toList)
  | .pointer none => .nilp
  | .slice none 0 0 => .nils
  | .map none => .nilm
  | .nilFunc => .nilf
  | .nilIface => .nili
  | _ => .undef
abbrev oc : Value → Bool
  | .agg _ | .tuple _ => false
  | _ => true
abbrev cst : Value → V
  | .agg cs => bif cs.toList.all oc then .agg (cs.toList.map cst1) else .undef
  | .tuple _ => .undef
  | v => cst1 v

abbrev Env := Nat → V
abbrev upd (e : Env) (d : Nat) (v : V) : Env := fun t => bif Nat.beq t d then v else e t
abbrev put (e : Env) (d : Option Nat) (v : V) : Env := match d with | some d => upd e d v | none => e
abbrev evA (P : Program) (e : Env) : Operand → V
  | .tmp t => e t
  | .const v => cst v
  | .global g => bif Nat.blt g P.globals.size then .ptr g 0 else .undef
  | .func f => .fn f [] []

abbrev und (P : Program) (t : TypeId) : TypeDesc := (P.underlying t).getD .invalid
abbrev isAg (P : Program) (t : TypeId) : Bool := match und P t with | .struct _ | .array .. => true | _ => false
abbrev zcs (P : Program) (t : TypeId) : Option (List V) := match (P.info? t).bind (·.zero) with
  | some z => bif z.cells.toList.all oc then some (z.cells.toList.map cst1) else none
  | none => none
abbrev zv (P : Program) (t : TypeId) : Option V := ((P.info? t).bind (·.zero)).map cst
noncomputable abbrev sob {α : Type} (x : Option α) (K : α → A) : A := match x with | some a => K a | none => none
theorem sob_some {α : Type} {x : Option α} {K : α → A} {r : V × H} : sob x K = some r ↔ ∃ y, x = some y ∧ K y = some r := by cases x <;> simp [sob]

/-- bind a value by its type -/
noncomputable abbrev opn (P : Program) (t : TypeId) (v : V) (K : V → A) : A := match und P t with
  | .int k => toKd k v fun n => K (mkI k n)
  | .bool => toB v fun b => K (.bool b)
  | .string => toS v fun l n => K (.str l n)
  | .struct _ | .array .. => toA v fun l => K (.agg l)
  | _ => K v
theorem opn_some {P : Program} {t : TypeId} {v : V} {K : V → A} {r : V × H} (h : opn P t v K = some r) : K v = some r := by
  unfold opn at h
  split at h
  · rw [toKd_some] at h; obtain ⟨n, rfl, h⟩ := h; exact h
  · rw [toB_some] at h; obtain ⟨n, rfl, h⟩ := h; exact h
  · rw [toS_some] at h; obtain ⟨l, n, rfl, h⟩ := h; exact h
  · rw [toA_some] at h; obtain ⟨l, rfl, h⟩ := h; exact h
  · rw [toA_some] at h; obtain ⟨l, rfl, h⟩ := h; exact h
  · exact h

noncomputable def nlP (v : V) (K : Bool → A) : A := V.casesOn v none (fun _ => none) (fun _ => none) (fun _ => none) (fun _ _ => none) (fun _ _ => none) (fun _ _ => K false) (K true) (fun _ _ _ _ _ _ => none) none (fun _ => none) none (fun _ _ _ => none) none (fun _ _ => none) none (fun _ => none) (fun _ => none)
noncomputable def nlS (v : V) (K : Bool → A) : A := V.casesOn v none (fun _ => none) (fun _ => none) (fun _ => none) (fun _ _ => none) (fun _ _ => none) (fun _ _ => none) none (fun _ _ _ _ _ _ => K false) (K true) (fun _ => none) none (fun _ _ _ => none) none (fun _ _ => none) none (fun _ => none) (fun _ => none)
noncomputable def nlM (v : V) (K : Bool → A) : A := V.casesOn v none (fun _ => none) (fun _ => none) (fun _ => none) (fun _ _ => none) (fun _ _ => none) (fun _ _ => none) none (fun _ _ _ _ _ _ => none) none (fun _ => K false) (K true) (fun _ _ _ => none) none (fun _ _ => none) none (fun _ => none) (fun _ => none)
noncomputable def nlF (v : V) (K : Bool → A) : A := V.casesOn v none (fun _ => none) (fun _ => none) (fun _ => none) (fun _ _ => none) (fun _ _ => none) (fun _ _ => none) none (fun _ _ _ _ _ _ => none) none (fun _ => none) none (fun _ _ _ => K false) (K true) (fun _ _ => none) none (fun _ => none) (fun _ => none)
noncomputable def nlI (v : V) (K : Bool → A) : A := V.casesOn v none (fun _ => none) (fun _ => none) (fun _ => none) (fun _ _ => none) (fun _ _ => none) (fun _ _ => none) none (fun _ _ _ _ _ _ => none) none (fun _ => none) none (fun _ _ _ => none) none (fun _ _ => K false) (K true) (fun _ => none) (fun _ => none)
/-- two pointers -/
noncomputable def pEq (a b : V) (K : Bool → A) : A := V.casesOn a none (fun _ => none) (fun _ => none) (fun _ => none) (fun _ _ => none) (fun _ _ => none)
  (fun x o => V.casesOn b none (fun _ => none) (fun _ => none) (fun _ => none) (fun _ _ => none) (fun _ _ => none) (fun y p => Bool.casesOn (Nat.beq x y) none (K (Nat.beq o p))) (K false) (fun _ _ _ _ _ _ => none) none (fun _ => none) none (fun _ _ _ => none) none (fun _ _ => none) none (fun _ => none) (fun _ => none))
  (V.casesOn b none (fun _ => none) (fun _ => none) (fun _ => none) (fun _ _ => none) (fun _ _ => none) (fun y p => K false) (K true) (fun _ _ _ _ _ _ => none) none (fun _ => none) none (fun _ _ _ => none) none (fun _ _ => none) none (fun _ => none) (fun _ => none))
  (fun _ _ _ _ _ _ => none) none (fun _ => none) none (fun _ _ _ => none) none (fun _ _ => none) none (fun _ => none) (fun _ => none)

noncomputable abbrev cmpO (op : BinOp) (a b : Int) (K : Bool → A) : A := match op with
  | .eql => K (eqZ a b) | .neq => K (notB (eqZ a b)) | .lss => K (ltZ a b) | .leq => K (leZ a b) | .gtr => K (ltZ b a) | .geq => K (leZ b a) | _ => none
noncomputable abbrev intO (op : BinOp) (k : IntKind) (a b : Int) (K : V → A) : A := match op with
  | .add => wrapK k (addZ a b) fun z => K (mkI k z)
  | .sub => wrapK k (subZ a b) fun z => K (mkI k z)
  | .mul => wrapK k (mulZ a b) fun z => K (mkI k z)
  | .quo => nz b (wrapK k (divZ a b) fun z => K (mkI k z))
  | .rem => nz b (bZ (modZ a b) fun z => K (mkI k z))
  | .and => wrapK k (zAnd (2 ^ k.bits) a b) fun z => K (mkI k z)
  | .or => wrapK k (zOr (2 ^ k.bits) a b) fun z => K (mkI k z)
  | .xor => wrapK k (zXor (2 ^ k.bits) a b) fun z => K (mkI k z)
  | .andNot => wrapK k (zAnn (2 ^ k.bits) a b) fun z => K (mkI k z)
  | op => cmpO op a b fun b => K (.bool b)
noncomputable abbrev dShift (P : Program) (op : BinOp) (t yt : TypeId) (a b : V) (K : V → A) : A := match und P t, und P yt with
  | .int k, .int k' => match op with
    | .shl => toKd k a fun a => toKd k' b fun b => shN k.bits b fun n => wrapK k (shlZ a n) fun z => K (mkI k z)
    | .shr => toKd k a fun a => toKd k' b fun b => shN k.bits b fun n => bZ (shrZ a n) fun z => K (mkI k z)
    | _ => none
  | _, _ => none
/-- are the parts of a type at a place alike in two rows of cells? -/
noncomputable abbrev dEq (P : Program) : Nat → TypeId → Nat → List V → List V → Bool → (Bool → A) → A
  | 0, _, _, _, _, _, _ => none
  | d + 1, t, off, l, l2, acc, K => match und P t with
    | .int k => nth l off fun a => nth l2 off fun b => toKd k a fun x => toKd k b fun y => K (andB acc (eqZ x y))
    | .bool => nth l off fun a => nth l2 off fun b => toB a fun x => toB b fun y => K (andB acc (eqB x y))
    | .string => nth l off fun a => nth l2 off fun b => toS a fun n x => toS b fun n2 y => K (andB acc (sEq n x n2 y))
    | .struct fs => cd (P.stoodInHeld t || !fs.toList.all (fun f => f.name != "_" && (Nat.ble 1 (P.cellsOf f.type) && Nat.ble (f.offset + P.cellsOf f.type) (P.cellsOf t)))) (none) (fs.toList.foldr (fun f K acc => dEq P d f.type (off + f.offset) l l2 acc K) K acc)
    | .array n el => cd (Nat.ble 1 (P.cellsOf el) && Nat.ble (n * P.cellsOf el) (P.cellsOf t)) ((List.range n).foldr (fun i K acc => dEq P d el (off + i * P.cellsOf el) l l2 acc K) K acc) none
    | _ => none
noncomputable abbrev dEqA (P : Program) (t : TypeId) (a b : V) (K : Bool → A) : A :=
  match und P t with
  | .struct _ => cd (P.eqGuardType P.depth t) (none) (toA a fun l => toA b fun l2 => lnc l (P.cellsOf t) (lnc l2 (P.cellsOf t) (dEq P 20 t 0 l l2 true K)))
  | .array .. => cd (P.eqGuardType P.depth t) (none) (toA a fun l => toA b fun l2 => lnc l (P.cellsOf t) (lnc l2 (P.cellsOf t) (dEq P 20 t 0 l l2 true K)))
  | _ => none
/-- two keys of a map -/
noncomputable abbrev dKey (P : Program) (t : TypeId) : Option (V → V → (Bool → A) → A) := match und P t with
  | .int k => some fun a b K => toKd k a fun x => toKd k b fun y => K (eqZ x y)
  | .bool => some fun a b K => toB a fun x => toB b fun y => K (eqB x y)
  | .string => some fun a b K => toS a fun n x => toS b fun n2 y => K (sEq n x n2 y)
  | _ => none
noncomputable abbrev strO (op : BinOp) (l n l2 n2 : Nat) (K : V → A) : A := match op with
  | .add => cnd (Nat.ble (Nat.add l l2) 4294967296) (sCat l n l2 n2 fun l n => K (.str l n)) none
  | .eql => K (.bool (sEq l n l2 n2))
  | .neq => K (.bool (notB (sEq l n l2 n2)))
  | .lss => K (.bool (sLs l n l2 n2))
  | .geq => K (.bool (notB (sLs l n l2 n2)))
  | .leq => K (.bool (sLe l n l2 n2))
  | .gtr => K (.bool (notB (sLe l n l2 n2)))
  | _ => none
noncomputable abbrev nilO (op : BinOp) (b : Bool) (K : V → A) : A := match op with
  | .eql => K (.bool b) | .neq => K (.bool (notB b)) | _ => none
noncomputable abbrev dBin (P : Program) (op : BinOp) (t : TypeId) (x y : Operand) (a b : V) (K : V → A) : A := match und P t with
  | .int k => toKd k a fun a => toKd k b fun b => intO op k a b K
  | .string => toS a fun l n => toS b fun l2 n2 => strO op l n l2 n2 K
  | .bool => toB a fun a => toB b fun b => nilO op (eqB a b) K
  | .pointer q => match y with
    | .const (.pointer none) => nlP a fun z => nilO op z K
    | _ => cd (Nat.ble 1 (P.cellsOf q)) (pEq a b fun z => nilO op z K) (none)
  | .slice _ => match y with
    | .const (.slice none _ _) => nlS a fun z => nilO op z K
    | _ => none
  | .map _ _ => match y with
    | .const (.map none) => nlM a fun z => nilO op z K
    | _ => none
  | .func .. => match y with
    | .const .nilFunc => nlF a fun z => nilO op z K
    | _ => none
  | .interface _ => match y with
    | .const .nilIface => nlI a fun z => nilO op z K
    | _ => none
  | .struct _ => dEqA P t a b fun z => nilO op z K
  | .array .. => dEqA P t a b fun z => nilO op z K
  | _ => none

/-- the parts of a composite are put in their places: offset, size, is it an aggregate -/
noncomputable abbrev dFill (P : Program) (e : Env) (pl : Nat → Option (Nat × Nat × Bool)) : List (Nat × Operand) → List V → (List V → A) → A
  | [], acc, K => K acc
  | (i, x) :: r, acc, K => match pl i with
    | some (off, n, true) => toA (evA P e x) fun l => lnc l n (smc off l acc fun acc => dFill P e pl r acc K)
    | some (off, n, false) => cd (Nat.beq n 1) (one (evA P e x) (setO (evA P e x) acc off fun acc => dFill P e pl r acc K)) (none)
    | none => none
abbrev repS (n : Nat) (z : List V) : List V := (List.range (n * z.length)).map fun i => z.getD (i % z.length) .undef
abbrev fieldOf (P : Program) (t : TypeId) (f : Nat) : Option (Nat × Nat × TypeId) := match und P t with
  | .struct fs => match fs[f]? with | some f => some (f.offset, P.cellsOf f.type, f.type) | none => none
  | _ => none
abbrev placeS (P : Program) (t : TypeId) (i : Nat) : Option (Nat × Nat × Bool) := match fieldOf P t i with
  | some (o, n, ft) => some (o, n, isAg P ft)
  | none => none
abbrev placeA (P : Program) (el : TypeId) (i : Nat) : Option (Nat × Nat × Bool) := some (i * P.cellsOf el, P.cellsOf el, isAg P el)
noncomputable abbrev bndO (P : Program) (e : Env) (x : Option Operand) (K : Option Int → A) : A := match x with
  | none => K none
  | some x => toI (evA P e x) fun n => K (some n)
abbrev hasInfo (P : Program) (t : TypeId) : Bool := (P.underlying t).isSome

/-- the class of an operation: 0 reads no memory, 1 reads memory, 2 makes a block, 3 writes -/
abbrev cls (P : Program) : Op → Nat
  | .load .. | .lookup .. => 1
  | .alloc _ | .box .. | .buildSlice .. | .makeMap .. | .makeSlice .. => 2
  | .store .. | .insert .. | .mapUpdate .. => 3
  | .convert s d _ => match und P s, und P d with
    | .slice _, .string => 1
    | .string, .slice _ => 3
    | .pointer _, .unsafePointer => 1
    | .unsafePointer, .pointer _ => 1
    | _, _ => 0
  | .call c => match c.callee with
    | .builtin .len => match c.argTypes[0]? with
      | some t => match und P t with
        | .map .. => 1
        | _ => 0
      | none => 0
    | .builtin .cap | .builtin .min | .builtin .max | .builtin .unsafeSliceData => 0
    | _ => 3
  | _ => 0

/-- may one append to a slice of these? -/
abbrev apOk (P : Program) (el : TypeId) : Bool := match P.info? el with
  | some i => match i.zero with
    | some z => z.cells.toList.all oc && Nat.beq z.cells.size i.size && Nat.ble i.bytes 4096
    | none => false
  | none => false
noncomputable abbrev dP (P : Program) (o : Oper) (e : Env) (K : V → A) : A := match o.op with
  | .move x | .assign x => K (evA P e x)
  | .pick c a b => toB (evA P e c) fun z => opn P o.type (pkV z (evA P e a) (evA P e b)) K
  | .build t parts => match und P t with
    | .struct fs => cd (fs.toList.all (fun f => hasInfo P f.type)) (sob (zcs P t) fun z => dFill P e (placeS P t) parts.toList z fun cs => K (.agg cs)) (none)
    | .array _ el => cd (hasInfo P el) (sob (zcs P t) fun z => dFill P e (placeA P el) parts.toList z fun cs => K (.agg cs)) (none)
    | _ => none
  | .nilCheck x => toP (evA P e x) fun b o' => K (.ptr b o')
  | .binOp op t x y yt => match op with
    | .shl => dShift P .shl t yt (evA P e x) (evA P e y) K
    | .shr => dShift P .shr t yt (evA P e x) (evA P e y) K
    | op => dBin P op t x y (evA P e x) (evA P e y) K
  | .unOp u t x => match u, und P t with
    | .not, _ => toB (evA P e x) fun z => K (.bool (notB z))
    | .neg, .int k => toKd k (evA P e x) fun z => wrapK k (negZ z) fun z => K (mkI k z)
    | .xor, .int k => toKd k (evA P e x) fun z => wrapK k (zXor (2 ^ k.bits) (if k.signed then -1 else k.max) z) fun z => K (mkI k z)
    | _, _ => none
  | .convert s d x => match und P s, und P d with
    | .int k, .int k' => toKd k (evA P e x) fun z => wrapK k' z fun z => K (mkI k' z)
    | .string, .string => toS (evA P e x) fun l n => K (.str l n)
    | _, _ => none
  | .makeInterface t x => match und P t with
    | .interface _ | .invalid => none
    | _ => one (evA P e x) (K (.iface t (evA P e x)))
  | .makeFunc (.func f) a b => K (.fn f (a.toList.map (evA P e)) (b.toList.map (evA P e)))
  | .slice t x lo hi mx => match und P t with
    | .string => match mx with
      | none => toS (evA P e x) fun l n => bndO P e lo fun lo => bndO P e hi fun hi => sSub l n (lo.getD (Int.ofNat 0)) (hi.getD (Int.ofNat l)) fun l n => K (.str l n)
      | some _ => none
    | .slice el => cd (hasInfo P el) (bndO P e lo fun lo => bndO P e hi fun hi => bndO P e mx fun mx => slc (evA P e x) (P.cellsOf el) lo hi mx K) (none)
    | _ => none
  | .fieldAddr t x f => match fieldOf P t f with
    | some (off, n, _) => cd (Nat.beq n 0) (none) (toP (evA P e x) fun b o' => K (.ptr b (Nat.add o' off)))
    | none => none
  | .field t x f => match fieldOf P t f with
    | some (off, n, ft) => toA (evA P e x) fun l => cd (isAg P ft) (tkc l off n fun l => K (.agg l)) (cd (hasInfo P ft) (nth l off fun v => opn P ft v K) (none))
    | none => none
  | .indexAddr t x i => match und P t with
    | .slice el => cd (hasInfo P el) (toZ (evA P e i) fun i => ix (evA P e x) (P.cellsOf el) i fun b o' => K (.ptr b o')) (none)
    | .array n el => cd (hasInfo P el) (toZ (evA P e i) fun i => toP (evA P e x) fun b o' => ixA b o' n (P.cellsOf el) i fun b o' => K (.ptr b o')) (none)
    | _ => none
  | .index t x i => match und P t with
    | .string => toZ (evA P e i) fun i => toS (evA P e x) fun l n => sIdx l n i fun z => K (.u8 z)
    | _ => none
  | .extract x i => toT (evA P e x) fun l => nth l i fun v => opn P o.type v K
  | .call c => match c.callee with
    | .builtin .len => match c.argTypes[0]?, c.args[0]? with
      | some t, some a => match und P t with
        | .string => toS (evA P e a) fun l _ => K (.i (Int.ofNat l))
        | .slice _ => ln (evA P e a) fun n => K (.i n)
        | _ => none
      | _, _ => none
    | .builtin .cap => match c.argTypes[0]?, c.args[0]? with
      | some t, some a => match und P t with
        | .slice _ => capV (evA P e a) fun n => K (.i n)
        | _ => none
      | _, _ => none
    | .builtin .min => match c.args.toList with
      | [a, b] => toI (evA P e a) fun a => toI (evA P e b) fun b => bZ (minZ a b) fun z => K (.i z)
      | _ => none
    | .builtin .max => match c.args.toList with
      | [a, b] => toI (evA P e a) fun a => toI (evA P e b) fun b => bZ (maxZ a b) fun z => K (.i z)
      | _ => none
    | .builtin .unsafeSliceData => match c.args.toList with
      | [a] => sld (evA P e a) K
      | _ => none
    | _ => none
  | _ => none
noncomputable abbrev dR (P : Program) (o : Oper) (e : Env) (h : H) (K : V → A) : A := match o.op with
  | .load t a => cd (hasInfo P t) (toP (evA P e a) fun b o' => cd (isAg P t) (ldN h b o' (P.cellsOf t) fun l => K (.agg l)) (ld h b o' fun v => opn P t v K)) (none)
  | .lookup t x i ok => match und P t with
    | .map kt el => sob (dKey P kt) fun eq => sob (zv P el) fun z => eq (evA P e i) (evA P e i) fun _ => lkp eq h (evA P e x) (evA P e i) z fun v b => cd (ok) (K (.tup [v, .bool b])) (opn P el v K)
    | _ => none
  | .convert s d x => match und P s, und P d with
    | .slice el, .string => match und P el with
      | .int .u8 => b2s h (evA P e x) fun l n => K (.str l n)
      | _ => none
    | .pointer t, .unsafePointer => cd (Nat.ble 1 (P.cellsOf t)) (p2u h (evA P e x) K) (none)
    | .unsafePointer, .pointer t => cd (Nat.ble 1 (P.cellsOf t)) (u2p h t (P.cellsOf t) (evA P e x) K) (none)
    | _, _ => none
  | .call c => match c.callee with
    | .builtin .len => match c.argTypes[0]?, c.args[0]? with
      | some t, some a => match und P t with
        | .map .. => lenM h (evA P e a) fun n => K (.i n)
        | _ => none
      | _, _ => none
    | _ => none
  | _ => none
noncomputable abbrev dA (P : Program) (o : Oper) (e : Env) (K : Blk → (Nat → V) → A) : A := match o.op with
  | .alloc t => sob (zcs P t) fun z => K (.cells false t z) fun b => .ptr b 0
  | .box t x => cd (isAg P t) (toA (evA P e x) fun l => K (.cells false t l) fun b => .ptr b 0) (one (evA P e x) (K (.cells false t [evA P e x]) fun b => .ptr b 0))
  | .buildSlice t n parts => match und P t with
    | .slice el => cd (Nat.ble (n * P.cellsOf el) 16777216 && Nat.ble 1 (P.cellsOf el)) (sob (zcs P el) fun z => (cd (Nat.beq z.length (P.cellsOf el)) (dFill P e (placeA P el) parts.toList (repS n z) fun cs => K (.cells false el cs) fun b => .sl b 0 n n (P.cellsOf el) true) (none))) (none)
    | _ => none
  | .makeMap _ none => K (.map []) fun b => .map b
  | .makeSlice t l c => match und P t with
    | .slice el => match P.info? el with
      | some i => cd (Nat.ble 1 i.size) (sob (zcs P el) fun z => (cd (Nat.beq z.length i.size) (toI (evA P e l) fun l => toI (evA P e c) fun c => mkS i.bytes z l c fun cs l c => K (.cells false el cs) fun b => .sl b 0 l c i.size true) (none))) (none)
      | none => none
    | _ => none
  | _ => none
/-- the type of the elements of the slice that a function returns -/
abbrev xel (P : Program) (f : Nat) : Nat := match P.funcs[f]? with
  | some fn => match fn.resultTypes[0]? with
    | some t => match und P t with
      | .slice el => el
      | _ => 0
    | none => 0
  | none => 0
noncomputable abbrev dW (P : Program) (X : Nat → Nat) (S : Sm) (o : Oper) (e : Env) (h : H) (K : V → H → A) : A := match o.op with
  | .store t a x => toP (evA P e a) fun b o' => cd (hasInfo P t) (cd (isAg P t) (toA (evA P e x) fun l => stN h b o' (P.cellsOf t) l fun h => K (.tup []) h) (cd (Nat.beq (P.cellsOf t) 1) (st h b o' (evA P e x) fun h => K (.tup []) h) (none))) (none)
  | .call c => match c.callee with
    | .value (.func f) => match X f with
      | 0 => cl (S f (c.args.toList.map (evA P e)) h) fun v h => opn P o.type v fun r => K r h
      | 2 => match c.args.toList with
        | [a] => K (evA P e a) h
        | _ => none
      | 3 => match c.args.toList with
        | [a] => toI (evA P e a) fun n => mnz h (xel P f) n K
        | _ => none
      | 4 => match c.args.toList with
        | [a, b] => toS (evA P e a) fun l n => toS (evA P e b) fun l2 n2 => bZ (cmpZ l n l2 n2) fun z => K (.i z) h
        | _ => none
      | _ => none
    | .value x => toF (evA P e x) fun f a b => cnd (Nat.beq (X f) 0) (cl (S f (app a (app (c.args.toList.map (evA P e)) b)) h) fun v h => opn P o.type v fun r => K r h) none
    | .builtin .append => match c.argTypes[0]?, c.args[0]?, c.args[1]?, c.argTypes[1]? with
      | some t, some a, some b, some t2 => match und P t, und P t2 with
        | .slice el, .slice _ | .slice el, .string => cd (apOk P el) (apd h (evA P e a) (evA P e b) (P.cellsOf el) el K) (none)
        | _, _ => none
      | _, _, _, _ => none
    | .builtin .copy => match c.argTypes[0]?, c.args.toList with
      | some t, [a, b] => match und P t with
        | .slice el => cd (Nat.ble 1 (P.cellsOf el)) (cpy h (evA P e a) (evA P e b) (P.cellsOf el) fun n h => K (.i n) h) (none)
        | _ => none
      | _, _ => none
    | .builtin .clear => match c.argTypes[0]?, c.args.toList with
      | some t, [a] => match und P t with
        | .slice el => sob (zcs P el) fun z => cd (Nat.ble 1 (P.cellsOf el) && Nat.beq z.length (P.cellsOf el)) (clr h (evA P e a) (P.cellsOf el) z fun h => K (.tup []) h) (none)
        | _ => none
      | _, _ => none
    | .builtin .unsafeString => match c.argTypes[0]?, c.args.toList with
      | some t, [a, b] => match und P t with
        | .pointer el => cd (Nat.beq (P.cellsOf el) 1) (toI (evA P e b) fun n => ust h el (evA P e a) n K) (none)
        | _ => none
      | _, _ => none
    | _ => none
  | .insert t m k x => match und P t with
    | .map kt _ => sob (dKey P kt) fun eq => eq (evA P e k) (evA P e k) fun _ => ins eq h (evA P e m) (evA P e k) (evA P e x) fun h => K (.tup []) h
    | _ => none
  | .mapUpdate t m k x => match und P t with
    | .map kt _ => sob (dKey P kt) fun eq => eq (evA P e k) (evA P e k) fun _ => ins eq h (evA P e m) (evA P e k) (evA P e x) fun h => K (.tup []) h
    | _ => none
  | .convert s d x => match und P s, und P d with
    | .string, .slice el => match und P el with
      | .int .u8 => toS (evA P e x) fun l n => s2b h el l n K
      | _ => none
    | _, _ => none
  | _ => none
end GoEv
