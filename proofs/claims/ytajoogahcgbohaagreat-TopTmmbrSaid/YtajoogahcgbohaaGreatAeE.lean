/- An abstract evaluator, part E: the loaded operations, their types resolved. -/
import Derived.Test.YtajoogahcgbohaaGreatAeD
set_option linter.unusedVariables false
set_option linter.unusedSimpArgs false
namespace Go.Proofs.YtajoogahcgbohaaGreatA
open Go.RowKit
/-- All methods that are wanted are there (told so that the kernel reckons it). -/
def hasAll (want : Array (String × TypeId)) (got : Array Method) : Bool := want.toList.all fun w => got.any fun m => m.name == w.1 && m.sig == w.2
theorem hasAll_none {want : Array (String × TypeId)} {got : Array Method} (h : hasAll want got = true) : Instr.missingMethod want got = none := by
  have e : (want.toList.filter fun (name, sig) => !got.any fun m => m.name == name && m.sig == sig) = [] := by
    rw [List.filter_eq_nil_iff]
    rintro ⟨n, s⟩ hm
    have := List.all_eq_true.1 h _ hm
    simp only at this
    simp [this]
  unfold Instr.missingMethod
  rw [e]
  rfl
theorem hasAll_some {want : Array (String × TypeId)} {got : Array Method} (h : hasAll want got = false) : ∃ m, Instr.missingMethod want got = some m := by
  have e : ((want.toList.filter fun (name, sig) => !got.any fun m => m.name == name && m.sig == sig).map (·.1)) ≠ [] := by
    intro h0
    rw [List.map_eq_nil_iff, List.filter_eq_nil_iff] at h0
    have : hasAll want got = true := List.all_eq_true.2 fun ⟨n, s⟩ hm => by
      have := h0 _ hm
      simpa using this
    rw [h] at this; cases this
  unfold Instr.missingMethod
  generalize ((want.toList.filter fun (name, sig) => !got.any fun m => m.name == name && m.sig == sig).map (·.1)) = l at e
  simp only [List.partition_eq_filter_filter]
  cases h1 : l.filter (fun x => !(x.contains '.')) with
  | cons a r => exact ⟨_, by simp only [Function.comp_def, h1]; rfl⟩
  | nil =>
    have h2 : l.filter (fun x => x.contains '.') ≠ [] := by
      intro h2
      cases l with
      | nil => exact e rfl
      | cons a r =>
        by_cases hc : a.contains '.' = true
        · have : a ∈ (a :: r).filter (fun x => x.contains '.') := List.mem_filter.2 ⟨List.mem_cons_self, hc⟩
          rw [h2] at this; cases this
        · have : a ∈ (a :: r).filter (fun x => !(x.contains '.')) := List.mem_filter.2 ⟨List.mem_cons_self, by simpa using hc⟩
          rw [h1] at this; cases this
    cases h3 : l.filter (fun x => x.contains '.') with
    | nil => exact absurd h3 h2
    | cons a r => exact ⟨_, by simp only [Function.comp_def, h1, h3]; rfl⟩

def ofV : Nat → Value → Option AV
  | 0, _ => none
  | d + 1, v => match v with
    | .int k n => if (Lit.int k n).wf = true then some (.int k n) else none
    | .bool b => some (.bool b)
    | .float k b => some (.float k b)
    | .string s => some (.str (bytesN s))
    | .pointer none => some (.ptr none)
    | .slice none 0 0 => some (.slice none 0 0 none)
    | .nilFunc => some .nilFunc
    | .nilIface => some .nilIface
    | .func (.func f) first caps => if first.isEmpty && caps.isEmpty then some (.func f []) else none
    | .agg cs => (cs.toList.mapM (ofV d)).bind fun l => if l.all AV.atom = true then some (.agg l) else none
    | .iface t v => (ofV d v).map (.iface t)
    | _ => none
def cX : Operand → Option XO
  | .tmp t => some (.t t)
  | .const v => (ofV 4 v).map .c
  | .func f => some (.c (.func f []))
  | .global _ => none
def cXs (l : List Operand) : Option (List XO) := l.mapM cX
def cXo : Option Operand → Option (Option XO)
  | none => some none
  | some x => (cX x).map some
def szOf (P : Program) (t : TypeId) : Option Nat := (P.info? t).map (·.size)
def byOf (P : Program) (t : TypeId) : Option Nat := (P.info? t).map (·.bytes)
def isAggT (P : Program) (t : TypeId) : Option Bool := (P.underlying t).map fun | .struct _ | .array _ _ => true | _ => false
def zeroOf (P : Program) (t : TypeId) : Option (List AV) := ((P.info? t).bind (·.zero)).bind fun z => (ofV 4 z).map AV.cells
def zeroV (P : Program) (t : TypeId) : Option AV := ((P.info? t).bind (·.zero)).bind (ofV 4)
def scalT (P : Program) (t : TypeId) : Option ET := match P.underlying t with | some .bool => some .bool | some (.int _) => some .num | some .string => some .str | _ => none
def etFs (P : Program) : List Field → Option (List (Nat × ET))
  | [] => some []
  | f :: r => if (f.name != "_") = true ∧ szOf P f.type = some 1 then (scalT P f.type).bind fun e => (etFs P r).map ((f.offset, e) :: ·) else none
def etOf (P : Program) (t : TypeId) : Option ET :=
  match P.underlying t with
  | some (.pointer _) => some .ptr
  | some (.slice _) => some .slc
  | some (.func _ _ _) => some .fn
  | some (.interface _) => some .face
  | some (.struct fs) => if P.stoodInHeld t = false ∧ P.eqGuardType P.depth t = false then (etFs P fs.toList).map .strct else none
  | some (.array n e) => if szOf P e = some 1 ∧ P.eqGuardType P.depth t = false then (scalT P e).map fun k => .strct ((List.range n).map fun i => (i, k)) else none
  | _ => scalT P t
def cPartsS (P : Program) (fs : Array Field) : List (Nat × Operand) → Option (List (Nat × Nat × XO))
  | [] => some []
  | (i, x) :: r => match fs[i]? with
    | none => none
    | some f => (szOf P f.type).bind fun n => (cX x).bind fun x => (cPartsS P fs r).map ((f.offset, n, x) :: ·)
def cPartsA (size : Nat) : List (Nat × Operand) → Option (List (Nat × Nat × XO))
  | [] => some []
  | (i, x) :: r => (cX x).bind fun x => (cPartsA size r).map ((i * size, size, x) :: ·)
def cBuiltin (P : Program) (b : Builtin) (ats : List TypeId) (args : List Operand) : Option AOp :=
  match b, ats, args with
  | .append, [t, u], [s, x] =>
    match P.underlying t with
    | some (.slice e) => (szOf P e).bind fun n => (byOf P e).bind fun by_ => (zeroOf P e).bind fun z => (cX s).bind fun s => (cX x).bind fun x =>
      if z.length = n ∧ 0 < n ∧ 0 < by_ ∧ z.all AV.atom = true then
      match P.underlying u with
      | some (.int _) => some (.appendZ n by_ z s x)
      | some (.slice _) => some (.append n by_ s x)
      | some .string => if n = 1 then some (.appendS by_ s x) else none
      | _ => none else none
    | _ => none
  | .len, [t], [x] => (cX x).bind fun x => match P.underlying t with
    | some .string => some (.lenS x)
    | some (.slice _) => some (.len x)
    | some (.array n _) => if n ≤ 9223372036854775807 then some (.lenArr n) else none
    | _ => none
  | .cap, [t], [x] => (cX x).bind fun x => match P.underlying t with
    | some (.slice _) => some (.cap x)
    | _ => none
  | .max, _, xs => (cXs xs).map .mx
  | .min, _, xs => (cXs xs).map .mn
  | .copy, [t, u], [d, s] => match P.underlying t with
    | some (.slice e) => (szOf P e).bind fun n => (cX d).bind fun d => (cX s).map fun s => .copy n d s
    | _ => none
  | .clear, [t], [x] => match P.underlying t with
    | some (.slice e) => (szOf P e).bind fun n => (zeroOf P e).bind fun z => if z.length = n ∧ 0 < n ∧ z.all AV.atom = true then (cX x).map fun x => .clr n z x else none
    | _ => none
  | _, _, _ => none
/-- The functions that a method of this name is, of each type whose values bear it plainly. -/
def cTab (P : Program) (name : String) : List (Nat × Nat) :=
  (List.range P.types.size).filterMap fun t => match P.info? t with
    | some i => match i.methods.find? (·.name == name) with
      | some m => if m.path.isEmpty then match m.func with
          | some (f, pr) => if pr == (match P.underlying t with | some (.pointer _) => true | some _ => false | none => !pr) then some (t, f) else none
          | none => none
        else none
      | none => none
    | none => none
/-- A map of whole numbers: the kinds of its keys and values. -/
def mapT (P : Program) (t : TypeId) : Option (IntKind × IntKind) :=
  match P.underlying t with
  | some (.map k e) => match P.underlying k, zeroV P e with
      | some (.int kk), some (.int kv z) => if z = 0 then some (kk, kv) else none
      | _, _ => none
  | _ => none
def cOp (P : Program) (op : Op) : Option AOp :=
  match op with
  | .move x | .assign x => (cX x).map .mv
  | .pick c a b => (cX c).bind fun c => (cX a).bind fun a => (cX b).map fun b => .pick c a b
  | .alloc t => (zeroOf P t).bind fun z => if z.all AV.atom = true then some (.alloc z) else none
  | .box _ x => (cX x).map .box
  | .build t parts => (zeroOf P t).bind fun z => if z.all AV.atom = true then match P.underlying t with
      | some (.struct fs) => if (fs.toList.all fun f => (szOf P f.type).isSome) = true then (cPartsS P fs parts.toList).map (.build z) else none
      | some (.array _ e) => (szOf P e).bind fun n => (cPartsA n parts.toList).map (.build z)
      | _ => none else none
  | .buildSlice t len parts => match P.underlying t with
      | some (.slice e) => (szOf P e).bind fun n => (zeroOf P e).bind fun z => if z.length = n ∧ 0 < n ∧ len * n ≤ 16777216 ∧ z.all AV.atom = true then (cPartsA n parts.toList).map (.buildSlice n z len) else none
      | _ => none
  | .load t a => (isAggT P t).bind fun g => (szOf P t).bind fun n => (cX a).map fun a => bif g then .loadN n a else .load1 a
  | .store t a x => (szOf P t).bind fun n => (cX a).bind fun a => (cX x).map fun x => .store n a x
  | .nilCheck x => (cX x).map .nilCheck
  | .binOp op t x y _ => (cX x).bind fun x => (cX y).bind fun y => match op with
      | .eql | .neq => (etOf P t).map fun e => .bin op e x y
      | _ => some (.bin op .num x y)
  | .unOp op _ x => (cX x).map (.un op)
  | .convert s d x => (cX x).bind fun x => match P.underlying s, P.underlying d with
      | some (.int _), some (.int k) => some (.conv (.int k) x)
      | some (.int _), some .string => some (.conv .runeStr x)
      | some .string, some .string => some (.conv .same x)
      | some .string, some (.slice e) => match P.underlying e with
          | some (.int .u8) => some (.conv .strBytes x)
          | some (.int .i32) => some (.conv .strRunes x)
          | _ => none
      | some (.slice e), some .string => match P.underlying e with
          | some (.int .u8) => some (.conv .bytesStr x)
          | some (.int .i32) => some (.conv .runesStr x)
          | _ => none
      | some (.slice _), some (.slice e) => match s == d, P.underlying e with
          | true, some (.int .u8) => some (.conv .mark x)
          | _, _ => none
      | _, _ => none
  | .makeInterface t x => match P.underlying t with
      | some (.interface _) | none => none
      | _ => (cX x).map (.mkIface t)
  | .makeFunc (.func f) first caps => if first.isEmpty then (cXs caps.toList).map (.mkFunc f) else none
  | .makeSlice t l c => match P.underlying t with
      | some (.slice e) => (szOf P e).bind fun n => (byOf P e).bind fun by_ => (zeroOf P e).bind fun z => (cX l).bind fun l => (cX c).bind fun c =>
          if z.length = n ∧ 0 < n ∧ z.all AV.atom = true then some (.mkSlice n by_ z l c) else none
      | _ => none
  | .slice t x lo hi mx => (cX x).bind fun x => (cXo lo).bind fun lo => (cXo hi).bind fun hi => (cXo mx).bind fun mx => match P.underlying t with
      | some .string => if mx.isNone then some (.cutStr x lo hi) else none
      | some (.slice e) => (szOf P e).map fun n => .cut n x lo hi mx
      | some (.array n e) => if mx.isNone then (szOf P e).map fun s => .cutArr n s x lo hi else none
      | _ => none
  | .fieldAddr s x f => (cX x).bind fun x => match P.underlying s with
      | some (.struct fs) => match fs[f]? with
          | some fd => (szOf P fd.type).bind fun n => if 0 < n then some (.fieldAddr fd.offset n x) else none
          | none => none
      | _ => none
  | .field s x f => (cX x).bind fun x => match P.underlying s with
      | some (.struct fs) => match fs[f]? with
          | some fd => (isAggT P fd.type).bind fun g => (szOf P fd.type).map fun n => bif g then .fieldN fd.offset n x else .field1 fd.offset x
          | none => none
      | _ => none
  | .indexAddr t x i => (cX x).bind fun x => (cX i).bind fun i => match P.underlying t with
      | some (.array n e) => (szOf P e).map fun s => .ixArr n s x i
      | some (.slice e) => (szOf P e).map fun s => .ixSlice s x i
      | _ => none
  | .index t x i => (cX x).bind fun x => (cX i).bind fun i => match P.underlying t with
      | some (.array n e) => (isAggT P e).bind fun g => (szOf P e).bind fun s => bif g then some (.ixAggN n s x i) else if s = 1 then some (.ixAgg1 n x i) else none
      | some .string => some (.ixStr x i)
      | _ => none
  | .range t x => match P.underlying t with
      | some .string => (cX x).map .range
      | _ => none
  | .next x true => (cX x).map .next
  | .typeAssert x _ t ok => (cX x).bind fun x => match P.underlying t with
      | some (.interface want) =>
        match zeroV P t with
        | some .nilIface => some (.assertI ((List.range P.types.size).filter fun u => match P.info? u with | some i => hasAll want i.methods | none => false)
            ((List.range P.types.size).filter fun u => match P.info? u with | some i => !hasAll want i.methods | none => false) ok x)
        | _ => none
      | some _ => (zeroV P t).map fun z => .assert t z ok x
      | none => none
  | .extract x i => (cX x).map (.extract i)
  | .call c => match c.callee with
      | .value (.func f) => (cXs c.args.toList).map (.call f)
      | .value x => (cX x).bind fun x => (cXs c.args.toList).map (.callV x)
      | .builtin b => cBuiltin P b c.argTypes.toList c.args.toList
      | .invoke x name => (cX x).bind fun x => (cXs c.args.toList).map (.invoke name (cTab P name) x)
  | .makeMap t none => (mapT P t).map fun p => .mkMap p.1 p.2
  | .lookup t m k ok => (mapT P t).bind fun p => (cX m).bind fun m => (cX k).map fun k => .lookup p.1 p.2 ok m k
  | .mapUpdate t m k x => (mapT P t).bind fun p => (cX m).bind fun m => (cX k).bind fun k => (cX x).map fun x => .mapSet p.1 p.2 m k x
  | .panic _ => some .stop
  | _ => none

/-! ### Constants -/
section
variable {ρ : Rho}
theorem mapM_cons_some {α β : Type} {f : α → Option β} {a : α} {l : List α} {r : List β} (h : (a :: l).mapM f = some r) : ∃ b r', f a = some b ∧ l.mapM f = some r' ∧ r = b :: r' := by
  simp only [List.mapM_cons, Option.bind_eq_bind, Option.bind_eq_some_iff, Option.pure_def, Option.some.injEq] at h
  obtain ⟨b, hb, r', hr, rfl⟩ := h
  exact ⟨b, r', hb, hr, rfl⟩
theorem ofV_sound : ∀ (d : Nat) (v : Value) (a : AV), ofV d v = some a → VR ρ a v := by
  intro d
  induction d with
  | zero => intro v a h; cases h
  | succ d ih =>
    have list : ∀ (vs : List Value) (l : List AV), vs.mapM (ofV d) = some l → VRs ρ l vs := by
      intro vs
      induction vs with
      | nil => intro l h; simp at h; subst h; exact .nil
      | cons v vs ihv =>
        intro l h
        obtain ⟨b, r', h1, h2, rfl⟩ := mapM_cons_some h
        exact .cons (ih v b h1) (ihv r' h2)
    intro v a h
    unfold ofV at h
    split at h
    · split at h
      · rename_i hw; cases h; exact .int hw
      · cases h
    · cases h; exact .bool
    · cases h; exact .float
    · cases h; exact .str rfl
    · cases h; exact .ptrNil
    · cases h; exact .sliceNil
    · cases h; exact .nilFunc
    · cases h; exact .nilIface
    · split at h
      · rename_i he
        simp only [Bool.and_eq_true, Array.isEmpty_iff] at he
        obtain ⟨rfl, rfl⟩ := he
        cases h
        exact .func .nil
      · cases h
    · rename_i cs
      cases hm : cs.toList.mapM (ofV d) with
      | none => rw [hm] at h; cases h
      | some l =>
        rw [hm] at h
        simp only [Option.bind_some] at h
        split at h
        · rename_i ha; cases h; exact .agg (list _ _ hm) ha
        · cases h
    · rename_i t v'
      cases hm : ofV d v' with
      | none => rw [hm] at h; cases h
      | some x => rw [hm] at h; cases h; exact .iface (ih v' x hm)
    · cases h

/-! ### Temporaries -/
def TR (ρ : Rho) (T : Tm) (tmps : Array Value) : Prop := ∀ i v, T.get i = some v → ∃ c, tmps[i]? = some c ∧ VR ρ v c
theorem TR.mono {ρ' : Rho} {T : Tm} {tmps : Array Value} (h : TR ρ T tmps) (hle : ρ.le ρ') : TR ρ' T tmps := fun i v e => let ⟨c, h1, h2⟩ := h i v e; ⟨c, h1, VR.mono hle h2⟩
theorem TR.put {T : Tm} {tmps : Array Value} (h : TR ρ T tmps) {d : Nat} (hd : d < tmps.size) {v : AV} {c : Value} (hv : VR ρ v c) : TR ρ (T.set d v) (tmps.setIfInBounds d c) := by
  intro i x e
  rw [Tr.get_set] at e
  by_cases hi : i = d
  · rw [if_pos hi] at e; cases e; subst hi; exact ⟨c, by simp [hd], hv⟩
  · rw [if_neg hi] at e
    obtain ⟨c', h1, h2⟩ := h i x e
    exact ⟨c', by rw [Array.getElem?_setIfInBounds_ne (Ne.symm hi)]; exact h1, h2⟩
theorem cX_sound {T : Tm} {a : Act} (hT : TR ρ T a.tmps) {x : Operand} {y : XO} (hc : cX x = some y) {v : AV} (he : y.ev T = some v) : VR ρ v (a.eval x) := by
  cases x with
  | tmp t =>
    cases hc
    obtain ⟨c, h1, h2⟩ := hT t v he
    simpa [Act.eval, h1] using h2
  | const u =>
    simp only [cX, Option.map_eq_some_iff] at hc
    obtain ⟨b, hb, rfl⟩ := hc
    cases he
    exact ofV_sound _ _ _ hb
  | func f => cases hc; cases he; exact .func .nil
  | global g => cases hc
theorem cXs_sound {T : Tm} {a : Act} (hT : TR ρ T a.tmps) : ∀ {l : List Operand} {ys : List XO}, cXs l = some ys → ∀ {vs : List AV}, evArgs T ys = some vs → VRs ρ vs (l.map a.eval) := by
  intro l
  induction l with
  | nil => intro ys h vs he; simp [cXs] at h; subst h; cases he; exact .nil
  | cons x l ih =>
    intro ys h vs he
    obtain ⟨y, ys', h1, h2, rfl⟩ := mapM_cons_some h
    simp only [evArgs, Option.bind_eq_some_iff, Option.map_eq_some_iff] at he
    obtain ⟨v, hv, vs', hvs, rfl⟩ := he
    exact .cons (cX_sound hT h1 hv) (ih h2 hvs)
theorem lit_const {T : Tm} {x : Operand} {y : XO} (hc : cX x = some y) (hl : y.lit = true) (he : y.ev T = some .nilIface) : (match x with | .const _ => true | _ => false) = true := by
  cases x with
  | tmp t => cases hc; cases hl
  | const v => rfl
  | func f => cases hc; cases he
  | global g => cases hc
end
end Go.Proofs.YtajoogahcgbohaaGreatA
