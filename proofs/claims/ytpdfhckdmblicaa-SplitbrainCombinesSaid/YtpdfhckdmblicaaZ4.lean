/-
  Part 4 of the texts that the statement stands on.
-/
import Derived.Test.YtpdfhckdmblicaaZ3
import Derived.TacticsIn
import Derived.RangeFuncLeaves
import Derived.RangeFuncNested
import Derived.RangeFuncRecord
import Derived.RangeFuncIn
set_option linter.all false
namespace Go.Proofs.Ytpdfhckdmblicaa
open Go.RowKit

def isInt (P : Program) (T : TypeId) : Bool := match P.underlying T with | some (.int _) => true | _ => false
def isIntK (P : Program) (T : TypeId) (k : IntKind) : Bool := match P.underlying T with | some (.int q) => q == k | _ => false
def isBoolT (P : Program) (T : TypeId) : Bool := match P.underlying T with | some .bool => true | _ => false
def isStrT (P : Program) (T : TypeId) : Bool := match P.underlying T with | some .string => true | _ => false
def placesOk (P : Program) (T : TypeId) : Bool :=
  match P.underlying T with
  | some (.array _ e) => (szOf P e).isSome
  | some (.struct fs) => (fs.toList.mapM fun f => (P.info? f.type).map fun i => (f.offset, i.size)).isSome
  | _ => false
theorem isInt_eq {P : Program} {T : TypeId} (h : isInt P T = true) : ∃ q, P.underlying T = some (.int q) := by
  unfold isInt at h; split at h
  · exact ⟨_, by assumption⟩
  · cases h
theorem isIntK_eq {P : Program} {T : TypeId} {k : IntKind} (h : isIntK P T k = true) : P.underlying T = some (.int k) := by
  unfold isIntK at h; split at h
  · rename_i q hq; rw [hq, beq_iff_eq.1 h]
  · cases h
theorem isBoolT_eq {P : Program} {T : TypeId} (h : isBoolT P T = true) : P.underlying T = some .bool := by
  unfold isBoolT at h; split at h
  · assumption
  · cases h
theorem isStrT_eq {P : Program} {T : TypeId} (h : isStrT P T = true) : P.underlying T = some .string := by
  unfold isStrT at h; split at h
  · assumption
  · cases h
theorem placesOk_eq {P : Program} {T : TypeId} (h : placesOk P T = true) : (∃ n e, arrE P T = some (n, e) ∧ (szOf P e).isSome = true) ∨ ∃ fs pl, P.underlying T = some (.struct fs) ∧ (fs.toList.mapM fun f => (P.info? f.type).map fun i => (f.offset, i.size)) = some pl := by
  unfold placesOk at h; split at h
  · rename_i n e hu; exact .inl ⟨n, e, by simp [arrE, hu], h⟩
  · rename_i fs hu
    obtain ⟨pl, hpl⟩ := Option.isSome_iff_exists.1 h
    exact .inr ⟨fs, pl, hu, hpl⟩
  · cases h

def call1 (o : Op) : Option (Builtin × Operand × TypeId) :=
  match o with
  | .call c => match c.callee with
    | .builtin b => match c.args.toList with
      | [y] => match c.argTypes.toList with
        | [T] => some (b, y, T)
        | _ => none
      | _ => none
    | _ => none
  | _ => none
def call2 (o : Op) : Option (Builtin × Operand × Operand × TypeId × TypeId) :=
  match o with
  | .call c => match c.callee with
    | .builtin b => match c.args.toList with
      | [y, y2] => match c.argTypes.toList with
        | [T, T1] => some (b, y, y2, T, T1)
        | _ => none
      | _ => none
    | _ => none
  | _ => none
def callV (o : Op) : Option (Operand × List Operand) :=
  match o with
  | .call c => match c.callee with
    | .value y => some (y, c.args.toList)
    | _ => none
  | _ => none
def callF (o : Op) : Option (Nat × List Operand) :=
  match o with
  | .call c => match c.callee with
    | .value (.func f) => some (f, c.args.toList)
    | _ => none
  | _ => none
theorem call1_eq {o : Op} {b : Builtin} {y : Operand} {T : TypeId} (h : call1 o = some (b, y, T)) : o = .call { callee := .builtin b, args := #[y], argTypes := #[T] } := by
  unfold call1 at h
  split at h
  case h_2 => cases h
  rename_i c
  split at h
  case h_2 => cases h
  rename_i b' hb
  split at h
  case h_2 => cases h
  rename_i y' hy
  split at h
  case h_2 => cases h
  rename_i T' hT
  cases h
  obtain ⟨callee, ⟨args⟩, ⟨ats⟩⟩ := c
  simp only at hb hy hT
  rw [hb, hy, hT]
theorem call2_eq {o : Op} {b : Builtin} {y y2 : Operand} {T T1 : TypeId} (h : call2 o = some (b, y, y2, T, T1)) : o = .call { callee := .builtin b, args := #[y, y2], argTypes := #[T, T1] } := by
  unfold call2 at h
  split at h
  case h_2 => cases h
  rename_i c
  split at h
  case h_2 => cases h
  rename_i b' hb
  split at h
  case h_2 => cases h
  rename_i y' y2' hy
  split at h
  case h_2 => cases h
  rename_i T' T1' hT
  cases h
  obtain ⟨callee, ⟨args⟩, ⟨ats⟩⟩ := c
  simp only at hb hy hT
  rw [hb, hy, hT]
theorem callV_eq {o : Op} {y : Operand} {ys : List Operand} (h : callV o = some (y, ys)) : ∃ ats, o = .call { callee := .value y, args := ys.toArray, argTypes := ats } := by
  unfold callV at h
  split at h
  case h_2 => cases h
  rename_i c
  split at h
  case h_2 => cases h
  rename_i y' hy
  cases h
  obtain ⟨callee, args, ats⟩ := c
  simp only at hy
  exact ⟨ats, by rw [hy]⟩
theorem callF_eq {o : Op} {f : Nat} {ys : List Operand} (h : callF o = some (f, ys)) : ∃ ats, o = .call { callee := .value (.func f), args := ys.toArray, argTypes := ats } := by
  unfold callF at h
  split at h
  case h_2 => cases h
  rename_i c
  split at h
  case h_2 => cases h
  rename_i f' hy
  cases h
  obtain ⟨callee, args, ats⟩ := c
  simp only at hy
  exact ⟨ats, by rw [hy]⟩
def mv (P : Program) (op : Op) : VOp → Bool
  | .mov _ x => match op with
    | .move y => mOpd y x
    | _ => false
  | .asg _ x => match op with
    | .assign y => mOpd y x
    | _ => false
  | .pick _ c x x2 => match op with
    | .pick yc y y2 => mOpd yc c && mOpd y x && mOpd y2 x2
    | _ => false
  | .bin _ b x x2 => match op with
    | .binOp b' _ y y2 _ => b == b' && mOpd y x && mOpd y2 x2
    | _ => false
  | .eqa _ neg n x x2 => match op with
    | .binOp b' T0 y y2 _ => b' == (if neg then .neq else .eql) && mOpd y x && mOpd y2 x2 && eqOk P T0 && szOf P T0 == some n
    | _ => false
  | .eqb _ neg x x2 => match op with
    | .binOp b' T0 y y2 _ => b' == (if neg then .neq else .eql) && mOpd y x && mOpd y2 x2 && isBoolT P T0
    | _ => false
  | .un _ b x => match op with
    | .unOp b' _ y => b == b' && mOpd y x
    | _ => false
  | .conv _ k x => match op with
    | .convert src dst y => mOpd y x && isInt P src && isIntK P dst k
    | _ => false
  | .load _ n x => match op with
    | .load T0 y => mOpd y x && cellN P T0 == some n
    | _ => false
  | .fadr _ x off => match op with
    | .fieldAddr S y f => mOpd y x && (match fieldOf P S f with | some fd => fd.offset == off && (match szOf P fd.type with | some (_ + 1) => true | _ => false) | none => false)
    | _ => false
  | .iadr _ sz x x2 => match op with
    | .indexAddr T0 y y2 => mOpd y x && mOpd y2 x2 && (match sliceE P T0 with | some e => szOf P e == some sz | none => false)
    | _ => false
  | .aadr _ x x2 len sz => match op with
    | .indexAddr T0 y y2 => mOpd y x && mOpd y2 x2 && (match arrE P T0 with | some (l, e) => l == len && szOf P e == some sz | none => false)
    | _ => false
  | .fld _ x off n => match op with
    | .field S y f => mOpd y x && (match fieldOf P S f with | some fd => fd.offset == off && cellN P fd.type == some n | none => false)
    | _ => false
  | .idx _ x x2 len sz n => match op with
    | .index T0 y y2 => mOpd y x && mOpd y2 x2 && (match arrE P T0 with | some (l, e) => l == len && szOf P e == some sz && cellN P e == some n | none => false)
    | _ => false
  | .sli _ sz x lo hi => match op with
    | .slice T0 y lo' hi' none => mOpd y x && mOpt lo' lo && mOpt hi' hi && (match sliceE P T0 with | some e => szOf P e == some sz | none => false)
    | _ => false
  | .ext _ x i => match op with
    | .extract y j => mOpd y x && i == j
    | _ => false
  | .build _ z m => match op with
    | .build T0 l => mParts P T0 l.toList m && zeroOk P T0 z && placesOk P T0
    | _ => false
  | .len _ x => match call1 op with
    | some (b, y, T0) => b == .len && mOpd y x && (sliceE P T0).isSome
    | none => false
  | .isn _ neg x => match op with
    | .binOp b T0 y (.const (.slice none 0 0)) _ => b == (if neg then .neq else .eql) && mOpd y x && (sliceE P T0).isSome
    | _ => false
  | .cut _ sz x => match op with
    | .slice T0 y none (some hi) (some mx) => mOpd y x && isZero hi && isZero mx && (match sliceE P T0 with
      | some e => szOf P e == some sz
      | none => false)
    | _ => false
  | .mvz _ x => match op with
    | .move y => mOpd y x
    | _ => false
  | .asl _ n x => match op with
    | .slice T0 y none none none => mOpd y x && (match arrE P T0 with
      | some (l, e) => l == n && szOf P e == some 1
      | none => false)
    | _ => false
  | .ldz _ n x => match op with
    | .load T0 y => mOpd y x && cellN P T0 == some n
    | _ => false
  | .lens _ x => match call1 op with
    | some (b, y, T0) => b == .len && mOpd y x && isStrT P T0
    | none => false
  | .mn _ mx x x2 => match call2 op with
    | some (b, y, y2, _, _) => b == (if mx then .max else .min) && mOpd y x && mOpd y2 x2
    | none => false
  | .mkf _ f xs => match op with
    | .makeFunc fn first ys => isFn f fn && first.isEmpty && mAll ys.toList xs
    | _ => false
  | .alloc _ z => match op with
    | .alloc T0 => zeroOk P T0 z
    | _ => false
  | .box _ x => match op with
    | .box _ y => mOpd y x
    | _ => false
  | .store dd n x x2 => match op with
    | .store T0 y y2 => dd.isNone && mOpd y x && mOpd y2 x2 && szOf P T0 == some n
    | _ => false
  | .mksl _ sz xs => match op with
    | .buildSlice T0 len l => mAll (l.toList.map (·.2)) xs && numbered 0 l.toList && len == l.size && elemOk P T0 sz && decide (len * sz ≤ 16777216)
    | _ => false
  | .make _ z x x2 => match op with
    | .makeSlice T0 y y2 => mOpd y x && mOpd y2 x2 && elemOk P T0 z.cells.length && (match sliceE P T0 with | some e => zeroOk P e z.cells | none => false)
    | _ => false
  | .app _ sz x x2 => match call2 op with
    | some (b, y, y2, T0, T1) => b == .append && T0 == T1 && mOpd y x && mOpd y2 x2 && elemOk P T0 sz
    | none => false
  | .cpy _ sz x x2 => match call2 op with
    | some (b, y, y2, T0, _) => b == .copy && mOpd y x && mOpd y2 x2 && elemOk P T0 sz
    | none => false
  | .call _ f xs => match callF op with
    | some (g, ys) => f == g && mAll ys xs
    | none => false
  | .callv _ x xs => match callV op with
    | some (y, ys) => mOpd y x && mAll ys xs
    | none => false
  | .yield _ x xs => match callV op with
    | some (y, ys) => mOpd y x && mAll ys xs
    | none => false
  | .grd _ _ _ => false
def m1 (P : Program) (o : Oper) (v : VOp) : Bool := o.dst == dstOf v && mv P o.op v

section
variable {P : Program} {L : Nat} {σ σ' : Nat → Nat} {T T' : Tags} {st st' st1 : St} {a : Act} {w w1 : World} {o : Oper} {vo : VOp}
  {rec : VCode → St → Option (Ex × St)} {env : Env}

theorem plain_sound (h : Sim L σ T st a w) (hm : m1 P o vo = true) (hp : plain vo st = some st') : Looks P L σ T st' a w o := by
  simp only [m1, Bool.and_eq_true, beq_iff_eq] at hm
  obtain ⟨hd, hm⟩ := hm
  cases vo <;> simp only [mv] at hm
  case mov d x =>
    split at hm <;> try (cases hm; done)
    rename_i ho; exact looks_mov h hd (.inl ho) hm false hp
  case asg d x =>
    split at hm <;> try (cases hm; done)
    rename_i ho; exact looks_mov h hd (.inr ho) hm true hp
  case pick d c x x2 =>
    split at hm <;> try (cases hm; done)
    rename_i ho
    simp only [Bool.and_eq_true] at hm; exact looks_pick h hd ho hm.1.1 hm.1.2 hm.2 hp
  case bin d b x x2 =>
    split at hm <;> try (cases hm; done)
    rename_i ho
    simp only [Bool.and_eq_true, beq_iff_eq] at hm
    obtain ⟨⟨rfl, hm1⟩, hm2⟩ := hm
    exact looks_bin h hd ho hm1 hm2 hp
  case eqa d neg n x x2 =>
    split at hm <;> try (cases hm; done)
    rename_i ho
    simp only [Bool.and_eq_true, beq_iff_eq] at hm
    obtain ⟨⟨⟨⟨h1, h2⟩, h3⟩, h4⟩, h5⟩ := hm
    exact looks_eqa h hd ho h1 h2 h3 h4 h5 hp
  case eqb d neg x x2 =>
    split at hm <;> try (cases hm; done)
    rename_i ho
    simp only [Bool.and_eq_true, beq_iff_eq] at hm
    obtain ⟨⟨⟨h1, h2⟩, h3⟩, h4⟩ := hm
    exact looks_eqb h hd ho h1 h2 h3 (isBoolT_eq h4) hp
  case un d b x =>
    split at hm <;> try (cases hm; done)
    rename_i ho
    simp only [Bool.and_eq_true, beq_iff_eq] at hm
    obtain ⟨rfl, h2⟩ := hm
    exact looks_un h hd ho h2 hp
  case conv d k x =>
    split at hm <;> try (cases hm; done)
    rename_i ho
    simp only [Bool.and_eq_true] at hm
    exact looks_conv h hd ho hm.1.1 (isInt_eq hm.1.2) (isIntK_eq hm.2) hp
  case load d n x =>
    split at hm <;> try (cases hm; done)
    rename_i ho
    simp only [Bool.and_eq_true, beq_iff_eq] at hm
    exact looks_load h hd ho hm.1 hm.2 hp
  case fadr d x off =>
    split at hm <;> try (cases hm; done)
    rename_i ho
    simp only [Bool.and_eq_true] at hm
    obtain ⟨h1, h2⟩ := hm
    split at h2 <;> try (cases h2; done)
    rename_i fd hf
    simp only [Bool.and_eq_true, beq_iff_eq] at h2
    obtain ⟨rfl, h3⟩ := h2
    split at h3 <;> try (cases h3; done)
    rename_i k hk
    exact looks_fadr h hd ho h1 hf hk hp
  case iadr d sz x x2 =>
    split at hm <;> try (cases hm; done)
    rename_i ho
    simp only [Bool.and_eq_true] at hm
    obtain ⟨⟨h1, h2⟩, h3⟩ := hm
    split at h3 <;> try (cases h3; done)
    rename_i e he
    exact looks_iadr h hd ho h1 h2 he (beq_iff_eq.1 h3) hp
  case aadr d x x2 len sz =>
    split at hm <;> try (cases hm; done)
    rename_i ho
    simp only [Bool.and_eq_true] at hm
    obtain ⟨⟨h1, h2⟩, h3⟩ := hm
    split at h3 <;> try (cases h3; done)
    rename_i l e he
    simp only [Bool.and_eq_true, beq_iff_eq] at h3
    obtain ⟨rfl, h4⟩ := h3
    exact looks_aadr h hd ho h1 h2 he h4 hp
  case fld d x off n =>
    split at hm <;> try (cases hm; done)
    rename_i ho
    simp only [Bool.and_eq_true] at hm
    obtain ⟨h1, h2⟩ := hm
    split at h2 <;> try (cases h2; done)
    rename_i fd hf
    simp only [Bool.and_eq_true, beq_iff_eq] at h2
    obtain ⟨rfl, h3⟩ := h2
    exact looks_fld h hd ho h1 hf h3 hp
  case idx d x x2 len sz n =>
    split at hm <;> try (cases hm; done)
    rename_i ho
    simp only [Bool.and_eq_true] at hm
    obtain ⟨⟨h1, h2⟩, h3⟩ := hm
    split at h3 <;> try (cases h3; done)
    rename_i l e he
    simp only [Bool.and_eq_true, beq_iff_eq] at h3
    obtain ⟨⟨rfl, h4⟩, h5⟩ := h3
    exact looks_idx h hd ho h1 h2 he h4 h5 hp
  case sli d sz x lo hi =>
    split at hm <;> try (cases hm; done)
    rename_i ho
    simp only [Bool.and_eq_true] at hm
    obtain ⟨⟨⟨h1, h2⟩, h3⟩, h4⟩ := hm
    split at h4 <;> try (cases h4; done)
    rename_i e he
    exact looks_sli h hd ho h1 h2 h3 he (beq_iff_eq.1 h4) hp
  case ext d x i =>
    split at hm <;> try (cases hm; done)
    rename_i ho
    simp only [Bool.and_eq_true, beq_iff_eq] at hm
    obtain ⟨h1, rfl⟩ := hm
    exact looks_ext h hd ho h1 hp
  case build d z m =>
    split at hm <;> try (cases hm; done)
    rename_i T0 l ho
    simp only [Bool.and_eq_true] at hm
    obtain ⟨⟨h1, h2⟩, h3⟩ := hm
    exact looks_build h hd (l := l.toList) (by simpa using ho) h1 h2 (placesOk_eq h3) hp
  case len d x =>
    split at hm <;> try (cases hm; done)
    rename_i b y T0 ho
    simp only [Bool.and_eq_true, beq_iff_eq] at hm
    obtain ⟨⟨rfl, h1⟩, h2⟩ := hm
    obtain ⟨e, he⟩ := Option.isSome_iff_exists.1 h2
    exact looks_len h hd (call1_eq ho) h1 he hp
  case isn d neg x =>
    split at hm <;> try (cases hm; done)
    rename_i ho
    simp only [Bool.and_eq_true, beq_iff_eq] at hm
    obtain ⟨⟨h1, h2⟩, h3⟩ := hm
    obtain ⟨e, he⟩ := Option.isSome_iff_exists.1 h3
    exact looks_isn h hd ho h1 h2 he hp
  case cut d sz x =>
    split at hm <;> try (cases hm; done)
    rename_i ho
    simp only [Bool.and_eq_true] at hm
    obtain ⟨⟨⟨h1, h2⟩, h3⟩, h4⟩ := hm
    split at h4 <;> try (cases h4; done)
    rename_i e he
    exact looks_cut h hd ho h1 h2 h3 he (by simpa using h4) hp
  case lens d x =>
    split at hm <;> try (cases hm; done)
    rename_i b y T0 ho
    simp only [Bool.and_eq_true, beq_iff_eq] at hm
    obtain ⟨⟨rfl, h1⟩, h2⟩ := hm
    exact looks_lens h hd (call1_eq ho) h1 (isStrT_eq h2) hp
  case asl d n x =>
    split at hm <;> try (cases hm; done)
    rename_i ho
    simp only [Bool.and_eq_true] at hm
    obtain ⟨h1, h2⟩ := hm
    split at h2 <;> try (cases h2; done)
    rename_i l e he
    simp only [Bool.and_eq_true, beq_iff_eq] at h2
    obtain ⟨rfl, h3⟩ := h2
    exact looks_asl h hd ho h1 he h3 hp
  case ldz d n x =>
    split at hm <;> try (cases hm; done)
    rename_i ho
    simp only [Bool.and_eq_true, beq_iff_eq] at hm
    exact looks_ldz h hd ho hm.1 hm.2 hp
  case mvz d x =>
    split at hm <;> try (cases hm; done)
    rename_i ho; exact looks_mvz h hd ho hm hp
  case mn d mx x x2 =>
    split at hm <;> try (cases hm; done)
    rename_i b y y2 T0 T1 ho
    simp only [Bool.and_eq_true, beq_iff_eq] at hm
    obtain ⟨⟨rfl, h1⟩, h2⟩ := hm
    exact looks_mn h hd (call2_eq ho) h1 h2 hp
  case mkf d f xs =>
    split at hm <;> try (cases hm; done)
    rename_i fn first ys ho
    simp only [Bool.and_eq_true] at hm
    obtain ⟨⟨h1, h2⟩, h3⟩ := hm
    have hfn := isFn_eq h1
    subst hfn
    have hf0 : first = #[] := by simpa using h2
    subst hf0
    exact looks_mkf h hd (ys := ys.toList) (by simpa using ho) h3 hp
  all_goals simp [plain] at hp

def gentle : VOp → Bool
  | .alloc .. | .box .. | .mksl .. | .make .. => true
  | _ => false
theorem act_sound (h : Sim L σ T st a w) (hm : m1 P o vo = true) (hc : ∀ d f xs, vo ≠ .call d f xs) (hv : ∀ d x xs, vo ≠ .callv d x xs) (hy : ∀ d x xs, vo ≠ .yield d x xs) (hp : act rec env vo st = some st') : Does P L σ T st.boxes.length st' a w o (gentle vo) := by
  simp only [m1, Bool.and_eq_true, beq_iff_eq] at hm
  obtain ⟨hd, hm⟩ := hm
  cases vo <;> simp only [mv] at hm
  case alloc d z =>
    split at hm <;> try (cases hm; done)
    rename_i ho; exact does_alloc h hd ho hm hp
  case box d x =>
    split at hm <;> try (cases hm; done)
    rename_i ho; exact does_box h hd ho hm hp
  case mksl d sz xs =>
    split at hm <;> try (cases hm; done)
    rename_i T0 len l ho
    simp only [Bool.and_eq_true, beq_iff_eq, decide_eq_true_eq] at hm
    obtain ⟨⟨⟨⟨h1, h2⟩, h3⟩, h4⟩, h5⟩ := hm
    exact does_mksl h hd (l := l.toList) (by simpa using ho) h1 h2 (by simpa using h3) h4 h5 hp
  case make d z x x2 =>
    split at hm <;> try (cases hm; done)
    rename_i T0 y y2 ho
    simp only [Bool.and_eq_true] at hm
    obtain ⟨⟨⟨h1, h2⟩, h3⟩, h4⟩ := hm
    split at h4 <;> try (cases h4; done)
    rename_i e he
    exact does_make h hd ho h1 h2 h3 he h4 hp
  case app d sz x x2 =>
    split at hm <;> try (cases hm; done)
    rename_i b y y2 T0 T1 ho
    simp only [Bool.and_eq_true, beq_iff_eq] at hm
    obtain ⟨⟨⟨⟨rfl, rfl⟩, h1⟩, h2⟩, h3⟩ := hm
    exact does_app h hd (call2_eq ho) h1 h2 h3 hp
  case cpy d sz x x2 =>
    split at hm <;> try (cases hm; done)
    rename_i b y y2 T0 T1 ho
    simp only [Bool.and_eq_true, beq_iff_eq] at hm
    obtain ⟨⟨⟨rfl, h1⟩, h2⟩, h3⟩ := hm
    exact does_cpy h hd (call2_eq ho) h1 h2 h3 hp
  case store dd n x x2 =>
    split at hm <;> try (cases hm; done)
    rename_i T0 y y2 ho
    simp only [Bool.and_eq_true, beq_iff_eq] at hm
    obtain ⟨⟨⟨h0, h1⟩, h2⟩, h3⟩ := hm
    have hdn := Option.isNone_iff_eq_none.1 h0
    subst hdn
    simp only [act] at hp
    replace hp := bind_some hp
    obtain ⟨⟨v, own, st1⟩, g1, hp⟩ := hp
    simp only at hp
    split at hp
    case h_3 => cases hp
    case h_1 p j e =>
      replace hp := bind_some hp
      obtain ⟨bx, g2, hp⟩ := hp
      split at hp
      · cases hp
      · rename_i hc
        simp only [Bool.or_eq_true, Bool.not_eq_true', decide_eq_false_iff_not, not_or, Bool.not_eq_true, Decidable.not_not] at hc
        obtain ⟨⟨c1, c2⟩, c3⟩ := hc
        obtain ⟨s1, s2⟩ := does_storeBox (P := P) h hd ho h1 h2 h3 g1 e g2 c1 c2 c3
        cases own with
        | false =>
          have e2 : some st' = some { st1 with boxes := st1.boxes.set p { bx with cs := bx.cs.take j ++ v.cells.map .pv ++ bx.cs.drop (j + n) } } := by rw [← hp]; cases v <;> rfl
          rw [Option.some.inj e2]; exact s1 rfl
        | true =>
          obtain ⟨_, _, _, _, _, k5⟩ := h.consume h2 g1
          obtain ⟨sz, es, m, rfl, _⟩ := k5 rfl
          have hp2 := Option.some.inj hp
          rw [← hp2]; exact s2 sz es rfl rfl
    case h_2 r i j e =>
      replace hp := bind_some hp
      obtain ⟨⟨sz, es⟩, g2, hp⟩ := hp
      replace hp := bind_some hp
      obtain ⟨el, g3, hp⟩ := hp
      simp only at hp g3
      split at hp
      case isFalse => cases hp
      rename_i g4
      replace hp := bind_some hp
      obtain ⟨cs, g5, hp⟩ := hp
      replace hp := bind_some hp
      obtain ⟨e', g6, hp⟩ := hp
      rw [← Option.some.inj hp]
      exact does_storeEl h hd ho h1 h2 h3 g1 e g2 g3 g4 g5 g6
  case call d f xs => exact absurd rfl (hc d f xs)
  case callv d x xs => exact absurd rfl (hv d x xs)
  case yield d x xs => exact absurd rfl (hy d x xs)
  all_goals simp [act] at hp
end
end Go.Proofs.Ytpdfhckdmblicaa

namespace Go.Proofs.Ytpdfhckdmblicaa
open Go.RowKit

section
variable {P : Program} {L : Nat} {σ σ' : Nat → Nat} {T T' T1 : Tags} {st st' st1 : St} {a : Act} {w w1 : World} {o : Oper} {vo : VOp} {y : Operand} {x : Opd}
  {rec : VCode → St → Option (Ex × St)} {env : Env}

structure Froz (T T' : Tags) (st st' : St) : Prop where
  keep : ∀ b, T' b = T b ∨ (T b ≠ .other ∧ T' b = .ro)
  rows : ∀ r sz es, st.row r = some (sz, es) → st'.row r = some (sz, es) ∨ ∀ b, T b = .row r → T' b = .ro
  boxes : ∀ (p : Nat) bx, st.boxes[p]? = some bx → (∃ bx', st'.boxes[p]? = some bx' ∧ bx'.fz = bx.fz) ∨ ((∀ b, T b = .box p → T' b = .ro) ∧ ∀ b j, T b = .row (.cell p j) → T' b = .ro)
  slots : ∀ x, st'.get x = st.get x ∨ ∃ sz es, st.get x = .row sz es ∧ st'.get x = .pv (.list sz es)
  gone : ∀ n sz es, st.get (.t n) = .row sz es → st'.get (.t n) = .pv (.list sz es) → ∀ b, T b = .row (.slot n) → T' b = .ro
theorem Froz.refl (T : Tags) (st : St) : Froz T T st st := ⟨fun _ => .inl rfl, fun _ _ _ h => .inl h, fun _ bx h => .inl ⟨bx, h, rfl⟩, fun _ => .inl rfl, fun n sz es h1 h2 => by rw [h1] at h2; cases h2⟩
theorem Froz.still (h : Froz T T' st st') : Still T T' := ⟨fun b e => by rcases h.keep b with k | k; rw [k]; exact e; exact k.2, fun b e => by rcases h.keep b with k | k; rw [k]; exact e; exact absurd e k.1⟩
theorem Froz.row_ro (h : Froz T T' st st') {r : Root} {b : Nat} (hb : T b = .row r) : T' b = .row r ∨ T' b = .ro := by
  rcases h.keep b with k | k
  · rw [k]; exact .inl hb
  · exact .inr k.2

def argRoot (x : Opd) : AV → Option Root
  | .row _ _ => match x with
    | .t n => some (.slot n)
    | _ => none
  | .ref r _ _ => some r
  | .pel r _ _ => some r
  | _ => none
def argBox : AV → Option Nat
  | .pbox p _ => some p
  | _ => none
structure Needs (T T' : Tags) (x : Opd) (v : AV) : Prop where
  root : ∀ r, argRoot x v = some r → ∀ b, T b = .row r → T' b = .ro
  box : ∀ p, argBox v = some p → (∀ b, T b = .box p → T' b = .ro) ∧ ∀ b j, T b = .row (.cell p j) → T' b = .ro
theorem Needs.still {v : AV} (h : Needs T T' x v) (k : Still T' T1) : Needs T T1 x v :=
  ⟨fun r e b hb => k.ro b (h.root r e b hb), fun p e => ⟨fun b hb => k.ro b ((h.box p e).1 b hb), fun b j hb => k.ro b ((h.box p e).2 b j hb)⟩⟩

theorem froz_keep (r : Root) (b : Nat) : froz T r b = T b ∨ (T b ≠ .other ∧ froz T r b = .ro) := by
  unfold froz; split
  · rename_i e; exact .inr ⟨by rw [e]; simp, rfl⟩
  · exact .inl rfl
theorem row_freeze_ne {r q : Root} (h : q ≠ r) {sz : Nat} {es : List PV} (hq : st.row q = some (sz, es)) : (st.freeze r).row q = some (sz, es) := by
  unfold St.freeze
  cases hr : st.row r with
  | none => exact hq
  | some p =>
    obtain ⟨s, l⟩ := p
    cases r with
    | slot t => exact (row_put_ne h).trans hq
    | part t i => exact hq
    | cell o j =>
      cases q with
      | slot t => simp only [St.setCell]; split <;> exact hq
      | part t i => simp [St.row] at hq
      | cell o' j' =>
        obtain ⟨bx, h1, h2, h3⟩ := cell_of_row' hq
        obtain ⟨bx2, g1, g2, g3⟩ := cell_of_row' hr
        simp only [St.setCell, g1, St.row, List.getElem?_set]
        by_cases ho : o = o'
        · subst ho
          rw [g1] at h1; cases h1
          have hj : j ≠ j' := fun e => h (by rw [e])
          simp only [if_true, if_pos (List.getElem?_eq_some_iff.1 g1).1, h2, Bool.false_eq_true, if_false, List.getElem?_set, if_neg hj, h3]
        · simp only [if_neg ho, h1, h2, Bool.false_eq_true, if_false, h3]
theorem get_freeze (r : Root) (x : Opd) : (st.freeze r).get x = st.get x ∨ ∃ n sz es, x = .t n ∧ r = .slot n ∧ st.get x = .row sz es ∧ (st.freeze r).get x = .pv (.list sz es) := by
  cases x with
  | c v => exact .inl rfl
  | nil s => exact .inl rfl
  | t n =>
    unfold St.freeze
    cases hr : st.row r with
    | none => exact .inl rfl
    | some p =>
      obtain ⟨s, l⟩ := p
      cases r with
      | part t i => exact .inl rfl
      | cell o j => left; simp only [St.setCell]; split <;> rfl
      | slot t =>
        have hs := slot_of_row hr
        by_cases ht : t = n
        · subst ht
          refine .inr ⟨t, s, l, rfl, rfl, by simp [St.get, List.getD, hs], ?_⟩
          simp [St.get, St.put, List.getD, List.getElem?_set, (List.getElem?_eq_some_iff.1 hs).1]
        · left
          simp [St.get, St.put, List.getD, List.getElem?_set, ht]
theorem boxes_freeze (r : Root) {p : Nat} {bx : Box} (hp : st.boxes[p]? = some bx) : ∃ bx', (st.freeze r).boxes[p]? = some bx' ∧ bx'.fz = bx.fz := by
  unfold St.freeze
  cases hr : st.row r with
  | none => exact ⟨bx, hp, rfl⟩
  | some q =>
    obtain ⟨s, l⟩ := q
    cases r with
    | slot t => exact ⟨bx, hp, rfl⟩
    | part t i => exact ⟨bx, hp, rfl⟩
    | cell o j =>
      obtain ⟨bx2, g1, g2, g3⟩ := cell_of_row' hr
      simp only [St.setCell, g1, List.getElem?_set]
      by_cases ho : o = p
      · subst ho
        rw [g1] at hp; cases hp
        exact ⟨{ bx with cs := bx.cs.set j (.pv (.list s l)) }, by rw [if_pos rfl, if_pos (List.getElem?_eq_some_iff.1 g1).1], rfl⟩
      · exact ⟨bx, by rw [if_neg ho]; exact hp, rfl⟩

theorem Froz.freeze (h : Froz T T' st st') (hs : Sim L σ T' st' a w) (r : Root) : ∃ T1, Froz T T1 st (st'.freeze r) ∧ Sim L σ T1 (st'.freeze r) a w ∧ Still T' T1 ∧ ∀ sz es, st.row r = some (sz, es) → ∀ b, T b = .row r → T1 b = .ro := by
  cases hr : st'.row r with
  | none =>
    have e : st'.freeze r = st' := by unfold St.freeze; rw [hr]
    rw [e]
    refine ⟨T', h, hs, Still.refl _, fun sz es e b hb => ?_⟩
    rcases h.rows r sz es e with k | k
    · rw [hr] at k; cases k
    · exact k b hb
  | some p =>
    obtain ⟨s, l⟩ := p
    obtain ⟨T1, k1, k2, k3, k4, k5⟩ := hs.freeze r
    have hro := k4 s l hr
    refine ⟨T1, ⟨fun b => ?_, fun q sz es e => ?_, fun p bx e => ?_, fun x => ?_, fun n sz es e1 e2 b hb => ?_⟩, k1, k2, fun sz es e b hb => ?_⟩
    · -- tags turn to 'ro' alone
      rcases h.keep b with g | g
      · cases hT : T b with
        | ro => left; exact k2.ro b (by rw [g, hT])
        | other => left; exact k2.other b (by rw [g, hT])
        | row q =>
          by_cases hq : q = r
          · subst hq; right; exact ⟨by simp, hro b (by rw [g, hT])⟩
          · left; exact k3 b q hq (by rw [g, hT])
        | box o => left; exact k5 b o (by rw [g, hT])
      · right; exact ⟨g.1, k2.ro b g.2⟩
    · by_cases hq : q = r
      · subst hq
        right; intro b hb
        rcases h.row_ro hb with g | g
        · exact hro b g
        · exact k2.ro b g
      · rcases h.rows q sz es e with g | g
        · left; exact row_freeze_ne hq g
        · right; exact fun b hb => k2.ro b (g b hb)
    · rcases h.boxes p bx e with ⟨bx', g1, g2⟩ | ⟨g1, g2⟩
      · obtain ⟨bx'', q1, q2⟩ := boxes_freeze r g1
        exact .inl ⟨bx'', q1, q2.trans g2⟩
      · exact .inr ⟨fun b hb => k2.ro b (g1 b hb), fun b j hb => k2.ro b (g2 b j hb)⟩
    · rcases get_freeze (st := st') r x with g | ⟨n, sz, es, rfl, rfl, g1, g2⟩
      · rw [g]; exact h.slots x
      · rcases h.slots (.t n) with q | ⟨s2, l2, q1, q2⟩
        · exact .inr ⟨sz, es, q ▸ g1, g2⟩
        · rw [q2] at g1; cases g1
    · rcases get_freeze (st := st') r (.t n) with g | ⟨n', sz', es', e3, rfl, g1, g2⟩
      · rw [g] at e2; exact k2.ro b (h.gone n sz es e1 e2 b hb)
      · cases e3
        rcases h.row_ro hb with g | g
        · exact hro b g
        · exact k2.ro b g
    · rcases h.row_ro hb with g | g
      · exact hro b g
      · exact k2.ro b g

theorem Froz.freezeBox (h : Froz T T' st st') (hs : Sim L σ T' st' a w) (p : Nat) : ∃ T1, Froz T T1 st (st'.freezeBox p) ∧ Sim L σ T1 (st'.freezeBox p) a w ∧ Still T' T1 ∧ ((st.boxes[p]?).isSome = true → (∀ b, T b = .box p → T1 b = .ro) ∧ ∀ b j, T b = .row (.cell p j) → T1 b = .ro) := by
  have hS := hs.freezeBox p
  cases hp : st'.boxes[p]? with
  | none =>
    have e : st'.freezeBox p = st' := by unfold St.freezeBox; rw [hp]
    rw [e]
    refine ⟨T', h, hs, Still.refl _, fun hx => ?_⟩
    obtain ⟨bx, hb⟩ := Option.isSome_iff_exists.1 hx
    rcases h.boxes p bx hb with ⟨bx', g1, _⟩ | g
    · rw [hp] at g1; cases g1
    · exact g
  | some bx0 =>
    rw [hp] at hS
    simp only [Option.isSome_some, if_true] at hS
    have e : st'.freezeBox p = { st' with boxes := st'.boxes.set p ⟨true, bx0.cs.map BV.frozen⟩ } := by unfold St.freezeBox; rw [hp]
    have hpl : p < st'.boxes.length := (List.getElem?_eq_some_iff.1 hp).1
    have hbox : ∀ b, T b = .box p → frozB T' p b = .ro := fun b hb => by
      rcases h.keep b with k | k
      · exact frozB_src (by rw [k, hb])
      · exact frozB_ro k.2
    have hcell : ∀ b j, T b = .row (.cell p j) → frozB T' p b = .ro := fun b j hb => by
      rcases h.keep b with k | k
      · exact frozB_cell (by rw [k, hb])
      · exact frozB_ro k.2
    refine ⟨frozB T' p, ⟨fun b => ?_, fun q sz es e1 => ?_, fun q bx e1 => ?_, fun x => ?_, fun n sz es e1 e2 b hb => ?_⟩, hS, Still.frozB T' p, fun _ => ⟨hbox, hcell⟩⟩
    · rcases h.keep b with g | g
      · cases hT : T b with
        | ro => left; exact frozB_ro (by rw [g, hT])
        | other => left; exact frozB_other (by rw [g, hT])
        | box o =>
          by_cases ho : o = p
          · subst ho; right; exact ⟨by simp, hbox b hT⟩
          · left; exact frozB_box ho (by rw [g, hT])
        | row q =>
          by_cases hq : ∃ j, q = .cell p j
          · obtain ⟨j, rfl⟩ := hq; right; exact ⟨by simp, hcell b j hT⟩
          · left; exact frozB_row (fun j e => hq ⟨j, e⟩) (by rw [g, hT])
      · right; exact ⟨g.1, frozB_ro g.2⟩
    · by_cases hq : ∃ j, q = .cell p j
      · obtain ⟨j, rfl⟩ := hq; right; exact fun b hb => hcell b j hb
      · rcases h.rows q sz es e1 with g | g
        · left
          rw [e]
          cases q with
          | slot t => exact g
          | part t i => exact g
          | cell o j =>
            have ho : p ≠ o := fun e => hq ⟨j, by rw [e]⟩
            simp only [St.row, List.getElem?_set, if_neg ho] at g ⊢
            exact g
        · right; exact fun b hb => frozB_ro (g b hb)
    · by_cases hq : q = p
      · subst hq; exact .inr ⟨hbox, hcell⟩
      · rcases h.boxes q bx e1 with ⟨bx', g1, g2⟩ | ⟨g1, g2⟩
        · exact .inl ⟨bx', by rw [e]; simp only [List.getElem?_set, if_neg (Ne.symm hq)]; exact g1, g2⟩
        · exact .inr ⟨fun b hb => frozB_ro (g1 b hb), fun b j hb => frozB_ro (g2 b j hb)⟩
    · have : (st'.freezeBox p).get x = st'.get x := by rw [e]; cases x <;> rfl
      rw [this]; exact h.slots x
    · have : (st'.freezeBox p).get (.t n) = st'.get (.t n) := by rw [e]; rfl
      rw [this] at e2
      exact frozB_ro (h.gone n sz es e1 e2 b hb)

def Held (st : St) (x : Opd) (v : AV) : Prop := (∀ r, argRoot x v = some r → (st.row r).isSome = true) ∧ ∀ p, argBox v = some p → (st.boxes[p]?).isSome = true
theorem Froz.arg1 (h : Froz T T' st st') (hs : Sim L σ T' st' a w) (x : Opd) {v : AV} (hv : Held st x v) : ∃ T1, Froz T T1 st (st'.freezeArg1 x v) ∧ Sim L σ T1 (st'.freezeArg1 x v) a w ∧ Still T' T1 ∧ Needs T T1 x v := by
  have none' : argRoot x v = none → argBox v = none → Needs T T' x v := fun h1 h2 => Needs.mk (fun r e => (by rw [h1] at e; cases e)) (fun p e => (by rw [h2] at e; cases e))
  have root : ∀ r, argRoot x v = some r → argBox v = none → ∃ T1, Froz T T1 st (st'.freeze r) ∧ Sim L σ T1 (st'.freeze r) a w ∧ Still T' T1 ∧ Needs T T1 x v := fun r e1 e2 => by
    obtain ⟨T1, k1, k2, k4, k3⟩ := h.freeze hs r
    obtain ⟨⟨sz, es⟩, hr⟩ := Option.isSome_iff_exists.1 (hv.1 r e1)
    exact ⟨T1, k1, k2, k4, Needs.mk (fun q e b hb => (by rw [e1] at e; cases e; exact k3 sz es hr b hb)) (fun p e => (by rw [e2] at e; cases e))⟩
  unfold St.freezeArg1
  cases v with
  | row sz es =>
    cases x with
    | t n => exact root (.slot n) rfl rfl
    | c v => exact ⟨T', h, hs, Still.refl _, none' rfl rfl⟩
    | nil s => exact ⟨T', h, hs, Still.refl _, none' rfl rfl⟩
  | ref r off len => exact root r rfl rfl
  | pel r i j => exact root r rfl rfl
  | pbox p j =>
    obtain ⟨T1, k1, k2, k4, k3⟩ := h.freezeBox hs p
    exact ⟨T1, k1, k2, k4, Needs.mk (fun r e => (by cases e)) (fun q e => (by cases e; exact k3 (hv.2 p rfl)))⟩
  | pv v => exact ⟨T', h, hs, Still.refl _, none' rfl rfl⟩
  | fn f l => exact ⟨T', h, hs, Still.refl _, none' rfl rfl⟩
  | tup l => exact ⟨T', h, hs, Still.refl _, none' rfl rfl⟩
  | yld => exact ⟨T', h, hs, Still.refl _, none' rfl rfl⟩
  | any => exact ⟨T', h, hs, Still.refl _, none' rfl rfl⟩
theorem Froz.capsF : ∀ (l : List AV) {T' : Tags} {st' : St}, Froz T T' st st' → Sim L σ T' st' a w → (∀ v ∈ l, Held st (.c .void) v) → ∃ T1, Froz T T1 st (l.foldl (fun s v => s.freezeArg1 (.c .void) v) st') ∧ Sim L σ T1 (l.foldl (fun s v => s.freezeArg1 (.c .void) v) st') a w ∧ Still T' T1 ∧ ∀ v ∈ l, Needs T T1 (.c .void) v
  | [], T', st', h, hs, _ => ⟨T', h, hs, Still.refl _, fun v hv => by cases hv⟩
  | v :: l, T', st', h, hs, hv => by
    obtain ⟨T1, k1, k2, k4, k3⟩ := h.arg1 hs (.c .void) (hv v List.mem_cons_self)
    obtain ⟨T2, q1, q2, q3, q4⟩ := Froz.capsF l k1 k2 (fun v hv' => hv v (List.mem_cons_of_mem _ hv'))
    refine ⟨T2, q1, q2, k4.trans q3, fun u hu => ?_⟩
    rcases List.mem_cons.1 hu with rfl | hu
    · exact k3.still q3
    · exact q4 u hu
def NeedsF (T T' : Tags) (x : Opd) : AV → Prop
  | .fn _ caps => ∀ v ∈ caps, Needs T T' (.c .void) v
  | v => Needs T T' x v
def HeldF (st : St) (x : Opd) : AV → Prop
  | .fn _ caps => ∀ v ∈ caps, Held st (.c .void) v
  | v => Held st x v
theorem NeedsF.still {v : AV} (h : NeedsF T T' x v) (k : Still T' T1) : NeedsF T T1 x v := by
  cases v <;> first | exact Needs.still h k | exact fun v hv => (h v hv).still k
theorem Froz.arg (h : Froz T T' st st') (hs : Sim L σ T' st' a w) (x : Opd) (hv : HeldF st x (st.get x)) : ∃ T1, Froz T T1 st (st'.freezeArg x) ∧ Sim L σ T1 (st'.freezeArg x) a w ∧ Still T' T1 ∧ NeedsF T T1 x (st.get x) := by
  rcases h.slots x with e | ⟨sz, es, e1, e2⟩
  · unfold St.freezeArg
    rw [e]
    cases hg : st.get x with
    | fn f caps =>
      rw [hg] at hv
      exact h.capsF caps hs hv
    | _ =>
      rw [hg] at hv
      exact h.arg1 hs x hv
  · unfold St.freezeArg
    rw [e1, e2]
    cases x with
    | t n => exact ⟨T', h, hs, Still.refl _, Needs.mk (fun r e b hb => (by cases e; exact h.gone n sz es e1 e2 b hb)) (fun p e => (by cases e))⟩
    | c v => cases e1
    | nil s => cases e2
theorem Froz.args : ∀ (xs : List Opd) {T' : Tags} {st' : St}, Froz T T' st st' → Sim L σ T' st' a w → (∀ x ∈ xs, HeldF st x (st.get x)) → ∃ T1, Froz T T1 st (xs.foldl St.freezeArg st') ∧ Sim L σ T1 (xs.foldl St.freezeArg st') a w ∧ Still T' T1 ∧ ∀ x ∈ xs, NeedsF T T1 x (st.get x)
  | [], T', st', h, hs, _ => ⟨T', h, hs, Still.refl _, fun v hv => by cases hv⟩
  | x :: xs, T', st', h, hs, hv => by
    obtain ⟨T1, k1, k2, k4, k3⟩ := h.arg hs x (hv x List.mem_cons_self)
    obtain ⟨T2, q1, q2, q3, q4⟩ := Froz.args xs k1 k2 (fun v hv' => hv v (List.mem_cons_of_mem _ hv'))
    refine ⟨T2, q1, q2, k4.trans q3, fun u hu => ?_⟩
    rcases List.mem_cons.1 hu with rfl | hu
    · exact k3.still q3
    · exact q4 u hu

theorem snap_held {v : AV} {p : PV} {fl : Bool} (h : st.snap v = some (p, fl)) (hx : ∀ sz es, v = .row sz es → ∃ n, x = .t n ∧ st.get x = v ∨ x = .c .void ∨ ∃ s, x = .nil s) : Held st x v := by
  unfold St.snap at h
  split at h
  · exact ⟨fun r e => (by cases e), fun p e => (by cases e)⟩
  · rename_i sz es
    refine ⟨fun r e => ?_, fun p e => (by cases e)⟩
    obtain ⟨n, ⟨rfl, hg⟩ | rfl | ⟨s, rfl⟩⟩ := hx sz es rfl
    · cases e
      have := slots_get hg (by simp)
      simp [St.row, this]
    · cases e
    · cases e
  · rename_i r off len
    refine ⟨fun q e => ?_, fun p e => (by cases e)⟩
    cases e
    split at h
    · rename_i hr; rw [hr]; rfl
    · cases h
  · rename_i o j
    refine ⟨fun q e => (by cases e), fun p e => ?_⟩
    cases e
    split at h
    · rename_i hb; rw [hb]; rfl
    · cases h
  · rename_i r i j
    refine ⟨fun q e => ?_, fun p e => (by cases e)⟩
    cases e
    split at h
    · rename_i hr; rw [hr]; rfl
    · cases h
  · cases h

theorem Sim.snap (h : Sim L σ T st a w) {t : Nat} {v : AV} {u : Value} (hv : ARep L σ T st a w t v u) (ht : ∀ sz es, v = .row sz es → x = .t t) {p : PV} {fl : Bool} (hs : st.snap v = some (p, fl)) (hst : Still T T1) (hn : Needs T T1 x v) : PRep (fun b => T1 b = .ro) w p u := by
  have hro : ∀ b, T b = .ro → b < w.heap.size → T1 b = .ro ∧ w.heap[b]? = w.heap[b]? := fun b e _ => ⟨hst.ro b e, rfl⟩
  unfold St.snap at hs
  split at hs
  · cases hs; exact PRep.frame hro hv
  · rename_i sz es
    cases hs
    have hx := ht sz es rfl
    subst hx
    exact RowRep.list (hn.root _ rfl) hst.ro hv
  · rename_i r off len
    split at hs
    · rename_i sz es hr
      split at hs
      · rename_i hl
        cases hs
        exact h.refList hr (hv.2 sz es hr) hl (hn.root _ rfl) hst.ro
      · cases hs
    · cases hs
  · rename_i o j
    split at hs
    · rename_i bx hb
      cases hs
      obtain ⟨_, rfl⟩ := hv
      have hbx := h.boxes o bx hb
      have hmem := hbx.mem (T' := T1) (fun j b e => (hn.box _ rfl).2 b j e) hst.ro
      have htag : T1 (σ o) = .ro := by
        obtain ⟨_, _, _, _, h3, _⟩ := hbx
        split at h3
        · exact hst.ro _ h3
        · exact (hn.box _ rfl).1 _ h3
      have := PRep.iptr_mk (off := 0) j htag hbx.cellish hmem
      rwa [Nat.zero_add] at this
    · cases hs
  · rename_i r i j
    split at hs
    · rename_i q es hr
      split at hs
      · rename_i e he
        cases hs
        obtain ⟨b, rfl, h1, h2, h3⟩ := h.ptrMem hr he (hv.2 _ es hr)
        exact PRep.iptr_mk j (hn.root _ rfl b h1) h2 (h3.mono hst.ro)
      · cases hs
    · cases hs
  · cases hs
end
end Go.Proofs.Ytpdfhckdmblicaa

namespace Go.Proofs.Ytpdfhckdmblicaa
open Go.RowKit

def R1 (T : Tags) (w : World) (i : Nat) : Res → Value → Prop
  | (.list sz es, true), u => RowRep T w (.part 0 i) sz es u
  | (x, _), u => PRep (fun b => T b = .ro) w x u
def ResRep (T : Tags) (w : World) (rs : List Res) (v : Value) : Prop :=
  ∃ arr : Array Value, arr.size = rs.length ∧ v = (if arr.size = 1 then arr.getD 0 undef else .tuple arr) ∧ ∀ (i : Nat) r u, rs[i]? = some r → arr[i]? = some u → R1 T w i r u
def CallOk (P : Program) (f : Nat) (args : List PV) (rs : List Res) : Prop :=
  ∀ (T0 : Tags) (w : World) (vs : List Value), (∀ b, T0 b = .ro ∨ T0 b = .other) → (∀ b, w.heap.size ≤ b → T0 b = .other) → vs.length = args.length → (∀ (i : Nat) x v, args[i]? = some x → vs[i]? = some v → PRep (fun b => T0 b = .ro) w x v) →
    Calls P f vs.toArray w (fun e w' => ∃ v T', e = .returned v ∧ Below w.heap.size w w' ∧ (∀ b, b < w.heap.size → T' b = T0 b) ∧ (∀ b, w'.heap.size ≤ b → T' b = .other) ∧ ResRep T' w' rs v)

section
variable {P : Program} {L : Nat} {σ σ' : Nat → Nat} {T T' T1 T2 : Tags} {st st' st1 : St} {a : Act} {w w1 : World} {o : Oper} {vo : VOp} {y : Operand} {x : Opd} {d : Nat}
  {rec : VCode → St → Option (Ex × St)} {env : Env}

theorem Sim.more (h : Sim L σ T st a w) (hT : ∀ b, T b ≠ .other → T2 b = T b) (hf : ∀ b, w.heap.size ≤ b → T2 b = .other) : Sim L σ T2 st a w := by
  have hq : ∀ b q, q ≠ .other → T b = q → T2 b = q := fun b q hq e => by rw [hT b (by rw [e]; exact hq), e]
  have hw : ∀ b, T b = .ro → b < w.heap.size → T2 b = .ro ∧ w.heap[b]? = w.heap[b]? := fun b e _ => ⟨hq b _ (by simp) e, rfl⟩
  refine ⟨h.size, fun t av v ht hv => ?_, fun p bx ho => ?_, hf⟩
  · exact (h.slots t av v ht hv).keep hw (fun _ _ _ b e _ => ⟨hq b _ (by simp) e, rfl⟩) (fun _ _ _ _ b e _ => ⟨hq b _ (by simp) e, rfl⟩) (fun _ _ _ s l e => ⟨⟨l, e⟩, rfl⟩) (Nat.le_refl _) (fun _ _ => rfl)
  · have hb := h.boxes p bx ho
    have hT' : T2 (σ p) = T (σ p) := by
      obtain ⟨_, _, _, _, h3, _⟩ := hb
      exact hT _ (by rw [h3]; split <;> simp)
    exact hb.frame ⟨hT', rfl⟩ (fun j b e _ => ⟨hq b _ (by simp) e, rfl⟩) hw

theorem scalar_rep {ok ok' : Nat → Prop} {x : PV} {u : Value} (hx : x.scalar = true) (h : PRep ok w x u) : PRep ok' w1 x u := by
  cases x <;> simp only [PV.scalar, reduceCtorEq] at hx
  case int k n => rw [h.int_inv]; exact .int _ _
  case bool b => rw [h.bool_inv]; exact .bool _
  case str s => rw [h.str_inv]; exact .str _
  case agg cs =>
    obtain ⟨arr, rfl, h1, h2, h3⟩ := h.agg_inv
    refine .agg cs arr h1 h2 (fun j x v hx' hv => ?_)
    have hs := List.all_eq_true.1 hx x (List.mem_of_getElem? hx')
    have hp := h3 j x v hx' hv
    cases x <;> simp only [reduceCtorEq] at hs
    · rw [hp.int_inv]; exact .int _ _
    · rw [hp.bool_inv]; exact .bool _
    · rw [hp.str_inv]; exact .str _

def laid (T T' : Tags) (n d : Nat) (one : Bool) : Tags := fun b => if b < n then T b else match T' b with
  | .ro => .ro
  | .row (.part 0 i) => if one then (if i = 0 then .row (.slot d) else .other) else .row (.part d i)
  | _ => .other

theorem Sim.results (h : Sim L σ T st a w) {rs : List Res} {v : Value} {T' : Tags} {n : Nat} (hn : n ≤ w.heap.size) (hTn : ∀ b, n ≤ b → T b = .other) (hfr : ∀ b, w.heap.size ≤ b → T' b = .other) (hr : ResRep T' w rs v)
    (hro : (∀ b, b < n → T' b = .ro → T b = .ro) ∨ rs.all (·.1.scalar) = true) (hrow : ∀ b i, b < n → T' b ≠ .row (.part 0 i)) :
    Sim L σ (laid T T' n d (rs.length == 1)) (st.layAll d rs) (a.put (some d) v) w := by
  obtain ⟨arr, h1, h2, h3⟩ := hr
  obtain ⟨TT, hTT⟩ : ∃ TT, TT = laid T T' n d (rs.length == 1) := ⟨_, rfl⟩
  rw [← hTT]
  have hmore : Sim L σ TT st a w := h.more (fun b hb => by
    have hl : b < n := by
      rcases Nat.lt_or_ge b n with g | g
      · exact g
      · exact absurd (hTn b g) hb
    rw [hTT]; simp [laid, hl]) (fun b hb => by rw [hTT]; simp [laid, show ¬ b < n by omega, hfr b hb])
  have hrep : ∀ (x : PV) u, PRep (fun b => T' b = .ro) w x u → (rs.all (·.1.scalar) = true → x.scalar = true) → PRep (fun b => TT b = .ro) w x u := fun x u hx hs => by
    rcases hro with g | g
    · refine hx.frame fun b hb _ => ⟨?_, rfl⟩
      rw [hTT]
      by_cases hl : b < n
      · simp [laid, hl, g b hl hb]
      · simp [laid, hl, hb]
    · exact scalar_rep (hs g) hx
  have hrowrep : ∀ (i sz : Nat) (es : List PV) u r', (∀ b, n ≤ b → T' b = .row (.part 0 i) → TT b = .row r') → (∀ b, b < n → T' b = .ro → T b = .ro) → RowRep T' w (.part 0 i) sz es u → RowRep TT w r' sz es u := fun i sz es u r' hr' g hx => by
    refine hx.frame (fun b hb _ => ⟨hr' b ?_ hb, rfl⟩) (fun b hb _ => ⟨?_, rfl⟩)
    · rcases Nat.lt_or_ge b n with g | g
      · exact absurd hb (hrow b i g)
      · exact g
    · rw [hTT]
      by_cases hl : b < n
      · simp [laid, hl, g b hl hb]
      · simp [laid, hl, hb]
  by_cases hone : rs.length = 1
  · obtain ⟨⟨x, own⟩, rfl⟩ : ∃ r, rs = [r] := by
      match rs, hone with
      | [r], _ => exact ⟨r, rfl⟩
    have ha : arr.size = 1 := h1
    have e0 : arr[0]? = some arr[0] := Array.getElem?_eq_getElem (by omega)
    have hv : v = arr[0] := by rw [h2, if_pos ha, Array.getD_eq_getD_getElem?, e0]; rfl
    have hr := h3 0 (x, own) arr[0] rfl e0
    rw [← hv] at hr
    have hpv : PRep (fun b => T' b = .ro) w x v → Sim L σ TT (st.put d (.pv x)) (a.put (some d) v) w := fun hx => hmore.putPv (hrep x v hx (fun e => by simpa using e))
    simp only [St.layAll, St.lay]
    cases own with
    | false =>
      have hx : PRep (fun b => T' b = .ro) w x v := by cases x <;> exact hr
      simpa using hpv hx
    | true =>
      simp only [if_true]
      cases x with
      | list sz es =>
        have hr' : RowRep T' w (.part 0 0) sz es v := hr
        rcases hro with g | g
        · have hT1 : ∀ b, n ≤ b → T' b = .row (.part 0 0) → TT b = .row (.slot d) := fun b hb e => by rw [hTT]; simp [laid, show ¬ b < n by omega, e]
          exact hmore.putRow (hrowrep 0 sz es v _ hT1 g hr') (fun _ e => e) (fun _ _ e => e) hmore.fresh (fun _ _ _ _ _ _ e => e) (fun _ _ _ _ _ _ _ e => e) (fun _ _ _ e => e)
        · simp [PV.scalar] at g
      | _ => exact hpv hr
  · -- several results
    have hne : ¬ arr.size = 1 := by omega
    have hv : v = .tuple arr := by rw [h2, if_neg hne]
    have hl : st.layAll d rs = st.put d (.tup (rs.map fun r => match r with
        | (.list sz es, true) => .row sz es
        | (v, _) => .pv v)) := by
      match rs, hone with
      | [], _ => rfl
      | _ :: _ :: _, _ => rfl
    rw [hl]
    refine hmore.put (by simp) ⟨arr, hv, by simp [h1], fun k av u hk hu => ?_⟩
    rw [List.getElem?_map] at hk
    cases e : rs[k]? with
    | none => rw [e] at hk; cases hk
    | some r =>
      rw [e] at hk
      have hk := Option.some.inj hk
      subst hk
      obtain ⟨x, own⟩ := r
      have hr := h3 k (x, own) u e hu
      have hsc : rs.all (·.1.scalar) = true → x.scalar = true := fun g => List.all_eq_true.1 g (x, own) (List.mem_of_getElem? e)
      have hpv : PRep (fun b => T' b = .ro) w x u → PartRep TT w d k (.pv x) u := fun hx => hrep x u hx hsc
      cases own with
      | false =>
        have hx : PRep (fun b => T' b = .ro) w x u := by cases x <;> exact hr
        have := hpv hx
        cases x <;> exact this
      | true =>
        cases x with
        | list sz es =>
          rcases hro with g | g
          · exact hrowrep k sz es u _ (fun b hb e => by rw [hTT]; simp [laid, show ¬ b < n by omega, e, hone]) g hr
          · have := hsc g; simp [PV.scalar] at this
        | _ => exact hpv hr
end
end Go.Proofs.Ytpdfhckdmblicaa

namespace Go.Proofs.Ytpdfhckdmblicaa
open Go.RowKit

section
variable {P : Program} {L : Nat} {σ σ' : Nat → Nat} {T T' T1 T2 : Tags} {st st' st1 : St} {a : Act} {w w1 : World} {o : Oper} {vo : VOp} {y : Operand} {x : Opd} {d : Nat}
  {rec : VCode → St → Option (Ex × St)} {env : Env}

theorem Sim.snapF (h : Sim L σ T st a w) (hm : mOpd y x = true) {p : PV} {fl : Bool} (hs : st.snapFn (st.get x) = some (p, fl)) :
    HeldF st x (st.get x) ∧ (fl = false → PRep (fun b => T b = .ro) w p (a.eval y)) ∧ ∀ T1, Still T T1 → NeedsF T T1 x (st.get x) → PRep (fun b => T1 b = .ro) w p (a.eval y) := by
  have hrep : ∃ t, ARep L σ T st a w t (st.get x) (a.eval y) ∧ ∀ sz es, st.get x = .row sz es → x = .t t ∨ (es = [] ∧ ∃ s, x = .nil s ∧ a.eval y = .slice none 0 0) := by
    rcases h.get hm with ⟨t, rfl, (⟨_, g⟩ | g)⟩ | ⟨v', rfl, g⟩ | ⟨s, rfl, g⟩
    · exact ⟨t, g, fun _ _ _ => .inl rfl⟩
    · rw [g] at hs; simp [St.snapFn, St.snap] at hs
    · exact ⟨0, g, fun sz es e => by simp [St.get] at e⟩
    · refine ⟨0, ?_, fun sz es e => .inr ?_⟩
      · rw [g]; exact RowRep.nil _ _ _ _ _
      · simp only [St.get, AV.row.injEq] at e; exact ⟨e.2.symm, s, rfl, g⟩
  obtain ⟨t, hv, hrow⟩ := hrep
  have hgen : ∀ v, st.get x = v → (∀ f caps, v ≠ .fn f caps) → st.snap v = some (p, fl) → HeldF st x v ∧ (fl = false → PRep (fun b => T b = .ro) w p (a.eval y)) ∧ ∀ T1, Still T T1 → NeedsF T T1 x v → PRep (fun b => T1 b = .ro) w p (a.eval y) := fun v e hf hsn => by
    have hheld : Held st x v := snap_held hsn (fun sz es e2 => by
      rcases hrow sz es (by rw [e, e2]) with g | ⟨_, s, g, _⟩
      · exact ⟨t, .inl ⟨g, e⟩⟩
      · exact ⟨0, .inr (.inr ⟨s, g⟩)⟩)
    have hHF : HeldF st x v := by cases v <;> first | exact hheld | exact absurd rfl (hf _ _)
    refine ⟨hHF, fun e2 => ?_, fun T1 hst hn => ?_⟩
    · subst e2; exact h.snap0 (e ▸ hv) hsn
    · have hn' : Needs T T1 x v := by cases v <;> first | exact hn | exact absurd rfl (hf _ _)
      by_cases hr : ∃ sz es, v = .row sz es
      · obtain ⟨sz, es, rfl⟩ := hr
        rcases hrow sz es e with g | ⟨rfl, s, _, g⟩
        · exact h.snap (e ▸ hv) (fun _ _ _ => g) hsn hst hn'
        · simp only [St.snap, Option.some.injEq, Prod.mk.injEq] at hsn
          rw [← hsn.1, g]; exact .nil _ _
      · exact h.snap (e ▸ hv) (fun sz es e2 => absurd ⟨sz, es, e2⟩ hr) hsn hst hn'
  cases hg : st.get x with
  | fn f caps =>
    rw [hg] at hs hv
    simp only [St.snapFn] at hs
    obtain ⟨l, h1, h2⟩ := bind_some hs
    have h2 := Option.some.inj h2
    simp only [Prod.mk.injEq] at h2
    obtain ⟨rfl, rfl⟩ := h2
    obtain ⟨m1, m2⟩ := mapM_some h1
    obtain ⟨arr, e1, e2, e3⟩ := hv
    have hcap : ∀ (k : Nat) c u, caps[k]? = some c → arr[k]? = some u → ∃ q, st.snap c = some q ∧ l[k]? = some q ∧ CapRep st.boxes.length σ T w c u := fun k c u hc hu => by
      obtain ⟨q, g1, g2⟩ := m2 k c hc
      exact ⟨q, g1, g2, e3 k c u hc hu⟩
    have hnr : ∀ (k : Nat) c, caps[k]? = some c → ∀ sz es, c ≠ .row sz es := fun k c hc sz es e => by
      have hk : k < arr.size := by rw [e2]; exact (List.getElem?_eq_some_iff.1 hc).1
      have := e3 k c arr[k] hc (Array.getElem?_eq_getElem hk)
      rw [e] at this; exact this
    refine ⟨fun v hv => ?_, fun hfl => ?_, fun T1 hst hn => ?_⟩
    · obtain ⟨k, hk⟩ := List.mem_iff_getElem?.1 hv
      obtain ⟨q, g1, _⟩ := m2 k v hk
      exact snap_held g1 (fun sz es e => absurd e (hnr k v hk sz es))
    · rw [e1]
      refine .func f _ arr (by simp [m1, e2]) (fun j p u hp hu => ?_)
      rw [List.getElem?_map] at hp
      cases hl : l[j]? with
      | none => rw [hl] at hp; cases hp
      | some q =>
        rw [hl] at hp; cases hp
        have hj : j < caps.length := by rw [← m1]; exact (List.getElem?_eq_some_iff.1 hl).1
        obtain ⟨q', g1, g2, g3⟩ := hcap j caps[j] u (List.getElem?_eq_getElem hj) hu
        rw [hl] at g2; cases g2
        have hq : q.2 = false := by
          have := List.any_eq_false.1 hfl q (List.mem_of_getElem? hl)
          simpa using this
        obtain ⟨q1, q2⟩ := q
        simp only at hq; subst hq
        exact h.snap0 (g3.aRep rfl 0) g1
    · rw [e1]
      refine .func f _ arr (by simp [m1, e2]) (fun j p u hp hu => ?_)
      rw [List.getElem?_map] at hp
      cases hl : l[j]? with
      | none => rw [hl] at hp; cases hp
      | some q =>
        rw [hl] at hp; cases hp
        have hj : j < caps.length := by rw [← m1]; exact (List.getElem?_eq_some_iff.1 hl).1
        have hcj : caps[j]? = some caps[j] := List.getElem?_eq_getElem hj
        obtain ⟨q', g1, g2, g3⟩ := hcap j caps[j] u hcj hu
        rw [hl] at g2; cases g2
        exact h.snap (x := .c .void) (g3.aRep rfl 0) (fun sz es e => absurd e (hnr j _ hcj sz es)) g1 hst (hn _ (List.getElem_mem hj))
  | _ =>
    rw [hg] at hs
    exact hgen _ hg (by simp) hs

def callable (P : Program) (f : Nat) : Bool :=
  match P.funcs[f]? with
  | some fn => fn.name != "runtime.NumGoroutine" && fn.body.isSome
  | none => false
theorem run_callFunc {f : Nat} (h : callable P f = true) (args : Array Value) (w : World) : (callFunc f args).run P w = .ok (.enter f args) w := by
  unfold callable at h
  split at h
  · rename_i fn hf
    simp only [Bool.and_eq_true, bne_iff_ne, ne_eq] at h
    obtain ⟨h1, h2⟩ := h
    obtain ⟨b, hb⟩ := Option.isSome_iff_exists.1 h2
    simp [callFunc, program, Sem.run, hf, h1, hb]
  · cases h

theorem mAll_get : ∀ {ys : List Operand} {xs : List Opd}, mAll ys xs = true → ys.length = xs.length ∧ ∀ (i : Nat) y x, ys[i]? = some y → xs[i]? = some x → mOpd y x = true
  | [], [], _ => ⟨rfl, fun i y x hy => by simp at hy⟩
  | [], _ :: _, h => by simp [mAll] at h
  | _ :: _, [], h => by simp [mAll] at h
  | y :: ys, x :: xs, h => by
    simp only [mAll, Bool.and_eq_true] at h
    obtain ⟨g1, g2⟩ := mAll_get h.2
    refine ⟨by simp [g1], fun i y' x' hy hx => ?_⟩
    cases i with
    | zero => simp at hy hx; subst hy; subst hx; exact h.1
    | succ i => exact g2 i y' x' (by simpa using hy) (by simpa using hx)

def CallsOk (P : Program) (rec : VCode → St → Option (Ex × St)) (env : Env) : Prop := ∀ f args rs, callRes rec env f args = some rs → callable P f = true ∧ CallOk P f args rs

theorem callOn_sound (hcalls : CallsOk P rec env) (h : Sim L σ T st a w) {ys : List Operand} {xs : List Opd} (hm : mAll ys xs = true) {caps : List AV} {cvs : List Value} (hc : cvs.length = caps.length) (hcr : ∀ (k : Nat) c u, caps[k]? = some c → cvs[k]? = some u → CapRep st.boxes.length σ T w c u) {f : Nat}
    (hp : callOn rec env d f xs caps st = some st') : callable P f = true ∧ Calls P f (ys.map a.eval ++ cvs).toArray w (fun e w' => ∃ v T2, e = .returned v ∧ Sim L σ T2 st' (a.put (some d) v) w' ∧ Chg T T2 w w' ∧ Whole w w') := by
  unfold callOn at hp
  obtain ⟨l, h1, hp1⟩ := bind_some hp
  clear hp
  obtain ⟨k, h2, hp2⟩ := bind_some hp1
  clear hp1
  obtain ⟨rs, h3, hp3⟩ := bind_some hp2
  clear hp2
  have hp := Option.some.inj hp3
  clear hp3
  obtain ⟨hcall, hok⟩ := hcalls f _ rs h3
  obtain ⟨l1, l2⟩ := mapM_some h1
  obtain ⟨k1, k2⟩ := mapM_some h2
  obtain ⟨m1, m2⟩ := mAll_get hm
  refine ⟨hcall, ?_⟩
  have hop : ∀ (i : Nat) x, xs[i]? = some x → ∃ y q, ys[i]? = some y ∧ mOpd y x = true ∧ st.snapFn (st.get x) = some q ∧ l[i]? = some q := fun i x hx => by
    obtain ⟨q, g1, g2⟩ := l2 i x hx
    have hi : i < ys.length := by rw [m1]; exact (List.getElem?_eq_some_iff.1 hx).1
    exact ⟨ys[i], q, List.getElem?_eq_getElem hi, m2 i _ x (List.getElem?_eq_getElem hi) hx, g1, g2⟩
  have hcap : ∀ (i : Nat) c, caps[i]? = some c → ∃ u q, cvs[i]? = some u ∧ CapRep st.boxes.length σ T w c u ∧ st.snap c = some q ∧ k[i]? = some q := fun i c hx => by
    obtain ⟨q, g1, g2⟩ := k2 i c hx
    have hi : i < cvs.length := by rw [hc]; exact (List.getElem?_eq_some_iff.1 hx).1
    exact ⟨cvs[i], q, List.getElem?_eq_getElem hi, hcr i c _ hx (List.getElem?_eq_getElem hi), g1, g2⟩
  have hnr : ∀ (i : Nat) c, caps[i]? = some c → ∀ sz es, c ≠ .row sz es := fun i c hx sz es e => by
    obtain ⟨u, q, _, g, _⟩ := hcap i c hx
    rw [e] at g; exact g
  have hheldX : ∀ x ∈ xs, HeldF st x (st.get x) := fun x hx => by
    obtain ⟨i, hi⟩ := List.mem_iff_getElem?.1 hx
    obtain ⟨y, ⟨p, fl⟩, _, g2, g3, _⟩ := hop i x hi
    exact (h.snapF g2 g3).1
  have hheldC : ∀ v ∈ caps, Held st (.c .void) v := fun v hv => by
    obtain ⟨i, hi⟩ := List.mem_iff_getElem?.1 hv
    obtain ⟨u, ⟨p, fl⟩, _, _, g, _⟩ := hcap i v hi
    exact snap_held g (fun sz es e => absurd e (hnr i v hi sz es))
  -- the tags under which the arguments are read only
  have hfroz : ∃ T1, Froz T T1 st (caps.foldl (fun s v => s.freezeArg1 (.c .void) v) (xs.foldl St.freezeArg st)) ∧ Sim L σ T1 (caps.foldl (fun s v => s.freezeArg1 (.c .void) v) (xs.foldl St.freezeArg st)) a w ∧ (∀ x ∈ xs, NeedsF T T1 x (st.get x)) ∧ ∀ v ∈ caps, Needs T T1 (.c .void) v := by
    obtain ⟨T1, f1, f2, f3, f4⟩ := Froz.args xs (Froz.refl T st) h hheldX
    obtain ⟨T2, g1, g2, g3, g4⟩ := Froz.capsF caps f1 f2 hheldC
    exact ⟨T2, g1, g2, fun x hx => (f4 x hx).still g3, g4⟩
  -- from such tags to what the call leaves
  have hgo : ∀ T1, Still T T1 → (∀ (i : Nat) p v, (l.map (·.1) ++ k.map (·.1))[i]? = some p → (ys.map a.eval ++ cvs)[i]? = some v → PRep (fun b => T1 b = .ro) w p v) → ∀ Tc st1, Sim L σ Tc st1 a w → Still T Tc → ((∀ b, T1 b = .ro → Tc b = .ro) ∨ rs.all (·.1.scalar) = true) → st1.layAll d rs = st' →
      Calls P f (ys.map a.eval ++ cvs).toArray w (fun e w' => ∃ v T2, e = .returned v ∧ Sim L σ T2 st' (a.put (some d) v) w' ∧ Chg T T2 w w' ∧ Whole w w') := fun T1 hst hargs Tc st1 hS hstc hro hst' => by
    obtain ⟨T0, hT0⟩ : ∃ T0 : Tags, T0 = fun b => if T1 b = .ro then .ro else .other := ⟨_, rfl⟩
    have hT0ro : ∀ b, T0 b = .ro ↔ T1 b = .ro := fun b => by rw [hT0]; simp only; split <;> simp [*]
    have h0 := hok T0 w (ys.map a.eval ++ cvs) (fun b => by rw [hT0]; simp only; split <;> simp) (fun b hb => by rw [hT0]; simp only; rw [if_neg]; rw [hst.other b (h.fresh b hb)]; simp) (by simp [l1, k1, m1, hc]) (fun i p v hp hv => (hargs i p v hp hv).frame fun b hb _ => ⟨(hT0ro b).2 hb, rfl⟩)
    refine h0.mono ?_
    rintro e w' ⟨v, T', rfl, hB, hTb, hTf, hres⟩
    have hwh : Whole w w' := ⟨hB.size, fun b hl => hB.block b hl⟩
    have hsees : ∀ {TT : Tags}, Sees TT w w' := fun {TT} => hwh.sees
    have hS' := hS.sees (hsees (TT := Tc))
    have hfin := hS'.results (n := w.heap.size) hB.size (fun b hb => hstc.other b (h.fresh b hb)) hTf hres (hro.imp (fun g b hl hb => g b ((hT0ro b).1 (by rw [← hTb b hl]; exact hb))) id) (fun b i hl e => by
      rw [hTb b hl, hT0] at e; simp only at e; split at e <;> cases e) (d := d)
    rw [hst'] at hfin
    refine ⟨v, _, rfl, hfin, ⟨hB.size, hB.os, hB.tape, hB.output, fun b hl _ => hB.block b hl, fun b e => ?_, fun b hl e => ?_⟩, hwh⟩
    · have hl : b < w.heap.size := by
        rcases Nat.lt_or_ge b w.heap.size with g | g
        · exact g
        · rw [h.fresh b g] at e; cases e
      simp [laid, hl, hstc.ro b e]
    · simp [laid, hl, hstc.other b e]
  have hlen : (l.map (·.1)).length = (ys.map a.eval).length := by simp [l1, m1]
  have hargs : ∀ T1 : Tags, (∀ (i : Nat) x y q, xs[i]? = some x → ys[i]? = some y → mOpd y x = true → st.snapFn (st.get x) = some q → l[i]? = some q → PRep (fun b => T1 b = .ro) w q.1 (a.eval y)) → (∀ (i : Nat) c u q, caps[i]? = some c → CapRep st.boxes.length σ T w c u → st.snap c = some q → k[i]? = some q → PRep (fun b => T1 b = .ro) w q.1 u) →
      ∀ (i : Nat) p v, (l.map (·.1) ++ k.map (·.1))[i]? = some p → (ys.map a.eval ++ cvs)[i]? = some v → PRep (fun b => T1 b = .ro) w p v := fun T1 g1 g2 i p v hp hv => by
    rcases Nat.lt_or_ge i xs.length with hi | hi
    · rw [List.getElem?_append_left (by simp [l1, hi]), List.getElem?_map] at hp
      rw [List.getElem?_append_left (by simp [m1, hi]), List.getElem?_map] at hv
      obtain ⟨y, q, q1, q2, q3, q4⟩ := hop i xs[i] (List.getElem?_eq_getElem hi)
      rw [q4] at hp; rw [q1] at hv
      cases hp; cases hv
      exact g1 i _ y q (List.getElem?_eq_getElem hi) q1 q2 q3 q4
    · rw [List.getElem?_append_right (by simp [l1, hi]), List.getElem?_map] at hp
      rw [List.getElem?_append_right (by simp [m1, hi])] at hv
      simp only [List.length_map, l1] at hp
      simp only [List.length_map, m1] at hv
      cases hk : k[i - xs.length]? with
      | none => rw [hk] at hp; cases hp
      | some q =>
        rw [hk] at hp; cases hp
        have hj : i - xs.length < caps.length := by rw [← k1]; exact (List.getElem?_eq_some_iff.1 hk).1
        obtain ⟨u, q', q1, q2, q3, q4⟩ := hcap _ caps[i - xs.length] (List.getElem?_eq_getElem hj)
        rw [hk] at q4; cases q4
        rw [q1] at hv; cases hv
        exact g2 _ _ _ q (List.getElem?_eq_getElem hj) q2 q3 hk
  cases hfl : (l.any (·.2) || k.any (·.2)) with
  | false =>
    -- nothing of this call's own is handed over
    rw [hfl] at hp
    simp only [Bool.or_eq_false_iff] at hfl
    refine hgo T (Still.refl T) (hargs T (fun i x y q hx hy hmo hs hl => ?_) (fun i c u q hx hcr hs hk => ?_)) T st h (Still.refl T) (.inl fun _ e => e) (by simpa using hp)
    · have hq : q.2 = false := by have := List.any_eq_false.1 hfl.1 q (List.mem_of_getElem? hl); simpa using this
      obtain ⟨q1, q2⟩ := q
      simp only at hq; subst hq
      exact (h.snapF hmo hs).2.1 rfl
    · have hq : q.2 = false := by have := List.any_eq_false.1 hfl.2 q (List.mem_of_getElem? hk); simpa using this
      obtain ⟨q1, q2⟩ := q
      simp only at hq; subst hq
      exact h.snap0 (hcr.aRep rfl 0) hs
  | true =>
    obtain ⟨T1, z1, z2, z3, z4⟩ := hfroz
    have hargs1 := hargs T1 (fun i x y q hx hy hmo hs hl => by obtain ⟨q1, q2⟩ := q; exact (h.snapF hmo hs).2.2 T1 z1.still (z3 x (List.mem_of_getElem? hx))) (fun i c u q hx hcr hs hk => by obtain ⟨q1, q2⟩ := q; exact h.snap (x := .c .void) (hcr.aRep rfl 0) (fun sz es e => absurd e (hnr i c hx sz es)) hs z1.still (z4 c (List.mem_of_getElem? hx)))
    cases hsc : rs.all (·.1.scalar) with
    | true =>
      rw [hfl, hsc] at hp
      exact hgo T1 z1.still hargs1 T st h (Still.refl T) (.inr hsc) (by simpa using hp)
    | false =>
      rw [hfl, hsc] at hp
      exact hgo T1 z1.still hargs1 T1 _ z2 z1.still (.inl fun _ e => e) (by simpa using hp)
end
end Go.Proofs.Ytpdfhckdmblicaa

namespace Go.Proofs.Ytpdfhckdmblicaa
open Go.RowKit

structure Ctx where
  X : List (List PV)
  stop : Option (Option Nat)
  J : Nat → Tags → World → Prop
def goesOn (s : Option Nat) (k : Nat) : Bool :=
  match s with
  | none => true
  | some m => !(k + 1 == m)
structure Ctx.Ok (C : Ctx) (P : Program) (L : Nat) : Prop where
  keep : ∀ k T T' w w', Chg T T' w w' → C.J k T w → C.J k T' w'
  yld : ∀ s k T w ps (vs : List Value), C.stop = some s → C.X[k]? = some ps → (∀ b, w.heap.size ≤ b → T b = .other) → C.J k T w → vs.length = ps.length → (∀ (i : Nat) p v, ps[i]? = some p → vs[i]? = some v → PRep (fun b => T b = .ro) w p v) →
    ∃ f tmps assign body, (Instr.yield L vs.toArray).run P w = .ok (.round L f tmps assign body) w ∧ ∀ n, RoundIn Fence.wide n P L f tmps assign body w fun e w' => e = .returned (.bool (goesOn s k)) ∧ C.J (k + 1) T w' ∧ Sees T w w'

structure Stays (T T' : Tags) (w w' : World) : Prop where
  size : w.heap.size ≤ w'.heap.size
  ro : ∀ b, T b = .ro → T' b = .ro
  same : ∀ b, b < w.heap.size → T b = .ro → w'.heap[b]? = w.heap[b]?
theorem Stays.refl (T : Tags) (w : World) : Stays T T w w := ⟨Nat.le_refl _, fun _ h => h, fun _ _ _ => rfl⟩
theorem Stays.trans {T T' T'' : Tags} {a b c : World} (h : Stays T T' a b) (k : Stays T' T'' b c) : Stays T T'' a c :=
  ⟨Nat.le_trans h.size k.size, fun x e => k.ro x (h.ro x e), fun x hx e => (k.same x (Nat.lt_of_lt_of_le hx h.size) (h.ro x e)).trans (h.same x hx e)⟩
theorem Chg.stays {T T' : Tags} {w w' : World} (h : Chg T T' w w') : Stays T T' w w' := ⟨h.size, h.ro, fun b hb e => h.same b hb (.inl e)⟩

def markOf (r : Nat) : Deferred := { target := .collected r, args := #[] }
def Marks (T' : Tags) (w w' : World) (ms : List Nat) : Prop := (∀ r ∈ ms, w.heap.size ≤ r ∧ T' r = .ro ∧ w'.heap[r]? = some (.deferred (some []))) ∧ ms.Nodup
theorem Marks.nil {T' : Tags} {w w' : World} : Marks T' w w' [] := ⟨by simp, List.nodup_nil⟩
def After (C : Ctx) (L nb : Nat) (σ : Nat → Nat) (T : Tags) (w : World) (st' : St) (ds : List Deferred) (a' : Act) (w' : World) : Prop :=
  ∃ (σ' : Nat → Nat) (T' : Tags) (ms : List Nat), Sim L σ' T' st' a' w' ∧ C.J st'.ys.length T' w' ∧ (∀ k, k < nb → σ' k = σ k) ∧ Stays T T' w w' ∧ a'.defers = ms.map markOf ++ ds ∧ Marks T' w w' ms

def Wide (F : Fence) : Prop := F = Fence.wide ∨ ∃ l, F = Fence.wide.inRound l
theorem Wide.fn {F : Fence} (h : Wide F) (f : FuncId) : F.fn f := by rcases h with rfl | ⟨l, rfl⟩ <;> exact trivial
theorem Wide.depth {F : Fence} (h : Wide F) : F.depth = none := by rcases h with rfl | ⟨l, rfl⟩ <;> rfl
theorem Wide.room {F : Fence} (h : Wide F) (n : Nat) : F.room n := by rcases h with rfl | ⟨l, rfl⟩ <;> exact room_wide n
theorem Wide.calls {F : Fence} (h : Wide F) {n : Nat} {P : Program} {f : FuncId} {args : Array Value} {w : World} {R : Ending → World → Prop} (hc : Calls P f args w R) : CallsIn F n P f args w R := by
  have := (callsIn_wide (n := n)).2 hc
  rcases h with rfl | ⟨l, rfl⟩
  · exact this
  · exact this
theorem Wide.roundIn {F : Fence} (h : Wide F) {n : Nat} {P : Program} {l : Nat} {f : FuncId} {tmps : Array Value} {assign body : Code} {w : World} {R : Ending → World → Prop} (hc : RoundIn Fence.wide n P l f tmps assign body w R) : RoundIn F n P l f tmps assign body w R := by
  rcases h with rfl | ⟨l, rfl⟩
  · exact hc
  · exact hc

theorem semAt_eq {o : Oper} (h : ∀ c, o.op ≠ .defer c) (r : Option Nat) (ρ : Operand → Value) : o.semAt r ρ = execOp ρ o := by
  cases r with
  | none => exact Oper.semAt_none ρ o
  | some l => exact Oper.semAt_some l ρ o h

section
variable {P : Program} {F : Fence} {C : Ctx} {n L nb : Nat} {σ σ' : Nat → Nat} {T T' T1 T2 : Tags} {st st' st1 : St} {a : Act} {w w1 : World} {o : Oper} {vo : VOp} {y : Operand} {x : Opd} {d : Nat}
  {rec : VCode → St → Option (Ex × St)} {env : Env} {next : Act → World → Prop} {Q : Exit → Act → World → Prop}

theorem m1_defer (hm : m1 P o vo = true) (c : Call) : o.op ≠ .defer c := by
  intro e
  simp only [m1, Bool.and_eq_true] at hm
  cases vo <;> simp [mv, e, call1, call2, callV, callF] at hm

theorem After.of_chg (hC : C.Ok P L) (hs : Sim L σ' T' st' a w1) (hJ : C.J st'.ys.length T w) (hch : Chg T T' w w1) (hσ : ∀ k, k < nb → σ' k = σ k) : After C L nb σ T w st' a.defers a w1 :=
  ⟨σ', T', [], hs, hC.keep _ _ _ _ _ hch hJ, hσ, hch.stays, rfl, Marks.nil⟩
theorem put_defers {d : Option Nat} {v : Value} : (a.put d v).defers = a.defers := by
  cases d <;> rfl

theorem wpIn_value (hF : Wide F) (hm : m1 P o vo = true) {v : Value} {nx : Next} (hr : (execOp a.eval o).run P w = .ok nx w1) (hnx : nx = .value v ∨ nx = .skip ∧ v = undef) (h : next (a.put o.dst v) w1) : o.wpIn F n P a w next Q := by
  refine ⟨fun f _ => hF.fn f, ?_⟩
  rw [semAt_eq (m1_defer hm), hr]
  rcases hnx with rfl | ⟨rfl, rfl⟩
  · exact h
  · exact h

theorem run_callOp {ρ : Operand → Value} {y : Operand} {ys : List Operand} {ats : Array TypeId} {f : Nat} {cap : Array Value} (ho : o.op = .call { callee := .value y, args := ys.toArray, argTypes := ats }) (hy : ρ y = .func (.func f) #[] cap) (hf : callable P f = true) (w : World) :
    (execOp ρ o).run P w = .ok (.enter f ((ys.map ρ).toArray ++ cap)) w := by
  have := run_callFunc hf ((ys.map ρ).toArray ++ cap) w
  simp [execOp, ho, resolve, Deferred.ofValue, hy, invoke, this]

theorem func_inv {ok : Nat → Prop} {f : Nat} {caps : List PV} {v : Value} (h : PRep ok w (.func f caps) v) : ∃ arr : Array Value, v = .func (.func f) #[] arr ∧ arr.size = caps.length ∧ ∀ (k : Nat) p u, caps[k]? = some p → arr[k]? = some u → PRep ok w p u := by
  cases h; exact ⟨_, rfl, by assumption, by assumption⟩
def Grow (nb : Nat) (st st' : St) : Prop := nb ≤ st'.boxes.length ∧ st.ys <+: st'.ys ∧ st'.stop = st.stop
theorem Mono.grow (h : Mono st st') : Grow st.boxes.length st st' := ⟨h.1, by rw [h.2.1]; exact List.prefix_refl _, h.2.2⟩
theorem Grow.trans {n1 n2 : Nat} (h : Grow n1 st st1) (k : Grow n2 st1 st') : Grow n2 st st' := ⟨k.1, h.2.1.trans k.2.1, k.2.2.trans h.2.2⟩
theorem Grow.mono {n1 n2 : Nat} (h : Grow n1 st st1) (k : n2 ≤ n1) : Grow n2 st st1 := ⟨Nat.le_trans k h.1, h.2.1, h.2.2⟩

theorem act_grow (h : act rec env vo st = some st') : Grow st.boxes.length st st' := by
  by_cases hv : ∃ d x xs, vo = .yield d x xs
  · obtain ⟨d, x, xs, rfl⟩ := hv
    simp only [act] at h
    split at h
    · replace h := bind_some h
      obtain ⟨stop, _, h⟩ := h
      replace h := bind_some h
      obtain ⟨⟨vs, st1⟩, h1, h⟩ := h
      obtain ⟨m1, m2, m3⟩ := consumeAll_mono h1
      simp only at h
      split at h
      · rw [← Option.some.inj h]; exact ⟨m1, by rw [← m2]; exact List.prefix_append _ _, m3⟩
      · split at h
        · rw [← Option.some.inj h]; exact ⟨m1, by rw [← m2]; exact List.prefix_append _ _, m3⟩
        · cases h
    · cases h
  · exact (act_mono (fun d x xs e => hv ⟨d, x, xs, e⟩) h).grow
theorem op1_grow (h : op1 rec env vo st = some st') : Grow st.boxes.length st st' := by
  unfold op1 at h
  split at h
  · exact act_grow h
  · exact (plain_mono h).grow
theorem op_grow (h : op rec env vo st = some st') : Grow st.boxes.length st st' := by
  unfold op at h
  split at h
  · split at h
    · split at h
      · exact op1_grow h
      · split at h
        · rw [← Option.some.inj h]; exact ((Mono.refl _).put _ _).grow
        · rw [← Option.some.inj h]; exact (Mono.refl _).grow
    · split at h
      · split at h
        · rw [← Option.some.inj h]; exact ((Mono.refl _).put _ _).grow
        · rw [← Option.some.inj h]; exact (Mono.refl _).grow
      · cases h
    · cases h
  · exact op1_grow h

theorem Sim.ys (h : Sim L σ T st a w) (l : List (List PV)) : Sim L σ T { st with ys := l } a w := ⟨h.size, h.slots, h.boxes, h.fresh⟩

def calm (o : VOp) : Bool := match o with
  | .call .. | .callv .. => true
  | o => !isAct o || gentle o

theorem callOn_wp (hW : Wide F) (hC : C.Ok P L) (hcalls : CallsOk P rec env) (h : Sim L σ T st a w) (hJ : C.J st.ys.length T w) (hd : o.dst = some d) (hm1 : m1 P o vo = true) {ys : List Operand} {ats : Array TypeId} (ho : o.op = .call { callee := .value y, args := ys.toArray, argTypes := ats }) {xs : List Opd} (hm : mAll ys xs = true) {caps : List AV} {cvs : Array Value} {f : Nat} (hy : a.eval y = .func (.func f) #[] cvs)
    (hc : cvs.size = caps.length) (hcr : ∀ (k : Nat) c u, caps[k]? = some c → cvs[k]? = some u → CapRep st.boxes.length σ T w c u)
    (hp : callOn rec env d f xs caps st = some st') (hn : ∀ a' w', After C L st.boxes.length σ T w st' a.defers a' w' → (calm vo = true → Whole w w') → next a' w') : o.wpIn F n P a w next Q := by
  obtain ⟨hcall, hok⟩ := callOn_sound (cvs := cvs.toList) hcalls h hm (by simpa using hc) (fun k c u h1 h2 => hcr k c u h1 (by simpa using h2)) hp
  refine ⟨fun f _ => hW.fn f, ?_⟩
  rw [semAt_eq (m1_defer hm1), run_callOp ho hy hcall]
  refine ⟨fun e => absurd e (by rw [hW.depth]; simp), hW.calls ?_⟩
  have hargs : (ys.map a.eval ++ cvs.toList).toArray = (ys.map a.eval).toArray ++ cvs := by simp
  rw [← hargs]
  refine hok.mono ?_
  rintro e w' ⟨v, T2, rfl, g1, g2, g3⟩
  refine hn _ _ ?_ fun _ => g3
  rw [hd, ← put_defers (a := a) (d := some d) (v := v)]
  exact After.of_chg hC g1 (by rw [(callOn_mono hp).2.1]; exact hJ) g2 (fun _ _ => rfl)

theorem op1_wp (hW : Wide F) (hC : C.Ok P L) (hcalls : CallsOk P rec env) (h : Sim L σ T st a w) (hJ : C.J st.ys.length T w) (hst : st.stop = C.stop) (hm : m1 P o vo = true) (hp : op1 rec env vo st = some st') (hX : st'.ys <+: C.X)
    (hn : ∀ a' w', After C L st.boxes.length σ T w st' a.defers a' w' → (calm vo = true → Whole w w') → next a' w') : o.wpIn F n P a w next Q := by
  unfold op1 at hp
  split at hp
  case isFalse =>
    obtain ⟨v, T', h1, h2, h3⟩ := plain_sound h hm hp
    refine wpIn_value hW hm (h1 w (Sees.refl T w)) (.inl rfl) (hn _ _ ?_ fun _ => Whole.refl w)
    rw [← put_defers (a := a) (d := o.dst) (v := v)]
    exact After.of_chg hC h2 (by rw [(plain_mono hp).2.1]; exact hJ) (h3.chg w) (fun _ _ => rfl)
  case isTrue =>
    by_cases hc : ∃ d f xs, vo = .call d f xs
    · obtain ⟨d, f, xs, rfl⟩ := hc
      have hm' := hm
      simp only [m1, Bool.and_eq_true, beq_iff_eq, mv] at hm'
      obtain ⟨hd, hm'⟩ := hm'
      split at hm' <;> try (cases hm'; done)
      rename_i g ys ho
      simp only [Bool.and_eq_true, beq_iff_eq] at hm'
      obtain ⟨rfl, hm'⟩ := hm'
      obtain ⟨ats, ho⟩ := callF_eq ho
      exact callOn_wp hW hC hcalls h hJ hd hm ho hm' (caps := []) (cvs := #[]) rfl rfl (fun k c u e => by simp at e) hp hn
    · by_cases hv : ∃ d x xs, vo = .callv d x xs
      · obtain ⟨d, x, xs, rfl⟩ := hv
        have hm' := hm
        simp only [m1, Bool.and_eq_true, beq_iff_eq, mv] at hm'
        obtain ⟨hd, hm'⟩ := hm'
        split at hm' <;> try (cases hm'; done)
        rename_i y ys ho
        simp only [Bool.and_eq_true] at hm'
        obtain ⟨hx, hm'⟩ := hm'
        obtain ⟨ats, ho⟩ := callV_eq ho
        simp only [act] at hp
        split at hp
        · rename_i f caps hg
          obtain ⟨t, hrep⟩ : ∃ t, ARep L σ T st a w t (.pv (.func f caps)) (a.eval y) := by
            rcases h.get hx with ⟨t, rfl, (⟨_, g⟩ | g)⟩ | ⟨v', rfl, g⟩ | ⟨s, rfl, g⟩
            · rw [hg] at g; exact ⟨t, g⟩
            · rw [g] at hg; cases hg
            · simp only [St.get, AV.pv.injEq] at hg; subst hg; exact ⟨0, g⟩
            · simp [St.get] at hg
          obtain ⟨arr, e1, e2, e3⟩ := func_inv hrep
          exact callOn_wp hW hC hcalls h hJ hd hm ho hm' (caps := caps.map .pv) (cvs := arr) e1 (by simpa using e2) (fun k c u h1 h2 => by
            rw [List.getElem?_map] at h1
            cases hk : caps[k]? with
            | none => rw [hk] at h1; cases h1
            | some p => rw [hk] at h1; cases h1; exact e3 k p u hk h2) hp hn
        · rename_i f caps hg
          obtain ⟨t, hrep⟩ : ∃ t, ARep L σ T st a w t (.fn f caps) (a.eval y) := by
            rcases h.get hx with ⟨t, rfl, (⟨_, g⟩ | g)⟩ | ⟨v', rfl, g⟩ | ⟨s, rfl, g⟩
            · rw [hg] at g; exact ⟨t, g⟩
            · rw [g] at hg; cases hg
            · simp [St.get] at hg
            · simp [St.get] at hg
          obtain ⟨arr, e1, e2, e3⟩ := hrep
          exact callOn_wp hW hC hcalls h hJ hd hm ho hm' (caps := caps) (cvs := arr) e1 e2 e3 hp hn
        · cases hp
      · by_cases hyl : ∃ d x xs, vo = .yield d x xs
        · obtain ⟨d, x, xs, rfl⟩ := hyl
          have hm' := hm
          simp only [m1, Bool.and_eq_true, beq_iff_eq, mv] at hm'
          obtain ⟨hd, hm'⟩ := hm'
          split at hm' <;> try (cases hm'; done)
          rename_i y ys ho
          simp only [Bool.and_eq_true] at hm'
          obtain ⟨hx, hm'⟩ := hm'
          obtain ⟨ats, ho⟩ := callV_eq ho
          simp only [act] at hp
          split at hp
          · rename_i hg
            have hev : a.eval y = .func (.yield L) #[] #[] := by
              rcases h.get hx with ⟨t, rfl, (⟨_, g⟩ | g)⟩ | ⟨v', rfl, g⟩ | ⟨s, rfl, g⟩
              · rw [hg] at g; exact g
              · rw [g] at hg; cases hg
              · simp [St.get] at hg
              · simp [St.get] at hg
            replace hp := bind_some hp
            obtain ⟨s, hs, hp⟩ := hp
            replace hp := bind_some hp
            obtain ⟨⟨vs, st1⟩, h1, hp⟩ := hp
            obtain ⟨m1', m2, m3⟩ := consumeAll_mono h1
            obtain ⟨T1, k1, k2, k3, k4, k5⟩ := h.consumeAll hm' h1
            have hp' : st' = ({ st1 with ys := st1.ys ++ [vs] } : St).put d (.pv (.bool (goesOn s st.ys.length))) := by
              simp only at hp
              rw [← m2]
              split at hp
              · exact (Option.some.inj hp).symm
              · split at hp
                · exact (Option.some.inj hp).symm
                · cases hp
            subst hp'
            have hys : C.X[st.ys.length]? = some vs := by
              obtain ⟨t, ht⟩ := hX
              simp only [St.put] at ht
              rw [← ht, m2]; simp
            have hJ1 : C.J st.ys.length T1 w := hC.keep _ _ _ _ _ (k2.chg w) hJ
            obtain ⟨f, tmps, assign, body, r1, r2⟩ := hC.yld s _ T1 w vs (ys.map a.eval) (hst ▸ hs) hys k1.fresh hJ1 (by simp [k4]) (fun i p v hp' hv => by
              rw [List.getElem?_map] at hv
              cases hk : ys[i]? with
              | none => rw [hk] at hv; cases hv
              | some y => rw [hk] at hv; cases hv; exact k5 i p y hp' hk)
            refine ⟨fun f _ => hW.fn f, ?_⟩
            have hrun : (execOp a.eval o).run P w = .ok (.round L f tmps assign body) w := by
              simp [execOp, ho, resolve, Deferred.ofValue, hev, invoke, r1]
            rw [semAt_eq (m1_defer hm), hrun]
            refine ⟨fun e => absurd e (by rw [hW.depth]; simp), hW.roundIn ((r2 _).mono ?_)⟩
            rintro e w' ⟨rfl, q1, q2⟩
            refine hn _ _ ?_ (fun e => by simp [calm, isAct, gentle] at e)
            rw [hd, ← put_defers (a := a) (d := some d) (v := .bool (goesOn s st.ys.length))]
            exact ⟨σ, T1, [], ((k1.sees q2).ys _).putPv (.bool _), by
              have : (({ st1 with ys := st1.ys ++ [vs] } : St).put d (.pv (.bool (goesOn s st.ys.length)))).ys.length = st.ys.length + 1 := by simp [St.put, m2]
              rw [this]; exact q1, fun _ _ => rfl, ⟨q2.1, k2.ro, fun b hb e => q2.2 b (by rw [k2.ro b e]; simp) hb⟩, rfl, Marks.nil⟩
          · cases hp
        · obtain ⟨nx, v, w1, σ', T', g1, g2, g3, g4, g5, g6⟩ := act_sound h hm (fun d f xs e => hc ⟨d, f, xs, e⟩) (fun d f xs e => hv ⟨d, f, xs, e⟩) (fun d f xs e => hyl ⟨d, f, xs, e⟩) hp
          refine wpIn_value hW hm g1 g2 (hn _ _ ?_ fun hcm => g6 ?_)
          · rw [← put_defers (a := a) (d := o.dst) (v := v)]
            exact After.of_chg hC g3 (by rw [(act_mono (fun d f xs e => hyl ⟨d, f, xs, e⟩) hp).2.1]; exact hJ) g4 g5
          · have hact : isAct vo = true := by assumption
            cases vo <;> first | exact absurd ⟨_, _, _, rfl⟩ hc | exact absurd ⟨_, _, _, rfl⟩ hv | (simpa [calm, hact] using hcm)
end
end Go.Proofs.Ytpdfhckdmblicaa

namespace Go.Proofs.Ytpdfhckdmblicaa
open Go.RowKit

def wpLoop (F : Fence) (n : Nat) (P : Program) (c : Code) (Q : Exit → Act → World → Prop) (a : Act) (w : World) : Prop :=
  ∀ (b : Frame) (k : List Item) (cs : List Frame), b.roundOf = F.round → F.fn b.fn → F.room (cs.length + 1 + n) →
    ∃ e a' w', Q e a' w' ∧ ArrivesIn (Machine.fenced P F) P (lone (b.atR a (.code c :: .inLoop c :: k)) cs w) b k cs e a' w'
section
variable {F : Fence} {n : Nat} {P : Program} {c : Code} {Q : Exit → Act → World → Prop} {a : Act} {w : World}
theorem wpIn_of_loop (h : wpLoop F n P c Q a w) : (Code.loop c).wpIn F n P Q a w := fun b k cs hro hb hr =>
  let ⟨e, a', w', hq, harr⟩ := h b k cs hro hb hr
  ⟨e, a', w', hq, .of_steps (.one (fenced_calm hb hr rfl) stepR_loop) harr⟩
theorem wpLoop_once (h : c.wpIn F n P (Exit.then (wpLoop F n P c Q) Q) a w) : wpLoop F n P c Q a w := by
  intro b k cs hro hb hr
  obtain ⟨e, a₁, w₁, hq, harr⟩ := h b (.inLoop c :: k) cs hro hb hr
  cases e with
  | normal =>
    obtain ⟨e₂, a₂, w₂, hq₂, harr₂⟩ := hq b k cs hro hb hr
    exact ⟨e₂, a₂, w₂, hq₂, .of_steps (StepsIn.trans harr (.one (fenced_calm hb hr rfl) stepR_inLoop)) harr₂⟩
  | exit id => exact ⟨_, a₁, w₁, hq, .pass (x := .inLoop c) rfl (fun _ _ => .inl (by simp)) harr⟩
  | goto l => exact ⟨_, a₁, w₁, hq, .pass (x := .inLoop c) rfl (fun _ _ => .inl (by simp)) harr⟩
  | ret => exact ⟨_, a₁, w₁, hq, .pass (x := .inLoop c) rfl (fun _ _ => .inl (by simp)) harr⟩
  | panic ch => exact ⟨_, a₁, w₁, hq, .pass (x := .inLoop c) rfl (fun _ _ => .inl (by simp)) harr⟩
  | outgrown => exact ⟨_, a₁, w₁, hq, .pass (x := .inLoop c) rfl (fun _ _ => .inl (by simp)) harr⟩
theorem wpLoop_mono {Q' : Exit → Act → World → Prop} (h : wpLoop F n P c Q a w) (hq : ∀ e a w, Q e a w → Q' e a w) : wpLoop F n P c Q' a w :=
  fun b k cs hro hb hr => let ⟨e, a', w', q, r⟩ := h b k cs hro hb hr; ⟨e, a', w', hq _ _ _ q, r⟩
end

def mG (P : Program) (ops : Array Oper) (o : Oper) : VOp → Bool
  | .grd g want v => (match o.guard with
    | some (j, b) => b == want && (ops[j]?).bind (·.dst) == some g
    | none => false) && m1 P o v
  | v => o.guard.isNone && m1 P o v
def mL (P : Program) (ops : Array Oper) : List Oper → List VOp → Bool
  | [], [] => true
  | o :: os, v :: vs => mG P ops o v && mL P ops os vs
  | _, _ => false

section
variable {P : Program} {F : Fence} {C : Ctx} {n L nb : Nat} {σ σ' : Nat → Nat} {T T' T1 T2 : Tags} {st st' st1 : St} {a a1 : Act} {w w1 : World} {o : Oper} {vo : VOp} {y : Operand} {x : Opd} {d : Nat}
  {rec : VCode → St → Option (Ex × St)} {env : Env} {next : Act → World → Prop} {Q : Exit → Act → World → Prop} {opl : Array Oper} {ds : List Deferred} {e : Ex}

theorem After.refl (h : Sim L σ T st a w) (hJ : C.J st.ys.length T w) : After C L nb σ T w st a.defers a w :=
  ⟨σ, T, [], h, hJ, fun _ _ => rfl, Stays.refl T w, rfl, Marks.nil⟩
theorem After.trans {nb1 : Nat} {σ1 : Nat → Nat} {ms : List Nat} (hs : Stays T T1 w w1) (hσ : ∀ k, k < nb → σ1 k = σ k) (hd : a1.defers = ms.map markOf ++ ds) (hms : Marks T1 w w1 ms) (hnb : nb ≤ nb1)
    {a' : Act} {w' : World} (h : After C L nb1 σ1 T1 w1 st' a1.defers a' w') : After C L nb σ T w st' ds a' w' := by
  obtain ⟨σ', T', ms', g1, g2, g3, g4, g5, g6⟩ := h
  refine ⟨σ', T', ms' ++ ms, g1, g2, fun k hk => (g3 k (Nat.lt_of_lt_of_le hk hnb)).trans (hσ k hk), hs.trans g4, by rw [g5, hd]; simp, fun r hr => ?_, List.nodup_append.2 ⟨g6.2, hms.2, fun x hx y hy e => ?_⟩⟩
  · rcases List.mem_append.1 hr with hr | hr
    · obtain ⟨k1, k2, k3⟩ := g6.1 r hr
      exact ⟨Nat.le_trans hs.size k1, k2, k3⟩
    · obtain ⟨k1, k2, k3⟩ := hms.1 r hr
      have hl : r < w1.heap.size := (Array.getElem?_eq_some_iff.1 k3).1
      exact ⟨k1, g4.ro r k2, (g4.same r hl k2).trans k3⟩
  · have k1 := (g6.1 x hx).1
    have hl : y < w1.heap.size := (Array.getElem?_eq_some_iff.1 (hms.1 y hy).2.2).1
    omega

def calmG : VOp → Bool
  | .grd _ _ v => calm v
  | v => calm v
theorem Sim.putUn (h : Sim L σ T st a w) {d : Nat} : Sim L σ T (st.put d (.tup [])) (a.put (some d) undef) w :=
  h.put (fun _ _ e => by cases e) ⟨#[], rfl, rfl, fun k x u e => by simp at e⟩
theorem grd_cases {g : Nat} {want : Bool} {v : VOp} (h : Sim L σ T st a w) (hm : mG P opl o (.grd g want v) = true) (hp : op rec env (.grd g want v) st = some st') :
    (Region.wanted o (yielded opl a.tmps) = true ∧ m1 P o v = true ∧ op1 rec env v st = some st') ∨ (Region.wanted o (yielded opl a.tmps) = false ∧ Sim L σ T st' (a.put o.dst undef) w ∧ st'.ys = st.ys) := by
  simp only [mG, Bool.and_eq_true] at hm
  obtain ⟨hm1, hm⟩ := hm
  split at hm1
  case h_2 => cases hm1
  rename_i j b hgd
  simp only [Bool.and_eq_true, beq_iff_eq] at hm1
  obtain ⟨rfl, hj⟩ := hm1
  have hd : o.dst = dstOf v := by
    have hm' := hm
    simp only [m1, Bool.and_eq_true, beq_iff_eq] at hm'
    exact hm'.1
  have hskip : ∀ {s : St}, (match dstOf v with
      | some d => some (st.put d (.tup []))
      | none => some st) = some s → Sim L σ T s (a.put o.dst undef) w ∧ s.ys = st.ys := by
    intro s hp
    rw [hd]
    split at hp
    · rename_i d hd2
      rw [hd2]
      have hp := Option.some.inj hp; subst hp
      exact ⟨h.putUn, rfl⟩
    · rename_i hd2
      rw [hd2]
      have hp := Option.some.inj hp; subst hp
      exact ⟨h, rfl⟩
  have slot : ∀ {x : AV}, st.slots.getD g .any = x → x ≠ .any → st.slots[g]? = some x ∧ ∃ u, a.tmps[g]? = some u ∧ ARep L σ T st a w g x u := by
    intro x hs hx
    simp only [List.getD_eq_getElem?_getD] at hs
    cases e : st.slots[g]? with
    | none => rw [e] at hs; exact absurd hs.symm hx
    | some y =>
      rw [e] at hs
      have hs : y = x := hs
      subst hs
      have hlt : g < a.tmps.size := by rw [h.size]; exact (List.getElem?_eq_some_iff.1 e).1
      exact ⟨rfl, _, Array.getElem?_eq_getElem hlt, h.slots g _ _ e (Array.getElem?_eq_getElem hlt)⟩
  simp only [op] at hp
  split at hp
  · rename_i t hs
    obtain ⟨_, u, hu, hr⟩ := slot hs (by simp)
    have hu : a.tmps[g]? = some (.bool t) := by rw [hu, PRep.bool_inv hr]
    have hy : yielded opl a.tmps j = some t := by simp [yielded, hj, hu]
    have hw : Region.wanted o (yielded opl a.tmps) = (t == b) := by
      simp only [Region.wanted, hgd, hy]
      cases t <;> cases b <;> rfl
    by_cases htb : t = b
    · subst htb
      simp only [↓reduceIte] at hp
      exact .inl ⟨by simp [hw], hm, hp⟩
    · rw [if_neg htb] at hp
      exact .inr ⟨by simpa [hw] using htb, hskip hp⟩
  · rename_i l hs
    obtain ⟨_, u, hu, arr, rfl, _⟩ := slot hs (by simp)
    have hy : yielded opl a.tmps j = none := by simp [yielded, hj, hu]
    split at hp
    · exact .inr ⟨by simp [Region.wanted, hgd, hy], hskip hp⟩
    · cases hp
  · cases hp
theorem op_wp (hW : Wide F) (hC : C.Ok P L) (hcalls : CallsOk P rec env) (h : Sim L σ T st a w) (hJ : C.J st.ys.length T w) (hst : st.stop = C.stop) (hm : mG P opl o vo = true) (hp : op rec env vo st = some st') (hX : st'.ys <+: C.X)
    (hn : ∀ a' w', After C L st.boxes.length σ T w st' a.defers a' w' → (calmG vo = true → Whole w w') → next a' w') :
    if Region.wanted o (yielded opl a.tmps) then o.wpIn F n P a w next Q else (∀ f, o.about P w a.eval = some f → F.fn f) ∧ next (a.put o.dst undef) w := by
  by_cases hg : ∃ g want v, vo = .grd g want v
  · obtain ⟨g, want, v, rfl⟩ := hg
    rcases grd_cases h hm hp with ⟨g1, g2, g3⟩ | ⟨g1, g2, g3⟩
    · rw [g1]
      simp only [↓reduceIte]
      exact op1_wp hW hC hcalls h hJ hst g2 g3 hX hn
    · rw [g1]
      simp only [Bool.false_eq_true, ↓reduceIte]
      refine ⟨fun f _ => hW.fn f, hn _ _ ?_ fun _ => Whole.refl w⟩
      rw [← put_defers (a := a) (d := o.dst) (v := undef)]
      exact After.of_chg hC g2 (by rw [g3]; exact hJ) (Chg.refl T w) (fun _ _ => rfl)
  · have hm' : o.guard.isNone = true ∧ m1 P o vo = true := by
      cases vo <;> first | exact Bool.and_eq_true_iff.1 hm | exact absurd ⟨_, _, _, rfl⟩ hg
    have hp' : op1 rec env vo st = some st' := by
      cases vo <;> first | exact hp | exact absurd ⟨_, _, _, rfl⟩ hg
    have hw : Region.wanted o (yielded opl a.tmps) = true := by
      simp only [Region.wanted, Option.isNone_iff_eq_none.1 hm'.1]
    rw [hw]
    refine op1_wp hW hC hcalls h hJ hst hm'.2 hp' hX fun a' w' g1 g2 => hn _ _ g1 fun e => g2 ?_
    cases vo <;> first | exact e | exact absurd ⟨_, _, _, rfl⟩ hg

theorem ops_grow : ∀ {l : List VOp} {st st' : St}, ops rec env l st = some st' → Grow st.boxes.length st st'
  | [], st, st', h => by simp only [ops, Option.some.injEq] at h; subst h; exact (Mono.refl _).grow
  | v :: l, st, st', h => by
    simp only [ops] at h
    obtain ⟨st1, h1, h2⟩ := bind_some h
    exact ((op_grow h1).trans (ops_grow h2)).mono (op_grow h1).1

theorem ops_wp (hW : Wide F) (hC : C.Ok P L) (hcalls : CallsOk P rec env) (hX : st'.ys <+: C.X) : ∀ {l : List Oper} {vs : List VOp} {st : St} {σ : Nat → Nat} {T : Tags} {a : Act} {w : World}, Sim L σ T st a w → C.J st.ys.length T w → st.stop = C.stop → mL P opl l vs = true → ops rec env vs st = some st' →
    (∀ a' w', After C L st.boxes.length σ T w st' a.defers a' w' → Q .normal a' w') → wpListIn F n P opl Q l a w
  | [], [], st, σ, T, a, w, h, hJ, _, _, hp, hn => by
    simp only [ops, Option.some.injEq] at hp; subst hp
    exact hn _ _ (After.refl h hJ)
  | [], _ :: _, _, _, _, _, _, _, _, _, hm, _, _ => by simp [mL] at hm
  | _ :: _, [], _, _, _, _, _, _, _, _, hm, _, _ => by simp [mL] at hm
  | o :: l, v :: vs, st, σ, T, a, w, h, hJ, hst, hm, hp, hn => by
    simp only [mL, Bool.and_eq_true] at hm
    simp only [ops] at hp
    obtain ⟨st1, h1, h2⟩ := bind_some hp
    have g1 := op_grow h1
    have g2 := ops_grow h2
    simp only [wpListIn]
    refine op_wp hW hC hcalls h hJ hst hm.1 h1 (g2.2.1.trans hX) ?_
    rintro a1 w1 ⟨σ1, T1, ms, k1, k2, k3, k4, k5, k6⟩ _
    exact ops_wp hW hC hcalls hX k1 k2 (g1.2.2.trans hst) hm.2 h2 fun a' w' hA => hn _ _ (After.trans k4 k3 k5 k6 g1.1 hA)
end
end Go.Proofs.Ytpdfhckdmblicaa

namespace Go.Proofs.Ytpdfhckdmblicaa
open Go.RowKit

section
variable {F : Fence} {n : Nat} {P : Program} {ops : Array Oper} {S S2 : World → Prop} {Q : Act → World → Prop} {f : Nat}

def anyFin2 (F : Fence) (n : Nat) (P : Program) (ops : Array Oper) (S S2 : World → Prop) (f : Nat) (Q : Act → World → Prop) : Nat → Array Bool → Act → World → Prop
  | 0, l, a, w => Region.ready .any ops l = [] ∧ Q a w
  | fuel + 1, l, a, w => (Region.ready .any ops l = [] → Q a w) ∧ ∀ i ∈ Region.ready .any ops l, wpOpIn F n P ops (onlyNormal Q) i (fun a' w' => (((l.setIfInBounds i true).getD f false = true ∨ S w') ∧ S2 w') ∧ anyFin2 F n P ops S S2 f Q fuel (l.setIfInBounds i true) a' w') a w

theorem anyFin2_wp : ∀ (fuel : Nat) (l : Array Bool) (a : Act) (w : World), anyFin2 F n P ops S S2 f Q fuel l a w → wpAnyIn F n P .any ops (onlyNormal Q) fuel l a w
  | 0, _, _, _, h => ⟨h.1, rfl, h.2⟩
  | fuel + 1, _, _, _, h => ⟨fun h0 => ⟨rfl, h.1 h0⟩, fun i hi => wpOpIn_mono (fun a' w' h' => anyFin2_wp fuel _ a' w' h'.2) (h.2 i hi)⟩

theorem anyFin2_first (hF : ∀ f, F.fn f) (hnd : noDefer ops = true) (hsel : Region.noSelect ops = true) {T : World → Prop} {i : Nat} {oi : Oper} {v : Value} (hi : ops[i]? = some oi) (hfi : f ≠ i)
    (hT : ∀ l : Array Bool, l.size = ops.size → Closed ops l → l.getD i false = false → ∀ w, ((l.getD f false = true ∨ S w) ∧ S2 w) → T w) :
    ∀ (fuel : Nat) (l : Array Bool) (a : Act) (w : World), l.size = ops.size → Closed ops l → ((l.getD f false = true ∨ S w) ∧ S2 w) →
      (∀ j oj, ops[j]? = some oj → j ≠ i → l.getD j true = false → (∀ e ∈ oj.after, Region.binds .any e = true → e.on ≠ i) → oi.apart ops oj = true) →
      i ∈ Region.ready .any ops l → YieldsIf P ops T oi v a →
      anyFin2 F n P ops S S2 f Q fuel (l.setIfInBounds i true) (a.put oi.dst v) w → anyFin2 F n P ops S S2 f Q (fuel + 1) l a w := by
  have self : ∀ {a : Act} {w : World} {K : Act → World → Prop}, YieldsIf P ops T oi v a → T w → K (a.put oi.dst v) w → wpOpIn F n P ops (onlyNormal Q) i K a w := by
    intro a w K hy hS hk
    unfold wpOpIn
    simp only [hi]
    rcases hy with ⟨hw, hv⟩ | ⟨hw, rfl⟩
    · rw [if_pos hw]
      refine ⟨fun f _ => hF f, ?_⟩
      rw [Oper.semAt_eq _ _ _ (noDefer_spec hnd hi), hv w hS]
      exact hk
    · rw [if_neg (by rw [hw]; decide)]
      exact ⟨fun f _ => hF f, hk⟩
  have listed : ∀ {l : Array Bool} {w : World}, l.size = ops.size → i ∈ Region.ready .any ops l → ((l.getD f false = true ∨ S w) ∧ S2 w) → (((l.setIfInBounds i true).getD f false = true ∨ S w) ∧ S2 w) := fun hs hr h => ⟨h.1.imp (fun h => by rw [getD_set _ _ _ (ready_lt hs hr), if_neg (Ne.symm hfi)]; exact h) id, h.2⟩
  have unlisted : ∀ {l : Array Bool}, i ∈ Region.ready .any ops l → l.size = ops.size → l.getD i false = false := fun h hs => by
    have h1 := (mem_ready.1 h).1
    have h2 := ready_lt hs h
    simpa [h2] using h1
  intro fuel
  induction fuel with
  | zero =>
    intro l a w hs hc hS _ hr hy H
    refine ⟨fun h => (by rw [h] at hr; cases hr), fun j hj => ?_⟩
    by_cases hji : j = i
    · subst hji; exact self hy (hT l hs hc (unlisted hr hs) w hS) ⟨listed hs hr hS, H⟩
    · have := ready_mono hj hji
      rw [H.1] at this
      cases this
  | succ fuel ih =>
    intro l a w hs hc hS hfree hr hy H
    refine ⟨fun h => (by rw [h] at hr; cases hr), fun j hj => ?_⟩
    by_cases hji : j = i
    · subst hji; exact self hy (hT l hs hc (unlisted hr hs) w hS) ⟨listed hs hr hS, H⟩
    · have h1 := H.2 j (ready_mono hj hji)
      obtain ⟨hjun, oj, hoj, hall⟩ := mem_ready.1 hj
      have hnot : ∀ e ∈ oj.after, Region.binds .any e = true → e.on ≠ i := fun e he hb heq => by
        have h1 := hall e he hb
        rw [heq, unlisted hr hs] at h1
        cases h1
      have h2 := opIn_put hF hnd hsel hi hoj (hfree j oj hoj hji hjun hnot) hy h1
      have hs' : (l.setIfInBounds j true).size = ops.size := by simpa using hs
      refine wpOpIn_mono (fun a' w' h3 => ?_) h2
      have hSS : (((l.setIfInBounds j true).getD f false = true ∨ S w') ∧ S2 w') := ⟨h3.2.1.1.imp (fun h => by
        rw [getD_set _ _ _ (by simpa using ready_lt hs hj), getD_set _ _ _ (ready_lt hs hr), if_neg (Ne.symm hfi)] at h
        rw [getD_set _ _ _ (ready_lt hs hj)]; exact h) id, h3.2.1.2⟩
      refine ⟨hSS, ih (l.setIfInBounds j true) a' w' hs' (hc.set hs hj) hSS (fun k ok hk hki hun hno => hfree k ok hk hki ?_ hno) (ready_mono hr (Ne.symm hji)) h3.1 ?_⟩
      · by_cases hjk : j = k
        · subst hjk; exact hjun
        · rw [getD_set_ne true hjk] at hun; exact hun
      · rw [Array.setIfInBounds_comm _ _ hji]
        exact h3.2.2

theorem seg2_sound (hF : ∀ f, F.fn f) (hnd : noDefer ops = true) (hsel : Region.noSelect ops = true) {T : World → Prop} {w : World} : ∀ (seg : List Nat) (m : Nat) (l l' : Array Bool) (a : Act), l.size = ops.size → Closed ops l → ((l.getD f false = true ∨ S w) ∧ S2 w) →
    (∀ i ∈ seg, f ≠ i ∧ ∀ l : Array Bool, l.size = ops.size → Closed ops l → l.getD i false = false → (∀ j, l.getD j false = true ∨ True) → ∀ w, ((l.getD f false = true ∨ S w) ∧ S2 w) → T w) →
    quietRun ops seg l = some l' → (l'.size = ops.size → Closed ops l' → ((l'.getD f false = true ∨ S w) ∧ S2 w) → True) →
    wpQuiet P ops T (fun a' => ∀ (_ : l'.size = ops.size) (_ : Closed ops l') (_ : (l'.getD f false = true ∨ S w) ∧ S2 w), anyFin2 F n P ops S S2 f Q m l' a' w) (pick ops seg) a → anyFin2 F n P ops S S2 f Q (m + seg.length) l a w
  | [], m, l, l', a, hs, hc, hS, _, hq, _, h => by
    simp only [quietRun, Option.some.injEq] at hq
    subst hq
    exact h hs hc hS
  | i :: is, m, l, l', a, hs, hc, hS, hT, hq, ht, h => by
    unfold quietRun at hq
    split at hq
    case isFalse => cases hq
    rename_i hcnd
    simp only [Bool.and_eq_true] at hcnd
    obtain ⟨⟨hp, hf⟩, hr⟩ := hcnd
    have hr' : i ∈ Region.ready .any ops l := by simpa using hr
    cases ho : ops[i]? with
    | none => rw [ho] at hp; simp at hp
    | some o =>
      rw [ho] at hp
      simp only [Option.map_some, Option.getD_some] at hp
      simp only [pick, List.filterMap_cons, ho] at h
      unfold wpQuiet at h
      have key : ∃ v, YieldsIf P ops T o v a ∧ wpQuiet P ops T (fun a' => ∀ (_ : l'.size = ops.size) (_ : Closed ops l') (_ : (l'.getD f false = true ∨ S w) ∧ S2 w), anyFin2 F n P ops S S2 f Q m l' a' w) (pick ops is) (a.put o.dst v) := by
        split at h
        · rename_i hw
          obtain ⟨v, h1, h2⟩ := h
          refine ⟨v, .inl ⟨hw, fun w1 hw1 => ?_⟩, h2⟩
          have h3 := h1 w1 hw1
          unfold Oper.quietAt at h3
          cases hrun : (execOp a.eval o).run P w1 with
          | halt x w2 => rw [hrun] at h3; exact h3.elim
          | ok x w2 =>
            obtain ⟨y, rfl⟩ := plain_value hp hrun
            rw [hrun] at h3
            obtain ⟨e1, e2⟩ := h3
            rw [e1, e2]
        · rename_i hw
          exact ⟨undef, .inr ⟨by simpa using hw, rfl⟩, h⟩
      obtain ⟨v, hy, hk⟩ := key
      have hTi := hT i (by simp)
      refine anyFin2_first hF hnd hsel ho hTi.1 (fun l hs hc hu w hS => hTi.2 l hs hc hu (fun _ => .inr trivial) w hS) (m + is.length) l a w hs hc hS (Region.free_spec ho hf) hr' hy ?_
      refine seg2_sound hF hnd hsel is m (l.setIfInBounds i true) l' _ (by simpa using hs) (hc.set hs hr') ⟨hS.1.imp (fun h => ?_) id, hS.2⟩ (fun j hj => hT j (by simp [hj])) hq ht hk
      rw [getD_set _ _ _ (ready_lt hs hr'), if_neg (Ne.symm hTi.1)]; exact h

end
end Go.Proofs.Ytpdfhckdmblicaa

namespace Go.Proofs.Ytpdfhckdmblicaa
open Go.RowKit

section
variable {F : Fence} {n : Nat} {P : Program} {ops : Array Oper} {Q : Act → World → Prop} {f : Nat}

theorem anyFin2_weak {S S' S2 S2' : World → Prop} (hS : ∀ w, S' w → S w) (hS2 : ∀ w, S2' w → S2 w) : ∀ (m : Nat) (l : Array Bool) (a : Act) (w : World), anyFin2 F n P ops S' S2' f Q m l a w → anyFin2 F n P ops S S2 f Q m l a w
  | 0, _, _, _, h => h
  | m + 1, _, _, _, h => ⟨h.1, fun i hi => wpOpIn_mono (fun a' w' h' => ⟨⟨h'.1.1.imp id (hS w'), hS2 w' h'.1.2⟩, anyFin2_weak hS hS2 m _ a' w' h'.2⟩) (h.2 i hi)⟩

abbrev Fin1 := Option (List Nat × List Nat × Nat × List (List Nat × Nat))
def finNo (ops : Array Oper) : Fin1 → Nat
  | none => ops.size
  | some (_, _, f, _) => f
def tailB (ops : Array Oper) (f : Nat) (last : List Nat) : List (List Nat × Nat) → Array Bool → Bool
  | [], l => last.all (fun i => f != i) && match quietRun ops last l with
    | some l2 => (Region.ready .any ops l2).isEmpty
    | none => false
  | (seg, i) :: more, l => seg.all (fun i => f != i) && f != i && match quietRun ops seg l with
    | some l1 => (Region.ready .any ops l1 == [i]) && tailB ops f last more (l1.setIfInBounds i true)
    | none => false
def tailCount (last : List Nat) : List (List Nat × Nat) → Nat
  | [] => last.length
  | (seg, _) :: more => tailCount last more + 1 + seg.length
def drwB (ops : Array Oper) : List (List Nat × Nat) → Fin1 → List Nat → Array Bool → Bool
  | [], none, last, l => last.all (fun i => i < ops.size) && match quietRun ops last l with
    | some l1 => (Region.ready .any ops l1).isEmpty
    | none => false
  | [], some (segf, segu, f, tl), last, l => segf.all (fun i => f != i && depB ops ops.size f i) && segu.all (fun i => f != i) && match quietRun ops segf l with
    | some l0 => match quietRun ops segu l0 with
      | some l1 => (Region.ready .any ops l1 == [f]) && tailB ops f last tl (l1.setIfInBounds f true)
      | none => false
    | none => false
  | (seg, i) :: more, fin, last, l => (match fin with
      | none => seg.all (fun i => i < ops.size)
      | some (_, _, f, _) => seg.all (fun i => f != i && depB ops ops.size f i) && f != i) && match quietRun ops seg l with
    | some l1 => (Region.ready .any ops l1 == [i]) && drwB ops more fin last (l1.setIfInBounds i true)
    | none => false
def drwCount : List (List Nat × Nat) → Fin1 → List Nat → Nat
  | [], none, last => last.length
  | [], some (segf, segu, _, tl), last => tailCount last tl + 1 + segu.length + segf.length
  | (seg, _) :: more, fin, last => drwCount more fin last + 1 + seg.length
def drwOk (ops : Array Oper) (acts : List (List Nat × Nat)) (fin : Fin1) (last : List Nat) : Bool :=
  Region.noSelect ops && (drwCount acts fin last == ops.size) && drwB ops acts fin last (Array.replicate ops.size false)

def wpTail (F : Fence) (n : Nat) (P : Program) (ops : Array Oper) (S2 : World → Prop) (Q : Act → World → Prop) (last : List Nat) : List (List Nat × Nat) → Act → World → Prop
  | [], a, w => wpQuiet P ops S2 (fun a3 => Q a3 w) (pick ops last) a
  | (seg, i) :: more, a, w => wpQuiet P ops S2 (fun a' => wpListIn F n P ops (fun e a'' w'' => e = .normal ∧ S2 w'' ∧ wpTail F n P ops S2 Q last more a'' w'') (pick ops [i]) a' w) (pick ops seg) a
def wpDrw (F : Fence) (n : Nat) (P : Program) (ops : Array Oper) (Q : Act → World → Prop) : (World → Prop) → List (List Nat × Nat) → Fin1 → List Nat → Act → World → Prop
  | S, [], none, last, a, w => wpQuiet P ops S (fun a' => Q a' w) (pick ops last) a
  | S, [], some (segf, segu, f, tl), last, a, w => wpQuiet P ops S (fun a0 => ∃ S2 : World → Prop, S2 w ∧ wpQuiet P ops S2 (fun a' => wpListIn F n P ops (fun e a'' w'' => e = .normal ∧ S2 w'' ∧ wpTail F n P ops S2 Q last tl a'' w'') (pick ops [f]) a' w) (pick ops segu) a0) (pick ops segf) a
  | S, (seg, i) :: more, fin, last, a, w => wpQuiet P ops S (fun a' => wpListIn F n P ops (fun e a'' w'' => e = .normal ∧ ∃ S' : World → Prop, (∀ w, S' w → S w) ∧ S' w'' ∧ wpDrw F n P ops Q S' more fin last a'' w'') (pick ops [i]) a' w) (pick ops seg) a

theorem quietRun_keeps : ∀ (seg : List Nat) (l l' : Array Bool), l.size = ops.size → quietRun ops seg l = some l' → l.getD f false = true → l'.getD f false = true
  | [], l, l', _, h, hf => by simp only [quietRun, Option.some.injEq] at h; subst h; exact hf
  | i :: is, l, l', hs, h, hf => by
    unfold quietRun at h
    split at h
    case isFalse => cases h
    rename_i hc
    simp only [Bool.and_eq_true] at hc
    have hr : i ∈ Region.ready .any ops l := by simpa using hc.2
    refine quietRun_keeps is _ l' (by simpa using hs) h ?_
    rw [getD_set _ _ _ (ready_lt hs hr)]
    split
    · rfl
    · exact hf
theorem tail_sound {S S2 : World → Prop} (hF : ∀ f, F.fn f) (hnd : noDefer ops = true) (hsel : Region.noSelect ops = true) {last : List Nat} : ∀ (tl : List (List Nat × Nat)) (l : Array Bool) (a : Act) (w : World), l.size = ops.size → Closed ops l → l.getD f false = true → S2 w → tailB ops f last tl l = true →
    wpTail F n P ops S2 Q last tl a w → anyFin2 F n P ops S S2 f Q (tailCount last tl) l a w
  | [], l, a, w, hs, hc, hf, h2, hB, h => by
    unfold tailB at hB
    simp only [Bool.and_eq_true] at hB
    obtain ⟨hl, hB⟩ := hB
    split at hB
    case h_2 => cases hB
    rename_i l2 hq2
    unfold wpTail at h
    have h3 := seg2_sound (F := F) (n := n) (P := P) (S := S) (Q := Q) (f := f) hF hnd hsel (S2 := S2) (T := S2) (w := w) last 0 l l2 a hs hc ⟨.inl hf, h2⟩
      (fun i hi => ⟨by have := List.all_eq_true.1 hl i hi; simpa using this, fun _ _ _ _ _ _ h => h.2⟩) hq2 (fun _ _ _ => trivial) (wpQuiet_imp (fun a3 h3 _ _ _ => ⟨by simpa using hB, h3⟩) _ _ h)
    simpa [tailCount] using h3
  | (seg, i) :: more, l, a, w, hs, hc, hf, h2, hB, h => by
    unfold tailB at hB
    simp only [Bool.and_eq_true, bne_iff_ne] at hB
    obtain ⟨⟨hl, hfi⟩, hB⟩ := hB
    split at hB
    case h_2 => cases hB
    rename_i l1 hq1
    simp only [Bool.and_eq_true, beq_iff_eq] at hB
    obtain ⟨hr, hB⟩ := hB
    unfold wpTail at h
    have h3 := seg2_sound (F := F) (n := n) (P := P) (S := S) (Q := Q) (f := f) hF hnd hsel (S2 := S2) (T := S2) (w := w) seg (tailCount last more + 1) l l1 a hs hc ⟨.inl hf, h2⟩
      (fun i hi => ⟨by have := List.all_eq_true.1 hl i hi; simpa using this, fun _ _ _ _ _ _ h => h.2⟩) hq1 (fun _ _ _ => trivial) (wpQuiet_imp (fun a' h' hs1 hc1 hS1 => by
        refine ⟨fun h0 => (by rw [hr] at h0; cases h0), fun j hj => ?_⟩
        have hj' := hj
        rw [hr] at hj
        obtain rfl : j = i := by simpa using hj
        have hf1 := quietRun_keeps seg l l1 hs hq1 hf
        have hf2 : (l1.setIfInBounds j true).getD f false = true := by
          rw [getD_set _ _ _ (ready_lt hs1 hj')]
          split
          · rfl
          · exact hf1
        exact oneAct hF (fun a2 w2 h3 => ⟨⟨.inl hf2, h3.1⟩, tail_sound hF hnd hsel more _ _ _ (by simpa using hs1) (hc1.set hs1 hj') hf2 h3.1 hB h3.2⟩) h') _ _ h)
    simpa [tailCount] using h3

theorem drw_sound (hF : ∀ f, F.fn f) (hnd : noDefer ops = true) (hsel : Region.noSelect ops = true) {fin : Fin1} {last : List Nat} : ∀ (acts : List (List Nat × Nat)) (S : World → Prop) (l : Array Bool) (a : Act) (w : World), l.size = ops.size → Closed ops l → drwB ops acts fin last l = true → S w →
    wpDrw F n P ops Q S acts fin last a w → anyFin2 F n P ops S (fun _ => True) (finNo ops fin) Q (drwCount acts fin last) l a w
  | [], S, l, a, w, hs, hc, hB, hS, h => by
    cases fin with
    | none =>
      unfold drwB at hB
      simp only [Bool.and_eq_true] at hB
      obtain ⟨hl, hB⟩ := hB
      split at hB
      case h_2 => cases hB
      rename_i l1 hq1
      unfold wpDrw at h
      have := seg2_sound (F := F) (n := n) (P := P) (S := S) (Q := Q) (f := ops.size) (S2 := fun _ => True) hF hnd hsel (T := S) (w := w) last 0 l l1 a hs hc ⟨.inr hS, trivial⟩ (fun i hi => by
        have := List.all_eq_true.1 hl i hi
        simp only [decide_eq_true_eq] at this
        refine ⟨by omega, fun l hs hc hu _ w hS => hS.1.resolve_left fun hf => ?_⟩
        rw [Array.getD_eq_getD_getElem?, Array.getElem?_eq_none (by omega)] at hf; cases hf) hq1 (fun _ _ _ => trivial) (wpQuiet_imp (fun a' h' _ _ _ => ⟨by simpa using hB, h'⟩) _ _ h)
      simpa [drwCount, finNo] using this
    | some p =>
      obtain ⟨segf, segu, f, tl⟩ := p
      unfold drwB at hB
      simp only [Bool.and_eq_true] at hB
      obtain ⟨⟨hsg, hsu⟩, hB⟩ := hB
      split at hB
      case h_2 => cases hB
      rename_i l0 hq0
      split at hB
      case h_2 => cases hB
      rename_i l1 hq1
      simp only [Bool.and_eq_true, beq_iff_eq] at hB
      obtain ⟨hr, hB⟩ := hB
      unfold wpDrw at h
      have := seg2_sound (F := F) (n := n) (P := P) (S := S) (Q := Q) (f := f) (S2 := fun _ => True) hF hnd hsel (T := S) (w := w) segf (tailCount last tl + 1 + segu.length) l l0 a hs hc ⟨.inr hS, trivial⟩ (fun i hi => by
        have := List.all_eq_true.1 hsg i hi
        simp only [Bool.and_eq_true, bne_iff_ne] at this
        refine ⟨this.1, fun l _ hc hu _ w hS => hS.1.resolve_left fun hf => ?_⟩
        rw [hc.dep _ _ _ hf this.2] at hu; cases hu) hq0 (fun _ _ _ => trivial) (wpQuiet_imp (fun a0 h0 hs0 hc0 hS0 => by
          obtain ⟨S2, hS2, h0⟩ := h0
          refine anyFin2_weak (S' := S) (S2' := S2) (fun _ h => h) (fun _ _ => trivial) _ _ _ _ ?_
          refine seg2_sound (F := F) (n := n) (P := P) (S := S) (Q := Q) (f := f) (S2 := S2) hF hnd hsel (T := S2) (w := w) segu (tailCount last tl + 1) l0 l1 a0 hs0 hc0 ⟨hS0.1, hS2⟩ (fun i hi => by
            have := List.all_eq_true.1 hsu i hi
            simp only [bne_iff_ne] at this
            exact ⟨this, fun _ _ _ _ _ _ h => h.2⟩) hq1 (fun _ _ _ => trivial) (wpQuiet_imp (fun a' h' hs1 hc1 _ => by
              refine ⟨fun h0 => (by rw [hr] at h0; cases h0), fun j hj => ?_⟩
              have hj' := hj
              rw [hr] at hj
              obtain rfl : j = f := by simpa using hj
              have hf1 : (l1.setIfInBounds j true).getD j false = true := by rw [getD_set _ _ _ (ready_lt hs1 hj'), if_pos rfl]
              exact oneAct hF (fun a2 w2 h3 => ⟨⟨.inl hf1, h3.1⟩, tail_sound hF hnd hsel tl _ _ _ (by simpa using hs1) (hc1.set hs1 hj') hf1 h3.1 hB h3.2⟩) h') _ _ h0)) _ _ h)
      simpa [drwCount, finNo] using this
  | (seg, i) :: more, S, l, a, w, hs, hc, hB, hS, h => by
    unfold drwB at hB
    simp only [Bool.and_eq_true] at hB
    obtain ⟨hsg, hB⟩ := hB
    split at hB
    case h_2 => cases hB
    rename_i l1 hq1
    simp only [Bool.and_eq_true, beq_iff_eq] at hB
    obtain ⟨hr, hB⟩ := hB
    unfold wpDrw at h
    have hT : ∀ i ∈ seg, finNo ops fin ≠ i ∧ ∀ l : Array Bool, l.size = ops.size → Closed ops l → l.getD i false = false → (∀ j, l.getD j false = true ∨ True) → ∀ w, ((l.getD (finNo ops fin) false = true ∨ S w) ∧ True) → S w := fun i hi => by
      cases fin with
      | none =>
        have := List.all_eq_true.1 hsg i hi
        simp only [decide_eq_true_eq] at this
        refine ⟨by simp only [finNo]; omega, fun l hs hc hu _ w hS => hS.1.resolve_left fun hf => ?_⟩
        simp only [finNo] at hf
        rw [Array.getD_eq_getD_getElem?, Array.getElem?_eq_none (by omega)] at hf; cases hf
      | some p =>
        simp only [Bool.and_eq_true] at hsg
        have := List.all_eq_true.1 hsg.1 i hi
        simp only [Bool.and_eq_true, bne_iff_ne] at this
        refine ⟨this.1, fun l _ hc hu _ w hS => hS.1.resolve_left fun hf => ?_⟩
        rw [hc.dep _ _ _ hf this.2] at hu; cases hu
    have := seg2_sound (F := F) (n := n) (P := P) (S := S) (Q := Q) (f := finNo ops fin) (S2 := fun _ => True) hF hnd hsel (T := S) (w := w) seg (drwCount more fin last + 1) l l1 a hs hc ⟨.inr hS, trivial⟩ hT hq1 (fun _ _ _ => trivial) (wpQuiet_imp (fun a' h' hs1 hc1 _ => by
        refine ⟨fun h0 => (by rw [hr] at h0; cases h0), fun j hj => ?_⟩
        have hj' := hj
        rw [hr] at hj
        obtain rfl : j = i := by simpa using hj
        refine oneAct hF (fun a2 w2 h2 => ?_) h'
        obtain ⟨S', k1, k2, k3⟩ := h2
        exact ⟨⟨.inr (k1 _ k2), trivial⟩, anyFin2_weak k1 (fun _ h => h) _ _ _ _ (drw_sound hF hnd hsel more S' _ _ _ (by simpa using hs1) (hc1.set hs1 hj') hB k2 k3)⟩) _ _ h)
    simpa [drwCount] using this

theorem wpIn_region_drw {id : Nat} {l : Array Oper} {a : Act} {w : World} {Q : Exit → Act → World → Prop} (S : World → Prop) {acts : List (List Nat × Nat)} {fin : Fin1} {last : List Nat} (hF : ∀ f, F.fn f) (hm : P.follows .mixedOrders = true)
    (hnd : noDefer l = true) (hB : drwOk l acts fin last = true) (hS : S w.drew) (h : wpDrw F n P l (Q .normal) S acts fin last a w.drew) : (Code.region id l true).wpIn F n P Q a w := by
  simp only [drwOk, Bool.and_eq_true, beq_iff_eq] at hB
  obtain ⟨⟨hsel, hn⟩, hB⟩ := hB
  refine Code.wpIn_mono (Q := onlyNormal (Q .normal)) (fun e a w h => by obtain ⟨rfl, h⟩ := h; exact h) (wpIn_region_any hm ?_)
  have := anyFin2_wp _ _ _ _ (drw_sound hF hnd hsel acts S (Array.replicate l.size false) a _ (by simp) (fun m o hm => absurd hm (by rw [Array.getD_eq_getD_getElem?, Array.getElem?_replicate]; split <;> simp)) hB hS h)
  rw [hn] at this
  exact this
end
end Go.Proofs.Ytpdfhckdmblicaa

namespace Go.Proofs.Ytpdfhckdmblicaa
open Go.RowKit

def core : VOp → VOp
  | .grd _ _ v => v
  | v => v
def muteOp : VOp → Bool
  | .mov .. | .asg .. | .un .. | .pick .. | .bin .. | .conv .. | .mn .. | .fadr .. | .aadr .. => true
  | _ => false
def looseOp (v : VOp) : Bool := muteOp v || match v with
  | .ldz .. => true
  | _ => false
def quietOk (P : Program) (opl : Array Oper) (seg : List Nat) (vs : List VOp) : Bool := mL P opl (pick opl seg) vs && vs.all fun v => !isAct (core v)
def mTail (P : Program) (opl : Array Oper) (last : List Nat) : List (List Nat × Nat) → List VOp → Bool
  | [], vs => mL P opl (pick opl last) vs && vs.all fun v => muteOp (core v)
  | (seg, i) :: more, vs => mL P opl (pick opl seg) (vs.take seg.length) && ((vs.take seg.length).all fun v => muteOp (core v)) && match vs.drop seg.length with
    | v :: vs => mL P opl (pick opl [i]) [v] && mTail P opl last more vs
    | [] => false
def mDrw (P : Program) (opl : Array Oper) (fin : Fin1) (last : List Nat) : List (List Nat × Nat) → List VOp → Bool
  | [], vs => match fin with
    | none => quietOk P opl last vs
    | some (segf, segu, f, tl) => quietOk P opl segf (vs.take segf.length) && mL P opl (pick opl segu) ((vs.drop segf.length).take segu.length) && (((vs.drop segf.length).take segu.length).all fun v => looseOp (core v)) && match (vs.drop segf.length).drop segu.length with
      | v :: vs => mL P opl (pick opl [f]) [v] && mTail P opl last tl vs
      | [] => false
  | (seg, i) :: more, vs => quietOk P opl seg (vs.take seg.length) && match vs.drop seg.length with
    | v :: vs => mL P opl (pick opl [i]) [v] && calmG v && mDrw P opl fin last more vs
    | [] => false

section
variable {P : Program} {F : Fence} {C : Ctx} {n L nb : Nat} {σ σ' : Nat → Nat} {T T' T1 T2 : Tags} {st st' st1 : St} {a a1 : Act} {w w1 : World} {o : Oper} {vo : VOp} {y : Operand} {x : Opd} {d : Nat}
  {rec : VCode → St → Option (Ex × St)} {env : Env} {next : Act → World → Prop} {Q : Exit → Act → World → Prop} {opl : Array Oper} {ds : List Deferred} {e : Ex}

theorem guard_cases (h : Sim L σ T st a w) (hm : mG P opl o vo = true) (hp : op rec env vo st = some st') :
    (Region.wanted o (yielded opl a.tmps) = true ∧ m1 P o (core vo) = true ∧ op1 rec env (core vo) st = some st') ∨ (Region.wanted o (yielded opl a.tmps) = false ∧ Sim L σ T st' (a.put o.dst undef) w) := by
  by_cases hg : ∃ g want v, vo = .grd g want v
  · obtain ⟨g, want, v, rfl⟩ := hg
    rcases grd_cases h hm hp with g | ⟨g1, g2, _⟩
    · exact .inl g
    · exact .inr ⟨g1, g2⟩
  · have hm' : o.guard.isNone = true ∧ m1 P o vo = true := by
      cases vo <;> first | exact Bool.and_eq_true_iff.1 hm | exact absurd ⟨_, _, _, rfl⟩ hg
    have hp' : op1 rec env vo st = some st' := by
      cases vo <;> first | exact hp | exact absurd ⟨_, _, _, rfl⟩ hg
    have hw : Region.wanted o (yielded opl a.tmps) = true := by
      simp only [Region.wanted, Option.isNone_iff_eq_none.1 hm'.1]
    have hc : core vo = vo := by
      cases vo <;> first | rfl | exact absurd ⟨_, _, _, rfl⟩ hg
    rw [hc]
    exact .inl ⟨hw, hm'.2, hp'⟩

theorem mute_sound (h : Sim L σ T st a w) (hm : m1 P o vo = true) (hq : muteOp vo = true) (hp : plain vo st = some st') : Mute P L σ T st' a w o := by
  simp only [m1, Bool.and_eq_true, beq_iff_eq] at hm
  obtain ⟨hd, hm⟩ := hm
  cases vo <;> simp only [muteOp, Bool.false_eq_true] at hq <;> simp only [mv] at hm
  case mov d x =>
    split at hm <;> try (cases hm; done)
    rename_i ho; exact mute_mov h hd (.inl ho) hm false hp
  case asg d x =>
    split at hm <;> try (cases hm; done)
    rename_i ho; exact mute_mov h hd (.inr ho) hm true hp
  case pick d c x x2 =>
    split at hm <;> try (cases hm; done)
    rename_i ho
    simp only [Bool.and_eq_true] at hm
    exact mute_pick h hd ho hm.1.1 hm.1.2 hm.2 hp
  case bin d b x x2 =>
    split at hm <;> try (cases hm; done)
    rename_i ho
    simp only [Bool.and_eq_true, beq_iff_eq] at hm
    obtain ⟨⟨rfl, h1⟩, h2⟩ := hm
    exact mute_bin h hd ho h1 h2 hp
  case un d b x =>
    split at hm <;> try (cases hm; done)
    rename_i ho
    simp only [Bool.and_eq_true, beq_iff_eq] at hm
    obtain ⟨rfl, h1⟩ := hm
    exact mute_un h hd ho h1 hp
  case conv d k x =>
    split at hm <;> try (cases hm; done)
    rename_i ho
    simp only [Bool.and_eq_true] at hm
    exact mute_conv h hd ho hm.1.1 (isInt_eq hm.1.2) (isIntK_eq hm.2) hp
  case mn d mx x x2 =>
    split at hm <;> try (cases hm; done)
    rename_i b y y2 T0 T1 ho
    simp only [Bool.and_eq_true, beq_iff_eq] at hm
    obtain ⟨⟨rfl, h1⟩, h2⟩ := hm
    exact mute_mn h hd (call2_eq ho) h1 h2 hp
  case fadr d x off =>
    split at hm <;> try (cases hm; done)
    rename_i ho
    simp only [Bool.and_eq_true] at hm
    obtain ⟨h1, h2⟩ := hm
    split at h2 <;> try (cases h2; done)
    rename_i fd hf
    simp only [Bool.and_eq_true, beq_iff_eq] at h2
    obtain ⟨rfl, h3⟩ := h2
    split at h3 <;> try (cases h3; done)
    rename_i k hk
    exact mute_fadr h hd ho h1 hf hk hp
  case aadr d x x2 len sz =>
    split at hm <;> try (cases hm; done)
    rename_i ho
    simp only [Bool.and_eq_true] at hm
    obtain ⟨⟨h1, h2⟩, h3⟩ := hm
    split at h3 <;> try (cases h3; done)
    rename_i l e he
    simp only [Bool.and_eq_true, beq_iff_eq] at h3
    obtain ⟨rfl, h4⟩ := h3
    exact mute_aadr h hd ho h1 h2 he h4 hp

def LooksS (S : World → Prop) (P : Program) (L : Nat) (σ : Nat → Nat) (T : Tags) (st' : St) (a : Act) (w : World) (o : Oper) : Prop :=
  ∃ v T', (∀ w', S w' → (execOp a.eval o).run P w' = .ok (.value v) w') ∧ Sim L σ T' st' (a.put o.dst v) w ∧ Still T T'

theorem ops_mono : ∀ {l : List VOp} {st st' : St}, (∀ v ∈ l, isAct (core v) = false) → ops rec env l st = some st' → Mono st st'
  | [], st, st', _, h => by simp only [ops, Option.some.injEq] at h; subst h; exact Mono.refl _
  | v :: l, st, st', hl, h => by
    simp only [ops] at h
    obtain ⟨st1, h1, h2⟩ := bind_some h
    refine Mono.trans ?_ (ops_mono (fun u hu => hl u (by simp [hu])) h2)
    have hv := hl v (by simp)
    unfold op at h1
    split at h1
    · simp only [core] at hv
      split at h1
      · split at h1
        · simp only [op1, hv] at h1; exact plain_mono h1
        · split at h1
          · rw [← Option.some.inj h1]; exact (Mono.refl _).put _ _
          · rw [← Option.some.inj h1]; exact Mono.refl _
      · split at h1
        · split at h1
          · rw [← Option.some.inj h1]; exact (Mono.refl _).put _ _
          · rw [← Option.some.inj h1]; exact Mono.refl _
        · cases h1
      · cases h1
    · rename_i v' hne
      have hc : core v = v := by
        unfold core; split
        · exact (hne _ _ _ rfl).elim
        · rfl
      rw [hc] at hv
      simp only [op1, hv] at h1; exact plain_mono h1

theorem quiet_wp2 {S : World → Prop} {vs0 : List VOp} {K : Act → Prop} {I : St → Prop} (hI : ∀ v ∈ vs0, ∀ s1 s2, op rec env v s1 = some s2 → I s1 → I s2) (hlook : ∀ T1 st1 st2 a1 o v, I st1 → Still T T1 → isAct (core v) = false → Sim L σ T1 st1 a1 w → m1 P o (core v) = true → v ∈ vs0 → plain (core v) st1 = some st2 → LooksS S P L σ T1 st2 a1 w o) :
    ∀ {l : List Oper} {vs : List VOp} {st : St} {T1 : Tags} {a : Act}, (∀ v ∈ vs, v ∈ vs0 ∧ isAct (core v) = false) → I st → Still T T1 → Sim L σ T1 st a w → mL P opl l vs = true → ops rec env vs st = some st' →
    (∀ a' T', Sim L σ T' st' a' w → Still T T' → a'.defers = a.defers → K a') → wpQuiet P opl S K l a
  | [], [], st, T1, a, _, _, ht, h, _, hp, hK => by
    simp only [ops, Option.some.injEq] at hp; subst hp
    exact hK _ _ h ht rfl
  | [], _ :: _, _, _, _, _, _, _, _, hm, _, _ => by simp [mL] at hm
  | _ :: _, [], _, _, _, _, _, _, _, hm, _, _ => by simp [mL] at hm
  | o :: l, v :: vs, st, T1, a, hvs, hi, ht, h, hm, hp, hK => by
    simp only [mL, Bool.and_eq_true] at hm
    simp only [ops] at hp
    obtain ⟨st1, h1, h2⟩ := bind_some hp
    obtain ⟨hin, hact⟩ := hvs v (by simp)
    unfold wpQuiet
    rcases guard_cases h hm.1 h1 with ⟨g1, g2, g3⟩ | ⟨g1, g2⟩
    · rw [if_pos g1]
      simp only [op1, hact] at g3
      obtain ⟨u, T2, k1, k2, k3⟩ := hlook T1 st st1 a o v hi ht hact h g2 hin g3
      refine ⟨u, fun w' hw' => ?_, quiet_wp2 hI hlook (fun v hv => hvs v (by simp [hv])) (hI v hin _ _ h1 hi) (ht.trans k3) k2 hm.2 h2 fun a' T' q1 q2 q3 => hK a' T' q1 q2 (q3.trans put_defers)⟩
      unfold Oper.quietAt
      rw [k1 w' hw']
      exact ⟨rfl, rfl⟩
    · rw [if_neg (by rw [g1]; simp)]
      exact quiet_wp2 hI hlook (fun v hv => hvs v (by simp [hv])) (hI v hin _ _ h1 hi) ht g2 hm.2 h2 fun a' T' q1 q2 q3 => hK a' T' q1 q2 (q3.trans put_defers)

theorem quiet_wp {S : World → Prop} {vs0 : List VOp} {K : Act → Prop} (hlook : ∀ T1 st1 st2 a1 o v, Still T T1 → isAct (core v) = false → Sim L σ T1 st1 a1 w → m1 P o (core v) = true → v ∈ vs0 → plain (core v) st1 = some st2 → LooksS S P L σ T1 st2 a1 w o) :
    ∀ {l : List Oper} {vs : List VOp} {st : St} {T1 : Tags} {a : Act}, (∀ v ∈ vs, v ∈ vs0 ∧ isAct (core v) = false) → Still T T1 → Sim L σ T1 st a w → mL P opl l vs = true → ops rec env vs st = some st' →
    (∀ a' T', Sim L σ T' st' a' w → Still T T' → a'.defers = a.defers → K a') → wpQuiet P opl S K l a := fun hvs ht h hm hp hK =>
  quiet_wp2 (I := fun _ => True) (fun _ _ _ _ _ _ => trivial) (fun T1 st1 st2 a1 o v _ => hlook T1 st1 st2 a1 o v) hvs trivial ht h hm hp hK

theorem looks_whole (h : Sim L σ T st a w) (hm : m1 P o vo = true) (hp : plain vo st = some st') : LooksS (Whole w) P L σ T st' a w o := by
  obtain ⟨v, T', h1, h2, h3⟩ := plain_sound h hm hp
  exact ⟨v, T', fun w' hw => h1 w' hw.sees, h2, h3⟩
theorem looks_mute (h : Sim L σ T st a w) (hm : m1 P o vo = true) (hq : muteOp vo = true) (hp : plain vo st = some st') : LooksS (fun _ => True) P L σ T st' a w o := by
  obtain ⟨v, T', h1, h2, h3⟩ := mute_sound h hm hq hp
  exact ⟨v, T', fun w' _ => h1 w', h2, h3⟩

theorem ops_append {l1 l2 : List VOp} {st st' : St} (h : ops rec env (l1 ++ l2) st = some st') : ∃ st1, ops rec env l1 st = some st1 ∧ ops rec env l2 st1 = some st' := by
  induction l1 generalizing st with
  | nil => exact ⟨st, rfl, h⟩
  | cons v l ih =>
    simp only [List.cons_append, ops] at h ⊢
    obtain ⟨st1, h1, h2⟩ := bind_some h
    obtain ⟨st2, h3, h4⟩ := ih h2
    exact ⟨st2, by rw [h1]; exact h3, h4⟩
end
end Go.Proofs.Ytpdfhckdmblicaa

namespace Go.Proofs.Ytpdfhckdmblicaa
open Go.RowKit

section
variable {P : Program} {F : Fence} {C : Ctx} {n L nb : Nat} {σ σ' : Nat → Nat} {T T' T1 T2 : Tags} {st st' st1 : St} {a a1 : Act} {w w1 : World} {o : Oper} {vo : VOp} {y : Operand} {x : Opd} {d : Nat}
  {rec : VCode → St → Option (Ex × St)} {env : Env} {next : Act → World → Prop} {Q : Act → World → Prop} {opl : Array Oper} {ds : List Deferred} {e : Ex}

theorem Sim.freezeAts : ∀ (fz : List Opd) {st : St} {T : Tags}, Sim L σ T st a w → ∃ T1, Sim L σ T1 (fz.foldl St.freezeAt st) a w ∧ Still T T1
  | [], st, T, h => ⟨T, h, Still.refl T⟩
  | x :: fz, st, T, h => by
    have : ∃ T1, Sim L σ T1 (st.freezeAt x) a w ∧ Still T T1 := by
      unfold St.freezeAt
      split
      · rename_i p _ _
        refine ⟨_, h.freezeBox p, ?_⟩
        split
        · exact Still.frozB T p
        · exact Still.refl T
      · exact ⟨T, h, Still.refl T⟩
    obtain ⟨T1, h1, h2⟩ := this
    obtain ⟨T2, h3, h4⟩ := Sim.freezeAts fz h1
    exact ⟨T2, h3, h2.trans h4⟩
theorem seg_wp {K : Act → Prop} {seg : List Nat} {vs : List VOp} (h : Sim L σ T st a w) (hm : quietOk P opl seg vs = true) (hp : ops rec env vs st = some st') (hK : ∀ a' T', Sim L σ T' st' a' w → Still T T' → a'.defers = a.defers → Mono st st' → K a') : wpQuiet P opl (Whole w) K (pick opl seg) a := by
  simp only [quietOk, Bool.and_eq_true] at hm
  have hv : ∀ v ∈ vs, v ∈ vs ∧ isAct (core v) = false := fun v hv => ⟨hv, by simpa using List.all_eq_true.1 hm.2 v hv⟩
  have hmono := ops_mono (rec := rec) (env := env) (fun v h => (hv v h).2) hp
  exact quiet_wp (vs0 := vs) (fun T1 st1 st2 a1 o v _ _ hs hm _ hp => looks_whole hs hm hp) hv (Still.refl T) h hm.1 hp fun a' T' g1 g2 g3 => hK a' T' g1 g2 g3 hmono

theorem plain_loose {v : VOp} {s1 s2 : St} (hv : looseOp v = true) (h : plain v s1 = some s2) : s2.boxes = s1.boxes := by
  cases v <;> simp only [looseOp, muteOp, Bool.or_false, Bool.or_true, Bool.false_eq_true] at hv <;> simp only [plain] at h
  case mov | asg =>
    split at h
    · split at h <;> (cases h; rfl)
    · split at h
      · cases h; rfl
      · cases h
    · cases h; rfl
  case pick =>
    obtain ⟨b, _, h⟩ := bind_some h
    cases b <;> simp only [reduceCtorEq] at h
    obtain ⟨_, _, h⟩ := bind_some h
    cases h; rfl
  case bin =>
    obtain ⟨_, _, h⟩ := bind_some h
    obtain ⟨_, _, h⟩ := bind_some h
    obtain ⟨_, _, h⟩ := bind_some h
    cases h; rfl
  case un =>
    obtain ⟨_, _, h⟩ := bind_some h
    obtain ⟨_, _, h⟩ := bind_some h
    cases h; rfl
  case conv =>
    obtain ⟨b, _, h⟩ := bind_some h
    cases b <;> simp only [reduceCtorEq] at h
    cases h; rfl
  case fadr =>
    split at h
    · cases h; rfl
    · split at h
      · cases h; rfl
      · cases h
    · cases h; rfl
    · cases h
  case aadr =>
    obtain ⟨_, _, h⟩ := bind_some h
    obtain ⟨_, _, h⟩ := bind_some h
    split at h
    · cases h; rfl
    · split at h
      · cases h; rfl
      · cases h
    · cases h; rfl
    · cases h
  case mn =>
    obtain ⟨b, _, h⟩ := bind_some h
    cases b <;> simp only [reduceCtorEq] at h
    obtain ⟨b, _, h⟩ := bind_some h
    cases b <;> simp only [reduceCtorEq] at h
    split at h
    · cases h; rfl
    · cases h
  case ldz =>
    split at h
    · split at h
      · split at h
        · obtain ⟨_, _, h⟩ := Option.map_eq_some_iff.1 h
          subst h; rfl
        · cases h
      · cases h
    · cases h
theorem loose_act {v : VOp} (hv : looseOp v = true) : isAct v = false := by
  cases v <;> first | rfl | (simp [looseOp, muteOp] at hv)
theorem op_loose {v : VOp} {s1 s2 : St} (hv : looseOp (core v) = true) (h : op rec env v s1 = some s2) : s2.boxes = s1.boxes := by
  unfold op at h
  split at h
  · simp only [core] at hv
    split at h
    · split at h
      · simp only [op1, loose_act hv] at h; exact plain_loose hv h
      · split at h
        · rw [← Option.some.inj h]; rfl
        · rw [← Option.some.inj h]
    · split at h
      · split at h
        · rw [← Option.some.inj h]; rfl
        · rw [← Option.some.inj h]
      · cases h
    · cases h
  · rename_i v' hne
    have hc : core v = v := by
      unfold core; split
      · exact (hne _ _ _ rfl).elim
      · rfl
    rw [hc] at hv
    simp only [op1, loose_act hv] at h; exact plain_loose hv h
def SeesRo (T : Tags) (w w' : World) : Prop := w.heap.size ≤ w'.heap.size ∧ ∀ b, b < w.heap.size → T b = .ro → w'.heap[b]? = w.heap[b]?
theorem Stays.seesRo (h : Stays T T' w w1) : SeesRo T w w1 := ⟨h.size, h.same⟩
theorem segu_wp {K : Act → Prop} {l : List Oper} {vs : List VOp} (h : Sim L σ T st a w) (hm : mL P opl l vs = true) (hq : (vs.all fun v => looseOp (core v)) = true) (hp : ops rec env vs st = some st') (hK : ∀ a' T', Sim L σ T' st' a' w → Still T T' → a'.defers = a.defers → Mono st st' → K a') : wpQuiet P opl (SeesRo T w) K l a := by
  have hv : ∀ v ∈ vs, v ∈ vs ∧ isAct (core v) = false := fun v hv => ⟨hv, loose_act (List.all_eq_true.1 hq v hv)⟩
  have hmono := ops_mono (rec := rec) (env := env) (fun v h => (hv v h).2) hp
  refine quiet_wp2 (vs0 := vs) (I := fun s => s.boxes = st.boxes) (fun v hv s1 s2 ho hi => (op_loose (List.all_eq_true.1 hq v hv) ho).trans hi) (fun T1 st1 st2 a1 o v hi _ _ hs hm hin hp => ?_) hv rfl (Still.refl T) h hm hp fun a' T' g1 g2 g3 => hK a' T' g1 g2 g3 hmono
  have hl := List.all_eq_true.1 hq v hin
  simp only [looseOp, Bool.or_eq_true] at hl
  rcases hl with hl | hl
  · obtain ⟨u, T', k1, k2, k3⟩ := looks_mute hs hm hl hp
    exact ⟨u, T', fun w' _ => k1 w' trivial, k2, k3⟩
  · generalize core v = u at hm hp hl
    cases u <;> simp only [Bool.false_eq_true] at hl
    rename_i d n x
    simp only [m1, Bool.and_eq_true, beq_iff_eq, mv] at hm
    obtain ⟨hd, hm⟩ := hm
    split at hm <;> try (cases hm; done)
    rename_i ho
    simp only [Bool.and_eq_true, beq_iff_eq] at hm
    obtain ⟨p, bx, u, k1, k2, k3, k4, k5, k6⟩ := ldz_core hs hd ho hm.1 hm.2 hp
    rw [hi] at k1
    obtain ⟨_, _, _, _, q3, _⟩ := h.boxes p bx k1
    rw [if_pos k2] at q3
    exact ⟨u, T1, fun w' hw' => k3 w' (hw'.2 _ k5 q3), k4, Still.refl _⟩

theorem last_wp {S : World → Prop} {K : Act → Prop} {l : List Oper} {vs : List VOp} (h : Sim L σ T st a w) (hm : mL P opl l vs = true) (hq : (vs.all fun v => muteOp (core v)) = true) (hp : ops rec env vs st = some st') (hK : ∀ a' T', Sim L σ T' st' a' w → Still T T' → a'.defers = a.defers → Mono st st' → K a') : wpQuiet P opl S K l a := by
  have hv : ∀ v ∈ vs, v ∈ vs ∧ isAct (core v) = false := fun v hv => ⟨hv, loose_act (by simp only [looseOp, List.all_eq_true.1 hq v hv, Bool.true_or])⟩
  have hmono := ops_mono (rec := rec) (env := env) (fun v h => (hv v h).2) hp
  refine quiet_wp (vs0 := vs) (fun T1 st1 st2 a1 o v _ _ hs hm hin hp => ?_) hv (Still.refl T) h hm hp fun a' T' g1 g2 g3 => hK a' T' g1 g2 g3 hmono
  obtain ⟨u, T', k1, k2, k3⟩ := looks_mute hs hm (List.all_eq_true.1 hq v hin) hp
  exact ⟨u, T', fun w' _ => k1 w' trivial, k2, k3⟩

theorem act_wp (hW : Wide F) (hC : C.Ok P L) (hcalls : CallsOk P rec env) (h : Sim L σ T st a w) (hJ : C.J st.ys.length T w) (hst : st.stop = C.stop) {i : Nat} (hm : mL P opl (pick opl [i]) [vo] = true) (hp : op rec env vo st = some st') (hX : st'.ys <+: C.X) {R : Act → World → Prop}
    (hn : ∀ a' w', After C L st.boxes.length σ T w st' a.defers a' w' → (calmG vo = true → Whole w w') → R a' w') : wpListIn F n P opl (fun e a'' w'' => e = .normal ∧ R a'' w'') (pick opl [i]) a w := by
  cases ho : opl[i]? with
  | none => simp [pick, ho, mL] at hm
  | some o =>
    simp only [pick, List.filterMap_cons, ho, List.filterMap_nil, mL, Bool.and_eq_true] at hm ⊢
    simp only [wpListIn]
    exact op_wp hW hC hcalls h hJ hst hm.1 hp hX fun a' w' g1 g2 => ⟨trivial, hn a' w' g1 g2⟩

theorem ops_one {v : VOp} {vs : List VOp} (h : ops rec env (v :: vs) st = some st') : ∃ st1, op rec env v st = some st1 ∧ ops rec env vs st1 = some st' := bind_some h

theorem tail_wp {S2 : World → Prop} (hW : Wide F) (hC : C.Ok P L) (hcalls : CallsOk P rec env) (hX : st'.ys <+: C.X) {last : List Nat} : ∀ {tl : List (List Nat × Nat)} {vs : List VOp} {st : St} {σ : Nat → Nat} {T : Tags} {a : Act} {w : World}, Sim L σ T st a w → (∀ T' w', Stays T T' w w' → S2 w') → C.J st.ys.length T w → st.stop = C.stop → mTail P opl last tl vs = true → ops rec env vs st = some st' →
    (∀ a' w', After C L st.boxes.length σ T w st' a.defers a' w' → Q a' w') → wpTail F n P opl S2 Q last tl a w
  | [], vs, st, σ, T, a, w, h, h2S, hJ, hst, hm, hp, hn => by
    unfold wpTail
    simp only [mTail, Bool.and_eq_true] at hm
    refine last_wp h hm.1 hm.2 hp fun a3 T3 q1 q2 q3 q4 => hn _ _ ?_
    rw [← q3]
    exact After.of_chg hC q1 (by rw [q4.2.1]; exact hJ) (q2.chg w) fun _ _ => rfl
  | (seg, i) :: more, vs, st, σ, T, a, w, h, h2S, hJ, hst, hm, hp, hn => by
    unfold wpTail
    simp only [mTail, Bool.and_eq_true] at hm
    obtain ⟨⟨hm0, hm1⟩, hm2⟩ := hm
    split at hm2
    case h_2 => cases hm2
    rename_i v vs' hvs
    simp only [Bool.and_eq_true] at hm2
    obtain ⟨hm2, hm4⟩ := hm2
    rw [← List.take_append_drop seg.length vs, hvs] at hp
    obtain ⟨st1, p1, p2⟩ := ops_append hp
    obtain ⟨st2, p2, p3⟩ := ops_one p2
    have gl := ops_grow (rec := rec) (env := env) p3
    refine last_wp h hm0 hm1 p1 fun a1 T1 g1 g2 g3 g4 => ?_
    have hJ1 : C.J st1.ys.length T1 w := by rw [g4.2.1]; exact hC.keep _ _ _ _ _ (g2.chg w) hJ
    refine act_wp hW hC hcalls g1 hJ1 (g4.2.2.trans hst) hm2 p2 (gl.2.1.trans hX) ?_
    rintro a2 w2 ⟨σ2, T2, ms, k1, k2, k3, k4, k5, k6⟩ _
    have hs4 := ((g2.chg w).stays).trans k4
    refine ⟨h2S _ _ hs4, tail_wp hW hC hcalls hX k1 (fun T' w' hw' => h2S T' w' (hs4.trans hw')) k2 (((op_grow p2).2.2.trans g4.2.2).trans hst) hm4 p3 fun a' w' hA => hn _ _ ?_⟩
    exact After.trans (((g2.chg w).stays).trans k4) (fun k hk => k3 k (Nat.lt_of_lt_of_le hk g4.1)) (by rw [k5, g3]) k6 (Nat.le_trans g4.1 (op_grow p2).1) hA

theorem drw_wp (hW : Wide F) (hC : C.Ok P L) (hcalls : CallsOk P rec env) (hX : st'.ys <+: C.X) {fin : Fin1} {last : List Nat} : ∀ {acts : List (List Nat × Nat)} {vs : List VOp} {st : St} {σ : Nat → Nat} {T : Tags} {a : Act} {w : World}, Sim L σ T st a w → C.J st.ys.length T w → st.stop = C.stop → mDrw P opl fin last acts vs = true → ops rec env vs st = some st' →
    (∀ a' w', After C L st.boxes.length σ T w st' a.defers a' w' → Q a' w') → wpDrw F n P opl Q (Whole w) acts fin last a w
  | [], vs, st, σ, T, a, w, h, hJ, hst, hm, hp, hn => by
    cases fin with
    | none =>
      unfold wpDrw
      simp only [mDrw] at hm
      refine seg_wp h hm hp fun a' T' g1 g2 g3 g4 => hn _ _ ?_
      rw [← g3]
      exact After.of_chg hC g1 (by rw [g4.2.1]; exact hJ) (g2.chg w) fun _ _ => rfl
    | some p =>
      obtain ⟨segf, segu, f, tl⟩ := p
      unfold wpDrw
      simp only [mDrw, Bool.and_eq_true] at hm
      obtain ⟨⟨⟨hm1, hmu⟩, hmq⟩, hm2⟩ := hm
      split at hm2
      case h_2 => cases hm2
      rename_i v vs' hvs
      simp only [Bool.and_eq_true] at hm2
      obtain ⟨hm2, hm3⟩ := hm2
      rw [← List.take_append_drop segf.length vs, ← List.take_append_drop segu.length (vs.drop segf.length), hvs] at hp
      obtain ⟨st1, p1, p2⟩ := ops_append hp
      obtain ⟨st1', pu, p2⟩ := ops_append p2
      obtain ⟨st2, p2, p3⟩ := ops_one p2
      have gl := ops_grow (rec := rec) (env := env) p3
      refine seg_wp h hm1 p1 fun a0 T0 f1 f2 f3 f4 => ⟨SeesRo T0 w, (Stays.refl T0 w).seesRo, ?_⟩
      refine segu_wp f1 hmu hmq pu fun a1 T1 g1 g2' g3 g4' => ?_
      have g2 := f2.trans g2'
      have g4 := f4.trans g4'
      have hJ1 : C.J st1'.ys.length T1 w := by rw [g4.2.1]; exact hC.keep _ _ _ _ _ (g2.chg w) hJ
      refine act_wp hW hC hcalls g1 hJ1 (g4.2.2.trans hst) hm2 p2 (gl.2.1.trans hX) ?_
      rintro a2 w2 ⟨σ2, T2, ms, k1, k2, k3, k4, k5, k6⟩ _
      have hs4 := ((g2'.chg w).stays).trans k4
      refine ⟨hs4.seesRo, tail_wp hW hC hcalls hX k1 (fun T' w' hw' => (hs4.trans hw').seesRo) k2 (((op_grow p2).2.2.trans g4.2.2).trans hst) hm3 p3 fun a' w' hA => hn _ _ ?_⟩
      exact After.trans (((g2.chg w).stays).trans k4) (fun k hk => k3 k (Nat.lt_of_lt_of_le hk g4.1)) (by rw [k5, g3, f3]) k6 (Nat.le_trans g4.1 (op_grow p2).1) hA
  | (seg, i) :: more, vs, st, σ, T, a, w, h, hJ, hst, hm, hp, hn => by
    unfold wpDrw
    simp only [mDrw, Bool.and_eq_true] at hm
    obtain ⟨hm1, hm2⟩ := hm
    split at hm2
    case h_2 => cases hm2
    rename_i v vs' hvs
    simp only [Bool.and_eq_true] at hm2
    obtain ⟨⟨hm2, hm3⟩, hm4⟩ := hm2
    rw [← List.take_append_drop seg.length vs, hvs] at hp
    obtain ⟨st1, p1, p2⟩ := ops_append hp
    obtain ⟨st2, p2, p3⟩ := ops_one p2
    have gl := ops_grow (rec := rec) (env := env) p3
    refine seg_wp h hm1 p1 fun a1 T1 g1 g2 g3 g4 => ?_
    have hJ1 : C.J st1.ys.length T1 w := by rw [g4.2.1]; exact hC.keep _ _ _ _ _ (g2.chg w) hJ
    refine act_wp hW hC hcalls g1 hJ1 (g4.2.2.trans hst) hm2 p2 (gl.2.1.trans hX) ?_
    rintro a2 w2 ⟨σ2, T2, ms, k1, k2, k3, k4, k5, k6⟩ hwh
    have hwh := hwh hm3
    refine ⟨Whole w2, fun w' hw' => ⟨Nat.le_trans hwh.1 hw'.1, fun b hb => (hw'.2 b (Nat.lt_of_lt_of_le hb hwh.1)).trans (hwh.2 b hb)⟩, Whole.refl w2, ?_⟩
    refine drw_wp hW hC hcalls hX k1 k2 (((op_grow p2).2.2.trans g4.2.2).trans hst) hm4 p3 fun a' w' hA => hn _ _ ?_
    exact After.trans (((g2.chg w).stays).trans k4) (fun k hk => k3 k (Nat.lt_of_lt_of_le hk g4.1)) (by rw [k5, g3]) k6 (Nat.le_trans g4.1 (op_grow p2).1) hA

theorem sees_drew (T : Tags) (w : World) : Sees T w w.drew := ⟨Nat.le_refl _, fun _ _ _ => rfl⟩
theorem chg_drew (T : Tags) (w : World) : Chg T T w w.drew := ⟨Nat.le_refl _, rfl, rfl, rfl, fun _ _ _ => rfl, fun _ h => h, fun _ _ h => h⟩

theorem region_drw_wp {id : Nat} {Q : Exit → Act → World → Prop} (hW : Wide F) (hC : C.Ok P L) (hcalls : CallsOk P rec env) (h : Sim L σ T st a w) (hJ : C.J st.ys.length T w) (hst : st.stop = C.stop) (hX : st'.ys <+: C.X) {acts : List (List Nat × Nat)} {fin : Fin1} {last : List Nat} {vs : List VOp}
    (hmo : P.follows .mixedOrders = true) (hnd : noDefer opl = true) (hok : drwOk opl acts fin last = true) (hm : mDrw P opl fin last acts vs = true) (hp : ops rec env vs st = some st')
    (hn : ∀ a' w', After C L st.boxes.length σ T w st' a.defers a' w' → Q .normal a' w') : (Code.region id opl true).wpIn F n P Q a w := by
  refine wpIn_region_drw (Whole w.drew) hW.fn hmo hnd hok (Whole.refl _) ?_
  refine drw_wp hW hC hcalls hX (h.sees (sees_drew T w)) (hC.keep _ _ _ _ _ (chg_drew T w) hJ) hst hm hp fun a' w' hA => hn _ _ ?_
  exact After.trans (ms := []) (chg_drew T w).stays (fun _ _ => rfl) rfl Marks.nil (Nat.le_refl _) hA
end
end Go.Proofs.Ytpdfhckdmblicaa

namespace Go.Proofs.Ytpdfhckdmblicaa
open Go.RowKit

def mC (P : Program) : Code → VCode → Bool
  | c, .clean _ _ v => mC P c v
  | .skip, .skip => true
  | .label _, .skip => true
  | .region _ ops false, .ops l => mL P ops ops.toList l
  | .region _ ops true, .drw _ acts fin last l => P.follows .mixedOrders && noDefer ops && drwOk ops acts fin last && mDrw P ops fin last acts l
  | .seq a b, .seq c d => mC P a c && mC P b d
  | .cond x a b, .cond y c d => mOpd x y && mC P a c && mC P b d
  | .block i a, .block j c => i == j && mC P a c
  | .loop a, .loop _ c => mC P a c
  | .rangeFunc g ps asn bd, .rng g' ps' asn' bd' => mOpd g g' && ps.toList == ps' && mC P asn asn' && mC P bd bd'
  | .exit i, .exit j => i == j
  | .ret, .ret => true
  | _, _ => false

def toX : Ex → Exit
  | .normal => .normal
  | .exit i => .exit i
  | .ret => .ret
def Post (C : Ctx) (L nb : Nat) (σ : Nat → Nat) (T : Tags) (w : World) (e : Ex) (st' : St) (ds : List Deferred) : Exit → Act → World → Prop := fun x a' w' => x = toX e ∧ After C L nb σ T w st' ds a' w'

def Ctx.Rec (C : Ctx) (F : Fence) : Prop := ∀ l, F = Fence.wide.inRound l → ∀ k T w, C.J k T w → ∃ r, w.heap[l]? = some (.loop r)
theorem Ctx.rec_wide (C : Ctx) : C.Rec Fence.wide := fun l e => by
  have : Fence.wide.round = (Fence.wide.inRound l).round := by rw [← e]
  cases this
structure RecOk (P : Program) (rec : VCode → St → Option (Ex × St)) : Prop where
  grow : ∀ c vc st e st', mC P c vc = true → rec vc st = some (e, st') → Grow st.boxes.length st st'
  growR : ∀ c keep nb vc st e st', mC P c vc = true → rec (.round keep nb vc) st = some (e, st') → Grow nb st st'
  wp : ∀ {F : Fence} {L : Nat} {C : Ctx} {n : Nat}, Wide F → C.Rec F → C.Ok P L → ∀ c vc st e st', mC P c vc = true → rec vc st = some (e, st') → st.stop = C.stop → st'.ys <+: C.X → ∀ σ T a w, Sim L σ T st a w → C.J st.ys.length T w → c.wpIn F n P (Post C L st.boxes.length σ T w e st' a.defers) a w
  wpR : ∀ {F : Fence} {L : Nat} {C : Ctx} {n : Nat}, Wide F → C.Rec F → C.Ok P L → ∀ c keep nb vc st e st', mC P c vc = true → rec (.round keep nb vc) st = some (e, st') → st.stop = C.stop → st'.ys <+: C.X → ∀ σ T a w, Sim L σ T st a w → C.J st.ys.length T w → wpLoop F n P c (Post C L nb σ T w e st' a.defers) a w

section
variable {P : Program} {F : Fence} {C : Ctx} {n L nb : Nat} {σ σ' : Nat → Nat} {T T' T1 T2 : Tags} {st st' st1 : St} {a a1 : Act} {w w1 : World} {o : Oper} {vo : VOp} {y : Operand} {x : Opd} {d : Nat}
  {rec : VCode → St → Option (Ex × St)} {env : Env} {next : Act → World → Prop} {Q : Exit → Act → World → Prop} {opl : Array Oper} {ds : List Deferred} {e : Ex}

theorem Sim.head (h : Sim L σ T st a w) {keep : List Nat} (hh : st.head keep nb = some st') : Sim L σ T st' a w ∧ st'.boxes.length = nb ∧ st'.ys = st.ys ∧ st'.stop = st.stop ∧ nb ≤ st.boxes.length := by
  unfold St.head at hh
  simp only at hh
  split at hh
  case isFalse => cases hh
  rename_i hc
  have hh := Option.some.inj hh
  simp only [Bool.and_eq_true, decide_eq_true_eq] at hc
  obtain ⟨hlow, hnb⟩ := hc
  subst hh
  have hget : ∀ (t : Nat) av, ((st.slots.zipIdx.map fun (v, i) => if keep.contains i then v else .any))[t]? = some av → av = .any ∨ (st.slots[t]? = some av ∧ av.low nb = true) := fun t av hav => by
    have hm := List.all_eq_true.1 hlow av (List.mem_of_getElem? hav)
    simp only [List.getElem?_map, List.getElem?_zipIdx] at hav
    cases e : st.slots[t]? with
    | none => rw [e] at hav; cases hav
    | some v =>
      rw [e] at hav
      simp only [Option.map_some, Option.some.injEq] at hav
      split at hav
      · subst hav; exact .inr ⟨rfl, hm⟩
      · exact .inl hav.symm
  have hlen : ({ st with slots := st.slots.zipIdx.map fun (v, i) => if keep.contains i then v else .any, boxes := st.boxes.take nb } : St).boxes.length = nb := by simp; omega
  have hrow : ∀ r sz es, ({ st with slots := st.slots.zipIdx.map fun (v, i) => if keep.contains i then v else .any, boxes := st.boxes.take nb } : St).row r = some (sz, es) → st.row r = some (sz, es) := fun r sz es hr => by
    cases r with
    | slot t =>
      have h1 := slot_of_row hr
      rcases hget t _ h1 with e | ⟨e, _⟩
      · cases e
      · simp [St.row, e]
    | cell o j =>
      obtain ⟨bx, h1, h2, h3⟩ := cell_of_row' hr
      simp only [List.getElem?_take] at h1
      split at h1
      · simp [St.row, h1, h2, h3]
      · cases h1
    | part t i => simp [St.row] at hr
  refine ⟨⟨by simpa using h.size, fun t av v ht hv => ?_, fun o bx ho => ?_, h.fresh⟩, hlen, rfl, rfl, hnb⟩
  · rcases hget t av ht with e | ⟨e, hl⟩
    · subst e; trivial
    · have hA := h.slots t av v e hv
      cases av with
      | pv x => exact hA
      | row sz es => exact hA
      | ref r off len =>
        refine ⟨?_, fun sz es hr => hA.2 sz es (hrow r sz es hr)⟩
        cases r <;> simp only [Root.low] <;> simpa [AV.low, hlen, hnb] using hl
      | pbox o j => exact ⟨by rw [hlen]; simpa [AV.low] using hl, hA.2⟩
      | pel r i j =>
        refine ⟨?_, fun sz es hr => hA.2 sz es (hrow r sz es hr)⟩
        cases r <;> simp only [Root.low] <;> simpa [AV.low, hlen, hnb] using hl
      | fn f caps =>
        obtain ⟨arr, e1, e2, e3⟩ := hA
        refine ⟨arr, e1, e2, fun k x u hx hu => ?_⟩
        have hcx := e3 k x u hx hu
        have hlx : _ := List.all_eq_true.1 (by simpa [AV.low] using hl) x (List.mem_of_getElem? hx)
        cases x with
        | pv p => exact hcx
        | pbox o j => exact ⟨by rw [hlen]; simpa using hlx, hcx.2⟩
        | _ => exact hcx
      | tup l => simp [AV.low] at hl
      | yld => exact hA
      | any => trivial
  · simp only [List.getElem?_take] at ho
    split at ho
    · exact h.boxes o bx ho
    · cases ho
end
end Go.Proofs.Ytpdfhckdmblicaa

namespace Go.Proofs.Ytpdfhckdmblicaa
open Go.RowKit
set_option linter.all false

def dum (K : Nat) : Owner := .row (.part (K + 1) 0)

section
variable {P : Program} {F : Fence} {C : Ctx} {n L nb : Nat} {σ σ' : Nat → Nat} {T T' T1 T2 : Tags} {st st' st1 : St} {a a1 : Act} {w w' w1 : World} {o : Oper} {vo : VOp} {y : Operand} {x : Opd} {d : Nat}
  {rec : VCode → St → Option (Ex × St)} {env : Env} {next : Act → World → Prop} {Q : Exit → Act → World → Prop} {opl : Array Oper} {ds : List Deferred} {e : Ex}

theorem Sim.retagD (h : Sim L σ T st a w) (hs : ∀ b, b < w.heap.size → T b ≠ .other → T b ≠ dum st.slots.length → T2 b = T b) (hf : ∀ b, w.heap.size ≤ b → T2 b = .other) : Sim L σ T2 st a w := by
  have hq : ∀ b q, q ≠ .other → q ≠ dum st.slots.length → T b = q → T2 b = q := fun b q h1 h2 e => by
    have hb : b < w.heap.size := by
      rcases Nat.lt_or_ge b w.heap.size with g | g
      · exact g
      · exact absurd ((h.fresh b g).symm.trans e).symm h1
    rw [hs b hb (by rw [e]; exact h1) (by rw [e]; exact h2), e]
  have hw : ∀ b, T b = .ro → b < w.heap.size → T2 b = .ro ∧ w.heap[b]? = w.heap[b]? := fun b e _ => ⟨hq b _ (by simp) (by simp [dum]) e, rfl⟩
  refine ⟨h.size, fun t av v ht hv => ?_, fun p bx ho => ?_, hf⟩
  · have htl : t < st.slots.length := (List.getElem?_eq_some_iff.1 ht).1
    exact (h.slots t av v ht hv).keep hw (fun _ _ _ b e _ => ⟨hq b _ (by simp) (by simp [dum]) e, rfl⟩) (fun _ _ i _ b e _ => ⟨hq b _ (by simp) (by simp [dum]; omega) e, rfl⟩) (fun _ _ _ s l e => ⟨⟨l, e⟩, rfl⟩) (Nat.le_refl _) (fun _ _ => rfl)
  · have hb := h.boxes p bx ho
    have hlt := hb.lt
    have hT' : T2 (σ p) = T (σ p) := by
      obtain ⟨_, _, _, _, h3, _⟩ := hb
      exact hs _ hlt (by rw [h3]; split <;> simp) (by rw [h3]; split <;> simp [dum])
    exact hb.frame ⟨hT', rfl⟩ (fun j b e _ => ⟨hq b _ (by simp) (by simp [dum]) e, rfl⟩) hw
def undum (T : Tags) (K : Nat) : Tags := fun b => if T b = dum K then .other else T b
theorem undum_dum {K b : Nat} (h : T b = dum K) : undum T K b = .other := if_pos h
theorem undum_not {K b : Nat} (h : T b ≠ dum K) : undum T K b = T b := if_neg h
theorem Sim.frame2 (h : Sim L σ T st a w) (hsz : w.heap.size ≤ w'.heap.size) (hs : ∀ b, b < w.heap.size → T b ≠ .other → T b ≠ dum st.slots.length → T2 b = T b ∧ w'.heap[b]? = w.heap[b]?) (hf : ∀ b, w'.heap.size ≤ b → T2 b = .other) : Sim L σ T2 st a w' := by
  have h3 : Sim L σ (undum T st.slots.length) st a w := h.retagD (fun b _ h1 h2 => undum_not h2) (fun b hb => by rw [undum_not (by rw [h.fresh b hb]; simp [dum]), h.fresh b hb])
  have h4 := h3.sees (w' := w') ⟨hsz, fun b hb hl => by
    by_cases e : T b = dum st.slots.length
    · rw [undum_dum e] at hb; exact absurd rfl hb
    · rw [undum_not e] at hb; exact (hs b hl hb e).2⟩
  refine h4.more (fun b hb => ?_) hf
  by_cases e : T b = dum st.slots.length
  · rw [undum_dum e] at hb; exact absurd rfl hb
  · rw [undum_not e] at hb ⊢
    have hl : b < w.heap.size := by
      rcases Nat.lt_or_ge b w.heap.size with g | g
      · exact g
      · exact absurd (h.fresh b g) hb
    exact (hs b hl hb e).1

def FRep (L nb : Nat) (σ : Nat → Nat) (T : Tags) (w : World) : AV → Value → Prop
  | .pv x, v => PRep (fun b => T b = .ro) w x v
  | .pbox o j, v => o < nb ∧ v = .pointer (some ⟨σ o, j, none⟩)
  | .fn f caps, v => ∃ arr : Array Value, v = .func (.func f) #[] arr ∧ arr.size = caps.length ∧ ∀ (k : Nat) x u, caps[k]? = some x → arr[k]? = some u → CapRep nb σ T w x u
  | .yld, v => v = .func (.yield L) #[] #[]
  | .any, _ => True
  | _, _ => False
def FSlots (L nb : Nat) (σ : Nat → Nat) (T : Tags) (w : World) (slots : List AV) (tmps : Array Value) : Prop :=
  tmps.size = slots.length ∧ ∀ (t : Nat) av v, slots[t]? = some av → tmps[t]? = some v → FRep L nb σ T w av v
theorem FRep.keep {av : AV} {v : Value} (h : FRep L nb σ T w av v) (hw : ∀ b, T b = .ro → b < w.heap.size → T' b = .ro ∧ w'.heap[b]? = w.heap[b]?) (hσ : ∀ o, o < nb → σ' o = σ o) : FRep L nb σ' T' w' av v := by
  cases av <;> simp only [FRep] at h ⊢
  case pv x => exact PRep.frame hw h
  case pbox o j => exact ⟨h.1, by rw [hσ o h.1]; exact h.2⟩
  case fn f caps =>
    obtain ⟨arr, e1, e2, e3⟩ := h
    refine ⟨arr, e1, e2, fun k x u hx hu => ?_⟩
    have := e3 k x u hx hu
    cases x <;> simp only [CapRep] at this ⊢
    case pv p => exact PRep.frame hw this
    case pbox o j => exact ⟨this.1, by rw [hσ o this.1]; exact this.2⟩
  case yld => exact h
theorem FSlots.keep {slots : List AV} {tmps : Array Value} (h : FSlots L nb σ T w slots tmps) (hw : ∀ b, T b = .ro → b < w.heap.size → T' b = .ro ∧ w'.heap[b]? = w.heap[b]?) (hσ : ∀ o, o < nb → σ' o = σ o) : FSlots L nb σ' T' w' slots tmps :=
  ⟨h.1, fun t av v ht hv => (h.2 t av v ht hv).keep hw hσ⟩
theorem FRep.arep {av : AV} {v : Value} {t : Nat} (h : FRep L nb σ T w av v) (hnb : nb ≤ st.boxes.length) : ARep L σ T st a w t av v := by
  cases av <;> simp only [FRep] at h <;> simp only [ARep]
  case pv x => exact h
  case pbox o j => exact ⟨by omega, h.2⟩
  case fn f caps =>
    obtain ⟨arr, e1, e2, e3⟩ := h
    refine ⟨arr, e1, e2, fun k x u hx hu => ?_⟩
    have := e3 k x u hx hu
    cases x <;> simp only [CapRep] at this ⊢
    case pv p => exact this
    case pbox o j => exact ⟨by omega, this.2⟩
  case yld => exact h
theorem FSlots.sim {slots : List AV} {boxes : List Box} {ys : List (List PV)} {stop : Option (Option Nat)} {tmps : Array Value} {dfs : List Deferred} (h : FSlots L nb σ T w slots tmps) (hnb : nb ≤ boxes.length) (hb : ∀ (o : Nat) bx, boxes[o]? = some bx → BoxRep T w (σ o) o bx)
    (hf : ∀ b, w.heap.size ≤ b → T b = .other) : Sim L σ T ⟨slots, boxes, ys, stop⟩ { tmps := tmps, defers := dfs } w :=
  ⟨h.1, fun t av v ht hv => (h.2 t av v ht hv).arep hnb, hb, hf⟩
theorem Sim.froze (h : Sim L σ T st a w) : ∃ T', FSlots L st.boxes.length σ T' w (st.slots.map AV.froze) a.tmps ∧ (∀ (o : Nat) bx, st.boxes[o]? = some bx → BoxRep T' w (σ o) o bx) ∧ Still T T' := by
  refine ⟨fun b => match T b with | .row (.slot _) => .ro | q => q, ⟨by simp [h.size], fun t av v ht hv => ?_⟩, fun o bx ho => ?_, ⟨fun b e => by simp [e], fun b e => by simp [e]⟩⟩
  · rw [List.getElem?_map] at ht
    cases e : st.slots[t]? with
    | none => rw [e] at ht; cases ht
    | some av0 =>
      rw [e] at ht
      simp only [Option.map_some, Option.some.injEq] at ht
      subst ht
      have hA := h.slots t av0 v e hv
      have hro : ∀ b, T b = .ro → (match T b with | .row (.slot _) => Owner.ro | q => q) = .ro := fun b e => by simp [e]
      cases av0 <;> simp only [AV.froze, FRep] <;> simp only [ARep] at hA
      case pv x => exact PRep.frame (fun b e _ => ⟨hro b e, rfl⟩) hA
      case row sz es => exact RowRep.list (fun b e => by simp [e]) (fun b e => hro b e) hA
      case pbox o j => exact hA
      case fn f caps =>
        obtain ⟨arr, e1, e2, e3⟩ := hA
        refine ⟨arr, e1, e2, fun k x u hx hu => ?_⟩
        have := e3 k x u hx hu
        cases x <;> simp only [CapRep] at this ⊢
        case pv p => exact PRep.frame (fun b e _ => ⟨hro b e, rfl⟩) this
        case pbox o j => exact this
      case yld => exact hA
  · have hb := h.boxes o bx ho
    have hT : (match T (σ o) with | .row (.slot _) => Owner.ro | q => q) = T (σ o) := by
      obtain ⟨_, _, _, _, h3, _⟩ := hb
      rw [h3]; cases hfz : bx.fz <;> simp
    exact hb.frame ⟨hT, rfl⟩ (fun j b e _ => ⟨by simp [e], rfl⟩) (fun b e _ => ⟨by simp [e], rfl⟩)

theorem FSlots.params : ∀ {ps : List Nat} {x : List PV} {vs : List Value} {slots sl : List AV} {tmps : Array Value}, setParams slots ps x = some sl → FSlots L nb σ T w slots tmps → vs.length = x.length → (∀ (i : Nat) p v, x[i]? = some p → vs[i]? = some v → PRep (fun b => T b = .ro) w p v) →
    ps.length = vs.length ∧ FSlots L nb σ T w sl ((ps.zip vs).foldl (fun t (p, v) => t.setIfInBounds p v) tmps)
  | [], [], vs, slots, sl, tmps, hs, h, hl, hr => by
    simp only [setParams, Option.some.injEq] at hs
    subst hs
    have : vs = [] := List.eq_nil_of_length_eq_zero (by simpa using hl)
    subst this
    exact ⟨rfl, h⟩
  | p :: ps, q :: x, v :: vs, slots, sl, tmps, hs, h, hl, hr => by
    simp only [setParams] at hs
    have h1 : FSlots L nb σ T w (slots.set p (.pv q)) (tmps.setIfInBounds p v) := by
      refine ⟨by simp [h.1], fun t av u ht hu => ?_⟩
      rw [List.getElem?_set] at ht
      rw [Array.getElem?_setIfInBounds] at hu
      by_cases e : p = t
      · subst e
        simp only [if_true] at ht hu
        split at ht
        · split at hu
          · cases ht; cases hu
            exact hr 0 q v rfl rfl
          · cases hu
        · cases ht
      · simp only [if_neg e] at ht hu
        exact h.2 t av u ht hu
    obtain ⟨k1, k2⟩ := FSlots.params (vs := vs) hs h1 (by simpa using hl) (fun i p v hp hv => hr (i + 1) p v hp hv)
    exact ⟨by simp [k1], k2⟩
  | [], _ :: _, _, _, _, _, hs, _, _, _ => by simp [setParams] at hs
  | _ :: _, [], _, _, _, _, hs, _, _, _ => by simp [setParams] at hs
  | _ :: _, _ :: _, [], _, _, _, _, _, hl, _ => by simp at hl

theorem rounds_grow (hg : ∀ c vc st e st', mC P c vc = true → rec vc st = some (e, st') → Grow st.boxes.length st st') {ca cb : Code} {slots : List AV} {ps : List Nat} {asn bd : VCode} (ha : mC P ca asn = true) (hb : mC P cb bd = true) :
    ∀ (xs : List (List PV)) (k : Nat) (s : St) r s', rounds rec slots ps asn bd nb k xs s = some (r, s') → nb ≤ s.boxes.length → Grow nb s s'
  | [], k, s, r, s', h, hn => by
    simp only [rounds, Option.some.injEq, Prod.mk.injEq] at h
    rw [← h.2]; exact ⟨hn, List.prefix_refl _, rfl⟩
  | x :: xs, k, s, r, s', h, hn => by
    unfold rounds at h
    replace h := bind_some h
    obtain ⟨sl, h1, h⟩ := h
    replace h := bind_some h
    obtain ⟨⟨e1, s1⟩, h2, h⟩ := h
    have g1 := hg _ _ _ _ _ ha h2
    simp only at h
    split at h
    case h_2 => cases h
    replace h := bind_some h
    obtain ⟨⟨e2, s2⟩, h3, h⟩ := h
    have g2 := hg _ _ _ _ _ hb h3
    have g1' : Grow nb s s1 := ⟨Nat.le_trans hn g1.1, g1.2.1, g1.2.2⟩
    have g2' : Grow nb s1 s2 := g2.mono g1'.1
    simp only at h
    split at h
    · split at h
      case isFalse => cases h
      rename_i hle
      have g3 := rounds_grow hg ha hb xs (k + 1) _ r s' h (by simp; omega)
      exact (g1'.trans g2').trans ⟨g3.1, g3.2.1, g3.2.2⟩
    · simp only [Option.some.injEq, Prod.mk.injEq] at h
      rw [← h.2]; exact g1'.trans g2'
end
end Go.Proofs.Ytpdfhckdmblicaa

namespace Go.Proofs.Ytpdfhckdmblicaa
open Go.RowKit
set_option linter.all false

theorem prep_avoid' {ok good : Nat → Prop} {w : World} (hg : ∀ b, Cellish w b → good b) {x : PV} {v : Value} (h : PRep ok w x v) : PRep (fun b => ok b ∧ good b) w x v := by
  induction h with
  | int k n => exact .int k n
  | bool b => exact .bool b
  | str s => exact .str s
  | nilf => exact .nilf
  | void v h => exact .void v h
  | nil sz a => exact .nil sz a
  | list sz es b off c cv h1 h2 h3 h4 h6 h7 h8 ih => exact .list sz es b off c cv ⟨h1, hg b h2⟩ h2 h3 h4 h6 h7 ih
  | agg cs arr h1 h2 h3 ih => exact .agg cs arr h1 h2 ih
  | func f caps arr h1 h2 ih => exact .func f caps arr h1 ih
  | iptr cs j b off cv h1 h2 h3 h4 ih => exact .iptr cs j b off cv ⟨h1, hg b h2⟩ h2 h3 ih

def Compat (T Tc : Tags) (K B0 : Nat) (w : World) : Prop := ∀ b, b < w.heap.size → T b ≠ .other → Tc b = dum K ∨ (T b = .ro ∧ Tc b = .ro ∧ (b < B0 ∨ Cellish w b))
theorem dum_ro (K : Nat) : dum K ≠ .ro := by simp [dum]
theorem dum_other (K : Nat) : dum K ≠ .other := by simp [dum]

structure Rg where
  L : Nat
  nb : Nat
  K : Nat
  σ0 : Nat → Nat
  T1 : Tags
  w0 : World
  slots : List AV
  tmps : Array Value
  l : Nat
  D : List Nat
  B0 : Nat
structure CSx (C : Ctx) (R : Rg) (lp : Loop) (s : St) (T : Tags) (w : World) (σ : Nat → Nat) (Tc : Tags) : Prop where
  fs : FSlots R.L R.nb σ Tc w R.slots R.tmps
  bx : ∀ (o : Nat) b, s.boxes[o]? = some b → BoxRep Tc w (σ o) o b
  fr : ∀ b, w.heap.size ≤ b → Tc b = .other
  j : C.J s.ys.length Tc w
  nbx : R.nb ≤ s.boxes.length
  stp : s.stop = C.stop
  sg : ∀ o, o < R.nb → σ o = R.σ0 o
  sy : Stays R.T1 Tc R.w0 w
  cp : Compat T Tc R.K R.B0 w
  rl : w.heap[R.l]? = some (.loop lp)
  rt : Tc R.l = dum R.K
  ro : T R.l = .other
  dd : ∀ d ∈ R.D, w.heap[d]? = some (.deferred (some [])) ∧ Tc d = .ro ∧ T d = .other
def CS (C : Ctx) (R : Rg) (lp : Loop) (s : St) (T : Tags) (w : World) : Prop := ∃ σ Tc, CSx C R lp s T w σ Tc

section
variable {P : Program} {F : Fence} {C : Ctx} {n L nb : Nat} {σ σ' : Nat → Nat} {T T' Tc T1 T2 : Tags} {st st' st1 s : St} {a a1 : Act} {w w' w1 : World} {R : Rg} {lp : Loop}
  {rec : VCode → St → Option (Ex × St)} {env : Env}

theorem lt_of_heap {o : Obj} {b : Nat} (h : w.heap[b]? = some o) : b < w.heap.size := (Array.getElem?_eq_some_iff.1 h).1
theorem CS.take (h : CS C R lp s T w) : CS C R lp { s with boxes := s.boxes.take R.nb } T w := by
  obtain ⟨σ, Tc, h⟩ := h
  refine ⟨σ, Tc, { h with bx := fun o b ho => ?_, nbx := ?_ }⟩
  · simp only [List.getElem?_take] at ho
    split at ho
    · exact h.bx o b ho
    · cases ho
  · have := h.nbx; simp; omega
theorem CS.keep (hC : C.Ok P L) (h : CS C R lp s T w) (hc : Chg T T' w w') : CS C R lp s T' w' := by
  classical
  obtain ⟨σ, Tc, h⟩ := h
  have hsame : ∀ b, b < w.heap.size → Tc b ≠ dum R.K → w'.heap[b]? = w.heap[b]? := fun b hb hd => by
    by_cases e : T b = .other
    · exact hc.same b hb (.inr e)
    · rcases h.cp b hb e with g | ⟨g, _⟩
      · exact absurd g hd
      · exact hc.same b hb (.inl g)
  obtain ⟨Tn, hTn⟩ : ∃ Tn : Tags, Tn = fun b => if b < w.heap.size then Tc b else if b < w'.heap.size ∧ T' b ≠ .other then dum R.K else .other := ⟨_, rfl⟩
  have hlt : ∀ b, b < w.heap.size → Tn b = Tc b := fun b hb => by rw [hTn]; exact if_pos hb
  have hl := lt_of_heap h.rl
  have hro : ∀ b, Tc b = .ro → b < w.heap.size := fun b e => by
    rcases Nat.lt_or_ge b w.heap.size with g | g
    · exact g
    · rw [h.fr b g] at e; cases e
  have hw : ∀ b, Tc b = .ro → b < w.heap.size → Tn b = .ro ∧ w'.heap[b]? = w.heap[b]? := fun b e hb => ⟨by rw [hlt b hb, e], hsame b hb (by rw [e]; exact (dum_ro _).symm)⟩
  refine ⟨σ, Tn, ⟨h.fs.keep hw fun _ _ => rfl, fun o b ho => ?_, fun b hb => ?_, ?_, h.nbx, h.stp, h.sg, h.sy.trans ⟨hc.size, fun b e => (hw b e (hro b e)).1, fun b hb e => hsame b hb (by rw [e]; exact (dum_ro _).symm)⟩, fun b hb ht => ?_, ?_, ?_, ?_, fun d hd => ?_⟩⟩
  · have hb := h.bx o b ho
    have hbl := hb.lt
    have hT : Tc (σ o) ≠ dum R.K := by
      obtain ⟨_, _, _, _, h3, _⟩ := hb
      rw [h3]; split <;> simp [dum]
    exact hb.frame ⟨hlt _ hbl, hsame _ hbl hT⟩ (fun j b e hb => ⟨by rw [hlt b hb, e], hsame b hb (by rw [e]; simp [dum])⟩) hw
  · have : ¬ b < w.heap.size := by have := hc.size; omega
    rw [hTn]
    simp only [if_neg this, if_neg (show ¬ (b < w'.heap.size ∧ T' b ≠ .other) by omega)]
  · refine hC.keep _ _ _ _ _ ⟨hc.size, hc.os, hc.tape, hc.output, fun b hb ht => ?_, fun b e => (hw b e (hro b e)).1, fun b hb e => by rw [hlt b hb, e]⟩ h.j
    refine hsame b hb ?_
    rcases ht with e | e <;> rw [e] <;> simp [dum]
  · by_cases hbl : b < w.heap.size
    · have ht0 : T b ≠ .other := fun e => ht (hc.other b hbl e)
      rw [hlt b hbl]
      rcases h.cp b hbl ht0 with g | ⟨g1, g2, g3⟩
      · exact .inl g
      · refine .inr ⟨hc.ro b g1, g2, g3.imp id fun hcl => hcl.same (hc.same b hbl (.inl g1))⟩
    · left
      rw [hTn]
      simp only [if_neg hbl, if_pos (show b < w'.heap.size ∧ T' b ≠ .other from ⟨hb, ht⟩)]
  · rw [hc.same _ hl (.inr h.ro)]; exact h.rl
  · rw [hlt _ hl]; exact h.rt
  · exact hc.other _ hl h.ro
  · obtain ⟨g1, g2, g3⟩ := h.dd d hd
    have hdl := lt_of_heap g1
    exact ⟨by rw [hc.same _ hdl (.inr g3)]; exact g1, by rw [hlt _ hdl]; exact g2, hc.other _ hdl g3⟩

def inS (C : Ctx) (K l : Nat) (S : Nat → Prop) (w : World) (lp : Loop) [DecidablePred S] : Ctx where
  X := C.X
  stop := C.stop
  J k T u := (∀ b, S b → T b = .other) ∧ (∀ b, S b → b ≠ l → u.heap[b]? = w.heap[b]?) ∧ u.heap[l]? = some (.loop lp) ∧ w.heap.size ≤ u.heap.size ∧ C.J k (fun b => if S b then dum K else T b) u
theorem inS_ok (hC : C.Ok P L) {K l : Nat} {S : Nat → Prop} [DecidablePred S] (hS : ∀ b, S b → b < w.heap.size) (hl : S l) : (inS C K l S w lp).Ok P L := by
  refine ⟨fun k T T' u u' hc ⟨h1, h2, h3, h4, h5⟩ => ⟨fun b hb => ?_, fun b hb hbl => ?_, ?_, Nat.le_trans h4 hc.size, ?_⟩, fun s k T u ps vs hs hx hf ⟨h1, h2, h3, h4, h5⟩ hlen hr => ?_⟩
  · exact hc.other b (by have := hS b hb; omega) (h1 b hb)
  · exact (hc.same b (by have := hS b hb; omega) (.inr (h1 b hb))).trans (h2 b hb hbl)
  · exact (hc.same l (by have := hS l hl; omega) (.inr (h1 l hl))).trans h3
  · refine hC.keep _ _ _ _ _ ⟨hc.size, hc.os, hc.tape, hc.output, fun b hb ht => ?_, fun b e => ?_, fun b hb e => ?_⟩ h5
    · by_cases hs : S b
      · simp only [if_pos hs] at ht; rcases ht with e | e <;> simp [dum] at e
      · simp only [if_neg hs] at ht; exact hc.same b hb ht
    · by_cases hs : S b
      · simp only [if_pos hs] at e; simp [dum] at e
      · simp only [if_neg hs] at e ⊢; exact hc.ro b e
    · by_cases hs : S b
      · simp only [if_pos hs] at e; simp [dum] at e
      · simp only [if_neg hs] at e ⊢; exact hc.other b hb e
  · have hns : ∀ b, T b ≠ .other → ¬ S b := fun b hb hs => hb (h1 b hs)
    obtain ⟨f, tm, asn, bd, k1, k2⟩ := hC.yld s k (fun b => if S b then dum K else T b) u ps vs hs hx (fun b hb => by
      have : ¬ S b := fun hs => by have := hS b hs; omega
      simp only [if_neg this]; exact hf b hb) h5 hlen (fun i p v hp hv => (hr i p v hp hv).frame fun b hb _ => ⟨by simp only [if_neg (hns b (by rw [hb]; simp))]; exact hb, rfl⟩)
    refine ⟨f, tm, asn, bd, k1, fun n => ?_⟩
    refine (k2 n).mono fun e w3 hq => ?_
    obtain ⟨g1, g2, g3⟩ := hq
    have hse : ∀ b, (if S b then dum K else T b) ≠ .other → b < u.heap.size → w3.heap[b]? = u.heap[b]? := g3.2
    refine ⟨g1, ⟨h1, fun b hb hbl => ?_, ?_, Nat.le_trans h4 g3.1, g2⟩, g3.1, fun b hb hbl => hse b (by rw [if_neg (hns b hb)]; exact hb) hbl⟩
    · exact (hse b (by rw [if_pos hb]; simp [dum]) (by have := hS b hb; omega)).trans (h2 b hb hbl)
    · exact (hse l (by rw [if_pos hl]; simp [dum]) (by have := hS l hl; omega)).trans h3
end
end Go.Proofs.Ytpdfhckdmblicaa
