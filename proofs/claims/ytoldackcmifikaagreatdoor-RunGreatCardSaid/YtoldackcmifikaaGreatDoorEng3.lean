/- An abstract machine over the model, proved sound: closed calls become reckonings of the kernel. Its parts: Code, worked out once: regions in whatever order, code, calls: the quick machine. Code that ends in a way that the machine told, put together; what is no longer wanted may be forgotten between. -/
import Derived.Test.YtoldackcmifikaaGreatDoorEng2

namespace Go.Eng
open Go

/-! ### Equality, quick -/
/-- A truth value? -/
noncomputable def isBool (v : AV) (f : Bool → Bool) : Bool :=
  AV.rec (motive_1 := fun _ => Bool) (motive_2 := fun _ => Bool) false (fun b => f b) (fun _ _ => false) (fun _ => false) (fun _ => false) false (fun _ _ _ _ _ => false) (fun _ _ => false) (fun _ => false) (fun _ _ _ _ _ => false) (fun _ => false) false (fun _ _ _ => false) false (fun _ _ => false) (fun _ _ => false) false (fun _ _ _ _ => false) v
/-- A number? -/
noncomputable def isInt (v : AV) (f : IntKind → Int → Bool) : Bool :=
  AV.rec (motive_1 := fun _ => Bool) (motive_2 := fun _ => Bool) false (fun _ => false) (fun k n => f k n) (fun _ => false) (fun _ => false) false (fun _ _ _ _ _ => false) (fun _ _ => false) (fun _ => false) (fun _ _ _ _ _ => false) (fun _ => false) false (fun _ _ _ => false) false (fun _ _ => false) (fun _ _ => false) false (fun _ _ _ _ => false) v
/-- A text? -/
noncomputable def isStr (v : AV) (f : List UInt8 → Bool) : Bool :=
  AV.rec (motive_1 := fun _ => Bool) (motive_2 := fun _ => Bool) false (fun _ => false) (fun _ _ => false) (fun s => f s) (fun _ => false) false (fun _ _ _ _ _ => false) (fun _ _ => false) (fun _ => false) (fun _ _ _ _ _ => false) (fun _ => false) false (fun _ _ _ => false) false (fun _ _ => false) (fun _ _ => false) false (fun _ _ _ _ => false) v
/-- nil? -/
noncomputable def isPtr0 (v : AV)  : Bool :=
  AV.rec (motive_1 := fun _ => Bool) (motive_2 := fun _ => Bool) false (fun _ => false) (fun _ _ => false) (fun _ => false) (fun a => Option.rec (motive := fun _ => Bool) true (fun _ => false) a) false (fun _ _ _ _ _ => false) (fun _ _ => false) (fun _ => false) (fun _ _ _ _ _ => false) (fun _ => false) false (fun _ _ _ => false) false (fun _ _ => false) (fun _ _ => false) false (fun _ _ _ _ => false) v
/-- A pointer? -/
noncomputable def isPtr (v : AV) (f : Nat → Nat → Bool) : Bool :=
  AV.rec (motive_1 := fun _ => Bool) (motive_2 := fun _ => Bool) false (fun _ => false) (fun _ _ => false) (fun _ => false) (fun a => Option.rec (motive := fun _ => Bool) false (fun p => f p.1 p.2) a) false (fun _ _ _ _ _ => false) (fun _ _ => false) (fun _ => false) (fun _ _ _ _ _ => false) (fun _ => false) false (fun _ _ _ => false) false (fun _ _ => false) (fun _ _ => false) false (fun _ _ _ _ => false) v
/-- A nil slice? -/
noncomputable def isNilS (v : AV)  : Bool :=
  AV.rec (motive_1 := fun _ => Bool) (motive_2 := fun _ => Bool) false (fun _ => false) (fun _ _ => false) (fun _ => false) (fun _ => false) (true) (fun _ _ _ _ _ => false) (fun _ _ => false) (fun _ => false) (fun _ _ _ _ _ => false) (fun _ => false) false (fun _ _ _ => false) false (fun _ _ => false) (fun _ _ => false) false (fun _ _ _ _ => false) v
/-- A slice? -/
noncomputable def isSlice (v : AV) (f : Nat → Nat → Nat → Option Nat → Nat → Bool) : Bool :=
  AV.rec (motive_1 := fun _ => Bool) (motive_2 := fun _ => Bool) false (fun _ => false) (fun _ _ => false) (fun _ => false) (fun _ => false) false (fun i o len cap sz => f i o len cap sz) (fun _ _ => false) (fun _ => false) (fun _ _ _ _ _ => false) (fun _ => false) false (fun _ _ _ => false) false (fun _ _ => false) (fun _ _ => false) false (fun _ _ _ _ => false) v
/-- A slice of nothing? -/
noncomputable def isEmptyS (v : AV) (f : Nat → Nat → Bool) : Bool :=
  AV.rec (motive_1 := fun _ => Bool) (motive_2 := fun _ => Bool) false (fun _ => false) (fun _ _ => false) (fun _ => false) (fun _ => false) false (fun _ _ _ _ _ => false) (fun i sz => f i sz) (fun _ => false) (fun _ _ _ _ _ => false) (fun _ => false) false (fun _ _ _ => false) false (fun _ _ => false) (fun _ _ => false) false (fun _ _ _ _ => false) v
/-- A map? -/
noncomputable def isMap (v : AV) (f : Option Nat → Bool) : Bool :=
  AV.rec (motive_1 := fun _ => Bool) (motive_2 := fun _ => Bool) false (fun _ => false) (fun _ _ => false) (fun _ => false) (fun _ => false) false (fun _ _ _ _ _ => false) (fun _ _ => false) (fun r => f r) (fun _ _ _ _ _ => false) (fun _ => false) false (fun _ _ _ => false) false (fun _ _ => false) (fun _ _ => false) false (fun _ _ _ _ => false) v
/-- A function? -/
noncomputable def isFunc (v : AV) (f : FuncId → List AV → List AV → Bool) : Bool :=
  AV.rec (motive_1 := fun _ => Bool) (motive_2 := fun _ => Bool) false (fun _ => false) (fun _ _ => false) (fun _ => false) (fun _ => false) false (fun _ _ _ _ _ => false) (fun _ _ => false) (fun _ => false) (fun fn a b _ _ => f fn a b) (fun _ => false) false (fun _ _ _ => false) false (fun _ _ => false) (fun _ _ => false) false (fun _ _ _ _ => false) v
/-- A round? -/
noncomputable def isYield (v : AV) (f : Nat → Bool) : Bool :=
  AV.rec (motive_1 := fun _ => Bool) (motive_2 := fun _ => Bool) false (fun _ => false) (fun _ _ => false) (fun _ => false) (fun _ => false) false (fun _ _ _ _ _ => false) (fun _ _ => false) (fun _ => false) (fun _ _ _ _ _ => false) (fun l => f l) false (fun _ _ _ => false) false (fun _ _ => false) (fun _ _ => false) false (fun _ _ _ _ => false) v
/-- A nil function? -/
noncomputable def isNilFunc (v : AV)  : Bool :=
  AV.rec (motive_1 := fun _ => Bool) (motive_2 := fun _ => Bool) false (fun _ => false) (fun _ _ => false) (fun _ => false) (fun _ => false) false (fun _ _ _ _ _ => false) (fun _ _ => false) (fun _ => false) (fun _ _ _ _ _ => false) (fun _ => false) (true) (fun _ _ _ => false) false (fun _ _ => false) (fun _ _ => false) false (fun _ _ _ _ => false) v
/-- An interface value? -/
noncomputable def isIface (v : AV) (f : TypeId → AV → Bool) : Bool :=
  AV.rec (motive_1 := fun _ => Bool) (motive_2 := fun _ => Bool) false (fun _ => false) (fun _ _ => false) (fun _ => false) (fun _ => false) false (fun _ _ _ _ _ => false) (fun _ _ => false) (fun _ => false) (fun _ _ _ _ _ => false) (fun _ => false) false (fun t v _ => f t v) false (fun _ _ => false) (fun _ _ => false) false (fun _ _ _ _ => false) v
/-- A nil interface value? -/
noncomputable def isNilIface (v : AV)  : Bool :=
  AV.rec (motive_1 := fun _ => Bool) (motive_2 := fun _ => Bool) false (fun _ => false) (fun _ _ => false) (fun _ => false) (fun _ => false) false (fun _ _ _ _ _ => false) (fun _ _ => false) (fun _ => false) (fun _ _ _ _ _ => false) (fun _ => false) false (fun _ _ _ => false) (true) (fun _ _ => false) (fun _ _ => false) false (fun _ _ _ _ => false) v
/-- Cells? -/
noncomputable def isAgg (v : AV) (f : List AV → Bool) : Bool :=
  AV.rec (motive_1 := fun _ => Bool) (motive_2 := fun _ => Bool) false (fun _ => false) (fun _ _ => false) (fun _ => false) (fun _ => false) false (fun _ _ _ _ _ => false) (fun _ _ => false) (fun _ => false) (fun _ _ _ _ _ => false) (fun _ => false) false (fun _ _ _ => false) false (fun c _ => f c) (fun _ _ => false) false (fun _ _ _ _ => false) v
/-- Results? -/
noncomputable def isTuple (v : AV) (f : List AV → Bool) : Bool :=
  AV.rec (motive_1 := fun _ => Bool) (motive_2 := fun _ => Bool) false (fun _ => false) (fun _ _ => false) (fun _ => false) (fun _ => false) false (fun _ _ _ _ _ => false) (fun _ _ => false) (fun _ => false) (fun _ _ _ _ _ => false) (fun _ => false) false (fun _ _ _ => false) false (fun _ _ => false) (fun c _ => f c) false (fun _ _ _ _ => false) v
/-- What a guard reads. -/
noncomputable def onGuardO (v : AV) (y : Bool → Out) (n : Out) : Out :=
  AV.rec (motive_1 := fun _ => Out) (motive_2 := fun _ => Out) (.err "guard") (fun b => y b) (fun _ _ => (.err "guard")) (fun _ => (.err "guard")) (fun _ => (.err "guard")) (.err "guard") (fun _ _ _ _ _ => (.err "guard")) (fun _ _ => (.err "guard")) (fun _ => (.err "guard")) (fun _ _ _ _ _ => (.err "guard")) (fun _ => (.err "guard")) (.err "guard") (fun _ _ _ => (.err "guard")) (.err "guard") (fun _ _ => (.err "guard")) (fun _ _ => n) (.err "guard") (fun _ _ _ _ => (.err "guard")) v
/-- A condition. -/
noncomputable def onBoolO (v : AV) (y : Bool → Out) : Out :=
  AV.rec (motive_1 := fun _ => Out) (motive_2 := fun _ => Out) (.err "cond") (fun b => y b) (fun _ _ => (.err "cond")) (fun _ => (.err "cond")) (fun _ => (.err "cond")) (.err "cond") (fun _ _ _ _ _ => (.err "cond")) (fun _ _ => (.err "cond")) (fun _ => (.err "cond")) (fun _ _ _ _ _ => (.err "cond")) (fun _ => (.err "cond")) (.err "cond") (fun _ _ _ => (.err "cond")) (.err "cond") (fun _ _ => (.err "cond")) (fun _ _ => (.err "cond")) (.err "cond") (fun _ _ _ _ => (.err "cond")) v

noncomputable def band (a b : Bool) : Bool := Bool.rec (motive := fun _ => Bool) false b a
theorem band_ok {a b : Bool} (h : band a b = true) : a = true ∧ b = true := by
  cases a with
  | true => exact ⟨rfl, h⟩
  | false => cases h
noncomputable def beqOptN (a b : Option Nat) : Bool := Option.rec (motive := fun _ => Bool) (Option.rec (motive := fun _ => Bool) true (fun _ => false) b) (fun x => Option.rec (motive := fun _ => Bool) false (fun y => Nat.beq x y) b) a
theorem beqOptN_ok {a b : Option Nat} (h : beqOptN a b = true) : a = b := by
  cases a <;> cases b <;> first | rfl | (cases h; done) | (rw [beq_ok h])
noncomputable def beqB (a b : Bool) : Bool := Bool.rec (motive := fun _ => Bool) (bnot b) b a
theorem beqB_ok {a b : Bool} (h : beqB a b = true) : a = b := by cases a <;> cases b <;> first | rfl | cases h

/-- Are two values one? -/
noncomputable def beqQ (a : AV) : AV → Bool :=
  AV.rec (motive_1 := fun _ => AV → Bool) (motive_2 := fun _ => List AV → Bool)
    (fun _ => false)
    (fun x b => isBool b fun y => beqB x y)
    (fun k x b => isInt b fun k' y => band (ieq x y) (kBeq k k'))
    (fun x b => isStr b fun y => eqBytes x y)
    (fun x b => Option.rec (motive := fun _ => Bool) (isPtr0 b) (fun p => isPtr b fun i o => band (Nat.beq p.1 i) (Nat.beq p.2 o)) x)
    (fun b => isNilS b)
    (fun i o l c z b => isSlice b fun i' o' l' c' z' => band (Nat.beq i i') (band (Nat.beq o o') (band (Nat.beq l l') (band (beqOptN c c') (Nat.beq z z')))))
    (fun i z b => isEmptyS b fun i' z' => band (Nat.beq i i') (Nat.beq z z'))
    (fun r b => isMap b fun r' => beqOptN r r')
    (fun f _ _ ih1 ih2 b => isFunc b fun f' x y => band (Nat.beq f f') (band (ih1 x) (ih2 y)))
    (fun l b => isYield b fun l' => Nat.beq l l')
    (fun b => isNilFunc b)
    (fun t _ ih b => isIface b fun t' v => band (Nat.beq t t') (ih v))
    (fun b => isNilIface b)
    (fun _ ih b => isAgg b ih)
    (fun _ ih b => isTuple b ih)
    (fun l => List.rec (motive := fun _ => Bool) true (fun _ _ _ => false) l)
    (fun _ _ ih1 ih2 l => List.rec (motive := fun _ => Bool) false (fun x l _ => band (ih1 x) (ih2 l)) l) a
noncomputable def beqQs (a : List AV) : List AV → Bool :=
  AV.rec_1 (motive_1 := fun _ => AV → Bool) (motive_2 := fun _ => List AV → Bool)
    (fun _ => false)
    (fun x b => isBool b fun y => beqB x y)
    (fun k x b => isInt b fun k' y => band (ieq x y) (kBeq k k'))
    (fun x b => isStr b fun y => eqBytes x y)
    (fun x b => Option.rec (motive := fun _ => Bool) (isPtr0 b) (fun p => isPtr b fun i o => band (Nat.beq p.1 i) (Nat.beq p.2 o)) x)
    (fun b => isNilS b)
    (fun i o l c z b => isSlice b fun i' o' l' c' z' => band (Nat.beq i i') (band (Nat.beq o o') (band (Nat.beq l l') (band (beqOptN c c') (Nat.beq z z')))))
    (fun i z b => isEmptyS b fun i' z' => band (Nat.beq i i') (Nat.beq z z'))
    (fun r b => isMap b fun r' => beqOptN r r')
    (fun f _ _ ih1 ih2 b => isFunc b fun f' x y => band (Nat.beq f f') (band (ih1 x) (ih2 y)))
    (fun l b => isYield b fun l' => Nat.beq l l')
    (fun b => isNilFunc b)
    (fun t _ ih b => isIface b fun t' v => band (Nat.beq t t') (ih v))
    (fun b => isNilIface b)
    (fun _ ih b => isAgg b ih)
    (fun _ ih b => isTuple b ih)
    (fun l => List.rec (motive := fun _ => Bool) true (fun _ _ _ => false) l)
    (fun _ _ ih1 ih2 l => List.rec (motive := fun _ => Bool) false (fun x l _ => band (ih1 x) (ih2 l)) l) a

theorem eqBytes_ok : ∀ {a b : List UInt8}, eqBytes a b = true → a = b
  | [], [], _ => rfl
  | [], _ :: _, h => by cases h
  | _ :: _, [], h => by cases h
  | a :: x, b :: y, h => by
    have h : Bool.rec (motive := fun _ => Bool) false (eqBytes x y) (Nat.beq a.toNat b.toNat) = true := h
    cases hb : Nat.beq a.toNat b.toNat with
    | false => rw [hb] at h; cases h
    | true =>
      rw [hb] at h
      rw [eqBytes_ok (a := x) (b := y) h, UInt8.toNat_inj.1 (beq_ok hb)]
theorem ieq_ok {x y : Int} (h : ieq x y = true) : x = y := by rw [ieq_eq] at h; exact of_decide_eq_true h

mutual
theorem beqQ_ok : ∀ {a b : AV}, beqQ a b = true → a = b
  | .any, _, h => by cases h
  | .bool x, b, h => by
    have h : isBool b (fun y => beqB x y) = true := h
    cases b <;> first | (cases h; done) | (rw [beqB_ok h])
  | .int k x, b, h => by
    have h : isInt b (fun k' y => band (ieq x y) (kBeq k k')) = true := h
    cases b <;> first | (cases h; done) | (obtain ⟨h1, h2⟩ := band_ok h; rw [ieq_ok h1, kBeq_ok h2])
  | .str x, b, h => by
    have h : isStr b (fun y => eqBytes x y) = true := h
    cases b <;> first | (cases h; done) | (rw [eqBytes_ok h])
  | .ptr none, b, h => by
    have h : isPtr0 b = true := h
    cases b with
    | ptr a => cases a with
      | none => rfl
      | some p => cases h
    | _ => cases h
  | .ptr (some p), b, h => by
    have h : isPtr b (fun i o => band (Nat.beq p.1 i) (Nat.beq p.2 o)) = true := h
    cases b with
    | ptr a => cases a with
      | none => cases h
      | some q =>
        obtain ⟨h1, h2⟩ := band_ok h
        obtain ⟨p1, p2⟩ := p
        obtain ⟨q1, q2⟩ := q
        have h1 : p1 = q1 := beq_ok h1
        have h2 : p2 = q2 := beq_ok h2
        rw [h1, h2]
    | _ => cases h
  | .nilS, b, h => by
    have h : isNilS b = true := h
    cases b <;> first | (cases h; done) | rfl
  | .slice i o l c z, b, h => by
    have h : isSlice b (fun i' o' l' c' z' => band (Nat.beq i i') (band (Nat.beq o o') (band (Nat.beq l l') (band (beqOptN c c') (Nat.beq z z'))))) = true := h
    cases b <;> first | (cases h; done) | skip
    obtain ⟨h1, h⟩ := band_ok h
    obtain ⟨h2, h⟩ := band_ok h
    obtain ⟨h3, h⟩ := band_ok h
    obtain ⟨h4, h5⟩ := band_ok h
    rw [beq_ok h1, beq_ok h2, beq_ok h3, beqOptN_ok h4, beq_ok h5]
  | .emptyS i z, b, h => by
    have h : isEmptyS b (fun i' z' => band (Nat.beq i i') (Nat.beq z z')) = true := h
    cases b <;> first | (cases h; done) | skip
    obtain ⟨h1, h2⟩ := band_ok h
    rw [beq_ok h1, beq_ok h2]
  | .map r, b, h => by
    have h : isMap b (fun r' => beqOptN r r') = true := h
    cases b <;> first | (cases h; done) | (rw [beqOptN_ok h])
  | .func f x y, b, h => by
    have h : isFunc b (fun f' x' y' => band (Nat.beq f f') (band (beqQs x x') (beqQs y y'))) = true := h
    cases b <;> first | (cases h; done) | skip
    obtain ⟨h1, h⟩ := band_ok h
    obtain ⟨h2, h3⟩ := band_ok h
    rw [beq_ok h1, beqQs_ok h2, beqQs_ok h3]
  | .yield l, b, h => by
    have h : isYield b (fun l' => Nat.beq l l') = true := h
    cases b <;> first | (cases h; done) | (rw [beq_ok h])
  | .nilFunc, b, h => by
    have h : isNilFunc b = true := h
    cases b <;> first | (cases h; done) | rfl
  | .iface t v, b, h => by
    have h : isIface b (fun t' v' => band (Nat.beq t t') (beqQ v v')) = true := h
    cases b <;> first | (cases h; done) | skip
    obtain ⟨h1, h2⟩ := band_ok h
    rw [beq_ok h1, beqQ_ok h2]
  | .nilIface, b, h => by
    have h : isNilIface b = true := h
    cases b <;> first | (cases h; done) | rfl
  | .agg x, b, h => by
    have h : isAgg b (beqQs x) = true := h
    cases b <;> first | (cases h; done) | (rw [beqQs_ok h])
  | .tuple x, b, h => by
    have h : isTuple b (beqQs x) = true := h
    cases b <;> first | (cases h; done) | (rw [beqQs_ok h])
theorem beqQs_ok : ∀ {a b : List AV}, beqQs a b = true → a = b
  | [], [], _ => rfl
  | [], _ :: _, h => by cases h
  | _ :: _, [], h => by cases h
  | a :: x, b :: y, h => by
    obtain ⟨h1, h2⟩ := band_ok (a := beqQ a b) (b := beqQs x y) h
    rw [beqQ_ok h1, beqQs_ok h2]
end

mutual
theorem AV.beq_refl : ∀ a : AV, AV.beq a a = true
  | .any => by simp [AV.beq]
  | .bool _ => by simp [AV.beq]
  | .int _ _ => by simp [AV.beq]
  | .str _ => by simp [AV.beq]
  | .ptr none => by simp [AV.beq]
  | .ptr (some (_, _)) => by simp [AV.beq]
  | .nilS => by simp [AV.beq]
  | .slice _ _ _ none _ => by simp [AV.beq]
  | .slice _ _ _ (some _) _ => by simp [AV.beq]
  | .emptyS _ _ => by simp [AV.beq]
  | .map none => by simp [AV.beq]
  | .map (some _) => by simp [AV.beq]
  | .func _ x y => by simp [AV.beq, beqs_refl x, beqs_refl y]
  | .yield _ => by simp [AV.beq]
  | .nilFunc => by simp [AV.beq]
  | .iface _ v => by simp [AV.beq, AV.beq_refl v]
  | .nilIface => by simp [AV.beq]
  | .agg x => by simp [AV.beq, beqs_refl x]
  | .tuple x => by simp [AV.beq, beqs_refl x]
theorem beqs_refl : ∀ l : List AV, beqs l l = true
  | [] => by simp [beqs]
  | a :: l => by simp [beqs, AV.beq_refl a, beqs_refl l]
end

/-- May what an operation comes to be a reading that is still to be done? -/
def lazyOp : Op → Bool
  | .move _ | .assign _ | .pick .. | .load .. | .nilCheck _ | .field .. | .index .. | .lookup .. | .extract .. => true
  | _ => false

/-! ### Operations in the order of the text -/
noncomputable def stepS (P : Program) (n : Nat) (o : Oper) (rest : SF) : SF :=
  match kindOf P o.op with
  | .pure => stS (setD n o.dst) fun sd => Bool.rec (motive := fun _ => SF)
      ⟨fun m rnd t d σ => R.out ((pureF P n o.op).app t σ) fun v => sd.app v t fun t => rest.app m rnd t d σ⟩
      ⟨fun m rnd t d σ => R.out ((pureF P n o.op).app t σ) fun v => forceV v fun v => sd.app v t fun t => rest.app m rnd t d σ⟩ (lazyOp o.op)
  | .alloc => stS (setD n o.dst) fun sd => ⟨fun m rnd t d σ => R.out ((allocF P n o.op).app t) fun r => oIff (Nat.blt σ.n most) (forceN (fun i => sd.app (r.2 i) t fun t => forceO r.1 fun o => hsetK i o (Nat.succ i) σ.t fun σ => rest.app m rnd t d σ) σ.n)⟩
  | .loud => ⟨fun m rnd t d σ => (loudK P n o).app m rnd t d σ (fun t d σ => rest.app m rnd t d σ) .panic⟩

/-- If it is wanted. -/
noncomputable def guardS (ops : Array Oper) (n : Nat) (o : Oper) (yes no : SF) : SF :=
  match o.guard with
  | none => yes
  | some (j, want) =>
    match (ops[j]?).bind (·.dst) with
    | some g => stS (R.iff (Nat.blt g n) "guard" (.ok g)) fun g => 
      Bool.rec (motive := fun _ => SF) ⟨fun m rnd t d σ => onGuardO (rget t g) (fun b => Bool.rec (motive := fun _ => Out) (yes.app m rnd t d σ) (no.app m rnd t d σ) b) (no.app m rnd t d σ)⟩
        ⟨fun m rnd t d σ => onGuardO (rget t g) (fun b => Bool.rec (motive := fun _ => Out) (no.app m rnd t d σ) (yes.app m rnd t d σ) b) (no.app m rnd t d σ)⟩ want
    | none => ⟨fun _ _ _ _ _ => .err "guard"⟩

noncomputable def skipS (n : Nat) (o : Oper) (rest : SF) : SF := stS (setD n o.dst) fun sd => ⟨fun m rnd t d σ => sd.app .undef t fun t => rest.app m rnd t d σ⟩

noncomputable def opsF (P : Program) (n : Nat) (ops : Array Oper) (l : List Oper) : SF :=
  List.rec (motive := fun _ => SF) ⟨fun _ _ t d σ => .norm t d σ⟩ (fun o _ ih => guardS ops n o (stepS P n o ih) (skipS n o ih)) l

theorem guardS_ok {n : Nat} {α : Type} {ops : Array Oper} {o : Oper} {yes no : SF} {Q : Out → R α → Prop} (hQ : ∀ s y, Q (.err s) y) {mf : MF} {rnd : Option Nat} {t : Row} {d : List ADef} {σ : Heap} {y : Bool → R α}
    (h1 : Q (yes.app mf rnd t d σ) (y true)) (h2 : Q (no.app mf rnd t d σ) (y false)) : Q ((guardS ops n o yes no).app mf rnd t d σ) ((wantedA ops n t o).bd y) := by
  unfold guardS wantedA
  split
  · rename_i hg
    simp only [hg]
    exact h1
  · rename_i j want hg
    simp only [hg]
    split
    · rename_i g hd
      simp only [hd]
      cases hb : Nat.blt g n with
      | false => exact hQ _ _
      | true =>
        cases want with
        | true =>
          show Q (onGuardO (rget t g) (fun b => Bool.rec (motive := fun _ => Out) (no.app mf rnd t d σ) (yes.app mf rnd t d σ) b) (no.app mf rnd t d σ)) (R.bd (match rget t g with | .bool b => .ok (b == true) | .tuple _ => .ok false | _ => .err "guard") y)
          cases hv : rget t g <;> first | exact hQ _ _ | skip
          · rename_i b
            cases b with
            | true => exact h1
            | false => exact h2
          · exact h2
        | false =>
          show Q (onGuardO (rget t g) (fun b => Bool.rec (motive := fun _ => Out) (yes.app mf rnd t d σ) (no.app mf rnd t d σ) b) (no.app mf rnd t d σ)) (R.bd (match rget t g with | .bool b => .ok (b == false) | .tuple _ => .ok false | _ => .err "guard") y)
          cases hv : rget t g <;> first | exact hQ _ _ | skip
          · rename_i b
            cases b with
            | true => exact h2
            | false => exact h1
          · exact h2
    · exact hQ _ _

theorem OutOk.err {n : Nat} (s : String) (y : R (Ex × St)) : OutOk n (.err s) y := trivial

theorem opsF_ok {P : Program} {n : Nat} {ops : Array Oper} {mf : MF} {m : Mach} (hm : MLe mf m) {rnd : Option Nat} : ∀ (l : List Oper) (t : Row) (d : List ADef) (σ : Heap), OutOk n ((opsF P n ops l).app mf rnd t d σ) (opsA P m rnd ops l ⟨n, t, d, σ⟩)
  | [], _, _, _ => rfl
  | o :: l, t, d, σ => by
    have ih := opsF_ok hm (rnd := rnd) (P := P) (n := n) (ops := ops) l
    show OutOk n ((guardS ops n o (stepS P n o (opsF P n ops l)) (skipS n o (opsF P n ops l))).app mf rnd t d σ) ((wantedA ops n t o).bd fun b =>
      Bool.rec (motive := fun _ => R (Ex × St)) (((⟨n, t, d, σ⟩ : St).put o.dst .undef).bd (opsA P m rnd ops l))
        ((opA P m rnd o ⟨n, t, d, σ⟩).bd fun r => Option.rec (motive := fun _ => R (Ex × St)) (opsA P m rnd ops l r.2) (fun v => .ok (.panic v, r.2)) r.1) b)
    refine guardS_ok OutOk.err ?_ ?_
    · show OutOk n _ ((opA P m rnd o ⟨n, t, d, σ⟩).bd _)
      unfold stepS opA
      cases hk : kindOf P o.op with
      | pure =>
        simp only
        refine stS_ok fun sd hsd => ?_
        have key : ∀ v, (pureF P n o.op).app t σ = .ok v → OutOk n (sd.app v t fun t => (opsF P n ops l).app mf rnd t d σ) (R.bd (R.bd (pureA P (evalA n t) σ o.op) fun v => ((⟨n, t, d, σ⟩ : St).put o.dst v).bd fun st' => .ok (none, st')) fun r => Option.rec (motive := fun _ => R (Ex × St)) (opsA P m rnd ops l r.2) (fun v => .ok (.panic v, r.2)) r.1) := fun v hv => by
          obtain ⟨t', e1, e2⟩ := putQ_ok hsd t d σ v
          rw [pureF_ok hv, bd_mk, e1, e2]
          exact ih _ _ _
        cases lazyOp o.op with
        | false => exact out_ok key
        | true => exact out_ok fun v hv => by rw [forceV_eq]; exact key v hv
      | alloc =>
        simp only
        refine stS_ok fun sd hsd => out_ok fun r hr => oIff_ok fun hb => ?_
        obtain ⟨t', e1, e2⟩ := putHQ_ok hsd t d σ (r.2 σ.n) (σ.push r.1)
        rw [forceN_eq, e2, forceO_eq, hsetK_eq]
        show OutOk n _ (R.bd (R.bd (allocA P (evalA n t) o.op) _) _)
        rw [allocF_ok hr, bd_mk]
        show OutOk n _ (R.bd (R.iff (Nat.blt σ.n most) _ _) _)
        rw [hb]
        show OutOk n _ (R.bd (R.bd ((⟨n, t, d, σ⟩ : St).putH o.dst (r.2 σ.n) (σ.push r.1)) _) _)
        rw [e1]
        exact ih _ _ _
      | loud =>
        simp only
        exact loudK_ok (Q := OutOk n) (kp := .panic) (kkp := fun v st => .ok (.panic v, st)) OutOk.err hm ih (fun v t d σ => rfl) t d σ
    · show OutOk n _ (R.bd ((⟨n, t, d, σ⟩ : St).put o.dst .undef) _)
      refine stS_ok fun sd hsd => ?_
      obtain ⟨t', e1, e2⟩ := putQ_ok hsd t d σ .undef
      rw [e1]
      show OutOk n (sd.app .undef t _) _
      rw [e2]
      exact ih _ _ _

/-! ### In whatever order -/
abbrev CK := Fn (List Heap → Bool)
abbrev DF := Fn (MF → Option Nat → Nat → Row → List ADef → Heap → List Heap → List CK → Out)
noncomputable def stD {α : Type} (x : R α) (f : α → DF) : DF := R.rec (motive := fun _ => DF) f (fun s => ⟨fun _ _ _ _ _ _ _ _ => .err s⟩) x

/-- At so many levels. -/
noncomputable def lvT (k : Nat) : Fn (List Heap → (Heap → Bool) → Bool) :=
  Nat.rec (motive := fun _ => Fn (List Heap → (Heap → Bool) → Bool)) ⟨fun _ _ => true⟩ (fun _ ih => ⟨fun l f => List.rec (motive := fun _ => Bool) true (fun a l _ => band (f a) (ih.app l f)) l⟩) k
noncomputable def lvF (lo k : Nat) : Fn (List Heap → (Heap → Bool) → Bool) :=
  Nat.rec (motive := fun _ => Fn (List Heap → (Heap → Bool) → Bool)) (lvT k) (fun _ ih => ⟨fun l f => List.rec (motive := fun _ => Bool) true (fun _ l _ => ih.app l f) l⟩) lo
theorem lvT_ok : ∀ {k : Nat} {l : List Heap} {f : Heap → Bool}, (lvT k).app l f = true → (l.take k).all f = true
  | 0, _, _, _ => by simp
  | k + 1, [], _, _ => by simp
  | k + 1, a :: l, f, h => by
    obtain ⟨h1, h2⟩ := band_ok (a := f a) (b := (lvT k).app l f) h
    rw [List.take_succ_cons, List.all_cons, h1, lvT_ok h2]; rfl
theorem lvF_ok : ∀ {lo k : Nat} {l : List Heap} {f : Heap → Bool}, (lvF lo k).app l f = true → ((l.drop lo).take k).all f = true
  | 0, k, l, f, h => by rw [List.drop_zero]; exact lvT_ok h
  | lo + 1, k, [], f, h => by simp
  | lo + 1, k, a :: l, f, h => by rw [List.drop_succ_cons]; exact lvF_ok (lo := lo) h

noncomputable def chkV (x : R AV) (v : AV) : Bool := R.rec (motive := fun _ => Bool) (fun a => beqQ a v) (fun _ => false) x
noncomputable def seenAll (snaps : List Heap) (seen : List CK) : Bool := List.rec (motive := fun _ => Bool) true (fun c _ ih => band (c.app snaps) ih) seen

noncomputable def forgetF (n : Nat) (l : List Pos) : R (Fn (Row → (Row → Out) → Out)) :=
  List.rec (motive := fun _ => R (Fn (Row → (Row → Out) → Out))) (.ok ⟨fun t k => k t⟩) (fun p _ ih => (setD n p.op.dst).bd fun sd => ih.bd fun f => .ok ⟨fun t k => sd.app .any t fun t => f.app t k⟩) l
theorem forgetF_ok {n : Nat} : ∀ {l : List Pos} {f : Fn (Row → (Row → Out) → Out)}, forgetF n l = .ok f → ∀ t, ∃ t', forget n l t = .ok t' ∧ ∀ k, f.app t k = k t'
  | [], f, h, t => by cases h; exact ⟨t, rfl, fun k => rfl⟩
  | p :: l, f, h, t => by
    obtain ⟨sd, h1, h2⟩ := bd_ok h
    obtain ⟨g, h3, h4⟩ := bd_ok h2
    cases h4
    obtain ⟨t1, e1, e2⟩ := setD_ok h1 t .any
    obtain ⟨t2, e3, e4⟩ := forgetF_ok h3 t1
    refine ⟨t2, ?_, fun k => ?_⟩
    · show (putT n t p.op.dst .any).bd _ = _
      rw [e1, bd_mk]; exact e3
    · show sd.app .any t _ = _
      rw [e2, e4]

noncomputable def snoc (l : List Heap) (a : Heap) : List Heap := List.rec (motive := fun _ => List Heap) [a] (fun b _ ih => b :: ih) l
theorem snoc_eq (a : Heap) : ∀ l : List Heap, snoc l a = l ++ [a]
  | [] => rfl
  | b :: l => congrArg (b :: ·) (snoc_eq a l)

noncomputable def drawStep (P : Program) (n : Nat) (all : List Pos) (p : Pos) (ps : List Pos) (rest : DF) : DF :=
  match p.kind with
  | .pure => stD (setD n p.op.dst) fun sd => Bool.rec (motive := fun _ => DF)
      ⟨fun m rnd n0 t d σ snaps seen => R.out ((pureF P n p.op.op).app t σ) fun v => forceV v fun v => sd.app v t fun t => rest.app m rnd n0 t d σ snaps seen⟩
      ⟨fun m rnd n0 t d σ snaps seen => R.out ((pureF P n p.op.op).app t σ) fun v => forceV v fun v => sd.app v t fun t' => rest.app m rnd n0 t' d σ snaps (⟨fun l => (lvF p.lo (p.hi + 1 - p.lo)).app l fun σ' => chkV ((pureF P n p.op.op).app t σ') v⟩ :: seen)⟩ (readsHeap p.op.op)
  | .alloc => stD (setD n p.op.dst) fun sd => ⟨fun m rnd n0 t d σ snaps seen => R.out ((allocF P n p.op.op).app t) fun r => forceN (fun i => sd.app (r.2 i) t fun t => forceO r.1 fun o => hsetK i o σ.n σ.t fun σ => rest.app m rnd n0 t d σ snaps seen) (Nat.add n0 p.id)⟩
  | .loud => stD (forgetF n all) fun fg => ⟨fun m rnd n0 t d σ snaps seen => (loudK P n p.op).app m rnd t d σ (fun t d σ => rest.app m rnd n0 t d σ (snoc snaps σ) seen)
      (fun v t d σ => oIff (ps.all (fun q => bit q.anc p.ix)) (oIff (seenAll snaps seen) (fg.app t fun t => .panic v t d σ)))⟩

noncomputable def drawSkip (n : Nat) (p : Pos) (rest : DF) : DF :=
  stD (setD n p.op.dst) fun sd => match p.kind with
    | .loud => ⟨fun m rnd n0 t d σ snaps seen => sd.app .undef t fun t => rest.app m rnd n0 t d σ (snoc snaps σ) seen⟩
    | _ => ⟨fun m rnd n0 t d σ snaps seen => sd.app .undef t fun t => rest.app m rnd n0 t d σ snaps seen⟩

/-- If it is wanted. -/
noncomputable def guardD (ops : Array Oper) (n : Nat) (o : Oper) (yes no : DF) : DF :=
  match o.guard with
  | none => yes
  | some (j, want) =>
    match (ops[j]?).bind (·.dst) with
    | some g => stD (R.iff (Nat.blt g n) "guard" (.ok g)) fun g => ⟨fun m rnd n0 t d σ snaps seen => onGuardO (rget t g) (fun b => Bool.rec (motive := fun _ => Out) (no.app m rnd n0 t d σ snaps seen) (yes.app m rnd n0 t d σ snaps seen) (beqB b want)) (no.app m rnd n0 t d σ snaps seen)⟩
    | none => ⟨fun _ _ _ _ _ _ _ _ => .err "guard"⟩

noncomputable def drawF (P : Program) (n : Nat) (ops : Array Oper) (all : List Pos) (plan : List Pos) : DF :=
  List.rec (motive := fun _ => DF) ⟨fun _ _ _ t d σ snaps seen => oIff (seenAll snaps seen) (.norm t d σ)⟩ (fun p ps ih => guardD ops n p.op (drawStep P n all p ps ih) (drawSkip n p ih)) plan

/-- What is to be looked at again stands in both lists. -/
inductive SeenR (P : Program) : List CK → List Seen → Prop
  | nil : SeenR P [] []
  | cons {c : CK} {s : Seen} {cs : List CK} {ss : List Seen} (h : ∀ snaps, c.app snaps = true → seenOk P snaps s = true) (hs : SeenR P cs ss) : SeenR P (c :: cs) (s :: ss)

theorem SeenR.all {P : Program} {snaps : List Heap} : ∀ {cs : List CK} {ss : List Seen}, SeenR P cs ss → seenAll snaps cs = true → ss.all (seenOk P snaps) = true
  | _, _, .nil, _ => rfl
  | _, _, .cons h hs, e => by
    obtain ⟨h1, h2⟩ := band_ok e
    rw [List.all_cons, h _ h1, hs.all h2]; rfl

theorem stD_ok {n : Nat} {α : Type} {x : R α} {f : α → DF} {m : MF} {rnd : Option Nat} {n0 : Nat} {t : Row} {d : List ADef} {σ : Heap} {sn : List Heap} {se : List CK} {y : R (Ex × St)} (h : ∀ a, x = .ok a → OutOk n ((f a).app m rnd n0 t d σ sn se) y) : OutOk n ((stD x f).app m rnd n0 t d σ sn se) y := by
  cases x with
  | ok a => exact h a rfl
  | err s => trivial

theorem guardD_ok {n : Nat} {ops : Array Oper} {o : Oper} {yes no : DF} {mf : MF} {rnd : Option Nat} {n0 : Nat} {t : Row} {d : List ADef} {σ : Heap} {sn : List Heap} {se : List CK} {y : Bool → R (Ex × St)}
    (h1 : OutOk n (yes.app mf rnd n0 t d σ sn se) (y true)) (h2 : OutOk n (no.app mf rnd n0 t d σ sn se) (y false)) : OutOk n ((guardD ops n o yes no).app mf rnd n0 t d σ sn se) ((wantedA ops n t o).bd y) := by
  unfold guardD wantedA
  split
  · rename_i hg
    simp only [hg]
    exact h1
  · rename_i j want hg
    simp only [hg]
    split
    · rename_i g hd
      simp only [hd]
      cases hb : Nat.blt g n with
      | false => trivial
      | true =>
        show OutOk n (onGuardO (rget t g) (fun b => Bool.rec (motive := fun _ => Out) (no.app mf rnd n0 t d σ sn se) (yes.app mf rnd n0 t d σ sn se) (beqB b want)) (no.app mf rnd n0 t d σ sn se)) (R.bd (match rget t g with | .bool b => .ok (b == want) | .tuple _ => .ok false | _ => .err "guard") y)
        cases hv : rget t g <;> first | trivial | skip
        · rename_i b
          cases b <;> cases want <;> first | exact h1 | exact h2
    · trivial

/-- What a region's play tells. -/
noncomputable def played (P : Program) (x : R DSt) : R (Ex × St) := x.bd fun d => R.iff (d.seen.all (seenOk P d.snaps)) "order" (.ok (d.ex, d.st))

theorem drawF_ok {P : Program} {n n0 : Nat} {ops : Array Oper} {all : List Pos} {mf : MF} {m : Mach} (hm : MLe mf m) {rnd : Option Nat} : ∀ (ps : List Pos) (t : Row) (d : List ADef) (σ : Heap) (snaps : List Heap) (cs : List CK) (ss : List Seen), SeenR P cs ss →
    OutOk n ((drawF P n ops all ps).app mf rnd n0 t d σ snaps cs) (played P (drawA P m rnd ops n0 all ps ⟨n, t, d, σ⟩ snaps ss))
  | [], t, d, σ, snaps, cs, ss, hs => by
    refine oIff_ok fun h => ?_
    show R.iff (ss.all (seenOk P snaps)) _ _ = _
    rw [hs.all h]; rfl
  | p :: ps, t, d, σ, snaps, cs, ss, hs => by
    have ih := fun (t : Row) (d : List ADef) (σ : Heap) (snaps : List Heap) (cs : List CK) (ss : List Seen) (hs : SeenR P cs ss) => drawF_ok (P := P) (n0 := n0) (all := all) (ops := ops) (n := n) hm (rnd := rnd) ps t d σ snaps cs ss hs
    unfold played
    rw [drawA]
    show OutOk n ((guardD ops n p.op (drawStep P n all p ps (drawF P n ops all ps)) (drawSkip n p (drawF P n ops all ps))).app mf rnd n0 t d σ snaps cs) (R.bd (R.bd (wantedA ops n t p.op) _) _)
    have assoc : ∀ {α β γ : Type} (x : R α) (f : α → R β) (g : β → R γ), (x.bd f).bd g = x.bd fun a => (f a).bd g := fun x f g => by cases x <;> rfl
    rw [assoc]
    refine guardD_ok ?_ ?_
    · unfold drawStep
      cases hk : p.kind with
      | pure =>
        refine stD_ok fun sd hsd => ?_
        cases hr : readsHeap p.op.op with
        | false =>
          refine out_ok fun v hv => ?_
          obtain ⟨t', e1, e2⟩ := putQ_ok hsd t d σ v
          rw [forceV_eq, e2]
          show OutOk n _ (R.bd (R.bd (pureA P (evalA n t) σ p.op.op) _) _)
          rw [pureF_ok hv, bd_mk, e1]
          exact ih _ _ _ _ _ _ hs
        | true =>
          refine out_ok fun v hv => ?_
          obtain ⟨t', e1, e2⟩ := putQ_ok hsd t d σ v
          rw [forceV_eq, e2]
          show OutOk n _ (R.bd (R.bd (pureA P (evalA n t) σ p.op.op) _) _)
          rw [pureF_ok hv, bd_mk, e1]
          refine ih _ _ _ _ _ _ (.cons (fun sn h => ?_) hs)
          have h2 := lvF_ok h
          unfold seenOk atLevels
          rw [List.all_eq_true] at h2 ⊢
          intro σ' hσ
          have h3 := h2 σ' hσ
          cases hp : (pureF P n p.op.op).app t σ' with
          | err s => rw [hp] at h3; cases h3
          | ok a =>
            rw [hp] at h3
            have h3 : beqQ a v = true := h3
            simp only [pureF_ok hp]
            rw [beqQ_ok h3]
            exact AV.beq_refl v
      | alloc =>
        refine stD_ok fun sd hsd => out_ok fun r hr => ?_
        obtain ⟨t', e1, e2⟩ := putHQ_ok hsd t d σ (r.2 (n0 + p.id)) (σ.set (n0 + p.id) r.1)
        rw [forceN_eq]
        show OutOk n (sd.app (r.2 (n0 + p.id)) t _) _
        rw [e2, forceO_eq, hsetK_eq]
        show OutOk n _ (R.bd (R.bd (allocA P (evalA n t) p.op.op) _) _)
        rw [allocF_ok hr, bd_mk, e1]
        exact ih _ _ _ _ _ _ hs
      | loud =>
        refine stD_ok fun fg hfg => ?_
        show OutOk n _ (R.bd (R.bd (loudOp P m rnd p.op ⟨n, t, d, σ⟩) _) _)
        rw [assoc]
        have hb := loudK_ok (P := P) (o := p.op) (α := Ex × St) (Q := OutOk n) OutOk.err hm (rnd := rnd)
          (k := fun t d σ => (drawF P n ops all ps).app mf rnd n0 t d σ (snoc snaps σ) cs)
          (kp := fun v t d σ => oIff (ps.all (fun q => bit q.anc p.ix)) (oIff (seenAll snaps cs) (fg.app t fun t => .panic v t d σ)))
          (kk := fun st => played P (drawA P m rnd ops n0 all ps st (snaps ++ [st.heap]) ss))
          (kkp := fun v st => (if ps.all (fun q => bit q.anc p.ix) then (forget st.n all st.tmps).bd fun t => .ok ⟨.panic v, ⟨st.n, t, st.defers, st.heap⟩, snaps, ss⟩ else .err "a panic with more to do" : R DSt).bd fun d => R.iff (d.seen.all (seenOk P d.snaps)) "order" (.ok (d.ex, d.st)))
          (fun t d σ => by rw [snoc_eq]; exact ih _ _ _ _ _ _ hs)
          (fun v t d σ => by
            refine oIff_ok fun h1 => oIff_ok fun h2 => ?_
            obtain ⟨t', e1, e2⟩ := forgetF_ok hfg t
            rw [if_pos h1, e2]
            show R.bd (R.bd (forget n all t) _) _ = _
            rw [e1]
            show R.iff (ss.all (seenOk P snaps)) _ _ = _
            rw [hs.all h2]; rfl) t d σ
        unfold Behind at hb
        refine cast ?_ hb
        congr 2
        funext r
        obtain ⟨x, st⟩ := r
        cases x <;> rfl
    · show OutOk n _ (R.bd (match false, p.kind with
          | true, .pure => _
          | true, .alloc => _
          | true, .loud => _
          | false, .loud => ((⟨n, t, d, σ⟩ : St).put p.op.dst .undef).bd fun st' => drawA P m rnd ops n0 all ps st' (snaps ++ [σ]) ss
          | false, _ => ((⟨n, t, d, σ⟩ : St).put p.op.dst .undef).bd fun st' => drawA P m rnd ops n0 all ps st' snaps ss) _)
      unfold drawSkip
      refine stD_ok fun sd hsd => ?_
      cases hk : p.kind with
      | pure => simp only; obtain ⟨t', e1, e2⟩ := putQ_ok hsd t d σ .undef; rw [e1, e2]; exact ih _ _ _ _ _ _ hs
      | alloc => simp only; obtain ⟨t', e1, e2⟩ := putQ_ok hsd t d σ .undef; rw [e1, e2]; exact ih _ _ _ _ _ _ hs
      | loud => simp only; obtain ⟨t', e1, e2⟩ := putQ_ok hsd t d σ .undef; rw [e1, e2, snoc_eq]; exact ih _ _ _ _ _ _ hs

noncomputable def playF (P : Program) (n : Nat) (ops : Array Oper) (plan : List Pos) : SF :=
  ⟨fun m rnd t d σ => oIff (Nat.blt (Nat.add σ.n (allocsIn plan)) most) (forceN (fun n0 => (drawF P n ops plan plan).app m rnd n0 t d ⟨Nat.add n0 (allocsIn plan), σ.t⟩ [⟨Nat.add n0 (allocsIn plan), σ.t⟩] []) σ.n)⟩

theorem playF_ok {P : Program} {n : Nat} {ops : Array Oper} {plan : List Pos} {mf : MF} {m : Mach} (hm : MLe mf m) {rnd : Option Nat} (t : Row) (d : List ADef) (σ : Heap) :
    OutOk n ((playF P n ops plan).app mf rnd t d σ) ((playA P m rnd ops plan ⟨n, t, d, σ⟩).bd fun d => .ok (d.ex, d.st)) := by
  refine oIff_ok fun h => ?_
  rw [forceN_eq]
  have := drawF_ok (P := P) (n := n) (n0 := σ.n) (ops := ops) (all := plan) hm (rnd := rnd) plan t d (σ.more (allocsIn plan)) [σ.more (allocsIn plan)] [] [] .nil
  refine cast ?_ this
  congr 1
  unfold playA played
  show _ = R.bd (R.iff (Nat.blt (σ.n + allocsIn plan) most) _ _) _
  rw [show Nat.blt (σ.n + allocsIn plan) most = true from h]
  show R.bd (drawA P m rnd ops σ.n plan plan ⟨n, t, d, σ.more (allocsIn plan)⟩ [σ.more (allocsIn plan)] []) _ = R.bd (R.bd (drawA P m rnd ops σ.n plan plan ⟨n, t, d, σ.more (allocsIn plan)⟩ [σ.more (allocsIn plan)] []) _) _
  cases drawA P m rnd ops σ.n plan plan ⟨n, t, d, σ.more (allocsIn plan)⟩ [σ.more (allocsIn plan)] [] with
  | err s => rfl
  | ok x =>
    show R.iff (x.seen.all (seenOk P x.snaps)) _ _ = R.bd (R.iff (x.seen.all (seenOk P x.snaps)) _ _) _
    cases x.seen.all (seenOk P x.snaps) <;> rfl

noncomputable def onNorm (o : Out) (f : Row → List ADef → Heap → Out) : Out := Out.rec (motive := fun _ => Out) f (fun _ _ _ _ => .err "norm") (fun _ _ _ => .err "norm") (fun _ _ _ _ => .err "norm") .err o
noncomputable def unlikeF (x y : OF) (t : Row) : Bool := isPtr (x.app t) fun i _ => isPtr (y.app t) fun j _ => band (bnot (Nat.beq i j)) (band (Nat.blt i most) (Nat.blt j most))

noncomputable def pairF (P : Program) (n : Nat) (ops : Array Oper) (ms : List Nat) (plan : List Pos) : SF :=
  match splitTwo plan with
  | some (pre, a, b) =>
    (match storeTo a.op, storeTo b.op with
    | some x, some y =>
      stS (R.iff (planOk ops (ms.set b.ix (b.behind a).anc) (pre ++ [a, b.behind a]) [] 0 && planOk ops (ms.set a.ix (a.behind b).anc) (pre ++ [b, a.behind b]) [] 0) "plan of two stores" (.ok ())) fun _ =>
      stS (opd n x) fun fx => stS (opd n y) fun fy =>
      ⟨fun m rnd t d σ => onNorm ((playF P n ops (pre ++ [a, b.behind a])).app m rnd t d σ) fun t1 d1 σ1 => onNorm ((playF P n ops (pre ++ [b, a.behind b])).app m rnd t d σ) fun _ _ _ => oIff (unlikeF fx fy t1) (.norm t1 d1 σ1)⟩
    | _, _ => ⟨fun _ _ _ _ _ => .err "plan"⟩)
  | none => ⟨fun _ _ _ _ _ => .err "plan"⟩

theorem unlikeF_ok {n : Nat} {x y : Operand} {fx fy : OF} (hx : opd n x = .ok fx) (hy : opd n y = .ok fy) {t : Row} {d : List ADef} {σ : Heap} (h : unlikeF fx fy t = true) : unlike ⟨n, t, d, σ⟩ x y = true := by
  unfold unlikeF at h
  unfold unlike
  show (match evalA n t x, evalA n t y with | .ok (.ptr (some (i, _))), .ok (.ptr (some (j, _))) => !(Nat.beq i j) && (Nat.blt i most && Nat.blt j most) | _, _ => false) = true
  rw [opd_ok hx, opd_ok hy]
  cases hv : fx.app t with
  | ptr a =>
    rw [hv] at h
    cases a with
    | none => cases h
    | some p =>
      have h : isPtr (fy.app t) (fun j _ => band (bnot (Nat.beq p.1 j)) (band (Nat.blt p.1 most) (Nat.blt j most))) = true := h
      cases hw : fy.app t with
      | ptr b =>
        rw [hw] at h
        cases b with
        | none => cases h
        | some q =>
          obtain ⟨h1, h⟩ := band_ok (a := bnot (Nat.beq p.1 q.1)) (b := band (Nat.blt p.1 most) (Nat.blt q.1 most)) h
          obtain ⟨h2, h3⟩ := band_ok h
          rw [bnot_eq] at h1
          simp only
          rw [h1, h2, h3]; rfl
      | _ => rw [hw] at h; cases h
  | _ => rw [hv] at h; cases h

theorem pairF_ok {P : Program} {n : Nat} {ops : Array Oper} {ms : List Nat} {plan : List Pos} {mf : MF} {m : Mach} (hm : MLe mf m) {rnd : Option Nat} (t : Row) (d : List ADef) (σ : Heap) :
    OutOk n ((pairF P n ops ms plan).app mf rnd t d σ) (pairA P m rnd ops ms plan ⟨n, t, d, σ⟩) := by
  unfold pairF pairA
  split
  · rename_i pre a b hs
    simp only [hs]
    split
    · rename_i x y hx hy
      simp only [hx, hy]
      refine stS_ok fun u hu => stS_ok fun fx hfx => stS_ok fun fy hfy => ?_
      obtain ⟨hp, _⟩ := iff_ok hu
      rw [hp]
      show OutOk n (onNorm _ _) (R.bd (playA P m rnd ops (pre ++ [a, b.behind a]) ⟨n, t, d, σ⟩) _)
      have h1 := playF_ok (P := P) (n := n) (ops := ops) (plan := pre ++ [a, b.behind a]) hm (rnd := rnd) t d σ
      have h2 := playF_ok (P := P) (n := n) (ops := ops) (plan := pre ++ [b, a.behind b]) hm (rnd := rnd) t d σ
      cases ho1 : (playF P n ops (pre ++ [a, b.behind a])).app mf rnd t d σ <;> rw [ho1] at h1 <;> first | trivial | skip
      rename_i t1 d1 σ1
      show OutOk n (onNorm _ _) _
      cases ho2 : (playF P n ops (pre ++ [b, a.behind b])).app mf rnd t d σ <;> rw [ho2] at h2 <;> first | trivial | skip
      rename_i t2 d2 σ2
      refine oIff_ok fun hu => ?_
      obtain ⟨x1, e1, e2⟩ := bd_ok (show R.bd _ _ = _ from h1)
      obtain ⟨x2, e3, e4⟩ := bd_ok (show R.bd _ _ = _ from h2)
      rw [e1, bd_mk, e3, bd_mk]
      injection e2 with e2
      injection e4 with e4
      injection e2 with e5 e6
      injection e4 with e7 e8
      rw [e5, e6, e7, unlikeF_ok hfx hfy hu]
      rfl
    · trivial
  · trivial

noncomputable def drawnF (P : Program) (n : Nat) (ops : Array Oper) (as ls : List Nat) (pl : List Pos) : SF :=
  stS (R.iff (sameQ (loudIxsQ pl) ls) "plan" (.ok ())) fun _ =>
    Bool.rec (motive := fun _ => SF) (stS (R.iff (bnot (planOk ops (ancs ops.toList []) (planOf P ops.toList) [] 0)) "plan" (.ok ())) fun _ => pairF P n ops (ancs ops.toList []) (planOf P ops.toList)) (playF P n ops pl) (planOkQ ops (lenO ops.toList) as pl [] 0)

noncomputable def regionF (P : Program) (n : Nat) (ops : Array Oper) (draw : Bool) : SF :=
  Bool.rec (motive := fun _ => SF) (opsF P n ops ops.toList)
    (stS (R.iff (P.follows .mixedOrders) "plan" (.ok ())) fun _ =>
      drawnF P n ops (ancsQ ops.toList [] 0) (loudsQ P ops.toList 0) (planQ P ops.toList (ancsQ ops.toList [] 0) (loudsQ P ops.toList 0))) draw

theorem regionF_ok {P : Program} {n : Nat} {ops : Array Oper} {draw : Bool} {mf : MF} {m : Mach} (hm : MLe mf m) {rnd : Option Nat} (t : Row) (d : List ADef) (σ : Heap) :
    OutOk n ((regionF P n ops draw).app mf rnd t d σ) (regionA P m rnd ops draw ⟨n, t, d, σ⟩) := by
  cases draw with
  | false => exact opsF_ok hm _ _ _ _
  | true =>
    refine stS_ok fun u hu => ?_
    obtain ⟨hp, _⟩ := iff_ok hu
    rw [planQ_eq]
    refine stS_ok fun u2 hu2 => ?_
    obtain ⟨hq, _⟩ := iff_ok hu2
    rw [loudIxsQ_eq, loudsQ_eq] at hq
    have hq := sameQ_ok hq
    unfold regionA
    show OutOk n _ (R.iff _ _ _)
    rw [hp, hq]
    have hanc : ancsQ ops.toList [] 0 = ancs ops.toList [] := by have := ancsQ_eq ops.toList []; simpa using this.symm
    cases hk : planOkQ ops (lenO ops.toList) (ancsQ ops.toList [] 0) (planOf P ops.toList) [] 0 with
    | false =>
      refine stS_ok fun u3 hu3 => ?_
      obtain ⟨hr, _⟩ := iff_ok hu3
      rw [bnot_eq] at hr
      cases hk2 : planOk ops (ancs ops.toList []) (planOf P ops.toList) [] 0 with
      | false => exact pairF_ok hm _ _ _
      | true => rw [hk2] at hr; cases hr
    | true =>
      rw [lenO_eq, hanc] at hk
      have hk : planOkQ ops ops.size (ancs ops.toList []) (planOf P ops.toList) (([] : List Pos).map (seatOf ops)) 0 = true := hk
      rw [planOkQ_ok hk]
      exact playF_ok hm _ _ _

/-! ### Code -/
noncomputable def onOut (o : Out) (f : Row → List ADef → Heap → Out) : Out := Out.rec (motive := fun _ => Out) f .exit .ret .panic .err o

noncomputable def rangeF (m : MF) (n : Nat) (v : AV) (params : Array Tmp) (assign body : Code) (t : Row) (d : List ADef) (σ : Heap) : Out :=
  match v with
  | .func g first cap =>
    oIff (Nat.blt (σ.n + 1) most) <| forceN (fun i =>
    R.out (m.call g (first ++ [.yield (i + 1)] ++ cap) ((σ.push .defd).push (.loop { state := .ready, pending := none, tmps := t, n := n, params := params.toList, assign, body }))) fun x =>
    (match x with
    | (.returned _, σ') =>
      (match σ'.get (i + 1) with
      | .loop r =>
        if r.state = .busy then .err "range: busy" else
        (match r.pending with
        | none => .norm t (.mark i :: d) (σ'.set (i + 1) (.loop { r with state := .exhausted }))
        | some c => m.code n none c t (.mark i :: d) (σ'.set (i + 1) (.loop { r with state := .exhausted })))
      | _ => .err "range: no loop")
    | (.panicked _, _) => .err "range: a panic")) σ.n
  | _ => .err "range over what?"

noncomputable def codeF (P : Program) (n : Nat) (c : Code) : SF :=
  match c with
  | .skip => ⟨fun _ _ t d σ => .norm t d σ⟩
  | .region _ ops draw => regionF P n ops draw
  | .seq a b => ⟨fun m rnd t d σ => onOut (m.code n rnd a t d σ) fun t d σ => m.code n rnd b t d σ⟩
  | .cond c a b => stS (opd n c) fun f => ⟨fun m rnd t d σ => onBoolO (f.app t) fun q => Bool.rec (motive := fun _ => Out) (m.code n rnd b t d σ) (m.code n rnd a t d σ) q⟩
  | .block id b => ⟨fun m rnd t d σ => Out.rec (motive := fun _ => Out) .norm (fun id' t d σ => Bool.rec (motive := fun _ => Out) (.exit id' t d σ) (.norm t d σ) (Nat.beq id' id)) .ret .panic .err (m.code n rnd b t d σ)⟩
  | .loop b => ⟨fun m rnd t d σ => onOut (m.code n rnd b t d σ) fun t d σ => m.code n rnd (.loop b) t d σ⟩
  | .rangeFunc f ps a b => stS (opd n f) fun g => ⟨fun m rnd t d σ => Option.rec (motive := fun _ => Out) (rangeF m n (g.app t) ps a b t d σ) (fun _ => .err "range in a round") rnd⟩
  | .exit id => ⟨fun _ _ t d σ => .exit id t d σ⟩
  | .ret => ⟨fun _ _ t d σ => .ret t d σ⟩
  | _ => ⟨fun _ _ _ _ _ => .err "code"⟩

theorem onOut_ok {n : Nat} {o : Out} {x : R (Ex × St)} (h : OutOk n o x) {f : Row → List ADef → Heap → Out} {g : St → R (Ex × St)} (hf : ∀ t d σ, OutOk n (f t d σ) (g ⟨n, t, d, σ⟩)) :
    OutOk n (onOut o f) (x.bd fun r => match r.1 with | .normal => g r.2 | x => .ok (x, r.2)) := by
  cases o with
  | norm t d σ => rw [show x = _ from h]; exact hf _ _ _
  | exit id t d σ => rw [show x = _ from h]; exact rfl
  | ret t d σ => rw [show x = _ from h]; exact rfl
  | panic v t d σ => rw [show x = _ from h]; exact rfl
  | err s => trivial

theorem rangeF_ok {P : Program} {mf : MF} {m : Mach} (hm : MLe mf m) {n : Nat} {f : Operand} {g : OF} (hg : opd n f = .ok g) (params : Array Tmp) (assign body : Code) (t : Row) (d : List ADef) (σ : Heap) :
    OutOk n (rangeF mf n (g.app t) params assign body t d σ) (rangeA P m f params assign body ⟨n, t, d, σ⟩) := by
  unfold rangeA
  show OutOk n _ (R.bd (evalA n t f) _)
  rw [opd_ok hg, bd_mk]
  unfold rangeF
  cases hv : g.app t <;> first | trivial | skip
  rename_i fn first cap
  refine oIff_ok fun hb => ?_
  rw [forceN_eq]
  refine out_ok fun x hx => ?_
  show OutOk n _ (R.iff (Nat.blt (σ.n + 1) most) _ _)
  rw [hb]
  show OutOk n _ (R.bd (m.call fn (first ++ [.yield (σ.n + 1)] ++ cap) ((σ.push .defd).push (.loop { state := .ready, pending := none, tmps := t, n := n, params := params.toList, assign, body }))) _)
  rw [hm.call _ _ _ _ hx, bd_mk]
  obtain ⟨e, σ'⟩ := x
  cases e with
  | panicked v => trivial
  | returned v =>
    simp only
    cases hl : σ'.get (σ.n + 1) <;> first | trivial | skip
    rename_i r
    simp only
    split
    · trivial
    · rename_i hs
      split
      · rename_i hp; simp only [hp]; exact rfl
      · rename_i c hp
        simp only [hp]
        have := hm.code n none c t (.mark σ.n :: d) (σ'.set (σ.n + 1) (.loop { r with state := .exhausted }))
        simpa only [hp] using this

theorem codeF_ok {P : Program} {mf : MF} {m : Mach} (hm : MLe mf m) (n : Nat) (rnd : Option Nat) (c : Code) (t : Row) (d : List ADef) (σ : Heap) : OutOk n ((codeF P n c).app mf rnd t d σ) (codeA P m rnd c ⟨n, t, d, σ⟩) := by
  cases c with
  | skip => exact rfl
  | region id ops draw => exact regionF_ok hm _ _ _
  | seq a b => exact onOut_ok (hm.code _ _ _ _ _ _) fun t d σ => hm.code _ _ _ _ _ _
  | cond c a b =>
    refine stS_ok fun f hf => ?_
    show OutOk n (onBoolO (f.app t) fun q => Bool.rec (motive := fun _ => Out) (mf.code n rnd b t d σ) (mf.code n rnd a t d σ) q) (R.bd (evalA n t c) _)
    rw [opd_ok hf, bd_mk]
    cases hv : f.app t <;> first | trivial | skip
    rename_i q
    cases q with
    | true => exact hm.code _ _ _ _ _ _
    | false => exact hm.code _ _ _ _ _ _
  | block id b =>
    have h := hm.code n rnd b t d σ
    show OutOk n (Out.rec (motive := fun _ => Out) .norm (fun id' t d σ => Bool.rec (motive := fun _ => Out) (.exit id' t d σ) (.norm t d σ) (Nat.beq id' id)) .ret .panic .err (mf.code n rnd b t d σ)) ((m.code rnd b ⟨n, t, d, σ⟩).bd fun r => (match r.1 with
    | .exit id' => Bool.rec (motive := fun _ => R (Ex × St)) (.ok (.exit id', r.2)) (.ok (.normal, r.2)) (Nat.beq id' id)
    | x => .ok (x, r.2)))
    cases ho : mf.code n rnd b t d σ <;> rw [ho] at h
    · rw [show m.code rnd b _ = _ from h]; exact rfl
    · rename_i id' t' d' σ'
      rw [show m.code rnd b _ = _ from h, bd_mk]
      show OutOk n (Bool.rec (motive := fun _ => Out) (.exit id' t' d' σ') (.norm t' d' σ') (Nat.beq id' id)) (Bool.rec (motive := fun _ => R (Ex × St)) _ _ (Nat.beq id' id))
      cases Nat.beq id' id <;> exact rfl
    · rw [show m.code rnd b _ = _ from h]; exact rfl
    · rw [show m.code rnd b _ = _ from h]; exact rfl
    · trivial
  | loop b => exact onOut_ok (hm.code _ _ _ _ _ _) fun t d σ => hm.code _ _ _ _ _ _
  | rangeFunc f ps a b =>
    refine stS_ok fun g hg => ?_
    cases rnd with
    | some r => trivial
    | none => exact rangeF_ok (P := P) hm hg _ _ _ _ _ _
  | exit id => exact rfl
  | ret => exact rfl
  | _ => trivial

/-! ### Calls -/
noncomputable def resF (P : Program) (l : List ResultVar) (n : Nat) : Fn (Row → Heap → R (List AV)) :=
  List.rec (motive := fun _ => Fn (Row → Heap → R (List AV))) ⟨fun _ _ => .ok []⟩ (fun r _ ih => match r with
    | .tmp t => Bool.rec (motive := fun _ => Fn (Row → Heap → R (List AV))) ⟨fun _ _ => no⟩ ⟨fun r σ => (ih.app r σ).bd fun vs => .ok (rget r t :: vs)⟩ (Nat.blt t n)
    | .cell a ty => Bool.rec (motive := fun _ => Fn (Row → Heap → R (List AV))) ⟨fun _ _ => no⟩ ⟨fun r σ => ((loadF P ty ⟨fun r => rget r a⟩).app r σ).bd fun v => (ih.app r σ).bd fun vs => .ok (v :: vs)⟩ (Nat.blt a n)) l
theorem resF_ok {P : Program} {n : Nat} {t : Row} {σ : Heap} : ∀ {l : List ResultVar} {vs : List AV}, (resF P l n).app t σ = .ok vs → resultsA P l n t σ = .ok vs
  | [], vs, h => h
  | .tmp i :: l, vs, h => by
    have h : (Bool.rec (motive := fun _ => Fn (Row → Heap → R (List AV))) ⟨fun _ _ => no⟩ ⟨fun r σ => ((resF P l n).app r σ).bd fun vs => .ok (rget r i :: vs)⟩ (Nat.blt i n)).app t σ = .ok vs := h
    unfold resultsA
    cases hb : Nat.blt i n with
    | false => rw [hb] at h; exact no_ok h
    | true =>
      rw [hb] at h
      obtain ⟨ws, h1, h2⟩ := bd_ok (show R.bd _ _ = _ from h)
      show (resultsA P l n t σ).bd _ = _
      rw [resF_ok h1]; exact h2
  | .cell a ty :: l, vs, h => by
    have h : (Bool.rec (motive := fun _ => Fn (Row → Heap → R (List AV))) ⟨fun _ _ => no⟩ ⟨fun r σ => ((loadF P ty ⟨fun r => rget r a⟩).app r σ).bd fun v => ((resF P l n).app r σ).bd fun vs => .ok (v :: vs)⟩ (Nat.blt a n)).app t σ = .ok vs := h
    unfold resultsA
    cases hb : Nat.blt a n with
    | false => rw [hb] at h; exact no_ok h
    | true =>
      rw [hb] at h
      obtain ⟨v, h0, h3⟩ := bd_ok (show R.bd _ _ = _ from h)
      obtain ⟨ws, h1, h2⟩ := bd_ok h3
      show (loadA P σ ty (rget t a)).bd _ = _
      rw [loadF_ok h0, bd_mk, resF_ok h1]; exact h2

noncomputable def leaveF (P : Program) (dn : DNat) (fn : Func) (t : Row) (d : List ADef) (u : Option AV) (σ : Heap) : R (AEnd × Heap) :=
  List.rec (motive := fun _ => R (AEnd × Heap)) (Option.rec (motive := fun _ => R (AEnd × Heap)) (((resF P fn.results.toList fn.ntmps).app t σ).bd fun vs => .ok (.returned (packA vs), σ)) (fun v => .ok (.panicked v, σ)) u)
    (fun a l _ => leaveA P dn fn fn.ntmps t (a :: l) u σ) d
theorem leaveF_ok {P : Program} {dn : DNat} {fn : Func} {t : Row} {d : List ADef} {u : Option AV} {σ : Heap} {r : AEnd × Heap} (h : leaveF P dn fn t d u σ = .ok r) : leaveA P dn fn fn.ntmps t d u σ = .ok r := by
  cases d with
  | cons a l => exact h
  | nil =>
    cases u with
    | some v => rw [leaveA]; exact h
    | none =>
      obtain ⟨vs, h1, h2⟩ := bd_ok (show R.bd ((resF P fn.results.toList fn.ntmps).app t σ) _ = _ from h)
      rw [leaveA, resF_ok h1]; exact h2

noncomputable def endF (P : Program) (dn : DNat) (fn : Func) (o : Out) : R (AEnd × Heap) :=
  Out.rec (motive := fun _ => R (AEnd × Heap)) (fun t d σ => leaveF P dn fn t d none σ) (fun _ _ _ _ => no) (fun t d σ => leaveF P dn fn t d none σ) (fun v t d σ => leaveF P dn fn t d (some v) σ) .err o

noncomputable def callF (P : Program) (nt : Nat1) (dn : DNat) (f : FuncId) : Fn (MF → List AV → Heap → R (AEnd × Heap)) :=
  match nt f with
  | some g => ⟨fun _ => g⟩
  | none =>
    match P.funcs[f]? with
    | some fn =>
      (match fn.body with
      | some c => Bool.rec (motive := fun _ => Fn (MF → List AV → Heap → R (AEnd × Heap))) ⟨fun _ _ _ => no⟩ ⟨fun m args σ => R.iff (Nat.ble (lenF args) fn.ntmps) "arguments" (putK args 0 .leaf fun t => endF P dn fn (m.code fn.ntmps none c t [] σ))⟩ (Nat.blt fn.ntmps most)
      | none => ⟨fun _ _ _ => no⟩)
    | none => ⟨fun _ _ _ => no⟩

theorem callF_ok {P : Program} {nt : Nat1} {dn : DNat} {mf : MF} {m : Mach} (hm : MLe mf m) {f : FuncId} {args : List AV} {σ : Heap} {r : AEnd × Heap} (h : (callF P nt dn f).app mf args σ = .ok r) : callA P nt dn m f args σ = .ok r := by
  unfold callF at h
  unfold callA
  split at h
  · rename_i g hg; rw [hg]; exact h
  · rename_i hn
    rw [hn]
    simp only
    split at h
    · rename_i fn hf
      rw [hf]
      simp only
      split at h
      · rename_i c hb
        rw [hb]
        simp only
        cases hm1 : Nat.blt fn.ntmps most with
        | false => rw [hm1] at h; exact no_ok h
        | true =>
          rw [hm1] at h
          obtain ⟨h1, h2⟩ := iff_ok (show R.iff _ _ _ = _ from h)
          rw [lenF_eq] at h1
          rw [putK_eq] at h2
          have h2 : endF P dn fn (mf.code fn.ntmps none c (rowFrom args) [] σ) = .ok r := h2
          rw [h1]
          show R.bd (m.code none c ⟨fn.ntmps, rowFrom args, [], σ⟩) _ = _
          have hc := hm.code fn.ntmps none c (rowFrom args) [] σ
          unfold endF at h2
          cases ho : mf.code fn.ntmps none c (rowFrom args) [] σ <;> rw [ho] at h2 hc
          · rw [show m.code none c _ = _ from hc]; exact leaveF_ok h2
          · exact no_ok h2
          · rw [show m.code none c _ = _ from hc]; exact leaveF_ok h2
          · rw [show m.code none c _ = _ from hc]; exact leaveF_ok h2
          · cases h2
      · exact no_ok h
    · exact no_ok h

/-! ### The quick machine -/
noncomputable def stepF (P : Program) (nt : Nat1) (dn : DNat) (m : MF) : MF := ⟨fun f => (callF P nt dn f).app m, fun n rnd c t d σ => (codeF P n c).app m rnd t d σ⟩
noncomputable def runF (P : Program) (nt : Nat1) (dn : DNat) (n : Nat) : MF :=
  Nat.rec (motive := fun _ => MF) ⟨fun _ _ _ => no, fun _ _ _ _ _ _ => .err "depth"⟩ (fun _ ih => stepF P nt dn ih) n

theorem runF_le (P : Program) (nt : Nat1) (dn : DNat) (n : Nat) : MLe (runF P nt dn n) (run P nt dn n) := by
  induction n with
  | zero => exact ⟨fun f args σ r h => no_ok h, fun n rnd c t d σ => trivial⟩
  | succ n ih => exact ⟨fun f args σ r h => callF_ok ih h, fun n rnd c t d σ => codeF_ok ih _ _ _ _ _ _⟩

/-- **What the quick machine tells, the machine tells.** -/
theorem runF_call {P : Program} {nt : Nat1} {dn : DNat} {n : Nat} {f : FuncId} {args : List AV} {σ : Heap} {r : AEnd × Heap} (h : (runF P nt dn n).call f args σ = .ok r) : (run P nt dn n).call f args σ = .ok r :=
  (runF_le P nt dn n).call f args σ r h

end Go.Eng

namespace Go.Eng
open Go

/-- Each place as it was, or not told. -/
def Weaker (n : Nat) (t t' : Row) : Prop := ∀ i, i < n → rget t' i = rget t i ∨ rget t' i = .any

theorem TR.weaken {L : LM} {n : Nat} {t t' : Row} {a : Array Value} (h : TR L n t a) (hw : Weaker n t t') : TR L n t' a :=
  ⟨h.1, h.2.1, fun i hi => by
    obtain ⟨v, h1, h2⟩ := h.2.2 i hi
    rcases hw i hi with e | e
    · exact ⟨v, h1, by rw [e]; exact h2⟩
    · exact ⟨v, h1, by rw [e]; exact .any v⟩⟩

/-- Code from such a state ends so. -/
def Goes (P : Program) (c : Code) (st : St) (x : Ex) (st' : St) : Prop :=
  ∀ L a w, SR L st a w → c.wpIn (FW none) 0 P (CPost L st.heap w x st') a w

section
variable {P : Program} (hNG : ∀ (g : FuncId) (fn : Func), P.funcs[g]? = some fn → (fn.name == "runtime.NumGoroutine") = false)
include hNG

theorem Goes.run {nt : Nat1} {dn : DNat} (hnt : NatOk P nt) (hdn : DNatOk P dn) {n : Nat} {c : Code} {st st' : St} {x : Ex} (h : (run P nt dn n).code none c st = .ok (x, st')) : Goes P c st x st' :=
  fun L a w hs => (run_ok hNG hnt hdn (draw_ok hNG) n).1.code none c st x st' h L a w none trivial hs

theorem Goes.quick {nt : Nat1} {dn : DNat} (hnt : NatOk P nt) (hdn : DNatOk P dn) {n k : Nat} {c : Code} {t t' : Row} {d d' : List ADef} {σ σ' : Heap} (h : (runF P nt dn n).code k none c t d σ = .norm t' d' σ') : Goes P c ⟨k, t, d, σ⟩ .normal ⟨k, t', d', σ'⟩ := by
  have := (runF_le P nt dn n).code k none c t d σ
  rw [h] at this
  exact Goes.run hNG hnt hdn this
theorem Goes.quickRet {nt : Nat1} {dn : DNat} (hnt : NatOk P nt) (hdn : DNatOk P dn) {n k : Nat} {c : Code} {t t' : Row} {d d' : List ADef} {σ σ' : Heap} (h : (runF P nt dn n).code k none c t d σ = .ret t' d' σ') : Goes P c ⟨k, t, d, σ⟩ .ret ⟨k, t', d', σ'⟩ := by
  have := (runF_le P nt dn n).code k none c t d σ
  rw [h] at this
  exact Goes.run hNG hnt hdn this

omit hNG in
theorem Goes.weaken {c : Code} {n : Nat} {t t' : Row} {d : List ADef} {σ : Heap} {x : Ex} {st' : St} (h : Goes P c ⟨n, t', d, σ⟩ x st') (hw : Weaker n t t') : Goes P c ⟨n, t, d, σ⟩ x st' :=
  fun L a w hs => h L a w ⟨hs.tmps.weaken hw, hs.defs, hs.hr⟩

omit hNG in
theorem Goes.seq {c1 c2 : Code} {st st1 st2 : St} {x : Ex} (h1 : Goes P c1 st .normal st1) (h2 : Goes P c2 st1 x st2) : Goes P (.seq c1 c2) st x st2 := by
  intro L a w hs
  refine wpIn_seq (wpIn_mono (h1 L a w hs) ?_)
  intro e a1 w1 hc
  refine then_of hc ?_ fun hx => absurd rfl hx
  rintro _ L1 t1 s1
  exact wpIn_mono (h2 L1 a1 w1 s1) fun e a2 w2 h => h.trans t1

/-- A call whose body ends so. -/
theorem Goes.call {f : FuncId} {fn : Func} {c : Code} {args : List AV} {vs : List Value} {t : Row} {σ' : Heap} {vr : List AV} {dn : DNat} (hdn : DNatOk P dn)
    (hf : P.funcs[f]? = some fn) (hb : fn.body = some c) (hlen : args.length ≤ fn.ntmps) (hm : fn.ntmps < most) (hv : VRs (fun _ => none) args vs)
    (h : Goes P c ⟨fn.ntmps, rowFrom args, [], ⟨0, .leaf⟩⟩ .ret ⟨fn.ntmps, t, [], σ'⟩) (hr : resultsA P fn.results.toList fn.ntmps t σ' = .ok vr) (w : World) :
    Calls P f ⟨vs⟩ w fun e' w' => (∃ L, ER L (.returned (packA vr)) e') ∧ w'.os = w.os ∧ w'.tape = w.tape ∧ w'.output = w.output ∧ w.heap.size ≤ w'.heap.size ∧ ∀ k, k < w.heap.size → w'.heap[k]? = w.heap[k]? := by
  have hr0 : HR (fun _ => none) ⟨0, .leaf⟩ w := by
    refine ⟨fun i l h => (by cases h), Nat.zero_le _, fun i _ => by rw [Heap.get_leaf]; rfl, fun i h => ?_, fun i j _ _ _ _ h => (by cases h)⟩
    exact absurd h (by rw [Heap.get_leaf]; simp [AObj.live])
  have htr := rowFrom_TR (n := fn.ntmps) hv hlen hm
  have hc : CallsIn Fence.wide 0 P f ⟨vs⟩ w (EPost (fun _ => none) ⟨0, .leaf⟩ w (.returned (packA vr)) σ') := by
    refine callsIn_of_wp_marks (F := FW none) hf hb trivial ?_
    refine wpIn_mono (h _ _ w ⟨htr, .nil, hr0⟩) ?_
    rintro e1 a1 w1 ⟨L1, t1, d1, rfl, tm⟩
    exact leaveA_ok hNG (dn := dn) hdn (fn := fn) (n := fn.ntmps) (t := t) _ _ none _ _ L1 _ (by rw [leaveA, hr]; rfl) d1 rfl tm t1.hr t1
  refine callsIn_wide.1 (hc.mono ?_)
  rintro e' w' ⟨L', t, her⟩
  refine ⟨⟨L', her⟩, t.os, t.tape, t.output, t.size, fun k hk => t.frame k hk ?_⟩
  rintro ⟨i, l, _, hl, _⟩
  cases hl
end

def sq1 : Code → Code | .seq a _ => a | c => c
def sq2 : Code → Code | .seq _ b => b | c => c

/-- Ended by a return, nothing deferred, and such a place is true. -/
noncomputable def retTrue (i : Nat) (o : Out) : Bool :=
  Out.rec (motive := fun _ => Bool) (fun _ _ _ => false) (fun _ _ _ _ => false) (fun t d _ => List.rec (motive := fun _ => Bool) (isBool (rget t i) fun b => b) (fun _ _ _ => false) d) (fun _ _ _ _ => false) (fun _ => false) o
theorem retTrue_ok {i : Nat} {o : Out} (h : retTrue i o = true) : ∃ t σ, o = .ret t [] σ ∧ rget t i = .bool true := by
  cases o with
  | ret t d σ =>
    cases d with
    | nil =>
      refine ⟨t, σ, rfl, ?_⟩
      have h : isBool (rget t i) (fun b => b) = true := h
      cases hv : rget t i <;> rw [hv] at h <;> first | (cases h; done) | skip
      rename_i b
      have h' : b = true := h
      rw [h']
    | cons a l => cases h
  | _ => cases h

/-- A closed call's truth, for the kernel. -/
noncomputable def saysTrue (r : R (AEnd × Heap)) : Bool := R.rec (motive := fun _ => Bool) (fun p => AEnd.rec (motive := fun _ => Bool) (fun v => isBool v fun b => b) (fun _ => false) p.1) (fun _ => false) r
theorem saysTrue_ok {r : R (AEnd × Heap)} (h : saysTrue r = true) : ∃ σ, r = .ok (.returned (.bool true), σ) := by
  cases r with
  | err s => cases h
  | ok p =>
    obtain ⟨e, σ⟩ := p
    cases e with
    | panicked v => cases h
    | returned v =>
      replace h : isBool v (fun b => b) = true := h
      cases v with
      | bool b =>
        replace h : b = true := h
        exact ⟨σ, by rw [h]⟩
      | _ => cases h

theorem kept_old {w w' : World} (h1 : w'.os = w.os) (h2 : w'.output = w.output) (h : ∀ k, k < w.heap.size → w'.heap[k]? = w.heap[k]?) (may : MemPlace → Prop) : w.keptBut w' may := by
  refine ⟨h1, h2, fun i hi => ?_⟩
  rw [h i hi]
  cases he : w.heap[i]? with
  | none => rfl
  | some o => cases o <;> first | exact rfl | exact ⟨rfl, rfl, rfl, fun _ _ => rfl⟩ | exact .inr ⟨rfl, rfl⟩

end Go.Eng
