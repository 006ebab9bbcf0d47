/-
  The evaluator at the machine: what an operation of a region does there, and a region in the order of the text.
  The evaluator at the machine: code.
  The evaluator at the machine: calls and rounds.
  A region whose order is open: what the evaluator checks of it.
  A region whose order is open: the run in the order of the text.
  A region whose order is open: what holds when some of its operations are done.
  A region whose order is open: one more operation done.
  A region whose order is open: a mover done, a read.
  A region whose order is open: every order leads to what the order of the text leads to.
  A region whose order is open: the orders that the model lists, and the whole region.
  The evaluator with calls whose answer is known: each is the answer of a run of its own.
-/
import Derived.Test.YtloomikigalnfaaGreatDoorEvC
import Derived.RangeFuncIn
import Derived.Defers
set_option linter.unusedVariables false
set_option linter.unusedSimpArgs false
set_option linter.unusedSectionVars false

section
namespace Go.Ev
open Go

section
variable {P : Program} {E : Env}

/-! ### What is said of calls -/
/-- The function, entered in whatever kind of call, comes to its end with a result. -/
def CallR (P : Program) (kind : CallKind) (f : FuncId) (args : Array Value) (w : World) (v : Value) (w' : World) : Prop :=
  ∀ cs, ∃ fr, Steps P (lone (Frame.enter P f args kind) cs w) (lone fr cs w') ∧ fr.fn = f ∧ fr.mode = .returning ∧ fr.defers = [] ∧ fr.kind = kind ∧
    ∃ fn, P.funcs[f]? = some fn ∧ (results fn fr.tmps).run P w' = .ok v w'
/-- A round of a loop that ranges over a function comes to its end. -/
def RoundR (P : Program) (l : Nat) (f : FuncId) (tmps : Array Value) (as bd : Code) (w : World) (v : Value) (w' : World) : Prop :=
  ∀ c cs, Steps P (lone (Frame.round l f tmps as bd .normal) (c :: cs) w) (lone (c.finish v) cs w')
/-- What a call of the evaluator stands for. -/
structure ReqOK (P : Program) (ih : CallF) : Prop where
  call : ∀ f args H r, ih (.call f args H) = some r → ∀ kind φ w args', (kind = .normal ∨ kind = .deferred) → Rel φ H.at w → Dom φ H → VRs φ args args' →
    ∃ φ' v' w', VR φ' r.v v' ∧ Step φ φ' H r.H w w' ∧ (∀ w, (callFunc f ⟨args'⟩).run P w = .ok (.enter f ⟨args'⟩) w) ∧ CallR P kind f ⟨args'⟩ w v' w'
  yield : ∀ l args H r, ih (.yield l args H) = some r → ∀ φ w args' loc, Rel φ H.at w → Dom φ H → φ l = some loc → VRs φ args args' →
    ∃ φ' v' w', VR φ' r.v v' ∧ Step φ φ' H r.H w w' ∧ ∃ f tmps as bd, (Instr.yield loc.b ⟨args'⟩).run P w = .ok (.round loc.b f tmps as bd) w ∧ RoundR P loc.b f tmps as bd w v' w'

/-! ### Deferred calls, frames -/
inductive DR1 (φ : Map) : ADef → Deferred → Prop
  | coll {r : Nat} {l : Loc} (h : φ r = some l) : DR1 φ (.coll r) { target := .collected l.b, args := #[] }
  | call {f f' : Fn} {cap args : List AV} {cap' args' : List Value} (hf : FR φ f f') (hc : VRs φ cap cap') (ha : VRs φ args args') : DR1 φ (.call f cap args) { target := .fn f' ⟨cap'⟩, args := ⟨args'⟩ }
abbrev DR (φ : Map) : List ADef → List Deferred → Prop := All2 (DR1 φ)
theorem DR1.mono {φ φ' : Map} (h : Sub φ φ') {d : ADef} {d' : Deferred} (r : DR1 φ d d') : DR1 φ' d d' := by
  cases r with
  | coll hl => exact .coll (h _ _ hl)
  | call hf hc ha => exact .call (hf.mono h) (hc.mono h) (ha.mono h)
theorem DR.mono {φ φ' : Map} (h : Sub φ φ') {d : List ADef} {d' : List Deferred} (r : DR φ d d') : DR φ' d d' := r.imp fun _ _ q => q.mono h
/-- The round's loop. -/
def RO (φ : Map) (ro ro' : Option Nat) : Prop := match ro, ro' with
  | none, none => True
  | some l, some l' => ∃ loc, φ l = some loc ∧ loc.b = l'
  | _, _ => False
theorem RO.mono {φ φ' : Map} (h : Sub φ φ') {ro ro' : Option Nat} (r : RO φ ro ro') : RO φ' ro ro' := by
  cases ro <;> cases ro' <;> first | exact r | (obtain ⟨loc, h1, h2⟩ := r; exact ⟨loc, h _ _ h1, h2⟩)

/-! ### One operation -/
/-- The operation i of a region, carried out, leads from one act and world to others. -/
def DoesOp (P : Program) (ops : Array Oper) (i : Nat) (b : Frame) (a a1 : Act) (w w1 : World) : Prop :=
  ∀ rest k cs, Steps P (lone (b.atR a (.inRegion ops (i :: rest) :: k)) cs w) (lone (b.atR a1 (.inRegion ops rest :: k)) cs w1)
section
variable {ops : Array Oper} {i : Nat} {b : Frame} {a : Act} {w w1 : World} {o : Oper}
theorem fin_atR (ho : ops[i]? = some o) (a : Act) (rest : List Nat) (k : List Item) (v : Value) : (b.atR a (.inRegion ops (i :: rest) :: k)).finish v = b.atR (a.put o.dst v) (.inRegion ops rest :: k) := by
  rw [Frame.finish_atR, ho]; rfl
theorem does_value (ho : ops[i]? = some o) (hw : Region.wanted o (yielded ops a.tmps) = true) {v : Value} (h : (o.semAt b.roundOf a.eval).run P w = .ok (.value v) w1) : DoesOp P ops i b a (a.put o.dst v) w w1 := by
  intro rest k cs
  refine .one (step_lone_go ?_)
  rw [stepGR_op ho hw, ← fin_atR ho]
  simp [stepG.apply, h]
theorem does_skip (ho : ops[i]? = some o) (hw : Region.wanted o (yielded ops a.tmps) = true) (h : (o.semAt b.roundOf a.eval).run P w = .ok .skip w1) : DoesOp P ops i b a (a.put o.dst undef) w w1 := by
  intro rest k cs
  refine .one (step_lone_go ?_)
  rw [stepGR_op ho hw, ← fin_atR ho]
  simp [stepG.apply, h]
theorem does_defer (ho : ops[i]? = some o) (hw : Region.wanted o (yielded ops a.tmps) = true) {d : Deferred} (h : (o.semAt b.roundOf a.eval).run P w = .ok (.defer d) w1) : DoesOp P ops i b a ({ a with defers := d :: a.defers }.put o.dst undef) w w1 := by
  intro rest k cs
  refine .one (step_lone_go ?_)
  have hf : ({ b.atR a (.inRegion ops (i :: rest) :: k) with defers := d :: a.defers } : Frame).finish undef = b.atR ({ a with defers := d :: a.defers }.put o.dst undef) (.inRegion ops rest :: k) :=
    fin_atR (b := b) ho { a with defers := d :: a.defers } rest k undef
  rw [stepGR_op ho hw]
  simp only [stepG.apply, Sem.runT_eq, h, GStep.bare_after]
  exact congrArg (fun fr => GStep.go { frame := fr, callers := cs, status := .running, dying := none } w1) hf
theorem does_enter (ho : ops[i]? = some o) (hw : Region.wanted o (yielded ops a.tmps) = true) {f : FuncId} {args : Array Value} (h : (o.semAt b.roundOf a.eval).run P w = .ok (.enter f args) w) {v : Value} (hc : CallR P .normal f args w v w1) : DoesOp P ops i b a (a.put o.dst v) w w1 := by
  intro rest k cs
  have henter : step P (lone (b.atR a (.inRegion ops (i :: rest) :: k)) cs w) = .next (lone (Frame.enter P f args .normal) (b.atR a (.inRegion ops (i :: rest) :: k) :: cs) w) :=
    step_lone_go (by rw [stepGR_op ho hw]; simp [stepG.apply, h, Frame.atR])
  obtain ⟨fr, hs, hfn, hm, hd, hk, fn, hf, hr⟩ := hc (b.atR a (.inRegion ops (i :: rest) :: k) :: cs)
  refine .head henter (hs.trans (.one ?_))
  rw [← fin_atR ho]
  exact step_leave_returned ⟨hm, hd, hk, fn, by rw [hfn]; exact hf, hr⟩
theorem does_round (ho : ops[i]? = some o) (hw : Region.wanted o (yielded ops a.tmps) = true) {l : Nat} {f : FuncId} {tmps : Array Value} {as bd : Code} (h : (o.semAt b.roundOf a.eval).run P w = .ok (.round l f tmps as bd) w) {v : Value} (hc : RoundR P l f tmps as bd w v w1) : DoesOp P ops i b a (a.put o.dst v) w w1 := by
  intro rest k cs
  have henter : step P (lone (b.atR a (.inRegion ops (i :: rest) :: k)) cs w) = .next (lone (Frame.round l f tmps as bd .normal) (b.atR a (.inRegion ops (i :: rest) :: k) :: cs) w) :=
    step_lone_go (by rw [stepGR_op ho hw]; simp [stepG.apply, h, Frame.atR])
  have hs := hc (b.atR a (.inRegion ops (i :: rest) :: k)) cs
  rw [fin_atR ho] at hs
  exact .head henter hs
theorem does_not (hw : ((ops[i]?).map (Region.wanted · (yielded ops a.tmps))).getD false = false) (ho : ops[i]? = some o) : DoesOp P ops i b a (a.put o.dst undef) w w := by
  intro rest k cs
  have h := stepR_op_skip (P := P) (b := b) (a := a) (k := k) (cs := cs) (w := w) (ops := ops) (i := i) (rest := rest) hw
  rw [ho] at h
  exact .one h
end

theorem undef_VR (φ : Map) : VR φ undefA undef := .tup .nil
theorem cls_defer {c : Call} : cls (.defer c) E = .m := rfl
/-- What an operation of the class of movers does. -/
theorem mover_sound (hE : EnvOK P E) {ih : CallF} (hih : ReqOK P ih) {ops : Array Oper} {i : Nat} {o : Oper} (ho : ops[i]? = some o) {φ : Map} {H : AHeap} {w : World} (hr : Rel φ H.at w) (hD : Dom φ H) {b : Frame} {a : Act} (hw : Region.wanted o (yielded ops a.tmps) = true)
    {tm : FT} (hops : Ops φ a.eval tm o.op.operands.toList) {df : List ADef} (hdf : DR φ df a.defers) {ro : Option Nat} (hro : RO φ ro b.roundOf) {g : MF} (hg : mOp o.op E = some g) {q : ON} (hq : g tm H = some q) {p : PutF} {k : Kont} {s : FS} (h : doNext p q.n ih ro tm df q.H k = some s) :
    ∃ v df1 H1, p tm v (fun tm => k tm df1 H1) = some s ∧ ∃ φ1 v' w1 ds, VR φ1 v v' ∧ Step φ φ1 H H1 w w1 ∧ DR φ1 df1 ds ∧ DoesOp P ops i b a ({ a with defers := ds }.put o.dst v') w w1 := by
  have hm := mOp_sound (w := w) hE hr hD hg hq hops
  obtain ⟨n, H'⟩ := q
  have hsem : (∀ c, o.op ≠ .defer c) → o.semAt b.roundOf a.eval = execOp a.eval o := fun h => Oper.semAt_eq _ _ _ h
  cases n with
  | val v =>
    obtain ⟨φ', v', w', h1, h2, h3⟩ := hm
    have hnd : ∀ c, o.op ≠ .defer c := fun c e => by
      rw [e] at hg
      cases hcl : c.callee with
      | value f =>
        have hg' : (match c.callee with
          | .value f => ob (opS f) fun gf => ob (opsS c.args.toList) fun gas => some fun tm H => gf tm fun f => gas tm fun vs => onFn f fun f first cap => some ⟨.defer f cap (lapp first vs), H⟩
          | _ => none) = some g := hg
        rw [hcl] at hg'
        obtain ⟨gf, hgf, hg1⟩ := ob_eq hg'
        obtain ⟨gas, hgas, hg1⟩ := ob_eq hg1
        cases hg1
        obtain ⟨vf, hvf, hq1⟩ := opS_some hgf hq
        obtain ⟨vs, hvs, hq2⟩ := opsS_some hgas hq1
        obtain ⟨fn, first, cap, hfn, hq3⟩ := onFn_eq hq2
        cases hq3
      | builtin _ => have hg' : (match c.callee with | .value f => ob (opS f) fun gf => ob (opsS c.args.toList) fun gas => some fun tm H => gf tm fun f => gas tm fun vs => onFn f fun f first cap => some (⟨.defer f cap (lapp first vs), H⟩ : ON) | _ => none) = some g := hg
                     rw [hcl] at hg'; cases hg'
      | invoke _ _ => have hg' : (match c.callee with | .value f => ob (opS f) fun gf => ob (opsS c.args.toList) fun gas => some fun tm H => gf tm fun f => gas tm fun vs => onFn f fun f first cap => some (⟨.defer f cap (lapp first vs), H⟩ : ON) | _ => none) = some g := hg
                      rw [hcl] at hg'; cases hg'
    refine ⟨v, df, H', h, φ', v', w', a.defers, h2, h3, hdf.mono h3.ext.sub, ?_⟩
    exact does_value ho hw (by rw [hsem hnd]; exact h1)
  | skip =>
    obtain ⟨φ', w', h1, h3⟩ := hm
    have hnd : ∀ c, o.op ≠ .defer c := fun c e => by
      unfold execOp at h1
      rw [e] at h1
      simp only [Sem.run_bind] at h1
      generalize (resolve a.eval c o.type).run P w = r at h1
      cases r with
      | ok d w'' => simp at h1
      | halt x w'' => simp at h1
    refine ⟨undefA, df, H', h, φ', undef, w', a.defers, undef_VR _, h3, hdf.mono h3.ext.sub, ?_⟩
    exact does_skip ho hw (by rw [hsem hnd]; exact h1)
  | call f args =>
    obtain ⟨hH, args', ha, hrun⟩ := hm
    have hH : H' = H := hH
    subst hH
    obtain ⟨r, hr1, h1⟩ := ob_eq (show ob (ih (.call f args H')) (fun r => VH.rec (motive := fun _ => PutF → FT → List ADef → Kont → Option FS) (fun v H p tm df k => p tm v fun tm => k tm df H) r p tm df k) = some s from h)
    obtain ⟨φ', v', w', h2, h3, hcf, hcr⟩ := hih.call f args H' r hr1 .normal φ w args' (.inl rfl) hr hD ha
    have hrun := hrun w
    rw [hcf w] at hrun
    have hnd : ∀ c, o.op ≠ .defer c := fun c e => by
      unfold execOp at hrun
      rw [e] at hrun
      simp only [Sem.run_bind] at hrun
      generalize (resolve a.eval c o.type).run P w = r at hrun
      cases r with
      | ok d w'' => simp at hrun
      | halt x w'' => simp at hrun
    obtain ⟨rv, rH⟩ := r
    refine ⟨rv, df, rH, h1, φ', v', w', a.defers, h2, h3, hdf.mono h3.ext.sub, ?_⟩
    exact does_enter ho hw (by rw [hsem hnd]; exact hrun) hcr
  | yield l args =>
    obtain ⟨hH, loc, args', hl, ha, hrun⟩ := hm
    have hH : H' = H := hH
    subst hH
    obtain ⟨r, hr1, h1⟩ := ob_eq (show ob (ih (.yield l args H')) (fun r => VH.rec (motive := fun _ => PutF → FT → List ADef → Kont → Option FS) (fun v H p tm df k => p tm v fun tm => k tm df H) r p tm df k) = some s from h)
    obtain ⟨φ', v', w', h2, h3, f, tmps, as, bd, hy, hcr⟩ := hih.yield l args H' r hr1 φ w args' loc hr hD hl ha
    have hrun := hrun w
    rw [hy] at hrun
    have hnd : ∀ c, o.op ≠ .defer c := fun c e => by
      unfold execOp at hrun
      rw [e] at hrun
      simp only [Sem.run_bind] at hrun
      generalize (resolve a.eval c o.type).run P w = r at hrun
      cases r with
      | ok d w'' => simp at hrun
      | halt x w'' => simp at hrun
    obtain ⟨rv, rH⟩ := r
    refine ⟨rv, df, rH, h1, φ', v', w', a.defers, h2, h3, hdf.mono h3.ext.sub, ?_⟩
    exact does_round ho hw (by rw [hsem hnd]; exact hrun) hcr
  | defer f cap args =>
    obtain ⟨hH, f', cap', args', hf, hc, ha, hrun⟩ := hm
    have hH : H' = H := hH
    subst hH
    cases ro with
    | some l => cases h
    | none =>
      have hbr : b.roundOf = none := by
        cases hb : b.roundOf with
        | none => rfl
        | some l' => rw [hb] at hro; exact hro.elim
      refine ⟨undefA, .call f cap args :: df, H', h, φ, undef, w, _, undef_VR _, Step.refl hr hD, .cons (.call hf hc ha) hdf, ?_⟩
      exact does_defer ho hw (by rw [hbr, Oper.semAt_none]; exact hrun w)

/-! ### Putting a result -/
def PutR (dst : Option Tmp) (sz : Nat) (tm : FT) (v : AV) (tm1 : FT) : Prop := match dst with
  | none => tm1 = tm
  | some d => d < sz ∧ d < 256 ∧ tm1 = tset 4 tm d v
theorem putS_eq {sz : Nat} {dst : Option Tmp} {p : PutF} (hp : putS sz dst = some p) (tm : FT) (v : AV) : ∃ tm1, PutR dst sz tm v tm1 ∧ ∀ f, p tm v f = f tm1 := by
  cases dst with
  | none => cases hp; exact ⟨tm, rfl, fun _ => rfl⟩
  | some d =>
    rcases bc_eq hp with ⟨h1, hp⟩ | ⟨_, hp⟩
    · rcases bc_eq hp with ⟨h2, hp⟩ | ⟨_, hp⟩
      · obtain ⟨g, hg, e⟩ := tsetS_eq (α := AV) (β := Option FS) 4 d
        rw [hg] at hp; cases hp
        exact ⟨_, ⟨by rw [nblt] at h1; simpa using h1, by rw [nblt] at h2; simpa using h2, rfl⟩, fun f => e tm v f⟩
      · cases hp
    · cases hp
theorem PutR.get {dst : Option Tmp} {sz : Nat} {tm tm1 : FT} {v : AV} (h : PutR dst sz tm v tm1) {t : Nat} (ht : t < 256) : tget 4 tm1 t = if dst = some t then v else tget 4 tm t := by
  cases dst with
  | none => have h : tm1 = tm := h
            rw [h, if_neg (by simp)]
  | some d =>
    obtain ⟨_, h2, rfl⟩ := h
    rw [tget_tset v 4 tm d t h2 ht]
    by_cases e : t = d
    · subst e; rw [if_pos rfl, if_pos rfl]
    · rw [if_neg e, if_neg (by simp; exact fun h => e h.symm)]
theorem Act.put_get (a : Act) (dst : Option Tmp) (v : Value) (hd : ∀ d, dst = some d → d < a.tmps.size) (t : Nat) : (a.put dst v).tmps.getD t undef = if dst = some t then v else a.tmps.getD t undef := by
  cases dst with
  | none => rw [if_neg (by simp)]; rfl
  | some d =>
    have hd := hd d rfl
    show (a.tmps.setIfInBounds d v).getD t undef = _
    simp only [Array.getD_eq_getD_getElem?, Array.getElem?_setIfInBounds]
    by_cases e : d = t
    · subst e; simp [hd]
    · simp [e]
theorem Act.put_size (a : Act) (dst : Option Tmp) (v : Value) : (a.put dst v).tmps.size = a.tmps.size := by
  cases dst with
  | none => rfl
  | some d => show (a.tmps.setIfInBounds d v).size = _; simp
theorem Act.put_defers (a : Act) (dst : Option Tmp) (v : Value) : (a.put dst v).defers = a.defers := by cases dst <;> rfl
theorem TR.put {φ : Map} {tm tm1 : FT} {sz : Nat} {a : Act} (h : TR φ tm sz a.tmps) {dst : Option Tmp} {v : AV} {v' : Value} (hv : VR φ v v') (hp : PutR dst sz tm v tm1) : TR φ tm1 sz (a.put dst v').tmps := by
  refine ⟨by rw [Act.put_size]; exact h.1, fun t ht => ?_⟩
  rw [hp.get ht, Act.put_get a dst v' (fun d e => by subst e; rw [h.1]; exact hp.1)]
  by_cases e : dst = some t
  · rw [if_pos e, if_pos e]; exact hv
  · rw [if_neg e, if_neg e]; exact h.2 t ht
/-- An act's operands. -/
theorem TR.opsA {φ : Map} {tm : FT} {sz : Nat} {a : Act} (h : TR φ tm sz a.tmps) (hg : ∀ g, g < 64 → ∃ e, φ g = some ⟨g, 0, e⟩) (l : List Operand) : Ops φ a.eval tm l := by
  intro x _ u hu
  cases x with
  | tmp t =>
    rcases bc_eq hu with ⟨ht, hu⟩ | ⟨_, hu⟩
    · cases hu; exact h.2 t (by simpa [Nat.blt_eq] using ht)
    · cases hu
  | const v => exact ofV_sound φ 6 v u hu
  | global g =>
    rcases bc_eq hu with ⟨ht, hu⟩ | ⟨_, hu⟩
    · cases hu
      obtain ⟨e, he⟩ := hg g (by simpa [Nat.blt_eq] using ht)
      exact VR.ptr (l := ⟨g, 0, e⟩) he
    · cases hu
  | func f => cases hu; exact .fn (.func f) .nil .nil

theorem semAt_np {o : Oper} (h : ∀ c, o.op ≠ .defer c) (ro : Option Nat) (ρ : Operand → Value) : o.semAt ro ρ = execOp ρ o := Oper.semAt_eq ro ρ o h
/-- What an operation does, in the order of the text. -/
theorem core_sound (hE : EnvOK P E) {ih : CallF} (hih : ReqOK P ih) {ops : Array Oper} {i : Nat} {o : Oper} (ho : ops[i]? = some o) {φ : Map} {H : AHeap} {w : World} (hr : Rel φ H.at w) (hD : Dom φ H) {b : Frame} {a : Act} (hw : Region.wanted o (yielded ops a.tmps) = true)
    {tm : FT} (hops : Ops φ a.eval tm o.op.operands.toList) {df : List ADef} (hdf : DR φ df a.defers) {ro : Option Nat} (hro : RO φ ro b.roundOf) {p : PutF} {c : OpF} (hc : coreS (cls o.op E) o.op E p = some c) {k : Kont} {s : FS} (h : c ih ro tm df H k = some s) :
    ∃ v df1 H1, p tm v (fun tm => k tm df1 H1) = some s ∧ ∃ φ1 v' w1 ds, VR φ1 v v' ∧ Step φ φ1 H H1 w w1 ∧ DR φ1 df1 ds ∧ DoesOp P ops i b a ({ a with defers := ds }.put o.dst v') w w1 := by
  have hnd : cls o.op E ≠ .m → ∀ c, o.op ≠ .defer c := fun hm c e => hm (by rw [e]; rfl)
  generalize hcl : cls o.op E = cl at hc hnd
  cases cl with
  | p =>
    obtain ⟨g, hg, hc⟩ := ob_eq hc
    cases hc
    obtain ⟨v, hv, h⟩ := ob_eq h
    obtain ⟨v', h1, h2⟩ := pOp_sound hE hg hv hops
    exact ⟨v, df, H, h, φ, v', w, a.defers, h1, Step.refl hr hD, hdf, does_value ho hw (by rw [semAt_np (hnd nofun)]; exact h2 w)⟩
  | r =>
    obtain ⟨g, hg, hc⟩ := ob_eq hc
    cases hc
    obtain ⟨v, hv, h⟩ := ob_eq h
    obtain ⟨v', h1, h2⟩ := rOp_sound hE hr hcl hg hv hops
    exact ⟨v, df, H, h, φ, v', w, a.defers, h1, Step.refl hr hD, hdf, does_value ho hw (by rw [semAt_np (hnd nofun)]; exact h2)⟩
  | a =>
    obtain ⟨g, hg, hc⟩ := ob_eq hc
    cases hc
    obtain ⟨q, hq, h⟩ := ob_eq h
    obtain ⟨H1, hn, hh, h⟩ := hNew_eq h
    obtain ⟨cc, v', e, h1, hdd, h2⟩ := aOp_sound hE hg hq hops w
    have h3 := h2 (φ.add H.next ⟨w.heap.size, 0, e⟩) H.next (Map.add_sub _ hD.no) (Map.add_self _ _ _)
    refine ⟨q.v H.next, df, H1, h, φ.add H.next ⟨w.heap.size, 0, e⟩, v', w.alloc cc, a.defers, h3.2, ?_, hdf.mono (Map.add_sub _ hD.no), does_value ho hw (by rw [semAt_np (hnd nofun)]; exact h1)⟩
    exact ⟨hr.new hD.no hh h3.1, Ext.new' hr (hD.ge hr) hD.no hn hh, hD.add hn hh⟩
  | m =>
    obtain ⟨g, hg, hc⟩ := ob_eq hc
    cases hc
    obtain ⟨q, hq, h⟩ := ob_eq h
    obtain ⟨n, H'⟩ := q
    exact mover_sound hE hih ho hr hD hw hops hdf hro hg hq h

/-! ### Guards -/
def bTo (v : AV) (want : Bool) : Bool := match v with
  | .bool c => c == want
  | _ => false
theorem isB_eq {v : AV} {want b : Bool} (h : isB v want = some b) : b = bTo v want := by
  cases v <;> first | (cases h; rfl) | skip
  rename_i c
  cases c <;> cases want <;> (cases h; rfl)
/-- Whether an operation is wanted, by the temporary of an earlier one. -/
theorem wants_eq {sz : Nat} {ops : List Oper} {g : Option (Nat × Bool)} {f : FT → Option Bool} (hf : wants sz ops g = some f) {tm : FT} {b : Bool} (h : f tm = some b) :
    (g = none ∧ b = true) ∨ ∃ q oj d, g = some q ∧ ops[q.1]? = some oj ∧ oj.dst = some d ∧ d < sz ∧ d < 256 ∧ b = bTo (tget 4 tm d) q.2 := by
  cases g with
  | none => cases hf; cases h; exact .inl ⟨rfl, rfl⟩
  | some q =>
    obtain ⟨hh, h1, hf⟩ := ob_eq (show ob (wantS sz ops q) (fun h => some fun tm => h tm fun v => isB v q.2) = some f from hf)
    cases hf
    dsimp only at h
    obtain ⟨oj, hj, h1⟩ := ob_eq h1
    obtain ⟨d, hd, h1⟩ := ob_eq h1
    rcases bc_eq h1 with ⟨hls, h1⟩ | ⟨_, h1⟩
    · rcases bc_eq h1 with ⟨hlt, h1⟩ | ⟨_, h1⟩
      · obtain ⟨g', hg', e⟩ := tgetS_eq (α := AV) (β := Option Bool) 4 d
        rw [hg'] at h1; cases h1
        rw [e] at h
        rw [lnth_eq] at hj
        exact .inr ⟨q, oj, d, rfl, hj, hd, by rw [nblt] at hls; simpa using hls, by rw [nblt] at hlt; simpa using hlt, isB_eq h⟩
      · cases h1
    · cases h1
theorem wanted_eq {φ : Map} {sz : Nat} {ops : Array Oper} {o : Oper} {f : FT → Option Bool} (hf : wants sz ops.toList o.guard = some f) {tm : FT} {b : Bool} (h : f tm = some b) {tmps : Array Value}
    (hts : tmps.size = sz) (ht : ∀ q oj d, o.guard = some q → ops[q.1]? = some oj → oj.dst = some d → d < 256 → VR φ (tget 4 tm d) (tmps.getD d undef)) : Region.wanted o (yielded ops tmps) = b := by
  rcases wants_eq hf h with ⟨hg, rfl⟩ | ⟨q, oj, d, hg, hj, hd, hls, hlt, rfl⟩
  · unfold Region.wanted; rw [hg]
  · have hj' : ops[q.1]? = some oj := by simpa using hj
    have hv := ht q oj d hg hj' hd hlt
    have hsz : d < tmps.size := by rw [hts]; exact hls
    obtain ⟨j, want⟩ := q
    unfold Region.wanted
    rw [hg]
    dsimp only at hj' ⊢
    have hy : yielded ops tmps j = (match tmps.getD d undef with | .bool b => some b | _ => none) := by
      unfold yielded
      rw [hj']
      simp only [Option.bind_some, hd, Array.getD_eq_getD_getElem?]
      rw [Array.getElem?_eq_getElem hsz]
      simp only [Option.getD_some]
      cases tmps[d] <;> rfl
    rw [hy]
    generalize tget 4 tm d = u at hv
    generalize tmps.getD d undef = x at hv
    cases hv <;> first | rfl | (rename_i c; cases c <;> cases want <;> rfl)

/-! ### Operations in the order of the text -/
theorem orNo_eq {x : Option OpF} {c : OpF} (hc : orNo x = some c) {ih : CallF} {ro : Option Nat} {tm : FT} {df : List ADef} {H : AHeap} {k : Kont} {s : FS} (h : c ih ro tm df H k = some s) : x = some c := by
  cases x with
  | none => cases hc; cases h
  | some c' => cases hc; rfl
theorem with_defers (a : Act) : ({ a with defers := a.defers } : Act) = a := rfl
/-- What an operation of the text leads to. -/
def OpTo (P : Program) (φ : Map) (H : AHeap) (w : World) (ops : Array Oper) (i : Nat) (b : Frame) (a : Act) (dst : Option Tmp) (v : AV) (df1 : List ADef) (H1 : AHeap) : Prop :=
  ∃ φ1 v' w1 ds, VR φ1 v v' ∧ Step φ φ1 H H1 w w1 ∧ DR φ1 df1 ds ∧ DoesOp P ops i b a ({ a with defers := ds }.put dst v') w w1
theorem oper_sound (hE : EnvOK P E) {ih : CallF} (hih : ReqOK P ih) {ops : Array Oper} {i : Nat} {o : Oper} (ho : ops[i]? = some o) {φ : Map} {H : AHeap} {w : World} (hr : Rel φ H.at w) (hD : Dom φ H) {b : Frame} {a : Act} {sz : Nat}
    {tm : FT} (hT : TR φ tm sz a.tmps) {df : List ADef} (hdf : DR φ df a.defers) {ro : Option Nat} (hro : RO φ ro b.roundOf) {c : OpF} (hc : operS E sz ops.toList o = some c) {k : Kont} {s : FS} (h : c ih ro tm df H k = some s) :
    ∃ v tm1 df1 H1, PutR o.dst sz tm v tm1 ∧ k tm1 df1 H1 = some s ∧ OpTo P φ H w ops i b a o.dst v df1 H1 := by
  have hc := orNo_eq hc h
  obtain ⟨p, hp, hc⟩ := ob_eq hc
  obtain ⟨c0, hc0, hc⟩ := ob_eq hc
  have hops := hT.opsA hr.gl o.op.operands.toList
  have main : Region.wanted o (yielded ops a.tmps) = true → c0 ih ro tm df H k = some s → ∃ v tm1 df1 H1, PutR o.dst sz tm v tm1 ∧ k tm1 df1 H1 = some s ∧ OpTo P φ H w ops i b a o.dst v df1 H1 := by
    intro hw hrun
    have hc0' := orNo_eq hc0 hrun
    obtain ⟨v, df1, H1, h1, h2⟩ := core_sound hE hih ho hr hD hw hops hdf hro hc0' hrun
    obtain ⟨tm1, h3, h4⟩ := putS_eq hp tm v
    rw [h4] at h1
    exact ⟨v, tm1, df1, H1, h3, h1, h2⟩
  cases hg : o.guard with
  | none =>
    rw [hg] at hc
    cases hc
    exact main (by unfold Region.wanted; rw [hg]) h
  | some q =>
    rw [hg] at hc
    obtain ⟨f, hf, hc⟩ := ob_eq (show ob (wants sz ops.toList (some q)) (fun w => some fun ih ro tm df H k => ob (w tm) fun b => bc b (c0 ih ro tm df H k) (p tm undefA fun tm => k tm df H)) = some c from hc)
    cases hc
    obtain ⟨bb, hbb, h⟩ := ob_eq h
    have hwt := wanted_eq (φ := φ) (o := o) (by rw [hg]; exact hf) hbb hT.1 (fun _ _ d _ _ _ hd => hT.2 d hd)
    rcases bc_eq h with ⟨hb1, h⟩ | ⟨hb1, h⟩
    · exact main (by rw [hwt, hb1]) h
    · obtain ⟨tm1, h3, h4⟩ := putS_eq hp tm undefA
      rw [h4] at h
      refine ⟨undefA, tm1, df, H, h3, h, φ, undef, w, a.defers, undef_VR _, Step.refl hr hD, hdf, ?_⟩
      exact does_not (by rw [ho]; simp [hwt, hb1]) ho
theorem opers_sound (hE : EnvOK P E) {ih : CallF} (hih : ReqOK P ih) {ops : Array Oper} {b : Frame} {sz : Nat} {ro : Option Nat} : ∀ (l : List Oper) (i : Nat), l = ops.toList.drop i → ∀ (c : OpF), opersS E sz ops.toList l = some c →
    ∀ (φ : Map) (H : AHeap) (w : World) (a : Act) (tm : FT) (df : List ADef) (k : Kont) (s : FS), Rel φ H.at w → Dom φ H → TR φ tm sz a.tmps → DR φ df a.defers → RO φ ro b.roundOf → c ih ro tm df H k = some s →
    ∃ tm1 df1 H1, k tm1 df1 H1 = some s ∧ ∃ φ1 a1 w1, Step φ φ1 H H1 w w1 ∧ TR φ1 tm1 sz a1.tmps ∧ DR φ1 df1 a1.defers ∧ ∀ kk cs, Steps P (lone (b.atR a (.inRegion ops (List.range' i l.length) :: kk)) cs w) (lone (b.atR a1 kk) cs w1) := by
  intro l
  induction l with
  | nil =>
    intro i hl c hc φ H w a tm df k s hr hD hT hdf hro h
    cases hc
    exact ⟨tm, df, H, h, φ, a, w, Step.refl hr hD, hT, hdf, fun kk cs => .one stepR_region_end⟩
  | cons o l ih' =>
    intro i hl c hc φ H w a tm df k s hr hD hT hdf hro h
    obtain ⟨c0, hc0, hc⟩ := ob_eq (show ob (operS E sz ops.toList o) (fun c => ob (opersS E sz ops.toList l) fun cs => some fun ih ro tm df H k => c ih ro tm df H fun tm df H => cs ih ro tm df H k) = some c from hc)
    obtain ⟨cs0, hcs0, hc⟩ := ob_eq hc
    cases hc
    have ho : ops[i]? = some o := by
      have : (ops.toList.drop i)[0]? = some o := by rw [← hl]; rfl
      simpa using this
    have hl' : l = ops.toList.drop (i + 1) := by
      have : (ops.toList.drop i).tail = ops.toList.drop (i + 1) := by rw [List.tail_drop]
      rw [← this, ← hl]; rfl
    obtain ⟨v, tm1, df1, H1, h1, h2, φ1, v', w1, ds, h3, h4, h5, h6⟩ := oper_sound hE hih ho hr hD hT hdf hro hc0 h
    have hT1 : TR φ1 tm1 sz (({ a with defers := ds } : Act).put o.dst v').tmps := TR.put (a := { a with defers := ds }) (hT.mono h4.ext.sub) h3 h1
    have hd1 : DR φ1 df1 (({ a with defers := ds } : Act).put o.dst v').defers := by rw [Act.put_defers]; exact h5
    obtain ⟨tm2, df2, H2, h7, φ2, a2, w2, h8, h9, h10, h11⟩ := ih' (i + 1) hl' cs0 hcs0 φ1 H1 w1 _ tm1 df1 k s h4.rel h4.dom hT1 hd1 (hro.mono h4.ext.sub) h2
    refine ⟨tm2, df2, H2, h7, φ2, a2, w2, ⟨h8.rel, h4.ext.trans h8.ext hD.lt, h8.dom⟩, h9, h10, fun kk cs => ?_⟩
    rw [List.length_cons, List.range'_succ]
    exact (h6 _ kk cs).trans (h11 kk cs)
end
end Go.Ev
end

section
namespace Go.Ev
open Go

section
variable {P : Program} {E : Env}

/-- Code, carried out in a frame: how it is left. -/
def Arr (P : Program) (b : Frame) (a : Act) (c : Code) (w : World) (e : AEx) (a1 : Act) (w1 : World) : Prop := ∀ kk cs, match e with
  | .normal => Steps P (lone (b.atR a (.code c :: kk)) cs w) (lone (b.atR a1 kk) cs w1)
  | .exit id => ∃ k1, exitTo id k1 = exitTo id kk ∧ Steps P (lone (b.atR a (.code c :: kk)) cs w) (lone (b.atR a1 (.code (.exit id) :: k1)) cs w1)
  | .ret => ∃ k1, Steps P (lone (b.atR a (.code c :: kk)) cs w) (lone (b.atR a1 (.code .ret :: k1)) cs w1)
/-- What code leads to. -/
def CodeTo (P : Program) (φ : Map) (H : AHeap) (w : World) (sz : Nat) (b : Frame) (a : Act) (c : Code) (r : CR) : Prop :=
  ∃ φ1 a1 w1, Step φ φ1 H r.H w w1 ∧ TR φ1 r.tm sz a1.tmps ∧ DR φ1 r.df a1.defers ∧ Arr P b a c w r.e a1 w1
/-- What a function of the evaluator for code stands for. -/
def CodeOK (P : Program) (ih : CallF) (sz : Nat) (c : Code) (g : CF) : Prop :=
  ∀ n ro tm df H r, ∀ (b : Frame) (a : Act) (φ : Map) (w : World), g ih n ro b.fn tm df H = some r → Rel φ H.at w → Dom φ H → TR φ tm sz a.tmps → DR φ df a.defers → RO φ ro b.roundOf → CodeTo P φ H w sz b a c r
/-- What a region whose order is open stands for. -/
def DrawOK (P : Program) (E : Env) (ih : CallF) : Prop :=
  ∀ (sz : Nat) (ops : Array Oper) (c : OpF), drawnS E sz ops.toList = some c → ∀ ro tm df H s, ∀ (b : Frame) (a : Act) (φ : Map) (w : World) (t : Nat), c ih ro tm df H done = some s → Rel φ H.at w → Dom φ H → TR φ tm sz a.tmps → DR φ df a.defers → RO φ ro b.roundOf →
    ∃ φ1 a1 w1, Step φ φ1 H s.H w w1 ∧ TR φ1 s.tm sz a1.tmps ∧ DR φ1 s.df a1.defers ∧ ∀ kk cs, Steps P (lone (b.atR a (.inRegion ops (Region.schedule true ops t) :: kk)) cs w) (lone (b.atR a1 kk) cs w1)

theorem Step.trans {φ φ₁ φ₂ : Map} {H H₁ H₂ : AHeap} {w w₁ w₂ : World} (h : Step φ φ₁ H H₁ w w₁) (g : Step φ₁ φ₂ H₁ H₂ w₁ w₂) (hD : Dom φ H) : Step φ φ₂ H H₂ w w₂ := ⟨g.rel, h.ext.trans g.ext hD.lt, g.dom⟩
theorem Step.drew {φ φ₁ : Map} {H H₁ : AHeap} {w w₁ : World} (h : Step φ φ₁ H H₁ w.drew w₁) : Step φ φ₁ H H₁ w w₁ :=
  ⟨h.rel, ⟨h.ext.sub, h.ext.new, h.ext.nx, h.ext.sz, h.ext.abs, h.ext.conc, h.ext.lv, h.ext.hk, h.ext.keep, h.ext.os, h.ext.out, h.ext.tape⟩, h.dom⟩

section
variable {b : Frame} {a a1 : Act} {w w1 : World}
theorem Arr.lead {c c' : Code} {e : AEx} (h : Arr P b a c' w e a1 w1) (hs : ∀ kk cs, Steps P (lone (b.atR a (.code c :: kk)) cs w) (lone (b.atR a (.code c' :: kk)) cs w)) : Arr P b a c w e a1 w1 := by
  intro kk cs
  have h1 := h kk cs
  cases e with
  | normal => exact (hs kk cs).trans h1
  | exit id => obtain ⟨k1, h2, h3⟩ := h1; exact ⟨k1, h2, (hs kk cs).trans h3⟩
  | ret => obtain ⟨k1, h3⟩ := h1; exact ⟨k1, (hs kk cs).trans h3⟩
theorem stepR_scope {c : Code} {k : List Item} {cs : List Frame} : step P (lone (b.atR a (.code (.scope c) :: k)) cs w) = .next (lone (b.atR a (.code c :: .inScope c :: k)) cs w) :=
  step_lone_go (by simp [stepG, stepG.exec, Frame.atR])
theorem stepR_inScope {c : Code} {k : List Item} {cs : List Frame} : step P (lone (b.atR a (.inScope c :: k)) cs w) = .next (lone (b.atR a k) cs w) :=
  step_lone_go (by simp [stepG, stepG.exec, Frame.atR])
end

theorem thenS_sound {ih : CallF} {sz : Nat} {x y : Code} {ga gb : CF} (ha : CodeOK P ih sz x ga) (hb : CodeOK P ih sz y gb) : CodeOK P ih sz (.seq x y) (thenS ga gb) := by
  intro n ro tm df H r b a φ w h hr hD hT hdf hro
  obtain ⟨r1, h1, h⟩ := ob_eq h
  obtain ⟨e1, tm1, df1, H1⟩ := r1
  obtain ⟨φ1, a1, w1, s1, t1, d1, m1⟩ := ha n ro tm df H _ b a φ w h1 hr hD hT hdf hro
  cases e1 with
  | normal =>
    obtain ⟨φ2, a2, w2, s2, t2, d2, m2⟩ := hb n ro tm1 df1 H1 r b a1 φ1 w1 h s1.rel s1.dom t1 d1 (hro.mono s1.ext.sub)
    refine ⟨φ2, a2, w2, s1.trans s2 hD, t2, d2, fun kk cs => ?_⟩
    have h5 : Steps P (lone (b.atR a (.code (.seq x y) :: kk)) cs w) (lone (b.atR a1 (.code y :: kk)) cs w1) := .head stepR_seq (m1 (.code y :: kk) cs)
    have h6 := m2 kk cs
    generalize r.e = e at h6
    cases e with
    | normal => exact h5.trans h6
    | exit id => obtain ⟨k1, h7, h8⟩ := h6; exact ⟨k1, h7, h5.trans h8⟩
    | ret => obtain ⟨k1, h8⟩ := h6; exact ⟨k1, h5.trans h8⟩
  | exit id =>
    cases h
    refine ⟨φ1, a1, w1, s1, t1, d1, fun kk cs => ?_⟩
    obtain ⟨k1, h7, h8⟩ := m1 (.code y :: kk) cs
    exact ⟨k1, h7, .head stepR_seq h8⟩
  | ret =>
    cases h
    refine ⟨φ1, a1, w1, s1, t1, d1, fun kk cs => ?_⟩
    obtain ⟨k1, h8⟩ := m1 (.code y :: kk) cs
    exact ⟨k1, .head stepR_seq h8⟩
theorem blockS_sound {ih : CallF} {sz : Nat} {id : Nat} {x : Code} {ga : CF} (ha : CodeOK P ih sz x ga) : CodeOK P ih sz (.block id x) (blockS id ga) := by
  intro n ro tm df H r b a φ w h hr hD hT hdf hro
  obtain ⟨r1, h1, h⟩ := ob_eq h
  obtain ⟨e1, tm1, df1, H1⟩ := r1
  obtain ⟨φ1, a1, w1, s1, t1, d1, m1⟩ := ha n ro tm df H _ b a φ w h1 hr hD hT hdf hro
  cases e1 with
  | normal =>
    cases h
    exact ⟨φ1, a1, w1, s1, t1, d1, fun kk cs => .head stepR_block ((m1 (.inBlock id :: kk) cs).trans (.one stepR_inBlock))⟩
  | exit i =>
    rcases bc_eq (show bc (Nat.beq i id) (some ⟨.normal, tm1, df1, H1⟩) (some ⟨.exit i, tm1, df1, H1⟩) = some r from h) with ⟨hi, h⟩ | ⟨hi, h⟩
    · cases h
      have hi : i = id := by rw [nbeq] at hi; simpa using hi
      subst hi
      refine ⟨φ1, a1, w1, s1, t1, d1, fun kk cs => ?_⟩
      obtain ⟨k1, h7, h8⟩ := m1 (.inBlock i :: kk) cs
      have h9 : exitTo i (.inBlock i :: kk) = some kk := by simp [exitTo]
      exact .head stepR_block (h8.trans (.one (stepR_exit (h7.trans h9))))
    · cases h
      have hi : i ≠ id := by rw [nbeq] at hi; simpa using hi
      refine ⟨φ1, a1, w1, s1, t1, d1, fun kk cs => ?_⟩
      obtain ⟨k1, h7, h8⟩ := m1 (.inBlock id :: kk) cs
      have h9 : exitTo i (.inBlock id :: kk) = exitTo i kk := by simp [exitTo, Ne.symm hi]
      exact ⟨k1, h7.trans h9, .head stepR_block h8⟩
  | ret =>
    cases h
    refine ⟨φ1, a1, w1, s1, t1, d1, fun kk cs => ?_⟩
    obtain ⟨k1, h8⟩ := m1 (.inBlock id :: kk) cs
    exact ⟨k1, .head stepR_block h8⟩
theorem loopS_sound {ih : CallF} {sz : Nat} {x : Code} {ga : CF} (ha : CodeOK P ih sz x ga) : CodeOK P ih sz (.loop x) (loopS ga) := by
  intro n ro tm df H r b a φ w h hr hD hT hdf hro
  have key : ∀ (n : Nat) (tm : FT) (df : List ADef) (H : AHeap) (r : CR) (a : Act) (φ : Map) (w : World), loopS ga ih n ro b.fn tm df H = some r → Rel φ H.at w → Dom φ H → TR φ tm sz a.tmps → DR φ df a.defers → RO φ ro b.roundOf →
      ∃ φ1 a1 w1, Step φ φ1 H r.H w w1 ∧ TR φ1 r.tm sz a1.tmps ∧ DR φ1 r.df a1.defers ∧ ∀ kk cs, match r.e with
        | .normal => False
        | .exit id => ∃ k1, exitTo id k1 = exitTo id kk ∧ Steps P (lone (b.atR a (.code x :: .inLoop x :: kk)) cs w) (lone (b.atR a1 (.code (.exit id) :: k1)) cs w1)
        | .ret => ∃ k1, Steps P (lone (b.atR a (.code x :: .inLoop x :: kk)) cs w) (lone (b.atR a1 (.code .ret :: k1)) cs w1) := by
    intro n
    induction n with
    | zero => intro tm df H r a φ w h; cases h
    | succ m ihm =>
      intro tm df H r a φ w h hr hD hT hdf hro
      obtain ⟨r1, h1, h⟩ := ob_eq h
      obtain ⟨e1, tm1, df1, H1⟩ := r1
      obtain ⟨φ1, a1, w1, s1, t1, d1, m1⟩ := ha m ro tm df H _ b a φ w h1 hr hD hT hdf hro
      cases e1 with
      | normal =>
        obtain ⟨φ2, a2, w2, s2, t2, d2, m2⟩ := ihm tm1 df1 H1 r a1 φ1 w1 h s1.rel s1.dom t1 d1 (hro.mono s1.ext.sub)
        refine ⟨φ2, a2, w2, s1.trans s2 hD, t2, d2, fun kk cs => ?_⟩
        have h5 : Steps P (lone (b.atR a (.code x :: .inLoop x :: kk)) cs w) (lone (b.atR a1 (.code x :: .inLoop x :: kk)) cs w1) := (m1 (.inLoop x :: kk) cs).trans (.one stepR_inLoop)
        have h6 := m2 kk cs
        generalize r.e = e at h6
        cases e with
        | normal => exact h6.elim
        | exit id => obtain ⟨k1, h7, h8⟩ := h6; exact ⟨k1, h7, h5.trans h8⟩
        | ret => obtain ⟨k1, h8⟩ := h6; exact ⟨k1, h5.trans h8⟩
      | exit id =>
        cases h
        refine ⟨φ1, a1, w1, s1, t1, d1, fun kk cs => ?_⟩
        obtain ⟨k1, h7, h8⟩ := m1 (.inLoop x :: kk) cs
        exact ⟨k1, h7, h8⟩
      | ret =>
        cases h
        refine ⟨φ1, a1, w1, s1, t1, d1, fun kk cs => ?_⟩
        obtain ⟨k1, h8⟩ := m1 (.inLoop x :: kk) cs
        exact ⟨k1, h8⟩
  obtain ⟨φ1, a1, w1, s1, t1, d1, m1⟩ := key n tm df H r a φ w h hr hD hT hdf hro
  refine ⟨φ1, a1, w1, s1, t1, d1, fun kk cs => ?_⟩
  have h6 := m1 kk cs
  generalize r.e = e at h6
  cases e with
  | normal => exact h6.elim
  | exit id => obtain ⟨k1, h7, h8⟩ := h6; exact ⟨k1, h7, .head stepR_loop h8⟩
  | ret => obtain ⟨k1, h8⟩ := h6; exact ⟨k1, .head stepR_loop h8⟩
theorem scope_sound {ih : CallF} {sz : Nat} {x : Code} {ga : CF} (ha : CodeOK P ih sz x ga) : CodeOK P ih sz (.scope x) ga := by
  intro n ro tm df H r b a φ w h hr hD hT hdf hro
  obtain ⟨φ1, a1, w1, s1, t1, d1, m1⟩ := ha n ro tm df H r b a φ w h hr hD hT hdf hro
  refine ⟨φ1, a1, w1, s1, t1, d1, fun kk cs => ?_⟩
  have h6 := m1 (.inScope x :: kk) cs
  generalize r.e = e at h6
  cases e with
  | normal => exact .head stepR_scope (h6.trans (.one stepR_inScope))
  | exit id => obtain ⟨k1, h7, h8⟩ := h6; exact ⟨k1, h7, .head stepR_scope h8⟩
  | ret => obtain ⟨k1, h8⟩ := h6; exact ⟨k1, .head stepR_scope h8⟩

/-! ### A range over a function -/
theorem run_putLoop {l : Nat} {r : Loop} {w : World} (h : w.heap[l]? = some (.loop r)) (o : Obj) : (setObj l o).run P w = .ok () { w with heap := w.heap.setIfInBounds l o } := by simp [setObj, Sem.run, h]
theorem run_getLoop' {l : Nat} {r : Loop} {w : World} (h : w.heap[l]? = some (.loop r)) : (Instr.getLoop l).run P w = .ok r w := by
  have hg : (getObj l).run P w = .ok (.loop r) w := by simp [getObj, Sem.run, h]
  simp [Instr.getLoop, hg]
/-- The loop's record is made, and, where it is the outermost, the block of the deferred calls. -/
theorem mark_sound {φ : Map} {H : AHeap} {w : World} (hr : Rel φ H.at w) (hD : Dom φ H) {ro : Option Nat} {b : Frame} (hro : RO φ ro b.roundOf) {a : Act} {tm : FT} {df : List ADef} (hdf : DR φ df a.defers) {ps : Array Tmp} {as bd : Code} {K : Nat → List ADef → AHeap → Option CR} {r : CR} (h : markS ro tm df H K = some r) :
    ∃ d df1 H1, K d df1 H1 = some r ∧ ∃ φ1 w1 mark D, Step φ φ1 H H1 w w1 ∧ DR φ1 df1 (mark ++ a.defers) ∧ (∃ ld, φ1 d = some ld ∧ ld.b = D) ∧
      (Instr.enterLoop b.fn a.tmps ps as bd b.roundOf).run P w = .ok (w1.heap.size, mark) (w1.alloc (.loop { state := .ready, pending := none, fn := b.fn, tmps := a.tmps, params := ps, assign := as, body := bd, defers := D })) := by
  cases ro with
  | none =>
    have hb : b.roundOf = none := by
      cases hb : b.roundOf with
      | none => rfl
      | some l' => rw [hb] at hro; exact hro.elim
    obtain ⟨H1, hn, hh, h⟩ := hNew_eq (show hNew H .defd (fun r H => K r (.coll r :: df) H) = some r from h)
    have hor : OR (φ.add H.next ⟨w.heap.size, 0, 0⟩) .defd ⟨w.heap.size, 0, 0⟩ (w.alloc (.deferred (some []))) := heap_alloc_new w _
    refine ⟨H.next, _, H1, h, φ.add H.next ⟨w.heap.size, 0, 0⟩, w.alloc (.deferred (some [])), [{ target := .collected w.heap.size, args := #[] }], w.heap.size,
      ⟨hr.new hD.no hh hor, Ext.new' hr (hD.ge hr) hD.no hn hh, hD.add hn hh⟩, .cons (.coll (Map.add_self _ _ _)) (hdf.mono (Map.add_sub _ hD.no)), ⟨_, Map.add_self _ _ _, rfl⟩, ?_⟩
    rw [hb]
    simp [Instr.enterLoop]
  | some l =>
    cases hb : b.roundOf with
    | none => rw [hb] at hro; exact hro.elim
    | some l' =>
      rw [hb] at hro
      obtain ⟨loc, hl, rfl⟩ := hro
      obtain ⟨o, ho, h⟩ := hGet_eq (show hGet H l (fun o => (match o with | .loop _ _ _ _ _ _ _ _ d => K d df H | _ => none)) = some r from h)
      cases o with
      | loop st pd fn tm' tsz ps' as' bd' d =>
        obtain ⟨lr, g1, g2, g3, g4, g5, g6, g7, g8, ld, g9, g10⟩ := hr.blk _ _ _ hl ho
        refine ⟨d, df, H, h, φ, w, [], lr.defers, Step.refl hr hD, hdf, ⟨ld, g9, g10.symm⟩, ?_⟩
        simp [Instr.enterLoop, run_getLoop' g1]
      | _ => cases h
theorem endLoop_run {l : Nat} {r : Loop} {w : World} (h : w.heap[l]? = some (.loop r)) (hs : r.state ≠ .busy) : (Instr.endLoop l).run P w = .ok r.pending { w with heap := w.heap.setIfInBounds l (.loop { r with state := .exhausted }) } := by
  simp [Instr.endLoop, run_getLoop' h, hs, run_putLoop h]
theorem goes_eq {ih : CallF} {n : ONext} {H H' : AHeap} (h : goes ih n H = some H') : ∃ f args r, n = .call f args ∧ ih (.call f args H) = some r ∧ H' = r.H := by
  cases n with
  | call f args =>
    obtain ⟨r, hr, h⟩ := ob_eq (show ob (ih (.call f args H)) (fun r => some r.H) = some H' from h)
    cases h
    exact ⟨f, args, r, rfl, hr, rfl⟩
  | _ => cases h
theorem rangeS_sound (hE : EnvOK P E) {ih : CallF} (hih : ReqOK P ih) {sz : Nat} {x : Operand} {g : FT → (AV → Option CR) → Option CR} (hg : opS x = some g) (ps : Array Tmp) (as bd : Code) : CodeOK P ih sz (.rangeFunc x ps as bd) (rangeS E sz g ps.toList as bd) := by
  intro n ro tm df H r b a φ w h hr hD hT hdf hro
  obtain ⟨vf, hvf, h1⟩ := opS_some hg (f := fun v => onFn v fun gf first cap => markS ro tm df H fun d df H => hNew H (.loop .ready none b.fn tm sz ps.toList as bd d) fun l H =>
    ob (calleeA E gf cap (lapp first [.fn (.yield l) [] []])) fun n => ob (goes ih n H) fun H => hGet H l fun o => (match o with
      | .loop st pd fn tm' sz ps as bd d => (match st with
        | .busy => none
        | _ => hSet H l (.loop .exhausted pd fn tm' sz ps as bd d) fun H => (match pd with
          | none => some ⟨.normal, tm, df, H⟩
          | some .normal => none
          | some e => some ⟨e, tm, df, H⟩))
      | _ => none)) h
  obtain ⟨gf, first, cap, hfn, h2⟩ := onFn_eq h1
  subst hfn
  have hvr := hT.opsA hr.gl [x] x (by simp) _ hvf
  obtain ⟨d, df1, H1, h3, φ1, w1, mark, D, s1, d1, ⟨ld, hld, hldb⟩, hent⟩ := mark_sound (P := P) hr hD hro hdf (ps := ps) (as := as) (bd := bd) h2
  obtain ⟨H2, hn2, hh2, h4⟩ := hNew_eq h3
  have hno := s1.dom.no
  -- the record
  let lr : Loop := { state := .ready, pending := none, fn := b.fn, tmps := a.tmps, params := ps, assign := as, body := bd, defers := D }
  have hsub1 : Sub φ1 (φ1.add H1.next ⟨w1.heap.size, 0, 0⟩) := Map.add_sub _ hno
  have hor : OR (φ1.add H1.next ⟨w1.heap.size, 0, 0⟩) (.loop .ready none b.fn tm sz ps.toList as bd d) ⟨w1.heap.size, 0, 0⟩ (w1.alloc (.loop lr)) :=
    ⟨lr, heap_alloc_new w1 _, rfl, rfl, rfl, hT.mono fun k l hk => hsub1 _ _ (s1.ext.sub _ _ hk), rfl, rfl, rfl, ld, hsub1 _ _ hld, hldb.symm⟩
  have s2 : Step φ1 (φ1.add H1.next ⟨w1.heap.size, 0, 0⟩) H1 H2 w1 (w1.alloc (.loop lr)) := ⟨s1.rel.new hno hh2 hor, Ext.new' s1.rel (s1.dom.ge s1.rel) hno hn2 hh2, s1.dom.add hn2 hh2⟩
  have s12 := s1.trans s2 hD
  obtain ⟨nx, hnx, h5⟩ := ob_eq h4
  obtain ⟨H3, hgo, h6⟩ := ob_eq h5
  generalize hy : a.eval x = y at hvr
  cases hvr with
  | fn hf1 hf2 hf3 =>
    rename_i gf' first' cap'
    have hlead := callee_sound (P := P) hE (φ := φ1.add H1.next ⟨w1.heap.size, 0, 0⟩) hnx (hf1.mono s12.ext.sub) (hf3.mono s12.ext.sub) (by
      rw [lapp_eq]
      exact (hf2.mono s12.ext.sub).append (.cons (.fn (.yield (Map.add_self _ _ _)) .nil .nil) .nil))
    obtain ⟨f2, args2, rr, rfl, hih1, rfl⟩ := goes_eq hgo
    obtain ⟨args', hargs, hrun⟩ := hlead
    obtain ⟨φ3, v', w3, hv', s3, hcf, hcr⟩ := hih.call f2 args2 H2 rr hih1 .normal _ _ args' (.inl rfl) s2.rel s2.dom hargs
    have s123 := s12.trans s3 hD
    obtain ⟨o, ho, h7⟩ := hGet_eq h6
    cases o with
    | loop st pd fn3 tm3 tsz3 ps3 as3 bd3 d3 =>
      have hl3 : φ3 H1.next = some ⟨w1.heap.size, 0, 0⟩ := s3.ext.sub _ _ (Map.add_self _ _ _)
      obtain ⟨lr3, g1, g2, g3, g4, g5, g6, g7, g8, ld3, g9, g10⟩ := s3.rel.blk _ _ _ hl3 ho
      have hst : st ≠ .busy := by rintro rfl; cases h7
      have h8 : hSet rr.H H1.next (.loop .exhausted pd fn3 tm3 tsz3 ps3 as3 bd3 d3) (fun H => (match pd with
          | none => some (⟨.normal, tm, df1, H⟩ : CR)
          | some .normal => none
          | some e => some ⟨e, tm, df1, H⟩)) = some r := by
        cases st <;> first | exact h7 | exact absurd rfl hst
      obtain ⟨H4, hp4, h9⟩ := ob_eq h8
      have hset4 : hSet rr.H H1.next (.loop .exhausted pd fn3 tm3 tsz3 ps3 as3 bd3 d3) some = some H4 := by unfold hSet; rw [hp4]; rfl
      have hlt3 := (Array.getElem?_eq_some_iff.mp g1).1
      have s4 : Step φ3 φ3 rr.H H4 w3 { w3 with heap := w3.heap.setIfInBounds w1.heap.size (.loop { lr3 with state := .exhausted }) } :=
        Step.set s3.rel s3.dom hl3 ho nofun hset4 ⟨{ lr3 with state := .exhausted }, Array.getElem?_setIfInBounds_self_of_lt hlt3, rfl, g3, g4, g5, g6, g7, g8, ld3, g9, g10⟩
      have s1234 := s123.trans s4 hD
      have hend := endLoop_run (P := P) g1 (by rw [g2]; exact hst)
      -- the machine
      have hmach : ∀ J, lr3.pending = J → ∀ kk cs, Steps P (lone (b.atR a (.code (.rangeFunc x ps as bd) :: kk)) cs w) (lone (b.atR { a with defers := mark ++ a.defers } ((J.map Item.code).toList ++ kk)) cs { w3 with heap := w3.heap.setIfInBounds w1.heap.size (.loop { lr3 with state := .exhausted }) }) := by
        intro J hJ kk cs
        subst hJ
        have hres : (resolve a.eval (rangeCall x w1.heap.size) 0).run P (w1.alloc (.loop lr)) = .ok { target := .fn gf' ⟨cap'⟩, args := ⟨first'⟩ ++ #[.func (.yield w1.heap.size) #[] #[]] } (w1.alloc (.loop lr)) := by
          have e0 : Array.map a.eval #[Operand.const (.func (.yield w1.heap.size) #[] #[])] = #[.func (.yield w1.heap.size) #[] #[]] := by simp [Act.eval]
          simp only [resolve, rangeCall, hy, Deferred.ofValue, e0]
          rfl
        have hinv : (invoke (.fn gf' ⟨cap'⟩) (⟨first'⟩ ++ #[.func (.yield w1.heap.size) #[] #[]])).run P (w1.alloc (.loop lr)) = .ok (.enter f2 ⟨args'⟩) (w1.alloc (.loop lr)) := by
          have e1 : (⟨first'⟩ ++ #[Value.func (.yield w1.heap.size) #[] #[]] : Array Value) = ⟨first' ++ [Value.func (.yield w1.heap.size) ⟨[]⟩ ⟨[]⟩]⟩ := by
            apply Array.ext'; simp
          rw [e1]
          exact (hrun _).trans (hcf _)
        have h10 := stepR_rangeFunc (k := kk) (cs := cs) (g := x) (ps := ps) (assign := as) (body := bd) hent hres hinv
        obtain ⟨fr, hs, hfn, hm, hd, hk, fn, hf, hres'⟩ := hcr (b.atR { a with defers := mark ++ a.defers } (.inRangeFunc w1.heap.size :: kk) :: cs)
        have h11 : step P (lone fr (b.atR { a with defers := mark ++ a.defers } (.inRangeFunc w1.heap.size :: kk) :: cs) w3) = .next (lone (b.atR { a with defers := mark ++ a.defers } (.endRangeFunc w1.heap.size :: kk)) cs w3) := by
          rw [← finish_atR_inRangeFunc w1.heap.size v']
          exact step_leave_returned ⟨hm, hd, hk, fn, by rw [hfn]; exact hf, hres'⟩
        exact .head h10 (hs.trans (.head h11 (.one (stepR_endRangeFunc hend))))
      have hT4 : TR φ3 tm sz ({ a with defers := mark ++ a.defers } : Act).tmps := hT.mono s123.ext.sub
      have hd4 : DR φ3 df1 ({ a with defers := mark ++ a.defers } : Act).defers := d1.mono fun k l hk => s3.ext.sub _ _ (hsub1 _ _ hk)
      cases pd with
      | none =>
        cases h9
        refine ⟨φ3, { a with defers := mark ++ a.defers }, _, s1234, hT4, hd4, fun kk cs => ?_⟩
        exact hmach _ g3 kk cs
      | some e =>
        cases e with
        | normal => cases h9
        | exit id =>
          cases h9
          refine ⟨φ3, { a with defers := mark ++ a.defers }, _, s1234, hT4, hd4, fun kk cs => ⟨kk, rfl, ?_⟩⟩
          exact hmach _ g3 kk cs
        | ret =>
          cases h9
          refine ⟨φ3, { a with defers := mark ++ a.defers }, _, s1234, hT4, hd4, fun kk cs => ⟨kk, ?_⟩⟩
          exact hmach _ g3 kk cs
    | _ => cases h7

/-! ### All code -/
theorem codeS_sound (hE : EnvOK P E) {ih : CallF} (hih : ReqOK P ih) (hdr : DrawOK P E ih) {sz : Nat} : ∀ (c : Code) (g : CF), codeS E sz c = some g → CodeOK P ih sz c g := by
  intro c
  induction c with
  | skip =>
    intro g hg n ro tm df H r b a φ w h hr hD hT hdf hro
    cases hg; cases h
    exact ⟨φ, a, w, Step.refl hr hD, hT, hdf, fun kk cs => .one stepR_skip⟩
  | region id ops draw =>
    intro g hg n ro tm df H r b a φ w h hr hD hT hdf hro
    obtain ⟨c, hc, hg⟩ := ob_eq (show ob (bc draw (drawnS E sz ops.toList) (opersS E sz ops.toList ops.toList)) (fun g => some (liftS g)) = some g from hg)
    cases hg
    obtain ⟨s, hs, h⟩ := ob_eq h
    obtain ⟨tm1, df1, H1⟩ := s
    cases h
    rcases bc_eq hc with ⟨hd, hc⟩ | ⟨hd, hc⟩
    · subst hd
      obtain ⟨φ1, a1, w1, s1, t1, d1, m1⟩ := hdr sz ops c hc ro tm df H _ b a φ w.drew (w.tape w.drawn (.order b.fn id)) hs (hr.world rfl) hD hT hdf hro
      exact ⟨φ1, a1, w1, s1.drew, t1, d1, fun kk cs => .head stepR_region_draw (by rw [hE.mix]; exact m1 kk cs)⟩
    · subst hd
      obtain ⟨tm2, df2, H2, h1, φ1, a1, w1, s1, t1, d1, m1⟩ := opers_sound hE hih (b := b) (ops := ops) ops.toList 0 (by simp) c hc φ H w a tm df done _ hr hD hT hdf hro hs
      cases h1
      refine ⟨φ1, a1, w1, s1, t1, d1, fun kk cs => .head stepR_region ?_⟩
      have := m1 kk cs
      rw [Array.length_toList, ← List.range_eq_range'] at this
      exact this
  | seq x y ihx ihy =>
    intro g hg
    obtain ⟨ga, hga, hg⟩ := ob_eq (show ob (codeS E sz x) (fun ga => ob (codeS E sz y) fun gb => some (thenS ga gb)) = some g from hg)
    obtain ⟨gb, hgb, hg⟩ := ob_eq hg
    cases hg
    exact thenS_sound (ihx _ hga) (ihy _ hgb)
  | cond c x y ihx ihy =>
    intro g hg n ro tm df H r b a φ w h hr hD hT hdf hro
    obtain ⟨gc, hgc, hg⟩ := ob_eq (show ob (opS c) (fun g => ob (codeS E sz x) fun ga => ob (codeS E sz y) fun gb => some fun ih n ro f tm df H => g tm fun v => onBool v fun b => bc b (ga ih n ro f tm df H) (gb ih n ro f tm df H)) = some g from hg)
    obtain ⟨ga, hga, hg⟩ := ob_eq hg
    obtain ⟨gb, hgb, hg⟩ := ob_eq hg
    cases hg
    obtain ⟨v, hv, h1⟩ := opS_some hgc h
    obtain ⟨t, rfl, h2⟩ := onBool_eq h1
    have hev := (hT.opsA hr.gl [c] c (by simp) _ hv).bool_inv
    cases t with
    | true =>
      obtain ⟨φ1, a1, w1, s1, t1, d1, m1⟩ := ihx _ hga n ro tm df H r b a φ w h2 hr hD hT hdf hro
      exact ⟨φ1, a1, w1, s1, t1, d1, m1.lead fun kk cs => .one (stepR_cond hev)⟩
    | false =>
      obtain ⟨φ1, a1, w1, s1, t1, d1, m1⟩ := ihy _ hgb n ro tm df H r b a φ w h2 hr hD hT hdf hro
      exact ⟨φ1, a1, w1, s1, t1, d1, m1.lead fun kk cs => .one (stepR_cond hev)⟩
  | block id x ihx =>
    intro g hg
    obtain ⟨ga, hga, hg⟩ := ob_eq (show ob (codeS E sz x) (fun g => some (blockS id g)) = some g from hg)
    cases hg
    exact blockS_sound (ihx _ hga)
  | loop x ihx =>
    intro g hg
    obtain ⟨ga, hga, hg⟩ := ob_eq (show ob (codeS E sz x) (fun g => some (loopS g)) = some g from hg)
    cases hg
    exact loopS_sound (ihx _ hga)
  | rangeFunc x ps as bd _ _ =>
    intro g hg
    obtain ⟨gx, hgx, hg⟩ := ob_eq (show ob (opS x) (fun g => some (rangeS E sz g ps.toList as bd)) = some g from hg)
    cases hg
    exact rangeS_sound hE hih hgx ps as bd
  | exit id =>
    intro g hg n ro tm df H r b a φ w h hr hD hT hdf hro
    cases hg; cases h
    exact ⟨φ, a, w, Step.refl hr hD, hT, hdf, fun kk cs => ⟨kk, rfl, Steps.refl P _⟩⟩
  | scope x ihx =>
    intro g hg
    exact scope_sound (ihx g hg)
  | label l =>
    intro g hg n ro tm df H r b a φ w h hr hD hT hdf hro
    cases hg; cases h
    exact ⟨φ, a, w, Step.refl hr hD, hT, hdf, fun kk cs => .one stepR_label⟩
  | goto l =>
    intro g hg n ro tm df H r b a φ w h hr hD hT hdf hro
    cases hg; cases h
  | ret =>
    intro g hg n ro tm df H r b a φ w h hr hD hT hdf hro
    cases hg; cases h
    exact ⟨φ, a, w, Step.refl hr hD, hT, hdf, fun kk cs => ⟨kk, Steps.refl P _⟩⟩
  | refuse why =>
    intro g hg n ro tm df H r b a φ w h hr hD hT hdf hro
    cases hg; cases h
end
end Go.Ev
end

section
namespace Go.Ev
open Go

section
variable {P : Program} {E : Env}

/-! ### Results -/
/-- One of a function's results. -/
def resOf (tmps : Array Value) : ResultVar → Sem Value
  | .tmp t => pure (tmps.getD t undef)
  | .cell a t => do loadVar t (← asAddr (tmps.getD a undef))
theorem results_eq (fn : Func) (tmps : Array Value) : results fn tmps = (do let vs ← fn.results.mapM (resOf tmps); pure (if h : vs.size = 1 then vs[0] else .tuple vs)) := by
  unfold results
  congr 1
theorem resOne_sound (hE : EnvOK P E) {φ : Map} {H : AHeap} {w : World} (hr : Rel φ H.at w) {tm : FT} {sz : Nat} {tmps : Array Value} (hT : TR φ tm sz tmps) {r : ResultVar} {g} (hg : resOne E r = some g) {f : AV → Option AV} {x : AV} (h : g tm H f = some x) :
    ∃ v v', f v = some x ∧ VR φ v v' ∧ (resOf tmps r).run P w = .ok v' w := by
  have hop : ∀ t a, opd (.tmp t) tm = some a → VR φ a (tmps.getD t undef) := fun t a ha => by
    rcases bc_eq ha with ⟨ht, ha⟩ | ⟨_, ha⟩
    · cases ha; exact hT.2 t (by simpa [Nat.blt_eq] using ht)
    · cases ha
  cases r with
  | tmp t =>
    obtain ⟨g0, hg0, hg⟩ := ob_eq (show ob (opS (.tmp t)) (fun g => some fun tm _ f => g tm f) = some g from hg)
    cases hg
    obtain ⟨v, hv, h1⟩ := opS_some hg0 h
    exact ⟨v, _, h1, hop t v hv, rfl⟩
  | cell a t =>
    obtain ⟨g0, hg0, hg⟩ := ob_eq (show ob (opS (.tmp a)) (fun g => ob (E.tt t) fun i => ob (loadS i g) fun h => some fun tm H f => ob (h tm H) f) = some g from hg)
    obtain ⟨i, hi, hg⟩ := ob_eq hg
    obtain ⟨hh, hl, hg⟩ := ob_eq hg
    cases hg
    obtain ⟨v, hv, h1⟩ := ob_eq h
    obtain ⟨v', hvr, hrun⟩ := load_sound (P := P) hE hr hi hg0 hl hv (v0 := tmps.getD a undef) (fun u hu => hop a u hu)
    refine ⟨v, v', h1, hvr, ?_⟩
    show Sem.run P (do loadVar t (← asAddr (tmps.getD a undef))) w = _
    generalize tmps.getD a undef = y at hrun
    cases y with
    | pointer p => cases p with
      | none => simp [Instr.loadAt, Instr.sureAddr] at hrun
      | some p => simpa [Instr.loadAt, Instr.sureAddr, asAddr] using hrun
    | _ => simp [Instr.loadAt, Instr.sureAddr] at hrun
theorem resS_sound (hE : EnvOK P E) {φ : Map} {H : AHeap} {w : World} (hr : Rel φ H.at w) {tm : FT} {sz : Nat} {tmps : Array Value} (hT : TR φ tm sz tmps) : ∀ (rs : List ResultVar) (g), resS E rs = some g → ∀ (f : List AV → Option AV) (x : AV), g tm H f = some x →
    ∃ vs vs', f vs = some x ∧ VRs φ vs vs' ∧ (rs.mapM (resOf tmps)).run P w = .ok vs' w := by
  intro rs
  induction rs with
  | nil => intro g hg f x h; cases hg; exact ⟨[], [], h, .nil, rfl⟩
  | cons r rs ih =>
    intro g hg f x h
    obtain ⟨g1, hg1, hg⟩ := ob_eq (show ob (resOne E r) (fun g => ob (resS E rs) fun gs => some fun tm H f => g tm H fun v => gs tm H fun vs => f (v :: vs)) = some g from hg)
    obtain ⟨gs, hgs, hg⟩ := ob_eq hg
    cases hg
    obtain ⟨v, v', h1, h2, h3⟩ := resOne_sound hE hr hT hg1 h
    obtain ⟨vs, vs', h4, h5, h6⟩ := ih gs hgs _ x h1
    refine ⟨v :: vs, v' :: vs', h4, .cons h2 h5, ?_⟩
    rw [List.mapM_cons]
    simp only [Sem.run_bind, h3, Result.andThen_ok, h6, Sem.run_pure]
theorem retV_eq {vs : List AV} {x : AV} (h : retV vs = some x) : (∃ v, vs = [v] ∧ x = v) ∨ (vs.length ≠ 1 ∧ x = .tup vs) := by
  match vs, h with
  | [], h => cases h; exact .inr ⟨by decide, rfl⟩
  | [_], h => cases h; exact .inl ⟨_, rfl, rfl⟩
  | v :: u :: r, h => cases h; exact .inr ⟨by simp, rfl⟩
theorem results_sound (hE : EnvOK P E) {φ : Map} {H : AHeap} {w : World} (hr : Rel φ H.at w) {tm : FT} {sz : Nat} {tmps : Array Value} (hT : TR φ tm sz tmps) {fn : Func} {g} (hg : resS E fn.results.toList = some g) {x : AV} (h : g tm H retV = some x) :
    ∃ v', VR φ x v' ∧ (results fn tmps).run P w = .ok v' w := by
  obtain ⟨vs, vs', h1, h2, h3⟩ := resS_sound hE hr hT _ g hg retV x h
  rw [results_eq]
  have hm : (fn.results.mapM (resOf tmps)).run P w = .ok vs'.toArray w := by
    rw [Array.mapM_eq_mapM_toList]
    simp only [Sem.run_map, h3, Result.andThen_ok]
  rcases retV_eq h1 with ⟨v, rfl, rfl⟩ | ⟨hl, rfl⟩
  · cases h2 with
    | cons h4 h5 =>
      cases h5
      rename_i v'
      refine ⟨v', h4, ?_⟩
      rw [Sem.run_bind, hm]
      rfl
  · refine ⟨.tuple ⟨vs'⟩, .tup h2, ?_⟩
    rw [Sem.run_bind, hm]
    have hl' : ¬ (vs'.toArray.size = 1) := by simp only [List.size_toArray]; rw [← h2.length]; exact hl
    simp only [Result.andThen_ok, Sem.run_pure]
    rw [dif_neg hl']

/-! ### Leaving a function -/
/-- A frame that is leaving its function. -/
def Lv (fr : Frame) (f : FuncId) (kind : CallKind) (tmps : Array Value) (ds : List Deferred) : Prop := fr.fn = f ∧ fr.mode = .returning ∧ fr.defers = ds ∧ fr.kind = kind ∧ fr.tmps = tmps
theorem step_collected {fr : Frame} {cs : List Frame} {w w' : World} {blk : Nat} {args : Array Value} {ds calls : List Deferred} (hm : fr.mode = .returning) (hd : fr.defers = { target := .collected blk, args := args } :: ds) (h : (Instr.takeDeferred blk).run P w = .ok calls w') :
    step P (lone fr cs w) = .next (lone { fr with defers := calls ++ ds } cs w') :=
  step_lone_go (by simp [stepG, unwind, hm, hd, Sem.runT_eq, h, GStep.bare_after])
theorem unw_sound (hE : EnvOK P E) {ih : CallF} (hih : ReqOK P ih) {f : FuncId} {kind : CallKind} {tmps : Array Value} : ∀ (df : List ADef) (H H' : AHeap), unwA E ih df H = some H' → ∀ (ds : List Deferred) (φ : Map) (w : World), DR φ df ds → Rel φ H.at w → Dom φ H →
    ∃ φ' w', Step φ φ' H H' w w' ∧ ∀ fr cs, Lv fr f kind tmps ds → ∃ fr', Lv fr' f kind tmps [] ∧ Steps P (lone fr cs w) (lone fr' cs w') := by
  intro df
  induction df with
  | nil =>
    intro H H' h ds φ w hdr hr hD
    cases h; cases hdr
    exact ⟨φ, w, Step.refl hr hD, fun fr cs hl => ⟨fr, hl, Steps.refl P _⟩⟩
  | cons d df ihd =>
    intro H H' h ds φ w hdr hr hD
    cases hdr with
    | cons h1 h2 =>
      rename_i d' ds
      cases d with
      | coll r =>
        cases h1 with
        | coll hl =>
          rename_i l
          obtain ⟨o, ho, h3⟩ := hGet_eq (show hGet H r (fun o => (match o with | .defd => hSet H r .dead (unwA E ih df) | _ => none)) = some H' from h)
          cases o with
          | defd =>
            obtain ⟨H1, hp, h4⟩ := ob_eq (show ob (hPut H r .dead) (unwA E ih df) = some H' from h3)
            have hs1 : hSet H r .dead some = some H1 := by unfold hSet; rw [hp]; rfl
            have hg : w.heap[l.b]? = some (.deferred (some [])) := hr.blk _ _ _ hl ho
            have s1 : Step φ φ H H1 w { w with heap := w.heap.setIfInBounds l.b (.deferred none) } := Step.set hr hD hl ho nofun hs1 trivial
            obtain ⟨φ2, w2, s2, m2⟩ := ihd H1 H' h4 ds φ _ h2 s1.rel s1.dom
            refine ⟨φ2, w2, s1.trans s2 hD, fun fr cs hlv => ?_⟩
            obtain ⟨e1, e2, e3, e4, e5⟩ := hlv
            have htake : (Instr.takeDeferred l.b).run P w = .ok [] { w with heap := w.heap.setIfInBounds l.b (.deferred none) } := by
              have hgo : (getObj l.b).run P w = .ok (.deferred (some [])) w := by simp [getObj, Sem.run, hg]
              have hso : (setObj l.b (.deferred none)).run P w = .ok () { w with heap := w.heap.setIfInBounds l.b (.deferred none) } := by simp [setObj, Sem.run, hg]
              simp [Instr.takeDeferred, hgo, hso]
            have hst := step_collected (P := P) (cs := cs) e2 e3 htake
            obtain ⟨fr', h5, h6⟩ := m2 { fr with defers := [] ++ ds } cs ⟨e1, e2, by simp, e4, e5⟩
            exact ⟨fr', h5, .head hst h6⟩
          | _ => cases h3
      | call cf cap args =>
        cases h1 with
        | call hf hc ha =>
          rename_i cf' cap' args'
          obtain ⟨n, hn, h3⟩ := ob_eq (show ob (calleeA E cf cap args) (fun n => ob (goes ih n H) (unwA E ih df)) = some H' from h)
          obtain ⟨H1, hgo, h4⟩ := ob_eq h3
          obtain ⟨f2, args2, rr, rfl, hih1, rfl⟩ := goes_eq hgo
          obtain ⟨a2, hargs, hrun⟩ := callee_sound (P := P) hE hn hf hc ha
          obtain ⟨φ1, v', w1, hv', s1, hcf, hcr⟩ := hih.call f2 args2 H rr hih1 .deferred φ w a2 (.inr rfl) hr hD hargs
          obtain ⟨φ2, w2, s2, m2⟩ := ihd rr.H H' h4 ds φ1 w1 (DR.mono s1.ext.sub h2) s1.rel s1.dom
          refine ⟨φ2, w2, s1.trans s2 hD, fun fr cs hlv => ?_⟩
          obtain ⟨e1, e2, e3, e4, e5⟩ := hlv
          have hst := step_defer (P := P) (fr := fr) (cs := cs) (w := w) (d := { target := .fn cf' ⟨cap'⟩, args := ⟨args'⟩ }) (ds := ds) (by rw [e2]; nofun) e3 rfl ((hrun w).trans (hcf w))
          obtain ⟨frX, hs, hfn, hm, hd, hk, fn, hf', hr'⟩ := hcr ({ fr with defers := ds } :: cs)
          have hback := step_going_returned (P := P) (fr := frX) (c := { fr with defers := ds }) (cs := cs) (w := w1) (v := v') hk ⟨hm, hd, fn, by rw [hfn]; exact hf', hr'⟩
          have hset : settle ({ fr with defers := ds } : Frame).mode = .returning := by
            show settle fr.mode = _
            rw [e2]; rfl
          rw [hset] at hback
          obtain ⟨fr', h5, h6⟩ := m2 { { fr with defers := ds } with mode := .returning } cs ⟨e1, rfl, rfl, e4, e5⟩
          exact ⟨fr', h5, .head hst (hs.trans (.head hback h6))⟩

/-! ### Entering -/
theorem putArgs_sound {γ : Type} : ∀ (args : List AV) (i : Nat) (m : FT) (f : FT → Option γ) (r : γ), putArgs args i m f = some r → ∃ m', f m' = some r ∧ (args = [] ∨ i + args.length ≤ 256) ∧ ∀ t, t < 256 → tget 4 m' t = if i ≤ t ∧ t < i + args.length then (args[t - i]?).getD undefA else tget 4 m t := by
  intro args
  induction args with
  | nil => intro i m f r h; exact ⟨m, h, .inl rfl, fun t _ => by rw [if_neg (by simp)]⟩
  | cons v args ih =>
    intro i m f r h
    rcases bc_eq (show bc (Nat.blt i 256) (ob (tsetS 4 i) fun g => g m v fun m => fN (Nat.succ i) fun i => putArgs args i m f) none = some r from h) with ⟨hi, h1⟩ | ⟨_, h1⟩
    · obtain ⟨g, hg, h2⟩ := ob_eq h1
      obtain ⟨g', hg', e⟩ := tsetS_eq (α := AV) (β := Option γ) 4 i
      rw [hg'] at hg; cases hg
      rw [e, fN_eq] at h2
      have hi' : i < 256 := by rw [nblt] at hi; simpa using hi
      obtain ⟨m', h3, h4, h5⟩ := ih (i + 1) _ f r h2
      refine ⟨m', h3, .inr (by rcases h4 with rfl | h4 <;> simp <;> omega), fun t ht => ?_⟩
      rw [h5 t ht, tget_tset v 4 m i t hi' ht]
      simp only [List.length_cons]
      by_cases h6 : i + 1 ≤ t ∧ t < i + 1 + args.length
      · rw [if_pos h6, if_pos (by omega), show t - i = (t - (i + 1)) + 1 by omega, List.getElem?_cons_succ]
      · rw [if_neg h6]
        by_cases h7 : t = i
        · subst h7; rw [if_pos rfl, if_pos (by omega), Nat.sub_self]; rfl
        · rw [if_neg h7, if_neg (by omega)]
    · cases h1
theorem enter_TR {φ : Map} {args : List AV} {args' : List Value} (ha : VRs φ args args') {sz : Nat} (hsz : args.length ≤ sz) {tm : FT} (ht : ∀ t, t < 256 → tget 4 tm t = if 0 ≤ t ∧ t < 0 + args.length then (args[t - 0]?).getD undefA else tget 4 noTmps t) :
    TR φ tm sz (⟨args'⟩ ++ Array.replicate (sz - args'.length) undef) := by
  have hl := ha.length
  refine ⟨by simp; omega, fun t ht' => ?_⟩
  rw [ht t ht']
  by_cases h : t < args.length
  · rw [if_pos (by omega)]
    obtain ⟨v', h1, h2⟩ := ha.get t _ (List.getElem?_eq_getElem h)
    have e1 : (args[t - 0]?).getD undefA = args[t] := by simp [h]
    rw [e1]
    have e2 : (⟨args'⟩ ++ Array.replicate (sz - args'.length) undef : Array Value).getD t undef = v' := by
      rw [Array.getD_eq_getD_getElem?, Array.getElem?_append_left (by simp; omega)]
      simp [h1]
    rw [e2]
    exact h2
  · rw [if_neg (by omega), noTmps, tget_tful]
    have e2 : (⟨args'⟩ ++ Array.replicate (sz - args'.length) undef : Array Value).getD t undef = undef := by
      rw [Array.getD_eq_getD_getElem?, Array.getElem?_append_right (by simp; omega), Array.getElem?_replicate]
      split <;> rfl
    rw [e2]
    exact undef_VR φ

/-! ### Calls -/
theorem callFunc_run {f : Nat} {fn : Func} (h : P.funcs[f]? = some fn) (hn : fn.name ≠ "runtime.NumGoroutine") (hb : fn.body.isSome = true) (args : Array Value) (w : World) : (callFunc f args).run P w = .ok (.enter f args) w := by
  have hb' : fn.body.isNone = false := by cases hbd : fn.body with
    | none => rw [hbd] at hb; cases hb
    | some _ => rfl
  have hn' : (fn.name == "runtime.NumGoroutine") = false := by simpa using hn
  simp only [callFunc, Sem.run_bind, run_program, Result.andThen_ok, h, hn', hb', Bool.false_eq_true, if_false, Sem.run_pure]
theorem doCall_sound (hE : EnvOK P E) {ih : CallF} (hih : ReqOK P ih) (hdr : DrawOK P E ih) {n : Nat} {f : Nat} {args : List AV} {H : AHeap} {r : VH} (h : doCall E n ih f args H = some r) (kind : CallKind) {φ : Map} {w : World} {args' : List Value} (hr : Rel φ H.at w) (hD : Dom φ H) (ha : VRs φ args args') :
    ∃ φ' v' w', VR φ' r.v v' ∧ Step φ φ' H r.H w w' ∧ (∀ w, (callFunc f ⟨args'⟩).run P w = .ok (.enter f ⟨args'⟩) w) ∧ CallR P kind f ⟨args'⟩ w v' w' := by
  obtain ⟨q, hq, h⟩ := ob_eq h
  obtain ⟨fn, hfn, hq⟩ := ob_eq hq
  obtain ⟨c, hc, hq⟩ := ob_eq hq
  rw [fN_eq] at hq
  rcases bc_eq hq with ⟨hs256, hq⟩ | ⟨_, hq⟩
  · obtain ⟨g, hg, hq⟩ := ob_eq hq
    obtain ⟨rs, hrs, hq⟩ := ob_eq hq
    cases hq
    obtain ⟨hf, hnm, hbd⟩ := hE.fn hfn
    rcases bc_eq h with ⟨hle, h⟩ | ⟨_, h⟩
    · have hle : args.length ≤ fn.ntmps := by have := ble_le hle; rw [llen_eq] at this; simpa using this
      obtain ⟨cr, hcr, h⟩ := ob_eq h
      obtain ⟨tm, hgm, hlen, htm⟩ := putArgs_sound args 0 noTmps _ _ hcr
      obtain ⟨e, tm1, df1, H1⟩ := cr
      have hT := enter_TR ha hle htm
      let b : Frame := { fn := f, tmps := #[], todo := [], defers := [], mode := .run, kind := kind }
      let a : Act := { tmps := ⟨args'⟩ ++ Array.replicate (fn.ntmps - args'.length) undef, defers := [] }
      rcases bc_eq (show bc (AEx.rec (motive := fun _ => Bool) true (fun _ => false) true e) (ob (unwA E ih df1 H1) fun H => ob (rs tm1 H retV) fun v => some (⟨v, H⟩ : VH)) none = some r from h) with ⟨he, h⟩ | ⟨_, h⟩
      · obtain ⟨H2, hun, h⟩ := ob_eq h
        obtain ⟨v, hv, h⟩ := ob_eq h
        cases h
        obtain ⟨φ1, a1, w1, s1, t1, d1, m1⟩ := codeS_sound hE hih hdr c g hg n none tm [] H ⟨e, tm1, df1, H1⟩ b a φ w hgm hr hD hT .nil trivial
        obtain ⟨φ2, w2, s2, m2⟩ := unw_sound hE hih (f := f) (kind := kind) (tmps := a1.tmps) df1 H1 H2 hun a1.defers φ1 w1 d1 s1.rel s1.dom
        obtain ⟨v', hvr, hres⟩ := results_sound hE s2.rel (t1.mono s2.ext.sub) hrs hv
        refine ⟨φ2, v', w2, hvr, s1.trans s2 hD, fun w => callFunc_run hf hnm hbd _ w, fun cs => ?_⟩
        have henter : Frame.enter P f ⟨args'⟩ kind = b.atR a [.code c] := by
          simp [Frame.enter, Frame.atR, hf, hc, b, a]
        have hleave : ∃ fr, Lv fr f kind a1.tmps a1.defers ∧ Steps P (lone (Frame.enter P f ⟨args'⟩ kind) cs w) (lone fr cs w1) := by
          rw [henter]
          have h6 := m1 [] cs
          cases e with
          | normal => exact ⟨{ b.atR a1 [] with mode := .returning }, ⟨rfl, rfl, rfl, rfl, rfl⟩, h6.trans (.one (stepR_end rfl))⟩
          | ret => obtain ⟨k1, h7⟩ := h6; exact ⟨{ b.atR a1 (.code .ret :: k1) with mode := .returning }, ⟨rfl, rfl, rfl, rfl, rfl⟩, h7.trans (.one (stepR_ret rfl))⟩
          | exit id => cases he
        obtain ⟨fr, hlv, hs1⟩ := hleave
        obtain ⟨fr', ⟨e1, e2, e3, e4, e5⟩, hs2⟩ := m2 fr cs hlv
        exact ⟨fr', hs1.trans hs2, e1, e2, e3, e4, fn, hf, by rw [e5]; exact hres⟩
      · cases h
    · cases h
  · cases hq

/-! ### Rounds -/
theorem zipSet_sound {γ : Type} {φ : Map} {sz : Nat} : ∀ (ps : List Nat) (vs : List AV) (m : FT) (f : FT → Option γ) (r : γ), zipSet sz ps vs m f = some r → ∀ (vs' : List Value) (tmps : Array Value), VRs φ vs vs' → TR φ m sz tmps →
    ∃ m', f m' = some r ∧ ps.length = vs'.length ∧ TR φ m' sz ((ps.zip vs').foldl (fun t x => t.setIfInBounds x.1 x.2) tmps) := by
  intro ps
  induction ps with
  | nil =>
    intro vs m f r h vs' tmps hv hT
    cases vs with
    | nil => cases hv; exact ⟨m, h, rfl, hT⟩
    | cons v vs => cases h
  | cons p ps ih =>
    intro vs m f r h vs' tmps hv hT
    cases vs with
    | nil => cases h
    | cons v vs =>
      cases hv with
      | cons hv1 hv2 =>
        rename_i v' vs'
        rcases bc_eq (show bc (Nat.blt p sz) (bc (Nat.blt p 256) (ob (tsetS 4 p) fun g => g m v fun m => zipSet sz ps vs m f) none) none = some r from h) with ⟨h1, h2⟩ | ⟨_, h2⟩
        · rcases bc_eq h2 with ⟨h3, h4⟩ | ⟨_, h4⟩
          · obtain ⟨g, hg, h5⟩ := ob_eq h4
            obtain ⟨g', hg', e⟩ := tsetS_eq (α := AV) (β := Option γ) 4 p
            rw [hg'] at hg; cases hg
            rw [e] at h5
            have h1' : p < sz := by rw [nblt] at h1; simpa using h1
            have h3' : p < 256 := by rw [nblt] at h3; simpa using h3
            have hT1 : TR φ (tset 4 m p v) sz (tmps.setIfInBounds p v') := TR.put (a := { tmps := tmps, defers := [] }) (dst := some p) hT hv1 ⟨h1', h3', rfl⟩
            obtain ⟨m', h6, h7, h8⟩ := ih vs _ f r h5 vs' _ hv2 hT1
            exact ⟨m', h6, by simp [h7], by rw [List.zip_cons_cons, List.foldl_cons]; exact h8⟩
          · cases h4
        · cases h2
theorem beginRound_run {l : Nat} {r : Loop} {w : World} (h : w.heap[l]? = some (.loop r)) (hs : r.state = .ready) : (Instr.beginRound l).run P w = .ok () { w with heap := w.heap.setIfInBounds l (.loop { r with state := .busy }) } := by
  simp [Instr.beginRound, run_getLoop' h, hs, run_putLoop h]
theorem endRound_run {l : Nat} {r : Loop} {w : World} (h : w.heap[l]? = some (.loop r)) (j : Option Code) : (Instr.endRound l j).run P w = .ok (.bool j.isNone) { w with heap := w.heap.setIfInBounds l (.loop { r with state := if j.isNone then .ready else .done, pending := j }) } := by
  simp [Instr.endRound, run_getLoop' h, run_putLoop h]
theorem yield_run {l : Nat} {r : Loop} {w : World} (h : w.heap[l]? = some (.loop r)) {args : Array Value} (hs : args.size = r.params.size) : (Instr.yield l args).run P w = .ok (.round l r.fn ((r.params.zip args).foldl (fun tmps (t, a) => tmps.setIfInBounds t a) r.tmps) r.assign r.body) w := by
  simp [Instr.yield, run_getLoop' h, hs]
theorem doYield_sound (hE : EnvOK P E) {ih : CallF} (hih : ReqOK P ih) (hdr : DrawOK P E ih) {n : Nat} {l : Nat} {args : List AV} {H : AHeap} {r : VH} (h : doYield E n ih l args H = some r) {φ : Map} {w : World} {args' : List Value} {loc : Loc} (hr : Rel φ H.at w) (hD : Dom φ H) (hl : φ l = some loc) (ha : VRs φ args args') :
    ∃ φ' v' w', VR φ' r.v v' ∧ Step φ φ' H r.H w w' ∧ ∃ f tmps as bd, (Instr.yield loc.b ⟨args'⟩).run P w = .ok (.round loc.b f tmps as bd) w ∧ RoundR P loc.b f tmps as bd w v' w' := by
  obtain ⟨o, ho, h⟩ := hGet_eq h
  cases o with
  | loop st pd0 fn tm0 sz ps as bd d0 =>
    cases st with
    | ready =>
      obtain ⟨ga, hga, h1⟩ := ob_eq (show ob (codeS E sz as) (fun ga => ob (codeS E sz bd) fun gb =>
        ob (zipSet sz ps args tm0 fun tm => ga ih n (some l) fn tm [] H) fun r => (match r with
        | ⟨.normal, tm, [], H⟩ => hGet H l fun o => (match o with
          | .loop .ready pd fn2 tm' sz ps as bd d => hSet H l (.loop .busy pd fn2 tm' sz ps as bd d) fun H =>
            ob (gb ih n (some l) fn tm [] H) fun r => (match r with
              | ⟨e, _, _, H⟩ => hGet H l fun o => (match o with
                | .loop _ _ fn tm sz ps as bd d => (match e with
                  | .normal => hSet H l (.loop .ready none fn tm sz ps as bd d) fun H => some (⟨.bool true, H⟩ : VH)
                  | e => hSet H l (.loop .done (some e) fn tm sz ps as bd d) fun H => some ⟨.bool false, H⟩)
                | _ => none))
          | _ => none)
        | _ => none)) = some r from h)
      obtain ⟨gb, hgb, h2⟩ := ob_eq h1
      obtain ⟨cr1, hcr1, h3⟩ := ob_eq h2
      obtain ⟨lr, g1, g2, g3, g4, g5, g6, g7, g8, ld, g9, g10⟩ := hr.blk _ _ _ hl ho
      obtain ⟨tm1, hrun1, hlen, hT1⟩ := zipSet_sound ps args tm0 _ _ hcr1 args' lr.tmps ha g5
      -- the frame
      let b : Frame := { fn := fn, tmps := #[], todo := [], defers := [], mode := .run, kind := .normal, roundOf := some loc.b }
      let tmps1 : Array Value := (ps.zip args').foldl (fun t x => t.setIfInBounds x.1 x.2) lr.tmps
      have hro : RO φ (some l) b.roundOf := ⟨loc, hl, rfl⟩
      obtain ⟨e1, tm2, df2, H2⟩ := cr1
      obtain ⟨φ1, a1, w1, s1, t1, d1, m1⟩ := codeS_sound hE hih hdr as ga hga n (some l) tm1 [] H ⟨e1, tm2, df2, H2⟩ b { tmps := tmps1, defers := [] } φ w hrun1 hr hD hT1 .nil hro
      cases e1 with
      | normal =>
        cases df2 with
        | nil =>
          obtain ⟨o2, ho2, h4⟩ := hGet_eq h3
          cases o2 with
          | loop st2 pd2 fn2 tm3 sz2 ps2 as2 bd2 dd2 =>
            cases st2 with
            | ready =>
              obtain ⟨H3, hp3, h5⟩ := ob_eq h4
              have hs3 : hSet H2 l (.loop .busy pd2 fn2 tm3 sz2 ps2 as2 bd2 dd2) some = some H3 := by unfold hSet; rw [hp3]; rfl
              have hl1 := s1.ext.sub _ _ hl
              obtain ⟨lr2, k1, k2, k3, k4, k5, k6, k7, k8, ld2, k9, k10⟩ := s1.rel.blk _ _ _ hl1 ho2
              have hlt2 := (Array.getElem?_eq_some_iff.mp k1).1
              have s2 : Step φ1 φ1 H2 H3 w1 { w1 with heap := w1.heap.setIfInBounds loc.b (.loop { lr2 with state := .busy }) } :=
                Step.set s1.rel s1.dom hl1 ho2 nofun hs3 ⟨{ lr2 with state := .busy }, Array.getElem?_setIfInBounds_self_of_lt hlt2, rfl, k3, k4, k5, k6, k7, k8, ld2, k9, k10⟩
              have hbr := beginRound_run (P := P) k1 k2
              obtain ⟨cr3, hcr3, h6⟩ := ob_eq h5
              obtain ⟨e3, tm4, df4, H4⟩ := cr3
              have hd1 : DR φ1 [] a1.defers := d1
              obtain ⟨φ3, a3, w3, s3, t3, d3, m3⟩ := codeS_sound hE hih hdr bd gb hgb n (some l) tm2 [] H3 ⟨e3, tm4, df4, H4⟩ b a1 φ1 _ hcr3 s2.rel s2.dom t1 hd1 (hro.mono s1.ext.sub)
              obtain ⟨o4, ho4, h7⟩ := hGet_eq h6
              cases o4 with
              | loop st4 pd4 fn4 tm5 sz4 ps4 as4 bd4 dd4 =>
                have hl3 := s3.ext.sub _ _ hl1
                obtain ⟨lr4, j1, j2, j3, j4, j5, j6, j7, j8, ld4, j9, j10⟩ := s3.rel.blk _ _ _ hl3 ho4
                have hlt4 := (Array.getElem?_eq_some_iff.mp j1).1
                have s123 := (s1.trans s2 hD).trans s3 hD
                have hyield : (Instr.yield loc.b ⟨args'⟩).run P w = .ok (.round loc.b fn tmps1 as bd) w := by
                  have hsz : (⟨args'⟩ : Array Value).size = lr.params.size := by
                    have : lr.params.toList.length = args'.length := by rw [g6]; exact hlen
                    simp at this ⊢; omega
                  rw [yield_run (P := P) g1 hsz, g4, g7, g8]
                  congr 2
                  show _ = (ps.zip args').foldl (fun t x => t.setIfInBounds x.1 x.2) lr.tmps
                  rw [← Array.foldl_toList, Array.toList_zip, g6]
                -- the machine, up to the end of the body
                have hmach : ∀ c cs, Steps P (lone (Frame.round loc.b fn tmps1 as bd .normal) (c :: cs) w) (lone (b.atR a1 [.code bd]) (c :: cs) { w1 with heap := w1.heap.setIfInBounds loc.b (.loop { lr2 with state := .busy }) }) := by
                  intro c cs
                  have h0 : Frame.round loc.b fn tmps1 as bd .normal = b.atR { tmps := tmps1, defers := [] } [.code as, .beginRound, .code bd] := by
                    simp [Frame.round, Frame.atR, b]
                  rw [h0]
                  exact (m1 [.beginRound, .code bd] (c :: cs)).trans (.one (stepR_beginRound rfl hbr))
                cases e3 with
                | normal =>
                  obtain ⟨H5, hp5, h8⟩ := ob_eq (show hSet H4 l (.loop .ready none fn4 tm5 sz4 ps4 as4 bd4 dd4) (fun H => some (⟨.bool true, H⟩ : VH)) = some r from h7)
                  cases h8
                  have hs5 : hSet H4 l (.loop .ready none fn4 tm5 sz4 ps4 as4 bd4 dd4) some = some H5 := by unfold hSet; rw [hp5]; rfl
                  have hend := endRound_run (P := P) j1 none
                  have s5 : Step φ3 φ3 H4 H5 w3 _ := Step.set s3.rel s3.dom hl3 ho4 nofun hs5 (c := .loop { lr4 with state := .ready, pending := none }) ⟨{ lr4 with state := .ready, pending := none }, Array.getElem?_setIfInBounds_self_of_lt hlt4, rfl, rfl, j4, j5, j6, j7, j8, ld4, j9, j10⟩
                  refine ⟨φ3, .bool true, _, .bool true, s123.trans s5 hD, fn, tmps1, as, bd, hyield, fun c cs => ?_⟩
                  exact (hmach c cs).trans ((m3 [] (c :: cs)).trans (.one (stepR_round_end rfl rfl hend)))
                | exit id =>
                  obtain ⟨H5, hp5, h8⟩ := ob_eq (show hSet H4 l (.loop .done (some (.exit id)) fn4 tm5 sz4 ps4 as4 bd4 dd4) (fun H => some (⟨.bool false, H⟩ : VH)) = some r from h7)
                  cases h8
                  have hs5 : hSet H4 l (.loop .done (some (.exit id)) fn4 tm5 sz4 ps4 as4 bd4 dd4) some = some H5 := by unfold hSet; rw [hp5]; rfl
                  have hend := endRound_run (P := P) j1 (some (.exit id))
                  have s5 : Step φ3 φ3 H4 H5 w3 _ := Step.set s3.rel s3.dom hl3 ho4 nofun hs5 (c := .loop { lr4 with state := .done, pending := some (.exit id) }) ⟨{ lr4 with state := .done, pending := some (.exit id) }, Array.getElem?_setIfInBounds_self_of_lt hlt4, rfl, rfl, j4, j5, j6, j7, j8, ld4, j9, j10⟩
                  refine ⟨φ3, .bool false, _, .bool false, s123.trans s5 hD, fn, tmps1, as, bd, hyield, fun c cs => ?_⟩
                  obtain ⟨k1', hk, hs⟩ := m3 [] (c :: cs)
                  exact (hmach c cs).trans (hs.trans (.one (stepR_round_exit rfl rfl hk hend)))
                | ret =>
                  obtain ⟨H5, hp5, h8⟩ := ob_eq (show hSet H4 l (.loop .done (some .ret) fn4 tm5 sz4 ps4 as4 bd4 dd4) (fun H => some (⟨.bool false, H⟩ : VH)) = some r from h7)
                  cases h8
                  have hs5 : hSet H4 l (.loop .done (some .ret) fn4 tm5 sz4 ps4 as4 bd4 dd4) some = some H5 := by unfold hSet; rw [hp5]; rfl
                  have hend := endRound_run (P := P) j1 (some .ret)
                  have s5 : Step φ3 φ3 H4 H5 w3 _ := Step.set s3.rel s3.dom hl3 ho4 nofun hs5 (c := .loop { lr4 with state := .done, pending := some .ret }) ⟨{ lr4 with state := .done, pending := some .ret }, Array.getElem?_setIfInBounds_self_of_lt hlt4, rfl, rfl, j4, j5, j6, j7, j8, ld4, j9, j10⟩
                  refine ⟨φ3, .bool false, _, .bool false, s123.trans s5 hD, fn, tmps1, as, bd, hyield, fun c cs => ?_⟩
                  obtain ⟨k1', hs⟩ := m3 [] (c :: cs)
                  exact (hmach c cs).trans (hs.trans (.one (stepR_round_ret rfl rfl hend)))
              | _ => cases h7
            | _ => cases h4
          | _ => cases h4
        | cons _ _ => cases h3
      | _ => cases h3
    | _ => cases h
  | _ => cases h

/-! ### The join -/
theorem callF_sound (hE : EnvOK P E) (hdr : ∀ ih, ReqOK P ih → DrawOK P E ih) (rounds : Nat) : ∀ depth, ReqOK P (callF E rounds depth) := by
  intro depth
  induction depth with
  | zero => exact ⟨fun f args H r h => (by cases h), fun l args H r h => (by cases h)⟩
  | succ d ih =>
    refine ⟨fun f args H r h kind φ w args' hk hr hD ha => ?_, fun l args H r h φ w args' loc hr hD hl ha => ?_⟩
    · exact doCall_sound hE ih (hdr _ ih) (show doCall E rounds (callF E rounds d) f args H = some r from h) kind hr hD ha
    · exact doYield_sound hE ih (hdr _ ih) (show doYield E rounds (callF E rounds d) l args H = some r from h) hr hD hl ha
end
end Go.Ev
end

section
namespace Go.Ev
open Go

/-! ### Sets of numbers -/
theorem bit_eq (m i : Nat) : bit m i = m.testBit i := by
  unfold bit
  rw [Nat.testBit_eq_decide_div_mod_eq, bnot_eq, nbeq]
  show (!decide (m / 2 ^ i % 2 = 0)) = _
  have : m / 2 ^ i % 2 < 2 := Nat.mod_lt _ (by decide)
  by_cases h : m / 2 ^ i % 2 = 0
  · simp [h]
  · have h1 : m / 2 ^ i % 2 = 1 := by omega
    simp [h1]
theorem bit_lor (a b i : Nat) : bit (Nat.lor a b) i = (bit a i || bit b i) := by
  rw [bit_eq, bit_eq, bit_eq]
  exact Nat.testBit_or a b i
theorem bit_pow (n i : Nat) : bit (Nat.pow 2 n) i = decide (n = i) := by
  rw [bit_eq]
  exact Nat.testBit_two_pow
theorem bit_zero (i : Nat) : bit 0 i = false := by rw [bit_eq]; exact Nat.zero_testBit i

/-! ### A fold's states -/
theorem lfold_trace {α σ : Type} (f : σ → α → Option σ) : ∀ (l : List α) (s s' : σ), lfold f l s = some s' → ∃ T : Nat → σ, T 0 = s ∧ T l.length = s' ∧ ∀ i a, l[i]? = some a → f (T i) a = some (T (i + 1)) := by
  intro l
  induction l with
  | nil => intro s s' h; cases h; exact ⟨fun _ => s, rfl, rfl, fun i a h => by simp at h⟩
  | cons a l ih =>
    intro s s' h
    rw [lfold_cons] at h
    obtain ⟨s1, h1, h2⟩ := ob_eq h
    obtain ⟨T, t0, tn, hT⟩ := ih s1 s' h2
    refine ⟨fun i => match i with | 0 => s | i + 1 => T i, rfl, tn, fun i b hb => ?_⟩
    cases i with
    | zero => simp at hb; subst hb; show f s a = some (T 0); rw [t0]; exact h1
    | succ i => exact hT i b (by simpa using hb)

/-! ### What comes ahead of what -/
theorem befMask_eq (n : Nat) (acc : Tr Nat 4) : ∀ (es : List Edge) (m0 m : Nat), lfold (fun m e => bc (Region.binds .any e) (bc (Nat.blt e.on n) (fN (tget 4 acc e.on) fun b => fN (Nat.lor m (Nat.lor (Nat.pow 2 e.on) b)) fun m => some m) none) (some m)) es m0 = some m →
    (∀ e, e ∈ es → Region.binds .any e = true → e.on < n) ∧ ∀ j, bit m j = true → bit m0 j = true ∨ ∃ e, e ∈ es ∧ Region.binds .any e = true ∧ (j = e.on ∨ bit (tget 4 acc e.on) j = true) := by
  intro es
  induction es with
  | nil => intro m0 m h; cases h; exact ⟨fun e he => (by cases he), fun j hj => .inl hj⟩
  | cons e es ih =>
    intro m0 m h
    rw [lfold_cons] at h
    obtain ⟨m1, h1, h2⟩ := ob_eq h
    obtain ⟨i1, i2⟩ := ih m1 m h2
    rcases bc_eq h1 with ⟨hb, h3⟩ | ⟨hb, h3⟩
    · rcases bc_eq h3 with ⟨hlt, h4⟩ | ⟨_, h4⟩
      · rw [fN_eq, fN_eq] at h4
        cases h4
        refine ⟨fun e' he' hbe => ?_, fun j hj => ?_⟩
        · rcases List.mem_cons.mp he' with rfl | he'
          · rw [nblt] at hlt; simpa using hlt
          · exact i1 e' he' hbe
        · rcases i2 j hj with h5 | ⟨e', he', hbe, h5⟩
          · rw [bit_lor, bit_lor, bit_pow] at h5
            simp only [Bool.or_eq_true, decide_eq_true_eq] at h5
            rcases h5 with h5 | h5 | h5
            · exact .inl h5
            · exact .inr ⟨e, by simp, hb, .inl h5.symm⟩
            · exact .inr ⟨e, by simp, hb, .inr h5⟩
          · exact .inr ⟨e', by simp [he'], hbe, h5⟩
      · cases h4
    · cases h3
      refine ⟨fun e' he' hbe => ?_, fun j hj => ?_⟩
      · rcases List.mem_cons.mp he' with rfl | he'
        · rw [hb] at hbe; cases hbe
        · exact i1 e' he' hbe
      · rcases i2 j hj with h5 | ⟨e', he', hbe, h5⟩
        · exact .inl h5
        · exact .inr ⟨e', by simp [he'], hbe, h5⟩
/-- For each operation which ones come ahead of it. -/
def BfOK (ops : List Oper) (t : Tr Nat 4) : Prop := ∀ i o, ops[i]? = some o → i < 256 ∧ (∀ e, e ∈ o.after.toList → Region.binds .any e = true → e.on < i) ∧
  ∀ j, bit (tget 4 t i) j = true → ∃ e, e ∈ o.after.toList ∧ Region.binds .any e = true ∧ (j = e.on ∨ bit (tget 4 t e.on) j = true)
theorem befs_eq {ops : List Oper} {b : Nat × Tr Nat 4} (h : befs ops = some b) : BfOK ops b.2 := by
  obtain ⟨T, t0, tn, hT⟩ := lfold_trace _ _ _ _ h
  have step : ∀ i o, ops[i]? = some o → (T i).1 < 256 ∧ ∃ m, befMask (T i).1 (T i).2 o.after.toList = some m ∧ T (i + 1) = ((T i).1 + 1, tset 4 (T i).2 (T i).1 m) := by
    intro i o ho
    have h1 := hT i o ho
    rcases bc_eq h1 with ⟨hlt, h2⟩ | ⟨_, h2⟩
    · obtain ⟨m, hm, h3⟩ := ob_eq h2
      obtain ⟨g, hg, h4⟩ := ob_eq h3
      obtain ⟨g', hg', e⟩ := tsetS_eq (α := Nat) (β := Option (Nat × Tr Nat 4)) 4 (T i).1
      rw [hg'] at hg; cases hg
      rw [e, fN_eq] at h4
      exact ⟨by rw [nblt] at hlt; simpa using hlt, m, hm, (Option.some.inj h4).symm⟩
    · cases h2
  have hidx : ∀ i, i ≤ ops.length → (T i).1 = i := by
    intro i
    induction i with
    | zero => intro _; rw [t0]
    | succ i ih =>
      intro hi
      obtain ⟨_, m, _, h2⟩ := step i _ (List.getElem?_eq_getElem (show i < ops.length by omega))
      rw [h2]; show (T i).1 + 1 = _; rw [ih (by omega)]
  have hlt : ∀ i, i < ops.length → i < 256 := fun i hi => by
    have := (step i _ (List.getElem?_eq_getElem hi)).1
    rw [hidx i (by omega)] at this; exact this
  have hkeep : ∀ k i, i ≤ k → k ≤ ops.length → ∀ j, j < i → tget 4 (T k).2 j = tget 4 (T i).2 j := by
    intro k
    induction k with
    | zero => intro i hi _ j hj; omega
    | succ k ih =>
      intro i hi hk j hj
      by_cases e : i = k + 1
      · subst e; rfl
      · obtain ⟨_, m, _, h2⟩ := step k _ (List.getElem?_eq_getElem (show k < ops.length by omega))
        rw [h2, hidx k (by omega)]
        show tget 4 (tset 4 (T k).2 k m) j = _
        rw [tget_tset m 4 _ k j (hlt k (by omega)) (by have := hlt k (by omega); show j < 256; omega), if_neg (by omega)]
        exact ih i (by omega) (by omega) j hj
  intro i o ho
  have hi : i < ops.length := (List.getElem?_eq_some_iff.mp ho).1
  obtain ⟨_, m, hm, h2⟩ := step i o ho
  rw [hidx i (by omega)] at hm h2
  obtain ⟨q1, q2⟩ := befMask_eq i (T i).2 o.after.toList 0 m hm
  refine ⟨hlt i hi, q1, fun j hj => ?_⟩
  have e1 : tget 4 b.2 i = m := by
    rw [← tn, hkeep ops.length (i + 1) (by omega) (by omega) i (by omega), h2]
    show tget 4 (tset 4 (T i).2 i m) i = m
    rw [tget_tset m 4 _ i i (hlt i hi) (hlt i hi), if_pos rfl]
  rw [e1] at hj
  rcases q2 j hj with h5 | ⟨e, he, hbe, h5⟩
  · rw [bit_zero] at h5; cases h5
  · refine ⟨e, he, hbe, ?_⟩
    rcases h5 with h5 | h5
    · exact .inl h5
    · right
      rw [← tn, hkeep ops.length i (by omega) (by omega) e.on (q1 e he hbe)]
      exact h5

/-! ### What is asked of each pair -/
structure PairOK (E : Env) (t : Tr Nat 4) (o p : Oper) (i j : Nat) : Prop where
  dst : ∀ d, p.dst = some d → o.dst ≠ some d
  use : ∀ d, p.dst = some d → (.tmp d) ∈ o.op.operands.toList → bit (tget 4 t i) j = true ∨ bit (tget 4 t j) i = true
  act : cls o.op E = .m → cls p.op E = .m → j < i → bit (tget 4 t i) j = true
theorem bc_and {a b : Bool} (h : bc a b false = true) : a = true ∧ b = true := by cases a <;> first | (cases h; done) | exact ⟨rfl, h⟩
theorem pairOK_eq {E : Env} {t : Tr Nat 4} {o p : Oper} {i j : Nat} (h : pairOK E t o p (tget 4 t i) i j = true) (hij : i ≠ j) : PairOK E t o p i j := by
  unfold pairOK at h
  have hb : Nat.beq i j = false := by rw [nbeq]; simpa using hij
  rw [hb, bc_false] at h
  obtain ⟨h1, h2⟩ := bc_and h
  refine ⟨fun d hd => ?_, fun d hd hu => ?_, fun ho hp hji => ?_⟩
  · rw [hd] at h1
    obtain ⟨h3, _⟩ := bc_and h1
    intro e
    rw [e] at h3
    dsimp only at h3
    rw [bnot_eq, nbeq] at h3
    simp at h3
  · rw [hd] at h1
    obtain ⟨_, h3⟩ := bc_and h1
    cases hall : lall (fun u => bnot (Nat.beq u d)) (usedT o) with
    | true =>
      have := lall_eq hall d (by
        unfold usedT
        rw [List.mem_filterMap]
        exact ⟨.tmp d, hu, rfl⟩)
      rw [bnot_eq, nbeq] at this
      simp at this
    | false =>
      rw [hall, bc_false] at h3
      cases hm : bit (tget 4 t i) j with
      | true => exact .inl rfl
      | false => rw [hm, bc_false] at h3; exact .inr h3
  · rw [ho, hp] at h2
    have hlt : Nat.blt j i = true := by rw [nblt]; simpa using hji
    dsimp only at h2
    rw [hlt, bc_true] at h2
    exact h2
theorem allOK_eq {E : Env} {t : Tr Nat 4} {ops : List Oper} (h : allOK E t ops = true) : ∀ i o, ops[i]? = some o → (∀ q, o.guard = some q → bit (tget 4 t i) q.1 = true) ∧ ∀ j p, ops[j]? = some p → i ≠ j → PairOK E t o p i j := by
  have key : ∀ (l : List Oper) (k : Nat), lrec (β := Nat → Bool) (fun _ => true) (fun o _ ih i => bc (ordOK E t ops o i) (ih (Nat.succ i)) false) l k = true → ∀ i o, l[i]? = some o → ordOK E t ops o (k + i) = true := by
    intro l
    induction l with
    | nil => intro k _ i o ho; simp at ho
    | cons a l ih =>
      intro k h i o ho
      obtain ⟨h1, h2⟩ := bc_and (show bc (ordOK E t ops a k) (lrec (β := Nat → Bool) (fun _ => true) (fun o _ ih i => bc (ordOK E t ops o i) (ih (Nat.succ i)) false) l (k + 1)) false = true from h)
      cases i with
      | zero => simp at ho; subst ho; exact h1
      | succ i => have := ih (k + 1) h2 i o (by simpa using ho); rw [show k + (i + 1) = k + 1 + i by omega]; exact this
  have key2 : ∀ (o : Oper) (i : Nat) (l : List Oper) (k : Nat), lrec (β := Nat → Bool) (fun _ => true) (fun p _ ih j => bc (pairOK E t o p (tget 4 t i) i j) (ih (Nat.succ j)) false) l k = true → ∀ j p, l[j]? = some p → pairOK E t o p (tget 4 t i) i (k + j) = true := by
    intro o i l
    induction l with
    | nil => intro k _ j p hp; simp at hp
    | cons a l ih =>
      intro k h j p hp
      obtain ⟨h1, h2⟩ := bc_and (show bc (pairOK E t o a (tget 4 t i) i k) (lrec (β := Nat → Bool) (fun _ => true) (fun p _ ih j => bc (pairOK E t o p (tget 4 t i) i j) (ih (Nat.succ j)) false) l (k + 1)) false = true from h)
      cases j with
      | zero => simp at hp; subst hp; exact h1
      | succ j => have := ih (k + 1) h2 j p (by simpa using hp); rw [show k + (j + 1) = k + 1 + j by omega]; exact this
  intro i o ho
  have h1 := key ops 0 h i o ho
  rw [Nat.zero_add] at h1
  obtain ⟨h2, h3⟩ := bc_and (show bc (match o.guard with | none => true | some q => bit (tget 4 t i) q.1) (lrec (β := Nat → Bool) (fun _ => true) (fun p _ ih j => bc (pairOK E t o p (tget 4 t i) i j) (ih (Nat.succ j)) false) ops 0) false = true from h1)
  refine ⟨fun q hq => by rw [hq] at h2; exact h2, fun j p hp hij => ?_⟩
  have h4 := key2 o i ops 0 h3 j p hp
  rw [Nat.zero_add] at h4
  exact pairOK_eq h4 hij

/-! ### The same value -/
theorem beqB_eq {a b : Bool} (h : beqB a b = true) : a = b := by cases a <;> cases b <;> first | rfl | cases h
theorem lall2_eq {f : AV → AV → Bool} (hf : ∀ x y, f x y = true → x = y) : ∀ {a b : List AV}, lall2 f a b = true → a = b := by
  intro a
  induction a with
  | nil => intro b h; cases b with
    | nil => rfl
    | cons _ _ => cases h
  | cons x a ih => intro b h; cases b with
    | nil => cases h
    | cons y b =>
      obtain ⟨h1, h2⟩ := bc_and (show bc (f x y) (lall2 f a b) false = true from h)
      rw [hf x y h1, ih h2]
theorem ptrEq_eq {p q : Option (Nat × Nat)} (h : ptrEq p q = true) : p = q := by
  cases p with
  | none => cases q with
    | none => rfl
    | some _ => cases h
  | some a => cases q with
    | none => cases h
    | some b =>
      obtain ⟨h1, h2⟩ := bc_and (show bc (Nat.beq a.1 b.1) (Nat.beq a.2 b.2) false = true from h)
      rw [nbeq] at h1 h2
      have h1 := of_decide_eq_true h1
      have h2 := of_decide_eq_true h2
      obtain ⟨a1, a2⟩ := a
      obtain ⟨b1, b2⟩ := b
      dsimp only at h1 h2
      rw [h1, h2]
theorem onEq_eq {p q : Option Nat} (h : onEq p q = true) : p = q := by
  cases p with
  | none => cases q with
    | none => rfl
    | some _ => cases h
  | some a => cases q with
    | none => cases h
    | some b => have h : Nat.beq a b = true := h
                rw [nbeq] at h; rw [of_decide_eq_true h]
theorem capEq_eq {p q : Cap} (h : capEq p q = true) : p = q := by
  cases p <;> cases q <;> first | (cases h; done) | skip
  · rename_i a b
    have h : Nat.beq a b = true := h
    rw [nbeq] at h; rw [of_decide_eq_true h]
  · rename_i a b
    have h : Nat.beq a b = true := h
    rw [nbeq] at h; rw [of_decide_eq_true h]
theorem same_eq : ∀ (n : Nat) (x y : AV), same n x y = true → x = y := by
  intro n
  induction n with
  | zero => intro x y h; cases h
  | succ n ih =>
    intro x y h
    cases x with
    | bool a => cases y with
      | bool b => rw [beqB_eq (show beqB a b = true from h)]
      | _ => cases h
    | int k a => cases y with
      | int k' b =>
        obtain ⟨h1, h2⟩ := bc_and (show bc (Nat.beq (kix k) (kix k')) (ieq a b) false = true from h)
        rw [kix_inj h1]
        rw [ieq_eq] at h2
        rw [show a = b by simpa using h2]
      | _ => cases h
    | str a => cases y with
      | str b => rw [sbeq_true (show sbeq a b = true from h)]
      | _ => cases h
    | ptr p => cases y with
      | ptr q => rw [ptrEq_eq (show ptrEq p q = true from h)]
      | _ => cases h
    | slc p l c => cases y with
      | slc q l' c' =>
        obtain ⟨h1, h2⟩ := bc_and (show bc (ptrEq p q) (bc (Nat.beq l l') (capEq c c') false) false = true from h)
        obtain ⟨h3, h4⟩ := bc_and h2
        rw [nbeq] at h3
        rw [ptrEq_eq h1, of_decide_eq_true h3, capEq_eq h4]
      | _ => cases h
    | map p => cases y with
      | map q => rw [onEq_eq (show onEq p q = true from h)]
      | _ => cases h
    | fn f a b => cases y with
      | fn g c d =>
        obtain ⟨h1, h2⟩ := bc_and (show bc (decide (f = g)) (bc (lall2 (same n) a c) (lall2 (same n) b d) false) false = true from h)
        obtain ⟨h3, h4⟩ := bc_and h2
        rw [of_decide_eq_true h1, lall2_eq ih h3, lall2_eq ih h4]
      | _ => cases h
    | nilFunc => cases y with
      | nilFunc => rfl
      | _ => cases h
    | iface t v => cases y with
      | iface u w =>
        obtain ⟨h1, h2⟩ := bc_and (show bc (Nat.beq t u) (same n v w) false = true from h)
        rw [nbeq] at h1
        rw [of_decide_eq_true h1, ih _ _ h2]
      | _ => cases h
    | nilIface => cases y with
      | nilIface => rfl
      | _ => cases h
    | agg a => cases y with
      | agg b => rw [lall2_eq ih (show lall2 (same n) a b = true from h)]
      | _ => cases h
    | tup a => cases y with
      | tup b => rw [lall2_eq ih (show lall2 (same n) a b = true from h)]
      | _ => cases h
end Go.Ev
end

section
namespace Go.Ev
open Go

inductive OpKd where
  | q
  | a (o : AObj)
  | m
/-- What an operation does in the run in the order of the text. -/
inductive OpAt (E : Env) (ih : CallF) (ro : Option Nat) (sz : Nat) (ops : List Oper) (bf : Tr Nat 4) (i : Nat) (o : Oper) (t t' : DS) : OpKd → Prop
  | no {f : FT → Option Bool} (hf : wants sz ops o.guard = some f) (hb : f t.tm = some false) (hp : PutR o.dst sz t.tm undefA t'.tm) (hd : t'.df = t.df) (hH : t'.H = t.H) (hr : t'.rs = t.rs) (hm : t'.ms = t.ms) : OpAt E ih ro sz ops bf i o t t' .q
  | pure {f : FT → Option Bool} {g : PF} {v : AV} (hf : wants sz ops o.guard = some f) (hb : f t.tm = some true) (hc : cls o.op E = .p) (hg : pOp o.op E = some g) (hv : g t.tm = some v) (hp : PutR o.dst sz t.tm v t'.tm) (hd : t'.df = t.df) (hH : t'.H = t.H) (hr : t'.rs = t.rs) (hm : t'.ms = t.ms) : OpAt E ih ro sz ops bf i o t t' .q
  | read {f : FT → Option Bool} {g : RF} {v : AV} (hf : wants sz ops o.guard = some f) (hb : f t.tm = some true) (hc : cls o.op E = .r) (hg : rOp o.op E = some g) (hv : g t.tm t.H = some v) (hrd : reads (tget 4 bf i) t.ms g t.tm v = true) (hp : PutR o.dst sz t.tm v t'.tm) (hd : t'.df = t.df) (hH : t'.H = t.H) (hr : t'.rs = (i, g, t.tm, v) :: t.rs) (hm : t'.ms = t.ms) : OpAt E ih ro sz ops bf i o t t' .q
  | new {f : FT → Option Bool} {g : AF} {q : New} (hf : wants sz ops o.guard = some f) (hb : f t.tm = some true) (hc : cls o.op E = .a) (hg : aOp o.op E = some g) (hq : g t.tm = some q) (hn : t'.H.next = t.H.next + 1) (hh : ∀ j, t'.H.at j = if j = t.H.next then some q.o else t.H.at j) (hp : PutR o.dst sz t.tm (q.v t.H.next) t'.tm) (hd : t'.df = t.df) (hr : t'.rs = t.rs) (hm : t'.ms = t.ms) : OpAt E ih ro sz ops bf i o t t' (.a q.o)
  | move {f : FT → Option Bool} {g : MF} {q : ON} {p : PutF} (hf : wants sz ops o.guard = some f) (hb : f t.tm = some true) (hc : cls o.op E = .m) (hg : mOp o.op E = some g) (hq : g t.tm t.H = some q) (hp : putS sz o.dst = some p) (hrun : doNext p q.n ih ro t.tm t.df q.H done = some ⟨t'.tm, t'.df, t'.H⟩) (hst : stays (tget 4 bf i) t.rs t'.H = true) (hr : t'.rs = t.rs) (hm : t'.ms = (i, t.H) :: t.ms) : OpAt E ih ro sz ops bf i o t t' .m

theorem done_eq {tm : FT} {df : List ADef} {H : AHeap} {s : FS} (h : done tm df H = some s) : s = ⟨tm, df, H⟩ := by cases h; rfl
theorem drawO_at {E : Env} {ih : CallF} {ro : Option Nat} {sz : Nat} {ops : List Oper} {bf : Tr Nat 4} {i : Nat} {o : Oper} {t t' : DS} (h : drawO E sz bf ops o ih ro t = some t') (hi : t.i = i) :
    t'.i = i + 1 ∧ (∃ k, OpAt E ih ro sz ops bf i o t t' k) ∧ ∃ c, operS E sz ops o = some c ∧ c ih ro t.tm t.df t.H done = some ⟨t'.tm, t'.df, t'.H⟩ := by
  obtain ⟨ti, rs, ms, tm, df, H⟩ := t
  have hi : ti = i := hi
  subst hi
  obtain ⟨c, hc, h⟩ := ob_eq (show ob (operS E sz ops o) (fun c => ob (wants sz ops o.guard) fun w => ob (c ih ro tm df H done) fun r => ob (w tm) fun b => (match r with
      | ⟨tm', df', H'⟩ => bc b (drawC (cls o.op E) o.op E bf ⟨ti, rs, ms, tm, df, H⟩ ⟨tm', df', H'⟩) (fN (Nat.succ ti) fun i' => some ⟨i', rs, ms, tm', df', H'⟩))) = some t' from h)
  obtain ⟨f, hf, h⟩ := ob_eq h
  obtain ⟨r, hr, h⟩ := ob_eq h
  obtain ⟨b, hb, h⟩ := ob_eq h
  obtain ⟨tm', df', H'⟩ := r
  have hc1 := orNo_eq hc hr
  obtain ⟨p, hp, hc1⟩ := ob_eq hc1
  obtain ⟨c0, hc0, hc1⟩ := ob_eq hc1
  -- what the operation itself does
  have main : b = true → c0 ih ro tm df H done = some ⟨tm', df', H'⟩ := by
    intro hbt
    cases hg : o.guard with
    | none => rw [hg] at hc1; cases hc1; exact hr
    | some q =>
      rw [hg] at hc1 hf
      obtain ⟨f', hf', hc2⟩ := ob_eq (show ob (wants sz ops (some q)) (fun w => some fun ih ro tm df H k => ob (w tm) fun b => bc b (c0 ih ro tm df H k) (p tm undefA fun tm => k tm df H)) = some c from hc1)
      rw [hf] at hf'; cases hf'
      cases hc2
      obtain ⟨b', hb', h3⟩ := ob_eq hr
      rw [hb] at hb'; cases hb'
      subst hbt
      exact h3
  have hsw : bc b (drawC (cls o.op E) o.op E bf ⟨ti, rs, ms, tm, df, H⟩ ⟨tm', df', H'⟩) (fN (Nat.succ ti) fun i' => some (⟨i', rs, ms, tm', df', H'⟩ : DS)) = some t' := h
  clear h
  rcases bc_eq hsw with ⟨hbt, h⟩ | ⟨hbf, h⟩
  · have hrun := main hbt
    subst hbt
    have hc0' := orNo_eq hc0 hrun
    generalize hcl : cls o.op E = cl at hc0' h
    cases cl with
    | p =>
      obtain ⟨g, hg, hc3⟩ := ob_eq hc0'
      cases hc3
      obtain ⟨v, hv, h3⟩ := ob_eq hrun
      obtain ⟨tm1, h4, h5⟩ := putS_eq hp tm v
      rw [h5] at h3
      cases done_eq h3
      have h' : fN (Nat.succ ti) (fun i' => some (⟨i', rs, ms, tm', df, H⟩ : DS)) = some t' := h
      rw [fN_eq] at h'
      cases h'
      exact ⟨rfl, ⟨.q, .pure hf hb hcl hg hv h4 rfl rfl rfl rfl⟩, c, hc, hr⟩
    | r =>
      obtain ⟨g, hg, hc3⟩ := ob_eq hc0'
      cases hc3
      obtain ⟨v, hv, h3⟩ := ob_eq hrun
      obtain ⟨tm1, h4, h5⟩ := putS_eq hp tm v
      rw [h5] at h3
      cases done_eq h3
      obtain ⟨g2, hg2, h6⟩ := ob_eq (show ob (rOp o.op E) (fun g => fN (tget 4 bf ti) fun mask => ob (g tm H) fun v => bc (reads mask ms g tm v) (fN (Nat.succ ti) fun i' => some (⟨i', (ti, g, tm, v) :: rs, ms, tm', df, H⟩ : DS)) none) = some t' from h)
      rw [hg] at hg2; cases hg2
      rw [fN_eq] at h6
      obtain ⟨v2, hv2, h7⟩ := ob_eq h6
      rw [hv] at hv2; cases hv2
      rcases bc_eq h7 with ⟨hrd, h8⟩ | ⟨_, h8⟩
      · rw [fN_eq] at h8
        cases h8
        exact ⟨rfl, ⟨.q, .read hf hb hcl hg hv hrd h4 rfl rfl rfl rfl⟩, c, hc, hr⟩
      · cases h8
    | a =>
      obtain ⟨g, hg, hc3⟩ := ob_eq hc0'
      cases hc3
      obtain ⟨q, hq, h3⟩ := ob_eq hrun
      obtain ⟨H1, hn, hh, h3⟩ := hNew_eq h3
      obtain ⟨tm1, h4, h5⟩ := putS_eq hp tm (q.v H.next)
      rw [h5] at h3
      cases done_eq h3
      have h' : fN (Nat.succ ti) (fun i' => some (⟨i', rs, ms, tm', df, H'⟩ : DS)) = some t' := h
      rw [fN_eq] at h'
      cases h'
      exact ⟨rfl, ⟨.a q.o, .new hf hb hcl hg hq hn hh h4 rfl rfl rfl⟩, c, hc, hr⟩
    | m =>
      obtain ⟨g, hg, hc3⟩ := ob_eq hc0'
      cases hc3
      obtain ⟨q, hq, h3⟩ := ob_eq hrun
      have h' : fN (tget 4 bf ti) (fun mask => bc (stays mask rs H') (fN (Nat.succ ti) fun i' => some (⟨i', rs, (ti, H) :: ms, tm', df', H'⟩ : DS)) none) = some t' := h
      rw [fN_eq] at h'
      rcases bc_eq h' with ⟨hst, h8⟩ | ⟨_, h8⟩
      · rw [fN_eq] at h8
        cases h8
        obtain ⟨n, HH⟩ := q
        exact ⟨rfl, ⟨.m, .move hf hb hcl hg hq hp h3 hst rfl rfl⟩, c, hc, hr⟩
      · cases h8
  · subst hbf
    rw [fN_eq] at h
    cases h
    cases hg : o.guard with
    | none =>
      rw [hg] at hf
      cases hf
      cases hb
    | some q =>
      rw [hg] at hc1
      obtain ⟨f', hf', hc2⟩ := ob_eq (show ob (wants sz ops (some q)) (fun w => some fun ih ro tm df H k => ob (w tm) fun b => bc b (c0 ih ro tm df H k) (p tm undefA fun tm => k tm df H)) = some c from hc1)
      rw [← hg, hf] at hf'; cases hf'
      cases hc2
      obtain ⟨b', hb', h3⟩ := ob_eq hr
      rw [hb] at hb'; cases hb'
      obtain ⟨tm1, h4, h5⟩ := putS_eq hp tm undefA
      rw [bc_false, h5] at h3
      cases done_eq h3
      exact ⟨rfl, ⟨.q, .no hf hb h4 rfl rfl rfl rfl⟩, _, hc, hr⟩

/-- The run in the order of the text. -/
structure Trace (E : Env) (ih : CallF) (ro : Option Nat) (sz : Nat) (ops : List Oper) (bf : Tr Nat 4) (T : Nat → DS) (K : Nat → OpKd) : Prop where
  at_ : ∀ i o, ops[i]? = some o → OpAt E ih ro sz ops bf i o (T i) (T (i + 1)) (K i)
  run : ∀ i o, ops[i]? = some o → ∃ c, operS E sz ops o = some c ∧ c ih ro (T i).tm (T i).df (T i).H done = some ⟨(T (i + 1)).tm, (T (i + 1)).df, (T (i + 1)).H⟩
theorem trace_of {E : Env} {ih : CallF} {ro : Option Nat} {sz : Nat} {ops : List Oper} {bf : Tr Nat 4} {s s' : DS} (h : lfold (fun s o => drawO E sz bf ops o ih ro s) ops s = some s') (h0 : s.i = 0) :
    ∃ T K, T 0 = s ∧ T ops.length = s' ∧ Trace E ih ro sz ops bf T K := by
  obtain ⟨T, t0, tn, hT⟩ := lfold_trace _ _ _ _ h
  have hidx : ∀ i, i ≤ ops.length → (T i).i = i := by
    intro i
    induction i with
    | zero => intro _; rw [t0, h0]
    | succ i ihi =>
      intro hi
      exact (drawO_at (hT i _ (List.getElem?_eq_getElem (show i < ops.length by omega))) (ihi (by omega))).1
  have hk : ∀ i, ∃ k, ∀ o, ops[i]? = some o → OpAt E ih ro sz ops bf i o (T i) (T (i + 1)) k := by
    intro i
    cases ho : ops[i]? with
    | none => exact ⟨.q, fun o h => by cases h⟩
    | some o =>
      have hi : i < ops.length := (List.getElem?_eq_some_iff.mp ho).1
      obtain ⟨_, ⟨k, hk⟩, _⟩ := drawO_at (hT i o ho) (hidx i (by omega))
      exact ⟨k, fun o' h => by cases h; exact hk⟩
  refine ⟨T, fun i => Classical.choose (hk i), t0, tn, fun i o ho => Classical.choose_spec (hk i) o ho, fun i o ho => ?_⟩
  have hi : i < ops.length := (List.getElem?_eq_some_iff.mp ho).1
  exact (drawO_at (hT i o ho) (hidx i (by omega))).2.2

section
variable {P : Program} {E : Env} {ih : CallF} {ro : Option Nat} {sz : Nat} {ops : Array Oper} {bf : Tr Nat 4} {T : Nat → DS} {K : Nat → OpKd}
/-- The run in the order of the text, at the machine: it need not be the one that is made. -/
theorem virtual (hE : EnvOK P E) (hih : ReqOK P ih) (hTr : Trace E ih ro sz ops.toList bf T K) {b : Frame} {a : Act} {φ : Map} {w : World} (hr : Rel φ (T 0).H.at w) (hD : Dom φ (T 0).H) (hT : TR φ (T 0).tm sz a.tmps) (hdf : DR φ (T 0).df a.defers) (hro : RO φ ro b.roundOf) :
    ∀ i, i ≤ ops.size → (∀ j, j < i → (T j).H.next ≤ (T (j + 1)).H.next ∧ ∀ o, ops[j]? = some o → ∃ v, PutR o.dst sz (T j).tm v (T (j + 1)).tm) ∧ ∃ (φ' : Map) (a' : Act) (w' : World), Step φ φ' (T 0).H (T i).H w w' ∧ TR φ' (T i).tm sz a'.tmps ∧ DR φ' (T i).df a'.defers := by
  intro i
  induction i with
  | zero => intro _; exact ⟨fun j hj => by omega, φ, a, w, Step.refl hr hD, hT, hdf⟩
  | succ i ihi =>
    intro hi
    obtain ⟨hmon, φ', a', w', s1, t1, d1⟩ := ihi (by omega)
    have ho : ops[i]? = some ops[i] := Array.getElem?_eq_getElem (by omega)
    obtain ⟨c, hc, hrun⟩ := hTr.run i _ (by rw [Array.getElem?_toList]; exact ho)
    obtain ⟨v, tm1, df1, H1, h1, h2, φ1, v', w1, ds, h3, h4, h5, _⟩ := oper_sound hE hih ho s1.rel s1.dom t1 d1 (hro.mono s1.ext.sub) (b := b) hc hrun
    have h2' := done_eq h2
    cases h2'
    have hput := TR.put (a := { a' with defers := ds }) (t1.mono h4.ext.sub) h3 h1
    refine ⟨fun j hj => ?_, φ1, ({ a' with defers := ds } : Act).put ops[i].dst v', w1, s1.trans h4 hD, hput, by rw [Act.put_defers]; exact h5⟩
    by_cases e : j = i
    · subst e; exact ⟨h4.ext.nx, fun o' ho' => by rw [ho] at ho'; cases ho'; exact ⟨v, h1⟩⟩
    · exact hmon j (by omega)
end
end Go.Ev
end

section
namespace Go.Ev
open Go

/-- A map cut to the blocks below a number. -/
def Cut (φ : Map) (N : Nat) : Map := fun b => if b < N then φ b else none
theorem Cut.some {φ : Map} {N b : Nat} {l : Loc} (h : Cut φ N b = some l) : b < N ∧ φ b = some l := by
  unfold Cut at h
  split at h
  · exact ⟨by assumption, h⟩
  · cases h
theorem Cut.of {φ : Map} {N b : Nat} (h : b < N) : Cut φ N b = φ b := if_pos h
theorem Cut.sub (φ : Map) (N : Nat) : Sub (Cut φ N) φ := fun _ _ h => (Cut.some h).2
theorem Cut.le {φ : Map} {N M : Nat} (h : N ≤ M) : Sub (Cut φ N) (Cut φ M) := fun b l hb => by
  obtain ⟨h1, h2⟩ := Cut.some hb
  rw [Cut.of (by omega)]; exact h2
theorem FR.cut {φ ψ : Map} {N : Nat} (hN : ∀ b l, ψ b = some l → b < N) {f f' f'' : Fn} (h : FR φ f f') (h' : FR ψ f f'') : FR (Cut φ N) f f' := by
  cases h with
  | func f => exact .func f
  | method n => exact .method n
  | methodOf t n => exact .methodOf t n
  | via t p f b => exact .via t p f b
  | yield ha => cases h' with
    | yield hb => exact .yield (by rw [Cut.of (hN _ _ hb)]; exact ha)
mutual
/-- What stands for something by a map with few blocks does so by the other map, cut to these. -/
theorem VR.cut {φ ψ : Map} {N : Nat} (hN : ∀ b l, ψ b = some l → b < N) {a : AV} {v : Value} (h : VR φ a v) {u : Value} (h' : VR ψ a u) : VR (Cut φ N) a v := by
  cases h with
  | bool b => exact .bool b
  | int k n => exact .int k n
  | str s => exact .str s
  | ptr0 => exact .ptr0
  | ptr hb => cases h' with
    | ptr hb' => exact .ptr (by rw [Cut.of (hN _ _ hb')]; exact hb)
  | slc0 n c => exact .slc0 n c
  | slc n c hb => cases h' with
    | slc n c hb' => exact .slc n c (by rw [Cut.of (hN _ _ hb')]; exact hb)
  | slo n c s hb hn hs he => cases h' with
    | slo n c s hb' _ _ _ => exact .slo n _ s (by rw [Cut.of (hN _ _ hb')]; exact hb) hn hs he
    | sle a s hb' _ _ => exact .slo _ _ s (by rw [Cut.of (hN _ _ hb')]; exact hb) hn hs he
  | sle a s hb hs he => cases h' with
    | slo n c s hb' _ _ _ => exact .sle a s (by rw [Cut.of (hN _ _ hb')]; exact hb) hs he
    | sle a' s hb' _ _ => exact .sle a s (by rw [Cut.of (hN _ _ hb')]; exact hb) hs he
  | map0 => exact .map0
  | map hb => cases h' with
    | map hb' => exact .map (by rw [Cut.of (hN _ _ hb')]; exact hb)
  | fn hf ha hc => cases h' with
    | fn hf' ha' hc' => exact .fn (hf.cut hN hf') (VRs.cut hN ha ha') (VRs.cut hN hc hc')
  | nilFunc => exact .nilFunc
  | iface t hv => cases h' with
    | iface t hv' => exact .iface t (VR.cut hN hv hv')
  | nilIface => exact .nilIface
  | agg hs => cases h' with
    | agg hs' => exact .agg (VRs.cut hN hs hs')
  | tup hs => cases h' with
    | tup hs' => exact .tup (VRs.cut hN hs hs')
theorem VRs.cut {φ ψ : Map} {N : Nat} (hN : ∀ b l, ψ b = some l → b < N) {a : List AV} {v : List Value} (h : VRs φ a v) {u : List Value} (h' : VRs ψ a u) : VRs (Cut φ N) a v := by
  cases h with
  | nil => exact .nil
  | cons h1 h2 => cases h' with
    | cons h3 h4 => exact .cons (VR.cut hN h1 h3) (VRs.cut hN h2 h4)
end
theorem DR.cut {φ ψ : Map} {N : Nat} (hN : ∀ b l, ψ b = some l → b < N) {d : List ADef} {ds ds' : List Deferred} (h : DR φ d ds) (h' : DR ψ d ds') : DR (Cut φ N) d ds := by
  induction h generalizing ds' with
  | nil => exact .nil
  | cons h1 _ ih =>
    cases h' with
    | cons h3 h4 =>
      refine .cons ?_ (ih h4)
      cases h1 with
      | coll hl => cases h3 with
        | coll hl' => exact .coll (by rw [Cut.of (hN _ _ hl')]; exact hl)
      | call hf hc ha => cases h3 with
        | call hf' hc' ha' => exact .call (hf.cut hN hf') (hc.cut hN hc') (ha.cut hN ha')
theorem Ops.cut {φ ψ : Map} {N : Nat} (hN : ∀ b l, ψ b = some l → b < N) {ρ ρ' : Operand → Value} {tm : FT} {l : List Operand} (h : Ops φ ρ tm l) (h' : Ops ψ ρ' tm l) : Ops (Cut φ N) ρ tm l :=
  fun x hx a ha => (h x hx a ha).cut hN (h' x hx a ha)

section
variable {P : Program} {E : Env} {ih : CallF} {ro : Option Nat} {sz : Nat} {ops : Array Oper} {bf : Tr Nat 4} {T : Nat → DS} {K : Nat → OpKd}

/-- All that is known of the region. -/
structure Reg (P : Program) (E : Env) (ih : CallF) (ro : Option Nat) (sz : Nat) (ops : Array Oper) (bf : Tr Nat 4) (T : Nat → DS) (K : Nat → OpKd) (φ0 : Map) (w0 : World) : Prop where
  env : EnvOK P E
  req : ReqOK P ih
  tr : Trace E ih ro sz ops.toList bf T K
  bfo : BfOK ops.toList bf
  all : ∀ i o, ops[i]? = some o → (∀ q, o.guard = some q → bit (tget 4 bf i) q.1 = true) ∧ ∀ j p, ops[j]? = some p → i ≠ j → PairOK E bf o p i j
  mono : ∀ j, j < ops.size → (T j).H.next ≤ (T (j + 1)).H.next ∧ ∀ o, ops[j]? = some o → ∃ v, PutR o.dst sz (T j).tm v (T (j + 1)).tm
  vir : ∀ i, i ≤ ops.size → ∃ (φ' : Map) (a' : Act) (w' : World), Step φ0 φ' (T 0).H (T i).H w0 w' ∧ TR φ' (T i).tm sz a'.tmps ∧ DR φ' (T i).df a'.defers
  r0 : Rel φ0 (T 0).H.at w0
  rs0 : (T 0).rs = []
  ms0 : (T 0).ms = []
variable {φ0 : Map} {w0 : World} (R : Reg P E ih ro sz ops bf T K φ0 w0)
include R

theorem Reg.at' {i : Nat} {o : Oper} (ho : ops[i]? = some o) : OpAt E ih ro sz ops.toList bf i o (T i) (T (i + 1)) (K i) := R.tr.at_ i o (by rw [Array.getElem?_toList]; exact ho)
theorem Reg.op {i : Nat} (hi : i < ops.size) : ops[i]? = some ops[i] := Array.getElem?_eq_getElem hi
theorem Reg.nx_mono {i j : Nat} (hij : i ≤ j) (hj : j ≤ ops.size) : (T i).H.next ≤ (T j).H.next := by
  induction j with
  | zero => have : i = 0 := by omega
            subst this; exact Nat.le_refl _
  | succ j ihj =>
    by_cases e : i = j + 1
    · subst e; exact Nat.le_refl _
    · exact Nat.le_trans (ihj (by omega) (by omega)) (R.mono j (by omega)).1
theorem Reg.alloc {i : Nat} {obj : AObj} (hi : i < ops.size) (hk : K i = .a obj) : (T (i + 1)).H.next = (T i).H.next + 1 ∧ (∀ j, (T (i + 1)).H.at j = if j = (T i).H.next then some obj else (T i).H.at j) ∧ (T (i + 1)).df = (T i).df := by
  have h := R.at' (R.op hi)
  rw [hk] at h
  cases h with
  | new hf hb hc hg hq hn hh hp hd hr hm => exact ⟨hn, hh, hd⟩
theorem Reg.quiet {i : Nat} (hi : i < ops.size) (hk : K i = .q) : (T (i + 1)).H = (T i).H ∧ (T (i + 1)).df = (T i).df := by
  have h := R.at' (R.op hi)
  rw [hk] at h
  cases h with
  | no hf hb hp hd hH hr hm => exact ⟨hH, hd⟩
  | pure hf hb hc hg hv hp hd hH hr hm => exact ⟨hH, hd⟩
  | read hf hb hc hg hv hrd hp hd hH hr hm => exact ⟨hH, hd⟩
theorem Reg.id_lt {i j : Nat} {obj : AObj} (hk : K i = .a obj) (hij : i < j) (hj : j ≤ ops.size) : (T i).H.next < (T j).H.next := by
  have h1 := (R.alloc (show i < ops.size by omega) hk).1
  have h2 := R.nx_mono (show i + 1 ≤ j by omega) hj
  omega
theorem Reg.id_inj {i j : Nat} {obj obj' : AObj} (hi : i < ops.size) (hj : j < ops.size) (hk : K i = .a obj) (hk' : K j = .a obj') (h : (T i).H.next = (T j).H.next) : i = j := by
  rcases Nat.lt_trichotomy i j with h1 | h1 | h1
  · have := R.id_lt hk h1 (by omega); omega
  · exact h1
  · have := R.id_lt hk' h1 (by omega); omega
theorem Reg.wf {i : Nat} (hi : i ≤ ops.size) {b : Nat} (hb : (T i).H.next ≤ b) : (T i).H.at b = none := by
  obtain ⟨_, _, _, s, _, _⟩ := R.vir i hi
  exact s.dom.wf b hb
/-- What lies between two places with no mover in between. -/
theorem Reg.between {k : Nat} : ∀ e, k ≤ e → e ≤ ops.size → (∀ j, k ≤ j → j < e → K j ≠ .m) → (T e).df = (T k).df ∧ (∀ b, b < (T k).H.next → (T e).H.at b = (T k).H.at b) ∧ (∀ j obj, k ≤ j → j < e → K j = .a obj → (T e).H.at (T j).H.next = some obj) := by
  intro e
  induction e with
  | zero => intro hk _ _
            have : k = 0 := by omega
            subst this
            exact ⟨rfl, fun _ _ => rfl, fun j obj _ hj => by omega⟩
  | succ e ihe =>
    intro hk he hm
    by_cases h : k = e + 1
    · subst h; exact ⟨rfl, fun _ _ => rfl, fun j obj _ hj => by omega⟩
    · obtain ⟨h1, h2, h3⟩ := ihe (by omega) (by omega) (fun j hj hj' => hm j hj (by omega))
      cases hke : K e with
      | m => exact absurd hke (hm e (by omega) (by omega))
      | q =>
        obtain ⟨g1, g2⟩ := R.quiet (show e < ops.size by omega) hke
        rw [g1, g2]
        refine ⟨h1, h2, fun j obj hj hj' hkj => ?_⟩
        by_cases ej : j = e
        · subst ej; rw [hke] at hkj; cases hkj
        · exact h3 j obj hj (by omega) hkj
      | a o =>
        obtain ⟨g1, g2, g3⟩ := R.alloc (show e < ops.size by omega) hke
        have hle := R.nx_mono (show k ≤ e by omega) (by omega)
        refine ⟨by rw [g3, h1], fun b hb => by rw [g2, if_neg (by omega)]; exact h2 b hb, fun j obj hj hj' hkj => ?_⟩
        by_cases ej : j = e
        · subst ej; rw [hke] at hkj; cases hkj; rw [g2, if_pos rfl]
        · have := R.id_lt hkj (show j < e by omega) (by omega)
          rw [g2, if_neg (by omega)]
          exact h3 j obj hj (by omega) hkj
theorem Reg.bf_lt : ∀ i, i < ops.size → ∀ j, bit (tget 4 bf i) j = true → j < i := by
  intro i
  induction i using Nat.strongRecOn with
  | _ i ihi =>
    intro hi j hj
    obtain ⟨_, h1, h2⟩ := R.bfo i _ (by rw [Array.getElem?_toList]; exact R.op hi)
    obtain ⟨e, he, hb, h3⟩ := h2 j hj
    have hlt := h1 e he hb
    rcases h3 with rfl | h3
    · exact hlt
    · have := ihi e.on hlt (by omega) j h3
      omega
theorem Reg.tm_keep {t : Nat} (ht : t < 256) {i : Nat} : ∀ j, i ≤ j → j ≤ ops.size → (∀ l o, i ≤ l → l < j → ops[l]? = some o → o.dst ≠ some t) → tget 4 (T j).tm t = tget 4 (T i).tm t := by
  intro j
  induction j with
  | zero => intro hij _ _
            have : i = 0 := by omega
            subst this; rfl
  | succ j ihj =>
    intro hij hj hd
    by_cases e : i = j + 1
    · subst e; rfl
    · have ho := R.op (show j < ops.size by omega)
      obtain ⟨v, hp⟩ := (R.mono j (by omega)).2 _ ho
      rw [hp.get ht, if_neg (hd j _ (by omega) (by omega) ho)]
      exact ihj (by omega) (by omega) fun l o hl hl' => hd l o hl (by omega)
theorem Reg.dst_one {i j t : Nat} {o p : Oper} (ho : ops[i]? = some o) (hp : ops[j]? = some p) (h1 : o.dst = some t) (h2 : p.dst = some t) : i = j := by
  by_cases e : i = j
  · exact e
  · exact absurd h1 (((R.all i o ho).2 j p hp e).dst t h2)
end
end Go.Ev
end

section
namespace Go.Ev
open Go

section
variable {P : Program} {E : Env} {ih : CallF} {ro : Option Nat} {sz : Nat} {ops : Array Oper} {bf : Tr Nat 4} {T : Nat → DS} {K : Nat → OpKd} {φ0 : Map} {w0 : World}

/-- What holds when the operations D are done; k: the place behind the last mover that is. -/
structure Inv (sz : Nat) (ops : Array Oper) (bf : Tr Nat 4) (T : Nat → DS) (K : Nat → OpKd) (φ0 : Map) (w0 : World) (D : Nat → Prop) (k : Nat) (φ : Map) (a : Act) (w : World) : Prop where
  kn : k ≤ ops.size
  mov : ∀ i, i < ops.size → K i = .m → (D i ↔ i < k)
  last : k = 0 ∨ ∃ m, k = m + 1 ∧ m < ops.size ∧ K m = .m ∧ D m
  clo : ∀ i, D i → i < ops.size ∧ ∀ j, bit (tget 4 bf i) j = true → D j
  rel : Rel (Cut φ (T k).H.next) (T k).H.at w
  hi : ∀ b l, φ b = some l → (T k).H.next ≤ b → ∃ j obj, D j ∧ k ≤ j ∧ K j = .a obj ∧ b = (T j).H.next
  early : ∀ j obj, D j → k ≤ j → K j = .a obj → ∃ c e, φ (T j).H.next = some ⟨c, 0, e⟩ ∧ c < w.heap.size ∧ (∀ φ', Sub (Cut φ (T j).H.next) φ' → φ' (T j).H.next = some ⟨c, 0, e⟩ → OR φ' obj ⟨c, 0, e⟩ w) ∧ ∀ b l, Cut φ (T k).H.next b = some l → live (T k).H.at b → l.b ≠ c
  edist : ∀ j j' obj obj' l l', D j → D j' → k ≤ j → k ≤ j' → K j = .a obj → K j' = .a obj' → φ (T j).H.next = some l → φ (T j').H.next = some l' → l.b = l'.b → j = j'
  late : ∀ j obj, j < k → ¬ D j → K j = .a obj → φ (T j).H.next = none ∧ (T k).H.at (T j).H.next = some obj
  tsz : a.tmps.size = sz
  tmp1 : ∀ t, t < 256 → ∀ i o, D i → ops[i]? = some o → o.dst = some t → VR φ (tget 4 (T ops.size).tm t) (a.tmps.getD t undef)
  tmp2 : ∀ t, t < 256 → (∀ i o, D i → ops[i]? = some o → o.dst ≠ some t) → VR φ (tget 4 (T 0).tm t) (a.tmps.getD t undef)
  df : DR φ (T k).df a.defers
  sub : Sub φ0 φ
  new : ∀ b l, φ b = some l → φ0 b = some l ∨ ((T 0).H.next ≤ b ∧ (w0.heap.size ≤ l.b ∨ ∃ b0 l0, φ0 b0 = some l0 ∧ live (T 0).H.at b0 ∧ l0.b = l.b))
  hsz : w0.heap.size ≤ w.heap.size
  conc : ∀ b, b < w0.heap.size → (∀ x l, φ0 x = some l → live (T 0).H.at x → l.b ≠ b) → w.heap[b]? = w0.heap[b]?
  keep : ∀ g l, g < 64 → φ0 g = some l → live (T 0).H.at g → w.heap[l.b]? = w0.heap[l.b]?
  os : w.os = w0.os
  out : w.output = w0.output
  tape : w.tape = w0.tape
variable (R : Reg P E ih ro sz ops bf T K φ0 w0) {D : Nat → Prop} {k : Nat} {φ : Map} {a : Act} {w : World} (I : Inv sz ops bf T K φ0 w0 D k φ a w)
include R I

/-- The heap at a later place, as far as no mover lies in between. -/
theorem Inv.relAt {e : Nat} (hke : k ≤ e) (he : e ≤ ops.size) (hm : ∀ j, k ≤ j → j < e → K j ≠ .m) {ψ : Map} (h1 : Sub (Cut φ (T e).H.next) ψ) (h2 : Sub ψ φ) : Rel ψ (T e).H.at w := by
  obtain ⟨_, b2, b3⟩ := R.between e hke he hm
  have hle := R.nx_mono hke he
  have main : ∀ b l o, ψ b = some l → (T e).H.at b = some o → (b < (T k).H.next ∧ Cut φ (T k).H.next b = some l ∧ (T k).H.at b = some o) ∨ ∃ j, D j ∧ k ≤ j ∧ j < e ∧ K j = .a o ∧ b = (T j).H.next := by
    intro b l o hb ho
    have hb' := h2 b l hb
    by_cases hlt : b < (T k).H.next
    · left
      exact ⟨hlt, by rw [Cut.of hlt]; exact hb', by rw [← b2 b hlt]; exact ho⟩
    · right
      obtain ⟨j, obj, hD, hkj, hKj, rfl⟩ := I.hi b l hb' (by omega)
      have hjn := (I.clo j hD).1
      by_cases hje : j < e
      · have := b3 j obj hkj hje hKj
        rw [ho] at this; cases this
        exact ⟨j, hD, hkj, hje, hKj, rfl⟩
      · have := R.wf he (R.nx_mono (show e ≤ j by omega) (by omega))
        rw [ho] at this; cases this
  refine ⟨fun g hg => ?_, fun b l o hb ho => ?_, fun b b' l l' hb hb' hl hl' hll => ?_⟩
  · obtain ⟨x, hx⟩ := I.rel.gl g hg
    exact ⟨x, h1 _ _ (Cut.le hle _ _ hx)⟩
  · rcases main b l o hb ho with ⟨hlt, hc, hat⟩ | ⟨j, hD, hkj, hje, hKj, rfl⟩
    · exact (I.rel.blk b l o hc hat).mono (fun x y hxy => h1 _ _ (Cut.le hle _ _ hxy)) rfl
    · obtain ⟨c, x, hφ, hcw, hor, _⟩ := I.early j o hD hkj hKj
      have hlt := R.id_lt hKj hje he
      have hψ : ψ (T j).H.next = some ⟨c, 0, x⟩ := h1 _ _ (by rw [Cut.of hlt]; exact hφ)
      rw [hψ] at hb; cases hb
      exact hor ψ (fun y z hyz => h1 _ _ (Cut.le (by omega) _ _ hyz)) hψ
  · obtain ⟨o, ho, hd⟩ := hl
    obtain ⟨o', ho', hd'⟩ := hl'
    rcases main b l o hb ho with ⟨hlt, hc, hat⟩ | ⟨j, hD, hkj, hje, hKj, rfl⟩
    · rcases main b' l' o' hb' ho' with ⟨hlt', hc', hat'⟩ | ⟨j', hD', hkj', hje', hKj', rfl⟩
      · exact I.rel.inj b b' l l' hc hc' ⟨o, hat, hd⟩ ⟨o', hat', hd'⟩ hll
      · obtain ⟨c, x, hφ, _, _, hno⟩ := I.early j' o' hD' hkj' hKj'
        have := h2 _ _ hb'
        rw [hφ] at this; cases this
        exact absurd hll (hno b l hc ⟨o, hat, hd⟩)
    · obtain ⟨c, x, hφ, _, _, hno⟩ := I.early j o hD hkj hKj
      have := h2 _ _ hb
      rw [hφ] at this; cases this
      rcases main b' l' o' hb' ho' with ⟨hlt', hc', hat'⟩ | ⟨j', hD', hkj', hje', hKj', rfl⟩
      · exact absurd hll.symm (hno b' l' hc' ⟨o', hat', hd'⟩)
      · have hj := I.edist j j' o o' _ _ hD hD' hkj hkj' hKj hKj' hφ (h2 _ _ hb') hll
        subst hj; rfl
/-- A temporary stands for what it is at the operation's place in the text. -/
theorem Inv.tmpAt {i : Nat} (hi : i < ops.size) (hnD : ¬ D i) (hdep : ∀ j, bit (tget 4 bf i) j = true → D j) {t : Nat} (ht : t < 256) (huse : ∀ j p, ops[j]? = some p → p.dst = some t → i = j ∨ bit (tget 4 bf i) j = true ∨ bit (tget 4 bf j) i = true) : VR φ (tget 4 (T i).tm t) (a.tmps.getD t undef) := by
  by_cases hex : ∃ (j : Nat) (p : Oper), ops[j]? = some p ∧ p.dst = some t
  · obtain ⟨j, p, hp, hpt⟩ := hex
    have hone : ∀ l o, ops[l]? = some o → l ≠ j → o.dst ≠ some t := fun l o ho hlj h => hlj (R.dst_one ho hp h hpt)
    have hjn : j < ops.size := (Array.getElem?_eq_some_iff.mp hp).1
    rcases huse j p hp hpt with rfl | h | h
    · rw [R.tm_keep ht i (Nat.zero_le _) (by omega) fun l o _ hl ho => hone l o ho (by omega)]
      exact I.tmp2 t ht fun l o hD ho => hone l o ho fun e => hnD (e ▸ hD)
    · have hji := R.bf_lt i hi j h
      rw [← R.tm_keep ht ops.size (by omega) (Nat.le_refl _) fun l o hl _ ho => hone l o ho (by omega)]
      exact I.tmp1 t ht j p (hdep j h) hp hpt
    · have hij := R.bf_lt j hjn i h
      rw [R.tm_keep ht i (Nat.zero_le _) (by omega) fun l o _ hl ho => hone l o ho (by omega)]
      exact I.tmp2 t ht fun l o hD ho => hone l o ho fun e => hnD ((I.clo l hD).2 i (e ▸ h))
  · rw [R.tm_keep ht i (Nat.zero_le _) (by omega) fun l o _ _ ho h => hex ⟨l, o, ho, h⟩]
    exact I.tmp2 t ht fun l o _ ho h => hex ⟨l, o, ho, h⟩
theorem Inv.gl : ∀ g, g < 64 → ∃ e, φ g = some ⟨g, 0, e⟩ := fun g hg => by
  obtain ⟨e, he⟩ := I.rel.gl g hg
  exact ⟨e, (Cut.some he).2⟩
theorem Inv.opsAt {i : Nat} {o : Oper} (ho : ops[i]? = some o) (hnD : ¬ D i) (hdep : ∀ j, bit (tget 4 bf i) j = true → D j) : Ops φ a.eval (T i).tm o.op.operands.toList := by
  intro x hx u hu
  have hi : i < ops.size := (Array.getElem?_eq_some_iff.mp ho).1
  cases x with
  | tmp t =>
    rcases bc_eq hu with ⟨ht, hu⟩ | ⟨_, hu⟩
    · cases hu
      refine I.tmpAt R hi hnD hdep (by simpa [Nat.blt_eq] using ht) fun j p hp hpt => ?_
      by_cases e : i = j
      · exact .inl e
      · exact .inr (((R.all i o ho).2 j p hp e).use t hpt hx)
    · cases hu
  | const v => exact ofV_sound φ 6 v u hu
  | global g =>
    rcases bc_eq hu with ⟨ht, hu⟩ | ⟨_, hu⟩
    · cases hu
      obtain ⟨e, he⟩ := I.gl R g (by simpa [Nat.blt_eq] using ht)
      exact VR.ptr (l := ⟨g, 0, e⟩) he
    · cases hu
  | func f => cases hu; exact .fn (.func f) .nil .nil
theorem Inv.wantAt {i : Nat} {o : Oper} (ho : ops[i]? = some o) (hnD : ¬ D i) (hdep : ∀ j, bit (tget 4 bf i) j = true → D j) {f : FT → Option Bool} (hf : wants sz ops.toList o.guard = some f) {b : Bool} (hb : f (T i).tm = some b) : Region.wanted o (yielded ops a.tmps) = b := by
  have hi : i < ops.size := (Array.getElem?_eq_some_iff.mp ho).1
  refine wanted_eq (φ := φ) hf hb I.tsz fun q oj d hg hj hd hlt => ?_
  have hbq := (R.all i o ho).1 q hg
  refine I.tmpAt R hi hnD hdep hlt fun j p hp hpt => ?_
  have := R.dst_one hp hj hpt hd
  subst this
  exact .inr (.inl hbq)
/-- The temporaries, when one more operation has put its result. -/
theorem Inv.putTmp {i : Nat} {o : Oper} (ho : ops[i]? = some o) {φ' : Map} (hs : Sub φ φ') {v : AV} {v' : Value} (hv : VR φ' v v') (hp : PutR o.dst sz (T i).tm v (T (i + 1)).tm) (ds : List Deferred) :
    (({ a with defers := ds } : Act).put o.dst v').tmps.size = sz ∧ (∀ t, t < 256 → ∀ l p, (D l ∨ l = i) → ops[l]? = some p → p.dst = some t → VR φ' (tget 4 (T ops.size).tm t) ((({ a with defers := ds } : Act).put o.dst v').tmps.getD t undef)) ∧
      ∀ t, t < 256 → (∀ l p, (D l ∨ l = i) → ops[l]? = some p → p.dst ≠ some t) → VR φ' (tget 4 (T 0).tm t) ((({ a with defers := ds } : Act).put o.dst v').tmps.getD t undef) := by
  have hi : i < ops.size := (Array.getElem?_eq_some_iff.mp ho).1
  have hget : ∀ t, (({ a with defers := ds } : Act).put o.dst v').tmps.getD t undef = if o.dst = some t then v' else a.tmps.getD t undef := fun t =>
    Act.put_get { a with defers := ds } o.dst v' (fun d hd => by
      rw [hd] at hp
      show d < a.tmps.size
      rw [I.tsz]; exact hp.1) t
  refine ⟨by rw [Act.put_size]; exact I.tsz, fun t ht l p hl hlp hpt => ?_, fun t ht hno => ?_⟩
  · rw [hget t]
    by_cases e : o.dst = some t
    · rw [if_pos e]
      have : l = i := R.dst_one hlp ho hpt e
      subst this
      rw [R.tm_keep ht ops.size (show l + 1 ≤ ops.size by omega) (Nat.le_refl _) fun x q hx _ hq hqt => by
        have := R.dst_one hq ho hqt e; omega]
      rw [hp.get ht, if_pos e]
      exact hv
    · rw [if_neg e]
      rcases hl with hl | rfl
      · exact (I.tmp1 t ht l p hl hlp hpt).mono hs
      · rw [ho] at hlp; cases hlp
        exact absurd hpt e
  · rw [hget t, if_neg (hno i o (.inr rfl) ho)]
    exact (I.tmp2 t ht fun l p hl hlp => hno l p (.inl hl) hlp).mono hs
theorem Inv.clo' {i : Nat} (hi : i < ops.size) (hdep : ∀ j, bit (tget 4 bf i) j = true → D j) : ∀ l, (D l ∨ l = i) → l < ops.size ∧ ∀ j, bit (tget 4 bf l) j = true → D j ∨ j = i := by
  intro l hl
  rcases hl with hl | rfl
  · exact ⟨(I.clo l hl).1, fun j hj => .inl ((I.clo l hl).2 j hj)⟩
  · exact ⟨hi, fun j hj => .inl (hdep j hj)⟩
/-- An operation that changes no block is done. -/
theorem Inv.quiet {i : Nat} {o : Oper} (ho : ops[i]? = some o) (hk : K i = .q) (hdep : ∀ j, bit (tget 4 bf i) j = true → D j) {v : AV} {v' : Value} (hv : VR φ v v') (hp : PutR o.dst sz (T i).tm v (T (i + 1)).tm) : Inv sz ops bf T K φ0 w0 (fun j => D j ∨ j = i) k φ (a.put o.dst v') w := by
  have hi : i < ops.size := (Array.getElem?_eq_some_iff.mp ho).1
  obtain ⟨t1, t2, t3⟩ := I.putTmp R ho (fun _ _ h => h) hv hp a.defers
  have hne : ∀ {j}, K j ≠ .q → j ≠ i := fun h e => by subst e; exact h hk
  have hD : ∀ {j}, K j ≠ .q → (D j ∨ j = i) → D j := fun h hd => hd.resolve_right (hne h)
  exact {
    kn := I.kn
    mov := fun j hj hm => ⟨fun h => (I.mov j hj hm).1 (hD (by rw [hm]; nofun) h), fun h => .inl ((I.mov j hj hm).2 h)⟩
    last := I.last.imp id fun ⟨m, h1, h2, h3, h4⟩ => ⟨m, h1, h2, h3, .inl h4⟩
    clo := I.clo' R hi hdep
    rel := I.rel
    hi := fun b l hb hlt => by
      obtain ⟨j, obj, h1, h2, h3, h4⟩ := I.hi b l hb hlt
      exact ⟨j, obj, .inl h1, h2, h3, h4⟩
    early := fun j obj hd h1 h2 => I.early j obj (hD (by rw [h2]; nofun) hd) h1 h2
    edist := fun j j' obj obj' l l' hd hd' h1 h2 h3 h4 => I.edist j j' obj obj' l l' (hD (by rw [h3]; nofun) hd) (hD (by rw [h4]; nofun) hd') h1 h2 h3 h4
    late := fun j obj h1 h2 h3 => I.late j obj h1 (fun h => h2 (.inl h)) h3
    tsz := t1
    tmp1 := t2
    tmp2 := t3
    df := by rw [Act.put_defers]; exact I.df
    sub := I.sub
    new := I.new
    hsz := I.hsz
    conc := I.conc
    keep := I.keep
    os := I.os
    out := I.out
    tape := I.tape }

/-- A block is made by an operation whose order is open. -/
theorem Inv.alloc {i : Nat} {o : Oper} (ho : ops[i]? = some o) {obj : AObj} (hk : K i = .a obj) (hnD : ¬ D i) (hdep : ∀ j, bit (tget 4 bf i) j = true → D j) {c : Obj} {e : Nat} {v : AV} {v' : Value} (hp : PutR o.dst sz (T i).tm v (T (i + 1)).tm)
    (hor : ∀ φ', Sub (Cut φ (T i).H.next) φ' → φ' (T i).H.next = some ⟨w.heap.size, 0, e⟩ → OR φ' obj ⟨w.heap.size, 0, e⟩ (w.alloc c) ∧ VR φ' v v') :
    Inv sz ops bf T K φ0 w0 (fun j => D j ∨ j = i) k (φ.add (T i).H.next ⟨w.heap.size, 0, e⟩) (a.put o.dst v') (w.alloc c) := by
  have hi : i < ops.size := (Array.getElem?_eq_some_iff.mp ho).1
  have hkm : K i ≠ .m := by rw [hk]; nofun
  have hno : φ (T i).H.next = none := by
    by_cases hik : i < k
    · exact (I.late i obj hik hnD hk).1
    · cases hx : φ (T i).H.next with
      | none => rfl
      | some l =>
        obtain ⟨j, obj', h1, h2, h3, h4⟩ := I.hi _ l hx (R.nx_mono (by omega) (by omega))
        have := R.id_inj hi (I.clo j h1).1 hk h3 h4
        subst this
        exact absurd h1 hnD
  have hsub : Sub φ (φ.add (T i).H.next ⟨w.heap.size, 0, e⟩) := Map.add_sub _ hno
  have hself : φ.add (T i).H.next ⟨w.heap.size, 0, e⟩ (T i).H.next = some ⟨w.heap.size, 0, e⟩ := Map.add_self _ _ _
  have hcutS : ∀ {N}, Sub (Cut φ N) (Cut (φ.add (T i).H.next ⟨w.heap.size, 0, e⟩) N) := fun b l hb => by
    obtain ⟨h1, h2⟩ := Cut.some hb
    rw [Cut.of h1]; exact hsub _ _ h2
  obtain ⟨t1, t2, t3⟩ := I.putTmp R ho hsub (hor _ (fun b l hb => hsub _ _ (Cut.some hb).2) hself).2 hp a.defers
  have hheap : ∀ {b x}, w.heap[b]? = some x → (w.alloc c).heap[b]? = w.heap[b]? := fun h => heap_alloc_old w c _ (Array.getElem?_eq_some_iff.mp h).1
  have hold : ∀ {b}, b < w.heap.size → (w.alloc c).heap[b]? = w.heap[b]? := fun h => heap_alloc_old w c _ h
  have hsz1 : (w.alloc c).heap.size = w.heap.size + 1 := by show (w.heap.push c).size = _; simp
  have hDm : ∀ {j}, K j = .m → (D j ∨ j = i) → D j := fun hm hd => hd.resolve_right fun e => by subst e; exact hkm hm
  -- the map below k
  have hcut : ∀ b l, Cut (φ.add (T i).H.next ⟨w.heap.size, 0, e⟩) (T k).H.next b = some l → (b = (T i).H.next ∧ l = ⟨w.heap.size, 0, e⟩ ∧ (T i).H.next < (T k).H.next) ∨ (b ≠ (T i).H.next ∧ Cut φ (T k).H.next b = some l) := fun b l hb => by
    obtain ⟨h1, h2⟩ := Cut.some hb
    rcases Map.add_or h2 with ⟨rfl, rfl⟩ | ⟨hne, h3⟩
    · exact .inl ⟨rfl, rfl, h1⟩
    · exact .inr ⟨hne, by rw [Cut.of h1]; exact h3⟩
  have hlate_or : (T i).H.next < (T k).H.next → i < k := fun h => by
    rcases Nat.lt_or_ge i k with h1 | h1
    · exact h1
    · have := R.nx_mono h1 (by omega); omega
  have hrel : Rel (Cut (φ.add (T i).H.next ⟨w.heap.size, 0, e⟩) (T k).H.next) (T k).H.at (w.alloc c) := by
    by_cases hik : i < k
    · have hlt := R.id_lt hk hik I.kn
      have hat := (I.late i obj hik hnD hk).2
      have hfun : Cut (φ.add (T i).H.next ⟨w.heap.size, 0, e⟩) (T k).H.next = (Cut φ (T k).H.next).add (T i).H.next ⟨w.heap.size, 0, e⟩ := by
        funext b
        show (if b < (T k).H.next then (if b = (T i).H.next then some _ else φ b) else none) = (if b = (T i).H.next then some _ else (if b < (T k).H.next then φ b else none))
        by_cases h1 : b = (T i).H.next
        · subst h1; rw [if_pos hlt, if_pos rfl, if_pos rfl]
        · rw [if_neg h1, if_neg h1]
      have hcno : Cut φ (T k).H.next (T i).H.next = none := by rw [Cut.of hlt]; exact hno
      have hor' := (hor (Cut (φ.add (T i).H.next ⟨w.heap.size, 0, e⟩) (T k).H.next) (fun b l hb => hcutS _ _ (Cut.le (Nat.le_of_lt hlt) _ _ hb)) (by rw [Cut.of hlt]; exact hself)).1
      rw [hfun] at hor' ⊢
      refine I.rel.new hcno (fun j => ?_) hor'
      by_cases h1 : j = (T i).H.next
      · subst h1; rw [if_pos rfl, hat]
      · rw [if_neg h1]
    · have hfun : Cut (φ.add (T i).H.next ⟨w.heap.size, 0, e⟩) (T k).H.next = Cut φ (T k).H.next := by
        funext b
        show (if b < (T k).H.next then (if b = (T i).H.next then some _ else φ b) else none) = (if b < (T k).H.next then φ b else none)
        by_cases h1 : b < (T k).H.next
        · have := R.nx_mono (show k ≤ i by omega) (by omega)
          rw [if_pos h1, if_pos h1, if_neg (by omega)]
        · rw [if_neg h1, if_neg h1]
      rw [hfun]
      refine ⟨I.rel.gl, fun b l o' hb ho' => ?_, I.rel.inj⟩
      by_cases hdd : o' = .dead
      · subst hdd; trivial
      · have := (I.rel.blk b l o' hb ho').lt hdd
        exact (I.rel.blk b l o' hb ho').mono (fun _ _ h => h) (hold this)
  refine { kn := I.kn, mov := fun j hj hm => ⟨fun h => (I.mov j hj hm).1 (hDm hm h), fun h => .inl ((I.mov j hj hm).2 h)⟩, last := I.last.imp id fun ⟨m, h1, h2, h3, h4⟩ => ⟨m, h1, h2, h3, .inl h4⟩, clo := I.clo' R hi hdep, rel := hrel, hi := ?_, early := ?_, edist := ?_, late := ?_, tsz := t1, tmp1 := t2, tmp2 := t3, df := by rw [Act.put_defers]; exact I.df.mono hsub, sub := fun b l hb => hsub _ _ (I.sub b l hb), new := ?_, hsz := by rw [hsz1]; have := I.hsz; omega, conc := fun b hb hn => by rw [hold (Nat.lt_of_lt_of_le hb I.hsz)]; exact I.conc b hb hn, keep := fun g l hg hl hv => by rw [hold (Nat.lt_of_lt_of_le (R.r0.lt hl hv) I.hsz)]; exact I.keep g l hg hl hv, os := I.os, out := I.out, tape := I.tape }
  · intro b l hb hlt
    rcases Map.add_or hb with ⟨rfl, rfl⟩ | ⟨hne, h3⟩
    · refine ⟨i, obj, .inr rfl, ?_, hk, rfl⟩
      rcases Nat.lt_or_ge i k with h1 | h1
      · have := R.id_lt hk h1 I.kn; omega
      · exact h1
    · obtain ⟨j, obj', h1, h2, h4, h5⟩ := I.hi b l h3 hlt
      exact ⟨j, obj', .inl h1, h2, h4, h5⟩
  · intro j obj' hd hkj hKj
    by_cases hji : j = i
    · subst hji
      rw [hk] at hKj; cases hKj
      refine ⟨w.heap.size, e, hself, by rw [hsz1]; omega, fun φ' h1 h2 => (hor φ' (fun b l hb => h1 _ _ (hcutS _ _ hb)) h2).1, fun b l hb hl => ?_⟩
      rcases hcut b l hb with ⟨_, _, h3⟩ | ⟨_, h3⟩
      · have := hlate_or h3; omega
      · have := I.rel.lt h3 hl; omega
    · have hDj := hd.resolve_right hji
      obtain ⟨c', e', h1, h2, h3, h4⟩ := I.early j obj' hDj hkj hKj
      refine ⟨c', e', hsub _ _ h1, by rw [hsz1]; omega, fun φ' h5 h6 => ?_, fun b l hb hl => ?_⟩
      · exact (h3 φ' (fun b l hb => h5 _ _ (hcutS _ _ hb)) h6).mono (fun _ _ h => h) (hold h2)
      · rcases hcut b l hb with ⟨_, rfl, _⟩ | ⟨_, h7⟩
        · show w.heap.size ≠ c'; omega
        · exact h4 b l h7 hl
  · intro j j' obj1 obj2 l l' hd hd' hkj hkj' hKj hKj' hl hl' hll
    have cases1 : ∀ {j obj1 l}, (D j ∨ j = i) → k ≤ j → K j = .a obj1 → φ.add (T i).H.next ⟨w.heap.size, 0, e⟩ (T j).H.next = some l → (j = i ∧ l.b = w.heap.size) ∨ (j ≠ i ∧ D j ∧ φ (T j).H.next = some l ∧ l.b < w.heap.size) := by
      intro j obj1 l hd hkj hKj hl
      by_cases hji : j = i
      · subst hji
        rw [hself] at hl; cases hl
        exact .inl ⟨rfl, rfl⟩
      · have hDj := hd.resolve_right hji
        obtain ⟨c', e', h1, h2, _, _⟩ := I.early j obj1 hDj hkj hKj
        have := hsub _ _ h1
        rw [hl] at this; cases this
        exact .inr ⟨hji, hDj, h1, h2⟩
    rcases cases1 hd hkj hKj hl with ⟨rfl, h1⟩ | ⟨_, h1, h2, h3⟩
    · rcases cases1 hd' hkj' hKj' hl' with ⟨rfl, _⟩ | ⟨_, h4, h5, h6⟩
      · rfl
      · omega
    · rcases cases1 hd' hkj' hKj' hl' with ⟨rfl, h4⟩ | ⟨_, h4, h5, h6⟩
      · omega
      · exact I.edist j j' obj1 obj2 l l' h1 h4 hkj hkj' hKj hKj' h2 h5 hll
  · intro j obj' hjk hnd hKj
    have hji : j ≠ i := fun h => hnd (.inr h)
    obtain ⟨h1, h2⟩ := I.late j obj' hjk (fun h => hnd (.inl h)) hKj
    refine ⟨?_, h2⟩
    show (if (T j).H.next = (T i).H.next then some _ else φ (T j).H.next) = none
    have hjn : j < ops.size := by have := I.kn; omega
    rw [if_neg fun h => hji (R.id_inj hjn hi hKj hk h)]
    exact h1
  · intro b l hb
    rcases Map.add_or hb with ⟨rfl, rfl⟩ | ⟨_, h3⟩
    · exact .inr ⟨R.nx_mono (Nat.zero_le _) (by omega), .inl I.hsz⟩
    · exact I.new b l h3
end
end Go.Ev
end

section
namespace Go.Ev
open Go

section
variable {P : Program} {E : Env} {ih : CallF} {ro : Option Nat} {sz : Nat} {ops : Array Oper} {bf : Tr Nat 4} {T : Nat → DS} {K : Nat → OpKd} {φ0 : Map} {w0 : World}
variable (R : Reg P E ih ro sz ops bf T K φ0 w0) {D : Nat → Prop} {k : Nat} {φ : Map} {a : Act} {w : World} (I : Inv sz ops bf T K φ0 w0 D k φ a w)
include R

/-- A mover has the class of movers. -/
theorem Reg.mcls {i : Nat} {o : Oper} (ho : ops[i]? = some o) (hk : K i = .m) : cls o.op E = .m := by
  have h := R.at' ho
  rw [hk] at h
  cases h with
  | move hf hb hc hg hq hp hrun hst hr hm => exact hc
include I
/-- The movers ahead of one whose turn it is are done, and it is not. -/
theorem Inv.mfree {i : Nat} {o : Oper} (ho : ops[i]? = some o) (hk : K i = .m) (hnD : ¬ D i) (hdep : ∀ j, bit (tget 4 bf i) j = true → D j) : k ≤ i ∧ ∀ j, k ≤ j → j < i → K j ≠ .m := by
  have hi : i < ops.size := (Array.getElem?_eq_some_iff.mp ho).1
  have hki : k ≤ i := by
    rcases Nat.lt_or_ge i k with h | h
    · exact absurd ((I.mov i hi hk).2 h) hnD
    · exact h
  refine ⟨hki, fun j hj hji hm => ?_⟩
  have hoj := R.op (show j < ops.size by omega)
  have hb := ((R.all i o ho).2 j _ hoj (by omega)).act (R.mcls ho hk) (R.mcls hoj hm) hji
  have := (I.mov j (by omega) hm).1 (hdep j hb)
  omega
/-- A mover is done. -/
theorem Inv.move {i : Nat} {o : Oper} (ho : ops[i]? = some o) (hk : K i = .m) (hnD : ¬ D i) (hdep : ∀ j, bit (tget 4 bf i) j = true → D j) {φ1 : Map} {v : AV} {v' : Value} {w1 : World} {ds : List Deferred} (hp : PutR o.dst sz (T i).tm v (T (i + 1)).tm)
    (hv : VR φ1 v v') (hst : Step (Cut φ (T i).H.next) φ1 (T i).H (T (i + 1)).H w w1) (hdf : DR φ1 (T (i + 1)).df ds) :
    Inv sz ops bf T K φ0 w0 (fun j => D j ∨ j = i) (i + 1) (fun b => if b < (T (i + 1)).H.next then φ1 b else φ b) (({ a with defers := ds } : Act).put o.dst v') w1 := by
  have hi : i < ops.size := (Array.getElem?_eq_some_iff.mp ho).1
  obtain ⟨hki, hfree⟩ := I.mfree R ho hk hnD hdep
  obtain ⟨b1, b2, b3⟩ := R.between i hki (by omega) hfree
  have hnn := R.nx_mono (show i ≤ i + 1 by omega) (by omega)
  have hkn := R.nx_mono hki (by omega)
  obtain ⟨φv, av, wv, sv, _, _⟩ := R.vir i (by omega)
  -- the ids of early blocks
  have hid : ∀ {j obj}, D j → k ≤ j → K j = .a obj → ((T j).H.next < (T i).H.next ∧ j < i) ∨ ((T (i + 1)).H.next ≤ (T j).H.next ∧ i < j) := by
    intro j obj hDj hkj hKj
    have hjn := (I.clo j hDj).1
    rcases Nat.lt_trichotomy j i with h | h | h
    · exact .inl ⟨R.id_lt hKj h (by omega), h⟩
    · subst h; exact absurd hDj hnD
    · exact .inr ⟨R.nx_mono (show i + 1 ≤ j by omega) (by omega), h⟩
  -- the map
  have hmid : ∀ b l, φ b = some l → b < (T (i + 1)).H.next → b < (T i).H.next := fun b l hb hlt => by
    rcases Nat.lt_or_ge b (T k).H.next with h | h
    · omega
    · obtain ⟨j, obj, hDj, hkj, hKj, rfl⟩ := I.hi b l hb h
      rcases hid hDj hkj hKj with ⟨h1, _⟩ | ⟨h1, _⟩
      · exact h1
      · omega
  have hsub : Sub φ (fun b => if b < (T (i + 1)).H.next then φ1 b else φ b) := fun b l hb => by
    show (if b < (T (i + 1)).H.next then φ1 b else φ b) = some l
    by_cases h : b < (T (i + 1)).H.next
    · rw [if_pos h]
      exact hst.ext.sub b l (by rw [Cut.of (hmid b l hb h)]; exact hb)
    · rw [if_neg h]; exact hb
  have hsub1 : Sub φ1 (fun b => if b < (T (i + 1)).H.next then φ1 b else φ b) := fun b l hb => by
    show (if b < (T (i + 1)).H.next then φ1 b else φ b) = some l
    rw [if_pos (hst.dom.lt b l hb)]; exact hb
  have hcut : Cut (fun b => if b < (T (i + 1)).H.next then φ1 b else φ b) (T (i + 1)).H.next = φ1 := by
    funext b
    show (if b < (T (i + 1)).H.next then (if b < (T (i + 1)).H.next then φ1 b else φ b) else none) = φ1 b
    by_cases h : b < (T (i + 1)).H.next
    · rw [if_pos h, if_pos h]
    · rw [if_neg h]
      cases hx : φ1 b with
      | none => rfl
      | some l => have := hst.dom.lt b l hx; omega
  obtain ⟨t1, t2, t3⟩ := I.putTmp R ho hsub (hv.mono hsub1) hp ds
  -- live blocks at the mover's place
  have hlive : ∀ b l, Cut φ (T i).H.next b = some l → live (T i).H.at b → (Cut φ (T k).H.next b = some l ∧ live (T k).H.at b) ∨ ∃ j obj, D j ∧ k ≤ j ∧ K j = .a obj ∧ j < i ∧ b = (T j).H.next := fun b l hb hl => by
    obtain ⟨h1, h2⟩ := Cut.some hb
    rcases Nat.lt_or_ge b (T k).H.next with h | h
    · left
      obtain ⟨o', ho', hd'⟩ := hl
      exact ⟨by rw [Cut.of h]; exact h2, o', by rw [← b2 b h]; exact ho', hd'⟩
    · obtain ⟨j, obj, hDj, hkj, hKj, rfl⟩ := I.hi b l h2 h
      rcases hid hDj hkj hKj with ⟨_, h3⟩ | ⟨h3, _⟩
      · exact .inr ⟨j, obj, hDj, hkj, hKj, h3, rfl⟩
      · omega
  -- an early block behind the mover is not led to
  have hfar : ∀ {j obj c e}, D j → k ≤ j → K j = .a obj → i < j → φ (T j).H.next = some ⟨c, 0, e⟩ → ∀ b l, Cut φ (T i).H.next b = some l → live (T i).H.at b → l.b ≠ c := by
    intro j obj c e hDj hkj hKj hij hφ b l hb hl
    rcases hlive b l hb hl with ⟨h1, h2⟩ | ⟨j', obj', hDj', hkj', hKj', hji', rfl⟩
    · obtain ⟨c', e', h3, _, _, h4⟩ := I.early j obj hDj hkj hKj
      rw [hφ] at h3; cases h3
      exact h4 b l h1 h2
    · intro e
      have := I.edist j' j obj' obj l _ hDj' hDj hkj' hkj hKj' hKj (Cut.some hb).2 hφ e
      omega
  refine { kn := by omega, mov := fun j hj hm => ?_, last := .inr ⟨i, rfl, hi, hk, .inr rfl⟩, clo := I.clo' R hi hdep, rel := by rw [hcut]; exact hst.rel, hi := ?_, early := ?_, edist := ?_, late := ?_, tsz := t1, tmp1 := t2, tmp2 := t3, df := by rw [Act.put_defers]; exact hdf.mono hsub1, sub := fun b l hb => hsub _ _ (I.sub b l hb), new := ?_, hsz := Nat.le_trans I.hsz hst.ext.sz, conc := ?_, keep := ?_, os := hst.ext.os.trans I.os, out := hst.ext.out.trans I.out, tape := hst.ext.tape.trans I.tape }
  · constructor
    · rintro (h | rfl)
      · have := (I.mov j hj hm).1 h; omega
      · omega
    · intro h
      rcases Nat.lt_or_ge j i with h1 | h1
      · left
        rcases Nat.lt_or_ge j k with h2 | h2
        · exact (I.mov j hj hm).2 h2
        · exact absurd hm (hfree j h2 h1)
      · right; omega
  · intro b l hb hlt
    have hb' : (if b < (T (i + 1)).H.next then φ1 b else φ b) = some l := hb
    rw [if_neg (by omega)] at hb'
    obtain ⟨j, obj, hDj, hkj, hKj, rfl⟩ := I.hi b l hb' (by omega)
    rcases hid hDj hkj hKj with ⟨h1, _⟩ | ⟨_, h1⟩
    · omega
    · exact ⟨j, obj, .inl hDj, by omega, hKj, rfl⟩
  · intro j obj hd hkj hKj
    have hDj : D j := hd.resolve_right (by omega)
    obtain ⟨c, e, h1, h2, h3, h4⟩ := I.early j obj hDj (by omega) hKj
    have hge : (T (i + 1)).H.next ≤ (T j).H.next := R.nx_mono (show i + 1 ≤ j by omega) (by have := (I.clo j hDj).1; omega)
    have hf := hfar hDj (by omega) hKj (show i < j by omega) h1
    refine ⟨c, e, ?_, Nat.lt_of_lt_of_le h2 hst.ext.sz, fun φ' h5 h6 => ?_, fun b l hb hl => ?_⟩
    · show (if (T j).H.next < (T (i + 1)).H.next then φ1 _ else φ _) = _
      rw [if_neg (by omega)]; exact h1
    · refine (h3 φ' (fun b l hb => h5 _ _ ?_) h6).mono (fun _ _ h => h) (hst.ext.conc c h2 fun x l hx hl => hf x l hx hl)
      obtain ⟨g1, g2⟩ := Cut.some hb
      rw [Cut.of g1]; exact hsub _ _ g2
    · rw [hcut] at hb
      rcases hst.ext.new b l hb with h7 | ⟨_, h7⟩
      · exact hf b l h7 (hst.ext.lv b (Cut.some h7).1 hl)
      · rcases h7 with h7 | ⟨b0, l0, h8, h9, h10⟩
        · omega
        · rw [← h10]; exact hf b0 l0 h8 h9
  · intro j j' obj obj' l l' hd hd' hkj hkj' hKj hKj' hl hl' hll
    have hDj : D j := hd.resolve_right (by omega)
    have hDj' : D j' := hd'.resolve_right (by omega)
    have hg : (T (i + 1)).H.next ≤ (T j).H.next := R.nx_mono (show i + 1 ≤ j by omega) (by have := (I.clo j hDj).1; omega)
    have hg' : (T (i + 1)).H.next ≤ (T j').H.next := R.nx_mono (show i + 1 ≤ j' by omega) (by have := (I.clo j' hDj').1; omega)
    have e1 : (if (T j).H.next < (T (i + 1)).H.next then φ1 (T j).H.next else φ (T j).H.next) = some l := hl
    have e2 : (if (T j').H.next < (T (i + 1)).H.next then φ1 (T j').H.next else φ (T j').H.next) = some l' := hl'
    rw [if_neg (by omega)] at e1 e2
    exact I.edist j j' obj obj' l l' hDj hDj' (by omega) (by omega) hKj hKj' e1 e2 hll
  · intro j obj hjk hnd hKj
    have hji : j < i := by
      have : j ≠ i := fun h => hnd (.inr h)
      omega
    have hnDj : ¬ D j := fun h => hnd (.inl h)
    have hlt := R.id_lt hKj hji (by omega)
    have hφ : φ (T j).H.next = none ∧ (T i).H.at (T j).H.next = some obj := by
      rcases Nat.lt_or_ge j k with h | h
      · obtain ⟨h1, h2⟩ := I.late j obj h hnDj hKj
        exact ⟨h1, by rw [b2 _ (R.id_lt hKj h I.kn)]; exact h2⟩
      · refine ⟨?_, b3 j obj h hji hKj⟩
        cases hx : φ (T j).H.next with
        | none => rfl
        | some l =>
          obtain ⟨j', obj', hDj', hkj', hKj', hjj⟩ := I.hi _ l hx (R.nx_mono h (by omega))
          have := R.id_inj (show j < ops.size by omega) (I.clo j' hDj').1 hKj hKj' hjj
          subst this
          exact absurd hDj' hnDj
    obtain ⟨h1, h2⟩ := hφ
    have hcn : Cut φ (T i).H.next (T j).H.next = none := by rw [Cut.of hlt]; exact h1
    refine ⟨?_, by rw [hst.ext.abs _ hlt hcn]; exact h2⟩
    show (if (T j).H.next < (T (i + 1)).H.next then φ1 (T j).H.next else φ (T j).H.next) = none
    rw [if_pos (by omega)]
    cases hx : φ1 (T j).H.next with
    | none => rfl
    | some l =>
      rcases hst.ext.new _ l hx with h5 | ⟨h5, _⟩
      · rw [hcn] at h5; cases h5
      · omega
  · intro b l hb
    have hb' : (if b < (T (i + 1)).H.next then φ1 b else φ b) = some l := hb
    by_cases h : b < (T (i + 1)).H.next
    · rw [if_pos h] at hb'
      rcases hst.ext.new b l hb' with h1 | ⟨h1, h2⟩
      · exact I.new b l (Cut.some h1).2
      · refine .inr ⟨Nat.le_trans (R.nx_mono (Nat.zero_le _) (by omega)) h1, ?_⟩
        rcases h2 with h2 | ⟨b0, l0, h3, h4, h5⟩
        · exact .inl (Nat.le_trans I.hsz h2)
        · rcases I.new b0 l0 (Cut.some h3).2 with h6 | ⟨_, h7⟩
          · refine .inr ⟨b0, l0, h6, ?_, h5⟩
            obtain ⟨φd, _, _, sd, _, _⟩ := R.vir 0 (Nat.zero_le _)
            exact sv.ext.lv b0 (by
              -- the first map's blocks lie below the first next
              rcases Nat.lt_or_ge b0 (T 0).H.next with h8 | h8
              · exact h8
              · have := sd.dom.lt b0 _ (sd.ext.sub b0 l0 h6); omega) h4
          · rcases h7 with h7 | ⟨b1', l1', h8, h9, h10⟩
            · exact .inl (h5 ▸ h7)
            · exact .inr ⟨b1', l1', h8, h9, h10.trans h5⟩
    · rw [if_neg h] at hb'
      exact I.new b l hb'
  · intro b hb hn
    rw [hst.ext.conc b (Nat.lt_of_lt_of_le hb I.hsz) fun x l hx hl => ?_]
    · exact I.conc b hb hn
    · obtain ⟨h1, h2⟩ := Cut.some hx
      rcases I.new x l h2 with h3 | ⟨_, h4⟩
      · obtain ⟨φd, _, _, sd, _, _⟩ := R.vir 0 (Nat.zero_le _)
        have hx0 : x < (T 0).H.next := sd.dom.lt x _ (sd.ext.sub x l h3)
        exact hn x l h3 (sv.ext.lv x hx0 hl)
      · rcases h4 with h4 | ⟨b0, l0, h5, h6, h7⟩
        · omega
        · rw [← h7]; exact hn b0 l0 h5 h6
  · intro g l hg hl hv
    obtain ⟨φd, _, _, sd, _, _⟩ := R.vir 0 (Nat.zero_le _)
    have hlt : g < (T 0).H.next := sd.dom.lt g _ (sd.ext.sub g l hl)
    have hnx := R.nx_mono (Nat.zero_le i) (by omega)
    have h1 : Cut φ (T i).H.next g = some l := by rw [Cut.of (by omega)]; exact I.sub g l hl
    have h2 : live (T i).H.at g := by
      obtain ⟨o', h3, h4⟩ := hv
      exact ⟨o', by rw [sv.ext.hk g hg]; exact h3, h4⟩
    exact (hst.ext.keep g l hg h1 h2).trans (I.keep g l hg hl hv)
end
end Go.Ev
end

section
namespace Go.Ev
open Go

section
variable {P : Program} {E : Env} {ih : CallF} {ro : Option Nat} {sz : Nat} {ops : Array Oper} {bf : Tr Nat 4} {T : Nat → DS} {K : Nat → OpKd} {φ0 : Map} {w0 : World}
variable (R : Reg P E ih ro sz ops bf T K φ0 w0)
include R

/-! ### What the checks say -/
theorem Reg.ms_mem {m : Nat} (hm : m < ops.size) (hk : K m = .m) : ∀ i, m < i → i ≤ ops.size → (m, (T m).H) ∈ (T i).ms := by
  intro i
  induction i with
  | zero => intro h; omega
  | succ i ihi =>
    intro h hi
    have hat := R.at' (R.op (show i < ops.size by omega))
    by_cases e : m = i
    · subst e
      rw [hk] at hat
      cases hat with
      | move hf hb hc hg hq hp hrun hst hr hms => rw [hms]; exact List.mem_cons_self
    · have := ihi (by omega) (by omega)
      generalize K i = kk at hat
      cases hat with
      | no hf hb hp hd hH hr hms => rw [hms]; exact this
      | pure hf hb hc hg hv hp hd hH hr hms => rw [hms]; exact this
      | read hf hb hc hg hv hrd hp hd hH hr hms => rw [hms]; exact this
      | new hf hb hc hg hq hn hh hp hd hr hms => rw [hms]; exact this
      | move hf hb hc hg hq hp hrun hst hr hms => rw [hms]; exact List.mem_cons_of_mem _ this
theorem Reg.rs_mem {r : Nat} {g : RF} {v : AV} (hr : r < ops.size) (h0 : (r, g, (T r).tm, v) ∈ (T (r + 1)).rs) : ∀ i, r < i → i ≤ ops.size → (r, g, (T r).tm, v) ∈ (T i).rs := by
  intro i
  induction i with
  | zero => intro h; omega
  | succ i ihi =>
    intro h hi
    by_cases e : r = i
    · subst e; exact h0
    · have := ihi (by omega) (by omega)
      have hat := R.at' (R.op (show i < ops.size by omega))
      generalize K i = kk at hat
      cases hat with
      | no hf hb hp hd hH hr hms => rw [hr]; exact this
      | pure hf hb hc hg hv hp hd hH hr hms => rw [hr]; exact this
      | read hf hb hc hg hv hrd hp hd hH hr hms => rw [hr]; exact List.mem_cons_of_mem _ this
      | new hf hb hc hg hq hn hh hp hd hr hms => rw [hr]; exact this
      | move hf hb hc hg hq hp hrun hst hr hms => rw [hr]; exact this
omit R in
theorem reads_eq {mask : Nat} {ms : Mvs} {g : RF} {tm : FT} {v : AV} (h : reads mask ms g tm v = true) : ∀ q, q ∈ ms → bit mask q.1 = true ∨ g tm q.2 = some v := by
  intro q hq
  have h1 := lall_eq h q hq
  cases hb : bit mask q.1 with
  | true => exact .inl rfl
  | false =>
    rw [hb, bc_false] at h1
    cases hg : g tm q.2 with
    | none => rw [hg] at h1; cases h1
    | some v' => rw [hg] at h1; exact .inr (by rw [same_eq 40 v v' h1])
omit R in
theorem stays_eq {mask : Nat} {rs : Rds} {H : AHeap} (h : stays mask rs H = true) : ∀ q, q ∈ rs → bit mask q.1 = true ∨ q.2.1 q.2.2.1 H = some q.2.2.2 := by
  intro q hq
  have h1 := lall_eq h q hq
  cases hb : bit mask q.1 with
  | true => exact .inl rfl
  | false =>
    rw [hb, bc_false] at h1
    cases hg : q.2.1 q.2.2.1 H with
    | none => rw [hg] at h1; cases h1
    | some v' => rw [hg] at h1; exact .inr (by rw [same_eq 40 _ v' h1])

variable {D : Nat → Prop} {k : Nat} {φ : Map} {a : Act} {w : World} (I : Inv sz ops bf T K φ0 w0 D k φ a w)
include I
/-- A read gives the same value wherever it falls. -/
theorem Inv.readAt {i : Nat} {o : Oper} (ho : ops[i]? = some o) (hk : K i = .q) (hnD : ¬ D i) {g : RF} {v : AV} (hv : g (T i).tm (T i).H = some v) (hrd : reads (tget 4 bf i) (T i).ms g (T i).tm v = true) (hr : (i, g, (T i).tm, v) ∈ (T (i + 1)).rs) (hdep : ∀ j, bit (tget 4 bf i) j = true → D j) :
    ∃ e, k ≤ e ∧ e ≤ ops.size ∧ (∀ j, k ≤ j → j < e → K j ≠ .m) ∧ g (T i).tm (T e).H = some v := by
  have hi : i < ops.size := (Array.getElem?_eq_some_iff.mp ho).1
  rcases Nat.lt_or_ge i k with hik | hki
  · -- behind a mover that is done
    rcases I.last with h0 | ⟨m, rfl, hm, hKm, hDm⟩
    · omega
    · have hne : m ≠ i := fun e => by subst e; rw [hk] at hKm; cases hKm
      have hat := R.at' (R.op hm)
      rw [hKm] at hat
      cases hat with
      | move hf hb hc hg hq hp hrun hst hrs hms =>
        rcases stays_eq hst _ (R.rs_mem hi hr m (by omega) (by omega)) with h1 | h1
        · exact absurd ((I.clo m hDm).2 i h1) hnD
        · exact ⟨m + 1, Nat.le_refl _, by omega, fun j h2 h3 => by omega, h1⟩
  · by_cases hex : ∃ m, k ≤ m ∧ m < i ∧ K m = .m
    · -- the first mover that is not done
      have hfirst : ∀ d, ∀ m, m = k + d → m < i → K m = .m → ∃ m', k ≤ m' ∧ m' < i ∧ K m' = .m ∧ ∀ j, k ≤ j → j < m' → K j ≠ .m := by
        intro d
        induction d using Nat.strongRecOn with
        | _ d ihd =>
          intro m hm hmi hKm
          by_cases h : ∃ j, k ≤ j ∧ j < m ∧ K j = .m
          · obtain ⟨j, h1, h2, h3⟩ := h
            exact ihd (j - k) (by omega) j (by omega) (by omega) h3
          · exact ⟨m, by omega, hmi, hKm, fun j h1 h2 h3 => h ⟨j, h1, h2, h3⟩⟩
      obtain ⟨m, h1, h2, h3⟩ := hex
      obtain ⟨m', g1, g2, g3, g4⟩ := hfirst (m - k) m (by omega) h2 h3
      have hnDm : ¬ D m' := fun h => by have := (I.mov m' (by omega) g3).1 h; omega
      rcases reads_eq hrd _ (R.ms_mem (show m' < ops.size by omega) g3 i g2 (by omega)) with h5 | h5
      · exact absurd (hdep m' h5) hnDm
      · exact ⟨m', g1, by omega, g4, h5⟩
    · exact ⟨i, hki, by omega, fun j h1 h2 h3 => hex ⟨j, h1, h2, h3⟩, hv⟩
/-- One operation whose turn it is. -/
theorem Inv.next {b : Frame} (hro : RO φ0 ro b.roundOf) {i : Nat} {o : Oper} (ho : ops[i]? = some o) (hnD : ¬ D i) (hdep : ∀ j, bit (tget 4 bf i) j = true → D j) :
    ∃ k' φ' a' w', Inv sz ops bf T K φ0 w0 (fun j => D j ∨ j = i) k' φ' a' w' ∧ DoesOp P ops i b a a' w w' := by
  have hi : i < ops.size := (Array.getElem?_eq_some_iff.mp ho).1
  have hops := I.opsAt R ho hnD hdep
  have hat := R.at' ho
  generalize hk : K i = kk at hat
  have hnd : cls o.op E ≠ .m → ∀ c, o.op ≠ .defer c := fun hm c e => hm (by rw [e]; rfl)
  obtain ⟨φv, av, wv, sv, tv, dv⟩ := R.vir i (by omega)
  cases hat with
  | no hf hb hp hd hH hr hm =>
    have hw := I.wantAt R ho hnD hdep hf hb
    exact ⟨k, φ, _, w, I.quiet R ho hk hdep (undef_VR _) hp, does_not (by rw [ho]; simp [hw]) ho⟩
  | pure hf hb hc hg hv hp hd hH hr hm =>
    have hw := I.wantAt R ho hnD hdep hf hb
    obtain ⟨v', h1, h2⟩ := pOp_sound R.env hg hv hops
    exact ⟨k, φ, _, w, I.quiet R ho hk hdep h1 hp, does_value ho hw (by rw [semAt_np (hnd (by rw [hc]; nofun))]; exact h2 w)⟩
  | read hf hb hc hg hv hrd hp hd hH hr hm =>
    have hw := I.wantAt R ho hnD hdep hf hb
    obtain ⟨e, h1, h2, h3, h4⟩ := I.readAt R ho hk hnD hv hrd (by rw [hr]; exact List.mem_cons_self) hdep
    have hrel := I.relAt R h1 h2 h3 (ψ := φ) (Cut.sub _ _) (fun _ _ h => h)
    obtain ⟨v', h5, h6⟩ := rOp_sound R.env hrel hc hg h4 hops
    exact ⟨k, φ, _, w, I.quiet R ho hk hdep h5 hp, does_value ho hw (by rw [semAt_np (hnd (by rw [hc]; nofun))]; exact h6)⟩
  | new hf hb hc hg hq hn hh hp hd hr hm =>
    have hw := I.wantAt R ho hnD hdep hf hb
    have hcut := Ops.cut sv.dom.lt hops (tv.opsA sv.rel.gl o.op.operands.toList)
    obtain ⟨c, v', e, h1, h2, h3⟩ := aOp_sound R.env hg hq hcut w
    exact ⟨k, _, _, w.alloc c, I.alloc R ho hk hnD hdep hp (fun φ' hs hb' => h3 φ' _ hs hb'), does_value ho hw (by rw [semAt_np (hnd (by rw [hc]; nofun))]; exact h1)⟩
  | move hf hb hc hg hq hp hrun hst hr hm =>
    have hw := I.wantAt R ho hnD hdep hf hb
    obtain ⟨hki, hfree⟩ := I.mfree R ho hk hnD hdep
    have hrel := I.relAt R hki (by omega) hfree (ψ := Cut φ (T i).H.next) (fun _ _ h => h) (Cut.sub _ _)
    have hdom : Dom (Cut φ (T i).H.next) (T i).H := ⟨fun b l hb => (Cut.some hb).1, sv.dom.wf⟩
    have hcut := Ops.cut sv.dom.lt hops (tv.opsA sv.rel.gl o.op.operands.toList)
    obtain ⟨b1, _, _⟩ := R.between i hki (by omega) hfree
    have hdf : DR (Cut φ (T i).H.next) (T i).df a.defers := DR.cut sv.dom.lt (by rw [b1]; exact I.df) dv
    obtain ⟨φd, _, _, sd, _, _⟩ := R.vir 0 (Nat.zero_le _)
    have hsub0 : Sub φ0 (Cut φ (T i).H.next) := fun x l hx => by
      have h1 := sd.dom.lt x l (sd.ext.sub x l hx)
      have h2 := R.nx_mono (Nat.zero_le i) (by omega)
      rw [Cut.of (by omega)]; exact I.sub x l hx
    obtain ⟨v, df1, H1, h1, φ1, v', w1, ds, h2, h3, h4, h5⟩ := mover_sound R.env R.req ho hrel hdom hw hcut hdf (hro.mono hsub0) hg hq hrun
    obtain ⟨tm1, h6, h7⟩ := putS_eq hp (T i).tm v
    rw [h7] at h1
    have h8 := done_eq h1
    have e1 : tm1 = (T (i + 1)).tm := (congrArg FS.tm h8).symm
    have e2 : df1 = (T (i + 1)).df := (congrArg FS.df h8).symm
    have e3 : H1 = (T (i + 1)).H := (congrArg FS.H h8).symm
    subst e1 e2 e3
    exact ⟨i + 1, _, _, w1, I.move R ho hk hnD hdep h6 h2 h3 h4, h5⟩
end
end Go.Ev
end

section
namespace Go.Ev
open Go

section
variable {P : Program} {E : Env} {ih : CallF} {ro : Option Nat} {sz : Nat} {ops : Array Oper} {bf : Tr Nat 4} {T : Nat → DS} {K : Nat → OpKd} {φ0 : Map} {w0 : World}

/-- The operations that are listed. -/
def Dl (ops : Array Oper) (listed : Array Bool) (i : Nat) : Prop := i < ops.size ∧ listed.getD i true = true
/-- How many are not. -/
def cnt (ops : Array Oper) (listed : Array Bool) : Nat := ((List.range ops.size).filter fun i => !listed.getD i true).length
theorem getD_set (listed : Array Bool) (i j : Nat) (hi : i < listed.size) : (listed.setIfInBounds i true).getD j true = if j = i then true else listed.getD j true := by
  simp only [Array.getD_eq_getD_getElem?, Array.getElem?_setIfInBounds]
  by_cases h : i = j
  · subst h; simp [hi]
  · rw [if_neg h, if_neg (Ne.symm h)]
theorem cnt_set {listed : Array Bool} {i : Nat} (hi : i < ops.size) (hs : listed.size = ops.size) (hn : listed.getD i true = false) : cnt ops (listed.setIfInBounds i true) < cnt ops listed := by
  unfold cnt
  have e : ((List.range ops.size).filter fun j => !(listed.setIfInBounds i true).getD j true) = (((List.range ops.size).filter fun j => !listed.getD j true).filter fun j => !(listed.setIfInBounds i true).getD j true) := by
    rw [List.filter_filter]
    congr 1
    funext j
    rw [getD_set listed i j (by omega)]
    by_cases h : j = i
    · rw [if_pos h]; rfl
    · rw [if_neg h]; cases listed.getD j true <;> rfl
  rw [e]
  rw [List.length_filter_lt_length_iff_exists]
  refine ⟨i, ?_, ?_⟩
  · rw [List.mem_filter]
    exact ⟨List.mem_range.mpr hi, by rw [hn]; rfl⟩
  · rw [getD_set listed i i (by omega), if_pos rfl]
    simp
variable (R : Reg P E ih ro sz ops bf T K φ0 w0)
include R
/-- What the model takes to be ready. -/
theorem Reg.ready {listed : Array Bool} {k : Nat} {φ : Map} {a : Act} {w : World} (hs : listed.size = ops.size) (I : Inv sz ops bf T K φ0 w0 (Dl ops listed) k φ a w) {i : Nat}
    (h : i ∈ (List.range ops.size).filter fun i => !listed.getD i true && ((ops[i]?).map (·.after.all fun e => !Region.binds .any e || listed.getD e.on false)).getD false) :
    i < ops.size ∧ listed.getD i true = false ∧ ∀ j, bit (tget 4 bf i) j = true → Dl ops listed j := by
  rw [List.mem_filter, List.mem_range, Bool.and_eq_true] at h
  obtain ⟨hi, h1, h2⟩ := h
  refine ⟨hi, by simpa using h1, fun j hj => ?_⟩
  rw [R.op hi] at h2
  simp only [Option.map_some, Option.getD_some] at h2
  obtain ⟨_, _, h3⟩ := R.bfo i _ (by rw [Array.getElem?_toList]; exact R.op hi)
  obtain ⟨e, he, hb, h4⟩ := h3 j hj
  rw [Array.all_eq_true'] at h2
  have h5 := h2 e (Array.mem_toList_iff.mp he)
  rw [hb] at h5
  have h6 : listed.getD e.on false = true := by simpa using h5
  have h7 : e.on < listed.size := by
    rcases Nat.lt_or_ge e.on listed.size with h | h
    · exact h
    · simp [Array.getD_eq_getD_getElem?, h] at h6
  have h8 : Dl ops listed e.on := ⟨by omega, by
    simp only [Array.getD_eq_getD_getElem?, Array.getElem?_eq_getElem h7, Option.getD_some] at h6 ⊢
    exact h6⟩
  rcases h4 with rfl | h4
  · exact h8
  · exact (I.clo e.on h8).2 j h4
theorem Reg.none_ready {listed : Array Bool} (hs : listed.size = ops.size)
    (h : ((List.range ops.size).filter fun i => !listed.getD i true && ((ops[i]?).map (·.after.all fun e => !Region.binds .any e || listed.getD e.on false)).getD false) = []) : ∀ i, i < ops.size → listed.getD i true = true := by
  intro i
  induction i using Nat.strongRecOn with
  | _ i ihi =>
    intro hi
    cases hl : listed.getD i true with
    | true => rfl
    | false =>
      exfalso
      have : i ∈ ((List.range ops.size).filter fun i => !listed.getD i true && ((ops[i]?).map (·.after.all fun e => !Region.binds .any e || listed.getD e.on false)).getD false) := by
        rw [List.mem_filter, List.mem_range, Bool.and_eq_true]
        refine ⟨hi, by rw [hl]; rfl, ?_⟩
        rw [R.op hi]
        simp only [Option.map_some, Option.getD_some]
        rw [Array.all_eq_true']
        intro e he
        cases hb : Region.binds .any e with
        | false => rfl
        | true =>
          obtain ⟨_, h1, _⟩ := R.bfo i _ (by rw [Array.getElem?_toList]; exact R.op hi)
          have hlt := h1 e (Array.mem_toList_iff.mpr he) hb
          have h2 := ihi e.on hlt (by omega)
          have h3 : e.on < listed.size := by omega
          simp only [Array.getD_eq_getD_getElem?, Array.getElem?_eq_getElem h3, Option.getD_some] at h2 ⊢
          simpa using h2
      rw [h] at this
      cases this
/-- Every order that the model lists is gone through. -/
theorem Reg.order {b : Frame} (hro : RO φ0 ro b.roundOf) : ∀ (fuel t : Nat) (listed : Array Bool) (acc : List Nat), listed.size = ops.size → cnt ops listed ≤ fuel → ∀ k φ a w, Inv sz ops bf T K φ0 w0 (Dl ops listed) k φ a w →
    ∃ L k' φ' a' w', Region.linearise.go .any ops fuel t listed acc = acc.reverse ++ L ∧ Inv sz ops bf T K φ0 w0 (fun i => i < ops.size) k' φ' a' w' ∧ ∀ kk cs, Steps P (lone (b.atR a (.inRegion ops L :: kk)) cs w) (lone (b.atR a' (.inRegion ops [] :: kk)) cs w') := by
  intro fuel
  induction fuel with
  | zero =>
    intro t listed acc hs hc k φ a w I
    refine ⟨[], k, φ, a, w, by simp [Region.linearise.go], ?_, fun kk cs => Steps.refl P _⟩
    have hall : Dl ops listed = fun i => i < ops.size := by
      funext i
      apply propext
      refine ⟨fun h => h.1, fun h => ⟨h, ?_⟩⟩
      cases hl : listed.getD i true with
      | true => rfl
      | false =>
        have hm : i ∈ (List.range ops.size).filter fun i => !listed.getD i true := by
          rw [List.mem_filter, List.mem_range]; exact ⟨h, by rw [hl]; rfl⟩
        have hz : ((List.range ops.size).filter fun i => !listed.getD i true) = [] := List.eq_nil_of_length_eq_zero (by unfold cnt at hc; omega)
        rw [hz] at hm; cases hm
    rw [← hall]; exact I
  | succ fuel ihf =>
    intro t listed acc hs hc k φ a w I
    generalize hrs : ((List.range ops.size).filter fun i => !listed.getD i true && ((ops[i]?).map (·.after.all fun e => !Region.binds .any e || listed.getD e.on false)).getD false) = rs
    have hgo : Region.linearise.go .any ops (fuel + 1) t listed acc = (match rs[t % rs.length]? with
        | some i => Region.linearise.go .any ops fuel (t / rs.length) (listed.setIfInBounds i true) (i :: acc)
        | none => acc.reverse) := by
      rw [Region.linearise.go, hrs]
      rfl
    cases hget : rs[t % rs.length]? with
    | none =>
      have hnil : rs = [] := by
        cases rs with
        | nil => rfl
        | cons x rs =>
          have : t % (x :: rs).length < (x :: rs).length := Nat.mod_lt _ (by simp)
          rw [List.getElem?_eq_getElem this] at hget; cases hget
      rw [hnil] at hrs
      have hall : Dl ops listed = fun i => i < ops.size := by
        funext i
        apply propext
        exact ⟨fun h => h.1, fun h => ⟨h, R.none_ready hs hrs i h⟩⟩
      refine ⟨[], k, φ, a, w, by rw [hgo, hget]; simp, by rw [← hall]; exact I, fun kk cs => Steps.refl P _⟩
    | some i =>
      have hmem : i ∈ rs := List.mem_of_getElem? hget
      rw [← hrs] at hmem
      obtain ⟨hi, hnl, hdep⟩ := R.ready hs I hmem
      obtain ⟨k1, φ1, a1, w1, I1, hdo⟩ := I.next R hro (R.op hi) (fun h => by rw [h.2] at hnl; cases hnl) hdep
      have hD : (fun j => Dl ops listed j ∨ j = i) = Dl ops (listed.setIfInBounds i true) := by
        funext j
        apply propext
        unfold Dl
        rw [getD_set listed i j (by omega)]
        by_cases h : j = i
        · subst h; rw [if_pos rfl]; exact ⟨fun _ => ⟨hi, rfl⟩, fun _ => .inr rfl⟩
        · rw [if_neg h]; exact ⟨fun h1 => h1.resolve_right h, fun h1 => .inl h1⟩
      rw [hD] at I1
      obtain ⟨L, k2, φ2, a2, w2, h1, h2, h3⟩ := ihf (t / rs.length) (listed.setIfInBounds i true) (i :: acc) (by simpa using hs) (by have := cnt_set hi hs hnl; omega) k1 φ1 a1 w1 I1
      refine ⟨i :: L, k2, φ2, a2, w2, by rw [hgo, hget]; simp only; rw [h1]; simp, h2, fun kk cs => (hdo L kk cs).trans (h3 kk cs)⟩
/-- Nothing is done yet. -/
theorem Reg.start {a : Act} (hr : Rel φ0 (T 0).H.at w0) (hD : Dom φ0 (T 0).H) (hT : TR φ0 (T 0).tm sz a.tmps) (hdf : DR φ0 (T 0).df a.defers) : Inv sz ops bf T K φ0 w0 (fun _ => False) 0 φ0 a w0 where
  kn := Nat.zero_le _
  mov := fun i _ _ => ⟨fun h => h.elim, fun h => by omega⟩
  last := .inl rfl
  clo := fun i h => h.elim
  rel := by
    have : Cut φ0 (T 0).H.next = φ0 := by
      funext b
      unfold Cut
      split
      · rfl
      · cases hx : φ0 b with
        | none => rfl
        | some l => have := hD.lt b l hx; omega
    rw [this]; exact hr
  hi := fun b l hb hlt => by have := hD.lt b l hb; omega
  early := fun j obj h => h.elim
  edist := fun j j' obj obj' l l' h => h.elim
  late := fun j obj h => by omega
  tsz := hT.1
  tmp1 := fun t _ i o h => h.elim
  tmp2 := fun t ht _ => hT.2 t ht
  df := hdf
  sub := fun _ _ h => h
  new := fun b l hb => .inl hb
  hsz := Nat.le_refl _
  conc := fun _ _ _ => rfl
  keep := fun _ _ _ _ _ => rfl
  os := rfl
  out := rfl
  tape := rfl
/-- Everything is done. -/
theorem Reg.finish {k : Nat} {φ : Map} {a : Act} {w : World} (I : Inv sz ops bf T K φ0 w0 (fun i => i < ops.size) k φ a w) :
    Step φ0 φ (T 0).H (T ops.size).H w0 w ∧ TR φ (T ops.size).tm sz a.tmps ∧ DR φ (T ops.size).df a.defers := by
  have hfree : ∀ j, k ≤ j → j < ops.size → K j ≠ .m := fun j h1 h2 h3 => by have := (I.mov j h2 h3).1 h2; omega
  obtain ⟨b1, _, _⟩ := R.between ops.size I.kn (Nat.le_refl _) hfree
  obtain ⟨φv, av, wv, sv, _, _⟩ := R.vir ops.size (Nat.le_refl _)
  have hrel := I.relAt R I.kn (Nat.le_refl _) hfree (ψ := φ) (Cut.sub _ _) (fun _ _ h => h)
  refine ⟨⟨hrel, ⟨I.sub, I.new, sv.ext.nx, I.hsz, sv.ext.abs, I.conc, sv.ext.lv, sv.ext.hk, I.keep, I.os, I.out, I.tape⟩, ⟨fun b l hb => ?_, sv.dom.wf⟩⟩, ⟨I.tsz, fun t ht => ?_⟩, by rw [b1]; exact I.df⟩
  · rcases Nat.lt_or_ge b (T k).H.next with h | h
    · exact Nat.lt_of_lt_of_le h (R.nx_mono I.kn (Nat.le_refl _))
    · obtain ⟨j, obj, h1, _, h3, rfl⟩ := I.hi b l hb h
      exact R.id_lt h3 h1 (Nat.le_refl _)
  · by_cases hex : ∃ (j : Nat) (p : Oper), ops[j]? = some p ∧ p.dst = some t
    · obtain ⟨j, p, hp, hpt⟩ := hex
      exact I.tmp1 t ht j p (Array.getElem?_eq_some_iff.mp hp).1 hp hpt
    · rw [R.tm_keep ht ops.size (Nat.zero_le _) (Nat.le_refl _) fun l o _ _ ho h => hex ⟨l, o, ho, h⟩]
      exact I.tmp2 t ht fun l o _ ho h => hex ⟨l, o, ho, h⟩
end

section
variable {P : Program} {E : Env}
theorem drawOK (hE : EnvOK P E) {ih : CallF} (hih : ReqOK P ih) : DrawOK P E ih := by
  intro sz ops c hc ro tm df H s b a φ w t h hr hD hT hdf hro
  have hc := orNo_eq hc h
  obtain ⟨bs, hbs, hc⟩ := ob_eq hc
  rcases bc_eq hc with ⟨hall, hc⟩ | ⟨_, hc⟩
  · cases hc
    obtain ⟨ds, hds, h⟩ := ob_eq h
    obtain ⟨T, K, t0, tn, hTr⟩ := trace_of hds rfl
    obtain ⟨i', rs', ms', tm', df', H'⟩ := ds
    have h1 := done_eq h
    subst h1
    have hv := virtual (b := b) hE hih hTr (by rw [t0]; exact hr) (by rw [t0]; exact hD) (by rw [t0]; exact hT) (by rw [t0]; exact hdf) hro
    have hallo := allOK_eq hall
    have R : Reg P E ih ro sz ops bs.2 T K φ w := {
      env := hE
      req := hih
      tr := hTr
      bfo := befs_eq hbs
      all := fun i o ho => by
        obtain ⟨h1, h2⟩ := hallo i o (by rw [Array.getElem?_toList]; exact ho)
        exact ⟨h1, fun j p hp hij => h2 j p (by rw [Array.getElem?_toList]; exact hp) hij⟩
      mono := fun j hj => (hv ops.size (Nat.le_refl _)).1 j hj
      vir := fun i hi => (hv i hi).2
      r0 := by rw [t0]; exact hr
      rs0 := by rw [t0]
      ms0 := by rw [t0] }
    have I0 := R.start (a := a) (by rw [t0]; exact hr) (by rw [t0]; exact hD) (by rw [t0]; exact hT) (by rw [t0]; exact hdf)
    have hD0 : (fun _ => False) = Dl ops (Array.replicate ops.size false) := by
      funext i
      apply propext
      refine ⟨fun h => h.elim, fun h => ?_⟩
      obtain ⟨h1, h2⟩ := h
      simp [Array.getD_eq_getD_getElem?, h1] at h2
    rw [hD0] at I0
    obtain ⟨L, k', φ', a', w', h1, h2, h3⟩ := R.order (b := b) hro ops.size t (Array.replicate ops.size false) [] (by simp) (by
      unfold cnt
      exact Nat.le_trans (List.length_filter_le _ _) (by simp)) 0 φ a w I0
    obtain ⟨s1, t1, d1⟩ := R.finish h2
    rw [t0] at s1
    rw [show ops.size = ops.toList.length by simp, tn] at s1 t1 d1
    refine ⟨φ', a', w', s1, t1, d1, fun kk cs => ?_⟩
    have hL : Region.schedule true ops t = L := by
      have : Region.schedule true ops t = Region.linearise.go .any ops ops.size t (Array.replicate ops.size false) [] := rfl
      rw [this, h1]; rfl
    rw [hL]
    exact (h3 kk cs).trans (.one stepR_region_end)
  · cases hc
/-- THE EVALUATOR IS SOUND: what it answers of a call is what the model's machine comes to, whatever the tape. -/
theorem eval_sound (hE : EnvOK P E) (rounds depth : Nat) : ReqOK P (callF E rounds depth) := callF_sound hE (fun _ hih => drawOK hE hih) rounds depth
#print axioms eval_sound
end
end Go.Ev
end

section
namespace Go.Ev
open Go

noncomputable section
/-- A block, told by its cells: those that were written. -/
def mkC (sz n : Nat) (z : List AV) (cs : List (Nat × AV)) : Option AObj :=
  ob (lfold (fun m p => cSet n m p.1 p.2 some) cs (noCells n)) fun m => some (.cells sz n z m)
/-- A heap of some blocks. -/
def heapOf (nx : Nat) (bs : List (Nat × Option AObj)) : Option AHeap :=
  lfold (fun H p => ob p.2 fun o => ob (hInit H p.1 o) some) bs ⟨nx, tful none 7⟩
/-- The same cells, from a place on. -/
def sameCs (n : Nat) (z : List AV) (m : CT) (n' : Nat) (z' : List AV) (m' : CT) (cnt : Nat) : Nat → Bool :=
  nrec (β := Nat → Bool) (fun _ => true) (fun _ ih i => orec false (fun b => bc b (fN (Nat.succ i) ih) false) (cGet n z m i fun v => cGet n' z' m' i fun v' => some (same 40 v v'))) cnt
def sameEs (a : List (AV × AV)) : List (AV × AV) → Bool :=
  lrec (β := List (AV × AV) → Bool) (fun b => lcase true (fun _ _ => false) b) (fun x _ ih b => lcase false (fun y t => bc (same 40 x.1 y.1) (bc (same 40 x.2 y.2) (ih t) false) false) b) a
/-- The same block: cells or a map. -/
def sameO (o o' : AObj) : Bool := match o, o' with
  | .cells sz n z m, .cells sz' n' z' m' => bc (Nat.beq sz sz') (bc (Nat.beq n n') (sameCs n z m n' z' m' n 0) false) false
  | .map es, .map es' => sameEs es es'
  | _, _ => false
/-- The heap holds these blocks. -/
def holds (H : AHeap) (bs : List (Nat × Option AObj)) : Bool :=
  lall (fun p => orec false (fun b => b) (hGet H p.1 fun o => ob p.2 fun o' => some (sameO o o'))) bs
structure Known where
  f : Nat
  args : List AV
  nx : Nat
  need : List (Nat × Option AObj)
  v : AV
  nx' : Nat
  out : List (Nat × Option AObj)
def lany {α : Type} (f : α → Bool) (l : List α) : Bool := lrec false (fun a _ ih => bc (f a) true ih) l
/-- The run that an entry is of comes to what the entry says. -/
def Known.check (k : Known) (ih : CallF) : Bool := orec false (fun H => orec false (fun r => bc (same 40 r.v k.v) (bc (Nat.beq r.H.next k.nx') (bc (holds r.H k.out) (lall (fun p => bc (lany (fun q => Nat.beq q.1 p.1) k.out) true (holds r.H [p])) k.need) false) false) false) (ih (.call k.f k.args H))) (heapOf k.nx k.need)
/-- Whether two blocks differ. -/
def differ (p q : Option AObj) : Bool := orec false (fun o => orec false (fun o' => bnot (sameO o o')) q) p
/-- What is left is new, or is needed and differs from what was needed. -/
def Known.form (k : Known) : Bool := bc (lall (fun p => Nat.blt p.1 k.nx) k.need) (lall (fun q => bc (Nat.blt q.1 k.nx') (bc (Nat.blt q.1 k.nx) (bc (lany (fun p => Nat.beq q.1 p.1) k.need) (lall (fun p => bc (Nat.beq q.1 p.1) (differ p.2 q.2) true) k.need) false) true) false) k.out) false
def Known.use (k : Known) (H : AHeap) : Option VH :=
  bc (Nat.beq H.next k.nx) (bc (holds H k.need) (ob (lfold (fun H p => ob p.2 fun o => hSet H p.1 o some) k.out H) fun H' => some ⟨k.v, ⟨k.nx', H'.m⟩⟩) none) none
/-- The evaluator's calls, some of them known. -/
def withK (ks : List Known) (ih : CallF) : CallF := fun r => Req.rec (motive := fun _ => CallF → Option VH)
  (fun f args H ih => lrec (ih (.call f args H)) (fun k _ d => bc (Nat.beq k.f f) (bc (lall2 (same 40) k.args args) (k.use H) d) d) ks)
  (fun l args H ih => ih (.yield l args H)) r ih
def callK (E : Env) (rounds : Nat) (ks : List Known) (depth : Nat) : CallF :=
  nrec (β := CallF) (fun _ => none) (fun _ ih => withK ks fun r => Req.rec (motive := fun _ => CallF → Option VH) (fun f args H ih => doCall E rounds ih f args H) (fun l args H ih => doYield E rounds ih l args H) r ih) depth
end

/-! ### What they are -/
/-- The same as far as the model can tell. -/
theorem sameEs_eq : ∀ {a b : List (AV × AV)}, sameEs a b = true → a = b := by
  intro a
  induction a with
  | nil => intro b h; cases b with
    | nil => rfl
    | cons _ _ => cases h
  | cons x a ih => intro b h; cases b with
    | nil => cases h
    | cons y b =>
      obtain ⟨h1, h2⟩ := bc_and (show bc (same 40 x.1 y.1) (bc (same 40 x.2 y.2) (sameEs a b) false) false = true from h)
      obtain ⟨h3, h4⟩ := bc_and h2
      obtain ⟨x1, x2⟩ := x
      obtain ⟨y1, y2⟩ := y
      rw [show x1 = y1 from same_eq 40 _ _ h1, show x2 = y2 from same_eq 40 _ _ h3, ih h4]
theorem sameCs_eq {n : Nat} {z : List AV} {m : CT} {n' : Nat} {z' : List AV} {m' : CT} : ∀ (cnt i : Nat), sameCs n z m n' z' m' cnt i = true → ∀ j, i ≤ j → j < i + cnt → ∃ v, cellAt n z m j = some v ∧ cellAt n' z' m' j = some v := by
  intro cnt
  induction cnt with
  | zero => intro i _ j h1 h2; omega
  | succ cnt ih =>
    intro i h j h1 h2
    have h' : orec false (fun b => bc b (fN (Nat.succ i) (sameCs n z m n' z' m' cnt)) false) (cGet n z m i fun v => cGet n' z' m' i fun v' => some (same 40 v v')) = true := h
    cases hg : (cGet n z m i fun v => cGet n' z' m' i fun v' => some (same 40 v v')) with
    | none => rw [hg] at h'; cases h'
    | some b =>
      rw [hg] at h'
      obtain ⟨hb, h3⟩ := bc_and (show bc b (fN (Nat.succ i) (sameCs n z m n' z' m' cnt)) false = true from h')
      rw [fN_eq] at h3
      by_cases e : j = i
      · subst e
        obtain ⟨v, h4, h5⟩ := cGet_eq hg
        obtain ⟨v', h6, h7⟩ := cGet_eq h5
        cases h7
        have := same_eq 40 _ _ hb
        subst this
        exact ⟨v, h4, h6⟩
      · exact ih (i + 1) h3 j (by omega) (by omega)
/-- The two blocks stand for the same. -/
def SameO (o o' : AObj) : Prop := (∀ φ l w, OR φ o l w → OR φ o' l w) ∧ (∀ φ l w, OR φ o' l w → OR φ o l w) ∧ o ≠ .dead ∧ o' ≠ .dead
theorem sameO_eq {o o' : AObj} (h : sameO o o' = true) : SameO o o' := by
  unfold sameO at h
  split at h
  · rename_i sz n z m sz' n' z' m'
    obtain ⟨_, h2⟩ := bc_and h
    obtain ⟨h3, h4⟩ := bc_and h2
    have hn : n = n' := by rw [nbeq] at h3; exact of_decide_eq_true h3
    subst hn
    have hc := sameCs_eq n 0 h4
    refine ⟨fun φ l w h => ?_, fun φ l w h => ?_, nofun, nofun⟩
    · obtain ⟨arr, el, fr, g1, g2, g3, g4, g5⟩ := h
      refine ⟨arr, el, fr, g1, g2, g3, g4, fun i hi => ?_⟩
      obtain ⟨v, v', a, b, c, d⟩ := g5 i hi
      obtain ⟨u, hu1, hu2⟩ := hc i (Nat.zero_le _) (by omega)
      rw [a] at hu1; cases hu1
      exact ⟨v, v', hu2, b, c, d⟩
    · obtain ⟨arr, el, fr, g1, g2, g3, g4, g5⟩ := h
      refine ⟨arr, el, fr, g1, g2, g3, g4, fun i hi => ?_⟩
      obtain ⟨v, v', a, b, c, d⟩ := g5 i hi
      obtain ⟨u, hu1, hu2⟩ := hc i (Nat.zero_le _) (by omega)
      rw [a] at hu2; cases hu2
      exact ⟨v, v', hu1, b, c, d⟩
  · rename_i es es'
    have := sameEs_eq h
    subst this
    exact ⟨fun _ _ _ h => h, fun _ _ _ h => h, nofun, nofun⟩
  · cases h
theorem holds_eq {H : AHeap} {bs : List (Nat × Option AObj)} (h : holds H bs = true) : ∀ p, p ∈ bs → ∃ o o', H.at p.1 = some o ∧ p.2 = some o' ∧ SameO o o' := by
  intro p hp
  have h1 := lall_eq h p hp
  cases hg : (hGet H p.1 fun o => ob p.2 fun o' => some (sameO o o')) with
  | none => rw [hg] at h1; cases h1
  | some b =>
    rw [hg] at h1
    obtain ⟨o, ho, h2⟩ := hGet_eq hg
    obtain ⟨o', ho', h3⟩ := ob_eq h2
    cases h3
    exact ⟨o, o', ho, ho', sameO_eq h1⟩
theorem sets_eq {st : AHeap → Nat → AObj → Option AHeap} (hst : ∀ H b o H', st H b o = some H' → H'.next = H.next ∧ ∀ j, H'.at j = if j = b then some o else H.at j) : ∀ (bs : List (Nat × Option AObj)) (H H' : AHeap), lfold (fun H p => ob p.2 fun o => st H p.1 o) bs H = some H' → H'.next = H.next ∧ ∀ b, ((∃ p, p ∈ bs ∧ p.1 = b) → ∃ p, p ∈ bs ∧ p.1 = b ∧ H'.at b = p.2) ∧ ((∀ p, p ∈ bs → p.1 ≠ b) → H'.at b = H.at b) := by
  intro bs
  induction bs with
  | nil => intro H H' h; cases h; exact ⟨rfl, fun b => ⟨fun ⟨p, hp, _⟩ => (by cases hp), fun _ => rfl⟩⟩
  | cons p bs ih =>
    intro H H' h
    rw [lfold_cons] at h
    obtain ⟨H1, h1, h2⟩ := ob_eq h
    obtain ⟨o, ho, h3⟩ := ob_eq h1
    obtain ⟨g1, g2⟩ := hst _ _ _ _ h3
    obtain ⟨i1, i2⟩ := ih H1 H' h2
    refine ⟨by rw [i1, g1], fun b => ⟨fun ⟨q, hq, hqb⟩ => ?_, fun hno => ?_⟩⟩
    · by_cases hex : ∃ q, q ∈ bs ∧ q.1 = b
      · obtain ⟨q', h5, h6, h7⟩ := (i2 b).1 hex
        exact ⟨q', List.mem_cons_of_mem _ h5, h6, h7⟩
      · have hqp : p.1 = b := by
          rcases List.mem_cons.mp hq with rfl | hq
          · exact hqb
          · exact absurd ⟨q, hq, hqb⟩ hex
        refine ⟨p, List.mem_cons_self, hqp, ?_⟩
        rw [(i2 b).2 fun q hq e => hex ⟨q, hq, e⟩, g2, if_pos hqp.symm, ho]
    · rw [(i2 b).2 fun q hq => hno q (List.mem_cons_of_mem _ hq), g2, if_neg (Ne.symm (hno p List.mem_cons_self))]

theorem hInit_some (H : AHeap) (b : Nat) (o : AObj) (H' : AHeap) (h : ob (hInit H b o) some = some H') : H'.next = H.next ∧ ∀ j, H'.at j = if j = b then some o else H.at j := by
  obtain ⟨H1, h1, h2, h3⟩ := hInit_eq h
  cases h3
  exact ⟨h1, h2⟩
theorem sets_ge : ∀ (bs : List (Nat × Option AObj)) (H H' : AHeap), lfold (fun H p => ob p.2 fun o => hSet H p.1 o some) bs H = some H' → ∀ p, p ∈ bs → 64 ≤ p.1 := by
  intro bs
  induction bs with
  | nil => intro H H' _ p hp; cases hp
  | cons q bs ih =>
    intro H H' h p hp
    rw [lfold_cons] at h
    obtain ⟨H1, h1, h2⟩ := ob_eq h
    obtain ⟨o, ho, h3⟩ := ob_eq h1
    rcases List.mem_cons.mp hp with rfl | hp
    · exact hSet_ge h3
    · exact ih H1 H' h2 p hp
section
variable {P : Program}
/-- An entry that is the answer of a run. -/
def Known.OK (k : Known) (ih : CallF) : Prop := k.check ih = true ∧ k.form = true
theorem lany_eq {α : Type} {f : α → Bool} : ∀ {l : List α}, lany f l = true → ∃ x, x ∈ l ∧ f x = true := by
  intro l
  induction l with
  | nil => intro h; cases h
  | cons a l ih =>
    intro h
    have h' : bc (f a) true (lany f l) = true := h
    cases ha : f a with
    | true => exact ⟨a, List.mem_cons_self, ha⟩
    | false =>
      rw [ha, bc_false] at h'
      obtain ⟨x, hx, h1⟩ := ih h'
      exact ⟨x, List.mem_cons_of_mem _ hx, h1⟩
theorem orec_true {α : Type} {f : α → Bool} {x : Option α} (h : orec false f x = true) : ∃ a, x = some a ∧ f a = true := by
  cases x with
  | none => cases h
  | some a => exact ⟨a, rfl, h⟩
theorem heapOf_at {nx : Nat} {bs : List (Nat × Option AObj)} {H : AHeap} (h : heapOf nx bs = some H) : H.next = nx ∧ ∀ b o, H.at b = some o → ∃ p, p ∈ bs ∧ p.1 = b ∧ p.2 = some o := by
  obtain ⟨h1, h2⟩ := sets_eq hInit_some bs _ _ h
  refine ⟨h1, fun b o ho => ?_⟩
  by_cases hex : ∃ p, p ∈ bs ∧ p.1 = b
  · obtain ⟨p, h3, h4, h5⟩ := (h2 b).1 hex
    exact ⟨p, h3, h4, by rw [← h5]; exact ho⟩
  · rw [(h2 b).2 fun p hp e => hex ⟨p, hp, e⟩] at ho
    have : (⟨nx, tful none 7⟩ : AHeap).at b = none := by
      unfold AHeap.at
      cases Nat.blt b 16384 with
      | true => exact tget_tful none 7 b
      | false => rfl
    rw [this] at ho
    cases ho
theorem use_sound {k : Known} {ih : CallF} (hih : ReqOK P ih) (hk : k.OK ih) {H : AHeap} {r : VH} (h : k.use H = some r) (kind : CallKind) {φ : Map} {w : World} {args' : List Value} (hkd : kind = .normal ∨ kind = .deferred) (hr : Rel φ H.at w) (hD : Dom φ H) (ha : VRs φ k.args args') :
    ∃ φ' v' w', VR φ' r.v v' ∧ Step φ φ' H r.H w w' ∧ (∀ w, (callFunc k.f ⟨args'⟩).run P w = .ok (.enter k.f ⟨args'⟩) w) ∧ CallR P kind k.f ⟨args'⟩ w v' w' := by
  obtain ⟨hc, hf⟩ := hk
  obtain ⟨Hc, hHc, hc⟩ := orec_true hc
  obtain ⟨rr, hrr, hc⟩ := orec_true hc
  obtain ⟨hv, hc⟩ := bc_and hc
  obtain ⟨hnx, hc⟩ := bc_and hc
  obtain ⟨hout, hkeep⟩ := bc_and hc
  have hv := same_eq 40 _ _ hv
  have hnx : rr.H.next = k.nx' := by rw [nbeq] at hnx; exact of_decide_eq_true hnx
  obtain ⟨hf1, hf2⟩ := bc_and hf
  rcases bc_eq h with ⟨hn, h⟩ | ⟨_, h⟩
  · rcases bc_eq h with ⟨hneed, h⟩ | ⟨_, h⟩
    · obtain ⟨H1, hset, h⟩ := ob_eq h
      cases h
      have hn : H.next = k.nx := by rw [nbeq] at hn; exact of_decide_eq_true hn
      obtain ⟨c1, c2⟩ := heapOf_at hHc
      have hneed := holds_eq hneed
      have houtB := hout
      have hout := holds_eq hout
      obtain ⟨o1, o2⟩ := sets_eq (st := fun H b o => hSet H b o some) (fun H b o H' h => hSet_some h) k.out H H1 hset
      have o3 := sets_ge k.out H H1 hset
      have ff1 : ∀ p, p ∈ k.need → p.1 < k.nx := fun p hp => by
        have g1 := lall_eq hf1 p hp
        rw [nblt] at g1; exact of_decide_eq_true g1
      have ff2 : ∀ q, q ∈ k.out → q.1 < k.nx' ∧ (q.1 < k.nx → (∃ p, p ∈ k.need ∧ p.1 = q.1) ∧ ∀ p, p ∈ k.need → p.1 = q.1 → differ p.2 q.2 = true) := fun q hq => by
        obtain ⟨g1, g2⟩ := bc_and (lall_eq hf2 q hq)
        refine ⟨by rw [nblt] at g1; exact of_decide_eq_true g1, fun hlt => ?_⟩
        have hb : Nat.blt q.1 k.nx = true := by rw [nblt]; exact decide_eq_true hlt
        rw [hb, bc_true] at g2
        obtain ⟨g3, g4⟩ := bc_and g2
        refine ⟨?_, fun p hp e => ?_⟩
        · obtain ⟨p, hp, h5⟩ := lany_eq g3
          rw [nbeq] at h5
          exact ⟨p, hp, (of_decide_eq_true h5).symm⟩
        · have h6 := lall_eq g4 p hp
          have h7 : Nat.beq q.1 p.1 = true := by rw [nbeq]; exact decide_eq_true e.symm
          rw [h7, bc_true] at h6
          exact h6
      -- the small heap
      have small : ∀ b o, Hc.at b = some o → ∃ o', H.at b = some o' ∧ SameO o' o := fun b o ho => by
        obtain ⟨p, hp, rfl, hpo⟩ := c2 b o ho
        obtain ⟨o', o'', g1, g2, g3⟩ := hneed p hp
        rw [hpo] at g2; cases g2
        exact ⟨o', g1, g3⟩
      have slive : ∀ b, live Hc.at b → live H.at b := fun b ⟨o, ho, _⟩ => by
        obtain ⟨o', h1, _, _, h2, _⟩ := small b o ho
        exact ⟨o', h1, h2⟩
      have hrc : Rel φ Hc.at w := ⟨hr.gl, fun b l o hb ho => by
        obtain ⟨o', h1, h2, _⟩ := small b o ho
        exact h2 _ _ _ (hr.blk b l o' hb h1), fun b b' l l' hb hb' hl hl' e => hr.inj b b' l l' hb hb' (slive b hl) (slive b' hl') e⟩
      have hDc : Dom φ Hc := ⟨fun b l hb => by rw [c1, ← hn]; exact hD.lt b l hb, fun b hb => by
        cases hx : Hc.at b with
        | none => rfl
        | some o =>
          obtain ⟨p, hp, rfl, _⟩ := c2 b o hx
          have := ff1 p hp
          rw [c1] at hb; omega⟩
      obtain ⟨φ', v', w', g1, g2, g3, g4⟩ := hih.call k.f k.args Hc rr hrr kind φ w args' hkd hrc hDc ha
      refine ⟨φ', v', w', by rw [← hv]; exact g1, ?_, g3, g4⟩
      have at1 : ∀ b, (⟨k.nx', H1.m⟩ : AHeap).at b = H1.at b := fun _ => rfl
      -- a block that the run has seen
      let In : Nat → Prop := fun b => (∃ p, p ∈ k.out ∧ p.1 = b) ∨ ∃ p, p ∈ k.need ∧ p.1 = b
      have outs : ∀ b, In b → ∃ o o', H1.at b = some o' ∧ rr.H.at b = some o ∧ SameO o o' := fun b hb => by
        by_cases hex : ∃ p, p ∈ k.out ∧ p.1 = b
        · obtain ⟨p, hp, rfl, h2⟩ := (o2 b).1 hex
          obtain ⟨o, o', h3, h4, h5⟩ := hout p hp
          exact ⟨o, o', by rw [h2]; exact h4, h3, h5⟩
        · obtain ⟨p, hp, rfl⟩ := hb.resolve_left hex
          have h6 := lall_eq hkeep p hp
          have h7 : lany (fun q => Nat.beq q.1 p.1) k.out = false := by
            cases hx : lany (fun q => Nat.beq q.1 p.1) k.out with
            | false => rfl
            | true =>
              obtain ⟨q, hq, h8⟩ := lany_eq hx
              rw [nbeq] at h8
              exact absurd ⟨q, hq, of_decide_eq_true h8⟩ hex
          rw [h7, bc_false] at h6
          obtain ⟨o, o', h8, h9, h10⟩ := holds_eq h6 p (by simp)
          obtain ⟨oh, oh', h11, h12, h13⟩ := hneed p hp
          rw [h9] at h12; cases h12
          exact ⟨o, oh, by rw [(o2 _).2 fun q hq e => hex ⟨q, hq, e⟩]; exact h11, h8, fun φ l w h => h13.2.1 _ _ _ (h10.1 _ _ _ h), fun φ l w h => h10.2.1 _ _ _ (h13.1 _ _ _ h), h10.2.2.1, h13.2.2.1⟩
      -- a block that is not: it is as it was
      have rest : ∀ b l o, ¬ In b → φ' b = some l → H1.at b = some o → φ b = some l ∧ H.at b = some o ∧ b < H.next ∧ (o ≠ .dead → w'.heap[l.b]? = w.heap[l.b]? ∧ l.b < w.heap.size) := by
        intro b l o hno hb ho
        rw [(o2 b).2 fun p hp e => hno (.inl ⟨p, hp, e⟩)] at ho
        have hlt : b < H.next := by
          rcases Nat.lt_or_ge b H.next with h | h
          · exact h
          · rw [hD.wf b h] at ho; cases ho
        have hφ : φ b = some l := by
          rcases g2.ext.new b l hb with h | ⟨h, _⟩
          · exact h
          · rw [c1] at h; omega
        refine ⟨hφ, ho, hlt, fun hd => ?_⟩
        have hl := (hr.blk b l o hφ ho).lt hd
        refine ⟨g2.ext.conc l.b hl fun x lx hx hlx e => ?_, hl⟩
        have := hr.inj x b lx l hx hφ (slive x hlx) ⟨o, ho, hd⟩ e
        subst this
        obtain ⟨ox, hox, _⟩ := hlx
        obtain ⟨p, hp, hpb, _⟩ := c2 x ox hox
        exact hno (.inr ⟨p, hp, hpb⟩)
      have nxle : k.nx ≤ k.nx' := by have := g2.ext.nx; omega
      refine ⟨⟨fun g hg => ?_, fun b l o hb ho => ?_, fun b b' l l' hb hb' hl hl' e => ?_⟩, ⟨g2.ext.sub, fun b l hb => ?_, by show H.next ≤ k.nx'; omega, g2.ext.sz, fun b hb hφ => ?_, fun b hb hn' => ?_, fun b hb hl => ?_, fun g hg => ?_, fun g l hg hl hv => ?_, g2.ext.os, g2.ext.out, g2.ext.tape⟩, ⟨fun b l hb => ?_, fun b hb => ?_⟩⟩
      · exact g2.rel.gl g hg
      · rw [at1] at ho
        by_cases hex : In b
        · obtain ⟨o1', o2', h1, h2, h3, _⟩ := outs b hex
          rw [ho] at h1; cases h1
          exact h3 _ _ _ (g2.rel.blk b l o1' hb h2)
        · obtain ⟨h1, h2, _, h3⟩ := rest b l o hex hb ho
          by_cases hd : o = .dead
          · subst hd; trivial
          · exact (hr.blk b l o h1 h2).mono g2.ext.sub (h3 hd).1
      · -- two live blocks at one place
        have side : ∀ b l, φ' b = some l → live (⟨k.nx', H1.m⟩ : AHeap).at b → (live rr.H.at b ∧ In b) ∨ (φ b = some l ∧ live H.at b ∧ ¬ In b ∧ l.b < w.heap.size) := by
          intro b l hb ⟨o, ho, hd⟩
          by_cases hex : In b
          · left
            obtain ⟨o1', o2', h1, h2, _, _, h3, _⟩ := outs b hex
            exact ⟨⟨o1', h2, h3⟩, hex⟩
          · right
            obtain ⟨h1, h2, _, h3⟩ := rest b l o hex hb ho
            exact ⟨h1, ⟨o, h2, hd⟩, hex, (h3 hd).2⟩
        have cross : ∀ b b' l l', φ' b = some l → φ' b' = some l' → live rr.H.at b → φ b' = some l' → live H.at b' → ¬ In b' → l'.b < w.heap.size → l.b = l'.b → False := by
          intro b b' l l' hb _ hl hb' hl' hno hlt e
          have inneed : ∀ x, live Hc.at x → In x := fun x ⟨ox, hox, _⟩ => by
            obtain ⟨p, hp, hpb, _⟩ := c2 x ox hox
            exact .inr ⟨p, hp, hpb⟩
          rcases g2.ext.new b l hb with h1 | ⟨_, h1⟩
          · have hlc := g2.ext.lv b (by rw [c1, ← hn]; exact hD.lt b l h1) hl
            have := hr.inj b b' l l' h1 hb' (slive b hlc) hl' e
            subst this
            exact hno (inneed b hlc)
          · rcases h1 with h1 | ⟨b0, l0, h2, h3, h4⟩
            · omega
            · have := hr.inj b0 b' l0 l' h2 hb' (slive b0 h3) hl' (h4.trans e)
              subst this
              exact hno (inneed b0 h3)
        rcases side b l hb hl with ⟨s1, s2⟩ | ⟨s1, s2, s3, s4⟩
        · rcases side b' l' hb' hl' with ⟨t1, t2⟩ | ⟨t1, t2, t3, t4⟩
          · exact g2.rel.inj b b' l l' hb hb' s1 t1 e
          · exact (cross b b' l l' hb hb' s1 t1 t2 t3 t4 e).elim
        · rcases side b' l' hb' hl' with ⟨t1, t2⟩ | ⟨t1, t2, t3, t4⟩
          · exact (cross b' b l' l hb' hb t1 s1 s2 s3 s4 e.symm).elim
          · exact hr.inj b b' l l' s1 t1 s2 t2 e
      · rcases g2.ext.new b l hb with h1 | ⟨h1, h2⟩
        · exact .inl h1
        · refine .inr ⟨by rw [c1] at h1; omega, ?_⟩
          rcases h2 with h2 | ⟨b0, l0, h3, h4, h5⟩
          · exact .inl h2
          · exact .inr ⟨b0, l0, h3, slive b0 h4, h5⟩
      · -- a block that the map does not know is as it was
        rw [at1]
        by_cases hex : ∃ p, p ∈ k.out ∧ p.1 = b
        · exfalso
          obtain ⟨p, hp, rfl⟩ := hex
          obtain ⟨⟨pn, hpn, hpe⟩, hdiff⟩ := (ff2 p hp).2 (by omega)
          obtain ⟨s1, s2⟩ := sets_eq hInit_some k.need _ _ hHc
          obtain ⟨pp, hpp, hpp1, hpp2⟩ := (s2 p.1).1 ⟨pn, hpn, hpe⟩
          have habs := g2.ext.abs p.1 (by rw [c1]; omega) hφ
          rw [hpp2] at habs
          have hd := hdiff pp hpp hpp1
          have hs := lall_eq houtB p hp
          cases hg : (hGet rr.H p.1 fun o => ob p.2 fun o' => some (sameO o o')) with
          | none => rw [hg] at hs; cases hs
          | some bb =>
            rw [hg] at hs
            obtain ⟨o, ho, h2⟩ := hGet_eq hg
            obtain ⟨o', ho', h3⟩ := ob_eq h2
            have h3 : some (sameO o o') = some bb := h3
            cases h3
            rw [habs] at ho
            rw [ho, ho'] at hd
            have hd : bnot (sameO o o') = true := hd
            have hs : sameO o o' = true := hs
            rw [hs] at hd
            cases hd
        · exact (o2 b).2 fun p hp e => hex ⟨p, hp, e⟩
      · exact g2.ext.conc b hb fun x l hx hl => hn' x l hx (slive x hl)
      · obtain ⟨o, ho, hd⟩ := hl
        rw [at1] at ho
        by_cases hex : ∃ p, p ∈ k.out ∧ p.1 = b
        · obtain ⟨o1', o2', h1, h2, _, _, h3, _⟩ := outs b (.inl hex)
          exact slive b (g2.ext.lv b (by rw [c1, ← hn]; exact hb) ⟨o1', h2, h3⟩)
        · exact ⟨o, by rw [← (o2 b).2 fun p hp e => hex ⟨p, hp, e⟩]; exact ho, hd⟩
      · rw [at1]
        exact (o2 g).2 fun p hp e => by have := o3 p hp; omega
      · by_cases hlc : live Hc.at g
        · exact g2.ext.keep g l hg hl hlc
        · exact g2.ext.conc l.b (hr.lt hl hv) fun x lx hx hlx e => by
            have := hr.inj x g lx l hx hl (slive x hlx) hv e
            subst this
            exact hlc hlx
      · show b < k.nx'
        rw [← hnx]; exact g2.dom.lt b l hb
      · have hb : k.nx' ≤ b := hb
        rw [at1]
        by_cases hex : ∃ p, p ∈ k.out ∧ p.1 = b
        · obtain ⟨p, hp, rfl⟩ := hex
          have := (ff2 p hp).1; omega
        · rw [(o2 b).2 fun p hp e => hex ⟨p, hp, e⟩]
          exact hD.wf b (by omega)
    · cases h
  · cases h
theorem withK_sound {ih0 : CallF} (h0 : ReqOK P ih0) : ∀ (ks : List Known), (∀ k, k ∈ ks → ∃ ih, ReqOK P ih ∧ k.OK ih) → ReqOK P (withK ks ih0) := by
  intro ks hks
  refine ⟨fun f args H r h kind φ w args' hkd hr hD ha => ?_, fun l args H r h => h0.yield l args H r h⟩
  have h : lrec (ih0 (.call f args H)) (fun k _ d => bc (Nat.beq k.f f) (bc (lall2 (same 40) k.args args) (k.use H) d) d) ks = some r := h
  induction ks with
  | nil => exact h0.call f args H r h kind φ w args' hkd hr hD ha
  | cons k ks ihk =>
    have h' : bc (Nat.beq k.f f) (bc (lall2 (same 40) k.args args) (k.use H) (lrec (ih0 (.call f args H)) (fun k _ d => bc (Nat.beq k.f f) (bc (lall2 (same 40) k.args args) (k.use H) d) d) ks)) (lrec (ih0 (.call f args H)) (fun k _ d => bc (Nat.beq k.f f) (bc (lall2 (same 40) k.args args) (k.use H) d) d) ks) = some r := h
    have rest := ihk (fun k hk => hks k (List.mem_cons_of_mem _ hk))
    rcases bc_eq h' with ⟨h1, h2⟩ | ⟨_, h2⟩
    · rcases bc_eq h2 with ⟨h3, h4⟩ | ⟨_, h4⟩
      · have e1 : k.f = f := by rw [nbeq] at h1; exact of_decide_eq_true h1
        have e2 : k.args = args := lall2_eq (fun x y h => same_eq 40 x y h) h3
        subst e1 e2
        obtain ⟨ih, hih, hok⟩ := hks k List.mem_cons_self
        exact use_sound hih hok h4 kind hkd hr hD ha
      · exact rest h4 h4
    · exact rest h2 h2
theorem callK_sound {E : Env} (hE : EnvOK P E) (rounds : Nat) (ks : List Known) (hks : ∀ k, k ∈ ks → ∃ ih, ReqOK P ih ∧ k.OK ih) : ∀ depth, ReqOK P (callK E rounds ks depth) := by
  intro depth
  induction depth with
  | zero => exact ⟨fun f args H r h => (by cases h), fun l args H r h => (by cases h)⟩
  | succ d ih =>
    refine withK_sound ⟨fun f args H r h kind φ w args' hk hr hD ha => ?_, fun l args H r h φ w args' loc hr hD hl ha => ?_⟩ ks hks
    · exact doCall_sound hE ih (drawOK hE ih) (show doCall E rounds (callK E rounds ks d) f args H = some r from h) kind hr hD ha
    · exact doYield_sound hE ih (drawOK hE ih) (show doYield E rounds (callK E rounds ks d) l args H = some r from h) hr hD hl ha
#print axioms callK_sound
end
end Go.Ev
end
