/-
  A lean evaluator of the model's code over a heap of its own, base: a trie keyed by numbers, and the small combinators that the kernel reckons with. All recursion is by the recursors, so that the kernel's reduction is short.
  A lean evaluator of the model's code over a heap of its own: its values, blocks and frames. What takes them apart does so by the recursor, every alternative closed, so that the kernel copies nothing.
  A lean evaluator of the model's code over a heap of its own: its operations. What an operation's text says is reckoned once, ahead of the values: each gives a function of the temporaries and the heap.
  A lean evaluator of the model's code over a heap of its own: regions, code, calls, rounds. Code is reckoned once into functions.
-/
import Derived.AtR
set_option linter.unusedVariables false
set_option linter.unusedSimpArgs false
set_option linter.unusedSectionVars false

section
namespace Go.Ev

structure Q (α : Type) where
  a : α
  b : α
  c : α
  d : α
/-- A tree of a depth, four children at each node: its keys are the numbers below the power of four. -/
def Tr (α : Type) (n : Nat) : Type := Nat.rec (motive := fun _ => Type) α (fun _ t => Q t) n

noncomputable section

def lrec {α β : Type} (n : β) (c : α → List α → β → β) (l : List α) : β := List.rec (motive := fun _ => β) n c l
def nrec {β : Type} (z : β) (s : Nat → β → β) (n : Nat) : β := Nat.rec (motive := fun _ => β) z s n
def lcase {α β : Type} (n : β) (c : α → List α → β) (l : List α) : β := List.rec (motive := fun _ => β) n (fun a t _ => c a t) l
def ncase {β : Type} (z : β) (s : Nat → β) (n : Nat) : β := Nat.rec (motive := fun _ => β) z (fun p _ => s p) n
def orec {α β : Type} (n : β) (s : α → β) (o : Option α) : β := Option.rec (motive := fun _ => β) n s o
def irec {β : Type} (a b : Nat → β) (n : Int) : β := Int.rec (motive := fun _ => β) a b n
def bc {α : Type} (c : Bool) (a b : α) : α := Bool.rec b a c
def ob {α β : Type} (x : Option α) (f : α → Option β) : Option β := Option.rec (motive := fun _ => Option β) none f x

/-- Continue with a number that has been reckoned out. -/
def fN {α : Type} (n : Nat) (f : Nat → α) : α := nrec (f 0) (fun p _ => f (Nat.succ p)) n
/-- Continue with an integer that has been reckoned out. -/
def fI {α : Type} (n : Int) (f : Int → α) : α := irec (fun m => fN m fun m => f (.ofNat m)) (fun m => fN m fun m => f (.negSucc m)) n

/-- Go on with the child of a key's last digit. -/
def tgetS {α β : Type} (n : Nat) : Nat → Option (Tr α n → (α → β) → β) :=
  Nat.rec (motive := fun n => Nat → Option (Tr α n → (α → β) → β)) (fun _ => some fun x f => f x)
    (fun _ ih k => ob (fN (Nat.div k 4) ih) fun g => ncase
      (some fun q f => Q.rec (motive := fun _ => (α → β) → β) (fun a _ _ _ => g a) q f) (fun r => ncase
      (some fun q f => Q.rec (motive := fun _ => (α → β) → β) (fun _ b _ _ => g b) q f) (fun r => ncase
      (some fun q f => Q.rec (motive := fun _ => (α → β) → β) (fun _ _ c _ => g c) q f) (fun _ =>
      (some fun q f => Q.rec (motive := fun _ => (α → β) → β) (fun _ _ _ d => g d) q f)) r) r) (Nat.mod k 4)) n
/-- The same without a continuation. -/
def tatS {α : Type} (n : Nat) : Nat → Option (Tr α n → α) :=
  Nat.rec (motive := fun n => Nat → Option (Tr α n → α)) (fun _ => some fun x => x)
    (fun _ ih k => ob (fN (Nat.div k 4) ih) fun g => ncase
      (some fun q => Q.rec (motive := fun _ => α) (fun a _ _ _ => g a) q) (fun r => ncase
      (some fun q => Q.rec (motive := fun _ => α) (fun _ b _ _ => g b) q) (fun r => ncase
      (some fun q => Q.rec (motive := fun _ => α) (fun _ _ c _ => g c) q) (fun _ =>
      (some fun q => Q.rec (motive := fun _ => α) (fun _ _ _ d => g d) q)) r) r) (Nat.mod k 4)) n
def tsetS {α β : Type} (n : Nat) : Nat → Option (Tr α n → α → (Tr α n → β) → β) :=
  Nat.rec (motive := fun n => Nat → Option (Tr α n → α → (Tr α n → β) → β)) (fun _ => some fun _ v f => f v)
    (fun n ih k => ob (fN (Nat.div k 4) ih) fun g => ncase
      (some fun q v f => Q.rec (motive := fun _ => α → (Tr α (Nat.succ n) → β) → β) (fun a b c d v f => g a v fun a => f (Q.mk a b c d)) q v f) (fun r => ncase
      (some fun q v f => Q.rec (motive := fun _ => α → (Tr α (Nat.succ n) → β) → β) (fun a b c d v f => g b v fun b => f (Q.mk a b c d)) q v f) (fun r => ncase
      (some fun q v f => Q.rec (motive := fun _ => α → (Tr α (Nat.succ n) → β) → β) (fun a b c d v f => g c v fun c => f (Q.mk a b c d)) q v f) (fun _ =>
      (some fun q v f => Q.rec (motive := fun _ => α → (Tr α (Nat.succ n) → β) → β) (fun a b c d v f => g d v fun d => f (Q.mk a b c d)) q v f)) r) r) (Nat.mod k 4)) n
def tful {α : Type} (x : α) (n : Nat) : Tr α n :=
  Nat.rec (motive := fun n => Tr α n) x (fun _ t => Q.mk t t t t) n

/-- A step that is a word of its own, so that the kernel's reckoning does not nest. -/
def go {α β : Type} (f : α → β) (a : α) : β := f a
/-- A fold from the left, the state an option. -/
def lfold {α σ : Type} (f : σ → α → Option σ) (l : List α) : σ → Option σ :=
  lrec (β := σ → Option σ) (fun s => some s) (fun a _ ih s => ob (f s a) ih) l
def lrev {α : Type} (l : List α) : List α → List α :=
  lrec (β := List α → List α) (fun acc => acc) (fun a _ ih acc => go ih (a :: acc)) l
def lmap {α β : Type} (f : α → Option β) (l : List α) : Option (List β) :=
  ob (lfold (fun s a => ob (f a) fun b => some (b :: s)) l []) fun s => some (lrev s [])
def llen {α : Type} (l : List α) : Nat → Nat :=
  lrec (β := Nat → Nat) (fun n => n) (fun _ _ ih n => fN (Nat.succ n) ih) l
def lnth {α : Type} (l : List α) : Nat → Option α :=
  lrec (β := Nat → Option α) (fun _ => none) (fun a _ ih n => ncase (some a) (fun p => ih p) n) l
def ldrop {α : Type} (n : Nat) : List α → List α :=
  nrec (β := List α → List α) (fun l => l) (fun _ ih l => lcase [] (fun _ t => ih t) l) n
def lall {α : Type} (f : α → Bool) (l : List α) : Bool := lrec true (fun a _ ih => bc (f a) ih false) l
def lapp {α : Type} (a b : List α) : List α := lrec b (fun x _ ih => x :: ih) a
/-- The first n elements, if there are so many. -/
def ltk {α : Type} (n : Nat) : List α → List α :=
  nrec (β := List α → List α) (fun _ => []) (fun _ ih l => lcase [] (fun x t => x :: ih t) l) n
def ltake {α : Type} (n : Nat) (l : List α) : Option (List α) := bc (Nat.ble n (llen l 0)) (some (ltk n l)) none
/-- Rounds 0 .. n-1, counted from i. -/
def nfold {σ : Type} (f : Nat → σ → Option σ) (n : Nat) : Nat → σ → Option σ :=
  nrec (β := Nat → σ → Option σ) (fun _ s => some s) (fun _ ih i s => ob (f i s) fun s => fN (Nat.succ i) fun i => ih i s) n

end

@[simp] theorem bc_true {α : Type} (a b : α) : bc true a b = a := rfl
@[simp] theorem bc_false {α : Type} (a b : α) : bc false a b = b := rfl
@[simp] theorem ob_some {α β : Type} (a : α) (f : α → Option β) : ob (some a) f = f a := rfl
@[simp] theorem ob_none {α β : Type} (f : α → Option β) : ob none f = none := rfl
theorem ob_eq {α β : Type} {x : Option α} {f : α → Option β} {b : β} (h : ob x f = some b) : ∃ a, x = some a ∧ f a = some b := by
  cases x with
  | none => cases h
  | some a => exact ⟨a, rfl, h⟩
theorem bc_eq {α : Type} {c : Bool} {x y : Option α} {b : α} (h : bc c x y = some b) : (c = true ∧ x = some b) ∨ (c = false ∧ y = some b) := by
  cases c
  · exact .inr ⟨rfl, h⟩
  · exact .inl ⟨rfl, h⟩
@[simp] theorem fN_eq {α : Type} (n : Nat) (f : Nat → α) : fN n f = f n := by cases n <;> rfl
@[simp] theorem fI_eq {α : Type} (n : Int) (f : Int → α) : fI n f = f n := by cases n <;> simp [fI, irec]

/-! ### Trees -/
def tget {α : Type} : (n : Nat) → Tr α n → Nat → α
  | 0, x, _ => x
  | n + 1, q, k => tget n (match k % 4 with | 0 => Q.a q | 1 => Q.b q | 2 => Q.c q | _ => Q.d q) (k / 4)
def tset {α : Type} : (n : Nat) → Tr α n → Nat → α → Tr α n
  | 0, _, _, v => v
  | n + 1, q, k, v => match k % 4 with
    | 0 => Q.mk (tset n (Q.a q) (k / 4) v) (Q.b q) (Q.c q) (Q.d q)
    | 1 => Q.mk (Q.a q) (tset n (Q.b q) (k / 4) v) (Q.c q) (Q.d q)
    | 2 => Q.mk (Q.a q) (Q.b q) (tset n (Q.c q) (k / 4) v) (Q.d q)
    | _ => Q.mk (Q.a q) (Q.b q) (Q.c q) (tset n (Q.d q) (k / 4) v)

theorem tgetS_eq {α β : Type} : ∀ (n k : Nat), ∃ g, tgetS (α := α) (β := β) n k = some g ∧ ∀ t f, g t f = f (tget n t k) := by
  intro n
  induction n with
  | zero => intro k; exact ⟨_, rfl, fun _ _ => rfl⟩
  | succ n ih =>
    intro k
    obtain ⟨g, hg, h⟩ := ih (k / 4)
    have hlt : k % 4 < 4 := Nat.mod_lt _ (by omega)
    have e : tgetS (α := α) (β := β) (n + 1) k = ob (fN (k / 4) (tgetS (α := α) (β := β) n)) fun g => ncase
      (some fun q f => Q.rec (motive := fun _ => (α → β) → β) (fun a _ _ _ => g a) q f) (fun r => ncase
      (some fun q f => Q.rec (motive := fun _ => (α → β) → β) (fun _ b _ _ => g b) q f) (fun r => ncase
      (some fun q f => Q.rec (motive := fun _ => (α → β) → β) (fun _ _ c _ => g c) q f) (fun _ =>
      (some fun q f => Q.rec (motive := fun _ => (α → β) → β) (fun _ _ _ d => g d) q f)) r) r) (k % 4) := rfl
    rw [e, fN_eq, hg, ob_some]
    unfold tget
    generalize k % 4 = r at hlt
    match r, hlt with
    | 0, _ => exact ⟨_, rfl, fun t f => h (Q.a t) f⟩
    | 1, _ => exact ⟨_, rfl, fun t f => h (Q.b t) f⟩
    | 2, _ => exact ⟨_, rfl, fun t f => h (Q.c t) f⟩
    | 3, _ => exact ⟨_, rfl, fun t f => h (Q.d t) f⟩
theorem tatS_eq {α : Type} : ∀ (n k : Nat), ∃ g, tatS (α := α) n k = some g ∧ ∀ t, g t = tget n t k := by
  intro n
  induction n with
  | zero => intro k; exact ⟨_, rfl, fun _ => rfl⟩
  | succ n ih =>
    intro k
    obtain ⟨g, hg, h⟩ := ih (k / 4)
    have hlt : k % 4 < 4 := Nat.mod_lt _ (by omega)
    have e : tatS (α := α) (n + 1) k = ob (fN (k / 4) (tatS (α := α) n)) fun g => ncase
      (some fun q => Q.rec (motive := fun _ => α) (fun a _ _ _ => g a) q) (fun r => ncase
      (some fun q => Q.rec (motive := fun _ => α) (fun _ b _ _ => g b) q) (fun r => ncase
      (some fun q => Q.rec (motive := fun _ => α) (fun _ _ c _ => g c) q) (fun _ =>
      (some fun q => Q.rec (motive := fun _ => α) (fun _ _ _ d => g d) q)) r) r) (k % 4) := rfl
    rw [e, fN_eq, hg, ob_some]
    unfold tget
    generalize k % 4 = r at hlt
    match r, hlt with
    | 0, _ => exact ⟨_, rfl, fun t => h (Q.a t)⟩
    | 1, _ => exact ⟨_, rfl, fun t => h (Q.b t)⟩
    | 2, _ => exact ⟨_, rfl, fun t => h (Q.c t)⟩
    | 3, _ => exact ⟨_, rfl, fun t => h (Q.d t)⟩
theorem tsetS_eq {α β : Type} : ∀ (n k : Nat), ∃ g, tsetS (α := α) (β := β) n k = some g ∧ ∀ t v f, g t v f = f (tset n t k v) := by
  intro n
  induction n with
  | zero => intro k; exact ⟨_, rfl, fun _ _ _ => rfl⟩
  | succ n ih =>
    intro k
    obtain ⟨g, hg, h⟩ := ih (k / 4)
    have hlt : k % 4 < 4 := Nat.mod_lt _ (by omega)
    have e : tsetS (α := α) (β := β) (n + 1) k = ob (fN (k / 4) (tsetS (α := α) (β := β) n)) fun g => ncase
      (some fun q v f => Q.rec (motive := fun _ => α → (Tr α (Nat.succ n) → β) → β) (fun a b c d v f => g a v fun a => f (Q.mk a b c d)) q v f) (fun r => ncase
      (some fun q v f => Q.rec (motive := fun _ => α → (Tr α (Nat.succ n) → β) → β) (fun a b c d v f => g b v fun b => f (Q.mk a b c d)) q v f) (fun r => ncase
      (some fun q v f => Q.rec (motive := fun _ => α → (Tr α (Nat.succ n) → β) → β) (fun a b c d v f => g c v fun c => f (Q.mk a b c d)) q v f) (fun _ =>
      (some fun q v f => Q.rec (motive := fun _ => α → (Tr α (Nat.succ n) → β) → β) (fun a b c d v f => g d v fun d => f (Q.mk a b c d)) q v f)) r) r) (k % 4) := rfl
    rw [e, fN_eq, hg, ob_some]
    unfold tset
    generalize k % 4 = r at hlt
    match r, hlt with
    | 0, _ => exact ⟨_, rfl, fun t v f => h (Q.a t) v _⟩
    | 1, _ => exact ⟨_, rfl, fun t v f => h (Q.b t) v _⟩
    | 2, _ => exact ⟨_, rfl, fun t v f => h (Q.c t) v _⟩
    | 3, _ => exact ⟨_, rfl, fun t v f => h (Q.d t) v _⟩

theorem tget_tset {α : Type} (v : α) : ∀ (n : Nat) (t : Tr α n) (k j : Nat), k < 4 ^ n → j < 4 ^ n → tget n (tset n t k v) j = if j = k then v else tget n t j := by
  intro n
  induction n with
  | zero => intro t k j hk hj; have e : j = k := by rw [Nat.pow_zero] at hk hj; omega
            rw [if_pos e]; rfl
  | succ n ih =>
    intro t k j hk hj
    have hk' : k / 4 < 4 ^ n := by rw [Nat.pow_succ] at hk; omega
    have hj' : j / 4 < 4 ^ n := by rw [Nat.pow_succ] at hj; omega
    have hlk : k % 4 < 4 := Nat.mod_lt _ (by omega)
    have hlj : j % 4 < 4 := Nat.mod_lt _ (by omega)
    have hd : (j = k) ↔ (j % 4 = k % 4 ∧ j / 4 = k / 4) := by omega
    unfold tget tset
    generalize hrk : k % 4 = rk at hlk hd
    generalize hrj : j % 4 = rj at hlj hd
    match rk, hlk, rj, hlj with
    | 0, _, 0, _ =>
      have e : (j = k) ↔ (j / 4 = k / 4) := by rw [hd]; simp
      show tget n (tset n (Q.a t) (k / 4) v) (j / 4) = if j = k then v else tget n (Q.a t) (j / 4)
      rw [ih _ _ _ hk' hj']; simp only [e]
    | 1, _, 1, _ =>
      have e : (j = k) ↔ (j / 4 = k / 4) := by rw [hd]; simp
      show tget n (tset n (Q.b t) (k / 4) v) (j / 4) = if j = k then v else tget n (Q.b t) (j / 4)
      rw [ih _ _ _ hk' hj']; simp only [e]
    | 2, _, 2, _ =>
      have e : (j = k) ↔ (j / 4 = k / 4) := by rw [hd]; simp
      show tget n (tset n (Q.c t) (k / 4) v) (j / 4) = if j = k then v else tget n (Q.c t) (j / 4)
      rw [ih _ _ _ hk' hj']; simp only [e]
    | 3, _, 3, _ =>
      have e : (j = k) ↔ (j / 4 = k / 4) := by rw [hd]; simp
      show tget n (tset n (Q.d t) (k / 4) v) (j / 4) = if j = k then v else tget n (Q.d t) (j / 4)
      rw [ih _ _ _ hk' hj']; simp only [e]
    | 0, _, 1, _ =>
      have e : ¬ (j = k) := by rw [hd]; simp
      rw [if_neg e]; rfl
    | 0, _, 2, _ =>
      have e : ¬ (j = k) := by rw [hd]; simp
      rw [if_neg e]; rfl
    | 0, _, 3, _ =>
      have e : ¬ (j = k) := by rw [hd]; simp
      rw [if_neg e]; rfl
    | 1, _, 0, _ =>
      have e : ¬ (j = k) := by rw [hd]; simp
      rw [if_neg e]; rfl
    | 1, _, 2, _ =>
      have e : ¬ (j = k) := by rw [hd]; simp
      rw [if_neg e]; rfl
    | 1, _, 3, _ =>
      have e : ¬ (j = k) := by rw [hd]; simp
      rw [if_neg e]; rfl
    | 2, _, 0, _ =>
      have e : ¬ (j = k) := by rw [hd]; simp
      rw [if_neg e]; rfl
    | 2, _, 1, _ =>
      have e : ¬ (j = k) := by rw [hd]; simp
      rw [if_neg e]; rfl
    | 2, _, 3, _ =>
      have e : ¬ (j = k) := by rw [hd]; simp
      rw [if_neg e]; rfl
    | 3, _, 0, _ =>
      have e : ¬ (j = k) := by rw [hd]; simp
      rw [if_neg e]; rfl
    | 3, _, 1, _ =>
      have e : ¬ (j = k) := by rw [hd]; simp
      rw [if_neg e]; rfl
    | 3, _, 2, _ =>
      have e : ¬ (j = k) := by rw [hd]; simp
      rw [if_neg e]; rfl
theorem tget_tful {α : Type} (x : α) : ∀ (n j : Nat), tget n (tful x n) j = x := by
  intro n
  induction n with
  | zero => intro j; rfl
  | succ n ih =>
    intro j
    unfold tget
    have hlj : j % 4 < 4 := Nat.mod_lt _ (by omega)
    generalize j % 4 = r at hlj
    match r, hlj with
    | 0, _ => exact ih _
    | 1, _ => exact ih _
    | 2, _ => exact ih _
    | 3, _ => exact ih _

/-- Two lists, element by element. -/
inductive All2 {α β : Type} (R : α → β → Prop) : List α → List β → Prop where
  | nil : All2 R [] []
  | cons {a : α} {b : β} {l : List α} {r : List β} (h : R a b) (t : All2 R l r) : All2 R (a :: l) (b :: r)

/-! ### What the list functions are -/
theorem lfold_nil {α σ : Type} (f : σ → α → Option σ) (s : σ) : lfold f [] s = some s := rfl
theorem lfold_cons {α σ : Type} (f : σ → α → Option σ) (a : α) (l : List α) (s : σ) : lfold f (a :: l) s = ob (f s a) (lfold f l) := rfl
theorem lrev_eq {α : Type} (l : List α) : ∀ acc, lrev l acc = l.reverse ++ acc := by
  induction l with
  | nil => intro acc; rfl
  | cons a l ih => intro acc; show lrev l (a :: acc) = _; rw [ih]; simp
theorem llen_eq {α : Type} (l : List α) : ∀ n, llen l n = l.length + n := by
  induction l with
  | nil => intro n; show n = _; simp
  | cons a l ih => intro n; show fN (Nat.succ n) (llen l) = _; rw [fN_eq, ih]; simp; omega
theorem lnth_eq {α : Type} (l : List α) : ∀ n, lnth l n = l[n]? := by
  induction l with
  | nil => intro n; rfl
  | cons a l ih => intro n; cases n with
    | zero => rfl
    | succ n => show lnth l n = _; rw [ih]; simp
theorem ldrop_eq {α : Type} (n : Nat) : ∀ l : List α, ldrop n l = l.drop n := by
  induction n with
  | zero => intro l; rfl
  | succ n ih => intro l; cases l with
    | nil => rfl
    | cons a l => show ldrop n l = _; rw [ih]; simp
theorem lapp_eq {α : Type} (a b : List α) : lapp a b = a ++ b := by
  induction a with
  | nil => rfl
  | cons x a ih => show x :: lapp a b = _; rw [ih]; rfl
theorem ltk_eq {α : Type} (n : Nat) : ∀ l : List α, ltk n l = l.take n := by
  induction n with
  | zero => intro l; rfl
  | succ n ih => intro l; cases l with
    | nil => rfl
    | cons a l => show a :: ltk n l = _; rw [ih]; simp
theorem ltake_eq {α : Type} (n : Nat) (l r : List α) (h : ltake n l = some r) : r = l.take n ∧ r.length = n := by
  rcases bc_eq h with ⟨h1, h⟩ | ⟨_, h⟩
  · cases h
    have h2 : n ≤ l.length := by simpa [llen_eq, Nat.ble_eq] using h1
    rw [ltk_eq]
    exact ⟨rfl, by simp [h2]⟩
  · cases h
theorem lmap_spec {α β : Type} (f : α → Option β) (l : List α) (r : List β) (h : lmap f l = some r) : All2 (fun a b => f a = some b) l r := by
  unfold lmap at h
  obtain ⟨s, hs, hr⟩ := ob_eq h
  cases hr
  have key : ∀ (l : List α) (acc s : List β), lfold (fun s a => ob (f a) fun b => some (b :: s)) l acc = some s → ∃ q, s = q.reverse ++ acc ∧ All2 (fun a b => f a = some b) l q := by
    intro l
    induction l with
    | nil => intro acc s h; cases h; exact ⟨[], by simp, .nil⟩
    | cons a l ih =>
      intro acc s h
      rw [lfold_cons] at h
      obtain ⟨u, hu, h⟩ := ob_eq h
      obtain ⟨b, hb, hu⟩ := ob_eq hu
      cases hu
      obtain ⟨q, hq, hf⟩ := ih _ _ h
      exact ⟨b :: q, by rw [hq]; simp, .cons hb hf⟩
  obtain ⟨q, hq, hf⟩ := key l [] s hs
  rw [lrev_eq, hq]
  simpa using hf

end Go.Ev
end

section
namespace Go.Ev
open Go

/-- What is known of a slice's capacity: the number; or that the slice reaches to its block's end, of elements of so many cells. -/
inductive Cap where | k (c : Nat) | o (s : Nat)

inductive AV where
  | bool (b : Bool) | int (k : IntKind) (n : Int) | str (s : List Nat)
  | ptr (p : Option (Nat × Nat)) | slc (p : Option (Nat × Nat)) (len : Nat) (cap : Cap) | map (r : Option Nat)
  | fn (f : Fn) (first captured : List AV) | nilFunc | iface (t : Nat) (v : AV) | nilIface
  | agg (cs : List AV) | tup (vs : List AV)

def undefA : AV := .tup []

inductive AEx where | normal | exit (id : Nat) | ret
inductive ADef where | coll (r : Nat) | call (fn : Fn) (cap args : List AV)
/-- A frame's temporaries. -/
abbrev FT := Tr AV 4
/-- A block's cells, as far as they were written. -/
inductive CT where
  | s (m : Tr (Option AV) 2)
  | b (m : Tr (Option AV) 8)
inductive AObj where
  | cells (sz n : Nat) (z : List AV) (m : CT)
  | map (es : List (AV × AV))
  | loop (st : LoopState) (pd : Option AEx) (fn : Nat) (tm : FT) (tsz : Nat) (ps : List Nat) (as bd : Code) (df : Nat)
  | defd
  | dead
abbrev HT := Tr (Option AObj) 7
structure AHeap where
  next : Nat
  m : HT

structure TI where
  d : TypeDesc
  size : Nat
  agg : Bool
  zero : Option (List AV)
  eqg : Bool
  cmp : Bool
  held : Bool
  bytes : Nat
  ms : List Method
structure Env where
  tt : Nat → Option TI
  fns : Nat → Option Func

noncomputable section
/-! ### Taking apart -/
def onBool {γ : Type} (v : AV) : (Bool → Option γ) → Option γ := AV.rec (motive_1 := fun _ => (Bool → Option γ) → Option γ) (motive_2 := fun _ => Unit) (fun b f => f b) (fun _ _ => fun _ => none) (fun _ => fun _ => none) (fun _ => fun _ => none) (fun _ _ _ => fun _ => none) (fun _ => fun _ => none) (fun _ _ _ _ _ => fun _ => none) (fun _ => none) (fun _ _ _ => fun _ => none) (fun _ => none) (fun _ _ => fun _ => none) (fun _ _ => fun _ => none) () (fun _ _ _ _ => ()) v
def onInt {γ : Type} (v : AV) : (IntKind → Int → Option γ) → Option γ := AV.rec (motive_1 := fun _ => (IntKind → Int → Option γ) → Option γ) (motive_2 := fun _ => Unit) (fun _ => fun _ => none) (fun k n f => f k n) (fun _ => fun _ => none) (fun _ => fun _ => none) (fun _ _ _ => fun _ => none) (fun _ => fun _ => none) (fun _ _ _ _ _ => fun _ => none) (fun _ => none) (fun _ _ _ => fun _ => none) (fun _ => none) (fun _ _ => fun _ => none) (fun _ _ => fun _ => none) () (fun _ _ _ _ => ()) v
def onStr {γ : Type} (v : AV) : (List Nat → Option γ) → Option γ := AV.rec (motive_1 := fun _ => (List Nat → Option γ) → Option γ) (motive_2 := fun _ => Unit) (fun _ => fun _ => none) (fun _ _ => fun _ => none) (fun s f => f s) (fun _ => fun _ => none) (fun _ _ _ => fun _ => none) (fun _ => fun _ => none) (fun _ _ _ _ _ => fun _ => none) (fun _ => none) (fun _ _ _ => fun _ => none) (fun _ => none) (fun _ _ => fun _ => none) (fun _ _ => fun _ => none) () (fun _ _ _ _ => ()) v
def onPtr {γ : Type} (v : AV) : (Option (Nat × Nat) → Option γ) → Option γ := AV.rec (motive_1 := fun _ => (Option (Nat × Nat) → Option γ) → Option γ) (motive_2 := fun _ => Unit) (fun _ => fun _ => none) (fun _ _ => fun _ => none) (fun _ => fun _ => none) (fun p f => f p) (fun _ _ _ => fun _ => none) (fun _ => fun _ => none) (fun _ _ _ _ _ => fun _ => none) (fun _ => none) (fun _ _ _ => fun _ => none) (fun _ => none) (fun _ _ => fun _ => none) (fun _ _ => fun _ => none) () (fun _ _ _ _ => ()) v
def onSlc {γ : Type} (v : AV) : (Option (Nat × Nat) → Nat → Cap → Option γ) → Option γ := AV.rec (motive_1 := fun _ => (Option (Nat × Nat) → Nat → Cap → Option γ) → Option γ) (motive_2 := fun _ => Unit) (fun _ => fun _ => none) (fun _ _ => fun _ => none) (fun _ => fun _ => none) (fun _ => fun _ => none) (fun p l c f => f p l c) (fun _ => fun _ => none) (fun _ _ _ _ _ => fun _ => none) (fun _ => none) (fun _ _ _ => fun _ => none) (fun _ => none) (fun _ _ => fun _ => none) (fun _ _ => fun _ => none) () (fun _ _ _ _ => ()) v
def onMap {γ : Type} (v : AV) : (Option Nat → Option γ) → Option γ := AV.rec (motive_1 := fun _ => (Option Nat → Option γ) → Option γ) (motive_2 := fun _ => Unit) (fun _ => fun _ => none) (fun _ _ => fun _ => none) (fun _ => fun _ => none) (fun _ => fun _ => none) (fun _ _ _ => fun _ => none) (fun q f => f q) (fun _ _ _ _ _ => fun _ => none) (fun _ => none) (fun _ _ _ => fun _ => none) (fun _ => none) (fun _ _ => fun _ => none) (fun _ _ => fun _ => none) () (fun _ _ _ _ => ()) v
def onFn {γ : Type} (v : AV) : (Fn → List AV → List AV → Option γ) → Option γ := AV.rec (motive_1 := fun _ => (Fn → List AV → List AV → Option γ) → Option γ) (motive_2 := fun _ => Unit) (fun _ => fun _ => none) (fun _ _ => fun _ => none) (fun _ => fun _ => none) (fun _ => fun _ => none) (fun _ _ _ => fun _ => none) (fun _ => fun _ => none) (fun gf a c _ _ f => f gf a c) (fun _ => none) (fun _ _ _ => fun _ => none) (fun _ => none) (fun _ _ => fun _ => none) (fun _ _ => fun _ => none) () (fun _ _ _ _ => ()) v
def onIface {γ : Type} (v : AV) : (Nat → AV → Option γ) → Option γ := AV.rec (motive_1 := fun _ => (Nat → AV → Option γ) → Option γ) (motive_2 := fun _ => Unit) (fun _ => fun _ => none) (fun _ _ => fun _ => none) (fun _ => fun _ => none) (fun _ => fun _ => none) (fun _ _ _ => fun _ => none) (fun _ => fun _ => none) (fun _ _ _ _ _ => fun _ => none) (fun _ => none) (fun t v _ f => f t v) (fun _ => none) (fun _ _ => fun _ => none) (fun _ _ => fun _ => none) () (fun _ _ _ _ => ()) v
def onAgg {γ : Type} (v : AV) : (List AV → Option γ) → Option γ := AV.rec (motive_1 := fun _ => (List AV → Option γ) → Option γ) (motive_2 := fun _ => Unit) (fun _ => fun _ => none) (fun _ _ => fun _ => none) (fun _ => fun _ => none) (fun _ => fun _ => none) (fun _ _ _ => fun _ => none) (fun _ => fun _ => none) (fun _ _ _ _ _ => fun _ => none) (fun _ => none) (fun _ _ _ => fun _ => none) (fun _ => none) (fun cs _ f => f cs) (fun _ _ => fun _ => none) () (fun _ _ _ _ => ()) v
def onTup {γ : Type} (v : AV) : (List AV → Option γ) → Option γ := AV.rec (motive_1 := fun _ => (List AV → Option γ) → Option γ) (motive_2 := fun _ => Unit) (fun _ => fun _ => none) (fun _ _ => fun _ => none) (fun _ => fun _ => none) (fun _ => fun _ => none) (fun _ _ _ => fun _ => none) (fun _ => fun _ => none) (fun _ _ _ _ _ => fun _ => none) (fun _ => none) (fun _ _ _ => fun _ => none) (fun _ => none) (fun _ _ => fun _ => none) (fun vs _ f => f vs) () (fun _ _ _ _ => ()) v
/-- The cells of a value; it is given twice. -/
def cellsOf (v : AV) : AV → List AV := AV.rec (motive_1 := fun _ => AV → List AV) (motive_2 := fun _ => Unit) (fun _ => fun v => [v]) (fun _ _ => fun v => [v]) (fun _ => fun v => [v]) (fun _ => fun v => [v]) (fun _ _ _ => fun v => [v]) (fun _ => fun v => [v]) (fun _ _ _ _ _ => fun v => [v]) (fun v => [v]) (fun _ _ _ => fun v => [v]) (fun v => [v]) (fun cs _ _ => cs) (fun _ _ => fun v => [v]) () (fun _ _ _ _ => ()) v
def isCell (v : AV) : Bool := AV.rec (motive_1 := fun _ => Bool) (motive_2 := fun _ => Unit) (fun _ => true) (fun _ _ => true) (fun _ => true) (fun _ => true) (fun _ _ _ => true) (fun _ => true) (fun _ _ _ _ _ => true) (true) (fun _ _ _ => true) (true) (fun _ _ => false) (fun _ _ => false) () (fun _ _ _ _ => ()) v
/-- The block's contents. -/
def onCells {γ : Type} (o : AObj) : (Nat → Nat → List AV → CT → Option γ) → Option γ :=
  AObj.rec (motive := fun _ => (Nat → Nat → List AV → CT → Option γ) → Option γ) (fun sz n z m f => f sz n z m) (fun _ _ => none) (fun _ _ _ _ _ _ _ _ _ _ => none) (fun _ => none) (fun _ => none) o
def onEnts {γ : Type} (o : AObj) : (List (AV × AV) → Option γ) → Option γ :=
  AObj.rec (motive := fun _ => (List (AV × AV) → Option γ) → Option γ) (fun _ _ _ _ _ => none) (fun es f => f es) (fun _ _ _ _ _ _ _ _ _ _ => none) (fun _ => none) (fun _ => none) o
/-- A pair's parts. -/
def op2 {γ : Type} (p : Nat × Nat) : (Nat → Nat → Option γ) → Option γ := Prod.rec (motive := fun _ => (Nat → Nat → Option γ) → Option γ) (fun a b f => f a b) p

/-! ### The heap -/
def hgetS (b : Nat) : Option (HT → Option AObj) := bc (Nat.blt b 16384) (tatS 7 b) none
def hsetS (b : Nat) : Option (HT → Option AObj → (HT → Option AHeap) → Option AHeap) := bc (Nat.blt b 16384) (tsetS 7 b) none
def c2S (i : Nat) : Option (Tr (Option AV) 2 → Option AV) := bc (Nat.blt i 16) (tatS 2 i) none
def c8S (i : Nat) : Option (Tr (Option AV) 8 → Option AV) := bc (Nat.blt i 65536) (tatS 8 i) none
def c2W (i : Nat) : Option (Tr (Option AV) 2 → Option AV → (Tr (Option AV) 2 → Option CT) → Option CT) := bc (Nat.blt i 16) (tsetS 2 i) none
def c8W (i : Nat) : Option (Tr (Option AV) 8 → Option AV → (Tr (Option AV) 8 → Option CT) → Option CT) := bc (Nat.blt i 65536) (tsetS 8 i) none
def noCells (n : Nat) : CT := bc (Nat.ble n 16) (.s (tful none 2)) (.b (tful none 8))
def cRead (m : CT) (i : Nat) : Option AV := CT.rec (motive := fun _ => Nat → Option AV) (fun m i => ob (c2S i) fun g => g m) (fun m i => ob (c8S i) fun g => g m) m i
def cWrite (m : CT) (i : Nat) (v : AV) : Option CT := CT.rec (motive := fun _ => Nat → AV → Option CT) (fun m i v => ob (c2W i) fun g => g m (some v) fun m => some (.s m)) (fun m i v => ob (c8W i) fun g => g m (some v) fun m => some (.b m)) m i v
def hGet {γ : Type} (H : AHeap) (b : Nat) (f : AObj → Option γ) : Option γ :=
  ob (hgetS b) fun g => ob (AHeap.rec (motive := fun _ => (HT → Option AObj) → Option AObj) (fun _ m g => g m) H g) f
def hInit (H : AHeap) (b : Nat) (o : AObj) : Option AHeap :=
  ob (hsetS b) fun g => AHeap.rec (motive := fun _ => (HT → Option AObj → (HT → Option AHeap) → Option AHeap) → AObj → Option AHeap) (fun nx m g o => g m (some o) fun m => some ⟨nx, m⟩) H g o
/-- A block is changed; the program's variables are not. -/
def hPut (H : AHeap) (b : Nat) (o : AObj) : Option AHeap := bc (Nat.blt b 64) none (hInit H b o)
def hSet {γ : Type} (H : AHeap) (b : Nat) (o : AObj) (f : AHeap → Option γ) : Option γ := ob (hPut H b o) f
def hNew {γ : Type} (H : AHeap) (o : AObj) (f : Nat → AHeap → Option γ) : Option γ :=
  AHeap.rec (motive := fun _ => AObj → (Nat → AHeap → Option γ) → Option γ) (fun nx m o f => ob (hsetS nx) fun g => ob (g m (some o) fun m => fN (Nat.succ nx) fun nx' => some ⟨nx', m⟩) fun H => f nx H) H o f
/-- What a heap holds. -/
def AHeap.at (H : AHeap) (b : Nat) : Option AObj := bc (Nat.blt b 16384) (tget 7 H.m b) none
def zAt (z : List AV) (i : Nat) : Option AV := lcase none (fun v t => lcase (some v) (fun _ _ => lnth z (Nat.mod i (llen z 0))) t) z
def cGet {γ : Type} (n : Nat) (z : List AV) (m : CT) (i : Nat) (f : AV → Option γ) : Option γ := bc (Nat.blt i n) (orec (ob (zAt z i) f) f (cRead m i)) none
/-- Cell number i of a block. -/
def cellAt (n : Nat) (z : List AV) (m : CT) (i : Nat) : Option AV := bc (Nat.blt i n) (orec (zAt z i) (fun v => some v) (cRead m i)) none
def cSet {γ : Type} (n : Nat) (m : CT) (i : Nat) (v : AV) (f : CT → Option γ) : Option γ :=
  bc (Nat.blt i n) (bc (isCell v) (ob (cWrite m i v) f) none) none
end

/-! ### What they are -/
theorem onBool_eq {γ : Type} {v : AV} {f} {r : γ} (h : onBool v f = some r) : ∃ b, v = .bool b ∧ f b = some r := by
  cases v <;> first | exact ⟨_, rfl, h⟩ | cases h
theorem onInt_eq {γ : Type} {v : AV} {f} {r : γ} (h : onInt v f = some r) : ∃ k n, v = .int k n ∧ f k n = some r := by
  cases v <;> first | exact ⟨_, _, rfl, h⟩ | cases h
theorem onStr_eq {γ : Type} {v : AV} {f} {r : γ} (h : onStr v f = some r) : ∃ s, v = .str s ∧ f s = some r := by
  cases v <;> first | exact ⟨_, rfl, h⟩ | cases h
theorem onPtr_eq {γ : Type} {v : AV} {f} {r : γ} (h : onPtr v f = some r) : ∃ p, v = .ptr p ∧ f p = some r := by
  cases v <;> first | exact ⟨_, rfl, h⟩ | cases h
theorem onSlc_eq {γ : Type} {v : AV} {f} {r : γ} (h : onSlc v f = some r) : ∃ p l c, v = .slc p l c ∧ f p l c = some r := by
  cases v <;> first | exact ⟨_, _, _, rfl, h⟩ | cases h
theorem onMap_eq {γ : Type} {v : AV} {f} {r : γ} (h : onMap v f = some r) : ∃ q, v = .map q ∧ f q = some r := by
  cases v <;> first | exact ⟨_, rfl, h⟩ | cases h
theorem onFn_eq {γ : Type} {v : AV} {f} {r : γ} (h : onFn v f = some r) : ∃ gf a c, v = .fn gf a c ∧ f gf a c = some r := by
  cases v <;> first | exact ⟨_, _, _, rfl, h⟩ | cases h
theorem onIface_eq {γ : Type} {v : AV} {f} {r : γ} (h : onIface v f = some r) : ∃ t u, v = .iface t u ∧ f t u = some r := by
  cases v <;> first | exact ⟨_, _, rfl, h⟩ | cases h
theorem onAgg_eq {γ : Type} {v : AV} {f} {r : γ} (h : onAgg v f = some r) : ∃ cs, v = .agg cs ∧ f cs = some r := by
  cases v <;> first | exact ⟨_, rfl, h⟩ | cases h
theorem onTup_eq {γ : Type} {v : AV} {f} {r : γ} (h : onTup v f = some r) : ∃ vs, v = .tup vs ∧ f vs = some r := by
  cases v <;> first | exact ⟨_, rfl, h⟩ | cases h
theorem onCells_eq {γ : Type} {o : AObj} {f} {r : γ} (h : onCells o f = some r) : ∃ sz n z m, o = .cells sz n z m ∧ f sz n z m = some r := by
  cases o <;> first | exact ⟨_, _, _, _, rfl, h⟩ | cases h
theorem onEnts_eq {γ : Type} {o : AObj} {f} {r : γ} (h : onEnts o f = some r) : ∃ es, o = .map es ∧ f es = some r := by
  cases o <;> first | exact ⟨_, rfl, h⟩ | cases h
theorem op2_eq {γ : Type} {p : Nat × Nat} {f : Nat → Nat → Option γ} : op2 p f = f p.1 p.2 := rfl
theorem cellsOf_eq (v : AV) : (∃ cs, v = .agg cs ∧ cellsOf v v = cs) ∨ ((∀ cs, v ≠ .agg cs) ∧ cellsOf v v = [v]) := by
  cases v <;> first | exact .inl ⟨_, rfl, rfl⟩ | exact .inr ⟨fun _ => nofun, rfl⟩
theorem blt_pow {k n m : Nat} (h : Nat.blt k n = true) (e : n = 4 ^ m) : k < 4 ^ m := by
  have : k < n := by simpa [Nat.blt_eq] using h
  omega
theorem hGet_eq {γ : Type} {H : AHeap} {b : Nat} {f : AObj → Option γ} {r : γ} (h : hGet H b f = some r) : ∃ o, H.at b = some o ∧ f o = some r := by
  obtain ⟨g, hg, h⟩ := ob_eq h
  rcases bc_eq hg with ⟨hb, hg⟩ | ⟨_, hg⟩
  · obtain ⟨g', hg', e⟩ := tatS_eq (α := Option AObj) 7 b
    rw [hg'] at hg; cases hg
    obtain ⟨o, ho, h''⟩ := ob_eq (show ob (g H.m) f = some r from h)
    rw [e] at ho
    exact ⟨o, by rw [AHeap.at, hb]; exact ho, h''⟩
  · cases hg
theorem AHeap.at_set {H : AHeap} {b : Nat} {o : AObj} {nx : Nat} (hb : Nat.blt b 16384 = true) (j : Nat) : (AHeap.mk nx (tset 7 H.m b (some o))).at j = if j = b then some o else H.at j := by
  by_cases hj : Nat.blt j 16384 = true
  · rw [AHeap.at, AHeap.at, hj, bc_true, bc_true, tget_tset _ _ _ _ _ (blt_pow hb rfl) (blt_pow hj rfl)]
  · have : j ≠ b := fun e => hj (e ▸ hb)
    rw [if_neg this, AHeap.at, AHeap.at, show Nat.blt j 16384 = false from Bool.eq_false_iff.mpr hj, bc_false, bc_false]
theorem hInit_eq {γ : Type} {H : AHeap} {b : Nat} {o : AObj} {f : AHeap → Option γ} {r : γ} (h : ob (hInit H b o) f = some r) :
    ∃ H', H'.next = H.next ∧ (∀ j, H'.at j = if j = b then some o else H.at j) ∧ f H' = some r := by
  obtain ⟨H', hp, h⟩ := ob_eq h
  obtain ⟨g, hg, hp⟩ := ob_eq hp
  rcases bc_eq hg with ⟨hb, hg⟩ | ⟨_, hg⟩
  · obtain ⟨g', hg', e⟩ := tsetS_eq (α := Option AObj) (β := Option AHeap) 7 b
    rw [hg'] at hg; cases hg
    have h' : g H.m (some o) (fun m => some ⟨H.next, m⟩) = some H' := hp
    rw [e] at h'
    have h2 := Option.some.inj h'
    subst h2
    exact ⟨⟨H.next, tset 7 H.m b (some o)⟩, rfl, AHeap.at_set hb, h⟩
  · cases hg
theorem hSet_eq {γ : Type} {H : AHeap} {b : Nat} {o : AObj} {f : AHeap → Option γ} {r : γ} (h : hSet H b o f = some r) :
    ∃ H', H'.next = H.next ∧ (∀ j, H'.at j = if j = b then some o else H.at j) ∧ f H' = some r := by
  obtain ⟨H1, hp, h⟩ := ob_eq h
  rcases bc_eq hp with ⟨_, hp⟩ | ⟨_, hp⟩
  · cases hp
  exact hInit_eq (f := f) (show ob (hInit H b o) f = some r by rw [hp]; exact h)
theorem hSet_ge {γ : Type} {H : AHeap} {b : Nat} {o : AObj} {f : AHeap → Option γ} {r : γ} (h : hSet H b o f = some r) : 64 ≤ b := by
  obtain ⟨H1, hp, h⟩ := ob_eq h
  rcases bc_eq hp with ⟨_, hp⟩ | ⟨hb, hp⟩
  · cases hp
  have h1 : ¬ (b < 64) := fun e => by
    have : Nat.blt b 64 = true := by rw [Nat.blt_eq]; exact e
    rw [this] at hb; cases hb
  omega
theorem hNew_eq {γ : Type} {H : AHeap} {o : AObj} {f : Nat → AHeap → Option γ} {r : γ} (h : hNew H o f = some r) :
    ∃ H', H'.next = H.next + 1 ∧ (∀ j, H'.at j = if j = H.next then some o else H.at j) ∧ f H.next H' = some r := by
  have h' : ob (hsetS H.next) (fun g => ob (g H.m (some o) fun m => fN (Nat.succ H.next) fun nx' => some ⟨nx', m⟩) fun H' => f H.next H') = some r := h
  obtain ⟨g, hg, h⟩ := ob_eq h'
  obtain ⟨H', hp, h⟩ := ob_eq h
  rcases bc_eq hg with ⟨hb, hg⟩ | ⟨_, hg⟩
  · obtain ⟨g', hg', e⟩ := tsetS_eq (α := Option AObj) (β := Option AHeap) 7 H.next
    rw [hg'] at hg; cases hg
    rw [e, fN_eq] at hp
    have h2 := Option.some.inj hp
    subst h2
    exact ⟨⟨H.next + 1, tset 7 H.m H.next (some o)⟩, rfl, AHeap.at_set hb, h⟩
  · cases hg
theorem cGet_eq {γ : Type} {n : Nat} {z : List AV} {m : CT} {i : Nat} {f : AV → Option γ} {r : γ} (h : cGet n z m i f = some r) : ∃ v, cellAt n z m i = some v ∧ f v = some r := by
  rcases bc_eq h with ⟨hi, h⟩ | ⟨_, h⟩
  · rw [cellAt, hi, bc_true]
    cases hv : cRead m i with
    | none => rw [hv] at h; obtain ⟨v, h1, h2⟩ := ob_eq (show ob (zAt z i) f = some r from h); exact ⟨v, h1, h2⟩
    | some v => rw [hv] at h; exact ⟨v, rfl, h⟩
  · cases h
theorem cRead_s (m : Tr (Option AV) 2) (i : Nat) : cRead (.s m) i = bc (Nat.blt i 16) (tget 2 m i) none := by
  show ob (c2S i) (fun g => g m) = _
  cases hi : Nat.blt i 16 with
  | true => obtain ⟨g, hg, e⟩ := tatS_eq (α := Option AV) 2 i
            rw [c2S, hi, bc_true, hg, ob_some, e, bc_true]
  | false => rw [c2S, hi, bc_false, ob_none, bc_false]
theorem cRead_b (m : Tr (Option AV) 8) (i : Nat) : cRead (.b m) i = bc (Nat.blt i 65536) (tget 8 m i) none := by
  show ob (c8S i) (fun g => g m) = _
  cases hi : Nat.blt i 65536 with
  | true => obtain ⟨g, hg, e⟩ := tatS_eq (α := Option AV) 8 i
            rw [c8S, hi, bc_true, hg, ob_some, e, bc_true]
  | false => rw [c8S, hi, bc_false, ob_none, bc_false]
theorem cWrite_eq {m m' : CT} {i : Nat} {v : AV} (h : cWrite m i v = some m') (j : Nat) : cRead m' j = if j = i then some v else cRead m j := by
  cases m with
  | s m =>
    obtain ⟨g, hg, h⟩ := ob_eq (show ob (c2W i) (fun g => g m (some v) fun m => some (.s m)) = some m' from h)
    rcases bc_eq hg with ⟨hb, hg⟩ | ⟨_, hg⟩
    · obtain ⟨g', hg', e⟩ := tsetS_eq (α := Option AV) (β := Option CT) 2 i
      rw [hg'] at hg; cases hg
      rw [e] at h; cases h
      rw [cRead_s, cRead_s]
      by_cases hj : Nat.blt j 16 = true
      · rw [hj, bc_true, bc_true, tget_tset _ _ _ _ _ (blt_pow hb rfl) (blt_pow hj rfl)]
      · have : j ≠ i := fun e => hj (e ▸ hb)
        rw [if_neg this, show Nat.blt j 16 = false from Bool.eq_false_iff.mpr hj, bc_false, bc_false]
    · cases hg
  | b m =>
    obtain ⟨g, hg, h⟩ := ob_eq (show ob (c8W i) (fun g => g m (some v) fun m => some (.b m)) = some m' from h)
    rcases bc_eq hg with ⟨hb, hg⟩ | ⟨_, hg⟩
    · obtain ⟨g', hg', e⟩ := tsetS_eq (α := Option AV) (β := Option CT) 8 i
      rw [hg'] at hg; cases hg
      rw [e] at h; cases h
      rw [cRead_b, cRead_b]
      by_cases hj : Nat.blt j 65536 = true
      · rw [hj, bc_true, bc_true, tget_tset _ _ _ _ _ (blt_pow hb rfl) (blt_pow hj rfl)]
      · have : j ≠ i := fun e => hj (e ▸ hb)
        rw [if_neg this, show Nat.blt j 65536 = false from Bool.eq_false_iff.mpr hj, bc_false, bc_false]
    · cases hg
theorem cSet_eq {γ : Type} {n : Nat} {m : CT} {i : Nat} {v : AV} {f : CT → Option γ} {r : γ} (h : cSet n m i v f = some r) :
    i < n ∧ isCell v = true ∧ ∃ m', (∀ z j, cellAt n z m' j = if j = i then some v else cellAt n z m j) ∧ f m' = some r := by
  rcases bc_eq h with ⟨hi, h⟩ | ⟨_, h⟩
  · rcases bc_eq h with ⟨hv, h⟩ | ⟨_, h⟩
    · obtain ⟨m', hm, h⟩ := ob_eq h
      refine ⟨by simpa [Nat.blt_eq] using hi, hv, m', ?_, h⟩
      intro z j
      rw [cellAt, cellAt, cWrite_eq hm]
      by_cases hji : j = i
      · subst hji; rw [if_pos rfl, if_pos rfl, hi]; rfl
      · rw [if_neg hji, if_neg hji]
    · cases h
  · cases h
theorem cellAt_noCells (k n : Nat) (z : List AV) (i : Nat) : cellAt n z (noCells k) i = bc (Nat.blt i n) (zAt z i) none := by
  have : cRead (noCells k) i = none := by
    unfold noCells
    cases Nat.ble k 16 with
    | true => rw [bc_true, cRead_s, tget_tful]; cases Nat.blt i 16 <;> rfl
    | false => rw [bc_false, cRead_b, tget_tful]; cases Nat.blt i 65536 <;> rfl
  rw [cellAt, this]; rfl

end Go.Ev
end

section
namespace Go.Ev
open Go
noncomputable section

/-! ### Numbers -/
def md : IntKind → Nat
  | .i8 | .u8 => 256 | .i16 | .u16 => 65536 | .i32 | .u32 => 4294967296 | .i64 | .u64 => 18446744073709551616
def half : IntKind → Nat
  | .i8 => 128 | .u8 => 256 | .i16 => 32768 | .u16 => 65536 | .i32 => 2147483648 | .u32 => 4294967296 | .i64 => 9223372036854775808 | .u64 => 18446744073709551616
def kix (k : IntKind) : Nat := IntKind.rec (motive := fun _ => Nat) 0 1 2 3 4 5 6 7 k
def fin (k : IntKind) (r : Nat) : Int := bc (Nat.blt r (half k)) (.ofNat r) (.negSucc (Nat.sub (Nat.sub (md k) 1) r))
/-- The residue of an integer. -/
def toU (k : IntKind) (n : Int) : Nat := irec (fun m => Nat.mod m (md k)) (fun m => Nat.sub (Nat.sub (md k) 1) (Nat.mod m (md k))) n
def wrapF (k : IntKind) (n : Int) : Int := fin k (toU k n)
def ieq (a b : Int) : Bool := irec (fun m => irec (fun n => Nat.beq m n) (fun _ => false) b) (fun m => irec (fun _ => false) (fun n => Nat.beq m n) b) a
def ilt (a b : Int) : Bool := irec (fun m => irec (fun n => Nat.blt m n) (fun _ => false) b) (fun m => irec (fun _ => true) (fun n => Nat.blt n m) b) a
def ile (a b : Int) : Bool := bc (ilt b a) false true
def bnot (a : Bool) : Bool := bc a false true
/-- A number that is not negative. -/
def inat (a : Int) : Option Nat := irec (fun m => some m) (fun _ => none) a

def iadd (a b : Int) : Int := irec
  (fun m => irec (fun n => .ofNat (Nat.add m n)) (fun n => bc (Nat.blt n m) (.ofNat (Nat.sub (Nat.sub m n) 1)) (.negSucc (Nat.sub n m))) b)
  (fun m => irec (fun n => bc (Nat.blt m n) (.ofNat (Nat.sub (Nat.sub n m) 1)) (.negSucc (Nat.sub m n))) (fun n => .negSucc (Nat.succ (Nat.add m n))) b) a
def ineg (a : Int) : Int := irec (fun m => ncase (.ofNat 0) (fun p => .negSucc p) m) (fun m => .ofNat (Nat.succ m)) a
def imul (a b : Int) : Int := irec
  (fun m => irec (fun n => .ofNat (Nat.mul m n)) (fun n => ineg (.ofNat (Nat.mul m (Nat.succ n)))) b)
  (fun m => irec (fun n => ineg (.ofNat (Nat.mul (Nat.succ m) n))) (fun n => .ofNat (Nat.mul (Nat.succ m) (Nat.succ n))) b) a
def mkI (k : IntKind) (n : Int) : Option AV := fI n fun n => some (.int k n)
def mkB (b : Bool) : Option AV := bc b (some (.bool true)) (some (.bool false))
/-- The number of a kind that has a residue; the kind's modulus and half of it are given. -/
def finW (k : IntKind) (M hf r : Nat) : Option AV := bc (Nat.blt r hf) (some (.int k (.ofNat r))) (fN (Nat.sub (Nat.sub M 1) r) fun s => some (.int k (.negSucc s)))
def mkW (k : IntKind) (M hf : Nat) (n : Int) : Option AV := irec (fun m => fN (Nat.mod m M) fun r => finW k M hf r) (fun m => fN (Nat.sub (Nat.sub M 1) (Nat.mod m M)) fun r => finW k M hf r) n

abbrev IOp := Int → Int → Option AV
def intS (op : BinOp) (k : IntKind) : Option IOp := fN (md k) fun M => fN (half k) fun hf => match op with
  | .add => some fun a b => mkW k M hf (iadd a b)
  | .sub => some fun a b => mkW k M hf (iadd a (ineg b))
  | .mul => some fun a b => mkW k M hf (imul a b)
  | .quo => some fun a b => bc (ieq b 0) none (mkW k M hf (a.tdiv b))
  | .rem => some fun a b => bc (ieq b 0) none (mkI k (a.tmod b))
  | .and => some fun a b => fN (Nat.land (toU k a) (toU k b)) fun r => finW k M hf r
  | .or => some fun a b => fN (Nat.lor (toU k a) (toU k b)) fun r => finW k M hf r
  | .xor => some fun a b => fN (Nat.xor (toU k a) (toU k b)) fun r => finW k M hf r
  | .andNot => some fun a b => fN (Nat.land (toU k a) (Nat.sub (Nat.sub M 1) (toU k b))) fun r => finW k M hf r
  | .eql => some fun a b => mkB (ieq a b)
  | .neq => some fun a b => mkB (bnot (ieq a b))
  | .lss => some fun a b => mkB (ilt a b)
  | .leq => some fun a b => mkB (ile a b)
  | .gtr => some fun a b => mkB (ilt b a)
  | .geq => some fun a b => mkB (ile b a)
  | _ => none
def bitsN : IntKind → Nat
  | .i8 | .u8 => 8 | .i16 | .u16 => 16 | .i32 | .u32 => 32 | .i64 | .u64 => 64
def nmin (a b : Nat) : Nat := bc (Nat.ble a b) a b
def shiftS (left : Bool) (k : IntKind) : Option IOp := fN (bitsN k) fun w => fN (md k) fun M => fN (half k) fun hf => bc left
  (some fun a b => ob (inat b) fun y => fN (Nat.pow 2 (nmin y w)) fun p => mkW k M hf (imul a (.ofNat p)))
  (some fun a b => ob (inat b) fun y => fN (Nat.pow 2 (nmin y w)) fun p => mkI k (a.fdiv (.ofNat p)))

def sbeq (a : List Nat) : List Nat → Bool :=
  lrec (β := List Nat → Bool) (fun b => lcase true (fun _ _ => false) b) (fun x _ ih b => lcase false (fun y t => bc (Nat.beq x y) (ih t) false) b) a
def sless (a : List Nat) : List Nat → Bool :=
  lrec (β := List Nat → Bool) (fun b => lcase false (fun _ _ => true) b) (fun x _ ih b => lcase false (fun y t => bc (Nat.blt x y) true (bc (Nat.beq x y) (ih t) false)) b) a
abbrev SOp := List Nat → List Nat → Option AV
def strS (op : BinOp) : Option SOp := match op with
  | .add => some fun a b => bc (Nat.ble (llen a (llen b 0)) 1000000000) (some (.str (lapp a b))) none
  | .eql => some fun a b => mkB (sbeq a b)
  | .neq => some fun a b => mkB (bnot (sbeq a b))
  | .lss => some fun a b => mkB (sless a b)
  | .geq => some fun a b => mkB (bnot (sless a b))
  | .leq => some fun a b => mkB (bc (sless a b) true (sbeq a b))
  | .gtr => some fun a b => mkB (bnot (bc (sless a b) true (sbeq a b)))
  | _ => none

/-- Equality of two scalars. -/
def eqS (x y : AV) : Option Bool := match x with
  | .bool a => (match y with | .bool b => some (bc a b (bnot b)) | _ => none)
  | .int k a => (match y with | .int k' b => bc (Nat.beq (kix k) (kix k')) (some (ieq a b)) none | _ => none)
  | .str a => (match y with | .str b => some (sbeq a b) | _ => none)
  | _ => none
/-- Two lists of scalars that are the same. -/
def sameS (xs : List AV) : List AV → Bool :=
  lrec (β := List AV → Bool) (fun ys => lcase true (fun _ _ => false) ys)
    (fun x _ ih ys => lcase false (fun y t => orec false (fun b => bc b (ih t) false) (eqS x y)) ys) xs
def sameK (x y : AV) : Bool := match x with
  | .agg a => (match y with | .agg b => sameS a b | _ => false)
  | x => orec false (fun b => b) (eqS x y)
def oneOf (cs : List AV) : Option AV := lcase none (fun v t => lcase (some v) (fun _ _ => none) t) cs
def mkV (agg : Bool) (cs : List AV) : Option AV := bc agg (some (.agg cs)) (oneOf cs)
def sub (cs : List AV) (off n : Nat) : Option (List AV) := ltake n (ldrop off cs)
def onK {γ : Type} (kk : Nat) (v : AV) (f : Int → Option γ) : Option γ := onInt v fun k n => bc (Nat.beq kk (kix k)) (f n) none
abbrev QF := AV → AV → Option Bool
def eqFs (E : Env) (ih : Nat → Option QF) (fs : List Field) : Option (List AV → List AV → Option Bool) :=
  lrec (some fun _ _ => some true) (fun f _ r => ob r fun g => bc (decide (f.name = "_")) (some g) (ob (E.tt f.type) fun i => ob (ih f.type) fun q => fN f.offset fun off => fN i.size fun n =>
    some fun xs ys => ob (sub xs off n) fun a => ob (mkV i.agg a) fun a => ob (sub ys off n) fun b => ob (mkV i.agg b) fun b => ob (q a b) fun r => bc r (g xs ys) (some false))) fs
/-- Equality of elements, from a place on. -/
def eqEls (q : QF) (agg : Bool) (es : Nat) (a b : List AV) (n : Nat) : Nat → Option Bool :=
  nrec (β := Nat → Option Bool) (fun _ => some true) (fun _ ih i => fN (Nat.mul i es) fun off => ob (sub a off es) fun u => ob (mkV agg u) fun u => ob (sub b off es) fun v => ob (mkV agg v) fun v => ob (q u v) fun r => bc r (fN (Nat.succ i) ih) (some false)) n
def eqTD (E : Env) (ih : Nat → Option QF) (held : Bool) (d : TypeDesc) : Option QF := match d with
  | .bool => some fun x y => onBool x fun a => onBool y fun b => some (bc a b (bnot b))
  | .int k => fN (kix k) fun kk => some fun x y => onK kk x fun a => onK kk y fun b => some (ieq a b)
  | .string => some fun x y => onStr x fun a => onStr y fun b => some (sbeq a b)
  | .struct fs => bc held none (ob (eqFs E ih fs.toList) fun g => some fun x y => onAgg x fun a => onAgg y fun b => g a b)
  | .array n e => ob (E.tt e) fun ei => ob (ih e) fun q => fN ei.size fun es => some fun x y => onAgg x fun a => onAgg y fun b => eqEls q ei.agg es a b n 0
  | _ => none
/-- Equality of two values of a type: scalars, and structs of such. -/
def eqT (E : Env) (n : Nat) : Nat → Option QF :=
  nrec (β := Nat → Option QF) (fun _ => none) (fun _ ih t => ob (E.tt t) fun i => eqTD E ih i.held i.d) n
def isNo {α : Type} (o : Option α) : Bool := orec true (fun _ => false) o
/-- Equality of two of which one is nil. -/
def nilEq {α β : Type} (p : Option α) (q : Option β) : Option Bool := orec (some (isNo q)) (fun _ => orec (some false) (fun _ => none) q) p
/-- Equality of two values of one type. 'cst': one of the two is a constant; 'plain': the type holds no interface with methods. -/
def eqD (d : TypeDesc) (E : Env) (cst plain : Bool) (t : Nat) : Option QF := match d with
  | .bool => eqT E 20 t
  | .struct _ => bc plain (eqT E 20 t) none
  | .array _ _ => bc plain (eqT E 20 t) none
  | .pointer _ => some fun x y => onPtr x fun p => onPtr y fun q => nilEq p q
  | .slice _ => some fun x y => onSlc x fun p _ _ => onSlc y fun q _ _ => nilEq p q
  | .map _ _ => some fun x y => onMap x fun p => onMap y fun q => nilEq p q
  | .func _ _ _ => some fun x y => match x, y with
    | .nilFunc, .nilFunc => some true
    | .nilFunc, .fn _ _ _ => some false
    | .fn _ _ _, .nilFunc => some false
    | _, _ => none
  | .interface _ => some fun x y => match x, y with
    | .nilIface, .nilIface => bc cst (some true) none
    | .nilIface, .iface _ _ => some false
    | .iface _ _, .nilIface => some false
    | .iface t v, .iface u w => bc (Nat.beq t u) (ob (E.tt t) fun i => bc i.cmp (ob (eqT E 20 t) fun q => q v w) none) (some false)
    | _, _ => none
  | _ => none

def isShl (op : BinOp) : Option Bool := match op with
  | .shl => some true
  | .shr => some false
  | _ => none
def isEq (op : BinOp) : Option Bool := match op with
  | .eql => some true
  | .neq => some false
  | _ => none
abbrev BOp := AV → AV → Option AV
def binD (d : TypeDesc) (E : Env) (cst plain : Bool) (t : Nat) (op : BinOp) : Option BOp := match d with
  | .int k => fN (kix k) fun kk => orec
      (ob (intS op k) fun g => some fun x y => onK kk x fun a => onK kk y fun b => g a b)
      (fun l => ob (shiftS l k) fun g => some fun x y => onK kk x fun a => onInt y fun _ b => g a b) (isShl op)
  | .string => ob (strS op) fun g => some fun x y => onStr x fun a => onStr y fun b => g a b
  | _ => ob (isEq op) fun e => ob (eqD d E cst plain t) fun q => some fun x y => ob (q x y) fun b => mkB (bc e b (bnot b))
def unS (op : UnOp) : Option (AV → Option AV) := match op with
  | .neg => some fun x => onInt x fun k n => fN (md k) fun M => fN (half k) fun hf => mkW k M hf (ineg n)
  | .xor => some fun x => onInt x fun k n => fN (md k) fun M => fN (half k) fun hf => fN (Nat.xor (toU k n) (Nat.sub M 1)) fun r => finW k M hf r
  | .not => some fun x => onBool x fun b => mkB (bnot b)
  | _ => none

/-! ### Values -/
def strL (s : ByteArray) : List Nat := s.data.toList.map (·.toNat)
def ofV (n : Nat) : Value → Option AV :=
  nrec (β := Value → Option AV) (fun _ => none) (fun _ ih v => match v with
    | .bool b => some (.bool b) | .int k n => some (.int k n) | .string s => some (.str (strL s))
    | .pointer none => some (.ptr none) | .slice none l c => some (.slc none l (.k c)) | .map none => some (.map none)
    | .func f a b => ob (lmap ih a.toList) fun a => ob (lmap ih b.toList) fun b => (match f with | .yield _ => none | f => some (.fn f a b))
    | .nilFunc => some .nilFunc | .nilIface => some .nilIface
    | .iface t v => ob (ih v) fun v => some (.iface t v)
    | .agg cs => ob (lmap ih cs.toList) fun cs => some (.agg cs)
    | .tuple cs => ob (lmap ih cs.toList) fun cs => some (.tup cs)
    | _ => none) n

/-- What an operand is. -/
def opd (x : Operand) (tm : FT) : Option AV := match x with
  | .tmp t => bc (Nat.blt t 256) (some (tget 4 tm t)) none
  | .const v => ofV 6 v
  | .global g => bc (Nat.blt g 64) (some (.ptr (some (g, 0)))) none
  | .func f => some (.fn (.func f) [] [])
def opds (xs : List Operand) (tm : FT) : Option (List AV) := lmap (fun x => opd x tm) xs
def opS {γ : Type} (x : Operand) : Option (FT → (AV → Option γ) → Option γ) := match x with
  | .tmp t => bc (Nat.blt t 256) (tgetS 4 t) none
  | .const v => ob (ofV 6 v) fun a => some fun _ f => f a
  | .global g => bc (Nat.blt g 64) (some fun _ f => f (.ptr (some (g, 0)))) none
  | .func h => some fun _ f => f (.fn (.func h) [] [])
def opsS {γ : Type} (xs : List Operand) : Option (FT → (List AV → Option γ) → Option γ) :=
  lrec (some fun _ f => f []) (fun x _ ih => ob (opS x) fun g => ob ih fun gs => some fun tm f => g tm fun a => gs tm fun as => f (a :: as)) xs
/-- An operand that may be left out. -/
def opoS {γ : Type} (x : Option Operand) : Option (FT → (Option AV → Option γ) → Option γ) :=
  orec (some fun _ f => f none) (fun x => ob (opS x) fun g => some fun tm f => g tm fun a => f (some a)) x
def partS {γ : Type} (ps : List (Nat × Operand)) : Option (FT → (List (Nat × AV) → Option γ) → Option γ) :=
  lrec (some fun _ f => f []) (fun p _ ih => ob (opS p.2) fun g => ob ih fun gs => fN p.1 fun i => some fun tm f => g tm fun a => gs tm fun as => f ((i, a) :: as)) ps

/-- A number that is not negative. -/
def onNat {γ : Type} (v : AV) (f : Nat → Option γ) : Option γ := onInt v fun _ n => irec f (fun _ => none) n
/-- A pointer that is not nil. -/
def onAddr {γ : Type} (v : AV) (f : Nat → Nat → Option γ) : Option γ := onPtr v fun p => ob p fun q => op2 q f
def isU8 (d : TypeDesc) : Bool := match d with
  | .int .u8 => true
  | _ => false

/-! ### Cells -/
/-- So many cells, from a place on. -/
def loadN (n : Nat) (z : List AV) (m : CT) (cnt i : Nat) : Option (List AV) :=
  ob (nrec (β := Nat → List AV → Option (List AV)) (fun _ acc => some acc) (fun _ ih i acc => cGet n z m i fun v => fN (Nat.succ i) fun i => ih i (v :: acc)) cnt i []) fun l => some (lrev l [])
/-- Cells stored one behind the other, below n. -/
def wcells (n : Nat) (cs : List AV) : Nat → CT → Option CT :=
  lrec (β := Nat → CT → Option CT) (fun _ m => some m) (fun v _ ih i m => cSet n m i v fun m => fN (Nat.succ i) fun i => ih i m) cs
def storeN (H : AHeap) (b off : Nat) (cs : List AV) : Option AHeap :=
  hGet H b fun o => onCells o fun sz n z m => ob (wcells n cs off m) fun m => hSet H b (.cells sz n z m) some

/-! ### Operations that look at no block -/
def splice (off : Nat) (vs cs : List AV) : Option (List AV) :=
  ob (ltake off cs) fun a => fN (Nat.add off (llen vs 0)) fun e => bc (Nat.ble e (llen cs 0)) (some (lapp a (lapp vs (ldrop e cs)))) none
/-- The places of a struct's fields: offset and size. -/
def fplaces (E : Env) (fs : List Field) : Option (List (Nat × Nat)) := lmap (fun f => ob (E.tt f.type) fun i => some (f.offset, i.size)) fs
def fillA (place : Nat → Option (Nat × Nat)) (ps : List (Nat × AV)) (cs : List AV) : Option (List AV) :=
  lfold (fun cs p => ob (place p.1) fun q => let vs := cellsOf p.2 p.2; bc (Nat.beq (llen vs 0) q.2) (splice q.1 vs cs) none) ps cs

def buildD (d : TypeDesc) (E : Env) (z : List AV) : Option (List (Nat × AV) → Option AV) := match d with
  | .struct fs => ob (fplaces E fs.toList) fun pl => some fun ps => ob (fillA (fun i => lnth pl i) ps z) fun cs => some (.agg cs)
  | .array _ e => ob (E.tt e) fun ei => some fun ps => ob (fillA (fun i => some (Nat.mul i ei.size, ei.size)) ps z) fun cs => some (.agg cs)
  | _ => none

def oNat (x : Option AV) (dflt : Nat) (f : Nat → Option AV) : Option AV := orec (f dflt) (fun v => onNat v f) x
def capK (c : Cap) (f : Nat → Option AV) : (Nat → Option AV) → Option AV := Cap.rec (motive := fun _ => (Nat → Option AV) → Option AV) (fun c _ => f c) (fun s g => g s) c
def isO (c : Cap) : Bool := Cap.rec (motive := fun _ => Bool) (fun _ => false) (fun _ => true) c
/-- A slice of an array: its length, its elements' size. -/
def sliceArr (n es : Nat) (x : AV) (lo hi mx : Option AV) : Option AV := onAddr x fun b off => oNat mx n fun m => oNat hi n fun h => oNat lo 0 fun l =>
  bc (Nat.ble m n) (bc (Nat.ble h m) (bc (Nat.ble l h) (fN (bc (Nat.beq m l) off (Nat.add off (Nat.mul l es))) fun o => fN (Nat.sub h l) fun n => fN (Nat.sub m l) fun c => some (.slc (some (b, o)) n (.k c))) none) none) none
def sliceSl (es : Nat) (x : AV) (lo hi mx : Option AV) : Option AV := onSlc x fun p n c => oNat hi n fun h => oNat lo 0 fun l => capK c
  (fun c => oNat mx c fun m => bc (Nat.ble m c) (bc (Nat.ble h m) (bc (Nat.ble l h) (fN (Nat.sub h l) fun n => fN (Nat.sub m l) fun c' =>
    orec (some (.slc none n (.k c'))) (fun q => op2 q fun b off => fN (bc (Nat.beq m l) off (Nat.add off (Nat.mul l es))) fun o => some (.slc (some (b, o)) n (.k c'))) p) none) none) none)
  (fun sz => bc (Nat.beq sz es) (ob p fun q => op2 q fun b off => orec
    (bc (Nat.ble h n) (bc (Nat.ble l h) (fN (Nat.add off (Nat.mul l es)) fun o => fN (Nat.sub h l) fun n => some (.slc (some (b, o)) n (.o sz))) none) none)
    (fun mv => onNat mv fun m => bc (Nat.beq n 0) none <| bc (Nat.ble m n) (bc (Nat.ble h m) (bc (Nat.ble l h) (fN (bc (Nat.beq m l) off (Nat.add off (Nat.mul l es))) fun o => fN (Nat.sub h l) fun n => fN (Nat.sub m l) fun c => some (.slc (some (b, o)) n (.k c))) none) none) none) mx) none)
def sliceStr (x : AV) (lo hi mx : Option AV) : Option AV := orec (onStr x fun s => fN (llen s 0) fun n => oNat hi n fun h => oNat lo 0 fun l =>
  bc (Nat.ble h n) (bc (Nat.ble l h) (ob (ltake (Nat.sub h l) (ldrop l s)) fun r => some (.str r)) none) none) (fun _ => none) mx
def sliceD (d : TypeDesc) (E : Env) : Option (AV → Option AV → Option AV → Option AV → Option AV) := match d with
  | .string => some sliceStr
  | .slice e => ob (E.tt e) fun ei => fN ei.size fun es => some (sliceSl es)
  | .pointer a => ob (E.tt a) fun ai => (match ai.d with
    | .array n e => ob (E.tt e) fun ei => fN ei.size fun es => some (sliceArr n es)
    | _ => none)
  | .array n e => ob (E.tt e) fun ei => fN ei.size fun es => some (sliceArr n es)
  | _ => none

abbrev UOp := AV → Option AV
def fieldAddrD (d : TypeDesc) (E : Env) (f : Nat) : Option UOp := match d with
  | .struct fs => ob (lnth fs.toList f) fun fd => ob (E.tt fd.type) fun fi => bc (Nat.beq fi.size 0) none (fN fd.offset fun off => some fun x => onAddr x fun b o => fN (Nat.add o off) fun o => some (.ptr (some (b, o))))
  | _ => none
def fieldD (d : TypeDesc) (E : Env) (f : Nat) : Option UOp := match d with
  | .struct fs => ob (lnth fs.toList f) fun fd => ob (E.tt fd.type) fun fi => fN fd.offset fun off => fN fi.size fun n => bc fi.agg
      (some fun x => onAgg x fun cs => ob (sub cs off n) fun cs => some (.agg cs)) (some fun x => onAgg x fun cs => ob (sub cs off n) fun cs => oneOf cs)
  | _ => none
def indexAddrD (d : TypeDesc) (E : Env) : Option BOp := match d with
  | .array n e => ob (E.tt e) fun ei => fN ei.size fun es => some fun x i => onNat i fun i => onAddr x fun b o => bc (Nat.blt i n) (fN (Nat.add o (Nat.mul i es)) fun o => some (.ptr (some (b, o)))) none
  | .slice e => ob (E.tt e) fun ei => fN ei.size fun es => some fun x i => onNat i fun i => onSlc x fun p n _ => ob p fun q => op2 q fun b o => bc (Nat.blt i n) (fN (Nat.add o (Nat.mul i es)) fun o => some (.ptr (some (b, o)))) none
  | _ => none
def indexD (d : TypeDesc) (E : Env) : Option BOp := match d with
  | .array n e => ob (E.tt e) fun ei => fN ei.size fun es => bc ei.agg
      (some fun x i => onNat i fun i => onAgg x fun cs => bc (Nat.blt i n) (ob (sub cs (Nat.mul i es) es) fun cs => some (.agg cs)) none)
      (some fun x i => onNat i fun i => onAgg x fun cs => bc (Nat.blt i n) (ob (sub cs (Nat.mul i es) es) fun cs => oneOf cs) none)
  | .string => some fun x i => onNat i fun i => onStr x fun s => ob (lnth s i) fun b => fN b fun b => some (.int .u8 (.ofNat b))
  | _ => none
def convD (d : TypeDesc) : Option UOp := match d with
  | .int k => fN (md k) fun M => fN (half k) fun hf => some fun x => onInt x fun _ n => mkW k M hf n
  | .string => some fun x => onStr x fun _ => some x
  | _ => none
def ifaceD (d : TypeDesc) (t : Nat) : Option UOp := match d with
  | .interface _ => none
  | _ => some fun x => some (.iface t x)
def arrLen (d : TypeDesc) : Option Nat := match d with
  | .array n _ => some n
  | _ => none
def lenV (n : Nat) : Option AV := fN n fun n => some (.int .i64 (.ofNat n))
def lenD (d : TypeDesc) (E : Env) : Option UOp := match d with
  | .string => some fun x => onStr x fun s => lenV (llen s 0)
  | .slice _ => some fun x => onSlc x fun _ n _ => lenV n
  | .array n _ => some fun _ => lenV n
  | .pointer a => ob (E.tt a) fun ai => ob (arrLen ai.d) fun n => some fun _ => lenV n
  | _ => none
def maxA (max : Bool) (x y : AV) : Option AV := onInt x fun k a => onInt y fun _ b => some (.int k (bc max (bc (ilt a b) b a) (bc (ilt b a) b a)))
def methodOf (E : Env) (t : Nat) (name : String) : Option (Nat × Bool) := ob (E.tt t) fun i =>
  ob (i.ms.find? (·.name == name)) fun m => bc m.path.isEmpty m.func none
def nilCheckA (E : Env) (x : AV) : Option AV := match x with
  | .ptr none => none
  | .nilIface => none
  | .nilFunc => none
  | .fn (.method nm) (.iface t v :: r) c => ob (methodOf E t nm) fun q => bc q.2 (some (.fn (.method nm) (.iface t v :: r) c)) none
  | .fn (.method _) _ _ => none
  | x => some x
/-- A pointer is the most common one. -/
def nilC (E : Env) (x : AV) : Option AV := orec (nilCheckA E x) (fun r => some r) (onPtr x fun p => ob p fun _ => some x)

def elemOf (d : TypeDesc) : Option Nat := match d with
  | .slice e => some e
  | _ => none
abbrev PF := FT → Option AV
def u1 (g : FT → (AV → Option AV) → Option AV) (f : UOp) : Option PF := some fun tm => g tm f
def pCall (b : Builtin) (as : List Operand) (ts : List TypeId) (E : Env) : Option PF := match b with
  | .len => ob (lnth as 0) fun x => ob (opS x) fun g => ob (lnth ts 0) fun t => ob (E.tt t) fun i => ob (lenD i.d E) fun f => u1 g f
  | .cap => ob (lnth as 0) fun x => ob (opS x) fun g => ob (lnth ts 0) fun t => ob (E.tt t) fun i => ob (elemOf i.d) fun _ => u1 g fun x => onSlc x fun _ _ c => capK c (fun n => lenV n) (fun _ => none)
  | .max => ob (opsS as) fun g => some fun tm => g tm fun vs => lcase none (fun v r => lfold (maxA true) r v) vs
  | .min => ob (opsS as) fun g => some fun tm => g tm fun vs => lcase none (fun v r => lfold (maxA false) r v) vs
  | _ => none
def isYield (f : Fn) : Bool := match f with
  | .yield _ => true
  | _ => false
def isC (x : Operand) : Bool := match x with
  | .const _ => true
  | _ => false
def pOp (op : Op) (E : Env) : Option PF := match op with
  | .move x => ob (opS x) fun g => u1 g fun a => some a
  | .assign x => ob (opS x) fun g => u1 g fun a => some a
  | .pick c a b => ob (opS c) fun gc => ob (opS a) fun ga => ob (opS b) fun gb => some fun tm => gc tm fun c => onBool c fun c => bc c (ga tm fun a => some a) (gb tm fun b => some b)
  | .build t ps => ob (partS ps.toList) fun gp => ob (E.tt t) fun i => ob i.zero fun z => ob (buildD i.d E z) fun f => some fun tm => gp tm f
  | .nilCheck x => ob (opS x) fun g => u1 g (nilC E)
  | .binOp op t x y _ => ob (opS x) fun gx => ob (opS y) fun gy => ob (E.tt t) fun i => ob (binD i.d E (bc (isC x) true (isC y)) (bnot i.eqg) t op) fun f => some fun tm => gx tm fun x => gy tm fun y => f x y
  | .unOp op _ x => ob (opS x) fun g => ob (unS op) fun f => u1 g f
  | .convert src dst x => ob (opS x) fun g => ob (E.tt src) fun _ => ob (E.tt dst) fun i => ob (convD i.d) fun f => u1 g f
  | .sliceToArrayPointer arr x => ob (opS x) fun g => ob (E.tt arr) fun i => ob (arrLen i.d) fun n => u1 g fun x => onSlc x fun p l c => bc (isO c) none (bc (Nat.ble n l) (some (.ptr p)) none)
  | .makeInterface t x => ob (opS x) fun g => ob (E.tt t) fun i => ob (ifaceD i.d t) fun f => u1 g f
  | .makeFunc h a b => bc (isYield h) none <| ob (opsS a.toList) fun ga => ob (opsS b.toList) fun gb => some fun tm => ga tm fun a => gb tm fun b => some (.fn h a b)
  | .slice t x lo hi mx => bc (orec false (fun _ => orec true (fun _ => false) hi) mx) none <| ob (opS x) fun g => ob (opoS lo) fun gl => ob (opoS hi) fun gh => ob (opoS mx) fun gm => ob (E.tt t) fun i => ob (sliceD i.d E) fun f => some fun tm => g tm fun x => gl tm fun l => gh tm fun h => gm tm fun m => f x l h m
  | .fieldAddr s x f => ob (opS x) fun g => ob (E.tt s) fun i => ob (fieldAddrD i.d E f) fun f => u1 g f
  | .field s x f => ob (opS x) fun g => ob (E.tt s) fun i => ob (fieldD i.d E f) fun f => u1 g f
  | .indexAddr t x i => ob (opS x) fun gx => ob (opS i) fun gi => ob (E.tt t) fun ti => ob (indexAddrD ti.d E) fun f => some fun tm => gx tm fun x => gi tm fun i => f x i
  | .index t x i => ob (opS x) fun gx => ob (opS i) fun gi => ob (E.tt t) fun ti => ob (indexD ti.d E) fun f => some fun tm => gx tm fun x => gi tm fun i => f x i
  | .extract x i => ob (opS x) fun g => u1 g fun x => onTup x fun vs => lnth vs i
  | .call c => (match c.callee with
    | .builtin b => pCall b c.args.toList c.argTypes.toList E
    | _ => none)
  | _ => none

/-! ### Operations that only read -/
abbrev RF := FT → AHeap → Option AV
def isStrD (d : TypeDesc) : Bool := match d with
  | .string => true
  | _ => false
/-- The cells at an address. -/
def atCells {γ : Type} (x : AV) (H : AHeap) (f : Nat → Nat → List AV → CT → Nat → Option γ) : Option γ := onAddr x fun b off => hGet H b fun o => onCells o fun sz n z m => f sz n z m off
def loadS (i : TI) (g : FT → (AV → Option AV) → Option AV) : Option RF := fN i.size fun cnt => bc i.agg
  (some fun tm H => g tm fun x => atCells x H fun _ n z m off => ob (loadN n z m cnt off) fun cs => some (.agg cs))
  (some fun tm H => g tm fun x => atCells x H fun _ n z m off => cGet n z m off some)
def findA (q : QF) (k : AV) (es : List (AV × AV)) : Nat → Option (Option (Nat × AV)) :=
  lrec (β := Nat → Option (Option (Nat × AV))) (fun _ => some none) (fun e _ ih i => ob (q k e.1) fun b => bc b (some (some (i, e.2))) (fN (Nat.succ i) ih)) es
def onEntries {γ : Type} (x : AV) (H : AHeap) (f : List (AV × AV) → Option γ) : Option γ := onMap x fun r => orec (f []) (fun r => hGet H r fun o => onEnts o f) r
/-- A key that can be looked for. -/
def keyOK (q : QF) (v : AV) : Bool := orec false (fun b => b) (q v v)
def lookD (d : TypeDesc) (E : Env) (ok : Bool) : Option (AV → AV → AHeap → Option AV) := match d with
  | .map kt e => ob (eqT E 20 kt) fun q => ob (E.tt e) fun ei => ob ei.zero fun z => ob (mkV ei.agg z) fun z => some fun x k H => onEntries x H fun es => bc (keyOK q k)
    (ob (findA q k es 0) fun r => orec (bc ok (some (.tup [z, .bool false])) (some z)) (fun p => bc ok (some (.tup [p.2, .bool true])) (some p.2)) r) none
  | _ => none
def byteOf (v : AV) : Option Nat := onInt v fun k n => bc (Nat.beq (kix k) 4) (ob (inat n) fun n => bc (Nat.blt n 256) (some n) none) none
def toStrD (d : TypeDesc) (E : Env) : Option (AV → AHeap → Option AV) := match d with
  | .slice e => ob (E.tt e) fun ei => bc (isU8 ei.d) (some fun x H => onSlc x fun p n _ => orec (some (.str [])) (fun q => op2 q fun b off => hGet H b fun o => onCells o fun _ n' z m => ob (loadN n' z m n off) fun cs => ob (lmap byteOf cs) fun bs => some (.str bs)) p) none
  | _ => none
def rOp (op : Op) (E : Env) : Option RF := match op with
  | .load t a => ob (opS a) fun g => ob (E.tt t) fun i => loadS i g
  | .lookup t x k ok => ob (opS x) fun gx => ob (opS k) fun gk => ob (E.tt t) fun i => ob (lookD i.d E ok) fun f => some fun tm H => gx tm fun x => gk tm fun k => f x k H
  | .convert src dst x => ob (opS x) fun g => ob (E.tt src) fun i => ob (E.tt dst) fun j => bc (isStrD j.d) (ob (toStrD i.d E) fun f => some fun tm H => g tm fun x => f x H) none
  | .call c => ob (lnth c.args.toList 0) fun x => ob (opS x) fun g => some fun tm H => g tm fun x => onEntries x H fun es => lenV (llen es 0)
  | _ => none

/-! ### Operations that make a block: what is in it, and the value that leads to it -/
structure New where
  o : AObj
  v : Nat → AV
abbrev AF := FT → Option New
def wparts (size n : Nat) (ps : List (Nat × AV)) : Option CT :=
  lfold (fun m p => let vs := cellsOf p.2 p.2; bc (Nat.beq (llen vs 0) size) (wcells n vs (Nat.mul p.1 size) m) none) ps (noCells n)
def isMpD (d : TypeDesc) : Bool := match d with
  | .map _ _ => true
  | _ => false
def aOp (op : Op) (E : Env) : Option AF := match op with
  | .alloc e => ob (E.tt e) fun i => ob i.zero fun z => fN (llen z 0) fun n => bc (lall isCell z) (some fun _ => some ⟨.cells n n z (noCells n), fun b => .ptr (some (b, 0))⟩) none
  | .box _ x => ob (opS x) fun g => some fun tm => ob (g tm fun x => some x) fun x => let cs := cellsOf x x; fN (llen cs 0) fun n => ob (wcells n cs 0 (noCells n)) fun m => some ⟨.cells n n [] m, fun b => .ptr (some (b, 0))⟩
  | .buildSlice t len ps => ob (E.tt t) fun i => ob (elemOf i.d) fun e => ob (E.tt e) fun ei => fN (Nat.mul len ei.size) fun n => bc (Nat.ble n 16777216) (ob ei.zero fun z => bc (lall isCell z) (bc (Nat.beq (llen z 0) ei.size)
      (ob (partS ps.toList) fun gp => fN ei.size fun es => some fun tm => ob (gp tm fun ps => some ps) fun ps => ob (wparts es n ps) fun m => some ⟨.cells es n z m, fun b => .slc (some (b, 0)) len (.k len)⟩) none) none) none
  | .makeSlice t l c => ob (E.tt t) fun i => ob (elemOf i.d) fun e => ob (E.tt e) fun ei => bc (Nat.ble ei.bytes 10000000) (ob ei.zero fun z => bc (lall isCell z) (bc (Nat.beq (llen z 0) ei.size)
      (ob (opS l) fun gl => ob (opS c) fun gc => fN ei.size fun es => some fun tm => gl tm fun l => gc tm fun c => onNat l fun l => onNat c fun c => bc (Nat.ble l c) (bc (Nat.ble c 1000000)
        (fN (Nat.mul c es) fun n => some ⟨.cells es n z (noCells n), fun b => .slc (some (b, 0)) l (.k c)⟩) none) none) none) none) none
  | .makeMap _ none => some fun _ => some ⟨.map [], fun b => .map (some b)⟩
  | .makeMap t (some r) => ob (E.tt t) fun i => bc (isMpD i.d) (ob (opS r) fun g => some fun tm => g tm fun r => onInt r fun _ _ => some ⟨.map [], fun b => .map (some b)⟩) none
  | _ => none

/-! ### The others -/
inductive ONext where
  | val (v : AV) | skip | call (f : Nat) (args : List AV) | yield (l : Nat) (args : List AV) | defer (f : Fn) (cap args : List AV)
structure ON where
  n : ONext
  H : AHeap
abbrev MF := FT → AHeap → Option ON

def storeS (i : TI) (ga gx : FT → (AV → Option ON) → Option ON) : Option MF := fN i.size fun cnt => bc i.agg
  (some fun tm H => ga tm fun a => gx tm fun x => let cs := cellsOf x x; bc (Nat.beq (llen cs 0) cnt) (onAddr a fun b off => ob (storeN H b off cs) fun H => some ⟨.skip, H⟩) none)
  (bc (Nat.beq cnt 1) (some fun tm H => ga tm fun a => gx tm fun x => bc (isCell x) (onAddr a fun b off => hGet H b fun o => onCells o fun sz n z m => cSet n m off x fun m => hSet H b (.cells sz n z m) fun H => some ⟨.skip, H⟩) none) none)
def lset {α : Type} (x : α) (l : List α) : Nat → List α :=
  lrec (β := Nat → List α) (fun _ => []) (fun a t ih n => ncase (x :: t) (fun p => a :: ih p) n) l
def mapUpdD (d : TypeDesc) (E : Env) : Option (AV → AV → AV → AHeap → Option AHeap) := match d with
  | .map kt _ => ob (eqT E 20 kt) fun q => some fun x k v H => onMap x fun r => ob r fun r => hGet H r fun o => onEnts o fun es => bc (keyOK q k) (ob (findA q k es 0) fun q => orec
      (hSet H r (.map (lapp es [(k, v)])) some) (fun p => ob (lnth es p.1) fun e => bc (sameK e.1 k) (hSet H r (.map (lset (k, v) es p.1)) some) none) q) none
  | _ => none

def calleeA (E : Env) (f : Fn) (cap args : List AV) : Option ONext := match f with
  | .func f => some (.call f (lapp args cap))
  | .method nm => (match args with
    | .iface t v :: r => ob (methodOf E t nm) fun q => ob (E.tt t) fun i => (match i.d, q.2 with
      | .pointer _, true => some (.call q.1 (v :: r))
      | .pointer _, false => none
      | _, false => some (.call q.1 (v :: r))
      | _, true => none)
    | _ => none)
  | .yield l => some (.yield l args)
  | _ => none

def capKnown (sz : Nat) (p : Option (Nat × Nat)) (cap : Cap) (H : AHeap) (f : Nat → Option ON) : Option ON := Cap.rec (motive := fun _ => Option ON) f
  (fun s => bc (Nat.beq s sz) (ob p fun q => op2 q fun b off => hGet H b fun o => onCells o fun s' n _ _ => bc (Nat.beq s' sz) (fN (Nat.div (Nat.sub n off) sz) f) none) none) cap
def byteV (b : Nat) : Option AV := fN b fun b => some (.int .u8 (.ofNat b))
/-- The cells that a slice or a string holds. -/
def cellsIn (sz : Nat) (x : AV) (H : AHeap) : Option (List AV) := match x with
  | .slc none n _ => bc (Nat.beq n 0) (some []) none
  | .slc (some q) n _ => hGet H q.1 fun o => onCells o fun _ n' z m => loadN n' z m (Nat.mul n sz) q.2
  | .str s => bc (Nat.beq sz 1) (lmap byteV s) none
  | _ => none
def zerosA (z : List AV) (n : Nat) : Option (List AV) := ob (nfold (fun i acc => ob (zAt z i) fun v => some (v :: acc)) n 0 []) fun l => some (lrev l [])
def bury (p : Option (Nat × Nat)) (cap : Cap) (H : AHeap) : Option AHeap := match cap, p with
  | .o _, some q => hSet H q.1 .dead some
  | _, _ => some H
/-- A block that is a copy of another's first cells, whole. -/
def shareA (sz n : Nat) (x : AV) (H : AHeap) : Option AObj := match x with
  | .slc (some q) _ _ => bc (Nat.beq q.2 0) (hGet H q.1 fun o => onCells o fun _ n' z m => fN (Nat.mul n sz) fun k => bc (Nat.ble k n') (some (.cells sz k z m)) none) none
  | _ => none
def lenOf (x : AV) : Option Nat := match x with
  | .slc _ n _ => some n
  | .str s => fN (llen s 0) some
  | _ => none
def natOf (x : AV) : Option Nat := onNat x some
/-- What is appended: zeros, or what a slice or a string holds. -/
def newCells (zs : Option (List AV)) (sz n : Nat) (x : AV) (H : AHeap) : Option (List AV) := orec (cellsIn sz x H) (fun z => zerosA z (Nat.mul n sz)) zs
def appendV (sz : Nat) (zs : Option (List AV)) (s x : AV) (H : AHeap) : Option ON := onSlc s fun p len cap => capKnown sz p cap H fun kc =>
  ob (orec (lenOf x) (fun _ => natOf x) zs) fun n => fN (Nat.add len n) fun need => bc (Nat.ble need 1000000)
    (bc (Nat.ble need kc)
      (ob (newCells zs sz n x H) fun cs => orec (some ⟨.val (.slc p need cap), H⟩) (fun q => bc (Nat.beq n 0) (some ⟨.val (.slc p need cap), H⟩) (op2 q fun b off => fN (Nat.add off (Nat.mul len sz)) fun at' => ob (storeN H b at' cs) fun H => some ⟨.val (.slc p need cap), H⟩)) p)
      (orec
        (ob (cellsIn sz s H) fun old => ob (newCells zs sz n x H) fun new =>
          let cs := lapp old new
          fN (llen cs 0) fun m => ob (wcells m cs 0 (noCells m)) fun tr => hNew H (.cells sz m [] tr) fun b H => ob (bury p cap H) fun H => some ⟨.val (.slc (some (b, 0)) need (.o sz)), H⟩)
        (fun o => hNew H o fun b H => ob (bury p cap H) fun H => some ⟨.val (.slc (some (b, 0)) need (.o sz)), H⟩)
        (bc (Nat.beq len 0) (orec (shareA sz n x H) (fun _ => none) zs) none))) none
def isIntD (d : TypeDesc) : Bool := match d with
  | .int _ => true
  | _ => false
def appendS (E : Env) (t : Nat) (t2 : Option Nat) : Option (AV → AV → AHeap → Option ON) := ob (E.tt t) fun i => ob (elemOf i.d) fun e => ob (E.tt e) fun ei => fN ei.size fun sz => bc (Nat.beq sz 0) none <| bc (Nat.ble ei.bytes 10000000)
  (ob ei.zero fun z => bc (Nat.beq (llen z 0) sz) (ob (orec (some false) (fun t2 => ob (E.tt t2) fun i => some (isIntD i.d)) t2) fun zf => bc zf (some (appendV sz (some z))) (some (appendV sz none))) none) none
def copyV (sz : Nat) (s x : AV) (H : AHeap) : Option ON := onSlc s fun p dl _ => ob (lenOf x) fun sl => fN (nmin sl dl) fun n => fN (Nat.mul n sz) fun k =>
    orec
      (ob (match x with
        | .slc none _ _ => some []
        | .slc (some q) _ _ => hGet H q.1 fun o => onCells o fun _ n' z m => loadN n' z m k q.2
        | .str s => bc (Nat.beq sz 1) (ob (ltake n s) fun s => lmap byteV s) none
        | _ => none) fun cs => orec (some ⟨.val (.int .i64 (.ofNat n)), H⟩) (fun q => bc (Nat.beq (llen cs 0) 0) (some ⟨.val (.int .i64 (.ofNat n)), H⟩) (op2 q fun b off => ob (storeN H b off cs) fun H => some ⟨.val (.int .i64 (.ofNat n)), H⟩)) p)
      (fun r => some r)
      (ob p fun q => bc (Nat.beq q.2 0) (hGet H q.1 fun o => onCells o fun sz' nn _ _ => bc (Nat.beq nn k) (ob (shareA sz n x H) fun o => onCells o fun _ _ z m => hSet H q.1 (.cells sz' nn z m) fun H => some ⟨.val (.int .i64 (.ofNat n)), H⟩) none) none)
def copyS (E : Env) (t : Nat) : Option (AV → AV → AHeap → Option ON) := ob (E.tt t) fun i => ob (elemOf i.d) fun e => ob (E.tt e) fun ei => fN ei.size fun sz => some (copyV sz)
def clearV (E : Env) (d : TypeDesc) (x : AV) (H : AHeap) : Option AHeap := match d, x with
  | _, .map none => some H
  | _, .map (some r) => hGet H r fun o => onEnts o fun _ => hSet H r (.map []) some
  | _, .slc none _ _ => some H
  | .slice e, .slc (some q) n _ => bc (Nat.beq n 0) (some H) (ob (E.tt e) fun ei => ob ei.zero fun z => bc (Nat.beq (llen z 0) ei.size) (ob (zerosA z (Nat.mul n ei.size)) fun cs => storeN H q.1 q.2 cs) none)
  | _, _ => none

def mBuiltin (b : Builtin) (as : List Operand) (ts : List TypeId) (E : Env) : Option MF := match b with
  | .append => ob (lnth as 0) fun s => ob (lnth as 1) fun x => ob (opS s) fun gs => ob (opS x) fun gx => ob (lnth ts 0) fun t => ob (appendS E t (lnth ts 1)) fun f => some fun tm H => gs tm fun s => gx tm fun x => f s x H
  | .copy => ob (lnth as 0) fun s => ob (lnth as 1) fun x => ob (opS s) fun gs => ob (opS x) fun gx => ob (lnth ts 0) fun t => ob (copyS E t) fun f => some fun tm H => gs tm fun s => gx tm fun x => f s x H
  | .clear => ob (lnth as 0) fun x => ob (opS x) fun gx => ob (lnth ts 0) fun t => ob (E.tt t) fun i => some fun tm H => gx tm fun x => ob (clearV E i.d x H) fun H => some ⟨.val (.tup []), H⟩
  | _ => none
def mCall (c : Callee) (as : List Operand) (ts : List TypeId) (E : Env) : Option MF := match c with
  | .builtin b => mBuiltin b as ts E
  | .invoke r nm => ob (opS r) fun gr => ob (opsS as) fun gas => some fun tm H => gr tm fun r => gas tm fun vs => ob (calleeA E (.method nm) [] (r :: vs)) fun x => some ⟨x, H⟩
  | .value (.func f) => ob (opsS as) fun gas => some fun tm H => gas tm fun vs => some ⟨.call f vs, H⟩
  | .value f => ob (opS f) fun gf => ob (opsS as) fun gas => some fun tm H => gf tm fun f => gas tm fun vs => onFn f fun f first cap => ob (calleeA E f cap (lapp first vs)) fun x => some ⟨x, H⟩
def convM (d : TypeDesc) (E : Env) (same : Bool) (x : AV) (H : AHeap) : Option ON := match d, x with
  | .slice e, .slc (some q) n c => ob (E.tt e) fun ei => bc (isU8 ei.d) (bc same (bc (bc (isO c) (Nat.beq n 0) false) none (bc (Nat.blt q.1 64) none (hGet H q.1 fun o => onCells o fun _ _ _ _ => some ⟨.val (.slc (some q) n c), H⟩))) none) none
  | _, _ => none
def mOp (op : Op) (E : Env) : Option MF := match op with
  | .store t a x => ob (E.tt t) fun i => ob (opS a) fun ga => ob (opS x) fun gx => storeS i ga gx
  | .mapUpdate t x k v => ob (E.tt t) fun i => ob (opS x) fun gx => ob (opS k) fun gk => ob (opS v) fun gv => ob (mapUpdD i.d E) fun f => some fun tm H => gx tm fun x => gk tm fun k => gv tm fun v => ob (f x k v H) fun H => some ⟨.skip, H⟩
  | .convert src dst x => ob (opS x) fun g => ob (E.tt src) fun i => some fun tm H => g tm fun x => convM i.d E (Nat.beq src dst) x H
  | .call c => mCall c.callee c.args.toList c.argTypes.toList E
  | .defer c => (match c.callee with
    | .value f => ob (opS f) fun gf => ob (opsS c.args.toList) fun gas => some fun tm H => gf tm fun f => gas tm fun vs => onFn f fun f first cap => some ⟨.defer f cap (lapp first vs), H⟩
    | _ => none)
  | _ => none

/-! ### Which is which -/
inductive Cls where | p | r | a | m
def isSl (E : Env) (t : Nat) : Bool := orec false (fun i => match i.d with | .slice _ => true | _ => false) (E.tt t)
def isMp (E : Env) (t : Option Nat) : Bool := match t with
  | some t => orec false (fun i => match i.d with | .map _ _ => true | _ => false) (E.tt t)
  | none => false
def clsB (b : Builtin) : List TypeId → Env → Cls := match b with
  | .len => fun ts E => bc (isMp E (lnth ts 0)) .r .p
  | .cap | .max | .min => fun _ _ => .p
  | _ => fun _ _ => .m
def cls (op : Op) (E : Env) : Cls := match op with
  | .load _ _ | .lookup _ _ _ _ => .r
  | .alloc _ | .box _ _ | .buildSlice _ _ _ | .makeSlice _ _ _ | .makeMap _ _ => .a
  | .store _ _ _ | .mapUpdate _ _ _ _ | .defer _ => .m
  | .convert src dst _ => bc (isSl E src) (bc (isSl E dst) .m .r) .p
  | .call c => (match c.callee with
    | .builtin b => clsB b c.argTypes.toList E
    | _ => .m)
  | _ => .p


end
end Go.Ev
end

section
namespace Go.Ev
open Go
noncomputable section

/-! ### One operation, in the order of the text -/
inductive Req where
  | call (f : Nat) (args : List AV) (H : AHeap)
  | yield (l : Nat) (args : List AV) (H : AHeap)
structure VH where
  v : AV
  H : AHeap
abbrev CallF := Req → Option VH
structure FS where
  tm : FT
  df : List ADef
  H : AHeap
/-- What an operation, or several, do: calls, the round's loop, the temporaries, the deferred calls, the heap. -/
abbrev Kont := FT → List ADef → AHeap → Option FS
abbrev OpF := CallF → Option Nat → FT → List ADef → AHeap → Kont → Option FS

abbrev PutF := FT → AV → (FT → Option FS) → Option FS
def putS (sz : Nat) (dst : Option Tmp) : Option PutF := match dst with
  | none => some fun tm _ f => f tm
  | some d => bc (Nat.blt d sz) (bc (Nat.blt d 256) (tsetS 4 d) none) none
def doNext (p : PutF) (n : ONext) (ih : CallF) (ro : Option Nat) (tm : FT) (df : List ADef) (H : AHeap) (k : Kont) : Option FS := ONext.rec (motive := fun _ => PutF → CallF → Option Nat → FT → List ADef → AHeap → Kont → Option FS)
  (fun v p _ _ tm df H k => p tm v fun tm => k tm df H)
  (fun p _ _ tm df H k => p tm undefA fun tm => k tm df H)
  (fun f args p ih _ tm df H k => ob (ih (.call f args H)) fun r => VH.rec (motive := fun _ => PutF → FT → List ADef → Kont → Option FS) (fun v H p tm df k => p tm v fun tm => k tm df H) r p tm df k)
  (fun l args p ih _ tm df H k => ob (ih (.yield l args H)) fun r => VH.rec (motive := fun _ => PutF → FT → List ADef → Kont → Option FS) (fun v H p tm df k => p tm v fun tm => k tm df H) r p tm df k)
  (fun f cap args p _ ro tm df H k => orec (p tm undefA fun tm => k tm (.call f cap args :: df) H) (fun _ => none) ro) n p ih ro tm df H k
def coreS (c : Cls) (op : Op) (E : Env) (p : PutF) : Option OpF := match c with
  | .p => ob (pOp op E) fun g => some fun _ _ tm df H k => ob (g tm) fun v => p tm v fun tm => k tm df H
  | .r => ob (rOp op E) fun g => some fun _ _ tm df H k => ob (g tm H) fun v => p tm v fun tm => k tm df H
  | .a => ob (aOp op E) fun g => some fun _ _ tm df H k => ob (g tm) fun q => hNew H q.o fun b H => p tm (q.v b) fun tm => k tm df H
  | .m => ob (mOp op E) fun g => some fun ih ro tm df H k => ob (g tm H) fun q => ON.rec (motive := fun _ => CallF → Option Nat → FT → List ADef → Kont → Option FS) (fun n H ih ro tm df k => doNext p n ih ro tm df H k) q ih ro tm df k
def isB (v : AV) (want : Bool) : Option Bool := orec (some false) (fun b => some b) (onBool v fun b => some (bc b want (bnot want)))
/-- Whether an operation is wanted, by the temporary of an earlier one. -/
def wantS (sz : Nat) (ops : List Oper) (g : Nat × Bool) : Option (FT → (AV → Option Bool) → Option Bool) := ob (lnth ops g.1) fun oj => ob oj.dst fun d => bc (Nat.blt d sz) (bc (Nat.blt d 256) (tgetS 4 d) none) none
def wants (sz : Nat) (ops : List Oper) (g : Option (Nat × Bool)) : Option (FT → Option Bool) := orec (some fun _ => some true) (fun q => ob (wantS sz ops q) fun h => some fun tm => h tm fun v => isB v q.2) g
/-- What is not covered has no answer where it is come to. -/
def orNo (c : Option OpF) : Option OpF := orec (some fun _ _ _ _ _ _ => none) (fun c => some c) c
def operS (E : Env) (sz : Nat) (ops : List Oper) (o : Oper) : Option OpF :=
  orNo (ob (putS sz o.dst) fun p => ob (orNo (coreS (cls o.op E) o.op E p)) fun c => orec (some c) (fun _ => ob (wants sz ops o.guard) fun w => some fun ih ro tm df H k =>
    ob (w tm) fun b => bc b (c ih ro tm df H k) (p tm undefA fun tm => k tm df H)) o.guard)
/-- Operations in the order of the text. -/
def opersS (E : Env) (sz : Nat) (ops : List Oper) (l : List Oper) : Option OpF :=
  lrec (some fun _ _ tm df H k => k tm df H) (fun o _ ih => ob (operS E sz ops o) fun c => ob ih fun cs => some fun ih ro tm df H k => c ih ro tm df H fun tm df H => cs ih ro tm df H k) l
def done : Kont := fun tm df H => some ⟨tm, df, H⟩

def lall2 (f : AV → AV → Bool) (a : List AV) : List AV → Bool :=
  lrec (β := List AV → Bool) (fun b => lcase true (fun _ _ => false) b) (fun x _ ih b => lcase false (fun y t => bc (f x y) (ih t) false) b) a
def ptrEq (p q : Option (Nat × Nat)) : Bool := match p, q with
  | none, none => true
  | some a, some b => bc (Nat.beq a.1 b.1) (Nat.beq a.2 b.2) false
  | _, _ => false
def onEq (p q : Option Nat) : Bool := match p, q with
  | none, none => true
  | some a, some b => Nat.beq a b
  | _, _ => false
def capEq (p q : Cap) : Bool := match p, q with
  | .k a, .k b => Nat.beq a b
  | .o a, .o b => Nat.beq a b
  | _, _ => false
def beqB (a b : Bool) : Bool := bc a b (bnot b)
/-- The same value. -/
def same (n : Nat) : AV → AV → Bool :=
  nrec (β := AV → AV → Bool) (fun _ _ => false) (fun _ ih x y => match x with
    | .bool a => (match y with | .bool b => beqB a b | _ => false)
    | .int k a => (match y with | .int k' b => bc (Nat.beq (kix k) (kix k')) (ieq a b) false | _ => false)
    | .str a => (match y with | .str b => sbeq a b | _ => false)
    | .ptr p => (match y with | .ptr q => ptrEq p q | _ => false)
    | .slc p l c => (match y with | .slc q l' c' => bc (ptrEq p q) (bc (Nat.beq l l') (capEq c c') false) false | _ => false)
    | .map p => (match y with | .map q => onEq p q | _ => false)
    | .fn f a b => (match y with | .fn g c d => bc (decide (f = g)) (bc (lall2 ih a c) (lall2 ih b d) false) false | _ => false)
    | .nilFunc => (match y with | .nilFunc => true | _ => false)
    | .iface t v => (match y with | .iface u w => bc (Nat.beq t u) (ih v w) false | _ => false)
    | .nilIface => (match y with | .nilIface => true | _ => false)
    | .agg a => (match y with | .agg b => lall2 ih a b | _ => false)
    | .tup a => (match y with | .tup b => lall2 ih a b | _ => false)) n

/-! ### A region whose order is open -/
/-- For each operation which ones come ahead of it in every order: a set, as the bits of a number. -/
def befMask (n : Nat) (acc : Tr Nat 4) (es : List Edge) : Option Nat :=
  lfold (fun m e => bc (Region.binds .any e) (bc (Nat.blt e.on n) (fN (tget 4 acc e.on) fun b => fN (Nat.lor m (Nat.lor (Nat.pow 2 e.on) b)) fun m => some m) none) (some m)) es 0
def befs (ops : List Oper) : Option (Nat × Tr Nat 4) :=
  lfold (fun s o => bc (Nat.blt s.1 256) (ob (befMask s.1 s.2 o.after.toList) fun m => ob (tsetS 4 s.1) fun g => g s.2 m fun t => fN (Nat.succ s.1) fun i => some (i, t)) none) ops (0, tful 0 4)
def bit (m i : Nat) : Bool := bnot (Nat.beq (Nat.mod (Nat.div m (Nat.pow 2 i)) 2) 0)
def usedT (o : Oper) : List Tmp := o.op.operands.toList.filterMap fun | .tmp t => some t | _ => none
/-- Of two operations i and j (p the second): if p has a temporary then the first has another; if the first uses it, one of the two comes ahead of the other in every order; and if both act, likewise. -/
def pairOK (E : Env) (bf : Tr Nat 4) (o p : Oper) (m i j : Nat) : Bool :=
  bc (Nat.beq i j) true
    (bc (match p.dst with
        | none => true
        | some d => bc (match o.dst with | none => true | some d' => bnot (Nat.beq d d')) (bc (lall (fun t => bnot (Nat.beq t d)) (usedT o)) true (bc (bit m j) true (bit (tget 4 bf j) i))) false)
      (match cls o.op E, cls p.op E with
        | .m, .m => bc (Nat.blt j i) (bit m j) true
        | _, _ => true) false)
def ordOK (E : Env) (bf : Tr Nat 4) (ops : List Oper) (o : Oper) (i : Nat) : Bool :=
  (fun m => bc (match o.guard with | none => true | some q => bit m q.1)
      (lrec (β := Nat → Bool) (fun _ => true) (fun p _ ih j => bc (pairOK E bf o p m i j) (ih (Nat.succ j)) false) ops 0) false) (tget 4 bf i)
def allOK (E : Env) (bf : Tr Nat 4) (ops : List Oper) : Bool :=
  lrec (β := Nat → Bool) (fun _ => true) (fun o _ ih i => bc (ordOK E bf ops o i) (ih (Nat.succ i)) false) ops 0

abbrev Rds := List (Nat × RF × FT × AV)
abbrev Mvs := List (Nat × AHeap)
def reads (mask : Nat) (ms : Mvs) (g : RF) (tm : FT) (v : AV) : Bool :=
  lall (fun q => bc (bit mask q.1) true (orec false (fun v' => same 40 v v') (g tm q.2))) ms
def stays (mask : Nat) (rs : Rds) (H : AHeap) : Bool :=
  lall (fun q => bc (bit mask q.1) true (orec false (fun v' => same 40 q.2.2.2 v') (q.2.1 q.2.2.1 H))) rs
structure DS where
  i : Nat
  rs : Rds
  ms : Mvs
  tm : FT
  df : List ADef
  H : AHeap
abbrev DF := CallF → Option Nat → DS → Option DS
def drawC (c : Cls) (op : Op) (E : Env) (bf : Tr Nat 4) (s : DS) (r : FS) : Option DS := match c with
  | .r => ob (rOp op E) fun g => fN (tget 4 bf s.i) fun mask => ob (g s.tm s.H) fun v => bc (reads mask s.ms g s.tm v) (fN (Nat.succ s.i) fun i' => some ⟨i', (s.i, g, s.tm, v) :: s.rs, s.ms, r.tm, r.df, r.H⟩) none
  | .m => fN (tget 4 bf s.i) fun mask => bc (stays mask s.rs r.H) (fN (Nat.succ s.i) fun i' => some ⟨i', s.rs, (s.i, s.H) :: s.ms, r.tm, r.df, r.H⟩) none
  | _ => fN (Nat.succ s.i) fun i' => some ⟨i', s.rs, s.ms, r.tm, r.df, r.H⟩
def drawO (E : Env) (sz : Nat) (bf : Tr Nat 4) (ops : List Oper) (o : Oper) (ih : CallF) (ro : Option Nat) (s : DS) : Option DS :=
  ob (operS E sz ops o) fun c => ob (wants sz ops o.guard) fun w => match s with
    | ⟨i, rs, ms, tm, df, H⟩ => ob (c ih ro tm df H done) fun r => ob (w tm) fun b => (match r with
      | ⟨tm', df', H'⟩ => bc b (drawC (cls o.op E) o.op E bf ⟨i, rs, ms, tm, df, H⟩ ⟨tm', df', H'⟩) (fN (Nat.succ i) fun i' => some ⟨i', rs, ms, tm', df', H'⟩))
def drawnS (E : Env) (sz : Nat) (ops : List Oper) : Option OpF := orNo <| ob (befs ops) fun b => bc (allOK E b.2 ops)
  (some fun ih ro tm df H k => ob (lfold (fun s o => drawO E sz b.2 ops o ih ro s) ops ⟨0, [], [], tm, df, H⟩) fun s => match s with | ⟨_, _, _, tm, df, H⟩ => k tm df H) none

/-! ### Code -/
structure CR where
  e : AEx
  tm : FT
  df : List ADef
  H : AHeap
/-- What code does: calls, how many rounds a loop may have, the round's loop, the function, the temporaries, the deferred calls, the heap. -/
abbrev CF := CallF → Nat → Option Nat → Nat → FT → List ADef → AHeap → Option CR
def nmax (a b : Nat) : Nat := bc (Nat.ble a b) b a
def goes (ih : CallF) (n : ONext) (H : AHeap) : Option AHeap := match n with
  | .call f args => ob (ih (.call f args H)) fun r => some r.H
  | _ => none
def thenS (ga gb : CF) : CF := fun ih n ro f tm df H => ob (ga ih n ro f tm df H) fun r => CR.rec (motive := fun _ => CallF → Nat → Option Nat → Nat → Option CR)
  (fun e tm df H => AEx.rec (motive := fun _ => FT → List ADef → AHeap → CallF → Nat → Option Nat → Nat → Option CR)
    (fun tm df H ih n ro f => gb ih n ro f tm df H) (fun id tm df H _ _ _ _ => some ⟨.exit id, tm, df, H⟩) (fun tm df H _ _ _ _ => some ⟨.ret, tm, df, H⟩) e tm df H) r ih n ro f
def loopS (g : CF) : CF := fun ih n ro f tm df H => nrec (β := FT → List ADef → AHeap → Option CR) (fun _ _ _ => none)
  (fun m again tm df H => ob (g ih m ro f tm df H) fun r => CR.rec (motive := fun _ => (FT → List ADef → AHeap → Option CR) → Option CR)
    (fun e tm df H again => AEx.rec (motive := fun _ => FT → List ADef → AHeap → (FT → List ADef → AHeap → Option CR) → Option CR)
      (fun tm df H again => again tm df H) (fun id tm df H _ => some ⟨.exit id, tm, df, H⟩) (fun tm df H _ => some ⟨.ret, tm, df, H⟩) e tm df H again) r again) n tm df H
def blockS (id : Nat) (g : CF) : CF := fun ih n ro f tm df H => ob (g ih n ro f tm df H) fun r => CR.rec (motive := fun _ => Option CR)
  (fun e tm df H => AEx.rec (motive := fun _ => FT → List ADef → AHeap → Option CR)
    (fun tm df H => some ⟨.normal, tm, df, H⟩) (fun i tm df H => bc (Nat.beq i id) (some ⟨.normal, tm, df, H⟩) (some ⟨.exit i, tm, df, H⟩)) (fun tm df H => some ⟨.ret, tm, df, H⟩) e tm df H) r
def liftS (g : OpF) : CF := fun ih _ ro _ tm df H => ob (g ih ro tm df H done) fun s => FS.rec (motive := fun _ => Option CR) (fun tm df H => some ⟨.normal, tm, df, H⟩) s
/-- The mark among the deferred calls to which a range over a function leads, made where it is the first. -/
def markS (ro : Option Nat) (tm : FT) (df : List ADef) (H : AHeap) (k : Nat → List ADef → AHeap → Option CR) : Option CR := match ro with
  | none => hNew H .defd fun r H => k r (.coll r :: df) H
  | some l => hGet H l fun o => (match o with
    | .loop _ _ _ _ _ _ _ _ d => k d df H
    | _ => none)
def rangeS (E : Env) (sz : Nat) (g : FT → (AV → Option CR) → Option CR) (ps : List Nat) (as bd : Code) : CF := fun ih _ ro f tm df H =>
  g tm fun v => onFn v fun gf first cap => markS ro tm df H fun d df H => hNew H (.loop .ready none f tm sz ps as bd d) fun l H =>
    ob (calleeA E gf cap (lapp first [.fn (.yield l) [] []])) fun n => ob (goes ih n H) fun H => hGet H l fun o => (match o with
      | .loop st pd fn tm' sz ps as bd d => (match st with
        | .busy => none
        | _ => hSet H l (.loop .exhausted pd fn tm' sz ps as bd d) fun H => (match pd with
          | none => some ⟨.normal, tm, df, H⟩
          | some .normal => none
          | some e => some ⟨e, tm, df, H⟩))
      | _ => none)
def codeS (E : Env) (sz : Nat) (c : Code) : Option CF := Code.rec (motive := fun _ => Option CF)
  (some fun _ _ _ _ tm df H => some ⟨.normal, tm, df, H⟩)
  (fun _ ops draw => ob (bc draw (drawnS E sz ops.toList) (opersS E sz ops.toList ops.toList)) fun g => some (liftS g))
  (fun _ _ ga gb => ob ga fun ga => ob gb fun gb => some (thenS ga gb))
  (fun c _ _ ga gb => ob (opS c) fun g => ob ga fun ga => ob gb fun gb => some fun ih n ro f tm df H => g tm fun v => onBool v fun b => bc b (ga ih n ro f tm df H) (gb ih n ro f tm df H))
  (fun id _ g => ob g fun g => some (blockS id g))
  (fun _ g => ob g fun g => some (loopS g))
  (fun x ps as bd _ _ => ob (opS x) fun g => some (rangeS E sz g ps.toList as bd))
  (fun id => some fun _ _ _ _ tm df H => some ⟨.exit id, tm, df, H⟩)
  (fun _ g => g)
  (fun _ => some fun _ _ _ _ tm df H => some ⟨.normal, tm, df, H⟩)
  (fun _ => some fun _ _ _ _ _ _ _ => none)
  (some fun _ _ _ _ tm df H => some ⟨.ret, tm, df, H⟩)
  (fun _ => some fun _ _ _ _ _ _ _ => none) c

def putArgs {γ : Type} (args : List AV) : Nat → FT → (FT → Option γ) → Option γ :=
  lrec (β := Nat → FT → (FT → Option γ) → Option γ) (fun _ m f => f m) (fun v _ ih i m f => bc (Nat.blt i 256) (ob (tsetS 4 i) fun g => g m v fun m => fN (Nat.succ i) fun i => ih i m f) none) args
def resOne (E : Env) (r : ResultVar) : Option (FT → AHeap → (AV → Option AV) → Option AV) := match r with
  | .tmp t => ob (opS (.tmp t)) fun g => some fun tm _ f => g tm f
  | .cell a t => ob (opS (.tmp a)) fun g => ob (E.tt t) fun i => ob (loadS i g) fun h => some fun tm H f => ob (h tm H) f
def resS (E : Env) (rs : List ResultVar) : Option (FT → AHeap → (List AV → Option AV) → Option AV) :=
  lrec (some fun _ _ f => f []) (fun r _ ih => ob (resOne E r) fun g => ob ih fun gs => some fun tm H f => g tm H fun v => gs tm H fun vs => f (v :: vs)) rs
def retV (vs : List AV) : Option AV := match vs with
  | [v] => some v
  | vs => some (.tup vs)
def unwA (E : Env) (ih : CallF) (ds : List ADef) : AHeap → Option AHeap :=
  lrec (β := AHeap → Option AHeap) (fun H => some H) (fun d _ k H => match d with
    | .coll r => hGet H r fun o => (match o with
      | .defd => hSet H r .dead k
      | _ => none)
    | .call f cap args => ob (calleeA E f cap args) fun n => ob (goes ih n H) k) ds
def zipSet {γ : Type} (sz : Nat) (ps : List Nat) : List AV → FT → (FT → Option γ) → Option γ :=
  lrec (β := List AV → FT → (FT → Option γ) → Option γ) (fun vs m f => lcase (f m) (fun _ _ => none) vs)
    (fun p _ ih vs m f => lcase none (fun v t => bc (Nat.blt p sz) (bc (Nat.blt p 256) (ob (tsetS 4 p) fun g => g m v fun m => ih t m f) none) none) vs) ps

/-- A function, reckoned: how many temporaries, its code, its results. -/
structure FnS where
  sz : Nat
  g : CF
  r : FT → AHeap → (List AV → Option AV) → Option AV
def fnS (E : Env) (f : Nat) : Option FnS := ob (E.fns f) fun fn => ob fn.body fun c => fN fn.ntmps fun sz => bc (Nat.ble sz 256) (ob (codeS E sz c) fun g => ob (resS E fn.results.toList) fun r => some ⟨sz, g, r⟩) none
def noTmps : FT := tful undefA 4
def doCall (E : Env) (n : Nat) (ih : CallF) (f : Nat) (args : List AV) (H : AHeap) : Option VH := ob (fnS E f) fun q => bc (Nat.ble (llen args 0) q.sz)
  (ob (putArgs args 0 noTmps fun tm => q.g ih n none f tm [] H) fun r => CR.rec (motive := fun _ => FnS → CallF → Option VH)
    (fun e tm df H q ih => bc (AEx.rec (motive := fun _ => Bool) true (fun _ => false) true e) (ob (unwA E ih df H) fun H => ob (q.r tm H retV) fun v => some ⟨v, H⟩) none) r q ih) none
def doYield (E : Env) (n : Nat) (ih : CallF) (l : Nat) (args : List AV) (H : AHeap) : Option VH :=
  hGet H l fun o => match o with
    | .loop .ready _ fn tm sz ps as bd _ => ob (codeS E sz as) fun ga => ob (codeS E sz bd) fun gb =>
      ob (zipSet sz ps args tm fun tm => ga ih n (some l) fn tm [] H) fun r => (match r with
        | ⟨.normal, tm, [], H⟩ => hGet H l fun o => (match o with
          | .loop .ready pd fn2 tm' sz ps as bd d => hSet H l (.loop .busy pd fn2 tm' sz ps as bd d) fun H =>
            ob (gb ih n (some l) fn tm [] H) fun r => (match r with
              | ⟨e, _, _, H⟩ => hGet H l fun o => (match o with
                | .loop _ _ fn tm sz ps as bd d => (match e with
                  | .normal => hSet H l (.loop .ready none fn tm sz ps as bd d) fun H => some ⟨.bool true, H⟩
                  | e => hSet H l (.loop .done (some e) fn tm sz ps as bd d) fun H => some ⟨.bool false, H⟩)
                | _ => none))
          | _ => none)
        | _ => none)
    | _ => none
/-- Calls, so many one within the other; loops, so many rounds. -/
def callF (E : Env) (rounds depth : Nat) : CallF :=
  nrec (β := CallF) (fun _ => none) (fun _ ih r => Req.rec (motive := fun _ => CallF → Option VH) (fun f args H ih => doCall E rounds ih f args H) (fun l args H ih => doYield E rounds ih l args H) r ih) depth

/-! ### The tables, out of a program -/
def isAggD (d : TypeDesc) : Bool := match d with
  | .struct _ | .array _ _ => true
  | _ => false
def isAggV (v : Value) : Bool := match v with
  | .agg _ => true
  | _ => false
def zeroOf (d : TypeDesc) (z : Value) : Option (List AV) := bc (beqB (isAggD d) (isAggV z)) (lmap (ofV 6) z.cells.toList) none
def tiOf (P : Program) (t : Nat) : Option TI := ob (P.info? t) fun i => ob (P.underlying t) fun d =>
  some ⟨d, i.size, isAggD d, ob i.zero fun z => zeroOf d z, P.eqGuardType P.depth t, i.comparable, P.stoodInHeld t, i.bytes, i.methods.toList⟩
def fnOf (P : Program) (f : Nat) : Option Func := ob P.funcs[f]? fun fn => bc (decide (fn.name = "runtime.NumGoroutine")) none (bc fn.body.isSome (some fn) none)
end
end Go.Ev
end
