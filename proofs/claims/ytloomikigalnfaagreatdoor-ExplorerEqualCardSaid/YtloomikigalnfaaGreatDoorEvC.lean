/-
  The evaluator's operations that make a block answer as the model's do.
  The evaluator's operations that change the heap answer as the model's do.
  The evaluator's append answers as the model's does.
  The evaluator's append answers as the model's does: the join.
  The evaluator's operations that change the heap or call answer as the model's do: the join.
-/
import Derived.Test.YtloomikigalnfaaGreatDoorEvB
import Derived.Laws.Append
set_option linter.unusedVariables false
set_option linter.unusedSimpArgs false
set_option linter.unusedSectionVars false

section
namespace Go.Ev
open Go

section
variable {φ : Map} {P : Program} {ρ : Operand → Value} {tm : FT} {E : Env}

/-! ### Cells that are written -/
theorem wcells_eq {n : Nat} : ∀ (cs : List AV) (off : Nat) (m m' : CT), wcells n cs off m = some m' → (cs = [] ∨ off + cs.length ≤ n) ∧ (∀ v, v ∈ cs → isCell v = true) ∧ ∀ z j, cellAt n z m' j = if off ≤ j ∧ j < off + cs.length then cs[j - off]? else cellAt n z m j := by
  intro cs
  induction cs with
  | nil => intro off m m' h; cases h; exact ⟨.inl rfl, by simp, fun z j => by rw [if_neg (by simp)]⟩
  | cons v cs ih =>
    intro off m m' h
    obtain ⟨hlt, hv, m1, hm1, h⟩ := cSet_eq (show cSet n m off v (fun m => fN (Nat.succ off) fun i => wcells n cs i m) = some m' from h)
    rw [fN_eq] at h
    obtain ⟨h1, h2, h3⟩ := ih (off + 1) m1 m' h
    refine ⟨.inr ?_, ?_, ?_⟩
    · rcases h1 with rfl | h1
      · simp; omega
      · simp; omega
    · intro u hu
      rcases List.mem_cons.mp hu with rfl | hu
      · exact hv
      · exact h2 u hu
    · intro z j
      rw [h3, hm1]
      simp only [List.length_cons]
      by_cases hj : j = off
      · subst hj; rw [if_neg (by omega), if_pos rfl, if_pos (by omega), Nat.sub_self]; rfl
      · rw [if_neg hj]
        by_cases h4 : off + 1 ≤ j ∧ j < off + 1 + cs.length
        · rw [if_pos h4, if_pos (by omega), show j - off = (j - (off + 1)) + 1 by omega, List.getElem?_cons_succ]
        · rw [if_neg h4, if_neg (by omega)]
/-- Cells that stand for the cells of a row, from a place on. -/
def CR' (φ : Map) (n : Nat) (z : List AV) (m : CT) (arr : Array Value) (δ : Nat) : Prop := ∀ i, i < n → ∃ v v', cellAt n z m i = some v ∧ isCell v = true ∧ arr[δ + i]? = some v' ∧ VR φ v v'
theorem CR'.set {n : Nat} {z : List AV} {m m' : CT} {arr : Array Value} {δ : Nat} (hc : CR' φ n z m arr δ) {cs : List AV} {cs' : List Value} (hv : VRs φ cs cs') {off : Nat} (hw : wcells n cs off m = some m') (hn : δ + n ≤ arr.size) :
    CR' φ n z m' ((cs'.zipIdx).foldl (fun a x => a.setIfInBounds (δ + off + x.2) x.1) arr) δ := by
  obtain ⟨h1, h2, h3⟩ := wcells_eq cs off m m' hw
  intro i hi
  have hl := hv.length
  have hsz : δ + off + 0 + cs'.length ≤ arr.size ∨ cs' = [] := by
    rcases h1 with rfl | h1
    · right; exact List.eq_nil_of_length_eq_zero hl.symm
    · left; omega
  rw [h3]
  by_cases hin : off ≤ i ∧ i < off + cs.length
  · rw [if_pos hin]
    have hlt : i - off < cs.length := by omega
    obtain ⟨v', hv1, hv2⟩ := hv.get (i - off) _ (List.getElem?_eq_getElem hlt)
    refine ⟨_, v', List.getElem?_eq_getElem hlt, h2 _ (List.getElem_mem hlt), ?_, hv2⟩
    rcases hsz with hsz | rfl
    · rw [setAll_get (δ + off) cs' 0 arr hsz, if_pos (by omega)]
      rw [← hv1]; congr 1; omega
    · have : cs.length = 0 := hl
      omega
  · rw [if_neg hin]
    obtain ⟨v, v', a, b, c, d⟩ := hc i hi
    refine ⟨v, v', a, b, ?_, d⟩
    rcases hsz with hsz | rfl
    · rw [setAll_get (δ + off) cs' 0 arr hsz, if_neg (by omega)]
      exact c
    · exact c

/-- Cells that all are zero. -/
theorem zeros_get (z : Array Value) (n i : Nat) (hi : i < n) : ((Array.range n).map (fun i => z[i % z.size]!))[i]? = some z[i % z.size]! := by
  simp [hi]
theorem lall_eq {α : Type} {f : α → Bool} : ∀ {l : List α}, lall f l = true → ∀ x, x ∈ l → f x = true := by
  intro l
  induction l with
  | nil => intro _ x hx; cases hx
  | cons a l ih =>
    intro h x hx
    have h' : bc (f a) (lall f l) false = true := h
    cases ha : f a with
    | false => rw [ha] at h'; cases h'
    | true =>
      rw [ha] at h'
      rcases List.mem_cons.mp hx with rfl | hx
      · exact ha
      · exact ih h' x hx
theorem zAt_eq {z : List AV} (hz : z ≠ []) (i : Nat) : zAt z i = z[i % z.length]? := by
  cases z with
  | nil => exact absurd rfl hz
  | cons a t => cases t with
    | nil => show some a = _; simp [Nat.mod_one]
    | cons b t => show lnth (a :: b :: t) (Nat.mod i (llen (a :: b :: t) 0)) = _; rw [lnth_eq, llen_eq]; rfl
theorem CR'.zeros {z : List AV} {zv : List Value} (hz : VRs φ z zv) (hc : lall isCell z = true) (n k : Nat) (hne : n ≠ 0 → z ≠ []) : CR' φ n z (noCells k) ((Array.range n).map (fun i => zv.toArray[i % zv.toArray.size]!)) 0 := by
  intro i hi
  have hl := hz.length
  have hz0 : z ≠ [] := hne (by omega)
  have hlt : i % z.length < z.length := Nat.mod_lt _ (List.length_pos_iff.mpr hz0)
  obtain ⟨v', h1, h2⟩ := hz.get (i % z.length) _ (List.getElem?_eq_getElem hlt)
  refine ⟨z[i % z.length], v', ?_, lall_eq hc _ (List.getElem_mem hlt), ?_, h2⟩
  · rw [cellAt_noCells, show Nat.blt i n = true by rw [nblt]; simpa using hi, bc_true, zAt_eq hz0, List.getElem?_eq_getElem hlt]
  · rw [Nat.zero_add, zeros_get _ _ _ hi]
    have : zv.toArray.size = z.length := by simp [hl]
    rw [this]
    rw [getElem!_def]
    simp [h1]
/-- A new row stands for cells. -/
theorem OR.new {sz n : Nat} {z : List AV} {m : CT} {arr : Array Value} {w : World} (el : TypeId) (hc : CR' φ n z m arr 0) (hn : n ≤ arr.size) : OR φ (.cells sz n z m) ⟨w.heap.size, 0, arr.size⟩ (w.alloc (.cells arr el)) :=
  ⟨arr, el, (0, 0), heap_alloc_new w _, rfl, by simpa using hn, .inl rfl, by simpa [CR'] using hc⟩
theorem CR'.mono {φ' : Map} (hs : Sub φ φ') {n : Nat} {z : List AV} {m : CT} {arr : Array Value} {δ : Nat} (h : CR' φ n z m arr δ) : CR' φ' n z m arr δ := fun i hi => by
  obtain ⟨v, v', a, b, c, d⟩ := h i hi
  exact ⟨v, v', a, b, c, d.mono hs⟩

/-- An operation that makes one block. -/
def Makes (φ : Map) (P : Program) (s : Sem Value) (q : New) : Prop := ∀ w : World, ∃ c v' e, s.run P w = .ok v' (w.alloc c) ∧ q.o ≠ .dead ∧ ∀ φ' b, Sub φ φ' → φ' b = some ⟨w.heap.size, 0, e⟩ → OR φ' q.o ⟨w.heap.size, 0, e⟩ (w.alloc c) ∧ VR φ' (q.v b) v'

theorem alloc_sound (hE : EnvOK P E) {t : Nat} {i : TI} (ht : E.tt t = some i) {z : List AV} (hz : i.zero = some z) (hc : lall isCell z = true) : Makes φ P (Instr.alloc t true (.tuple #[])) ⟨.cells z.length z.length z (noCells z.length), fun b => .ptr (some (b, 0))⟩ := by
  intro w
  obtain ⟨info, hti⟩ := hE.ti ht
  obtain ⟨zv, hz1, _, hz3⟩ := hti.zero z hz
  have hzr : VRs φ z zv.cells.toList := lmap_VRs (fun v a h => ofV_sound φ 6 v a h) hz3
  have hl := hzr.length
  simp only [Array.length_toList] at hl
  refine ⟨.cells zv.cells t, .pointer (some ⟨w.heap.size, 0, none⟩), zv.cells.size, ?_, nofun, fun φ' b hs hb => ⟨?_, VR.ptr hb⟩⟩
  · simp [Instr.alloc, hti.run_zero w hz1, newVar, newRow]
  · refine OR.new t ?_ (by omega)
    intro j hj
    obtain ⟨v, v', a, b, c, d⟩ := CR'.zeros hzr hc z.length z.length (fun h e => h (by rw [e]; rfl)) j hj
    refine ⟨v, v', a, b, ?_, d.mono hs⟩
    rw [Nat.zero_add] at c ⊢
    rw [zeros_get _ _ _ hj] at c
    have : j % zv.cells.toList.toArray.size = j := by simp; exact Nat.mod_eq_of_lt (by omega)
    rw [this] at c
    rw [← c, getElem!_def]
    have hj' : j < zv.cells.size := by omega
    simp [hj']
theorem box_sound (t : TypeId) {x : AV} {x' : Value} (hx : VR φ x x') {m : CT} (hm : wcells (cellsOf x x).length (cellsOf x x) 0 (noCells (cellsOf x x).length) = some m) : Makes φ P (Instr.box t x') ⟨.cells (cellsOf x x).length (cellsOf x x).length [] m, fun b => .ptr (some (b, 0))⟩ := by
  intro w
  have hcv := cells_VRs hx
  have hl := hcv.length
  simp only [Array.length_toList] at hl
  refine ⟨.cells x'.cells t, .pointer (some ⟨w.heap.size, 0, none⟩), x'.cells.size, ?_, nofun, fun φ' b hs hb => ⟨?_, VR.ptr hb⟩⟩
  · simp [Instr.box, newVar, newRow]
  · refine OR.new t ?_ (by omega)
    obtain ⟨h1, h2, h3⟩ := wcells_eq _ _ _ _ hm
    intro j hj
    rw [h3, if_pos (by omega), Nat.sub_zero]
    obtain ⟨v', h4, h5⟩ := hcv.get j _ (List.getElem?_eq_getElem hj)
    exact ⟨_, v', List.getElem?_eq_getElem hj, h2 _ (List.getElem_mem hj), by simpa using h4, h5.mono hs⟩

theorem wparts_sound {size n : Nat} {z : List AV} : ∀ (ps : List (Nat × AV)) (m m' : CT), lfold (fun m (p : Nat × AV) => let vs := cellsOf p.2 p.2; bc (Nat.beq (llen vs 0) size) (wcells n vs (Nat.mul p.1 size) m) none) ps m = some m' →
    ∀ (ps' : List (Nat × Value)) (arr : Array Value), All2 (fun a b => a.1 = b.1 ∧ VR φ a.2 b.2) ps ps' → arr.size = n → CR' φ n z m arr 0 → ∃ arr', Instr.fill (fun i => some (i * size, size)) arr ps' = some arr' ∧ arr'.size = n ∧ CR' φ n z m' arr' 0 := by
  intro ps
  induction ps with
  | nil => intro m m' h ps' arr hp hs hc; cases h; cases hp; exact ⟨arr, rfl, hs, hc⟩
  | cons p ps ih =>
    intro m m' h ps' arr hp hs hc
    rw [lfold_cons] at h
    obtain ⟨m1, hm1, hrest⟩ := ob_eq h
    rcases bc_eq hm1 with ⟨hl, h1⟩ | ⟨_, h1⟩
    · cases hp with
      | cons hx ht =>
        rename_i x' ps'
        obtain ⟨i, v⟩ := p
        obtain ⟨i', v'⟩ := x'
        obtain ⟨rfl, hv⟩ := hx
        have hcv := cells_VRs hv
        dsimp only at hl h1 hcv
        have hl1 : (cellsOf v v).length = size := by rw [nbeq, llen_eq] at hl; simpa using hl
        have hl2 : v'.cells.size = size := by have := hcv.length; simp at this; omega
        obtain ⟨hle, _, _⟩ := wcells_eq _ _ _ _ h1
        have hle' : i * size + size ≤ n := by
          rcases hle with h0 | h0
          · rw [h0] at hl1
            have : size = 0 := by simpa using hl1.symm
            subst this; simp
          · rw [hl1] at h0; exact h0
        have hset := hc.set hcv h1 (by omega)
        rw [Nat.zero_add] at hset
        obtain ⟨arr', h5, h6, h7⟩ := ih m1 m' hrest ps' _ ht (by rw [setAll_size]; exact hs) hset
        refine ⟨arr', ?_, h6, h7⟩
        rw [Instr.fill]
        have hb : ¬ (v'.cells.size ≠ size ∨ i * size + v'.cells.size > arr.size) := by omega
        simp only
        rw [if_neg (by simpa using hb)]
        rw [← Array.foldl_toList, Array.toList_zipIdx]
        exact h5
    · cases h1
/-- A new row of zeros. -/
theorem zeroRow_sound (hE : EnvOK P E) {e : Nat} {ei : TI} (he : E.tt e = some ei) {z : List AV} (hz : ei.zero = some z) (hc : lall isCell z = true) (hl : Nat.beq (llen z 0) ei.size = true) (len : Nat) :
    ∃ zv : Array Value, ((len * ei.size = 0 ∧ zv = #[]) ∨ (len * ei.size ≠ 0 ∧ ∃ z', (∀ w, (zeroValue e).run P w = .ok z' w) ∧ zv = z'.cells)) ∧ ((Array.range (len * ei.size)).map (fun i => zv[i % zv.size]!)).size = len * ei.size ∧
      CR' φ (len * ei.size) z (noCells (len * ei.size)) ((Array.range (len * ei.size)).map (fun i => zv[i % zv.size]!)) 0 := by
  obtain ⟨info, hti⟩ := hE.ti he
  obtain ⟨zv, hz1, _, hz3⟩ := hti.zero z hz
  have hzr : VRs φ z zv.cells.toList := lmap_VRs (fun v a h => ofV_sound φ 6 v a h) hz3
  by_cases h0 : len * ei.size = 0
  · refine ⟨#[], .inl ⟨h0, rfl⟩, by simp, ?_⟩
    rw [h0]
    intro i hi
    omega
  · refine ⟨zv.cells, .inr ⟨h0, zv, fun w => hti.run_zero w hz1, rfl⟩, by simp, ?_⟩
    have := CR'.zeros hzr hc (len * ei.size) (len * ei.size) (fun _ e => by
      subst e
      rw [nbeq] at hl
      have : ei.size = 0 := (of_decide_eq_true hl).symm.trans (by rw [llen_eq]; rfl)
      rw [this] at h0
      exact h0 (Nat.mul_zero _))
    simpa using this
theorem buildSlice_sound (hE : EnvOK P E) {t e len : Nat} {i ei : TI} (ht : E.tt t = some i) (hd : elemOf i.d = some e) (he : E.tt e = some ei) (hn : len * ei.size ≤ 16777216) {z : List AV} (hz : ei.zero = some z) (hc : lall isCell z = true) (hl : Nat.beq (llen z 0) ei.size = true)
    {ps : List (Nat × AV)} {m : CT} (hm : wparts ei.size (len * ei.size) ps = some m) {ps' : Array (Nat × Value)} (hp : All2 (fun a b => a.1 = b.1 ∧ VR φ a.2 b.2) ps ps'.toList) :
    Makes φ P (Instr.buildSlice t len ps') ⟨.cells ei.size (len * ei.size) z m, fun b => .slc (some (b, 0)) len (.k len)⟩ := by
  intro w
  obtain ⟨info, hti⟩ := hE.ti ht
  obtain ⟨einfo, hei⟩ := hE.ti he
  obtain ⟨zv, hzr, hsz, hcr⟩ := zeroRow_sound (φ := φ) hE he hz hc hl len
  obtain ⟨arr, h1, h2, h3⟩ := wparts_sound ps _ _ hm ps'.toList _ hp hsz hcr
  have hdd : P.underlying t = some (.slice e) := by
    rw [hti.und]
    unfold elemOf at hd
    split at hd
    · rename_i e' hde; cases hd; rw [hde]
    · cases hd
  refine ⟨.cells arr e, .slice (some ⟨w.heap.size, 0, none⟩) len len, arr.size, ?_, nofun, fun φ' b hs hb => ⟨OR.new e (h3.mono hs) (by omega), VR.slc len len hb⟩⟩
  have hno : ¬ (len * ei.size > 2 ^ 24) := by omega
  rcases hzr with ⟨h0, rfl⟩ | ⟨h0, z', hz', rfl⟩
  · simp only [Instr.buildSlice, Sem.run_bind, run_underlying hdd, Result.andThen_ok, hei.run_size, hno, if_false]
    rw [if_pos h0]
    simp only [Sem.run_bind, Sem.run_pure, Result.andThen_ok, h1, newRow, run_newObj]
    rfl
  · simp only [Instr.buildSlice, Sem.run_bind, run_underlying hdd, Result.andThen_ok, hei.run_size, hno, if_false, h0, Sem.run_pure, hz', h1, newRow, run_newObj]
    rfl
theorem makeSlice_sound (hE : EnvOK P E) {t e : Nat} {i ei : TI} (ht : E.tt t = some i) (hd : elemOf i.d = some e) (he : E.tt e = some ei) (hb : ei.bytes ≤ 10000000) {z : List AV} (hz : ei.zero = some z) (hc : lall isCell z = true) (hl : Nat.beq (llen z 0) ei.size = true)
    {l c : Nat} (hlc : l ≤ c) (hcm : c ≤ 1000000) (k k' : IntKind) :
    Makes φ P (Instr.makeSlice t (.int k l) (.int k' c)) ⟨.cells ei.size (c * ei.size) z (noCells (c * ei.size)), fun b => .slc (some (b, 0)) l (.k c)⟩ := by
  intro w
  obtain ⟨info, hti⟩ := hE.ti ht
  obtain ⟨einfo, hei⟩ := hE.ti he
  obtain ⟨zv, hzr, hsz, hcr⟩ := zeroRow_sound (φ := φ) hE he hz hc hl c
  have hdd : P.underlying t = some (.slice e) := by
    rw [hti.und]
    unfold elemOf at hd
    split at hd
    · rename_i e' hde; cases hd; rw [hde]
    · cases hd
  have hw : ∀ n : Nat, n ≤ 1000000 → IntKind.i64.wrap (n : Int) = n := by
    intro n hn
    rw [wrap_eq]
    have h1 : (n : Int) % (md .i64 : Int) = n := Int.emod_eq_of_lt (by omega) (by show (n : Int) < 18446744073709551616; omega)
    rw [h1]
    have h2 : decide ((n : Int) ≥ (half .i64 : Int)) = false := by
      have : ¬ ((n : Int) ≥ 9223372036854775808) := by omega
      exact decide_eq_false this
    rw [h2]
    simp
  have hbytes : einfo.bytes ≤ 10000000 := by rw [← hei.bytes]; exact hb
  refine ⟨.cells ((Array.range (c * ei.size)).map (fun i => zv[i % zv.size]!)) e, .slice (some ⟨w.heap.size, 0, none⟩) l c, _, ?_, nofun, fun φ' b hs hb => ⟨OR.new e (hcr.mono hs) (by omega), VR.slc l c hb⟩⟩
  have hprod : (einfo.bytes : Int) * (c : Int) ≤ 10000000 * 1000000 := by
    have : einfo.bytes * c ≤ 10000000 * 1000000 := Nat.mul_le_mul hbytes hcm
    have h2 : ((einfo.bytes * c : Nat) : Int) ≤ 10000000000000 := by omega
    rw [Int.natCast_mul] at h2
    omega
  have hno1 : ¬ ((c : Int) < 0) := by omega
  have hno2 : ¬ ((einfo.bytes : Int) * (c : Int) > 2 ^ 48) := by
    have h48 : (2 : Int) ^ 48 = 281474976710656 := by decide
    rw [h48]; omega
  have hno3 : ¬ ((l : Int) < 0) := by omega
  have hno4 : ¬ ((l : Int) > (c : Int)) := by omega
  rcases hzr with ⟨h0, rfl⟩ | ⟨h0, z', hz', rfl⟩
  · simp only [Instr.makeSlice, Sem.run_bind, run_underlying hdd, Result.andThen_ok, asInt, asIntOf, Sem.run_pure, hei.run_typeInfo, hw l (by omega), hw c hcm, hno1, hno2, hno3, hno4, decide_false, Bool.or_false, Bool.false_eq_true, if_false, run_askRoom, hei.run_size, Int.toNat_natCast, h0, if_true, newRow, run_newObj]
    rfl
  · simp only [Instr.makeSlice, Sem.run_bind, run_underlying hdd, Result.andThen_ok, asInt, asIntOf, Sem.run_pure, hei.run_typeInfo, hw l (by omega), hw c hcm, hno1, hno2, hno3, hno4, decide_false, Bool.or_false, Bool.false_eq_true, if_false, run_askRoom, hei.run_size, Int.toNat_natCast, h0, hz', newRow, run_newObj]
    rfl

/-- What an operation makes. -/
def MakesOp (φ : Map) (P : Program) (ρ : Operand → Value) (o : Oper) (q : New) : Prop := ∀ w : World, ∃ c v' e, (execOp ρ o).run P w = .ok (.value v') (w.alloc c) ∧ q.o ≠ .dead ∧ ∀ φ' b, Sub φ φ' → φ' b = some ⟨w.heap.size, 0, e⟩ → OR φ' q.o ⟨w.heap.size, 0, e⟩ (w.alloc c) ∧ VR φ' (q.v b) v'
theorem Makes.lift {s : Sem Value} {q : New} {o : Oper} (h : Makes φ P s q) (e : execOp ρ o = (do pure (Next.value (← s)))) : MakesOp φ P ρ o q := by
  intro w
  obtain ⟨c, v', n, h1, h2, h3⟩ := h w
  exact ⟨c, v', n, by rw [e]; simp [h1], h2, h3⟩
theorem obs {α : Type} {x : Option α} {y : α} (h : (ob x fun a => some a) = some y) : x = some y := by
  obtain ⟨a, ha, h⟩ := ob_eq h
  cases h
  exact ha
theorem parts_VR {l : List (Nat × Operand)} {as : List (Nat × AV)} (h : All2 (fun x a => x.1 = a.1 ∧ opd x.2 tm = some a.2) l as) : (∀ q, q ∈ l → ∀ a, opd q.2 tm = some a → VR φ a (ρ q.2)) → All2 (fun a b => a.1 = b.1 ∧ VR φ a.2 b.2) as (l.map fun (i, x) => (i, ρ x)) := by
  induction h with
  | nil => intro _; exact .nil
  | cons hx _ ih =>
    intro ho
    rw [List.map_cons]
    exact .cons ⟨hx.1.symm, ho _ (by simp) _ hx.2⟩ (ih fun q hq => ho q (by simp [hq]))
theorem aOp_sound (hE : EnvOK P E) {o : Oper} {g : AF} (hg : aOp o.op E = some g) {q : New} (hq : g tm = some q) (ho : Ops φ ρ tm o.op.operands.toList) : MakesOp φ P ρ o q := by
  have one : ∀ {x : Operand} {a : AV}, x ∈ o.op.operands.toList → opd x tm = some a → VR φ a (ρ x) := fun hx ha => ho _ hx _ ha
  generalize hop : o.op = op at hg ho one
  cases op with
  | alloc e =>
    obtain ⟨i, hi, hg⟩ := ob_eq hg
    obtain ⟨z, hz, hg⟩ := ob_eq hg
    rw [fN_eq] at hg
    rcases bc_eq hg with ⟨hc, hg⟩ | ⟨_, hg⟩
    · cases hg
      cases hq
      rw [llen_eq]
      exact (alloc_sound hE hi hz hc).lift (by unfold execOp; rw [hop])
    · cases hg
  | box t x =>
    obtain ⟨gx, hx, hg⟩ := ob_eq hg
    cases hg
    obtain ⟨a, ha, hq⟩ := ob_eq hq
    obtain ⟨a', ha', hs⟩ := opS_some hx ha
    cases hs
    dsimp only at hq
    rw [fN_eq] at hq
    obtain ⟨m, hm, hq⟩ := ob_eq hq
    cases hq
    have hlen : llen (cellsOf a a) 0 = (cellsOf a a).length := by rw [llen_eq]; rfl
    rw [hlen] at hm ⊢
    exact (box_sound t (one (by simp [Op.operands]) ha') hm).lift (by unfold execOp; rw [hop])
  | buildSlice t len ps =>
    obtain ⟨i, hi, hg⟩ := ob_eq hg
    obtain ⟨e, hd, hg⟩ := ob_eq hg
    obtain ⟨ei, hei, hg⟩ := ob_eq hg
    rw [fN_eq] at hg
    rcases bc_eq hg with ⟨hn, hg⟩ | ⟨_, hg⟩
    · obtain ⟨z, hz, hg⟩ := ob_eq hg
      rcases bc_eq hg with ⟨hc, hg⟩ | ⟨_, hg⟩
      · rcases bc_eq hg with ⟨hl, hg⟩ | ⟨_, hg⟩
        · obtain ⟨gp, hgp, hg⟩ := ob_eq hg
          rw [fN_eq] at hg
          cases hg
          obtain ⟨as, has, hq⟩ := ob_eq hq
          obtain ⟨as', hall, he⟩ := partS_eq ps.toList hgp tm
          rw [he] at has
          cases has
          obtain ⟨m, hm, hq⟩ := ob_eq hq
          cases hq
          refine (buildSlice_sound hE hi hd hei (ble_le hn) hz hc hl hm (ps' := ps.map fun (i, x) => (i, ρ x)) ?_).lift (by unfold execOp; rw [hop])
          rw [Array.toList_map]
          exact parts_VR hall fun q hq => fun a ha => one (by simpa [Op.operands] using ⟨q.1, by simpa using hq⟩) ha
        · cases hg
      · cases hg
    · cases hg
  | makeSlice t l c =>
    obtain ⟨i, hi, hg⟩ := ob_eq hg
    obtain ⟨e, hd, hg⟩ := ob_eq hg
    obtain ⟨ei, hei, hg⟩ := ob_eq hg
    rcases bc_eq hg with ⟨hb, hg⟩ | ⟨_, hg⟩
    · obtain ⟨z, hz, hg⟩ := ob_eq hg
      rcases bc_eq hg with ⟨hc, hg⟩ | ⟨_, hg⟩
      · rcases bc_eq hg with ⟨hl, hg⟩ | ⟨_, hg⟩
        · obtain ⟨gl, hgl, hg⟩ := ob_eq hg
          obtain ⟨gc, hgc, hg⟩ := ob_eq hg
          rw [fN_eq] at hg
          cases hg
          obtain ⟨la, hla, hq1⟩ := opS_some hgl hq
          obtain ⟨ca, hca, hq2⟩ := opS_some hgc hq1
          obtain ⟨k, ln, rfl, hq3⟩ := onNat_eq hq2
          obtain ⟨k', cn, rfl, hq4⟩ := onNat_eq hq3
          rcases bc_eq hq4 with ⟨hlc, hq⟩ | ⟨_, hq⟩
          · rcases bc_eq hq with ⟨hcm, hq⟩ | ⟨_, hq⟩
            · rw [fN_eq] at hq
              cases hq
              have e1 := (one (x := l) (by simp [Op.operands]) hla).int_inv
              have e2 := (one (x := c) (by simp [Op.operands]) hca).int_inv
              refine (makeSlice_sound hE hi hd hei (ble_le hb) hz hc hl (ble_le hlc) (ble_le hcm) k k').lift ?_
              unfold execOp
              rw [hop]
              simp only [e1, e2]
              rfl
            · cases hq
          · cases hq
        · cases hg
      · cases hg
    · cases hg
  | makeMap t r =>
    have hmk : ∀ r' : Option Value, (∀ v, r' = some v → ∃ k n, v = .int k n) → (r'.isSome → ∃ a b, P.underlying t = some (.map a b)) → Makes φ P (Instr.makeMap t r') ⟨.map [], fun b => .map (some b)⟩ := by
      intro r' h1 h2 w
      refine ⟨.map #[] 0, .map (some w.heap.size), 0, ?_, nofun, fun φ' b hs hb => ⟨⟨#[], 0, heap_alloc_new w _, .nil⟩, VR.map hb⟩⟩
      cases r' with
      | none => simp [Instr.makeMap]
      | some v =>
        obtain ⟨k, n, rfl⟩ := h1 v rfl
        obtain ⟨a, b, hu⟩ := h2 rfl
        simp [Instr.makeMap, run_underlying hu, asInt, asIntOf]
    cases r with
    | none =>
      cases hg
      cases hq
      exact (hmk none (by intro v h; cases h) (by intro h; cases h)).lift (by unfold execOp; rw [hop]; rfl)
    | some r =>
      obtain ⟨i, hi, hg⟩ := ob_eq hg
      rcases bc_eq hg with ⟨hm, hg⟩ | ⟨_, hg⟩
      · obtain ⟨gr, hgr, hg⟩ := ob_eq hg
        cases hg
        obtain ⟨a, ha, hq1⟩ := opS_some hgr hq
        obtain ⟨k, n, rfl, hq2⟩ := onInt_eq hq1
        cases hq2
        obtain ⟨info, hti⟩ := hE.ti hi
        have e1 := (one (x := r) (by simp [Op.operands]) ha).int_inv
        refine (hmk (some (ρ r)) (by intro v h; cases h; exact ⟨k, n, e1⟩) (by
          intro _
          unfold isMpD at hm
          split at hm
          · rename_i a b hd; exact ⟨a, b, by rw [hti.und, hd]⟩
          · cases hm)).lift (by unfold execOp; rw [hop]; rfl)
      · cases hg
  | _ => cases hg
end
end Go.Ev
end

section
namespace Go.Ev
open Go

section
variable {φ : Map} {P : Program} {ρ : Operand → Value} {tm : FT} {E : Env} {w : World}

/-! ### The heap -/
/-- A map with one more block. -/
def Map.add (φ : Map) (b : Nat) (l : Loc) : Map := fun j => if j = b then some l else φ j
theorem Map.add_self (φ : Map) (b : Nat) (l : Loc) : φ.add b l b = some l := if_pos rfl
theorem Map.add_sub {φ : Map} {b : Nat} (l : Loc) (h : φ b = none) : Sub φ (φ.add b l) := fun j k hj => by
  have : j ≠ b := fun e => by subst e; rw [h] at hj; cases hj
  show (if j = b then some l else φ j) = some k
  rw [if_neg this]; exact hj
theorem Map.add_or {φ : Map} {b : Nat} {l : Loc} {j : Nat} {k : Loc} (h : φ.add b l j = some k) : (j = b ∧ k = l) ∨ (j ≠ b ∧ φ j = some k) := by
  by_cases e : j = b
  · left; subst e; exact ⟨rfl, by rw [Map.add_self] at h; cases h; rfl⟩
  · right; refine ⟨e, ?_⟩; have : (if j = b then some l else φ j) = some k := h; rwa [if_neg e] at this
/-- One more block on either side. -/
theorem Rel.new {h h' : Bl} (hr : Rel φ h w) {nx : Nat} (hnx : φ nx = none) {o : AObj} {c : Obj} {δ e : Nat} (hh : ∀ j, h' j = if j = nx then some o else h j) (ho : OR (φ.add nx ⟨w.heap.size, δ, e⟩) o ⟨w.heap.size, δ, e⟩ (w.alloc c)) :
    Rel (φ.add nx ⟨w.heap.size, δ, e⟩) h' (w.alloc c) where
  gl := fun g hg => by
    obtain ⟨e', he⟩ := hr.gl g hg
    exact ⟨e', Map.add_sub _ hnx g _ he⟩
  blk := fun b l o' hb ho' => by
    rw [hh] at ho'
    rcases Map.add_or hb with ⟨rfl, rfl⟩ | ⟨hne, hb'⟩
    · rw [if_pos rfl] at ho'; cases ho'; exact ho
    · rw [if_neg hne] at ho'
      by_cases hdd : o' = .dead
      · subst hdd; trivial
      · have hlt := (hr.blk b l o' hb' ho').lt hdd
        exact (hr.blk b l o' hb' ho').mono (Map.add_sub _ hnx) (heap_alloc_old w c _ hlt)
  inj := fun b b' l l' hb hb' hl hl' he => by
    have hlv : ∀ j, j ≠ nx → live h' j → live h j := fun j hj ⟨o', h1, h2⟩ => ⟨o', by rw [hh, if_neg hj] at h1; exact h1, h2⟩
    rcases Map.add_or hb with ⟨rfl, rfl⟩ | ⟨hne, hb1⟩
    · rcases Map.add_or hb' with ⟨rfl, rfl⟩ | ⟨hne', hb1'⟩
      · rfl
      · have := hr.lt hb1' (hlv _ hne' hl')
        dsimp only at he
        omega
    · rcases Map.add_or hb' with ⟨rfl, rfl⟩ | ⟨hne', hb1'⟩
      · have := hr.lt hb1 (hlv _ hne hl)
        dsimp only at he
        omega
      · exact hr.inj b b' l l' hb1 hb1' (hlv _ hne hl) (hlv _ hne' hl') he
/-- One block changed on either side. -/
theorem Rel.upd {h h' : Bl} (hr : Rel φ h w) {b : Nat} {l : Loc} (hb : φ b = some l) (hl : live h b) {o : AObj} {w' : World} (hw : ∀ j, j ≠ l.b → w'.heap[j]? = w.heap[j]?) (hh : ∀ j, h' j = if j = b then some o else h j) (ho : OR φ o l w') : Rel φ h' w' where
  gl := hr.gl
  blk := fun j k o' hj ho' => by
    rw [hh] at ho'
    by_cases hjb : j = b
    · subst hjb
      rw [if_pos rfl] at ho'; cases ho'
      rw [hb] at hj; cases hj
      exact ho
    · rw [if_neg hjb] at ho'
      by_cases hdd : o' = .dead
      · subst hdd; trivial
      · refine (hr.blk j k o' hj ho').mono (fun _ _ h => h) (hw _ fun e => hjb ?_)
        exact hr.inj j b k l hj hb ⟨o', ho', hdd⟩ hl e
  inj := fun j j' k k' hj hj' hv hv' he => by
    have hlv : ∀ j, live h' j → live h j := fun j ⟨o', h1, h2⟩ => by
      by_cases hjb : j = b
      · subst hjb; exact hl
      · rw [hh, if_neg hjb] at h1; exact ⟨o', h1, h2⟩
    exact hr.inj j j' k k' hj hj' (hlv _ hv) (hlv _ hv') he
theorem Ext.upd {H H' : AHeap} (hr : Rel φ H.at w) {b : Nat} (hge : 64 ≤ b) {l : Loc} (hb : φ b = some l) (hl : live H.at b) {o : AObj} {w' : World} (hnx : H'.next = H.next) (hw : ∀ j, j ≠ l.b → w'.heap[j]? = w.heap[j]?) (hsz : w'.heap.size = w.heap.size) (hh : ∀ j, H'.at j = if j = b then some o else H.at j)
    (h1 : w'.os = w.os) (h2 : w'.output = w.output) (h3 : w'.tape = w.tape) : Ext φ φ H H' w w' where
  sub := fun _ _ h => h
  new := fun _ _ h => .inl h
  nx := by omega
  sz := by omega
  abs := fun j _ hj => by
    rw [hh, if_neg]
    intro e; subst e; rw [hb] at hj; cases hj
  conc := fun j _ hn => hw j fun e => hn b l hb hl e.symm
  lv := fun j _ ⟨o', h4, h5⟩ => by
    by_cases hjb : j = b
    · subst hjb; exact hl
    · rw [hh, if_neg hjb] at h4; exact ⟨o', h4, h5⟩
  hk := fun g hg => by rw [hh, if_neg (by omega)]
  keep := fun g lg hg hlg hv => hw _ fun e => by
    have := hr.inj g b lg l hlg hb hv hl e
    omega
  os := h1
  out := h2
  tape := h3
theorem Ext.new' {H H' : AHeap} (hr : Rel φ H.at w) (h64 : 64 ≤ H.next) {o : AObj} {c : Obj} {δ e : Nat} (hnx : φ H.next = none) (hn : H'.next = H.next + 1) (hh : ∀ j, H'.at j = if j = H.next then some o else H.at j) : Ext φ (φ.add H.next ⟨w.heap.size, δ, e⟩) H H' w (w.alloc c) where
  sub := Map.add_sub _ hnx
  new := fun j k hj => by
    rcases Map.add_or hj with ⟨rfl, rfl⟩ | ⟨_, hj⟩
    · exact .inr ⟨Nat.le_refl _, .inl (Nat.le_refl _)⟩
    · exact .inl hj
  nx := by omega
  sz := by show w.heap.size ≤ (w.heap.push c).size; simp
  abs := fun j hj _ => by rw [hh, if_neg (by omega)]
  conc := fun j hj _ => heap_alloc_old w c j hj
  lv := fun j hj ⟨o', h4, h5⟩ => by rw [hh, if_neg (by omega)] at h4; exact ⟨o', h4, h5⟩
  hk := fun g hg => by rw [hh, if_neg (by omega)]
  keep := fun g lg hg hlg hv => heap_alloc_old w c _ (hr.lt hlg hv)
  os := rfl
  out := rfl
  tape := rfl
theorem Dom.ge {H : AHeap} {h : Bl} {w : World} (hD : Dom φ H) (hr : Rel φ h w) : 64 ≤ H.next := by
  obtain ⟨e, he⟩ := hr.gl 63 (by omega)
  have := hD.lt 63 _ he
  omega
theorem Dom.no {H : AHeap} (h : Dom φ H) : φ H.next = none := by
  cases hx : φ H.next with
  | none => rfl
  | some l => have := h.lt _ l hx; omega
theorem Dom.add {H H' : AHeap} (h : Dom φ H) {l : Loc} {o : AObj} (hn : H'.next = H.next + 1) (hh : ∀ j, H'.at j = if j = H.next then some o else H.at j) : Dom (φ.add H.next l) H' where
  lt := fun j k hj => by
    rcases Map.add_or hj with ⟨rfl, _⟩ | ⟨_, hj⟩
    · omega
    · have := h.lt j k hj; omega
  wf := fun j hj => by rw [hh, if_neg (by omega)]; exact h.wf j (by omega)
theorem Dom.set {H H' : AHeap} (h : Dom φ H) {b : Nat} {o : AObj} (hn : H'.next = H.next) (hb : live H.at b) (hh : ∀ j, H'.at j = if j = b then some o else H.at j) : Dom φ H' where
  lt := fun j k hj => by rw [hn]; exact h.lt j k hj
  wf := fun j hj => by
    rw [hn] at hj
    obtain ⟨o', ho', _⟩ := hb
    have : j ≠ b := fun e => by subst e; rw [h.wf j hj] at ho'; cases ho'
    rw [hh, if_neg this]; exact h.wf j hj

/-! ### Cells that are stored -/
theorem cell_oneCell {v : AV} {v' : Value} (h : VR φ v v') (hc : isCell v = true) : v'.oneCell' = true := by
  cases h <;> first | rfl | cases hc
theorem run_storeAll (b o : Nat) (el : TypeId) (fr : Nat × Nat) : ∀ (vs : List Value) (i : Nat) (arr : Array Value) (w : World), w.heap[b]? = some (.cells arr el fr) → Fz fr arr.size → o + i + vs.length ≤ arr.size → (∀ v, v ∈ vs → v.oneCell' = true) →
    (storeCells ⟨b, o, none⟩ vs i).run P w = .ok () { w with heap := w.heap.setIfInBounds b (.cells ((vs.zipIdx i).foldl (fun a x => a.setIfInBounds (o + x.2) x.1) arr) el fr) } := by
  intro vs
  induction vs with
  | nil =>
    intro i arr w hb _ _ _
    have hlt := (Array.getElem?_eq_some_iff.mp hb).1
    have : w.heap.setIfInBounds b (.cells arr el fr) = w.heap := by
      apply Array.ext_getElem?
      intro j
      rw [Array.getElem?_setIfInBounds]
      by_cases hj : b = j
      · subst hj; rw [if_pos rfl, if_pos hlt, hb]
      · rw [if_neg hj]
    simp only [storeCells, Sem.run_pure, List.zipIdx_nil, List.foldl_nil, this]
  | cons v vs ih =>
    intro i arr w hb hfr hsz hone
    simp only [List.length_cons] at hsz
    have hlt := (Array.getElem?_eq_some_iff.mp hb).1
    have hadd : (Addr.mk b o none).add i = ⟨b, o + i, none⟩ := by simpa using addr_add b o 0 i
    have hcell : w.cell? ⟨b, o + i, none⟩ = some arr[o + i] := by rw [cell_of_row w _ _ arr el fr hb]; exact Array.getElem?_eq_getElem (by omega)
    have hfz : w.frozen? ⟨b, o + i, none⟩ = false := by
      have := hfr.no (i := o + i) (by omega)
      obtain ⟨lo, hi⟩ := fr
      simp only [World.frozen?, hb]
      simpa using this
    have hset : w.setCell ⟨b, o + i, none⟩ v = { w with heap := w.heap.setIfInBounds b (.cells (arr.setIfInBounds (o + i) v) el fr) } := by
      unfold World.setCell
      congr 1
      apply Array.ext_getElem?
      intro j
      rw [Array.getElem?_modify, Array.getElem?_setIfInBounds]
      by_cases hj : b = j
      · subst hj
        rw [if_pos rfl, if_pos rfl, hb, if_pos hlt]
        simp
      · rw [if_neg hj, if_neg hj]
    simp only [storeCells, Sem.run_bind, hadd, run_store P w _ v .plain (hone v (by simp)), hcell, hfz, Bool.false_eq_true, if_false, Result.andThen_ok, hset]
    rw [ih (i + 1) (arr.setIfInBounds (o + i) v) { w with heap := w.heap.setIfInBounds b (.cells (arr.setIfInBounds (o + i) v) el fr) } (by simp [hlt]) (by simpa using hfr) (by simp; omega) (fun u hu => hone u (by simp [hu]))]
    simp only [List.zipIdx_cons, List.foldl_cons]
    congr 2
    apply Array.ext_getElem?
    intro j
    simp only [Array.getElem?_setIfInBounds]
    split <;> simp_all

/-- The heaps after a step on one world agree, and what else is kept. -/
structure Step (φ φ' : Map) (H H' : AHeap) (w w' : World) : Prop where
  rel : Rel φ' H'.at w'
  ext : Ext φ φ' H H' w w'
  dom : Dom φ' H'
theorem hSet_some {H H' : AHeap} {b : Nat} {o : AObj} (h : hSet H b o some = some H') : H'.next = H.next ∧ ∀ j, H'.at j = if j = b then some o else H.at j := by
  obtain ⟨H1, h1, h2, h3⟩ := hSet_eq h
  cases h3
  exact ⟨h1, h2⟩
theorem live_of {h : Bl} {b : Nat} {o : AObj} (h1 : h b = some o) (h2 : o ≠ .dead) : live h b := ⟨o, h1, h2⟩
/-- One block's cells changed. -/
theorem Step.set {H H' : AHeap} (hr : Rel φ H.at w) (hD : Dom φ H) {b : Nat} {l : Loc} (hb : φ b = some l) {o o' : AObj} (ho : H.at b = some o) (hd : o ≠ .dead) (hs : hSet H b o' some = some H') {c : Obj}
    (hor : OR φ o' l { w with heap := w.heap.setIfInBounds l.b c }) : Step φ φ H H' w { w with heap := w.heap.setIfInBounds l.b c } := by
  obtain ⟨h1, h2⟩ := hSet_some hs
  have hw : ∀ j, j ≠ l.b → ({ w with heap := w.heap.setIfInBounds l.b c } : World).heap[j]? = w.heap[j]? := fun j hj => by
    show (w.heap.setIfInBounds l.b c)[j]? = _
    rw [Array.getElem?_setIfInBounds, if_neg (Ne.symm hj)]
  exact ⟨hr.upd hb (live_of ho hd) hw h2 hor, Ext.upd hr (hSet_ge hs) hb (live_of ho hd) h1 hw (by simp) h2 rfl rfl rfl, hD.set h1 (live_of ho hd) h2⟩
theorem Step.refl {H : AHeap} (hr : Rel φ H.at w) (hD : Dom φ H) : Step φ φ H H w w := ⟨hr, Ext.refl, hD⟩
theorem storeN_sound {H H' : AHeap} (hr : Rel φ H.at w) (hD : Dom φ H) {b off : Nat} {l : Loc} (hb : φ b = some l) {cs : List AV} {cs' : List Value} (hv : VRs φ cs cs') (hs : storeN H b off cs = some H') :
    ∃ w', (storeCells ⟨l.b, l.δ + off, none⟩ cs' 0).run P w = .ok () w' ∧ Step φ φ H H' w w' := by
  obtain ⟨o, ho, hs⟩ := hGet_eq hs
  obtain ⟨sz, n, z, m, rfl, hs⟩ := onCells_eq hs
  obtain ⟨m', hm, hs⟩ := ob_eq hs
  obtain ⟨arr, el, fr, h1, h2, h3, h4, h5⟩ := hr.cells hb ho
  obtain ⟨hle, hcell, _⟩ := wcells_eq _ _ _ _ hm
  have hlt := (Array.getElem?_eq_some_iff.mp h1).1
  have hl := hv.length
  rcases hle with rfl | hle
  · cases hv
    cases hm
    refine ⟨{ w with heap := w.heap.setIfInBounds l.b (.cells arr el fr) }, ?_, Step.set hr hD hb ho nofun hs ⟨arr, el, fr, by simp [hlt], h2, h3, h4, h5⟩⟩
    have : w.heap.setIfInBounds l.b (.cells arr el fr) = w.heap := by
      apply Array.ext_getElem?
      intro j
      rw [Array.getElem?_setIfInBounds]
      by_cases hj : l.b = j
      · subst hj; rw [if_pos rfl, if_pos hlt, h1]
      · rw [if_neg hj]
    rw [this]
    rfl
  · have hone : ∀ v, v ∈ cs' → v.oneCell' = true := by
      intro v hvm
      obtain ⟨i, hi⟩ := List.getElem?_of_mem hvm
      have hil : i < cs.length := by rw [hl]; exact (List.getElem?_eq_some_iff.mp hi).1
      obtain ⟨v', h6, h7⟩ := hv.get i _ (List.getElem?_eq_getElem hil)
      rw [hi] at h6; cases h6
      exact cell_oneCell h7 (hcell _ (List.getElem_mem hil))
    refine ⟨_, run_storeAll l.b (l.δ + off) el fr cs' 0 arr w h1 h4 (by omega) hone, Step.set hr hD hb ho nofun hs ?_⟩
    have hc : CR' φ n z m arr l.δ := h5
    refine ⟨_, el, fr, Array.getElem?_setIfInBounds_self_of_lt hlt, by rw [setAll_size]; exact h2, by rw [setAll_size]; exact h3, by rw [setAll_size]; exact h4, hc.set hv hm h3⟩

/-! ### Store -/
theorem hGet_fwd {γ δ : Type} {H : AHeap} {b : Nat} {f : AObj → Option γ} {r : γ} (h : hGet H b f = some r) {o : AObj} (ho : H.at b = some o) (g : AObj → Option δ) : hGet H b g = g o := by
  obtain ⟨q, hq, h⟩ := ob_eq h
  rcases bc_eq hq with ⟨hb, hq'⟩ | ⟨_, hq'⟩
  · obtain ⟨g', hg', e⟩ := tatS_eq (α := Option AObj) 7 b
    rw [hg'] at hq'; cases hq'
    unfold hGet
    rw [hq, ob_some]
    show ob (q H.m) g = g o
    rw [e]
    have : tget 7 H.m b = some o := by rw [AHeap.at, hb] at ho; exact ho
    rw [this]; rfl
  · cases hq'
theorem isCell_cells {v : AV} {v' : Value} (h : VR φ v v') (hc : isCell v = true) : v'.cells = #[v'] := by
  cases h <;> first | rfl | cases hc
theorem store_sound (hE : EnvOK P E) {H H' : AHeap} (hr : Rel φ H.at w) (hD : Dom φ H) {t : Nat} {i : TI} (ht : E.tt t = some i) {g : MF} {a x : Operand} {ga gx : FT → (AV → Option ON) → Option ON} (hga : opS a = some ga) (hgx : opS x = some gx) (hg : storeS i ga gx = some g) {n : ONext} (hv : g tm H = some ⟨n, H'⟩)
    {a' x' : Value} (ha : ∀ u, opd a tm = some u → VR φ u a') (hx : ∀ u, opd x tm = some u → VR φ u x') : n = .skip ∧ ∃ w', (Instr.storeAt t a' x').run P w = .ok () w' ∧ Step φ φ H H' w w' := by
  obtain ⟨info, hti⟩ := hE.ti ht
  unfold storeS at hg
  rw [fN_eq] at hg
  rcases bc_eq hg with ⟨hag, hg⟩ | ⟨hag, hg⟩
  · cases hg
    obtain ⟨ua, hua, hv⟩ := opS_some hga hv
    obtain ⟨ux, hux, hv⟩ := opS_some hgx hv
    rcases bc_eq hv with ⟨hl, hv⟩ | ⟨_, hv⟩
    · obtain ⟨b, off, rfl, hv⟩ := onAddr_eq hv
      obtain ⟨H1, hs, hv⟩ := ob_eq hv
      cases hv
      obtain ⟨l, hb, rfl⟩ := (ha _ hua).addr_inv
      have hcv := cells_VRs (hx _ hux)
      obtain ⟨w', hrun, hst⟩ := storeN_sound (P := P) hr hD hb hcv hs
      refine ⟨rfl, w', ?_, hst⟩
      have hsz : x'.cells.size = i.size := by
        have := hcv.length
        rw [nbeq, llen_eq] at hl
        simp at this hl
        omega
      simp only [Instr.storeAt, Instr.sureAddr, storeVar, Sem.run_bind, Sem.run_pure, Result.andThen_ok, hti.run_size, hsz, ne_eq, not_true_eq_false, if_false]
      exact hrun
    · cases hv
  · rcases bc_eq hg with ⟨h1, hg⟩ | ⟨_, hg⟩
    · cases hg
      obtain ⟨ua, hua, hv⟩ := opS_some hga hv
      obtain ⟨ux, hux, hv⟩ := opS_some hgx hv
      rcases bc_eq hv with ⟨hc, hv⟩ | ⟨_, hv⟩
      · obtain ⟨b, off, rfl, hv⟩ := onAddr_eq hv
        obtain ⟨l, hb, rfl⟩ := (ha _ hua).addr_inv
        have hcells := isCell_cells (hx _ hux) hc
        have hs : storeN H b off [ux] = some H' ∧ n = .skip := by
          have hv0 := hv
          obtain ⟨o, ho, hv⟩ := hGet_eq hv
          obtain ⟨sz, m, z, mm, rfl, hv⟩ := onCells_eq hv
          obtain ⟨hH, hn⟩ : (cSet m mm off ux fun m' => hSet H b (.cells sz m z m') some) = some H' ∧ n = .skip := by
            rcases bc_eq hv with ⟨h6, hv⟩ | ⟨_, hv⟩
            · rcases bc_eq hv with ⟨h7, hv⟩ | ⟨_, hv⟩
              · obtain ⟨m', hm', hv⟩ := ob_eq hv
                obtain ⟨H1, hp, hv⟩ := ob_eq hv
                cases hv
                refine ⟨?_, rfl⟩
                unfold cSet
                rw [h6, h7, bc_true, bc_true, hm', ob_some]
                unfold hSet
                rw [hp, ob_some]
              · cases hv
            · cases hv
          refine ⟨?_, hn⟩
          unfold storeN
          rw [hGet_fwd hv0 ho]
          show ob (cSet m mm off ux fun m' => fN (Nat.succ off) fun i => wcells m [] i m') (fun m' => hSet H b (.cells sz m z m') some) = some H'
          rw [← hH]
          unfold cSet
          cases Nat.blt off m with
          | true => cases isCell ux with
            | true => rw [bc_true, bc_true]; cases cWrite mm off ux with
              | some m' => rw [ob_some, fN_eq]; rfl
              | none => rfl
            | false => rfl
          | false => rfl
        obtain ⟨hs, rfl⟩ := hs
        obtain ⟨w', hrun, hst⟩ := storeN_sound (P := P) hr hD hb (VRs.cons (hx _ hux) .nil) hs
        refine ⟨rfl, w', ?_, hst⟩
        have hsz : (1 : Nat) = i.size := by rw [nbeq] at h1; simpa using (of_decide_eq_true h1).symm
        simp only [Instr.storeAt, Instr.sureAddr, storeVar, Sem.run_bind, Sem.run_pure, Result.andThen_ok, hti.run_size, hcells, ← hsz]
        simpa using hrun
      · cases hv
    · cases hg

/-! ### Maps -/
theorem sbeq_true : ∀ {x y : List Nat}, sbeq x y = true → x = y := by
  intro x
  induction x with
  | nil => intro y h; cases y with
    | nil => rfl
    | cons b y => cases h
  | cons a x ih =>
    intro y h
    cases y with
    | nil => cases h
    | cons b y =>
      have h' : bc (Nat.beq a b) (sbeq x y) false = true := h
      rw [nbeq] at h'
      by_cases hab : a = b
      · subst hab
        simp only [decide_true, bc_true] at h'
        rw [ih h']
      · simp only [hab, decide_false, bc_false] at h'
        cases h'
theorem strL_inj {a b : ByteArray} (h : strL a = strL b) : a = b := by
  obtain ⟨⟨a⟩⟩ := a
  obtain ⟨⟨b⟩⟩ := b
  unfold strL at h
  dsimp only at h
  have : a = b := by
    induction a generalizing b with
    | nil => cases b with
      | nil => rfl
      | cons y b => cases h
    | cons x a ih => cases b with
      | nil => cases h
      | cons y b =>
        simp only [List.map_cons, List.cons.injEq] at h
        rw [UInt8.toNat_inj.mp h.1, ih b h.2]
  rw [this]
theorem eqS_bits {x y : AV} (h : eqS x y = some true) {x' y' : Value} (hx : VR φ x x') (hy : VR φ y y') (n : Nat) : Instr.sameBits n x' y' = true := by
  cases hx <;> first | (cases h; done) | skip
  case bool a =>
    cases hy <;> first | (cases h; done) | skip
    rename_i b
    have h' : some (bc a b (bnot b)) = some true := h
    cases a <;> cases b <;> first | (cases h'; done) | (cases n <;> rfl)
  case int k a =>
    cases hy <;> first | (cases h; done) | skip
    rename_i k' b
    rcases bc_eq (show bc (Nat.beq (kix k) (kix k')) (some (ieq a b)) none = some true from h) with ⟨hk, h1⟩ | ⟨_, h1⟩
    · have := kix_inj hk
      subst this
      rw [ieq_eq] at h1
      have hab : a = b := by simpa using h1
      subst hab
      cases n <;> simp [Instr.sameBits]
    · cases h1
  case str a =>
    cases hy <;> first | (cases h; done) | skip
    rename_i b
    have h' : some (sbeq (strL a) (strL b)) = some true := h
    have := strL_inj (sbeq_true (Option.some.inj h'))
    subst this
    have e : (a == a) = true := by rw [beq_toListBytes]; simp
    cases n <;> exact e
theorem sameS_bits (n : Nat) : ∀ {xs ys : List AV}, sameS xs ys = true → ∀ {xs' ys' : List Value}, VRs φ xs xs' → VRs φ ys ys' → xs'.length = ys'.length ∧ (xs'.zip ys').all (fun (x, y) => Instr.sameBits n x y) = true := by
  intro xs
  induction xs with
  | nil => intro ys h xs' ys' hx hy; cases ys with
    | nil => cases hx; cases hy; exact ⟨rfl, rfl⟩
    | cons y ys => cases h
  | cons x xs ih =>
    intro ys h xs' ys' hx hy
    cases ys with
    | nil => cases h
    | cons y ys =>
      cases hx with
      | cons h1 h2 => cases hy with
        | cons h3 h4 =>
          have h' : orec false (fun b => bc b (sameS xs ys) false) (eqS x y) = true := h
          cases he : eqS x y with
          | none => rw [he] at h'; cases h'
          | some b =>
            rw [he] at h'
            cases b with
            | false => cases h'
            | true =>
              obtain ⟨h5, h6⟩ := ih h' h2 h4
              refine ⟨by simp [h5], ?_⟩
              rw [List.zip_cons_cons, List.all_cons, h6, Bool.and_true]
              exact eqS_bits he h1 h3 n
theorem sameK_bits {x y : AV} (h : sameK x y = true) {x' y' : Value} (hx : VR φ x x') (hy : VR φ y y') (n : Nat) : Instr.sameBits (n + 1) x' y' = true := by
  have key : orec false (fun b => b) (eqS x y) = true → Instr.sameBits (n + 1) x' y' = true := by
    intro h
    cases he : eqS x y with
    | none => rw [he] at h; cases h
    | some b => rw [he] at h; cases b with
      | false => cases h
      | true => exact eqS_bits he hx hy (n + 1)
  cases x with
  | agg a =>
    cases y with
    | agg b =>
      obtain ⟨a', rfl, ha⟩ := hx.agg_inv
      obtain ⟨b', rfl, hb⟩ := hy.agg_inv
      obtain ⟨h1, h2⟩ := sameS_bits n h ha hb
      simp only [Instr.sameBits, List.size_toArray, h1, beq_self_eq_true, Bool.true_and]
      exact h2
    | _ => cases h
  | _ => exact key h
theorem All2.append {α β : Type} {R : α → β → Prop} {l : List α} {r : List β} (h : All2 R l r) {l' : List α} {r' : List β} (h' : All2 R l' r') : All2 R (l ++ l') (r ++ r') := by
  induction h with
  | nil => exact h'
  | cons h _ ih => exact .cons h ih
theorem All2.get {α β : Type} {R : α → β → Prop} {l : List α} {r : List β} (h : All2 R l r) : ∀ {i : Nat} {x : α}, l[i]? = some x → ∃ y, r[i]? = some y ∧ R x y := by
  induction h with
  | nil => intro i x hx; simp at hx
  | cons h _ ih =>
    intro i x hx
    cases i with
    | zero => simp at hx; subst hx; exact ⟨_, rfl, h⟩
    | succ i => simp at hx; obtain ⟨y, h1, h2⟩ := ih hx; exact ⟨y, by simpa using h1, h2⟩
theorem All2.lset {α β : Type} {R : α → β → Prop} {l : List α} {r : List β} (h : All2 R l r) (x : α) (f : β → β) : ∀ i, (∀ y, r[i]? = some y → R x (f y)) → All2 R (Ev.lset x l i) (r.modify i f) := by
  induction h with
  | nil => intro i _; simp; exact .nil
  | cons h ht ih =>
    intro i hf
    rename_i a b l r
    cases i with
    | zero => exact .cons (hf _ rfl) ht
    | succ i =>
      rw [List.modify_succ_cons]
      exact .cons h (ih i fun y hy => hf y (by simpa using hy))
theorem mapUpd_sound (hE : EnvOK P E) {H H' : AHeap} (hr : Rel φ H.at w) (hD : Dom φ H) {t : Nat} {i : TI} (ht : E.tt t = some i) {f : AV → AV → AV → AHeap → Option AHeap} (hf : mapUpdD i.d E = some f) {x k v : AV} (hv : f x k v H = some H') {x' k' v' : Value}
    (hx : VR φ x x') (hk : VR φ k k') (hvv : VR φ v v') : ∃ w', (Instr.mapUpdate t x' k' v').run P w = .ok () w' ∧ Step φ φ H H' w w' := by
  obtain ⟨info, hti⟩ := hE.ti ht
  unfold mapUpdD at hf
  split at hf
  · rename_i kt e hd
    obtain ⟨q, hq, hf⟩ := ob_eq hf
    cases hf
    obtain ⟨p, rfl, hv1⟩ := onMap_eq hv
    obtain ⟨b, rfl, hv2⟩ := ob_eq hv1
    obtain ⟨o, ho, hv3⟩ := hGet_eq hv2
    obtain ⟨es, rfl, hv4⟩ := onEnts_eq hv3
    cases hx with
    | map hl =>
      rename_i l
      obtain ⟨ces, ck, h1, h2⟩ := hr.blk _ _ _ hl ho
      have hlt := (Array.getElem?_eq_some_iff.mp h1).1
      rcases bc_eq hv4 with ⟨hkey, hv5⟩ | ⟨_, hv5⟩
      · obtain ⟨r, hr1, hv6⟩ := ob_eq hv5
        have hck := fun e w => keyT_sound hE 20 kt q hq φ k k (keyOK_eq hkey) k' hk 10000 (by decide) e w
        obtain ⟨ki, hki, _⟩ := ob_eq (show ob (E.tt kt) (fun i => eqTD E (eqT E 19) i.held i.d) = some q from hq)
        obtain ⟨kinfo, hkti⟩ := hE.ti hki
        obtain ⟨r', hfk, hfr⟩ := findKey_sound (w := w) hkti.und (by decide) (eqT_sound hE 20 kt q hq) hk h2 hr1
        have hund := run_underlying (P := P) (hti.und.trans (congrArg some hd))
        cases r with
        | none =>
          cases r' with
          | some p => exact absurd hfr (by simp [FoundR])
          | none =>
            refine ⟨{ w with heap := w.heap.setIfInBounds l.b (.map (ces.push { key := k', val := v', born := ck }) (ck + 1)) }, ?_, Step.set hr hD hl ho nofun hv6 ⟨_, _, Array.getElem?_setIfInBounds_self_of_lt hlt, ?_⟩⟩
            · simp [Instr.mapUpdate, hund, MapKept.run_getObj_map h1, hck, hfk, MapKept.run_setObj_map _ h1]
            · rw [lapp_eq, Array.toList_push]
              exact h2.append (.cons ⟨hk, hvv⟩ .nil)
        | some p =>
          cases r' with
          | none => exact absurd hfr (by simp [FoundR])
          | some p' =>
            obtain ⟨hp1, _⟩ := hfr
            obtain ⟨en, hen, hv7⟩ := ob_eq (show ob (lnth es p.1) (fun e => bc (sameK e.1 k) (hSet H b (.map (lset (k, v) es p.1)) some) none) = some H' from hv6)
            rcases bc_eq hv7 with ⟨hsame, hv8⟩ | ⟨_, hv8⟩
            · rw [lnth_eq] at hen
              obtain ⟨c, hc1, hc2⟩ := h2.get hen
              have hbits := sameK_bits hsame hc2.1 hk 9999
              have hc1' : ces[p'.1]? = some c := by rw [← hp1]; simpa using hc1
              refine ⟨{ w with heap := w.heap.setIfInBounds l.b (.map (ces.modify p'.1 fun e => { e with key := k', val := v' }) ck) }, ?_, Step.set hr hD hl ho nofun hv8 ⟨_, _, Array.getElem?_setIfInBounds_self_of_lt hlt, ?_⟩⟩
              · simp [Instr.mapUpdate, hund, MapKept.run_getObj_map h1, hck, hfk, hc1', Instr.keyThatStays, hbits, MapKept.run_setObj_map _ h1]
              · rw [Array.toList_modify, hp1]
                exact h2.lset _ _ _ fun y hy => ⟨hk, hvv⟩
            · cases hv8
      · cases hv5
  · cases hf

/-! ### Cells that are taken from a slice or a string -/
theorem src_slc {H : AHeap} (hr : Rel φ H.at w) {sz n b off len : Nat} {c : Cap} {x' : Value} (hx : VR φ (.slc (some (b, off)) len c) x') (hn : n ≤ len) {sz' n' : Nat} {z : List AV} {m : CT} (ho : H.at b = some (.cells sz' n' z m)) {cs : List AV} (hl : loadN n' z m (n * sz) off = some cs) :
    ∃ cs' : List Value, VRs φ cs cs' ∧ ∀ w' : World, w'.heap = w.heap → (Builtin.firstCells sz n x').run P w' = .ok cs'.toArray w' := by
  by_cases h0 : n = 0
  · subst h0
    obtain ⟨hlen, _⟩ := loadN_eq hl
    have hcs : cs = [] := List.eq_nil_of_length_eq_zero (by rw [hlen]; simp)
    subst hcs
    obtain ⟨a, c', rfl, l, a', _, rfl, _⟩ := hx.slc_inv
    exact ⟨[], .nil, fun w' _ => by simp [Builtin.firstCells, loadCells, loadCellsFrom]⟩
  · obtain ⟨l, c', hb, rfl⟩ := hx.slc_at (by omega)
    obtain ⟨cs', h1, h2, _⟩ := loadCells_sound (P := P) hr hb ho hl
    exact ⟨cs', h1, fun w' hw => by simpa [Builtin.firstCells] using h2 w' hw⟩
theorem byteV_eq {b : Nat} {v : AV} (h : byteV b = some v) : v = .int .u8 (b : Int) := by
  unfold byteV at h
  rw [fN_eq] at h
  cases h
  rfl
theorem bytes_str : ∀ (l : List UInt8) (cs : List AV), lmap byteV (l.map (·.toNat)) = some cs → VRs φ cs (l.map fun b => Value.int .u8 b.toNat) := by
  intro l cs h0
  have h := lmap_spec _ _ _ h0
  clear h0
  induction l generalizing cs with
  | nil => cases h; exact .nil
  | cons b l ih =>
    cases h with
    | cons h1 h2 =>
      rw [byteV_eq h1]
      exact .cons (.int .u8 _) (ih _ h2)
theorem src_str (s : ByteArray) (n : Nat) {cs : List AV} (h : lmap byteV ((strL s).take n) = some cs) : ∃ cs', VRs φ cs cs' ∧ ∀ w, (Builtin.firstCells 1 n (.string s)).run P w = .ok cs'.toArray w := by
  have e : (strL s).take n = ((s.data.toList.take n).map (·.toNat)) := by unfold strL; rw [List.map_take]
  rw [e] at h
  refine ⟨_, bytes_str _ _ h, fun w => ?_⟩
  have : (Builtin.firstCells 1 n (.string s)).run P w = .ok ((s.extract 0 n).data.map fun b => .int .u8 b.toNat) w := rfl
  rw [this]
  congr 1
  apply Array.ext'
  rw [Array.toList_map, ByteArray.data_extract, Array.toList_extract]
  simp

theorem nmin_le (a b : Nat) : nmin a b = min a b := nmin_eq a b
theorem lenOf_eq {x : AV} {n : Nat} (h : lenOf x = some n) {x' : Value} (hx : VR φ x x') : (∃ p c, x = .slc p n c) ∨ ∃ s : ByteArray, x = .str (strL s) ∧ x' = .string s ∧ n = s.size := by
  cases hx <;> first | (cases h; done) | (cases h; exact .inl ⟨_, _, rfl⟩) | skip
  rename_i s
  have h' : fN (llen (strL s) 0) some = some n := h
  rw [fN_eq, llen_eq, strL_length] at h'
  cases h'
  exact .inr ⟨s, rfl, rfl, rfl⟩
theorem run_lenOf {x : AV} {n : Nat} (h : lenOf x = some n) {x' : Value} (hx : VR φ x x') (w : World) : (Builtin.lenOf x').run P w = .ok n w := by
  rcases lenOf_eq h hx with ⟨p, c, rfl⟩ | ⟨s, rfl, rfl, rfl⟩
  · obtain ⟨a, c', rfl, _⟩ := hx.slc_inv
    rfl
  · rfl

theorem first_zero {sz sl : Nat} {x : AV} (hsl : lenOf x = some sl) {x' : Value} (hx : VR φ x x') : (Builtin.firstCells sz 0 x').run P w = .ok #[] w := by
  rcases lenOf_eq hsl hx with ⟨p', c'', rfl⟩ | ⟨str, rfl, rfl, hss⟩
  · obtain ⟨a2, c2, rfl, _⟩ := hx.slc_inv
    cases a2 with
    | none => simp [Builtin.firstCells]
    | some a2 => simp [Builtin.firstCells, loadCells, loadCellsFrom]
  · have : (Builtin.firstCells sz 0 (.string str)).run P w = .ok ((str.extract 0 0).data.map fun b => .int .u8 b.toNat) w := rfl
    rw [this]
    congr 1
    apply Array.ext'
    rw [Array.toList_map, ByteArray.data_extract, Array.toList_extract]
    simp
/-- A block whose cells are shared with a slice's. -/
theorem shareA_sound {H : AHeap} (hr : Rel φ H.at w) {sz n len : Nat} {x : AV} {x' : Value} (hx : VR φ x x') (hn : lenOf x = some len) (hle : n ≤ len) {o : AObj} (h : shareA sz n x H = some o) :
    ∃ (z : List AV) (m : CT) (cs' : List Value), o = .cells sz (n * sz) z m ∧ (∀ w' : World, w'.heap = w.heap → (Builtin.firstCells sz n x').run P w' = .ok cs'.toArray w') ∧ cs'.length = n * sz ∧ CR' φ (n * sz) z m cs'.toArray 0 := by
  unfold shareA at h
  split at h
  · rename_i q len' c
    rcases bc_eq h with ⟨hq, h⟩ | ⟨_, h⟩
    · obtain ⟨ob', ho, hh1⟩ := hGet_eq h
      obtain ⟨sz', n', z, m, rfl, hh2⟩ := onCells_eq hh1
      rw [fN_eq] at hh2
      rcases bc_eq hh2 with ⟨hk, h⟩ | ⟨_, h⟩
      · cases h
        have hk := ble_le hk
        have hk : n * sz ≤ n' := hk
        cases hn
        obtain ⟨b, off⟩ := q
        have hq : off = 0 := by rw [nbeq] at hq; simpa using hq
        subst hq
        by_cases h0 : n * sz = 0
        · refine ⟨z, m, [], rfl, ?_, by simpa using h0.symm, fun i hi => by omega⟩
          obtain ⟨a, c', rfl, l, a', _, rfl, _⟩ := hx.slc_inv
          intro w' _
          simp [Builtin.firstCells, h0, loadCells, loadCellsFrom]
        · have hn0 : 0 < n := by rcases Nat.eq_zero_or_pos n with h1 | h1; · subst h1; simp at h0
                                 · exact h1
          obtain ⟨l, c', hb, rfl⟩ := hx.slc_at (by omega)
          obtain ⟨arr, el, fr, h1, h2, h3, h4, h5⟩ := hr.cells hb ho
          have hcell : ∀ j, j < n * sz → ∃ v v', cellAt (n * sz) z m j = some v ∧ isCell v = true ∧ arr[l.δ + j]? = some v' ∧ VR φ v v' := by
            intro j hj
            obtain ⟨v, v', a, b, c, d⟩ := h5 j (by omega)
            refine ⟨v, v', ?_, b, c, d⟩
            unfold cellAt at a ⊢
            rw [show Nat.blt j n' = true by rw [nblt]; simp; omega] at a
            rw [show Nat.blt j (n * sz) = true by rw [nblt]; simpa using hj]
            exact a
          let f : Nat → Value := fun j => (arr[l.δ + j]?).getD undef
          have hrun := fun (w' : World) (hw : w'.heap = w.heap) => run_loadCells (P := P) w' ⟨l.b, l.δ + 0, none⟩ (n * sz) f (fun j hj => by
            obtain ⟨v, v', _, _, c, _⟩ := hcell j hj
            rw [addr_add, cell_of_row w' _ _ arr el fr (by rw [hw]; exact h1), Nat.zero_add, c]
            show _ = some ((arr[l.δ + j]?).getD undef)
            rw [c]; rfl)
          refine ⟨z, m, (List.range (n * sz)).map f, rfl, fun w' hw => by simpa [Builtin.firstCells] using hrun w' hw, by simp, ?_⟩
          intro j hj
          obtain ⟨v, v', a, b, c, d⟩ := hcell j hj
          refine ⟨v, v', a, b, ?_, d⟩
          simp [hj, f, c]
      · cases h
    · cases h
  · cases h
theorem setAll_all (cs' : List Value) (arr : Array Value) (δ : Nat) (h : δ + cs'.length ≤ arr.size) {n : Nat} {z : List AV} {m : CT} (hn : cs'.length = n) (hc : CR' φ n z m cs'.toArray 0) : CR' φ n z m ((cs'.zipIdx).foldl (fun a x => a.setIfInBounds (δ + x.2) x.1) arr) δ := by
  intro i hi
  obtain ⟨v, v', a, b, c, d⟩ := hc i hi
  refine ⟨v, v', a, b, ?_, d⟩
  rw [setAll_get δ cs' 0 arr (by simpa using h), if_pos (by omega)]
  rw [Nat.zero_add] at c
  rw [← c]
  simp
/-- A block whose description changes, and the model's heap does not. -/
theorem Step.same {H H' : AHeap} (hr : Rel φ H.at w) (hD : Dom φ H) {b : Nat} {l : Loc} (hb : φ b = some l) {o o' : AObj} (ho : H.at b = some o) (hd : o ≠ .dead) (hs : hSet H b o' some = some H') (hor : OR φ o' l w) : Step φ φ H H' w w := by
  obtain ⟨h1, h2⟩ := hSet_some hs
  exact ⟨hr.upd hb (live_of ho hd) (fun _ _ => rfl) h2 hor, Ext.upd hr (hSet_ge hs) hb (live_of ho hd) h1 (fun _ _ => rfl) rfl h2 rfl rfl rfl, hD.set h1 (live_of ho hd) h2⟩
theorem hSet_on {H : AHeap} {b : Nat} {o : AObj} {n : ONext} {q : ON} (h : hSet H b o (fun H => some ⟨n, H⟩) = some q) : hSet H b o some = some q.H ∧ q.n = n := by
  obtain ⟨H1, hp, h⟩ := ob_eq h
  cases h
  exact ⟨by unfold hSet; rw [hp]; rfl, rfl⟩
theorem copy_sound (hE : EnvOK P E) {H : AHeap} (hr : Rel φ H.at w) (hD : Dom φ H) {t : Nat} {f : AV → AV → AHeap → Option ON} (hf : copyS E t = some f) {s x : AV} {q : ON} (hv : f s x H = some q) {s' x' : Value} (hs : VR φ s s') (hx : VR φ x x')
    {ts : Array TypeId} (hts : ts[0]? = some t) {as : Array Value} (h0 : as[0]? = some s') (h1 : as[1]? = some x') (ty : TypeId) : ∃ v v' w', q.n = .val v ∧ VR φ v v' ∧ (Builtin.copy_ ts ty as).run P w = .ok v' w' ∧ Step φ φ H q.H w w' := by
  obtain ⟨i, hi, hf⟩ := ob_eq hf
  obtain ⟨e, he, hf⟩ := ob_eq hf
  obtain ⟨ei, hei, hf⟩ := ob_eq hf
  rw [fN_eq] at hf
  cases hf
  obtain ⟨info, hti⟩ := hE.ti hi
  obtain ⟨einfo, heti⟩ := hE.ti hei
  have hund : P.underlying t = some (.slice e) := by
    rw [hti.und]
    unfold Ev.elemOf at he
    split at he
    · rename_i e' hde; cases he; rw [hde]
    · cases he
  obtain ⟨p, dl, dc, rfl, hv⟩ := onSlc_eq hv
  obtain ⟨sl, hsl, hv⟩ := ob_eq hv
  rw [fN_eq, fN_eq, nmin_eq] at hv
  have hk : Nat.mul (min sl dl) ei.size = min sl dl * ei.size := rfl
  rw [hk] at hv
  obtain ⟨a, c', rfl, hp⟩ := hs.slc_inv
  have hlen := run_lenOf (P := P) hsl hx
  generalize hn : min sl dl = n at hv hk
  have hnl : n ≤ sl := by omega
  have hnd : n ≤ dl := by omega
  have hrun : ∀ (cs' : Array Value) (w' : World), (Builtin.firstCells ei.size n x').run P w = .ok cs' w → Sem.run P (match a with | some a => storeCells a cs'.toList | none => pure ()) w = .ok () w' →
      (Builtin.copy_ ts ty as).run P w = .ok (goInt n) w' := by
    intro cs' w' h2 h3
    have hmin : Nat.min sl dl = n := hn
    simp only [Builtin.copy_, hts, h0, h1, Sem.run_bind, run_underlying hund, hlen, Result.andThen_ok, heti.run_size, hmin, h2]
    cases a with
    | none =>
      have h3' : w' = w := by cases h3; rfl
      subst h3'
      rfl
    | some a =>
      have h3' : (storeCells a cs'.toList 0).run P w = .ok () w' := h3
      simp only [Sem.run_bind, h3', Result.andThen_ok, Sem.run_pure]
  -- the two ways
  generalize hsh : (ob p fun q => bc (Nat.beq q.2 0) (hGet H q.1 fun o => onCells o fun sz' nn _ _ => bc (Nat.beq nn (n * ei.size)) (ob (shareA ei.size n x H) fun o => onCells o fun _ _ z m => hSet H q.1 (.cells sz' nn z m) fun H => some (⟨.val (.int .i64 (.ofNat n)), H⟩ : ON)) none) none) = sh at hv
  cases sh with
  | some r =>
    have hv' : some r = some q := hv
    cases hv'
    obtain ⟨pq, rfl, hsh⟩ := ob_eq hsh
    obtain ⟨b, off⟩ := pq
    rcases bc_eq hsh with ⟨hoff, hsh⟩ | ⟨_, hsh⟩
    · obtain ⟨o, ho, hsh⟩ := hGet_eq hsh
      obtain ⟨sz', nn, z0, m0, rfl, hsh⟩ := onCells_eq hsh
      rcases bc_eq hsh with ⟨hnn, hsh⟩ | ⟨_, hsh⟩
      · obtain ⟨o2, ho2, hsh⟩ := ob_eq hsh
        obtain ⟨z, m, cs', rfl, hfc, hcl, hcr⟩ := shareA_sound (P := P) hr hx hsl hnl ho2
        have hfc := hfc w rfl
        obtain ⟨hset, hqn⟩ := hSet_on (show hSet H b (.cells sz' nn z m) (fun H => some (⟨.val (.int .i64 (.ofNat n)), H⟩ : ON)) = some q from hsh)
        have hoff : off = 0 := by rw [nbeq] at hoff; simpa using hoff
        subst hoff
        have hnn : nn = n * ei.size := by rw [nbeq] at hnn; simpa using hnn
        subst hnn
        obtain ⟨l, a', hb, rfl, hcap⟩ := hp
        obtain ⟨arr, el, fr, g1, g2, g3, g4, g5⟩ := hr.cells hb ho
        have hlt := (Array.getElem?_eq_some_iff.mp g1).1
        by_cases hz : n * ei.size = 0
        · have : cs' = [] := List.eq_nil_of_length_eq_zero (by omega)
          subst this
          refine ⟨_, goInt n, w, hqn, .int .i64 _, hrun #[] w hfc rfl, Step.same hr hD hb ho nofun hset (show OR φ (.cells sz' (n * ei.size) z m) l w from ⟨arr, el, fr, g1, g2, g3, g4, fun i hi => by omega⟩)⟩
        · have hn0 : 0 < n := by rcases Nat.eq_zero_or_pos n with h2 | h2; · subst h2; simp at hz
                                 · exact h2
          have ha' : a' = ⟨l.b, l.δ + 0, none⟩ := by
            rcases hcap with ⟨_, h2⟩ | ⟨s, _, _, ⟨h2, _, _⟩ | ⟨h2, _, _⟩⟩
            · exact h2
            · exact h2
            · omega
          subst ha'
          have hone : ∀ v, v ∈ cs' → v.oneCell' = true := by
            intro v hvm
            obtain ⟨i, hi⟩ := List.getElem?_of_mem hvm
            have hil : i < n * ei.size := by rw [← hcl]; exact (List.getElem?_eq_some_iff.mp hi).1
            obtain ⟨u, v', _, b1, c1, d1⟩ := hcr i hil
            rw [Nat.zero_add] at c1
            have : v = v' := by
              have : cs'[i]? = some v' := by simpa using c1
              rw [hi] at this; cases this; rfl
            subst this
            exact cell_oneCell d1 b1
          refine ⟨_, goInt n, _, hqn, .int .i64 _, hrun cs'.toArray _ hfc (run_storeAll l.b (l.δ + 0) el fr cs' 0 arr w g1 g4 (by omega) hone), Step.set hr hD hb ho nofun hset ?_⟩
          refine ⟨_, el, fr, Array.getElem?_setIfInBounds_self_of_lt hlt, by rw [setAll_size]; exact g2, by rw [setAll_size]; exact g3, by rw [setAll_size]; exact g4, ?_⟩
          exact setAll_all cs' arr (l.δ + 0) (by omega) hcl hcr
      · cases hsh
    · cases hsh
  | none =>
    obtain ⟨cs, hcs, hv2⟩ := ob_eq (show ob (match x with
        | .slc none _ _ => some []
        | .slc (some q) _ _ => hGet H q.1 fun o => onCells o fun _ n' z m => loadN n' z m (n * ei.size) q.2
        | .str s => bc (Nat.beq ei.size 1) (ob (ltake n s) fun s => lmap byteV s) none
        | _ => none) (fun cs => orec (some ⟨.val (.int .i64 (.ofNat n)), H⟩) (fun q => bc (Nat.beq (llen cs 0) 0) (some ⟨.val (.int .i64 (.ofNat n)), H⟩) (op2 q fun b off => ob (storeN H b off cs) fun H => some ⟨.val (.int .i64 (.ofNat n)), H⟩)) p) = some q from hv)
    have hfc : ∃ cs', VRs φ cs cs' ∧ (Builtin.firstCells ei.size n x').run P w = .ok cs'.toArray w := by
      rcases lenOf_eq hsl hx with ⟨p', c'', rfl⟩ | ⟨str, rfl, rfl, hss⟩
      · cases p' with
        | none =>
          cases hcs
          obtain ⟨a2, c2, rfl, h2, _⟩ := hx.slc_inv
          subst h2
          exact ⟨[], .nil, by simp [Builtin.firstCells]⟩
        | some q' =>
          obtain ⟨b', off'⟩ := q'
          obtain ⟨o, ho, hcs⟩ := hGet_eq hcs
          obtain ⟨sz', n', z, m, rfl, hcs⟩ := onCells_eq hcs
          obtain ⟨cs', h2, h3⟩ := src_slc (P := P) hr hx hnl ho hcs
          exact ⟨cs', h2, h3 w rfl⟩
      · rcases bc_eq hcs with ⟨hsz, hcs⟩ | ⟨_, hcs⟩
        · obtain ⟨l, hl, hcs⟩ := ob_eq hcs
          obtain ⟨rfl, _⟩ := ltake_eq _ _ _ hl
          have hsz : ei.size = 1 := by rw [nbeq] at hsz; simpa using hsz
          obtain ⟨cs', h2, h3⟩ := src_str (φ := φ) (P := P) str n hcs
          rw [hsz]
          exact ⟨cs', h2, h3 w⟩
        · cases hcs
    obtain ⟨cs', hvr, hfc⟩ := hfc
    cases p with
    | none =>
      cases hv2
      obtain ⟨rfl, _⟩ := hp
      exact ⟨_, goInt n, w, rfl, .int .i64 _, hrun _ w hfc rfl, Step.refl hr hD⟩
    | some pq =>
      obtain ⟨b, off⟩ := pq
      obtain ⟨l, a', hb, rfl, hcap⟩ := hp
      rcases bc_eq (show bc (Nat.beq (llen cs 0) 0) (some ⟨.val (.int .i64 (.ofNat n)), H⟩) (ob (storeN H b off cs) fun H => some (⟨.val (.int .i64 (.ofNat n)), H⟩ : ON)) = some q from hv2) with ⟨hz, hv3⟩ | ⟨hz, hv3⟩
      · cases hv3
        have : cs = [] := List.eq_nil_of_length_eq_zero (by rw [nbeq, llen_eq] at hz; simpa using hz)
        subst this
        cases hvr
        exact ⟨_, goInt n, w, rfl, .int .i64 _, hrun _ w hfc rfl, Step.refl hr hD⟩
      · obtain ⟨H1, hst, hv3⟩ := ob_eq hv3
        cases hv3
        have hn0 : n ≠ 0 := by
          intro h2
          subst h2
          have hcl : cs'.length = 0 := by
            rw [first_zero hsl hx] at hfc
            have := congrArg Array.size (Result.ok.inj hfc).1
            simpa using this.symm
          have := hvr.length
          rw [nbeq, llen_eq] at hz
          simp at hz
          exact hz (List.eq_nil_of_length_eq_zero (by omega))
        have ha' : a' = ⟨l.b, l.δ + off, none⟩ := by
          rcases hcap with ⟨_, h2⟩ | ⟨s, _, _, ⟨h2, _, _⟩ | ⟨h2, _, _⟩⟩
          · exact h2
          · exact h2
          · omega
        subst ha'
        obtain ⟨w', hrs, hstep⟩ := storeN_sound (P := P) hr hD hb hvr hst
        exact ⟨_, goInt n, w', rfl, .int .i64 _, hrun _ w' hfc hrs, hstep⟩
end
end Go.Ev
end

section
namespace Go.Ev
open Go

section
variable {φ : Map} {P : Program} {ρ : Operand → Value} {tm : FT} {E : Env} {w : World}

/-! ### The model's append, in two cases -/
/-- What is appended: elements of a slice or bytes of a string, or zeros. -/
inductive App (P : Program) (w : World) (ts : Array TypeId) (size bytes : Nat) (z : Array Value) (x : Value) (n : Nat) (new : Array Value) : Prop
  | cells (h : ts[1]? = none ∨ ∃ t2 d, ts[1]? = some t2 ∧ P.underlying t2 = some d ∧ isIntD d = false) (hl : ∀ w, (Builtin.lenOf x).run P w = .ok n w) (hf : ∀ w', w'.heap = w.heap → (Builtin.firstCells size n x).run P w' = .ok new w')
  | zeros (t2 : TypeId) (k2 k : IntKind) (h2 : ts[1]? = some t2) (hd : P.underlying t2 = some (.int k2)) (hx : x = .int k n) (hn : n ≤ 1000000) (hb : bytes ≤ 10000000) (hnew : new = if n * size = 0 then #[] else Builtin.zeroCells z n)
theorem wrap_small (n : Nat) (hn : n ≤ 1000000) : IntKind.i64.wrap (n : Int) = n := by
  rw [wrap_eq]
  have h1 : (n : Int) % (md .i64 : Int) = n := Int.emod_eq_of_lt (by omega) (by show (n : Int) < 18446744073709551616; omega)
  rw [h1]
  have h2 : decide ((n : Int) ≥ (half .i64 : Int)) = false := by
    have : ¬ ((n : Int) ≥ 9223372036854775808) := by omega
    exact decide_eq_false this
  rw [h2]
  simp
theorem prod_small {n b : Nat} (hn : n ≤ 1000000) (hb : b ≤ 10000000) : ¬ ((n : Int) * (b : Int) > 2 ^ 48) := by
  have h1 : n * b ≤ 1000000 * 10000000 := Nat.mul_le_mul hn hb
  have h2 : ((n * b : Nat) : Int) ≤ 10000000000000 := by omega
  rw [Int.natCast_mul] at h2
  have h48 : (2 : Int) ^ 48 = 281474976710656 := by decide
  rw [h48]; omega
def storeOpt (a : Option Addr) (k : Nat) (vs : List Value) : Sem Unit := match a with
  | some a => storeCells (a.add k) vs
  | none => pure ()
theorem run_append_in {ts : Array TypeId} {ty t e : TypeId} {as : Array Value} {info : TypeInfo} {zv x : Value} {a : Option Addr} {len c n : Nat} {new : Array Value} (hts : ts[0]? = some t) (h0 : as[0]? = some (.slice a len c)) (h1 : as[1]? = some x)
    (hu : P.underlying t = some (.slice e)) (hi : P.info? e = some info) (hz : info.zero = some zv) (happ : App P w ts info.size info.bytes zv.cells x n new) (hle : len + n ≤ c) {w' : World}
    (hst : (storeOpt a (len * info.size) new.toList).run P w = .ok () w') :
    (Builtin.append_ ts ty as).run P w = .ok (.slice a (len + n) c) w' := by
  have hti : ∀ w, (typeInfo e).run P w = .ok info w := fun w => by simp [typeInfo, hi]
  have hsz : ∀ w, (sizeOf e).run P w = .ok info.size w := fun w => by simp [sizeOf, hti]
  have hzv : ∀ w, (zeroValue e).run P w = .ok zv w := fun w => by simp [zeroValue, hti, hz]
  have fin : Sem.run P (match a with
      | some b => do
        storeCells (b.add (len * info.size)) new.toList
        pure (Value.slice a (len + n) c)
      | _ => pure (Value.slice a (len + n) c)) w = .ok (.slice a (len + n) c) w' := by
    cases a with
    | none => have hst' : (Result.ok () w : Result Unit) = .ok () w' := hst
              cases hst'; rfl
    | some a =>
      have hst' : (storeCells (a.add (len * info.size)) new.toList).run P w = .ok () w' := hst
      simp only [Sem.run_bind, hst', Result.andThen_ok, Sem.run_pure]
  cases happ with
  | cells h hl hf =>
    rcases h with h | ⟨t2, d, h, hd, hni⟩
    · simp only [Builtin.append_, hts, h0, h1, h, Sem.run_bind, run_underlying hu, Result.andThen_ok, hsz, Sem.run_pure, Bool.false_eq_true, if_false, hl, hle, if_true, Bool.not_false, hf w rfl]
      exact fin
    · cases d <;> first | (cases hni; done) | (simp only [Builtin.append_, hts, h0, h1, h, Sem.run_bind, run_underlying hu, run_underlying hd, Result.andThen_ok, hsz, Sem.run_pure, Bool.false_eq_true, if_false, hl, hle, if_true, Bool.not_false, hf w rfl]; exact fin)
  | zeros t2 k2 k h2 hd hx hn hb hnew =>
    subst hx
    have hw := wrap_small n hn
    have hno : ¬ ((n : Int) < 0) := by omega
    have hp := prod_small hn hb
    simp only [Builtin.append_, hts, h0, h1, h2, Sem.run_bind, run_underlying hu, run_underlying hd, Result.andThen_ok, hsz, Sem.run_pure, if_true, asInt, asIntOf, hw, hno, if_false, hti, hp, Int.toNat_natCast, hle, Bool.not_true, Bool.false_eq_true]
    by_cases hnz : n * info.size = 0
    · rw [if_pos hnz] at hnew
      subst hnew
      simp only [hnz, if_true, Sem.run_pure, Result.andThen_ok]
      exact fin
    · rw [if_neg hnz] at hnew
      subst hnew
      simp only [hnz, if_false, Sem.run_bind, hzv, Sem.run_pure, Result.andThen_ok]
      exact fin

theorem run_append_new {ts : Array TypeId} {ty t e : TypeId} {as : Array Value} {info : TypeInfo} {zv x : Value} {a : Option Addr} {len c n : Nat} {new old : Array Value} (hts : ts[0]? = some t) (h0 : as[0]? = some (.slice a len c)) (h1 : as[1]? = some x)
    (hu : P.underlying t = some (.slice e)) (hi : P.info? e = some info) (hz : info.zero = some zv) (happ : App P w ts info.size info.bytes zv.cells x n new) (hle : ¬ (len + n ≤ c)) (hneed : len + n ≤ 1000000) (hbytes : info.bytes ≤ 10000000)
    (hold : ∀ w', w'.heap = w.heap → (Builtin.firstCells info.size len (.slice a len c)).run P w' = .ok old w') :
    ∃ k, (Builtin.append_ ts ty as).run P w = .ok (.slice (some ⟨w.heap.size, 0, none⟩) (len + n) (len + n + k)) (w.drew.alloc (.cells (old ++ new ++ Builtin.zeroCells zv.cells k) e)) := by
  have hti : ∀ w, (typeInfo e).run P w = .ok info w := fun w => by simp [typeInfo, hi]
  have hsz : ∀ w, (sizeOf e).run P w = .ok info.size w := fun w => by simp [sizeOf, hti]
  have hzv : ∀ w, (zeroValue e).run P w = .ok zv w := fun w => by simp [zeroValue, hti, hz]
  have hfit := growslice_fits (need := len + n) (old := c) (bytes := info.bytes) (by omega) (by
    have := Nat.mul_le_mul hneed hbytes
    omega)
  have h63 : ¬ (((len + n : Nat) : Int) > IntKind.i64.max) := by rw [IntKind.max_i64]; omega
  have h48 : ¬ (Builtin.nextslicecap (len + n) c * info.bytes > 2 ^ 48) := by omega
  have hcut : ∃ k, (Question.appendCap (len + n) c e).cut (w.tape w.drawn (.appendCap (len + n) c e)) = len + n + k := ⟨_, rfl⟩
  obtain ⟨k, hk⟩ := hcut
  have hforced : (Question.appendCap (len + n) c e).forced = false := rfl
  have hsub : len + n + k - (len + n) = k := by omega
  refine ⟨k, ?_⟩
  have holdw := hold w.drew rfl
  have hdrew : ({ w with drawn := w.drawn + 1 } : World) = w.drew := rfl
  cases happ with
  | cells h hl hf =>
    have hfw := hf w.drew rfl
    rcases h with h | ⟨t2, d, h, hd, hni⟩
    · simp only [Builtin.append_, hts, h0, h1, h, Sem.run_bind, run_underlying hu, Result.andThen_ok, hsz, Sem.run_pure, Bool.false_eq_true, if_false, hl, hle, Bool.not_false, hti, h63, false_and, h48, run_choose, hforced, hk, hdrew, run_askRoom, holdw, if_true, hfw, hzv, hsub, newRow, run_newObj]
      rfl
    · cases d <;> first | (cases hni; done) | (simp only [Builtin.append_, hts, h0, h1, h, Sem.run_bind, run_underlying hu, run_underlying hd, Result.andThen_ok, hsz, Sem.run_pure, Bool.false_eq_true, if_false, hl, hle, Bool.not_false, hti, h63, false_and, h48, run_choose, hforced, hk, hdrew, run_askRoom, holdw, if_true, hfw, hzv, hsub, newRow, run_newObj]; rfl)
  | zeros t2 k2 k' h2 hd hx hn hb hnew =>
    subst hx
    have hw := wrap_small n hn
    have hno : ¬ ((n : Int) < 0) := by omega
    have hp := prod_small hn hb
    simp only [Builtin.append_, hts, h0, h1, h2, Sem.run_bind, run_underlying hu, run_underlying hd, Result.andThen_ok, hsz, Sem.run_pure, if_true, asInt, asIntOf, hw, hno, if_false, hti, hp, Int.toNat_natCast, hle, Bool.not_true, Bool.false_eq_true, h63, false_and, h48, run_choose, hforced, hk, hdrew, run_askRoom, holdw]
    by_cases hnz : n * info.size = 0
    · rw [if_pos hnz] at hnew
      subst hnew
      simp only [hnz, if_true, Sem.run_bind, Sem.run_pure, Result.andThen_ok, hzv, hsub, newRow, run_newObj]
      rfl
    · rw [if_neg hnz] at hnew
      subst hnew
      simp only [hnz, if_false, Sem.run_bind, hzv, Sem.run_pure, Result.andThen_ok, hsub, newRow, run_newObj]
      rfl

/-! ### What is appended -/
theorem cellsIn_sound {H : AHeap} (hr : Rel φ H.at w) {sz n : Nat} {x : AV} {x' : Value} (hx : VR φ x x') (hl : lenOf x = some n) {cs : List AV} (h : Ev.cellsIn sz x H = some cs) :
    ∃ cs' : List Value, VRs φ cs cs' ∧ (∀ w' : World, w'.heap = w.heap → (Builtin.firstCells sz n x').run P w' = .ok cs'.toArray w') ∧ cs.length = n * sz := by
  rcases lenOf_eq hl hx with ⟨p, c, rfl⟩ | ⟨s, rfl, rfl, rfl⟩
  · cases p with
    | none =>
      rcases bc_eq (show bc (Nat.beq n 0) (some []) none = some cs from h) with ⟨hn, h1⟩ | ⟨_, h1⟩
      · cases h1
        have hn : n = 0 := by rw [nbeq] at hn; simpa using hn
        subst hn
        obtain ⟨a, c', rfl, h2, _⟩ := hx.slc_inv
        subst h2
        exact ⟨[], .nil, fun w' _ => by simp [Builtin.firstCells], by simp⟩
      · cases h1
    | some q =>
      obtain ⟨b, off⟩ := q
      obtain ⟨o, ho, h1⟩ := hGet_eq (show hGet H b (fun o => onCells o fun _ n' z m => loadN n' z m (Nat.mul n sz) off) = some cs from h)
      obtain ⟨sz', n', z, m, rfl, h2⟩ := onCells_eq h1
      obtain ⟨cs', h3, h4⟩ := src_slc (P := P) hr hx (Nat.le_refl n) ho h2
      exact ⟨cs', h3, h4, (loadN_eq h2).1⟩
  · rcases bc_eq (show bc (Nat.beq sz 1) (lmap byteV (strL s)) none = some cs from h) with ⟨hs, h1⟩ | ⟨_, h1⟩
    · have hs : sz = 1 := by rw [nbeq] at hs; simpa using hs
      subst hs
      have e : (strL s).take s.size = strL s := List.take_of_length_le (by rw [strL_length]; exact Nat.le_refl _)
      obtain ⟨cs', h2, h3⟩ := src_str (φ := φ) (P := P) s s.size (cs := cs) (by rw [e]; exact h1)
      refine ⟨cs', h2, fun w' _ => h3 w', ?_⟩
      have h4 := lmap_spec _ _ _ h1
      have : ∀ {l : List Nat} {r : List AV}, All2 (fun a b => byteV a = some b) l r → r.length = l.length := by
        intro l r h
        induction h with
        | nil => rfl
        | cons _ _ ih => simp [ih]
      rw [this h4, strL_length, Nat.mul_one]
    · cases h1
theorem nfold_zeros (z : List AV) : ∀ (n i : Nat) (acc l : List AV), nfold (fun i acc => ob (zAt z i) fun v => some (v :: acc)) n i acc = some l → ∃ q : List AV, l = q.reverse ++ acc ∧ q.length = n ∧ ∀ j, j < n → ∃ v, q[j]? = some v ∧ zAt z (i + j) = some v := by
  intro n
  induction n with
  | zero => intro i acc l h; cases h; exact ⟨[], by simp, rfl, fun j hj => by omega⟩
  | succ n ih =>
    intro i acc l h
    obtain ⟨acc', h1, h2⟩ := ob_eq (show ob (ob (zAt z i) fun v => some (v :: acc)) (fun s => fN (Nat.succ i) fun i => nfold (fun i acc => ob (zAt z i) fun v => some (v :: acc)) n i s) = some l from h)
    obtain ⟨v, hv, h1⟩ := ob_eq h1
    cases h1
    rw [fN_eq] at h2
    obtain ⟨q, hq, hl, hall⟩ := ih (i + 1) (v :: acc) l h2
    refine ⟨v :: q, by rw [hq]; simp, by simp [hl], fun j hj => ?_⟩
    cases j with
    | zero => exact ⟨v, rfl, hv⟩
    | succ j => obtain ⟨u, hu, hc⟩ := hall j (by omega); exact ⟨u, by simpa using hu, by rw [show i + (j + 1) = i + 1 + j by omega]; exact hc⟩
theorem zerosA_eq {z : List AV} {n : Nat} {r : List AV} (h : zerosA z n = some r) : r.length = n ∧ ∀ j, j < n → ∃ v, r[j]? = some v ∧ zAt z j = some v := by
  obtain ⟨l, hl, h⟩ := ob_eq h
  cases h
  obtain ⟨q, hq, h1, h2⟩ := nfold_zeros z n 0 [] l hl
  rw [lrev_eq, hq]
  refine ⟨by simpa using h1, fun j hj => ?_⟩
  obtain ⟨v, h3, h4⟩ := h2 j hj
  rw [Nat.zero_add] at h4
  exact ⟨v, by simpa using h3, h4⟩
theorem zeros_VRs {z : List AV} {zv : List Value} (hz : VRs φ z zv) {n sz : Nat} (hsz : z.length = sz) (h0 : sz ≠ 0) {r : List AV} (h : zerosA z (n * sz) = some r) : VRs φ r (Builtin.zeroCells zv.toArray n).toList := by
  obtain ⟨h1, h2⟩ := zerosA_eq h
  have hl := hz.length
  refine VRs.of_get (by simp [Builtin.zeroCells, h1]; rw [← hsz, hl]) fun i x y hx hy => ?_
  have hi : i < n * sz := by rw [← h1]; exact (List.getElem?_eq_some_iff.mp hx).1
  obtain ⟨v, h3, h4⟩ := h2 i hi
  rw [hx] at h3; cases h3
  have hz0 : z ≠ [] := fun e => by subst e; exact h0 hsz.symm
  rw [zAt_eq hz0] at h4
  obtain ⟨v', h5, h6⟩ := hz.get _ _ h4
  have hlt : i < n * zv.length := by rw [← hl, hsz]; exact hi
  simp [Builtin.zeroCells, hlt] at hy
  rw [← hl, h5] at hy
  have : v' = y := hy
  rw [← this]
  exact h6
theorem newCells_sound {H : AHeap} (hr : Rel φ H.at w) {ts : Array TypeId} {sz bytes n : Nat} {z : List AV} {zv : List Value} (hz : VRs φ z zv) (hzl : z.length = sz) (hsz : sz ≠ 0) (hb : bytes ≤ 10000000) (hn : n ≤ 1000000) {zs : Option (List AV)} {x : AV} {x' : Value} (hx : VR φ x x')
    (hts : (zs = none ∧ (ts[1]? = none ∨ ∃ t2 d, ts[1]? = some t2 ∧ P.underlying t2 = some d ∧ isIntD d = false)) ∨ (zs = some z ∧ ∃ t2 k2, ts[1]? = some t2 ∧ P.underlying t2 = some (.int k2)))
    (hnn : orec (lenOf x) (fun _ => natOf x) zs = some n) {cs : List AV} (h : newCells zs sz n x H = some cs) :
    ∃ cs' : List Value, VRs φ cs cs' ∧ App P w ts sz bytes zv.toArray x' n cs'.toArray ∧ cs.length = n * sz := by
  rcases hts with ⟨rfl, hts⟩ | ⟨rfl, t2, k2, ht2, hd2⟩
  · obtain ⟨cs', h1, h2, h3⟩ := cellsIn_sound (P := P) hr hx hnn h
    exact ⟨cs', h1, .cells hts (run_lenOf hnn hx) h2, h3⟩
  · obtain ⟨k, m, rfl, h1⟩ := onNat_eq (show onNat x some = some n from hnn)
    cases h1
    cases hx.int_inv
    have h' : zerosA z (n * sz) = some cs := h
    refine ⟨(Builtin.zeroCells zv.toArray n).toList, zeros_VRs hz hzl hsz h', .zeros t2 k2 k ht2 hd2 rfl hn hb ?_, (zerosA_eq h').1⟩
    split
    · rename_i h0
      have : n = 0 := by rcases Nat.mul_eq_zero.mp h0 with h2 | h2; · exact h2
                         · exact absurd h2 hsz
      subst this
      simp [Builtin.zeroCells]
    · simp

theorem capKnown_eq {sz : Nat} {p : Option (Nat × Nat)} {cap : Cap} {H : AHeap} {f : Nat → Option ON} {q : ON} (h : capKnown sz p cap H f = some q) :
    ∃ kc, f kc = some q ∧ (cap = .k kc ∨ (cap = .o sz ∧ ∃ b off n z m, p = some (b, off) ∧ H.at b = some (.cells sz n z m) ∧ kc = (n - off) / sz)) := by
  cases cap with
  | k c => exact ⟨c, h, .inl rfl⟩
  | o s =>
    rcases bc_eq (show bc (Nat.beq s sz) (ob p fun q => op2 q fun b off => hGet H b fun o => onCells o fun s' n _ _ => bc (Nat.beq s' sz) (fN (Nat.div (Nat.sub n off) sz) f) none) none = some q from h) with ⟨hs, h1⟩ | ⟨_, h1⟩
    · have hs : s = sz := by rw [nbeq] at hs; simpa using hs
      subst hs
      obtain ⟨pq, rfl, h2⟩ := ob_eq h1
      obtain ⟨b, off⟩ := pq
      obtain ⟨o, ho, h3⟩ := hGet_eq (show hGet H b (fun o => onCells o fun s' n _ _ => bc (Nat.beq s' s) (fN (Nat.div (Nat.sub n off) s) f) none) = some q from h2)
      obtain ⟨s', n, z, m, rfl, h4⟩ := onCells_eq h3
      rcases bc_eq h4 with ⟨hs', h5⟩ | ⟨_, h5⟩
      · have hs' : s' = s := by rw [nbeq] at hs'; simpa using hs'
        subst hs'
        rw [fN_eq] at h5
        exact ⟨_, h5, .inr ⟨rfl, b, off, n, z, m, rfl, ho, rfl⟩⟩
      · cases h5
    · cases h1
theorem VR.slc_len {p : Option (Nat × Nat)} {len need : Nat} {cap : Cap} {a : Option Addr} {c' : Nat} (h : VR φ (.slc p len cap) (.slice a len c')) (h2 : need ≤ c') : VR φ (.slc p need cap) (.slice a need c') := by
  cases h with
  | slc0 n c => exact .slc0 _ _
  | slc n c h => exact .slc _ _ h
  | slo n c s h hn hs he => exact .slo _ _ s h h2 hs he
  | sle a s h hs he => have : need = 0 := by omega
                       subst this; exact .sle a s h hs he
end
end Go.Ev
end

section
namespace Go.Ev
open Go

section
variable {φ : Map} {P : Program} {ρ : Operand → Value} {tm : FT} {E : Env} {w : World}

theorem Rel.world {h : Bl} (hr : Rel φ h w) {w' : World} (hw : w'.heap = w.heap) : Rel φ h w' where
  gl := hr.gl
  blk := fun b l o hb ho => (hr.blk b l o hb ho).mono (fun _ _ h => h) (by rw [hw])
  inj := hr.inj
theorem bury_eq {p : Option (Nat × Nat)} {cap : Cap} {H H' : AHeap} (h : bury p cap H = some H') : H' = H ∨ ∃ b off s, p = some (b, off) ∧ cap = .o s ∧ hSet H b .dead some = some H' := by
  unfold bury at h
  split at h
  · exact .inr ⟨_, _, _, rfl, rfl, h⟩
  · cases h; exact .inl rfl
/-- A block that is given up. -/
theorem Step.bury {φ₀ : Map} {H₀ H H' : AHeap} {w₀ : World} (hst : Step φ₀ φ H₀ H w₀ w) (h0 : Dom φ₀ H₀) {p : Option (Nat × Nat)} {cap : Cap} (hb : Ev.bury p cap H = some H') (hl : ∀ b off s, p = some (b, off) → cap = .o s → (∃ l, φ b = some l) ∧ live H.at b) : Step φ₀ φ H₀ H' w₀ w := by
  rcases bury_eq hb with rfl | ⟨b, off, s, hp, hc, hs⟩
  · exact hst
  · obtain ⟨⟨l, hbl⟩, hlive⟩ := hl b off s hp hc
    obtain ⟨h1, h2⟩ := hSet_some hs
    refine ⟨hst.rel.upd hbl hlive (fun _ _ => rfl) h2 trivial, hst.ext.trans (Ext.upd hst.rel (hSet_ge hs) hbl hlive h1 (fun _ _ => rfl) rfl h2 rfl rfl rfl) h0.lt, hst.dom.set h1 hlive h2⟩
/-- A new block on either side, behind a draw. -/
theorem Step.fresh {H H1 : AHeap} (hr : Rel φ H.at w) (hD : Dom φ H) {o : AObj} {c : Obj} {e : Nat} (hn : H1.next = H.next + 1) (hh : ∀ j, H1.at j = if j = H.next then some o else H.at j) (ho : OR (φ.add H.next ⟨w.heap.size, 0, e⟩) o ⟨w.heap.size, 0, e⟩ (w.drew.alloc c)) :
    Step φ (φ.add H.next ⟨w.heap.size, 0, e⟩) H H1 w (w.drew.alloc c) := by
  have hr' : Rel φ H.at w.drew := hr.world rfl
  have he : Ext φ (φ.add H.next ⟨w.heap.size, 0, e⟩) H H1 w.drew (w.drew.alloc c) := Ext.new' (w := w.drew) hr' (hD.ge hr) hD.no hn hh
  exact ⟨hr'.new (w := w.drew) hD.no hh ho, ⟨he.sub, he.new, he.nx, he.sz, he.abs, he.conc, he.lv, he.hk, he.keep, rfl, rfl, rfl⟩, hD.add hn hh⟩

theorem loadCells_arr {b off cnt : Nat} {arr : Array Value} {el : TypeId} {fr : Nat × Nat} (h : w.heap[b]? = some (.cells arr el fr)) (hle : off + cnt ≤ arr.size) : (loadCells ⟨b, off, none⟩ cnt).run P w = .ok ((List.range cnt).map fun j => (arr[off + j]?).getD undef).toArray w :=
  run_loadCells (P := P) w _ cnt (fun j => (arr[off + j]?).getD undef) fun j hj => by
    have hadd : (Addr.mk b off none).add j = ⟨b, off + j, none⟩ := by simpa using addr_add b off 0 j
    rw [hadd, cell_of_row w _ _ arr el fr h]
    have : off + j < arr.size := by omega
    simp [this]
/-- A slice that grows within its block, of which nothing else is known: the block goes on under a new name. -/
theorem Step.grow {H H1 H2 : AHeap} (hr : Rel φ H.at w) (hD : Dom φ H) {b off : Nat} {l : Loc} (hb : φ b = some l) (hlive : live H.at b) {sz N : Nat} {z : List AV} {m : CT} (hn : H1.next = H.next + 1) (hh : ∀ j, H1.at j = if j = H.next then some (.cells sz N z m) else H.at j)
    (hs : hSet H1 b .dead some = some H2) {arr arr' : Array Value} {el : TypeId} {fr : Nat × Nat} (h1 : w.heap[l.b]? = some (.cells arr el fr)) (he : l.e = arr.size) (hfr : Fz fr arr.size) (hsz : arr'.size = arr.size) (hN : l.δ + off + N ≤ arr.size)
    (hc : CR' φ N z m arr' (l.δ + off)) : Step φ (φ.add H.next ⟨l.b, l.δ + off, l.e⟩) H H2 w { w with heap := w.heap.setIfInBounds l.b (.cells arr' el fr) } := by
  obtain ⟨g1, g2⟩ := hSet_some hs
  have hlt := (Array.getElem?_eq_some_iff.mp h1).1
  have hbn : b ≠ H.next := by have := hD.lt b l hb; omega
  have hat : ∀ j, H2.at j = if j = b then some .dead else if j = H.next then some (.cells sz N z m) else H.at j := fun j => by rw [g2, hh]
  have hw : ∀ j, j ≠ l.b → ({ w with heap := w.heap.setIfInBounds l.b (.cells arr' el fr) } : World).heap[j]? = w.heap[j]? := fun j hj => by
    show (w.heap.setIfInBounds l.b (.cells arr' el fr))[j]? = _
    rw [Array.getElem?_setIfInBounds, if_neg (Ne.symm hj)]
  have hsub := Map.add_sub (φ := φ) ⟨l.b, l.δ + off, l.e⟩ hD.no
  have hlv : ∀ j, j ≠ H.next → live H2.at j → j ≠ b ∧ live H.at j := fun j hj ⟨o', h4, h5⟩ => by
    rw [hat] at h4
    by_cases hjb : j = b
    · rw [if_pos hjb] at h4; cases h4; exact absurd rfl h5
    · rw [if_neg hjb, if_neg hj] at h4; exact ⟨hjb, o', h4, h5⟩
  refine ⟨⟨?_, ?_, ?_⟩, ⟨hsub, ?_, ?_, ?_, ?_, ?_, ?_, ?_, ?_, rfl, rfl, rfl⟩, ?_⟩
  · intro g hg
    obtain ⟨e', he'⟩ := hr.gl g hg
    exact ⟨e', hsub g _ he'⟩
  · intro j k o' hj ho'
    rw [hat] at ho'
    rcases Map.add_or hj with ⟨rfl, rfl⟩ | ⟨hne, hj'⟩
    · rw [if_neg (Ne.symm hbn), if_pos rfl] at ho'
      cases ho'
      exact ⟨arr', el, fr, Array.getElem?_setIfInBounds_self_of_lt hlt, by rw [hsz]; exact he, by rw [hsz]; exact hN, by rw [hsz]; exact hfr, hc.mono hsub⟩
    · by_cases hjb : j = b
      · rw [if_pos hjb] at ho'; cases ho'; trivial
      · rw [if_neg hjb, if_neg hne] at ho'
        by_cases hdd : o' = .dead
        · subst hdd; trivial
        · refine (hr.blk j k o' hj' ho').mono hsub (hw _ fun e => hjb ?_)
          exact hr.inj j b k l hj' hb ⟨o', ho', hdd⟩ hlive e
  · intro j j' k k' hj hj' hv hv' hkk
    rcases Map.add_or hj with ⟨rfl, rfl⟩ | ⟨hne, hj1⟩
    · rcases Map.add_or hj' with ⟨rfl, rfl⟩ | ⟨hne', hj1'⟩
      · rfl
      · obtain ⟨h6, h7⟩ := hlv _ hne' hv'
        exact absurd (hr.inj j' b k' l hj1' hb h7 hlive hkk.symm) h6
    · obtain ⟨h6, h7⟩ := hlv _ hne hv
      rcases Map.add_or hj' with ⟨rfl, rfl⟩ | ⟨hne', hj1'⟩
      · exact absurd (hr.inj j b k l hj1 hb h7 hlive hkk) h6
      · exact hr.inj j j' k k' hj1 hj1' h7 (hlv _ hne' hv').2 hkk
  · intro j k hj
    rcases Map.add_or hj with ⟨rfl, rfl⟩ | ⟨_, hj⟩
    · exact .inr ⟨Nat.le_refl _, .inr ⟨b, l, hb, hlive, rfl⟩⟩
    · exact .inl hj
  · omega
  · simp
  · intro j hj hn'
    rw [hat, if_neg (fun e => by subst e; rw [hb] at hn'; cases hn'), if_neg (by omega)]
  · intro j _ hn'
    exact hw j fun e => hn' b l hb hlive e.symm
  · intro j hj hv
    exact (hlv j (by omega) hv).2
  · intro g hg
    have h64 := hD.ge hr
    have hb64 := hSet_ge hs
    rw [hat, if_neg (by omega), if_neg (by omega)]
  · intro g lg hg hlg hv
    have hb64 := hSet_ge hs
    exact hw _ fun e => by
      have := hr.inj g b lg l hlg hb hv hlive e
      omega
  · refine (hD.add hn hh).set g1 ?_ g2
    obtain ⟨o', h4, h5⟩ := hlive
    exact ⟨o', by rw [hh, if_neg hbn]; exact h4, h5⟩

theorem CR'_all {cs : List AV} {cs' : List Value} (hv : VRs φ cs cs') {n : Nat} (hn : n = cs.length) {z : List AV} {m : CT} (hm : wcells n cs 0 (noCells n) = some m) : CR' φ n z m cs'.toArray 0 := by
  obtain ⟨_, h2, h3⟩ := wcells_eq _ _ _ _ hm
  intro j hj
  have hj' : j < cs.length := by omega
  rw [h3, if_pos (by omega), Nat.sub_zero]
  obtain ⟨v', h4, h5⟩ := hv.get j _ (List.getElem?_eq_getElem hj')
  exact ⟨_, v', List.getElem?_eq_getElem hj', h2 _ (List.getElem_mem hj'), by simpa using h4, h5⟩
/-- The two ends of an append that may need a new block. -/
theorem grow_sound {H H1 H2 : AHeap} (hr : Rel φ H.at w) (hD : Dom φ H) {ts : Array TypeId} {ty t e : TypeId} {as : Array Value} {info : TypeInfo} {zv x' : Value} {p : Option (Nat × Nat)} {len n : Nat} {cap : Cap} {a : Option Addr} {c : Nat} {z : List AV} {m : CT} {old new : List Value}
    (hts : ts[0]? = some t) (h0 : as[0]? = some (.slice a len c)) (h1 : as[1]? = some x') (hu : P.underlying t = some (.slice e)) (hi : P.info? e = some info) (hz : info.zero = some zv) (hzl : zv.cells.size = info.size) (hs0 : info.size ≠ 0) (hbytes : info.bytes ≤ 10000000)
    (hs : VR φ (.slc p len cap) (.slice a len c)) (happ : App P w ts info.size info.bytes zv.cells x' n new.toArray) (hneed : len + n ≤ 1000000)
    (hold : ∀ w' : World, w'.heap = w.heap → (Builtin.firstCells info.size len (.slice a len c)).run P w' = .ok old.toArray w') (holdl : old.length = len * info.size) (hnewl : new.length = n * info.size)
    (hkc : ∀ kc, cap = .k kc → ¬ (len + n ≤ kc)) (hcapo : ∀ s, cap = .o s → s = info.size ∧ ∃ b off, p = some (b, off) ∧ live H.at b ∧ ∃ sz' n' z' m', H.at b = some (.cells sz' n' z' m') ∧ ¬ (len + n ≤ (n' - off) / info.size))
    (hc : CR' φ ((len + n) * info.size) z m (old ++ new).toArray 0) (hn : H1.next = H.next + 1) (hh : ∀ j, H1.at j = if j = H.next then some (.cells info.size ((len + n) * info.size) z m) else H.at j) (hb : Ev.bury p cap H1 = some H2) :
    ∃ φ' v' w', VR φ' (.slc (some (H.next, 0)) (len + n) (.o info.size)) v' ∧ (Builtin.append_ ts ty as).run P w = .ok v' w' ∧ Step φ φ' H H2 w w' := by
  by_cases hle : len + n ≤ c
  · -- in place
    have hbs := hcapo
    cases hs with
    | slc0 _ _ => exact absurd hle (hkc _ rfl)
    | slc _ _ _ => exact absurd hle (hkc _ rfl)
    | sle a s hl hs' he =>
      obtain ⟨_, b', off', hp, _, sz', n', z', m', ho, hno⟩ := hcapo s rfl
      exact absurd (Nat.le_trans hle (Nat.zero_le _)) hno
    | slo _ _ s hl hnc hs' he =>
      rename_i b off l
      obtain ⟨rfl, b', off', hp, hlive, sz', n', z', m', ho, hno⟩ := hcapo s rfl
      cases hp
      obtain ⟨arr, el, fr, g1, g2, g3, g4, g5⟩ := hr.cells hl ho
      have hfit : l.δ + off + (len + n) * info.size ≤ arr.size := by
        rw [← g2, ← he]
        have := Nat.mul_le_mul_right info.size hle
        omega
      have hmul : (len + n) * info.size = len * info.size + n * info.size := Nat.add_mul _ _ _
      have hone : ∀ v, v ∈ new → v.oneCell' = true := by
        intro v hv
        obtain ⟨j, hj⟩ := List.getElem?_of_mem hv
        have hjl : j < new.length := (List.getElem?_eq_some_iff.mp hj).1
        obtain ⟨u, v', _, b1, c1, d1⟩ := hc (old.length + j) (by omega)
        have : (old ++ new)[old.length + j]? = some v' := by simpa using c1
        rw [List.getElem?_append_right (by omega), Nat.add_sub_cancel_left, hj] at this
        cases this
        exact cell_oneCell d1 b1
      have hrun := run_storeAll (P := P) l.b (l.δ + off + len * info.size) el fr new 0 arr w g1 g4 (by omega) hone
      have e1 : storeCells ⟨l.b, l.δ + off + len * info.size, none⟩ new 0 = storeOpt (some ⟨l.b, l.δ + off, none⟩) (len * info.size) new.toArray.toList := by
        show _ = storeCells ((Addr.mk l.b (l.δ + off) none).add (len * info.size)) new 0
        rw [addr_add, ← Nat.add_assoc]
      rw [e1] at hrun
      have hmain := run_append_in (ty := ty) hts h0 h1 hu hi hz happ hle hrun
      rcases bury_eq hb with rfl | ⟨b2, off2, s2, hp2, hc2, hs2⟩
      · exact absurd hb (by
          intro hb'
          unfold Ev.bury at hb'
          dsimp only at hb'
          obtain ⟨q1, q2⟩ := hSet_some hb'
          have := q2 b
          rw [if_pos rfl, hh, if_neg (by have := hD.lt b l hl; omega), ho] at this
          cases this)
      · cases hp2
        have holdarr : old = (List.range (len * info.size)).map fun j => (arr[l.δ + off + j]?).getD undef := by
          have h5 := hold w rfl
          have h6 := loadCells_arr (P := P) (off := l.δ + off) (cnt := len * info.size) g1 (by omega)
          have h7 : (Builtin.firstCells info.size len (.slice (some ⟨l.b, l.δ + off, none⟩) len c)).run P w = (loadCells ⟨l.b, l.δ + off, none⟩ (len * info.size)).run P w := rfl
          rw [h7, h6] at h5
          have := (Result.ok.inj h5).1
          simpa using this.symm
        refine ⟨_, _, _, ?_, hmain, Step.grow hr hD hl hlive hn hh hs2 g1 g2 g4 (by rw [setAll_size]) hfit ?_⟩
        · have := VR.slo (φ := φ.add H.next ⟨l.b, l.δ + off, l.e⟩) (b := H.next) (o := 0) (l := ⟨l.b, l.δ + off, l.e⟩) (len + n) c info.size (Map.add_self _ _ _) hle hs' (by simpa using he)
          simpa using this
        · intro j hj
          obtain ⟨u, v', a1, b1, c1, d1⟩ := hc j hj
          refine ⟨u, v', a1, b1, ?_, d1⟩
          rw [setAll_get _ new 0 arr (by omega)]
          have c1' : (old ++ new)[j]? = some v' := by simpa using c1
          by_cases hjo : j < len * info.size
          · rw [if_neg (by omega)]
            rw [List.getElem?_append_left (by omega), holdarr] at c1'
            simp [hjo] at c1'
            have hin : l.δ + off + j < arr.size := by omega
            rw [Array.getElem?_eq_getElem hin] at c1' ⊢
            simpa using c1'
          · rw [if_pos (by omega)]
            rw [List.getElem?_append_right (by omega), holdl] at c1'
            rw [← c1']
            congr 1
            omega
  · -- a new block
    obtain ⟨k, hmain⟩ := run_append_new (ty := ty) (old := old.toArray) hts h0 h1 hu hi hz happ hle hneed hbytes hold
    have hasz : (old.toArray ++ new.toArray ++ Builtin.zeroCells zv.cells k).size = (len + n + k) * info.size := by
      simp [Builtin.zeroCells, holdl, hnewl, hzl, Nat.add_mul]
    have hcr : CR' φ ((len + n) * info.size) z m (old.toArray ++ new.toArray ++ Builtin.zeroCells zv.cells k) 0 := by
      intro j hj
      obtain ⟨u, v', a1, b1, c1, d1⟩ := hc j hj
      refine ⟨u, v', a1, b1, ?_, d1⟩
      rw [Array.getElem?_append_left (by simp [holdl, hnewl, ← Nat.add_mul]; simpa using hj)]
      simpa using c1
    have hmul : (len + n + k) * info.size = (len + n) * info.size + k * info.size := Nat.add_mul _ _ _
    have hor := OR.new (w := w.drew) (sz := info.size) e (hcr.mono (Map.add_sub ⟨w.heap.size, 0, (old.toArray ++ new.toArray ++ Builtin.zeroCells zv.cells k).size⟩ hD.no)) (by rw [hasz, hmul]; omega)
    have hstep := Step.fresh hr hD hn hh hor
    refine ⟨_, _, _, ?_, hmain, hstep.bury hD hb ?_⟩
    · have := VR.slo (φ := φ.add H.next ⟨w.heap.size, 0, (old.toArray ++ new.toArray ++ Builtin.zeroCells zv.cells k).size⟩) (b := H.next) (o := 0) (len + n) (len + n + k) info.size (Map.add_self _ _ _) (by omega) (by omega) (by rw [hasz]; simp)
      simpa using this
    · intro b off s hp hcs
      obtain ⟨_, b', off', hp', hlive, _⟩ := hcapo s hcs
      rw [hp] at hp'
      cases hp'
      have hbl : ∃ l, φ b = some l := by
        subst hp
        obtain ⟨_, _, _, l, _, hl, _⟩ := hs.slc_inv
        exact ⟨l, hl⟩
      obtain ⟨l, hl⟩ := hbl
      refine ⟨⟨l, hstep.ext.sub b l hl⟩, ?_⟩
      obtain ⟨o', ho', hd'⟩ := hlive
      exact ⟨o', by rw [hh, if_neg (by have := hD.lt b l hl; omega)]; exact ho', hd'⟩

theorem appendV_sound {H : AHeap} (hr : Rel φ H.at w) (hD : Dom φ H) {ts : Array TypeId} {t e : TypeId} {as : Array Value} {info : TypeInfo} {zv s' x' : Value} {s x : AV} {z : List AV} {q : ON} {zs : Option (List AV)} (ty : TypeId)
    (hts : ts[0]? = some t) (h0 : as[0]? = some s') (h1 : as[1]? = some x') (hu : P.underlying t = some (.slice e)) (hi : P.info? e = some info) (hz : info.zero = some zv) (hzr : VRs φ z zv.cells.toList) (hzl : z.length = info.size) (hs0 : info.size ≠ 0) (hbytes : info.bytes ≤ 10000000)
    (hts1 : (zs = none ∧ (ts[1]? = none ∨ ∃ t2 d, ts[1]? = some t2 ∧ P.underlying t2 = some d ∧ isIntD d = false)) ∨ (zs = some z ∧ ∃ t2 k2, ts[1]? = some t2 ∧ P.underlying t2 = some (.int k2)))
    (hs : VR φ s s') (hx : VR φ x x') (hv : appendV info.size zs s x H = some q) : ∃ φ' v v' w', q.n = .val v ∧ VR φ' v v' ∧ (Builtin.append_ ts ty as).run P w = .ok v' w' ∧ Step φ φ' H q.H w w' := by
  obtain ⟨p, len, cap, rfl, hv1⟩ := onSlc_eq hv
  obtain ⟨kc, hv2, hcap⟩ := capKnown_eq hv1
  obtain ⟨n, hnn, hv3⟩ := ob_eq hv2
  rw [fN_eq] at hv3
  rcases bc_eq hv3 with ⟨hneed, hv4⟩ | ⟨_, hv4⟩
  · have hneed := ble_le hneed
    have hneed : len + n ≤ 1000000 := hneed
    obtain ⟨a, c, rfl, hp⟩ := hs.slc_inv
    have hzv : zv.cells.size = info.size := by have := hzr.length; simp at this; omega
    have hzz : (⟨zv.cells.toList⟩ : Array Value) = zv.cells := by simp
    have hzt : zv.cells.toList.toArray = zv.cells := by simp
    have hnew : ∀ {cs : List AV}, newCells zs info.size n x H = some cs → ∃ cs' : List Value, VRs φ cs cs' ∧ App P w ts info.size info.bytes zv.cells x' n cs'.toArray ∧ cs.length = n * info.size := by
      intro cs hcs
      have := newCells_sound (P := P) (ts := ts) hr hzr hzl hs0 hbytes (by omega) hx hts1 hnn hcs
      rwa [hzt] at this
    rcases bc_eq hv4 with ⟨hle, hv5⟩ | ⟨hle, hv5⟩
    · -- it fits
      have hle := ble_le hle
      have hle : len + n ≤ kc := hle
      have hkc : kc ≤ c := by
        rcases hcap with rfl | ⟨rfl, b, off, n', z', m', rfl, ho, rfl⟩
        · cases p with
          | none => obtain ⟨_, h2⟩ := hp; cases h2; exact Nat.le_refl _
          | some pq => obtain ⟨l, a', _, _, ⟨h2, _⟩ | ⟨s, h2, _⟩⟩ := hp
                       · cases h2; exact Nat.le_refl _
                       · cases h2
        · obtain ⟨l, a', hl, rfl, ⟨h2, _⟩ | ⟨s, h2, hs', h3⟩⟩ := hp
          · cases h2
          · cases h2
            obtain ⟨arr, el, fr, g1, g2, g3, g4, g5⟩ := hr.cells hl ho
            rcases h3 with ⟨_, _, he⟩ | ⟨_, rfl, he⟩
            · dsimp only at he
              apply Nat.div_le_of_le_mul
              rw [Nat.mul_comm]
              omega
            · dsimp only at he
              have : n' - off = 0 := by omega
              rw [this, Nat.zero_div]
              exact Nat.le_refl _
      have hlec : len + n ≤ c := Nat.le_trans hle hkc
      obtain ⟨cs, hcs, hv6⟩ := ob_eq hv5
      obtain ⟨cs', hvr, happ, hcl⟩ := hnew hcs
      have hvs := hs.slc_len hlec
      cases p with
      | none =>
        cases hv6
        obtain ⟨rfl, _⟩ := hp
        exact ⟨φ, _, _, w, rfl, hvs, run_append_in (ty := ty) hts h0 h1 hu hi hz happ hlec rfl, Step.refl hr hD⟩
      | some pq =>
        obtain ⟨b, off⟩ := pq
        obtain ⟨l, a', hl, rfl, hcp⟩ := hp
        have hv6' : bc (Nat.beq n 0) (some ⟨.val (.slc (some (b, off)) (len + n) cap), H⟩) (fN (Nat.add off (Nat.mul len info.size)) fun at' => ob (storeN H b at' cs) fun H => some (⟨.val (.slc (some (b, off)) (len + n) cap), H⟩ : ON)) = some q := hv6
        rcases bc_eq hv6' with ⟨hn0, hv7⟩ | ⟨hn0, hv7⟩
        · cases hv7
          have hn0 : n = 0 := by rw [nbeq] at hn0; simpa using hn0
          have hcs0 : cs' = [] := by
            apply List.eq_nil_of_length_eq_zero
            have := hvr.length
            rw [hcl, hn0] at this
            omega
          subst hcs0
          exact ⟨φ, _, _, w, rfl, hvs, run_append_in (ty := ty) hts h0 h1 hu hi hz happ hlec rfl, Step.refl hr hD⟩
        · rw [fN_eq] at hv7
          obtain ⟨H1, hst, hv8⟩ := ob_eq hv7
          cases hv8
          have hn0 : n ≠ 0 := by rw [nbeq] at hn0; simpa using hn0
          have ha' : a' = ⟨l.b, l.δ + off, none⟩ := by
            rcases hcp with ⟨_, h2⟩ | ⟨s, _, _, ⟨h2, _, _⟩ | ⟨_, h2, _⟩⟩
            · exact h2
            · exact h2
            · omega
          subst ha'
          obtain ⟨w', hrs, hstep⟩ := storeN_sound (P := P) hr hD hl hvr (show storeN H b (off + len * info.size) cs = some H1 from hst)
          refine ⟨φ, _, _, w', rfl, hvs, run_append_in (ty := ty) hts h0 h1 hu hi hz happ hlec ?_, hstep⟩
          show (storeCells ((Addr.mk l.b (l.δ + off) none).add (len * info.size)) cs' 0).run P w = _
          rw [addr_add]
          exact hrs
    · -- it needs room
      have hle : ¬ (len + n ≤ kc) := by rw [nble] at hle; simpa using hle
      have hmul : (len + n) * info.size = len * info.size + n * info.size := Nat.add_mul _ _ _
      have hkcs : ∀ k, cap = .k k → ¬ (len + n ≤ k) := by
        intro k hk
        rcases hcap with h2 | ⟨h2, _⟩
        · rw [hk] at h2; cases h2; exact hle
        · rw [hk] at h2; cases h2
      have hcapo : ∀ s, cap = .o s → s = info.size ∧ ∃ b off, p = some (b, off) ∧ live H.at b ∧ ∃ sz' n' z' m', H.at b = some (.cells sz' n' z' m') ∧ ¬ (len + n ≤ (n' - off) / info.size) := by
        intro s hs'
        rcases hcap with h2 | ⟨h2, b, off, n', z', m', hp', ho, hk⟩
        · rw [hs'] at h2; cases h2
        · rw [hs'] at h2; cases h2
          exact ⟨rfl, b, off, hp', live_of ho nofun, _, n', _, _, ho, by rw [← hk]; exact hle⟩
      generalize hsh : bc (Nat.beq len 0) (orec (shareA info.size n x H) (fun _ => none) zs) none = sh at hv5
      cases sh with
      | some o =>
        rcases bc_eq hsh with ⟨hl0, hsh⟩ | ⟨_, hsh⟩
        · have hl0 : len = 0 := by rw [nbeq] at hl0; simpa using hl0
          subst hl0
          rcases hts1 with ⟨rfl, hts1⟩ | ⟨rfl, _⟩
          · obtain ⟨zz, m, new, rfl, hrun, hnl, hcr⟩ := shareA_sound (P := P) hr hx hnn (Nat.le_refl n) (show shareA info.size n x H = some o from hsh)
            obtain ⟨H1, hn1, hh1, hv6⟩ := hNew_eq (show hNew H (.cells info.size (n * info.size) zz m) (fun b H => ob (Ev.bury p cap H) fun H => some (⟨.val (.slc (some (b, 0)) (0 + n) (.o info.size)), H⟩ : ON)) = some q from hv5)
            obtain ⟨H2, hb, hv7⟩ := ob_eq hv6
            cases hv7
            have happ : App P w ts info.size info.bytes zv.cells x' n new.toArray := .cells hts1 (run_lenOf hnn hx) hrun
            have e0 : (0 + n) * info.size = n * info.size := by rw [Nat.zero_add]
            obtain ⟨φ', v', w', h5, h6, h7⟩ := grow_sound (ty := ty) (old := []) (new := new) (z := zz) (m := m) hr hD hts h0 h1 hu hi hz hzv hs0 hbytes hs happ hneed (fun w' _ => first_zero (x := .slc p 0 cap) rfl hs) (by simp) hnl hkcs hcapo (by rw [e0]; exact hcr) hn1 (by rw [e0]; exact hh1) hb
            exact ⟨φ', _, v', w', rfl, h5, h6, h7⟩
          · cases hsh
        · cases hsh
      | none =>
        obtain ⟨old, hold, hv6⟩ := ob_eq (show ob (Ev.cellsIn info.size (.slc p len cap) H) (fun old => ob (newCells zs info.size n x H) fun new => fN (llen (lapp old new) 0) fun m => ob (wcells m (lapp old new) 0 (noCells m)) fun tr => hNew H (.cells info.size m [] tr) fun b H => ob (Ev.bury p cap H) fun H => some (⟨.val (.slc (some (b, 0)) (len + n) (.o info.size)), H⟩ : ON)) = some q from hv5)
        obtain ⟨new, hnw, hv7⟩ := ob_eq hv6
        rw [fN_eq, llen_eq, lapp_eq] at hv7
        obtain ⟨tr, htr, hv8⟩ := ob_eq hv7
        obtain ⟨H1, hn1, hh1, hv9⟩ := hNew_eq hv8
        obtain ⟨H2, hb, hv10⟩ := ob_eq hv9
        cases hv10
        obtain ⟨old', hvo, hro, hol⟩ := cellsIn_sound (P := P) hr hs (show lenOf (.slc p len cap) = some len from rfl) hold
        obtain ⟨new', hvn, happ, hnl⟩ := hnew hnw
        have hlen : (old ++ new).length + 0 = (len + n) * info.size := by rw [List.length_append, hol, hnl, hmul]; rfl
        rw [hlen] at htr hh1
        have hcr := CR'_all (z := []) (hvo.append hvn) (by omega) htr
        obtain ⟨φ', v', w', h5, h6, h7⟩ := grow_sound (ty := ty) (old := old') (new := new') (z := []) (m := tr) hr hD hts h0 h1 hu hi hz hzv hs0 hbytes hs happ hneed hro (by rw [← hvo.length, hol]) (by rw [← hvn.length, hnl]) hkcs hcapo hcr hn1 hh1 hb
        exact ⟨φ', _, v', w', rfl, h5, h6, h7⟩
  · cases hv4
theorem append_sound (hE : EnvOK P E) {H : AHeap} (hr : Rel φ H.at w) (hD : Dom φ H) {t : Nat} {t2 : Option Nat} {f : AV → AV → AHeap → Option ON} (hf : appendS E t t2 = some f) {s x : AV} {q : ON} (hv : f s x H = some q) {s' x' : Value} (hs : VR φ s s') (hx : VR φ x x')
    {ts : Array TypeId} (hts : ts[0]? = some t) (hts2 : ts[1]? = t2) {as : Array Value} (h0 : as[0]? = some s') (h1 : as[1]? = some x') (ty : TypeId) : ∃ φ' v v' w', q.n = .val v ∧ VR φ' v v' ∧ (Builtin.append_ ts ty as).run P w = .ok v' w' ∧ Step φ φ' H q.H w w' := by
  obtain ⟨i, hi, hf⟩ := ob_eq hf
  obtain ⟨e, he, hf⟩ := ob_eq hf
  obtain ⟨ei, hei, hf⟩ := ob_eq hf
  rw [fN_eq] at hf
  rcases bc_eq hf with ⟨_, hf⟩ | ⟨hs0, hf⟩
  · cases hf
  rcases bc_eq hf with ⟨hby, hf⟩ | ⟨_, hf⟩
  · obtain ⟨z, hz, hf⟩ := ob_eq hf
    rcases bc_eq hf with ⟨hzl, hf⟩ | ⟨_, hf⟩
    · obtain ⟨zf, hzf, hf⟩ := ob_eq hf
      obtain ⟨info, hti⟩ := hE.ti hi
      obtain ⟨einfo, heti⟩ := hE.ti hei
      obtain ⟨zv, hz1, _, hz3⟩ := heti.zero z hz
      have hzr : VRs φ z zv.cells.toList := lmap_VRs (fun v a h => ofV_sound φ 6 v a h) hz3
      have hund : P.underlying t = some (.slice e) := by
        rw [hti.und]
        unfold Ev.elemOf at he
        split at he
        · rename_i e' hde; cases he; rw [hde]
        · cases he
      have hs0' : einfo.size ≠ 0 := by rw [← heti.size]; rw [nbeq] at hs0; simpa using hs0
      have hzl' : z.length = einfo.size := by rw [← heti.size]; rw [nbeq, llen_eq] at hzl; simpa using hzl
      have hby' : einfo.bytes ≤ 10000000 := by rw [← heti.bytes]; exact ble_le hby
      have hzf' : (zf = false ∧ (ts[1]? = none ∨ ∃ t2 d, ts[1]? = some t2 ∧ P.underlying t2 = some d ∧ isIntD d = false)) ∨ (zf = true ∧ ∃ t2 k2, ts[1]? = some t2 ∧ P.underlying t2 = some (.int k2)) := by
        cases t2 with
        | none => cases hzf; exact .inl ⟨rfl, .inl hts2⟩
        | some t2 =>
          obtain ⟨i2, hi2, hzf⟩ := ob_eq (show ob (E.tt t2) (fun i => some (isIntD i.d)) = some zf from hzf)
          cases hzf
          obtain ⟨info2, hti2⟩ := hE.ti hi2
          cases hdd : isIntD i2.d with
          | false => exact .inl ⟨rfl, .inr ⟨t2, i2.d, hts2, hti2.und, hdd⟩⟩
          | true =>
            refine .inr ⟨rfl, t2, ?_⟩
            unfold isIntD at hdd
            split at hdd
            · rename_i k hk; exact ⟨k, hts2, by rw [hti2.und, hk]⟩
            · cases hdd
      rw [heti.size] at hf
      rcases bc_eq hf with ⟨hb, hf⟩ | ⟨hb, hf⟩
      · cases hf
        rcases hzf' with ⟨h2, _⟩ | ⟨_, h2⟩
        · rw [hb] at h2; cases h2
        · exact appendV_sound (P := P) (z := z) hr hD ty hts h0 h1 hund heti.inf hz1 hzr hzl' hs0' hby' (.inr ⟨rfl, h2⟩) hs hx hv
      · cases hf
        rcases hzf' with ⟨_, h2⟩ | ⟨h2, _⟩
        · exact appendV_sound (P := P) (z := z) hr hD ty hts h0 h1 hund heti.inf hz1 hzr hzl' hs0' hby' (.inl ⟨rfl, h2⟩) hs hx hv
        · rw [hb] at h2; cases h2
    · cases hf
  · cases hf
end
end Go.Ev
end

section
namespace Go.Ev
open Go

section
variable {φ : Map} {P : Program} {ρ : Operand → Value} {tm : FT} {E : Env} {w : World}

/-- What an operation that calls or defers leads to. -/
def LeadsTo (φ : Map) (P : Program) (s : Sem Next) : ONext → Prop
  | .call f args => ∃ args', VRs φ args args' ∧ ∀ w, s.run P w = (callFunc f ⟨args'⟩).run P w
  | .yield l args => ∃ loc args', φ l = some loc ∧ VRs φ args args' ∧ ∀ w, s.run P w = (Instr.yield loc.b ⟨args'⟩).run P w
  | .defer f cap args => ∃ f' cap' args', FR φ f f' ∧ VRs φ cap cap' ∧ VRs φ args args' ∧ ∀ w, s.run P w = .ok (.defer ⟨.fn f' ⟨cap'⟩, ⟨args'⟩⟩) w
  | _ => False
/-- What an operation that changes the heap, calls or defers does. -/
def Moves (φ : Map) (P : Program) (H : AHeap) (w : World) (s : Sem Next) (q : ON) : Prop := match q.n with
  | .val v => ∃ φ' v' w', s.run P w = .ok (.value v') w' ∧ VR φ' v v' ∧ Step φ φ' H q.H w w'
  | .skip => ∃ φ' w', s.run P w = .ok .skip w' ∧ Step φ φ' H q.H w w'
  | n => q.H = H ∧ LeadsTo φ P s n
theorem Moves.of {H : AHeap} {s : Sem Next} {n : ONext} (h : LeadsTo φ P s n) : Moves φ P H w s ⟨n, H⟩ := by
  cases n <;> first | exact ⟨rfl, h⟩ | exact h.elim

theorem callee_sound (hE : EnvOK P E) {f : Fn} {cap args : List AV} {n : ONext} (h : calleeA E f cap args = some n) {f' : Fn} {cap' args' : List Value} (hf : FR φ f f') (hc : VRs φ cap cap') (ha : VRs φ args args') : LeadsTo φ P (invoke (.fn f' ⟨cap'⟩) ⟨args'⟩) n := by
  cases hf with
  | func f =>
    cases h
    refine ⟨args' ++ cap', by rw [lapp_eq]; exact ha.append hc, fun w => ?_⟩
    simp [invoke]
  | method nm =>
    cases ha with
    | nil => cases h
    | cons h1 ht =>
      cases h1 with
      | iface t hv =>
        obtain ⟨q, hq, h2⟩ := ob_eq h
        obtain ⟨i, hi, h3⟩ := ob_eq h2
        obtain ⟨f, ptr⟩ := q
        obtain ⟨info, hti⟩ := hE.ti hi
        obtain ⟨i', hi', hq1⟩ := ob_eq (show ob (E.tt t) (fun i => ob (i.ms.find? (·.name == nm)) fun m => bc m.path.isEmpty m.func none) = some (f, ptr) from hq)
        rw [hi] at hi'; cases hi'
        obtain ⟨m, hm, hq2⟩ := ob_eq hq1
        rcases bc_eq hq2 with ⟨hp, hmf⟩ | ⟨_, hmf⟩
        · have hm2 : info.methods.find? (·.name == nm) = some m := by rw [hti.ms] at hm; simpa using hm
          have hp2 : m.path = #[] := by simpa using hp
          have h0 : 0 < Made.depth := by decide
          have hfuel : P.types.size + Made.depth = (P.types.size + Made.depth - 1) + 1 := by omega
          rename_i r r' v v'
          have fin : n = .call f (v :: r) → (∀ w, (receiverAt t (.val v') ptr (some ((nm.splitOn ".").getLastD nm))).run P w = .ok v' w) → LeadsTo φ P (invoke (.fn (.method nm) ⟨cap'⟩) ⟨.iface t v' :: r'⟩) n := by
            intro hn hr
            subst hn
            refine ⟨v' :: r', .cons hv ht, fun w => ?_⟩
            have hmeth : (method (P.types.size + Made.depth) t v' nm).run P w = .ok (f, v') w := by
              rw [hfuel]
              simp only [method, Sem.run_bind, hti.run_typeInfo, Result.andThen_ok, hm2, hp2, follow, hmf, Sem.run_pure, Array.isEmpty_empty, if_true]
              rw [hr]
              rfl
            have hex : (Array.mk (Value.iface t v' :: r')).extract 1 (r'.length + 1) = ⟨r'⟩ := by
              apply Array.ext'
              rw [Array.toList_extract]
              simp
            simp [invoke, callMethod, hmeth, hex]
          have hund := run_underlying (P := P) hti.und
          generalize hd : i.d = d at h3 hund
          cases d with
          | pointer el =>
            cases ptr with
            | true => cases h3; exact fin rfl fun w => by simp [receiverAt, hund, Place.get]
            | false => cases h3
          | _ =>
            cases ptr with
            | true => cases h3
            | false => cases h3; exact fin rfl fun w => by simp [receiverAt, hund, Place.get]
        · cases hmf
      | _ => cases h
  | methodOf t n => cases h
  | via t p f b => cases h
  | yield hl =>
    cases h
    exact ⟨_, args', hl, ha, fun w => rfl⟩

theorem Fz.freeze {lo hi n : Nat} (h : Fz (lo, hi) n) : Fz (if lo == hi then (n, n + 1) else (min lo n, max hi (n + 1))) n := by
  by_cases e : lo = hi
  · rw [if_pos (by simpa using e)]; exact .inr (Nat.le_refl _)
  · rw [if_neg (by simpa using e)]
    rcases h with h | h
    · exact absurd h e
    · right; dsimp only at h ⊢; omega
theorem convM_sound (hE : EnvOK P E) {H : AHeap} (hr : Rel φ H.at w) (hD : Dom φ H) {t : Nat} {i : TI} (ht : E.tt t = some i) {sm : Bool} {x : AV} {q : ON} (hv : convM i.d E sm x H = some q) {x' : Value} (hx : VR φ x x') {dst : Nat} (hdst : sm = Nat.beq t dst) :
    ∃ v, q.n = .val v ∧ ∃ v' w', (convert t dst x').run P w = .ok v' w' ∧ VR φ v v' ∧ Step φ φ H q.H w w' := by
  obtain ⟨info, hti⟩ := hE.ti ht
  unfold convM at hv
  split at hv
  · rename_i e b n c hd
    obtain ⟨ei, hei, hv⟩ := ob_eq hv
    obtain ⟨einfo, heti⟩ := hE.ti hei
    rcases bc_eq hv with ⟨hu8, hv⟩ | ⟨_, hv⟩
    · rcases bc_eq hv with ⟨hs, hv⟩ | ⟨_, hv⟩
      · rcases bc_eq hv with ⟨_, hv⟩ | ⟨hcn, hv⟩
        · cases hv
        rcases bc_eq hv with ⟨_, hv⟩ | ⟨hb64, hv⟩
        · cases hv
        obtain ⟨o, ho, hv⟩ := hGet_eq hv
        obtain ⟨sz, m, z, mm, rfl, hv⟩ := onCells_eq hv
        cases hv
        have hed : ei.d = .int .u8 := by
          unfold isU8 at hu8
          split at hu8
          · assumption
          · cases hu8
        have htd : t = dst := by rw [hdst, nbeq] at hs; simpa using hs
        subst htd
        obtain ⟨b, off⟩ := b
        have hb64 : 64 ≤ b := by
          rw [nblt] at hb64
          have : ¬ (b < 64) := of_decide_eq_false hb64
          omega
        have hat : ∃ l c', φ b = some l ∧ x' = .slice (some ⟨l.b, l.δ + off, none⟩) n c' := by
          cases c with
          | k c => cases hx with | slc n c hl => exact ⟨_, _, hl, rfl⟩
          | o s =>
            have hn : n ≠ 0 := by
              intro h0; subst h0
              cases hcn
            exact hx.slc_at (by omega)
        obtain ⟨l, c', hl, rfl⟩ := hat
        obtain ⟨arr, el, fr, g1, g2, g3, g4, g5⟩ := hr.cells hl ho
        have hlt := (Array.getElem?_eq_some_iff.mp g1).1
        obtain ⟨lo, hi⟩ := fr
        refine ⟨_, rfl, .slice (some ⟨l.b, l.δ + off, none⟩) n c', w.freeze ⟨l.b, arr.size, none⟩ 1, ?_, hx, ?_⟩
        · have hsh : w.shape? l.b = some (el, arr.size) := by simp [World.shape?, g1]
          have h1 := run_underlying (P := P) (hti.und.trans (congrArg some hd))
          have h2 := run_underlying (P := P) (heti.und.trans (congrArg some hed))
          simp [convert, h1, h2, markStringish, hsh]
        · have hfz : (w.freeze ⟨l.b, arr.size, none⟩ 1).heap = w.heap.modify l.b fun
              | .cells c elem (lo, hi) => .cells c elem (if lo == hi then (arr.size, arr.size + 1) else (min lo arr.size, max hi (arr.size + 1)))
              | o => o := by
            unfold World.freeze
            rw [if_neg (by decide)]
            rfl
          have hself : (w.freeze ⟨l.b, arr.size, none⟩ 1).heap[l.b]? = some (.cells arr el (if lo == hi then (arr.size, arr.size + 1) else (min lo arr.size, max hi (arr.size + 1)))) := by
            rw [hfz, Array.getElem?_modify, if_pos rfl, g1]
            rfl
          have hoth : ∀ j, j ≠ l.b → (w.freeze ⟨l.b, arr.size, none⟩ 1).heap[j]? = w.heap[j]? := fun j hj => by
            rw [hfz, Array.getElem?_modify, if_neg (Ne.symm hj)]
          have hid : ∀ j, H.at j = if j = b then some (.cells sz m z mm) else H.at j := fun j => by
            by_cases hj : j = b
            · subst hj; rw [if_pos rfl, ho]
            · rw [if_neg hj]
          have hor : OR φ (.cells sz m z mm) l (w.freeze ⟨l.b, arr.size, none⟩ 1) := ⟨arr, el, _, hself, g2, g3, g4.freeze, g5⟩
          exact ⟨hr.upd hl (live_of ho nofun) hoth hid hor, Ext.upd hr hb64 hl (live_of ho nofun) rfl hoth (by rw [hfz]; simp) hid (by unfold World.freeze; rw [if_neg (by decide)]) (by unfold World.freeze; rw [if_neg (by decide)]) (by unfold World.freeze; rw [if_neg (by decide)]), hD⟩
      · cases hv
    · cases hv
  · cases hv

theorem clear_sound (hE : EnvOK P E) {H H' : AHeap} (hr : Rel φ H.at w) (hD : Dom φ H) {t : Nat} {i : TI} (ht : E.tt t = some i) {x : AV} (hv : clearV E i.d x H = some H') {x' : Value} (hx : VR φ x x') {ts : Array TypeId} (hts : ts[0]? = some t) {as : Array Value} (h0 : as[0]? = some x') (ty : TypeId) :
    ∃ w', (Builtin.clear_ ts ty as).run P w = .ok (.tuple #[]) w' ∧ Step φ φ H H' w w' := by
  obtain ⟨info, hti⟩ := hE.ti ht
  have hund := run_underlying (P := P) hti.und
  unfold clearV at hv
  split at hv
  · cases hv
    cases hx
    refine ⟨w, ?_, Step.refl hr hD⟩
    simp [Builtin.clear_, hts, h0, hund]
  · rename_i b
    obtain ⟨o, ho, hv⟩ := hGet_eq hv
    obtain ⟨es, rfl, hv⟩ := onEnts_eq hv
    cases hx with
    | map hl =>
      rename_i l
      obtain ⟨ces, ck, g1, g2⟩ := hr.blk _ _ _ hl ho
      have hlt := (Array.getElem?_eq_some_iff.mp g1).1
      refine ⟨{ w with heap := w.heap.setIfInBounds l.b (.map #[] ck) }, ?_, Step.set hr hD hl ho nofun hv ⟨#[], ck, Array.getElem?_setIfInBounds_self_of_lt hlt, .nil⟩⟩
      simp [Builtin.clear_, hts, h0, hund, MapKept.run_getObj_map g1, MapKept.run_setObj_map _ g1]
  · cases hv
    obtain ⟨a, c', rfl, h2, _⟩ := hx.slc_inv
    subst h2
    refine ⟨w, ?_, Step.refl hr hD⟩
    simp [Builtin.clear_, hts, h0, hund]
  · rename_i e q n c hd
    obtain ⟨b, off⟩ := q
    rcases bc_eq hv with ⟨hn, hv⟩ | ⟨hn, hv⟩
    · cases hv
      have hn : n = 0 := by rw [nbeq] at hn; simpa using hn
      subst hn
      obtain ⟨a, c', rfl, _⟩ := hx.slc_inv
      refine ⟨w, ?_, Step.refl hr hD⟩
      cases a <;> simp [Builtin.clear_, hts, h0, hund]
    · have hn : n ≠ 0 := by rw [nbeq] at hn; simpa using hn
      obtain ⟨ei, hei, hv⟩ := ob_eq hv
      obtain ⟨z, hz, hv⟩ := ob_eq hv
      rcases bc_eq hv with ⟨hzl, hv⟩ | ⟨_, hv⟩
      · obtain ⟨cs, hcs, hv⟩ := ob_eq hv
        obtain ⟨einfo, heti⟩ := hE.ti hei
        obtain ⟨zv, hz1, _, hz3⟩ := heti.zero z hz
        have hzr : VRs φ z zv.cells.toList := lmap_VRs (fun v a h => ofV_sound φ 6 v a h) hz3
        have hzl' : z.length = ei.size := by rw [nbeq, llen_eq] at hzl; simpa using hzl
        have hvr : VRs φ cs (Builtin.zeroCells zv.cells n).toList := by
          by_cases hs0 : ei.size = 0
          · have h1 : cs = [] := by
              apply List.eq_nil_of_length_eq_zero
              rw [(zerosA_eq hcs).1, hs0]; rfl
            have h2 : (Builtin.zeroCells zv.cells n).toList = [] := by
              have := hzr.length
              have h3 : zv.cells.size = 0 := by simp at this; omega
              simp [Builtin.zeroCells, h3]
            rw [h1, h2]
            exact .nil
          · have := zeros_VRs hzr hzl' hs0 (n := n) hcs
            simpa using this
        obtain ⟨l, c', hl, rfl⟩ := hx.slc_at (by omega)
        obtain ⟨w', hrun, hst⟩ := storeN_sound (P := P) hr hD hl hvr hv
        refine ⟨w', ?_, hst⟩
        have hrun' : (storeCells ⟨l.b, l.δ + off, none⟩ (Builtin.zeroCells zv.cells n).toList).run P w = .ok () w' := hrun
        have hund' := run_underlying (P := P) (hti.und.trans (congrArg some hd))
        obtain ⟨k, rfl⟩ : ∃ k, n = k + 1 := ⟨n - 1, by omega⟩
        simp only [Builtin.clear_, hts, h0, Sem.run_bind, hund', Result.andThen_ok, heti.run_zero _ hz1, hrun', Sem.run_pure]
      · cases hv
  · cases hv

/-! ### The join -/
theorem LeadsTo.congr {s s' : Sem Next} {n : ONext} (h : LeadsTo φ P s n) (e : ∀ w, s'.run P w = s.run P w) : LeadsTo φ P s' n := by
  cases n with
  | call f args => obtain ⟨a, h1, h2⟩ := h; exact ⟨a, h1, fun w => (e w).trans (h2 w)⟩
  | yield l args => obtain ⟨a, b, h1, h2, h3⟩ := h; exact ⟨a, b, h1, h2, fun w => (e w).trans (h3 w)⟩
  | defer f c a => obtain ⟨a, b, c, h1, h2, h3, h4⟩ := h; exact ⟨a, b, c, h1, h2, h3, fun w => (e w).trans (h4 w)⟩
  | _ => exact h.elim
theorem Moves.val {H : AHeap} {q : ON} {s : Sem Value} {s' : Sem Next} {v : AV} (hn : q.n = .val v) (h : ∃ φ' v' w', s.run P w = .ok v' w' ∧ VR φ' v v' ∧ Step φ φ' H q.H w w') (e : s' = (do pure (Next.value (← s)))) : Moves φ P H w s' q := by
  obtain ⟨φ', v', w', h1, h2, h3⟩ := h
  unfold Moves
  rw [hn]
  exact ⟨φ', v', w', by rw [e]; simp [h1], h2, h3⟩
theorem mBuiltin_sound (hE : EnvOK P E) {H : AHeap} (hr : Rel φ H.at w) (hD : Dom φ H) {o : Oper} {c : Call} (hop : o.op = .call c) {b : Builtin} (hcl : c.callee = .builtin b) {g : MF} (hg : mBuiltin b c.args.toList c.argTypes.toList E = some g) {q : ON} (hq : g tm H = some q)
    (one : ∀ {x : Operand} {a : AV}, x ∈ c.args.toList → opd x tm = some a → VR φ a (ρ x)) : Moves φ P H w (execOp ρ o) q := by
  have hex : ∀ s, builtin b c.argTypes o.type (c.args.map fun | .const _ => true | _ => false) (c.args.map ρ) = (do pure (Next.value (← s))) → execOp ρ o = (do pure (Next.value (← s))) := by
    intro s hs
    unfold execOp
    rw [hop]
    simp only [resolve, hcl, pure_bind, invoke]
    exact hs
  have hm : ∀ {i : Nat} {x : Operand}, c.args[i]? = some x → x ∈ c.args.toList := fun h => by simpa using Array.mem_of_getElem? h
  cases b with
  | append =>
    obtain ⟨s, hs, hg⟩ := ob_eq hg
    obtain ⟨x, hx, hg⟩ := ob_eq hg
    obtain ⟨gs, hgs, hg⟩ := ob_eq hg
    obtain ⟨gx, hgx, hg⟩ := ob_eq hg
    obtain ⟨t, ht, hg⟩ := ob_eq hg
    obtain ⟨f, hf, hg⟩ := ob_eq hg
    cases hg
    obtain ⟨vs, hvs, hq⟩ := opS_some hgs hq
    obtain ⟨vx, hvx, hq⟩ := opS_some hgx hq
    rw [arr_get] at hs hx ht hf
    obtain ⟨φ', v, v', w', h1, h2, h3, h4⟩ := append_sound (P := P) hE hr hD hf hq (one (hm hs) hvs) (one (hm hx) hvx) ht rfl (as := c.args.map ρ) (by simp [hs]) (by simp [hx]) o.type
    exact Moves.val h1 ⟨φ', v', w', h3, h2, h4⟩ (hex _ rfl)
  | copy =>
    obtain ⟨s, hs, hg⟩ := ob_eq hg
    obtain ⟨x, hx, hg⟩ := ob_eq hg
    obtain ⟨gs, hgs, hg⟩ := ob_eq hg
    obtain ⟨gx, hgx, hg⟩ := ob_eq hg
    obtain ⟨t, ht, hg⟩ := ob_eq hg
    obtain ⟨f, hf, hg⟩ := ob_eq hg
    cases hg
    obtain ⟨vs, hvs, hq⟩ := opS_some hgs hq
    obtain ⟨vx, hvx, hq⟩ := opS_some hgx hq
    rw [arr_get] at hs hx ht
    obtain ⟨v, v', w', h1, h2, h3, h4⟩ := copy_sound (P := P) hE hr hD hf hq (one (hm hs) hvs) (one (hm hx) hvx) ht (as := c.args.map ρ) (by simp [hs]) (by simp [hx]) o.type
    exact Moves.val h1 ⟨φ, v', w', h3, h2, h4⟩ (hex _ rfl)
  | clear =>
    obtain ⟨x, hx, hg⟩ := ob_eq hg
    obtain ⟨gx, hgx, hg⟩ := ob_eq hg
    obtain ⟨t, ht, hg⟩ := ob_eq hg
    obtain ⟨i, hi, hg⟩ := ob_eq hg
    cases hg
    obtain ⟨vx, hvx, hq⟩ := opS_some hgx hq
    obtain ⟨H', hc, hq⟩ := ob_eq hq
    cases hq
    rw [arr_get] at hx ht
    obtain ⟨w', h3, h4⟩ := clear_sound (P := P) hE hr hD hi hc (one (hm hx) hvx) ht (as := c.args.map ρ) (by simp [hx]) o.type
    exact Moves.val rfl ⟨φ, _, w', h3, .tup .nil, h4⟩ (hex _ rfl)
  | _ => cases hg
theorem mOp_sound (hE : EnvOK P E) {H : AHeap} (hr : Rel φ H.at w) (hD : Dom φ H) {o : Oper} {g : MF} (hg : mOp o.op E = some g) {q : ON} (hq : g tm H = some q) (ho : Ops φ ρ tm o.op.operands.toList) : Moves φ P H w (execOp ρ o) q := by
  have one : ∀ {x : Operand} {a : AV}, x ∈ o.op.operands.toList → opd x tm = some a → VR φ a (ρ x) := fun hx ha => ho _ hx _ ha
  generalize hop : o.op = op at hg ho one
  cases op with
  | store t a x =>
    obtain ⟨i, hi, hg⟩ := ob_eq hg
    obtain ⟨ga, hga, hg⟩ := ob_eq hg
    obtain ⟨gx, hgx, hg⟩ := ob_eq hg
    obtain ⟨n, H'⟩ := q
    obtain ⟨rfl, w', h1, h2⟩ := store_sound (P := P) hE hr hD hi hga hgx hg hq (fun u hu => one (x := a) (by simp [Op.operands]) hu) (fun u hu => one (x := x) (by simp [Op.operands]) hu)
    refine ⟨φ, w', ?_, h2⟩
    unfold execOp
    rw [hop]
    simp [h1]
  | mapUpdate t x k v =>
    obtain ⟨i, hi, hg⟩ := ob_eq hg
    obtain ⟨gx, hgx, hg⟩ := ob_eq hg
    obtain ⟨gk, hgk, hg⟩ := ob_eq hg
    obtain ⟨gv, hgv, hg⟩ := ob_eq hg
    obtain ⟨f, hf, hg⟩ := ob_eq hg
    cases hg
    obtain ⟨vx, hvx, hq⟩ := opS_some hgx hq
    obtain ⟨vk, hvk, hq⟩ := opS_some hgk hq
    obtain ⟨vv, hvv, hq⟩ := opS_some hgv hq
    obtain ⟨H', hu, hq⟩ := ob_eq hq
    cases hq
    obtain ⟨w', h1, h2⟩ := mapUpd_sound (P := P) hE hr hD hi hf hu (one (x := x) (by simp [Op.operands]) hvx) (one (x := k) (by simp [Op.operands]) hvk) (one (x := v) (by simp [Op.operands]) hvv)
    refine ⟨φ, w', ?_, h2⟩
    unfold execOp
    rw [hop]
    simp [h1]
  | convert src dst x =>
    obtain ⟨gx, hgx, hg⟩ := ob_eq hg
    obtain ⟨i, hi, hg⟩ := ob_eq hg
    cases hg
    obtain ⟨vx, hvx, hq⟩ := opS_some hgx hq
    obtain ⟨v, hn, v', w', h1, h2, h3⟩ := convM_sound (P := P) hE hr hD hi hq (one (x := x) (by simp [Op.operands]) hvx) rfl
    exact Moves.val hn ⟨φ, v', w', h1, h2, h3⟩ (by unfold execOp; rw [hop])
  | call c =>
    have hg' : mCall c.callee c.args.toList c.argTypes.toList E = some g := hg
    have hmem : ∀ x, x ∈ c.args.toList → x ∈ (Op.call c).operands.toList := fun x hx => by
      simp only [Op.operands, Call.operands, Array.toList_append, List.mem_append]
      exact .inr hx
    cases hcl : c.callee with
    | builtin b =>
      rw [hcl] at hg'
      exact mBuiltin_sound hE hr hD hop hcl hg' hq fun hx ha => one (hmem _ hx) ha
    | invoke r nm =>
      rw [hcl] at hg'
      obtain ⟨gr, hgr, hg1⟩ := ob_eq (show ob (opS r) (fun gr => ob (opsS c.args.toList) fun gas => some fun tm H => gr tm fun r => gas tm fun vs => ob (calleeA E (.method nm) [] (r :: vs)) fun x => some (⟨x, H⟩ : ON)) = some g from hg')
      obtain ⟨gas, hgas, hg1⟩ := ob_eq hg1
      cases hg1
      obtain ⟨vr, hvr, hq1⟩ := opS_some hgr hq
      obtain ⟨vs, hvs, hq2⟩ := opsS_some hgas hq1
      obtain ⟨x, hx, hq3⟩ := ob_eq hq2
      cases hq3
      have hr1 := one (x := r) (by simp [Op.operands, Call.operands, hcl]) hvr
      have hr2 := Ops.list (ρ := ρ) (ho.sub fun x hx => hmem x hx) hvs
      refine Moves.of ((callee_sound hE hx (.method nm) .nil (.cons hr1 hr2)).congr fun w => ?_)
      unfold execOp
      rw [hop]
      simp only [resolve, hcl, pure_bind]
      congr 2
      apply Array.ext'
      simp
    | value f =>
      rw [hcl] at hg'
      have hexec : ∀ {fn : Fn} {first cap : Array Value}, ρ f = .func fn first cap → execOp ρ o = invoke (.fn fn cap) (first ++ c.args.map ρ) := by
        intro fn first cap hf
        unfold execOp
        rw [hop]
        simp only [resolve, hcl, hf, Deferred.ofValue, pure_bind]
      have key : ∀ {vf : AV} {vs : List AV}, opd f tm = some vf → All2 (fun x a => opd x tm = some a) c.args.toList vs → ∀ {fn : Fn} {first cap : List AV} {x : ONext}, vf = .fn fn first cap → calleeA E fn cap (lapp first vs) = some x → Moves φ P H w (execOp ρ o) ⟨x, H⟩ := by
        intro vf vs hvf hvs fn first cap x hfn hx
        subst hfn
        have hr1 := one (x := f) (by simp [Op.operands, Call.operands, hcl]) hvf
        have hr2 := Ops.list (ρ := ρ) (ho.sub fun x hx => hmem x hx) hvs
        generalize hy : ρ f = y at hr1
        cases hr1 with
        | fn h1 h2 h3 =>
          rw [lapp_eq] at hx
          refine Moves.of ((callee_sound hE hx h1 h3 (h2.append hr2)).congr fun w => ?_)
          rw [hexec hy]
          congr 2
          apply Array.ext'
          simp
      cases hf : f with
      | func fid =>
        rw [hf] at hg'
        obtain ⟨gas, hgas, hg1⟩ := ob_eq (show ob (opsS c.args.toList) (fun gas => some fun tm H => gas tm fun vs => some (⟨.call fid vs, H⟩ : ON)) = some g from hg')
        cases hg1
        obtain ⟨vs, hvs, hq1⟩ := opsS_some hgas hq
        cases hq1
        refine key (vf := .fn (.func fid) [] []) (by rw [hf]; rfl) hvs rfl ?_
        show some (ONext.call fid (lapp (lapp [] vs) [])) = _
        rw [lapp_eq, lapp_eq]
        simp
      | _ =>
        rw [hf] at hg'
        obtain ⟨gf, hgf, hg1⟩ := ob_eq hg'
        obtain ⟨gas, hgas, hg1⟩ := ob_eq hg1
        cases hg1
        obtain ⟨vf, hvf, hq1⟩ := opS_some hgf hq
        obtain ⟨vs, hvs, hq2⟩ := opsS_some hgas hq1
        obtain ⟨fn, first, cap, hfn, hq3⟩ := onFn_eq hq2
        obtain ⟨x, hx, hq4⟩ := ob_eq hq3
        cases hq4
        exact key (by rw [hf]; exact hvf) hvs hfn hx
  | defer c =>
    have hmem : ∀ x, x ∈ c.args.toList → x ∈ (Op.defer c).operands.toList := fun x hx => by
      simp only [Op.operands, Call.operands, Array.toList_append, List.mem_append]
      exact .inr hx
    have hg' : (match c.callee with
      | .value f => ob (opS f) fun gf => ob (opsS c.args.toList) fun gas => some fun tm H => gf tm fun f => gas tm fun vs => onFn f fun f first cap => some ⟨.defer f cap (lapp first vs), H⟩
      | _ => none) = some g := hg
    cases hcl : c.callee with
    | value f =>
      rw [hcl] at hg'
      obtain ⟨gf, hgf, hg1⟩ := ob_eq hg'
      obtain ⟨gas, hgas, hg1⟩ := ob_eq hg1
      cases hg1
      obtain ⟨vf, hvf, hq1⟩ := opS_some hgf hq
      obtain ⟨vs, hvs, hq2⟩ := opsS_some hgas hq1
      obtain ⟨fn, first, cap, hfn, hq3⟩ := onFn_eq hq2
      cases hq3
      subst hfn
      have hr1 := one (x := f) (by simp [Op.operands, Call.operands, hcl]) hvf
      have hr2 := Ops.list (ρ := ρ) (ho.sub fun x hx => hmem x hx) hvs
      generalize hy : ρ f = y at hr1
      cases hr1 with
      | fn h1 h2 h3 =>
        rename_i fn' first' cap'
        refine Moves.of ⟨fn', cap', first' ++ c.args.toList.map ρ, h1, h3, by rw [lapp_eq]; exact h2.append hr2, fun w => ?_⟩
        unfold execOp
        rw [hop]
        simp only [resolve, hcl, hy, Deferred.ofValue, pure_bind, Sem.run_pure]
        congr 3
        apply Array.ext'
        simp
    | _ => rw [hcl] at hg'; cases hg'
  | _ => cases hg
end
end Go.Ev
end
