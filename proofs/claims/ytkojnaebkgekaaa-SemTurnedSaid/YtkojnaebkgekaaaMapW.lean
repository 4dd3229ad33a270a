/- Maps with keys that are numbers or texts, made by the call: what their operations do. -/
import Derived.Test.YtkojnaebkgekaaaBase
set_option linter.unusedVariables false
set_option linter.unusedSimpArgs false
set_option linter.unusedSectionVars false
namespace Go.Proofs.Ytkojnaebkgekaaa
open Go.RowKit Go.Proofs.YtkojnaebkgekaaaW.PrintWords
open Go.Instr (findNow sameNow findKey checkKey)

/-- A key's kind: numbers or texts, told apart by '=='. -/
structure KeyOk {κ : Type} [BEq κ] (P : Program) (kt : TypeId) (kenc : κ → Value) : Prop where
  ex : ∃ kind, P.underlying kt = some kind ∧ (∀ a b, sameNow kind (kenc a) (kenc b) = some (a == b)) ∧ (∀ n a w, (checkKey false (n + 1) kt (kenc a)).run P w = .ok () w) ∧ (∀ n a w, (checkKey true (n + 1) kt (kenc a)).run P w = .ok () w)
theorem keyOk_int {P : Program} {kt : TypeId} {k : IntKind} (h : P.underlying kt = some (.int k)) : KeyOk P kt (Value.int k) := by
  refine ⟨_, h, fun a b => by simp [sameNow], ?_, ?_⟩
  · intro n a w; simp [checkKey, run_underlying h]
  · intro n a w; simp [checkKey, run_underlying h]
theorem keyOk_string {P : Program} {kt : TypeId} (h : P.underlying kt = some .string) : KeyOk P kt Value.string := by
  refine ⟨_, h, fun a b => by simp [sameNow], ?_, ?_⟩
  · intro n a w; simp [checkKey, run_underlying h]
  · intro n a w; simp [checkKey, run_underlying h]

section
variable {κ ν : Type} [BEq κ] {kenc : κ → Value} {venc : ν → Value}
/-- Entries that say a list of keys and values. -/
def Says (kenc : κ → Value) (venc : ν → Value) (es : List MapEntry) (m : List (κ × ν)) : Prop := es.map (fun e => (e.key, e.val)) = m.map (fun p => (kenc p.1, venc p.2))
theorem findNow_says {kind : TypeDesc} (hk : ∀ a b, sameNow kind (kenc a) (kenc b) = some (a == b)) (k : κ) : ∀ (m : List (κ × ν)) (es : List MapEntry) (i : Nat), Says kenc venc es m →
    findNow kind (kenc k) es i = some ((m.findIdx? (fun p => k == p.1)).bind fun j => (m[j]?).map fun p => (i + j, venc p.2))
  | [], es, i, h => by
    have : es = [] := by simpa [Says] using h
    subst this
    simp [findNow]
  | p :: m, [], i, h => by simp [Says] at h
  | p :: m, e :: es, i, h => by
    simp only [Says, List.map_cons, List.cons.injEq, Prod.mk.injEq] at h
    obtain ⟨⟨h1, h2⟩, h3⟩ := h
    simp only [findNow, h1, hk]
    cases hc : (k == p.1) with
    | true => simp [List.findIdx?_cons, hc, h2]
    | false =>
      simp only [hc]
      rw [findNow_says hk k m es (i + 1) h3, List.findIdx?_cons, hc]
      cases hf : List.findIdx? (fun p => k == p.1) m with
      | none => simp
      | some j => simp [Nat.add_assoc, Nat.add_comm 1 j]
theorem lookup_findIdx (k : κ) : ∀ (m : List (κ × ν)), ((m.findIdx? (fun p => k == p.1)).bind fun j => (m[j]?).map fun p => p.2) = m.lookup k
  | [] => by simp
  | p :: m => by
    obtain ⟨a, b⟩ := p
    rw [List.findIdx?_cons, List.lookup_cons]
    cases hc : (k == a) with
    | true => simp
    | false =>
      rw [← lookup_findIdx k m]
      cases hf : List.findIdx? (fun p => k == p.1) m with
      | none => simp [hf]
      | some j => simp [hf]
/-- A map in memory that says a list. -/
def IsMap (kenc : κ → Value) (venc : ν → Value) (w : World) (r : Nat) (m : List (κ × ν)) : Prop := ∃ es c, w.heap[r]? = some (.map es c) ∧ Says kenc venc es.toList m
theorem run_lookup_ok {P : Program} {t kt et : TypeId} (hu : P.underlying t = some (.map kt et)) (hk : KeyOk P kt kenc) (z : Value) (hz : ∀ w, (zeroValue et).run P w = .ok z w) (w : World) (r : Nat) (m : List (κ × ν)) (hm : IsMap kenc venc w r m) (k : κ) :
    (Instr.lookup t (.map (some r)) (kenc k) true).run P w = .ok (match m.lookup k with | some v => .tuple #[venc v, .bool true] | none => .tuple #[z, .bool false]) w := by
  obtain ⟨es, c, hh, hs⟩ := hm
  obtain ⟨kind, h1, h2, h3, h3'⟩ := hk.ex
  have hck : ∀ n w, (checkKey es.isEmpty (n + 1) kt (kenc k)).run P w = .ok () w := by intro n w; cases es.isEmpty; exact h3 n k w; exact h3' n k w
  have hf := findNow_says h2 k m es.toList 0 hs
  have hl := lookup_findIdx k m
  unfold Instr.lookup
  simp only [Sem.run_bind, run_underlying hu, Result.andThen_ok, run_getObj_map w r _ _ hh, Sem.run_pure, hck 9999 w]
  unfold findKey
  simp only [Sem.run_bind, run_underlying h1, Result.andThen_ok, hf]
  cases hx : m.findIdx? (fun p => k == p.1) with
  | none =>
    rw [hx] at hl
    simp only [Option.bind_none] at hl
    simp [← hl, hz]
  | some j =>
    rw [hx] at hl
    obtain ⟨hj, _⟩ := List.findIdx?_eq_some_iff_getElem.1 hx
    simp only [Option.bind_some, List.getElem?_eq_getElem hj, Option.map_some] at hl
    simp [← hl, List.getElem?_eq_getElem hj]
theorem run_lookup_one {P : Program} {t kt et : TypeId} (hu : P.underlying t = some (.map kt et)) (hk : KeyOk P kt kenc) (z : Value) (hz : ∀ w, (zeroValue et).run P w = .ok z w) (w : World) (r : Nat) (m : List (κ × ν)) (hm : IsMap kenc venc w r m) (k : κ) :
    (Instr.lookup t (.map (some r)) (kenc k) false).run P w = .ok (match m.lookup k with | some v => venc v | none => z) w := by
  obtain ⟨es, c, hh, hs⟩ := hm
  obtain ⟨kind, h1, h2, h3, h3'⟩ := hk.ex
  have hck : ∀ n w, (checkKey es.isEmpty (n + 1) kt (kenc k)).run P w = .ok () w := by intro n w; cases es.isEmpty; exact h3 n k w; exact h3' n k w
  have hf := findNow_says h2 k m es.toList 0 hs
  have hl := lookup_findIdx k m
  unfold Instr.lookup
  simp only [Sem.run_bind, run_underlying hu, Result.andThen_ok, run_getObj_map w r _ _ hh, Sem.run_pure, hck 9999 w]
  unfold findKey
  simp only [Sem.run_bind, run_underlying h1, Result.andThen_ok, hf]
  cases hx : m.findIdx? (fun p => k == p.1) with
  | none =>
    rw [hx] at hl
    simp only [Option.bind_none] at hl
    simp [← hl, hz]
  | some j =>
    rw [hx] at hl
    obtain ⟨hj, _⟩ := List.findIdx?_eq_some_iff_getElem.1 hx
    simp only [Option.bind_some, List.getElem?_eq_getElem hj, Option.map_some] at hl
    simp [← hl, List.getElem?_eq_getElem hj]

/-- The map that a row of insertions leaves: stamps are places. -/
def mapEs (kenc : κ → Value) (venc : ν → Value) (m : List (κ × ν)) : Array MapEntry := (m.zipIdx.map fun p => { key := kenc p.1.1, val := venc p.1.2, born := p.2 }).toArray
def mapObj (kenc : κ → Value) (venc : ν → Value) (m : List (κ × ν)) : Obj := .map (mapEs kenc venc m) m.length
theorem says_mapEs (m : List (κ × ν)) : Says kenc venc (mapEs kenc venc m).toList m := by
  unfold Says mapEs
  apply List.ext_getElem
  · simp
  · intro i h1 h2
    simp
theorem mapEs_snoc (m : List (κ × ν)) (k : κ) (v : ν) : (mapEs kenc venc m).push { key := kenc k, val := venc v, born := m.length } = mapEs kenc venc (m ++ [(k, v)]) := by
  unfold mapEs
  rw [List.zipIdx_append]
  simp
theorem IsMap.of_obj {w : World} {r : Nat} {m : List (κ × ν)} (h : w.heap[r]? = some (mapObj kenc venc m)) : IsMap kenc venc w r m := ⟨_, _, h, says_mapEs m⟩
theorem IsMap.below {w w1 : World} {r : Nat} {m : List (κ × ν)} (h : IsMap kenc venc w r m) (hb : Below w.heap.size w w1) : IsMap kenc venc w1 r m := by
  obtain ⟨es, c, hh, hs⟩ := h
  exact ⟨es, c, (hb.block r (blk_lt hh)).trans hh, hs⟩
/-- A key that is not there is put in. -/
theorem run_insert_new {P : Program} {t kt et : TypeId} (hu : P.underlying t = some (.map kt et)) (hk : KeyOk P kt kenc) (w : World) (r : Nat) (m : List (κ × ν)) (hm : w.heap[r]? = some (mapObj kenc venc m)) (k : κ) (v : ν) (hn : m.lookup k = none) :
    (Instr.mapUpdate t (.map (some r)) (kenc k) (venc v)).run P w = .ok () { w with heap := w.heap.setIfInBounds r (mapObj kenc venc (m ++ [(k, v)])) } := by
  obtain ⟨kind, h1, h2, h3, h3'⟩ := hk.ex
  have hf := findNow_says h2 k m (mapEs kenc venc m).toList 0 (says_mapEs (venc := venc) m)
  have hl := lookup_findIdx k m
  unfold Instr.mapUpdate
  have hm' : w.heap[r]? = some (.map (mapEs kenc venc m) m.length) := hm
  simp only [Sem.run_bind, run_underlying hu, Result.andThen_ok, run_getObj_map w r _ _ hm', h3 9999 k w]
  unfold findKey
  simp only [Sem.run_bind, run_underlying h1, Result.andThen_ok, hf]
  have hx : m.findIdx? (fun p => k == p.1) = none := by
    cases hx : m.findIdx? (fun p => k == p.1) with
    | none => rfl
    | some j =>
      obtain ⟨hj, _⟩ := List.findIdx?_eq_some_iff_getElem.1 hx
      rw [hx, hn] at hl
      simp [List.getElem?_eq_getElem hj] at hl
  rw [hx]
  simp only [Option.bind_none, Sem.run_pure, Result.andThen_ok]
  simp [setObj, Sem.run, hm', mapEs_snoc, mapObj]
theorem run_insert_alloc {P : Program} {t kt et : TypeId} (hu : P.underlying t = some (.map kt et)) (hk : KeyOk P kt kenc) (w : World) (m : List (κ × ν)) (k : κ) (v : ν) (hn : m.lookup k = none) :
    (Instr.mapUpdate t (.map (some w.heap.size)) (kenc k) (venc v)).run P (w.alloc (mapObj kenc venc m)) = .ok () (w.alloc (mapObj kenc venc (m ++ [(k, v)]))) := by
  rw [run_insert_new hu hk (w.alloc (mapObj kenc venc m)) w.heap.size m (heap_alloc_new w _) k v hn]
  unfold World.alloc
  congr 2
  apply Array.ext
  · simp
  · intro i h1 h2
    by_cases hi : i = w.heap.size
    · subst hi; simp
    · have : i < w.heap.size := by simp at h2; omega
      rw [Array.getElem_setIfInBounds, if_neg (by omega), Array.getElem_push_lt this, Array.getElem_push_lt this]
      simp
      omega
theorem grown_put {w : World} {r : Nat} {o o' : Obj} (h : w.heap[r]? = some o) : w.grownBy { w with heap := w.heap.setIfInBounds r o' } (some r) := by
  refine ⟨rfl, rfl, rfl, by simp, fun i hi hne => ?_⟩
  have : r ≠ i := fun e => hne (by rw [e])
  simp [Array.getElem?_setIfInBounds, this]
theorem at_put {w : World} {r : Nat} {o o' : Obj} (h : w.heap[r]? = some o) : ({ w with heap := w.heap.setIfInBounds r o' } : World).heap[r]? = some o' := by
  have := (Array.getElem?_eq_some_iff.1 h).1
  simp [this]
theorem grown_cells {w w1 : World} {r : Nat} (h : w.grownBy w1 (some r)) (hr : r < w.heap.size) : (∀ a : Addr, a.block < r → w1.cell? a = w.cell? a) ∧ (∀ a : Addr, a.block < r → w1.frozen? a = w.frozen? a) := by
  have key : ∀ a : Addr, a.block < r → w1.heap[a.block]? = w.heap[a.block]? := fun a ha => h.block _ (by omega) (by intro e; injection e with e; omega)
  exact ⟨fun a ha => by simp only [World.cell?, key a ha], fun a ha => by simp only [World.frozen?, key a ha]⟩
theorem below_grown {B r : Nat} {w W w1 : World} (h : Below B w W) (hB : B ≤ W.heap.size) (hg : W.grownBy w1 (some r)) (hr : B ≤ r) : Below B w w1 := pw_below_grown h (some r) hB hg (fun k hk => by injection hk with hk; omega)
theorem wpList_insert {P : Program} {W : World} {ops : Array Oper} {rest : List Oper} {o : Oper} {a : Act} {Q : Exit → Act → World → Prop} {t kt et : TypeId} (hgd : o.guard = none) (x y z : Operand) (hop : o.op = Op.mapUpdate t x y z)
    (hu : P.underlying t = some (.map kt et)) (hk : KeyOk P kt kenc) (r : Nat) (m : List (κ × ν)) (k : κ) (v : ν) (hx : a.eval x = .map (some r)) (hy : a.eval y = kenc k) (hz : a.eval z = venc v) (hm : W.heap[r]? = some (mapObj kenc venc m)) (hn : m.lookup k = none)
    (h : ∀ w1, w1.heap[r]? = some (mapObj kenc venc (m ++ [(k, v)])) → W.grownBy w1 (some r) → wpList P ops Q rest (a.put o.dst undef) w1) : wpList P ops Q (o :: rest) a W := by
  refine wpList_plain hgd fun K' hK' => ?_
  unfold Oper.wp
  simp only [execOp, hop, hx, hy, hz, Sem.run_bind, run_insert_new hu hk W r m hm k v hn, Result.andThen_ok, Sem.run_pure]
  exact hK' _ _ (h _ (at_put hm) (grown_put hm))
/-- A key that is there: its value turns; where '==' is 'the same bits' the key stays. -/
theorem run_insert_old {P : Program} {t kt et : TypeId} (hu : P.underlying t = some (.map kt et)) (hk : KeyOk P kt kenc) (hsb : ∀ a b : κ, (a == b) = true → Instr.sameBits 10000 (kenc b) (kenc a) = true) (w : World) (r : Nat) (es : Array MapEntry) (c : Nat) (m : List (κ × ν)) (hm : w.heap[r]? = some (.map es c)) (hs : Says kenc venc es.toList m) (k : κ) (v : ν) (i : Nat) (hi : m.findIdx? (fun p => k == p.1) = some i) :
    (Instr.mapUpdate t (.map (some r)) (kenc k) (venc v)).run P w = .ok () { w with heap := w.heap.setIfInBounds r (.map (es.modify i fun e => { e with key := kenc k, val := venc v }) c) } := by
  obtain ⟨kind, h1, h2, h3, h3'⟩ := hk.ex
  have hf := findNow_says h2 k m es.toList 0 hs
  obtain ⟨hil, hp, _⟩ := List.findIdx?_eq_some_iff_getElem.1 hi
  have hlen : es.toList.length = m.length := by have := congrArg List.length hs; simpa [Says] using this
  have hie : i < es.size := by rw [← Array.length_toList, hlen]; exact hil
  have hkey : es[i].key = kenc m[i].1 := by
    have := congrArg (fun l => (l[i]?).map Prod.fst) hs
    simp [List.getElem?_eq_getElem hil, Array.getElem?_eq_getElem hie] at this
    exact this
  unfold Instr.mapUpdate
  simp only [Sem.run_bind, run_underlying hu, Result.andThen_ok, run_getObj_map w r _ _ hm, h3 9999 k w]
  unfold findKey
  simp only [Sem.run_bind, run_underlying h1, Result.andThen_ok, hf, hi, Option.bind_some, List.getElem?_eq_getElem hil, Option.map_some, Sem.run_pure, Nat.zero_add]
  have hkt : (Instr.keyThatStays (((es[i]?).map (·.key)).getD (kenc k)) (kenc k)).run P w = .ok (kenc k) w := by
    simp only [Array.getElem?_eq_getElem hie, Option.map_some, Option.getD_some, hkey]
    unfold Instr.keyThatStays
    rw [if_pos (hsb _ _ hp)]
    rfl
  rw [hkt]
  simp [setObj, Sem.run, hm]
theorem says_modify {es : Array MapEntry} {m : List (κ × ν)} (hs : Says kenc venc es.toList m) (i : Nat) (k : κ) (v : ν) : Says kenc venc (es.modify i fun e => { e with key := kenc k, val := venc v }).toList (m.set i (k, v)) := by
  have hlen : es.toList.length = m.length := by have := congrArg List.length hs; simpa [Says] using this
  unfold Says at *
  apply List.ext_getElem?
  intro j
  have h := congrArg (fun l => l[j]?) hs
  simp only [List.getElem?_map] at h ⊢
  rw [Array.getElem?_toList] at h ⊢
  rw [Array.getElem?_modify, List.getElem?_set]
  by_cases hij : i = j
  · subst hij
    rw [if_pos rfl, if_pos rfl]
    by_cases hi : i < m.length
    · have hie : i < es.size := by rw [← Array.length_toList, hlen]; exact hi
      simp [hi, Array.getElem?_eq_getElem hie]
    · have hie : ¬ i < es.size := by rw [← Array.length_toList, hlen]; exact hi
      simp [hi, hie]
  · rw [if_neg hij, if_neg hij]
    exact h
theorem lookup_set (m : List (κ × ν)) (k : κ) (v : ν) (hr : (k == k) = true) : ∀ i, m.findIdx? (fun p => k == p.1) = some i → (m.set i (k, v)).lookup k = some v := by
  induction m with
  | nil => intro i h; simp at h
  | cons p m ih =>
    intro i h
    rw [List.findIdx?_cons] at h
    cases hc : (k == p.1) with
    | true =>
      rw [hc] at h
      simp at h
      subst h
      simp [List.lookup_cons, hr]
    | false =>
      rw [hc] at h
      cases hf : List.findIdx? (fun p => k == p.1) m with
      | none => simp [hf] at h
      | some j =>
        simp [hf] at h
        subst h
        obtain ⟨p1, p2⟩ := p
        simp only [List.set_cons_succ, List.lookup_cons]
        simp only at hc
        rw [hc]
        exact ih j hf
theorem wpList_update {P : Program} {W : World} {ops : Array Oper} {rest : List Oper} {o : Oper} {a : Act} {Q : Exit → Act → World → Prop} {t kt et : TypeId} (hgd : o.guard = none) (x y z : Operand) (hop : o.op = Op.mapUpdate t x y z)
    (hu : P.underlying t = some (.map kt et)) (hk : KeyOk P kt kenc) (hsb : ∀ a b : κ, (a == b) = true → Instr.sameBits 10000 (kenc b) (kenc a) = true) (r : Nat) (m : List (κ × ν)) (k : κ) (v : ν) (i : Nat) (hi : m.findIdx? (fun p => k == p.1) = some i) (hx : a.eval x = .map (some r)) (hy : a.eval y = kenc k) (hz : a.eval z = venc v) (hm : IsMap kenc venc W r m)
    (h : ∀ w1, IsMap kenc venc w1 r (m.set i (k, v)) → W.grownBy w1 (some r) → wpList P ops Q rest (a.put o.dst undef) w1) : wpList P ops Q (o :: rest) a W := by
  refine wpList_plain hgd fun K' hK' => ?_
  obtain ⟨es, c, hh, hs⟩ := hm
  unfold Oper.wp
  simp only [execOp, hop, hx, hy, hz, Sem.run_bind, run_insert_old hu hk hsb W r es c m hh hs k v i hi, Result.andThen_ok, Sem.run_pure]
  exact hK' _ _ (h _ ⟨_, _, at_put hh, says_modify hs i k v⟩ (grown_put hh))
theorem sameBits_int {k : IntKind} (a b : Int) (h : (a == b) = true) : Instr.sameBits 10000 (.int k b) (.int k a) = true := by
  rw [beq_iff_eq] at h
  subst h
  simp [Instr.sameBits]
theorem IsMap.alloc (w : World) (m : List (κ × ν)) : IsMap kenc venc (w.alloc (mapObj kenc venc m)) w.heap.size m := .of_obj (heap_alloc_new w _)
end
end Go.Proofs.Ytkojnaebkgekaaa
