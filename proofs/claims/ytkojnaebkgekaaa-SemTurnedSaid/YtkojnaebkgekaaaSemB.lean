/- Layer 7's tables of names, as the program has them. -/
import Derived.Test.YtkojnaebkgekaaaSemA
import Derived.Test.YtkojnaebkgekaaaMapW
set_option linter.unusedVariables false
set_option linter.unusedSimpArgs false
namespace Go.Proofs.Ytkojnaebkgekaaa
open Go.RowKit Go.Proofs.YtkojnaebkgekaaaW.PrintWords

def sX86 : List UInt8 := [120, 56, 54, 95, 54, 52]
def sRiscv : List UInt8 := [114, 105, 115, 99, 118, 54, 52]
def sAarch : List UInt8 := [97, 97, 114, 99, 104, 54, 52]
def archM : List (ByteArray × Int) := [(⟨#[120, 56, 54, 95, 54, 52]⟩, 3221225534), (⟨#[114, 105, 115, 99, 118, 54, 52]⟩, 3221225715), (⟨#[97, 97, 114, 99, 104, 54, 52]⟩, 3221225655)]
def archS (s : ByteArray) : Int × Bool := match archM.lookup s with | some v => (v, true) | none => (0, false)
theorem arch_calls (s : ByteArray) (w : World) :
    Calls Try.prog 18 #[.string s] w (Ret (.tuple #[.int .u32 (archS s).1, .bool (archS s).2]) w) := by
  have hmm := @run_makeMap Try.prog
  have hu : Try.prog.underlying 101 = some (.map 9 29) := Try.underlying101
  have hk : KeyOk Try.prog 9 Value.string := keyOk_string Try.underlying9
  have i1 : (Instr.mapUpdate 101 (.map (some w.heap.size)) (.string ⟨#[120, 56, 54, 95, 54, 52]⟩) (.int .u32 3221225534)).run Try.prog (w.alloc (.map #[] 0)) = .ok () (w.alloc (mapObj Value.string (Value.int .u32) (archM.take 1))) := run_insert_alloc hu hk w [] _ _ rfl
  have i2 : (Instr.mapUpdate 101 (.map (some w.heap.size)) (.string ⟨#[114, 105, 115, 99, 118, 54, 52]⟩) (.int .u32 3221225715)).run Try.prog (w.alloc (mapObj Value.string (Value.int .u32) (archM.take 1))) = .ok () (w.alloc (mapObj Value.string (Value.int .u32) (archM.take 2))) := run_insert_alloc hu hk w (archM.take 1) _ _ rfl
  have i3 : (Instr.mapUpdate 101 (.map (some w.heap.size)) (.string ⟨#[97, 97, 114, 99, 104, 54, 52]⟩) (.int .u32 3221225655)).run Try.prog (w.alloc (mapObj Value.string (Value.int .u32) (archM.take 2))) = .ok () (w.alloc (mapObj Value.string (Value.int .u32) archM)) := run_insert_alloc hu hk w (archM.take 2) _ _ rfl
  have il : (Instr.lookup 101 (.map (some w.heap.size)) (.string s) true).run Try.prog (w.alloc (mapObj Value.string (Value.int .u32) archM)) = .ok (.tuple #[.int .u32 (archS s).1, .bool (archS s).2]) (w.alloc (mapObj Value.string (Value.int .u32) archM)) := by
    rw [run_lookup_ok hu hk (.int .u32 0) (fun _ => by kernel_rfl) _ _ _ (IsMap.alloc w archM) s]
    unfold archS
    cases archM.lookup s <;> rfl
  go_enter Try.func18, Try.ntmps18
  go_wp2
  go_returns
  exact ⟨rfl, by go_grown⟩

/-! ### The tables -/
def x86L : List Named := [⟨⟨#[114, 101, 97, 100]⟩, 0⟩, ⟨⟨#[119, 114, 105, 116, 101]⟩, 1⟩, ⟨⟨#[111, 112, 101, 110]⟩, 2⟩, ⟨⟨#[99, 108, 111, 115, 101]⟩, 3⟩, ⟨⟨#[115, 116, 97, 116]⟩, 4⟩, ⟨⟨#[109, 109, 97, 112]⟩, 9⟩, ⟨⟨#[109, 112, 114, 111, 116, 101, 99, 116]⟩, 10⟩, ⟨⟨#[98, 114, 107]⟩, 12⟩, ⟨⟨#[105, 111, 99, 116, 108]⟩, 16⟩, ⟨⟨#[103, 101, 116, 112, 105, 100]⟩, 39⟩, ⟨⟨#[115, 111, 99, 107, 101, 116]⟩, 41⟩, ⟨⟨#[99, 111, 110, 110, 101, 99, 116]⟩, 42⟩, ⟨⟨#[99, 108, 111, 110, 101]⟩, 56⟩, ⟨⟨#[102, 111, 114, 107]⟩, 57⟩, ⟨⟨#[101, 120, 101, 99, 118, 101]⟩, 59⟩, ⟨⟨#[101, 120, 105, 116]⟩, 60⟩, ⟨⟨#[107, 105, 108, 108]⟩, 62⟩, ⟨⟨#[112, 116, 114, 97, 99, 101]⟩, 101⟩, ⟨⟨#[112, 114, 99, 116, 108]⟩, 157⟩, ⟨⟨#[101, 120, 105, 116, 95, 103, 114, 111, 117, 112]⟩, 231⟩, ⟨⟨#[111, 112, 101, 110, 97, 116]⟩, 257⟩, ⟨⟨#[115, 101, 99, 99, 111, 109, 112]⟩, 317⟩, ⟨⟨#[103, 101, 116, 114, 97, 110, 100, 111, 109]⟩, 318⟩, ⟨⟨#[98, 112, 102]⟩, 321⟩]
def othL : List Named := [⟨⟨#[105, 111, 99, 116, 108]⟩, 29⟩, ⟨⟨#[111, 112, 101, 110, 97, 116]⟩, 56⟩, ⟨⟨#[99, 108, 111, 115, 101]⟩, 57⟩, ⟨⟨#[114, 101, 97, 100]⟩, 63⟩, ⟨⟨#[119, 114, 105, 116, 101]⟩, 64⟩, ⟨⟨#[101, 120, 105, 116]⟩, 93⟩, ⟨⟨#[101, 120, 105, 116, 95, 103, 114, 111, 117, 112]⟩, 94⟩, ⟨⟨#[112, 116, 114, 97, 99, 101]⟩, 117⟩, ⟨⟨#[107, 105, 108, 108]⟩, 129⟩, ⟨⟨#[112, 114, 99, 116, 108]⟩, 167⟩, ⟨⟨#[103, 101, 116, 112, 105, 100]⟩, 172⟩, ⟨⟨#[115, 111, 99, 107, 101, 116]⟩, 198⟩, ⟨⟨#[99, 111, 110, 110, 101, 99, 116]⟩, 203⟩, ⟨⟨#[98, 114, 107]⟩, 214⟩, ⟨⟨#[99, 108, 111, 110, 101]⟩, 220⟩, ⟨⟨#[101, 120, 101, 99, 118, 101]⟩, 221⟩, ⟨⟨#[109, 109, 97, 112]⟩, 222⟩, ⟨⟨#[109, 112, 114, 111, 116, 101, 99, 116]⟩, 226⟩, ⟨⟨#[115, 101, 99, 99, 111, 109, 112]⟩, 277⟩, ⟨⟨#[103, 101, 116, 114, 97, 110, 100, 111, 109]⟩, 278⟩, ⟨⟨#[98, 112, 102]⟩, 280⟩]
def tableS (s : ByteArray) : List Named := if s.toList == sX86 then x86L else if s.toList == sRiscv || s.toList == sAarch then othL else []
theorem tableS_len (s : ByteArray) : (tableS s).length ≤ 24 := by unfold tableS; split; decide; split <;> decide
set_option maxRecDepth 100000 in
set_option maxHeartbeats 1000000 in
theorem table_calls (s : ByteArray) (w : World) :
    Calls Try.prog 49 #[.string s] w fun e w' => ∃ A c, e = .returned (.slice A (tableS s).length c) ∧ (tableS s).length ≤ c ∧ kNamed.C w' A (tableS s).length (tableS s) ∧ Below w.heap.size w w' := by
  by_cases c1 : (s.toList == sX86) = true
  · have ht : tableS s = x86L := by unfold tableS; rw [if_pos c1]
    rw [ht]
    unfold sX86 at c1
    go_enter Try.func49, Try.ntmps49
    go_wp2
    go_returns
    refine ⟨_, 24, rfl, Nat.le_refl _, C_lit (enc := Named.cells) w _ _ x86L (fun w x => kNamed_mk w x) (fun _ => rfl) rfl (by decide), by go_grown⟩
  · have c1 : (s.toList == sX86) = false := by simpa using c1
    by_cases c2 : (s.toList == sRiscv) = true
    · have ht : tableS s = othL := by unfold tableS; rw [if_neg (by simp [c1]), if_pos (by simp [c2])]
      rw [ht]
      unfold sX86 at c1
      unfold sRiscv at c2
      go_enter Try.func49, Try.ntmps49
      go_wp2
      go_returns
      refine ⟨_, 21, rfl, Nat.le_refl _, C_lit (enc := Named.cells) w _ _ othL (fun w x => kNamed_mk w x) (fun _ => rfl) rfl (by decide), by go_grown⟩
    · have c2 : (s.toList == sRiscv) = false := by simpa using c2
      by_cases c3 : (s.toList == sAarch) = true
      · have ht : tableS s = othL := by unfold tableS; rw [if_neg (by simp [c1]), if_pos (by simp [c3])]
        rw [ht]
        unfold sX86 at c1
        unfold sRiscv at c2
        unfold sAarch at c3
        go_enter Try.func49, Try.ntmps49
        go_wp2
        go_returns
        refine ⟨_, 21, rfl, Nat.le_refl _, C_lit (enc := Named.cells) w _ _ othL (fun w x => kNamed_mk w x) (fun _ => rfl) rfl (by decide), by go_grown⟩
      · have c3 : (s.toList == sAarch) = false := by simpa using c3
        have ht : tableS s = [] := by unfold tableS; rw [if_neg (by simp [c1]), if_neg (by simp [c2, c3])]
        rw [ht]
        unfold sX86 at c1
        unfold sRiscv at c2
        unfold sAarch at c3
        go_enter Try.func49, Try.ntmps49
        go_wp2
        go_returns
        exact ⟨none, 0, rfl, Nat.le_refl _, Kd.C_nil _ _, Below.refl _ _⟩

/-! ### Number -/
def isName (s : ByteArray) (x : Named) : Bool := seq x.f0 s
def numS (arch name : ByteArray) : Int × Bool := match (tableS arch).find? (isName name) with | some x => (x.f1, true) | none => (0, false)
theorem body_num1 : Body Try.prog 52 := ⟨fun _ _ => by kernel_rfl⟩
theorem idx_find {α : Type} (p : α → Bool) (l : List α) : (idx p l < 0 ∧ l.find? p = none) ∨ ∃ k : Nat, ∃ h : k < l.length, idx p l = k ∧ l.find? p = some l[k] := by
  unfold idx
  cases h : l.findIdx? p with
  | none =>
    left
    refine ⟨by decide, ?_⟩
    rw [List.find?_eq_none]
    rw [List.findIdx?_eq_none_iff] at h
    intro x hx
    simp [h x hx]
  | some k =>
    right
    obtain ⟨hk, hp, hno⟩ := List.findIdx?_eq_some_iff_getElem.1 h
    refine ⟨k, hk, rfl, find_at hk ?_ hp⟩
    rw [List.any_eq_false]
    intro x hx
    obtain ⟨j, hj, rfl⟩ := List.mem_iff_getElem.1 hx
    rw [List.length_take] at hj
    have := hno j (by omega)
    simpa [List.getElem_take] using this
set_option maxHeartbeats 400000 in
theorem number_calls (arch name : ByteArray) (w : World) : Calls Try.prog 22 #[.string arch, .string name] w (Ret (.tuple #[.int .u32 (numS arch name).1, .bool (numS arch name).2]) w) := by
  have hm := tableS_len arch
  go_enter Try.func22, Try.ntmps22
  go_wp2_with (go_at_call 49; refine (table_calls _ _).mono ?_; rintro e w1 ⟨A, c, rfl, hc, hC, hb⟩; have HC := Lib.hid hC; clear hC; have HB := Lib.hid hb; obtain ⟨hcell1, hfr1⟩ := bcell hb; have HBw := Lib.hid (bl_call (bl_alloc (Below.refl _ _) (Nat.le_refl _) _) (by simp) hb); have hsz1 : w.heap.size < w1.heap.size := (by have := hb.size; simp at this; omega); clear hb)
  go_wp2_with fail
  have hcall := idxN_calls A c (tableS arch) 52 #[.pointer (some ⟨w.heap.size, 0, none⟩)] (isName name) w1 body_num1 HC.out (by
    intro x _ W hW
    refine num1_calls x ⟨w.heap.size, 0, none⟩ name W (Nat.lt_of_lt_of_le hsz1 hW.size) ?_
    rw [hW.cell (by simpa using hsz1), hcell1 _ (by simp)]
    simp)
  refine hcall.mono ?_
  rintro e w2 ⟨rfl, hb2⟩
  clear hcall
  have HB2 := Lib.hid (bl_call HBw.out HBw.out.size hb2)
  have HC2 := Lib.hid (Kd.C_below HC.out hb2)
  clear hb2
  rcases idx_find (isName name) (tableS arch) with ⟨h1, h2⟩ | ⟨k, hk, h1, h2⟩
  · have HS : Hid (numS arch name = (0, false)) := Lib.hid (by unfold numS; rw [h2])
    clear h2
    go_wp2
    go_returns
    exact ⟨by rw [HS.out]; rfl, HB2.out⟩
  · have HS : Hid (numS arch name = ((tableS arch)[k].f1, true)) := Lib.hid (by unfold numS; rw [h2])
    clear h2
    obtain ⟨b, o, rfl, hb, hat⟩ := at_Named HC2.out (by omega)
    obtain ⟨hx0, hx1⟩ := hat k _ (List.getElem?_eq_getElem hk)
    have HAT := Lib.hid hat
    clear hat
    rw [h1]
    clear h1
    go_wp2
    go_returns
    exact ⟨by rw [HS.out]; rfl, HB2.out⟩
end Go.Proofs.Ytkojnaebkgekaaa
