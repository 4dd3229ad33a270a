/- Layer 6's reader (the document's): want, kind. -/
import Derived.Test.YtkojnaebkgekaaaRdB
set_option linter.unusedVariables false
set_option linter.unusedSimpArgs false
namespace Go.Proofs.Ytkojnaebkgekaaa
open Go.RowKit Go.Proofs.YtkojnaebkgekaaaW.PrintWords
def wantS (s : Rd) (k : Int) (t : ByteArray) : Option Rd := (isS s k t).bind fun x => if x.1 = true then some x.2 else (peekS x.2).map fun y => failsS y.2 61 y.1.f3
set_option maxHeartbeats 4000000 in
theorem want_calls (w0 W : World) (g : Nat) (s : Rd) (hI : RdAt w0 W g s) (k : Int) (tx : ByteArray) (s' : Rd) (h : wantS s k tx = some s') : Calls Try.prog 112 #[.pointer (some ⟨g, 0, none⟩), .int .i64 k, .string tx] W (Did w0 W g (.tuple #[]) s') := by
  have HI := Lib.hid hI
  clear hI
  obtain ⟨⟨b1, s1⟩, hp, h⟩ := Option.bind_eq_some_iff.1 h
  have HP := Lib.hid hp
  clear hp
  dsimp only at h
  have hfd : ∀ (t : Token) (w : World), (Instr.field 205 (.agg #[.int .i64 t.f0, .string t.f1, .int .u64 t.f2, .int .i64 t.f3]) 3).run Try.prog w = .ok (.int .i64 t.f3) w := fun _ _ => by kernel_rfl
  go_enter Try.func112, Try.ntmps112
  cases b1 with
  | true =>
    rw [if_pos rfl] at h
    simp only [Option.some.injEq] at h
    subst h
    go_wp2_with (go_at_call 116; refine (is_calls w0 _ g _ HI.out _ _ _ _ HP.out).mono ?_; rintro e1 w1 ⟨rfl, hI1, hk1⟩; have HI1 := Lib.hid hI1; have HK1 := Lib.hid hk1; clear hI1 hk1)
    go_returns
    exact ⟨rfl, HI1.out, HK1.out⟩
  | false =>
    rw [if_neg (by simp)] at h
    obtain ⟨⟨t2, s2⟩, hp2, h⟩ := Option.map_eq_some_iff.1 h
    subst h
    have HP2 := Lib.hid hp2
    clear hp2
    go_wp2_with (first | (go_at_call 116; refine (is_calls w0 _ g _ HI.out _ _ _ _ HP.out).mono ?_; rintro e1 w1 ⟨rfl, hI1, hk1⟩; have HI1 := Lib.hid hI1; have HK1 := Lib.hid hk1; clear hI1 hk1) | (go_at_call 115; refine (peek_calls w0 _ g _ HI1.out _ _ HP2.out).mono ?_; rintro e2 w2 ⟨rfl, hI2, hk2⟩; have HI2 := Lib.hid hI2; have HK2 := Lib.hid (HK1.out.trans hk2 (.inl rfl)); clear hI2 hk2; unfold tokV) | (go_at_call 117; refine (fails_calls w0 _ g _ HI2.out _ _).mono ?_; rintro e3 w3 ⟨rfl, hI3, hk3⟩; have HI3 := Lib.hid hI3; have HK3 := Lib.hid (HK2.out.trans hk3 (.inl rfl)); clear hI3 hk3))
    go_returns
    exact ⟨rfl, HI3.out, HK3.out⟩
def kindS (s : Rd) (k : Int) : Option (Token × Rd) := (peekS s).bind fun x => if x.1.f0 = k then nextS x.2 else some (zToken, failsS x.2 61 x.1.f3)
set_option maxHeartbeats 4000000 in
theorem kind_calls (w0 W : World) (g : Nat) (s : Rd) (hI : RdAt w0 W g s) (k : Int) (t : Token) (s' : Rd) (h : kindS s k = some (t, s')) : Calls Try.prog 113 #[.pointer (some ⟨g, 0, none⟩), .int .i64 k] W (Did w0 W g (tokV t) s') := by
  have hgl := hI.lt
  have hgs := hI.size
  have hne : W.heap.size ≠ g := by omega
  have hne' : g ≠ W.heap.size := by omega
  have HI := Lib.hid hI
  clear hI
  obtain ⟨⟨t1, s1⟩, hp, h⟩ := Option.bind_eq_some_iff.1 h
  have HP := Lib.hid hp
  clear hp
  dsimp only at h
  go_enter Try.func113, Try.ntmps113
  by_cases hk : t1.f0 = k
  · rw [if_pos hk] at h
    have HN := Lib.hid h
    clear h
    go_wp2_with (first | (go_at_call 115; refine (peek_calls w0 _ g _ (HI.out.alloc _) _ _ HP.out).mono ?_; rintro e1 w1 ⟨rfl, hI1, hk1⟩; have hsz1 := keep_size hk1; have hg1 := hI1.lt; have hgs1 := hI1.size; have HI1 := Lib.hid hI1; have HK1 := Lib.hid ((keep_alloc (KeepBut.refl _ _ _) _).trans hk1 (.inl rfl)); obtain ⟨A1, c1, hC1, hm1, q01, q11, q21, q31, q41, q51, q61, z31, z41, z51, z61⟩ := (hI1).facts; have hbk1 := hk1.blk (blk_new W _) hne (by simp); have HBK1 := Lib.hid hbk1; have hlt1 := heap_lt hbk1; clear hbk1 q01 q11 q21 q31 q41 q51 q61 z31 z41 z51 z61 hm1; clear hI1 hk1 hC1; unfold tokV) | (go_at_call 146; refine (next_calls w0 _ g _ ?hi _ _ HN.out).mono ?_; (case hi => exact HI1.out.alloc _); rintro e2 w2 ⟨rfl, hI2, hk2⟩; have hbk2 := (keep_alloc HK1.out _).trans hk2 (.inl rfl); have HK2 := Lib.hid hbk2; have hbk2 := hk2.blk (blk_alloc HBK1.out _) hne (by simp); have b02 := heap_cell hbk2 0 _ rfl; have b12 := heap_cell hbk2 1 _ rfl; have b22 := heap_cell hbk2 2 _ rfl; have b32 := heap_cell hbk2 3 _ rfl; have y02 := heap_thaw hbk2 0; have y12 := heap_thaw hbk2 1; have y22 := heap_thaw hbk2 2; have y32 := heap_thaw hbk2 3; have HBK2 := Lib.hid hbk2; clear hbk2; have HI2 := Lib.hid hI2; clear hI2 hk2; unfold tokV))
    refine bodyPost_ret (results_c rfl _ _ W.heap.size 205 #[.int .i64 t.f0, .string t.f1, .int .u64 t.f2, .int .i64 t.f3] (0, 0) _ rfl (by refine blk_put (cs := #[.int .i64 t.f0, .string t.f1, .int .u64 t.f2, .int .i64 0]) ?_ 3 _ rfl; refine blk_put (cs := #[.int .i64 t.f0, .string t.f1, .int .u64 0, .int .i64 0]) ?_ 2 _ rfl; refine blk_put (cs := #[.int .i64 t.f0, .string ⟨#[]⟩, .int .u64 0, .int .i64 0]) ?_ 1 _ rfl; refine blk_put (cs := #[.int .i64 0, .string ⟨#[]⟩, .int .u64 0, .int .i64 0]) ?_ 0 _ rfl; exact HBK2.out) Try.underlying205 rfl (by kernel_rfl)) rfl ?_
    refine ⟨rfl, ?_, ?_⟩
    · iterate 4 refine RdAt.far ?_ hne hgs _
      exact HI2.out
    · iterate 4 refine keep_far ?_ (Nat.le_refl _) _
      exact HK2.out
  · rw [if_neg hk] at h
    simp only [Option.some.injEq, Prod.mk.injEq] at h
    obtain ⟨rfl, rfl⟩ := h
    go_wp2_with (first | (go_at_call 115; refine (peek_calls w0 _ g _ (HI.out.alloc _) _ _ HP.out).mono ?_; rintro e1 w1 ⟨rfl, hI1, hk1⟩; have hsz1 := keep_size hk1; have hg1 := hI1.lt; have hgs1 := hI1.size; have HI1 := Lib.hid hI1; have HK1 := Lib.hid ((keep_alloc (KeepBut.refl _ _ _) _).trans hk1 (.inl rfl)); obtain ⟨A1, c1, hC1, hm1, q01, q11, q21, q31, q41, q51, q61, z31, z41, z51, z61⟩ := (hI1).facts; have hbk1 := hk1.blk (blk_new W _) hne (by simp); have HBK1 := Lib.hid hbk1; have hlt1 := heap_lt hbk1; clear hbk1 q01 q11 q21 q31 q41 q51 q61 z31 z41 z51 z61 hm1; clear hI1 hk1 hC1; unfold tokV) | (go_at_call 117; refine (fails_calls w0 _ g s1 ?hi _ _).mono ?_; (case hi => exact HI1.out.alloc _); rintro e2 w2 ⟨rfl, hI2, hk2⟩; have hbk2 := (keep_alloc HK1.out _).trans hk2 (.inl rfl); have HK2 := Lib.hid hbk2; have hbk2 := hk2.blk (blk_alloc HBK1.out _) hne (by simp); have b02 := heap_cell hbk2 0 _ rfl; have b12 := heap_cell hbk2 1 _ rfl; have b22 := heap_cell hbk2 2 _ rfl; have b32 := heap_cell hbk2 3 _ rfl; have y02 := heap_thaw hbk2 0; have y12 := heap_thaw hbk2 1; have y22 := heap_thaw hbk2 2; have y32 := heap_thaw hbk2 3; have HBK2 := Lib.hid hbk2; clear hbk2; have HI2 := Lib.hid hI2; clear hI2 hk2))
    refine bodyPost_ret (results_c rfl _ _ W.heap.size 205 #[.int .i64 0, .string ⟨#[]⟩, .int .u64 0, .int .i64 0] (0, 0) _ rfl (by refine blk_put (cs := #[.int .i64 zToken.f0, .string zToken.f1, .int .u64 zToken.f2, .int .i64 0]) ?_ 3 _ rfl; refine blk_put (cs := #[.int .i64 zToken.f0, .string zToken.f1, .int .u64 0, .int .i64 0]) ?_ 2 _ rfl; refine blk_put (cs := #[.int .i64 zToken.f0, .string ⟨#[]⟩, .int .u64 0, .int .i64 0]) ?_ 1 _ rfl; refine blk_put (cs := #[.int .i64 0, .string ⟨#[]⟩, .int .u64 0, .int .i64 0]) ?_ 0 _ rfl; exact HBK2.out) Try.underlying205 rfl (by kernel_rfl)) rfl ?_
    refine ⟨rfl, ?_, ?_⟩
    · iterate 4 refine RdAt.far ?_ hne hgs _
      exact HI2.out
    · iterate 4 refine keep_far ?_ (Nat.le_refl _) _
      exact HK2.out
end Go.Proofs.Ytkojnaebkgekaaa
