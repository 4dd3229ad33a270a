/- Layer 5 (the document's): one token, where nothing is wrong. -/
import Derived.Test.YtkojnaebkgekaaaRdB
import Derived.Test.YtkojnaebkgekaaaRefLxA
import Derived.Test.YtkojnaebkgekaaaRefLxB
import Derived.Test.YtkojnaebkgekaaaRefLxC
set_option linter.unusedVariables false
set_option linter.unusedSimpArgs false
namespace Go.Proofs.Ytkojnaebkgekaaa
open Go.RowKit Go.Proofs.YtkojnaebkgekaaaW.PrintWords
set_option maxHeartbeats 1000000 in
theorem next_word (s : ByteArray) (p a e : Int) (k : Nat) (d : Bool) (w : World) (hs : s.size ≤ 65536) (h0 : 0 ≤ p) (h1 : p ≤ s.size) (hk : P.ravelinref05_skip.f k s p = some a) (ha0 : 0 ≤ a) (ha : a < s.size)
    (hl : P.ravelinref05_letter.f (bt s a) = some true) (hd : P.ravelinref05_digit.f (bt s a) = some d) (hr : P.ravelinref05_run.f k s a = some e) (he0 : a ≤ e) (he : e ≤ s.size) (hn : e - a ≤ 32) :
    Calls Try.prog 157 #[.string s, .int .i64 p] w fun en w' => en = .returned (.tuple #[.agg #[.int .i64 2, .string (s.extract a.toNat e.toNat), .int .u64 0, .int .i64 a], .int .i64 e, .int .i64 0]) ∧ Below w.heap.size w w' := by
  have HK := Lib.hid hk
  have HL := Lib.hid hl
  have HD := Lib.hid hd
  have HR := Lib.hid hr
  have hx := bt_at s a
  have hna : ¬ (a = (s.size : Int)) := by omega
  have hw := IntWalk.i64_in (e - a) (by omega)
  clear hk hl hd hr
  go_enter Try.func157, Try.ntmps157
  go_wp2_with (first | (go_at_call 174; refine (P.ravelinref05_skip.calls k _ _ _ _ HK.out).mono ?_; rintro en w1 ⟨rfl, ⟨n1, rfl⟩⟩) | (go_at_call 175; refine (P.ravelinref05_letter.calls _ _ _ HL.out).mono ?_; rintro en w1 ⟨rfl, ⟨n2, rfl⟩⟩) | (go_at_call 176; refine (P.ravelinref05_digit.calls _ _ _ HD.out).mono ?_; rintro en w1 ⟨rfl, ⟨n3, rfl⟩⟩) | (go_at_call 177; refine (P.ravelinref05_run.calls k _ _ _ _ HR.out).mono ?_; rintro en w1 ⟨rfl, ⟨n4, rfl⟩⟩) | (go_at_call 178; refine (P.ravelinref05_Number.calls k _ _ _ _ HN.out).mono ?_; rintro en w1 ⟨rfl, ⟨n5, rfl⟩⟩) | (go_at_call 179; refine (P.ravelinref05_sign.calls k _ _ _ _ HS.out).mono ?_; rintro en w1 ⟨rfl, ⟨n6, rfl⟩⟩))
  refine bodyPost_ret (results_ctt rfl _ _ w.heap.size 205 #[.int .i64 2, .string (s.extract a.toNat e.toNat), .int .u64 0, .int .i64 a] (0, 0) _ rfl ?_ Try.underlying205 rfl (by kernel_rfl)) rfl ?_
  · refine blk_alloc ?_ _; refine blk_put (cs := #[.int .i64 2, .string (s.extract a.toNat e.toNat), .int .u64 0, .int .i64 0]) ?_ 3 _ rfl; refine blk_put (cs := #[.int .i64 2, .string (s.extract a.toNat e.toNat), .int .u64 0, .int .i64 0]) ?_ 2 _ rfl; refine blk_put (cs := #[.int .i64 2, .string ⟨#[]⟩, .int .u64 0, .int .i64 0]) ?_ 1 _ rfl; refine blk_put (cs := #[.int .i64 0, .string ⟨#[]⟩, .int .u64 0, .int .i64 0]) ?_ 0 _ rfl; exact blk_drewN (blk_new _ _) _
  exact ⟨rfl, by (with_reducible (repeat (first | exact Below.refl _ _ | apply below_alloc | apply pw_below_drewN | apply below_drew | refine below_set ?_ (Nat.le_refl _) | refine below_set ?_ (Nat.le_add_right _ _))))⟩
set_option maxHeartbeats 1000000 in
theorem next_num (s : ByteArray) (p a e v : Int) (k : Nat) (w : World) (hs : s.size ≤ 65536) (h0 : 0 ≤ p) (h1 : p ≤ s.size) (hk : P.ravelinref05_skip.f k s p = some a) (ha0 : 0 ≤ a) (ha : a < s.size)
    (hl : P.ravelinref05_letter.f (bt s a) = some false) (hd : P.ravelinref05_digit.f (bt s a) = some true) (hr : P.ravelinref05_run.f k s a = some e) (he0 : a ≤ e) (he : e ≤ s.size) (hn : P.ravelinref05_Number.f k (s.extract a.toNat e.toNat) = some (v, true)) :
    Calls Try.prog 157 #[.string s, .int .i64 p] w fun en w' => en = .returned (.tuple #[.agg #[.int .i64 3, .string (s.extract a.toNat e.toNat), .int .u64 v, .int .i64 a], .int .i64 e, .int .i64 0]) ∧ Below w.heap.size w w' := by
  have HK := Lib.hid hk
  have HL := Lib.hid hl
  have HD := Lib.hid hd
  have HR := Lib.hid hr
  have HN := Lib.hid hn
  have hx := bt_at s a
  have hna : ¬ (a = (s.size : Int)) := by omega
  clear hk hl hd hr hn
  go_enter Try.func157, Try.ntmps157
  go_wp2_with (first | (go_at_call 174; refine (P.ravelinref05_skip.calls k _ _ _ _ HK.out).mono ?_; rintro en w1 ⟨rfl, ⟨n1, rfl⟩⟩) | (go_at_call 175; refine (P.ravelinref05_letter.calls _ _ _ HL.out).mono ?_; rintro en w1 ⟨rfl, ⟨n2, rfl⟩⟩) | (go_at_call 176; refine (P.ravelinref05_digit.calls _ _ _ HD.out).mono ?_; rintro en w1 ⟨rfl, ⟨n3, rfl⟩⟩) | (go_at_call 177; refine (P.ravelinref05_run.calls k _ _ _ _ HR.out).mono ?_; rintro en w1 ⟨rfl, ⟨n4, rfl⟩⟩) | (go_at_call 178; refine (P.ravelinref05_Number.calls k _ _ _ _ HN.out).mono ?_; rintro en w1 ⟨rfl, ⟨n5, rfl⟩⟩) | (go_at_call 179; refine (P.ravelinref05_sign.calls k _ _ _ _ HS.out).mono ?_; rintro en w1 ⟨rfl, ⟨n6, rfl⟩⟩))
  refine bodyPost_ret (results_ctt rfl _ _ w.heap.size 205 #[.int .i64 3, .string (s.extract a.toNat e.toNat), .int .u64 v, .int .i64 a] (0, 0) _ rfl ?_ Try.underlying205 rfl (by kernel_rfl)) rfl ?_
  · refine blk_put (cs := #[.int .i64 3, .string (s.extract a.toNat e.toNat), .int .u64 v, .int .i64 0]) ?_ 3 _ rfl; refine blk_put (cs := #[.int .i64 3, .string (s.extract a.toNat e.toNat), .int .u64 0, .int .i64 0]) ?_ 2 _ rfl; refine blk_put (cs := #[.int .i64 3, .string ⟨#[]⟩, .int .u64 0, .int .i64 0]) ?_ 1 _ rfl; refine blk_put (cs := #[.int .i64 0, .string ⟨#[]⟩, .int .u64 0, .int .i64 0]) ?_ 0 _ rfl; refine blk_far ?_ (Nat.ne_of_lt (Nat.lt_succ_self _)); refine blk_far ?_ (Nat.ne_of_lt (Nat.lt_succ_self _)); exact blk_drewN (blk_alloc (blk_drewN (blk_new _ _) _) _) _
  exact ⟨rfl, by (with_reducible (repeat (first | exact Below.refl _ _ | apply below_alloc | apply pw_below_drewN | apply below_drew | refine below_set ?_ (Nat.le_refl _) | refine below_set ?_ (Nat.le_add_right _ _))))⟩
set_option maxHeartbeats 1000000 in
theorem next_sign (s : ByteArray) (p a n e : Int) (k : Nat) (w : World) (hs : s.size ≤ 65536) (h0 : 0 ≤ p) (h1 : p ≤ s.size) (hk : P.ravelinref05_skip.f k s p = some a) (ha0 : 0 ≤ a) (ha : a < s.size)
    (hl : P.ravelinref05_letter.f (bt s a) = some false) (hd : P.ravelinref05_digit.f (bt s a) = some false) (hr : P.ravelinref05_sign.f k s a = some n) (hn0 : 0 < n) (hee : a + n = e) (he : e ≤ s.size) :
    Calls Try.prog 157 #[.string s, .int .i64 p] w fun en w' => en = .returned (.tuple #[.agg #[.int .i64 4, .string (s.extract a.toNat e.toNat), .int .u64 0, .int .i64 a], .int .i64 e, .int .i64 0]) ∧ Below w.heap.size w w' := by
  have HK := Lib.hid hk
  have HL := Lib.hid hl
  have HD := Lib.hid hd
  have HS := Lib.hid hr
  have hx := bt_at s a
  have hna : ¬ (a = (s.size : Int)) := by omega
  have hnn : ¬ (n = 0) := by omega
  subst hee
  have hw := IntWalk.i64_in (a + n) (by omega)
  clear hk hl hd hr
  go_enter Try.func157, Try.ntmps157
  go_wp2_with (first | (go_at_call 174; refine (P.ravelinref05_skip.calls k _ _ _ _ HK.out).mono ?_; rintro en w1 ⟨rfl, ⟨n1, rfl⟩⟩) | (go_at_call 175; refine (P.ravelinref05_letter.calls _ _ _ HL.out).mono ?_; rintro en w1 ⟨rfl, ⟨n2, rfl⟩⟩) | (go_at_call 176; refine (P.ravelinref05_digit.calls _ _ _ HD.out).mono ?_; rintro en w1 ⟨rfl, ⟨n3, rfl⟩⟩) | (go_at_call 177; refine (P.ravelinref05_run.calls k _ _ _ _ HR.out).mono ?_; rintro en w1 ⟨rfl, ⟨n4, rfl⟩⟩) | (go_at_call 178; refine (P.ravelinref05_Number.calls k _ _ _ _ HN.out).mono ?_; rintro en w1 ⟨rfl, ⟨n5, rfl⟩⟩) | (go_at_call 179; refine (P.ravelinref05_sign.calls k _ _ _ _ HS.out).mono ?_; rintro en w1 ⟨rfl, ⟨n6, rfl⟩⟩))
  refine bodyPost_ret (results_ctt rfl _ _ w.heap.size 205 #[.int .i64 4, .string (s.extract a.toNat (a + n).toNat), .int .u64 0, .int .i64 a] (0, 0) _ rfl (by refine blk_put (cs := #[.int .i64 4, .string (s.extract a.toNat (a + n).toNat), .int .u64 0, .int .i64 0]) ?_ 3 _ rfl; refine blk_put (cs := #[.int .i64 4, .string (s.extract a.toNat (a + n).toNat), .int .u64 0, .int .i64 0]) ?_ 2 _ rfl; refine blk_put (cs := #[.int .i64 4, .string ⟨#[]⟩, .int .u64 0, .int .i64 0]) ?_ 1 _ rfl; refine blk_put (cs := #[.int .i64 0, .string ⟨#[]⟩, .int .u64 0, .int .i64 0]) ?_ 0 _ rfl; exact blk_drewN (blk_new _ _) _) Try.underlying205 rfl (by kernel_rfl)) rfl ?_
  exact ⟨rfl, by (with_reducible (repeat (first | exact Below.refl _ _ | apply below_alloc | apply pw_below_drewN | apply below_drew | refine below_set ?_ (Nat.le_refl _) | refine below_set ?_ (Nat.le_add_right _ _))))⟩
set_option maxHeartbeats 1000000 in
theorem next_end (s : ByteArray) (p e : Int) (k : Nat) (w : World) (hs : s.size ≤ 65536) (h0 : 0 ≤ p) (h1 : p ≤ s.size) (hk : P.ravelinref05_skip.f k s p = some e) (ha : e = s.size) :
    Calls Try.prog 157 #[.string s, .int .i64 p] w fun en w' => en = .returned (.tuple #[.agg #[.int .i64 1, .string ⟨#[]⟩, .int .u64 0, .int .i64 e], .int .i64 e, .int .i64 0]) ∧ Below w.heap.size w w' := by
  have HK := Lib.hid hk
  clear hk
  subst ha
  go_enter Try.func157, Try.ntmps157
  go_wp2_with (first | (go_at_call 174; refine (P.ravelinref05_skip.calls k _ _ _ _ HK.out).mono ?_; rintro en w1 ⟨rfl, ⟨n1, rfl⟩⟩) | (go_at_call 175; refine (P.ravelinref05_letter.calls _ _ _ HL.out).mono ?_; rintro en w1 ⟨rfl, ⟨n2, rfl⟩⟩) | (go_at_call 176; refine (P.ravelinref05_digit.calls _ _ _ HD.out).mono ?_; rintro en w1 ⟨rfl, ⟨n3, rfl⟩⟩) | (go_at_call 177; refine (P.ravelinref05_run.calls k _ _ _ _ HR.out).mono ?_; rintro en w1 ⟨rfl, ⟨n4, rfl⟩⟩) | (go_at_call 178; refine (P.ravelinref05_Number.calls k _ _ _ _ HN.out).mono ?_; rintro en w1 ⟨rfl, ⟨n5, rfl⟩⟩) | (go_at_call 179; refine (P.ravelinref05_sign.calls k _ _ _ _ HS.out).mono ?_; rintro en w1 ⟨rfl, ⟨n6, rfl⟩⟩))
  refine bodyPost_ret (results_ctt rfl _ _ w.heap.size 205 #[.int .i64 1, .string ⟨#[]⟩, .int .u64 0, .int .i64 s.size] (0, 0) _ rfl (by refine blk_put (cs := #[.int .i64 1, .string ⟨#[]⟩, .int .u64 0, .int .i64 0]) ?_ 3 _ rfl; refine blk_put (cs := #[.int .i64 1, .string ⟨#[]⟩, .int .u64 0, .int .i64 0]) ?_ 2 _ rfl; refine blk_put (cs := #[.int .i64 1, .string ⟨#[]⟩, .int .u64 0, .int .i64 0]) ?_ 1 _ rfl; refine blk_put (cs := #[.int .i64 0, .string ⟨#[]⟩, .int .u64 0, .int .i64 0]) ?_ 0 _ rfl; exact blk_drewN (blk_new _ _) _) Try.underlying205 rfl (by kernel_rfl)) rfl ?_
  exact ⟨rfl, by (with_reducible (repeat (first | exact Below.refl _ _ | apply below_alloc | apply pw_below_drewN | apply below_drew | refine below_set ?_ (Nat.le_refl _) | refine below_set ?_ (Nat.le_add_right _ _))))⟩
end Go.Proofs.Ytkojnaebkgekaaa
