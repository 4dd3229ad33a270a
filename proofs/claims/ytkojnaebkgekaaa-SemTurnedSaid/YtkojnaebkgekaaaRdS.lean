/- Layer 6's reader (the document's): what it reads, as functions; none: a way that isn't spoken of. -/
import Derived.Test.YtkojnaebkgekaaaRdF
import Derived.Test.YtkojnaebkgekaaaLexC
import Derived.Test.YtkojnaebkgekaaaRefP
set_option linter.unusedVariables false
set_option linter.unusedSimpArgs false
namespace Go.Proofs.Ytkojnaebkgekaaa
open Go.RowKit Go.Proofs.YtkojnaebkgekaaaW.PrintWords
def sWhen : ByteArray := ⟨#[119, 104, 101, 110]⟩
def sDo : ByteArray := ⟨#[100, 111]⟩
def sOn : ByteArray := ⟨#[111, 110]⟩
def sAnd : ByteArray := ⟨#[97, 110, 100]⟩
def sOr : ByteArray := ⟨#[111, 114]⟩
def sNot : ByteArray := ⟨#[110, 111, 116]⟩
def sArch : ByteArray := ⟨#[97, 114, 99, 104]⟩
def sForeign : ByteArray := ⟨#[102, 111, 114, 101, 105, 103, 110]⟩
def sDefault : ByteArray := ⟨#[100, 101, 102, 97, 117, 108, 116]⟩
def sAmp : ByteArray := ⟨#[38]⟩
def sComma : ByteArray := ⟨#[44]⟩
def sSemi : ByteArray := ⟨#[59]⟩
def sOpen : ByteArray := ⟨#[40]⟩
def sClose : ByteArray := ⟨#[41]⟩
def verdictS (s : Rd) : Option (Verdict × Rd) := (kindS s 2).bind fun t => if t.2.x = 0 then
  (if t.1.f1 = ⟨#[107, 105, 108, 108, 95, 112, 114, 111, 99, 101, 115, 115]⟩ then some (⟨1, 0⟩, t.2) else if t.1.f1 = ⟨#[108, 111, 103]⟩ then some (⟨7, 0⟩, t.2) else if t.1.f1 = ⟨#[97, 108, 108, 111, 119]⟩ then some (⟨8, 0⟩, t.2)
   else if t.1.f1 = ⟨#[101, 114, 114, 110, 111]⟩ then (kindS t.2 3).map fun n => (⟨4, n.1.f2⟩, n.2) else none) else none
def testS (k : Nat) (f : Int) (s : Rd) : Option (Expr × Rd) :=
  (isS s 4 sAmp).bind fun m => (if m.1 = true then (kindS m.2 3).map fun y => (y.1.f2, y.2) else some (18446744073709551615, m.2)).bind fun y =>
  (kindS y.2 4).bind fun z => (P.ravelinref06_rel.f z.1.f1).bind fun r => if r = 0 then none else (kindS z.2 3).map fun v => (⟨6, [], f, y.1, r, v.1.f2⟩, v.2)
/-- What stands between ands, or between ors. -/
def moreS (sub : Rd → Option (Expr × Rd)) (word : ByteArray) : Nat → Rd → Option (List Expr × Rd)
  | 0, _ => none
  | q + 1, s => if s.x = 0 then (isS s 2 word).bind fun m => if m.1 = true then (sub m.2).bind fun y => (moreS sub word q y.2).map fun z => (y.1 :: z.1, z.2) else some ([], m.2) else none
def oneE (op : Int) (x : Expr) (l : List Expr) : Expr := match l with | [] => x | y :: r => ⟨op, x :: y :: r, 0, 0, 0, 0⟩
def rowS (sub : Rd → Option (Expr × Rd)) (word : ByteArray) (op : Int) (n : Nat) (s : Rd) : Option (Expr × Rd) :=
  (sub s).bind fun y => (moreS sub word n y.2).map fun z => (oneE op y.1 z.1, z.2)
def sTrue : ByteArray := ⟨#[116, 114, 117, 101]⟩
def sFalse : ByteArray := ⟨#[102, 97, 108, 115, 101]⟩
def upS (s : Rd) : Option Rd := if -1000 ≤ s.d ∧ s.d ≤ 1000 then some { s with d := s.d - 1 } else none
def oneRS (k : Nat) : Nat → Rd → Option (Expr × Rd)
  | 0, _ => none
  | n + 1, s => (nextS s).bind fun t => if t.2.x = 0 then (P.ravelinref06_field.f t.1.f1).bind fun f =>
      if t.1.f0 = 2 ∧ t.1.f1 = sNot then (deeperS t.2).bind fun b => if b.1 = true then (oneRS k n b.2).bind fun y => (upS y.2).map fun s3 => (⟨3, [y.1], 0, 0, 0, 0⟩, s3) else none
      else if t.1.f0 = 4 ∧ t.1.f1 = sOpen then (deeperS t.2).bind fun b => if b.1 = true then (rowS (rowS (oneRS k n) sAnd 4 n) sOr 5 n b.2).bind fun y => (wantS y.2 4 sClose).bind fun s3 => (upS s3).map fun s4 => (y.1, s4) else none
      else if t.1.f0 = 2 ∧ 0 ≤ f ∧ t.1.f1 ≠ sTrue ∧ t.1.f1 ≠ sFalse then testS k f t.2 else none
    else none
def exprRS (k n : Nat) : Rd → Option (Expr × Rd) := rowS (rowS (oneRS k n) sAnd 4 n) sOr 5 n
def callsRS : Nat → Rd → Option (List Call × Rd)
  | 0, _ => none
  | q + 1, s => (callRS s).bind fun c => (isS c.2 4 sComma).bind fun m => if m.1 = true then (callsRS q m.2).map fun z => (c.1 :: z.1, z.2) else some ([c.1], m.2)
def ruleRS (k n : Nat) (s : Rd) : Option (Rule × Rd) :=
  (callsRS n s).bind fun c => (isS c.2 2 sWhen).bind fun m => (if m.1 = true then exprRS k n m.2 else some (⟨1, [], 0, 0, 0, 0⟩, m.2)).bind fun e =>
  (wantS e.2 2 sDo).bind fun s3 => (verdictS s3).bind fun v => (wantS v.2 4 sSemi).map fun s5 => (⟨c.1, e.1, v.1⟩, s5)
def rulesRS (k n : Nat) : Nat → Rd → Option (List Rule × Rd)
  | 0, _ => none
  | q + 1, s => if s.x = 0 then (peekS s).bind fun t => (isS t.2 2 sOn).bind fun m => if m.1 = true then (ruleRS k n m.2).bind fun x => (rulesRS k n q x.2).map fun z => (x.1 :: z.1, z.2) else some ([], m.2) else none
def parseRS (k n : Nat) (s : Rd) : Option (Policy × Rd) :=
  (wantS s 2 sArch).bind fun s1 => (kindS s1 2).bind fun a => (wantS a.2 4 sSemi).bind fun s2 => (wantS s2 2 sForeign).bind fun s3 => (verdictS s3).bind fun f => (wantS f.2 4 sSemi).bind fun s4 =>
  (wantS s4 2 sDefault).bind fun s5 => (verdictS s5).bind fun d => (wantS d.2 4 sSemi).bind fun s6 => (rulesRS k n n s6).bind fun l => (kindS l.2 1).bind fun z => if z.2.x = 0 then some (⟨a.1.f1, f.1, d.1, l.1⟩, z.2) else none
def someP : Policy := ((parseRS 0 20 ⟨toksT, 0, 0, 0, 0, 0, 0⟩).getD (zPolicy, ⟨[], 0, 0, 0, 0, 0, 0⟩)).1
theorem parse_some : (parseRS 0 20 ⟨toksT, 0, 0, 0, 0, 0, 0⟩).isSome = true := by decide +kernel
end Go.Proofs.Ytkojnaebkgekaaa
