/- SolveReach: the positions of Sparse are those of Reach and its values those of Lower. Part 1 of 6: Eng, Draw, Ops, Run, Val, Limbs, Mem, Own, Tab, U32, Lim2, Str, B1, Pure, Num, B2, B3, B4, Put, B5. -/
import Derived.Laws.OwnMore
import Derived.Maps.AppendAt
import Derived.Orders
import Derived.Test.YtbcmhlhgljoolaaGreatDoorProg
import Derived.WalkKit
set_option linter.unusedSimpArgs false
set_option linter.unusedVariables false
set_option maxRecDepth 20000
set_option maxHeartbeats 2000000
namespace Go
theorem Zz {p q : Prop} (k : q) (e : p = q := by simp -implicitDefEqProofs (disch := omega) only [go_sem, Nat.reduceEqDiff, Nat.reduceAdd, ↓reduceIte]; exact rfl) : p := e.mpr k
theorem Ue {p : Prop} (e : p := by (try simp only [q0F, Nat.reduceEqDiff, ↓reduceIte]); first | done | assumption | exact rfl) : p := e
theorem Rf {p : Prop} (e : p := by first | exact rfl | assumption | exact Ue) : p := e
theorem Oq {p : Prop} (e : p := by omega) : p := e
theorem Om {p : Prop} (e : p := by first | omega | (simp only [Int.natAbs_natCast, Int.natAbs_neg]; omega)) : p := e
theorem Lk {p : Prop} (e : p := by first | (simp -implicitDefEqProofs (disch := omega) only [go_sem, Nat.reduceEqDiff, Nat.reduceAdd, ↓reduceIte, ↓List.map_cons, ↓List.map_nil]; done) | (simp -implicitDefEqProofs (disch := omega) only [go_sem, Nat.reduceEqDiff, Nat.reduceAdd, ↓reduceIte, ↓List.map_cons, ↓List.map_nil]; rfl) | rfl) : p := e
theorem Lq {p : Prop} (e : p := by first | (simp -implicitDefEqProofs (disch := omega) only [go_sem, Nat.reduceEqDiff, Nat.reduceAdd, ↓reduceIte]; done) | (simp -implicitDefEqProofs (disch := omega) only [go_sem, Nat.reduceEqDiff, Nat.reduceAdd, ↓reduceIte]; rfl) | rfl) : p := e
theorem Cz {p : Prop} (e : p := by simp only [go_sem, Nat.reduceEqDiff, ↓reduceIte]) : p := e
theorem Zy {p : Prop}  (e : p := by simp -implicitDefEqProofs (disch := omega) only [go_sem, Nat.reduceEqDiff, Nat.reduceAdd, ↓reduceIte]) : p := e
theorem Zy1 {p F1 : Prop} (f1 : F1) (e : F1 → p := by intro g1; simp -implicitDefEqProofs (disch := omega) only [go_sem, Nat.reduceEqDiff, Nat.reduceAdd, ↓reduceIte, g1]) : p := e f1
theorem Zy2 {p F1 F2 : Prop} (f1 : F1) (f2 : F2) (e : F1 → F2 → p := by intro g1 g2; simp -implicitDefEqProofs (disch := omega) only [go_sem, Nat.reduceEqDiff, Nat.reduceAdd, ↓reduceIte, g1, g2]) : p := e f1 f2
theorem Zy3 {p F1 F2 F3 : Prop} (f1 : F1) (f2 : F2) (f3 : F3) (e : F1 → F2 → F3 → p := by intro g1 g2 g3; simp -implicitDefEqProofs (disch := omega) only [go_sem, Nat.reduceEqDiff, Nat.reduceAdd, ↓reduceIte, g1, g2, g3]) : p := e f1 f2 f3
theorem Zy4 {p F1 F2 F3 F4 : Prop} (f1 : F1) (f2 : F2) (f3 : F3) (f4 : F4) (e : F1 → F2 → F3 → F4 → p := by intro g1 g2 g3 g4; simp -implicitDefEqProofs (disch := omega) only [go_sem, Nat.reduceEqDiff, Nat.reduceAdd, ↓reduceIte, g1, g2, g3, g4]) : p := e f1 f2 f3 f4
theorem Zy5 {p F1 F2 F3 F4 F5 : Prop} (f1 : F1) (f2 : F2) (f3 : F3) (f4 : F4) (f5 : F5) (e : F1 → F2 → F3 → F4 → F5 → p := by intro g1 g2 g3 g4 g5; simp -implicitDefEqProofs (disch := omega) only [go_sem, Nat.reduceEqDiff, Nat.reduceAdd, ↓reduceIte, g1, g2, g3, g4, g5]) : p := e f1 f2 f3 f4 f5
theorem Zy6 {p F1 F2 F3 F4 F5 F6 : Prop} (f1 : F1) (f2 : F2) (f3 : F3) (f4 : F4) (f5 : F5) (f6 : F6) (e : F1 → F2 → F3 → F4 → F5 → F6 → p := by intro g1 g2 g3 g4 g5 g6; simp -implicitDefEqProofs (disch := omega) only [go_sem, Nat.reduceEqDiff, Nat.reduceAdd, ↓reduceIte, g1, g2, g3, g4, g5, g6]) : p := e f1 f2 f3 f4 f5 f6
theorem Zy7 {p F1 F2 F3 F4 F5 F6 F7 : Prop} (f1 : F1) (f2 : F2) (f3 : F3) (f4 : F4) (f5 : F5) (f6 : F6) (f7 : F7) (e : F1 → F2 → F3 → F4 → F5 → F6 → F7 → p := by intro g1 g2 g3 g4 g5 g6 g7; simp -implicitDefEqProofs (disch := omega) only [go_sem, Nat.reduceEqDiff, Nat.reduceAdd, ↓reduceIte, g1, g2, g3, g4, g5, g6, g7]) : p := e f1 f2 f3 f4 f5 f6 f7
theorem Zy8 {p F1 F2 F3 F4 F5 F6 F7 F8 : Prop} (f1 : F1) (f2 : F2) (f3 : F3) (f4 : F4) (f5 : F5) (f6 : F6) (f7 : F7) (f8 : F8) (e : F1 → F2 → F3 → F4 → F5 → F6 → F7 → F8 → p := by intro g1 g2 g3 g4 g5 g6 g7 g8; simp -implicitDefEqProofs (disch := omega) only [go_sem, Nat.reduceEqDiff, Nat.reduceAdd, ↓reduceIte, g1, g2, g3, g4, g5, g6, g7, g8]) : p := e f1 f2 f3 f4 f5 f6 f7 f8
theorem Zy9 {p F1 F2 F3 F4 F5 F6 F7 F8 F9 : Prop} (f1 : F1) (f2 : F2) (f3 : F3) (f4 : F4) (f5 : F5) (f6 : F6) (f7 : F7) (f8 : F8) (f9 : F9) (e : F1 → F2 → F3 → F4 → F5 → F6 → F7 → F8 → F9 → p := by intro g1 g2 g3 g4 g5 g6 g7 g8 g9; simp -implicitDefEqProofs (disch := omega) only [go_sem, Nat.reduceEqDiff, Nat.reduceAdd, ↓reduceIte, g1, g2, g3, g4, g5, g6, g7, g8, g9]) : p := e f1 f2 f3 f4 f5 f6 f7 f8 f9
theorem Zy10 {p F1 F2 F3 F4 F5 F6 F7 F8 F9 F10 : Prop} (f1 : F1) (f2 : F2) (f3 : F3) (f4 : F4) (f5 : F5) (f6 : F6) (f7 : F7) (f8 : F8) (f9 : F9) (f10 : F10) (e : F1 → F2 → F3 → F4 → F5 → F6 → F7 → F8 → F9 → F10 → p := by intro g1 g2 g3 g4 g5 g6 g7 g8 g9 g10; simp -implicitDefEqProofs (disch := omega) only [go_sem, Nat.reduceEqDiff, Nat.reduceAdd, ↓reduceIte, g1, g2, g3, g4, g5, g6, g7, g8, g9, g10]) : p := e f1 f2 f3 f4 f5 f6 f7 f8 f9 f10
theorem Zy11 {p F1 F2 F3 F4 F5 F6 F7 F8 F9 F10 F11 : Prop} (f1 : F1) (f2 : F2) (f3 : F3) (f4 : F4) (f5 : F5) (f6 : F6) (f7 : F7) (f8 : F8) (f9 : F9) (f10 : F10) (f11 : F11) (e : F1 → F2 → F3 → F4 → F5 → F6 → F7 → F8 → F9 → F10 → F11 → p := by intro g1 g2 g3 g4 g5 g6 g7 g8 g9 g10 g11; simp -implicitDefEqProofs (disch := omega) only [go_sem, Nat.reduceEqDiff, Nat.reduceAdd, ↓reduceIte, g1, g2, g3, g4, g5, g6, g7, g8, g9, g10, g11]) : p := e f1 f2 f3 f4 f5 f6 f7 f8 f9 f10 f11
theorem Zy12 {p F1 F2 F3 F4 F5 F6 F7 F8 F9 F10 F11 F12 : Prop} (f1 : F1) (f2 : F2) (f3 : F3) (f4 : F4) (f5 : F5) (f6 : F6) (f7 : F7) (f8 : F8) (f9 : F9) (f10 : F10) (f11 : F11) (f12 : F12) (e : F1 → F2 → F3 → F4 → F5 → F6 → F7 → F8 → F9 → F10 → F11 → F12 → p := by intro g1 g2 g3 g4 g5 g6 g7 g8 g9 g10 g11 g12; simp -implicitDefEqProofs (disch := omega) only [go_sem, Nat.reduceEqDiff, Nat.reduceAdd, ↓reduceIte, g1, g2, g3, g4, g5, g6, g7, g8, g9, g10, g11, g12]) : p := e f1 f2 f3 f4 f5 f6 f7 f8 f9 f10 f11 f12
theorem Zy13 {p F1 F2 F3 F4 F5 F6 F7 F8 F9 F10 F11 F12 F13 : Prop} (f1 : F1) (f2 : F2) (f3 : F3) (f4 : F4) (f5 : F5) (f6 : F6) (f7 : F7) (f8 : F8) (f9 : F9) (f10 : F10) (f11 : F11) (f12 : F12) (f13 : F13) (e : F1 → F2 → F3 → F4 → F5 → F6 → F7 → F8 → F9 → F10 → F11 → F12 → F13 → p := by intro g1 g2 g3 g4 g5 g6 g7 g8 g9 g10 g11 g12 g13; simp -implicitDefEqProofs (disch := omega) only [go_sem, Nat.reduceEqDiff, Nat.reduceAdd, ↓reduceIte, g1, g2, g3, g4, g5, g6, g7, g8, g9, g10, g11, g12, g13]) : p := e f1 f2 f3 f4 f5 f6 f7 f8 f9 f10 f11 f12 f13
theorem Zy14 {p F1 F2 F3 F4 F5 F6 F7 F8 F9 F10 F11 F12 F13 F14 : Prop} (f1 : F1) (f2 : F2) (f3 : F3) (f4 : F4) (f5 : F5) (f6 : F6) (f7 : F7) (f8 : F8) (f9 : F9) (f10 : F10) (f11 : F11) (f12 : F12) (f13 : F13) (f14 : F14) (e : F1 → F2 → F3 → F4 → F5 → F6 → F7 → F8 → F9 → F10 → F11 → F12 → F13 → F14 → p := by intro g1 g2 g3 g4 g5 g6 g7 g8 g9 g10 g11 g12 g13 g14; simp -implicitDefEqProofs (disch := omega) only [go_sem, Nat.reduceEqDiff, Nat.reduceAdd, ↓reduceIte, g1, g2, g3, g4, g5, g6, g7, g8, g9, g10, g11, g12, g13, g14]) : p := e f1 f2 f3 f4 f5 f6 f7 f8 f9 f10 f11 f12 f13 f14
theorem Zz1 {p q F1 : Prop} (f1 : F1) (k : q) (e : F1 → p = q := by intro g1; simp -implicitDefEqProofs (disch := omega) only [go_sem, Nat.reduceEqDiff, Nat.reduceAdd, ↓reduceIte, g1]; exact rfl) : p := (e f1).mpr k
theorem Zz2 {p q F1 F2 : Prop} (f1 : F1) (f2 : F2) (k : q) (e : F1 → F2 → p = q := by intro g1 g2; simp -implicitDefEqProofs (disch := omega) only [go_sem, Nat.reduceEqDiff, Nat.reduceAdd, ↓reduceIte, g1, g2]; exact rfl) : p := (e f1 f2).mpr k
theorem Zz3 {p q F1 F2 F3 : Prop} (f1 : F1) (f2 : F2) (f3 : F3) (k : q) (e : F1 → F2 → F3 → p = q := by intro g1 g2 g3; simp -implicitDefEqProofs (disch := omega) only [go_sem, Nat.reduceEqDiff, Nat.reduceAdd, ↓reduceIte, g1, g2, g3]; exact rfl) : p := (e f1 f2 f3).mpr k
theorem Zz4 {p q F1 F2 F3 F4 : Prop} (f1 : F1) (f2 : F2) (f3 : F3) (f4 : F4) (k : q) (e : F1 → F2 → F3 → F4 → p = q := by intro g1 g2 g3 g4; simp -implicitDefEqProofs (disch := omega) only [go_sem, Nat.reduceEqDiff, Nat.reduceAdd, ↓reduceIte, g1, g2, g3, g4]; exact rfl) : p := (e f1 f2 f3 f4).mpr k
theorem Zz5 {p q F1 F2 F3 F4 F5 : Prop} (f1 : F1) (f2 : F2) (f3 : F3) (f4 : F4) (f5 : F5) (k : q) (e : F1 → F2 → F3 → F4 → F5 → p = q := by intro g1 g2 g3 g4 g5; simp -implicitDefEqProofs (disch := omega) only [go_sem, Nat.reduceEqDiff, Nat.reduceAdd, ↓reduceIte, g1, g2, g3, g4, g5]; exact rfl) : p := (e f1 f2 f3 f4 f5).mpr k
theorem Zz6 {p q F1 F2 F3 F4 F5 F6 : Prop} (f1 : F1) (f2 : F2) (f3 : F3) (f4 : F4) (f5 : F5) (f6 : F6) (k : q) (e : F1 → F2 → F3 → F4 → F5 → F6 → p = q := by intro g1 g2 g3 g4 g5 g6; simp -implicitDefEqProofs (disch := omega) only [go_sem, Nat.reduceEqDiff, Nat.reduceAdd, ↓reduceIte, g1, g2, g3, g4, g5, g6]; exact rfl) : p := (e f1 f2 f3 f4 f5 f6).mpr k
theorem Zz7 {p q F1 F2 F3 F4 F5 F6 F7 : Prop} (f1 : F1) (f2 : F2) (f3 : F3) (f4 : F4) (f5 : F5) (f6 : F6) (f7 : F7) (k : q) (e : F1 → F2 → F3 → F4 → F5 → F6 → F7 → p = q := by intro g1 g2 g3 g4 g5 g6 g7; simp -implicitDefEqProofs (disch := omega) only [go_sem, Nat.reduceEqDiff, Nat.reduceAdd, ↓reduceIte, g1, g2, g3, g4, g5, g6, g7]; exact rfl) : p := (e f1 f2 f3 f4 f5 f6 f7).mpr k
theorem Zz8 {p q F1 F2 F3 F4 F5 F6 F7 F8 : Prop} (f1 : F1) (f2 : F2) (f3 : F3) (f4 : F4) (f5 : F5) (f6 : F6) (f7 : F7) (f8 : F8) (k : q) (e : F1 → F2 → F3 → F4 → F5 → F6 → F7 → F8 → p = q := by intro g1 g2 g3 g4 g5 g6 g7 g8; simp -implicitDefEqProofs (disch := omega) only [go_sem, Nat.reduceEqDiff, Nat.reduceAdd, ↓reduceIte, g1, g2, g3, g4, g5, g6, g7, g8]; exact rfl) : p := (e f1 f2 f3 f4 f5 f6 f7 f8).mpr k
theorem Zz9 {p q F1 F2 F3 F4 F5 F6 F7 F8 F9 : Prop} (f1 : F1) (f2 : F2) (f3 : F3) (f4 : F4) (f5 : F5) (f6 : F6) (f7 : F7) (f8 : F8) (f9 : F9) (k : q) (e : F1 → F2 → F3 → F4 → F5 → F6 → F7 → F8 → F9 → p = q := by intro g1 g2 g3 g4 g5 g6 g7 g8 g9; simp -implicitDefEqProofs (disch := omega) only [go_sem, Nat.reduceEqDiff, Nat.reduceAdd, ↓reduceIte, g1, g2, g3, g4, g5, g6, g7, g8, g9]; exact rfl) : p := (e f1 f2 f3 f4 f5 f6 f7 f8 f9).mpr k
theorem Zz10 {p q F1 F2 F3 F4 F5 F6 F7 F8 F9 F10 : Prop} (f1 : F1) (f2 : F2) (f3 : F3) (f4 : F4) (f5 : F5) (f6 : F6) (f7 : F7) (f8 : F8) (f9 : F9) (f10 : F10) (k : q) (e : F1 → F2 → F3 → F4 → F5 → F6 → F7 → F8 → F9 → F10 → p = q := by intro g1 g2 g3 g4 g5 g6 g7 g8 g9 g10; simp -implicitDefEqProofs (disch := omega) only [go_sem, Nat.reduceEqDiff, Nat.reduceAdd, ↓reduceIte, g1, g2, g3, g4, g5, g6, g7, g8, g9, g10]; exact rfl) : p := (e f1 f2 f3 f4 f5 f6 f7 f8 f9 f10).mpr k
theorem Zz11 {p q F1 F2 F3 F4 F5 F6 F7 F8 F9 F10 F11 : Prop} (f1 : F1) (f2 : F2) (f3 : F3) (f4 : F4) (f5 : F5) (f6 : F6) (f7 : F7) (f8 : F8) (f9 : F9) (f10 : F10) (f11 : F11) (k : q) (e : F1 → F2 → F3 → F4 → F5 → F6 → F7 → F8 → F9 → F10 → F11 → p = q := by intro g1 g2 g3 g4 g5 g6 g7 g8 g9 g10 g11; simp -implicitDefEqProofs (disch := omega) only [go_sem, Nat.reduceEqDiff, Nat.reduceAdd, ↓reduceIte, g1, g2, g3, g4, g5, g6, g7, g8, g9, g10, g11]; exact rfl) : p := (e f1 f2 f3 f4 f5 f6 f7 f8 f9 f10 f11).mpr k
theorem Zz12 {p q F1 F2 F3 F4 F5 F6 F7 F8 F9 F10 F11 F12 : Prop} (f1 : F1) (f2 : F2) (f3 : F3) (f4 : F4) (f5 : F5) (f6 : F6) (f7 : F7) (f8 : F8) (f9 : F9) (f10 : F10) (f11 : F11) (f12 : F12) (k : q) (e : F1 → F2 → F3 → F4 → F5 → F6 → F7 → F8 → F9 → F10 → F11 → F12 → p = q := by intro g1 g2 g3 g4 g5 g6 g7 g8 g9 g10 g11 g12; simp -implicitDefEqProofs (disch := omega) only [go_sem, Nat.reduceEqDiff, Nat.reduceAdd, ↓reduceIte, g1, g2, g3, g4, g5, g6, g7, g8, g9, g10, g11, g12]; exact rfl) : p := (e f1 f2 f3 f4 f5 f6 f7 f8 f9 f10 f11 f12).mpr k
theorem Zz13 {p q F1 F2 F3 F4 F5 F6 F7 F8 F9 F10 F11 F12 F13 : Prop} (f1 : F1) (f2 : F2) (f3 : F3) (f4 : F4) (f5 : F5) (f6 : F6) (f7 : F7) (f8 : F8) (f9 : F9) (f10 : F10) (f11 : F11) (f12 : F12) (f13 : F13) (k : q) (e : F1 → F2 → F3 → F4 → F5 → F6 → F7 → F8 → F9 → F10 → F11 → F12 → F13 → p = q := by intro g1 g2 g3 g4 g5 g6 g7 g8 g9 g10 g11 g12 g13; simp -implicitDefEqProofs (disch := omega) only [go_sem, Nat.reduceEqDiff, Nat.reduceAdd, ↓reduceIte, g1, g2, g3, g4, g5, g6, g7, g8, g9, g10, g11, g12, g13]; exact rfl) : p := (e f1 f2 f3 f4 f5 f6 f7 f8 f9 f10 f11 f12 f13).mpr k
theorem Zz14 {p q F1 F2 F3 F4 F5 F6 F7 F8 F9 F10 F11 F12 F13 F14 : Prop} (f1 : F1) (f2 : F2) (f3 : F3) (f4 : F4) (f5 : F5) (f6 : F6) (f7 : F7) (f8 : F8) (f9 : F9) (f10 : F10) (f11 : F11) (f12 : F12) (f13 : F13) (f14 : F14) (k : q) (e : F1 → F2 → F3 → F4 → F5 → F6 → F7 → F8 → F9 → F10 → F11 → F12 → F13 → F14 → p = q := by intro g1 g2 g3 g4 g5 g6 g7 g8 g9 g10 g11 g12 g13 g14; simp -implicitDefEqProofs (disch := omega) only [go_sem, Nat.reduceEqDiff, Nat.reduceAdd, ↓reduceIte, g1, g2, g3, g4, g5, g6, g7, g8, g9, g10, g11, g12, g13, g14]; exact rfl) : p := (e f1 f2 f3 f4 f5 f6 f7 f8 f9 f10 f11 f12 f13 f14).mpr k
end Go
namespace Go.E
open Go
abbrev Env:=Nat→Value
def upd (e:Env) (d:Nat) (v:Value):Env:=fun i=>if i=d then v else e i
def put (e:Env):Option Nat→Value→Env
 | some d,v=>upd e d v
 | none,_=>e
def ev (e:Env):Operand→Value
 | .tmp t=>e t
 | .const v=>v
 | .global g=>.pointer (some ⟨g,0,none⟩)
 | .func f=>.func (.func f) #[] #[]
def q4o (l:List Value):Env:=fun i=>l.getD i undef
structure Rel (n:Nat) (a:Act) (e:Env):Prop where
 defs:a.defers=[]
 size:a.tmps.size=n
 get:∀ i,a.tmps.getD i undef=e i
def q3d (n:Nat) (o:Oper):Bool:=match o.dst with | some d=>decide (d < n) | none=>true
def q8b (n:Nat):Code→Bool
 | .skip | .exit _ | .ret=>true
 | .region _ ops _=>ops.toList.all (q3d n)
 | .seq a b=>q8b n a && q8b n b
 | .cond _ a b=>q8b n a && q8b n b
 | .block _ c=>q8b n c
 | .loop c=>q8b n c
 | _=>false
def wrO (i:Nat) (o:Oper):Bool:=match o.dst with | some d=>Nat.beq d i | none=>false
def wr (i:Nat):Code→Bool
 | .region _ ops _=>ops.toList.any (wrO i)
 | .seq a b=>wr i a || wr i b
 | .cond _ a b=>wr i a || wr i b
 | .block _ c=>wr i c
 | .loop c=>wr i c
 | _=>false
theorem Rel.eval {n:Nat} {a:Act} {e:Env} (h:Rel n a e):a.eval=ev e:=by
 funext x
 cases x <;> simp only [Act.eval,ev];exact h.get _
theorem Rel.put {n:Nat} {a:Act} {e:Env} (h:Rel n a e) (dst:Option Nat) (v:Value) (hd:(match dst with | some d=>decide (d < n) | none=>true)=true):Rel n (a.put dst v) (E.put e dst v):=by
 cases dst with
 | none=>exact h
 | some d =>
  have hd':d < n:=by simpa using hd
  refine ⟨h.defs,by simpa [Act.put] using h.size,fun i=>?_⟩;have hg:=h.get i;have hs:=h.size;simp only [E.put,upd,Act.put,Array.getD_eq_getD_getElem?,Array.getElem?_setIfInBounds] at hg ⊢
  by_cases hi:i=d
  ·subst hi; simp [hs,hd']
  ·simp [hi,Ne.symm hi]; simpa using hg
section
variable {P:Program} {n:Nat}
def qis (n:Nat) (c:Code) (e:Env) (Q:Exit→Env→World→Prop) (x:Exit) (a:Act) (w:World):Prop :=
 ∃ e',Rel n a e'∧(∀ i,wr i c=false→e' i=e i)∧Q x e' w
def W (P:Program) (n:Nat) (c:Code) (Q:Exit→Env→World→Prop) (e:Env) (w:World):Prop :=
 q8b n c=true→∀ a,Rel n a e→c.wp P (qis n c e Q) a w
def q7f (next:Env→World→Prop) (Q:Exit→Env→World→Prop):Exit→Env→World→Prop
 | .normal,e,w=>next e w
 | x,e,w=>Q x e w
def inB (id:Nat) (Q:Exit→Env→World→Prop):Exit→Env→World→Prop
 | .exit id',e,w=>if id'=id then Q .normal e w else Q (.exit id') e w
 | x,e,w=>Q x e w
theorem q4c {c:Code} {Q Q':Exit→Env→World→Prop} {e:Env} {w:World} (hq:∀ x e w,Q x e w→Q' x e w) (h:W P n c Q e w):W P n c Q' e w :=
 fun hd a hr=>wp_mono (h hd a hr) fun _ _ _ ⟨e',r,f,q⟩=>⟨e',r,f,hq _ _ _ q⟩
theorem qff {a b:Code} {Q:Exit→Env→World→Prop} {e:Env} {w:World} (h:W P n a (q7f (W P n b Q) Q) e w):W P n (.seq a b) Q e w:=by
 intro hd act hr;simp only [q8b,Bool.and_eq_true] at hd;have key:∀ (x:Exit) (a':Act) (w':World),qis n a e (q7f (W P n b Q) Q) x a' w'→Exit.then (b.wp P (qis n (.seq a b) e Q)) (qis n (.seq a b) e Q) x a' w':=by
  rintro x a' w' ⟨e',r,f,q⟩;cases x with
  | normal =>
   refine wp_mono (q hd.2 a' r) fun x2 a2 w2 ⟨e2,r2,f2,q2⟩=>⟨e2,r2,fun i hi=>?_,q2⟩;simp only [wr,Bool.or_eq_false_iff] at hi;rw [f2 i hi.2,f i hi.1]
  | _=>exact ⟨e',r,fun i hi=>f i (by simp only [wr,Bool.or_eq_false_iff] at hi; exact hi.1),q⟩
 exact wp_seq (wp_mono (h hd.1 act hr) key)
theorem q0B {a b:Code} {Q:Exit→Env→World→Prop} {e:Env} {w:World} (h:∀ K:Env→World→Prop,(∀ e w,W P n b Q e w→K e w)→W P n a (q7f K Q) e w):W P n (.seq a b) Q e w :=
 qff (h _ fun _ _ h=>h)
theorem q00 {c:Operand} {x y:Code} {Q:Exit→Env→World→Prop} {e:Env} {w:World} {t:Bool} (hc:ev e c=.bool t) (ht:t=true→W P n x Q e w) (hf:t=false→W P n y Q e w):W P n (.cond c x y) Q e w:=by
 intro hd a hr;simp only [q8b,Bool.and_eq_true] at hd;refine wp_cond_split (t:=t) (by rw [hr.eval]; exact hc) (fun h=>?_) (fun h=>?_)
 ·exact wp_mono (ht h hd.1 a hr) fun x2 a2 w2 ⟨e2,r2,f2,q2⟩=>⟨e2,r2,fun i hi=>f2 i (by simp only [wr,Bool.or_eq_false_iff] at hi; exact hi.1),q2⟩
 ·exact wp_mono (hf h hd.2 a hr) fun x2 a2 w2 ⟨e2,r2,f2,q2⟩=>⟨e2,r2,fun i hi=>f2 i (by simp only [wr,Bool.or_eq_false_iff] at hi; exact hi.2),q2⟩
theorem Wt {c:Operand} {x y:Code} {Q:Exit→Env→World→Prop} {e:Env} {w:World} (ht:W P n x Q e w) (hc:ev e c=.bool true:=by exact rfl):W P n (.cond c x y) Q e w:=q00 hc (fun _=>ht) (fun h=>by cases h)
theorem Wf {c:Operand} {x y:Code} {Q:Exit→Env→World→Prop} {e:Env} {w:World} (ht:W P n y Q e w) (hc:ev e c=.bool false:=by exact rfl):W P n (.cond c x y) Q e w:=q00 hc (fun h=>by cases h) (fun _=>ht)
theorem q0Y {id:Nat} {c:Code} {Q:Exit→Env→World→Prop} {e:Env} {w:World} (h:W P n c (inB id Q) e w):W P n (.block id c) Q e w:=by
 intro hd a hr;refine wp_block (wp_mono (h hd a hr) ?_);rintro x a2 w2 ⟨e2,r2,f2,q2⟩;cases x with
 | exit id' =>
  simp only [inB] at q2;simp only [Exit.inBlock]
  split
  ·rename_i hid; rw [if_pos hid] at q2; exact ⟨e2,r2,f2,q2⟩
  ·rename_i hid; rw [if_neg hid] at q2; exact ⟨e2,r2,f2,q2⟩
 | _=>exact ⟨e2,r2,f2,q2⟩
theorem q0G {Q:Exit→Env→World→Prop} {e:Env} {w:World} (h:Q .normal e w):W P n .skip Q e w :=
 fun _ _ hr=>wp_skip ⟨e,hr,fun _ _=>rfl,h⟩
theorem q03 {id:Nat} {Q:Exit→Env→World→Prop} {e:Env} {w:World} (h:Q (.exit id) e w):W P n (.exit id) Q e w :=
 fun _ _ hr=>wp_exit ⟨e,hr,fun _ _=>rfl,h⟩
theorem q0L {Q:Exit→Env→World→Prop} {e:Env} {w:World} (h:Q .ret e w):W P n .ret Q e w :=
 fun _ _ hr=>wp_ret ⟨e,hr,fun _ _=>rfl,h⟩
theorem q09 {c:Code} {Q:Exit→Env→World→Prop} {e:Env} {w:World} (I:Env→World→Prop) (μ:Env→World→Nat) (h0:I e w)
  (round:∀ e' w',I e' w'→(∀ i,wr i c=false→e' i=e i)→W P n c (q7f (fun e2 w2=>I e2 w2∧μ e2 w2 < μ e' w') Q) e' w'):W P n (.loop c) Q e w:=by
 intro hd a hr;have hd':q8b n c=true:=hd;refine wp_loop (fun a' w'=>∃ e',Rel n a' e'∧(∀ i,wr i c=false→e' i=e i)∧I e' w') (fun a' w'=>μ (fun i=>a'.tmps.getD i undef) w') ⟨e,hr,fun _ _=>rfl,h0⟩ ?_;rintro a' w' ⟨e',r',f',i'⟩;have he':(fun i=>a'.tmps.getD i undef)=e':=funext r'.get;refine wp_mono (round e' w' i' f' hd' a' r') ?_;rintro x a2 w2 ⟨e2,r2,f2,q2⟩;have he2:(fun i=>a2.tmps.getD i undef)=e2:=funext r2.get;cases x with
 | normal =>
  obtain ⟨q3,q4⟩:=q2;exact ⟨⟨e2,r2,fun i hi=>(f2 i hi).trans (f' i hi),q3⟩,by rw [he2,he']; exact q4⟩
 | _=>exact ⟨e2,r2,fun i hi=>(f2 i hi).trans (f' i hi),q2⟩
def RO (P:Program) (K:Value→World→Prop):Result Next→Prop
 | .ok (.value v) w=>K v w
 | .ok .skip w=>K undef w
 | .ok (.enter f args) w=>Calls P f args w fun x w'=>match x with | .returned v=>K v w' | _=>False
 | _=>False
def WO (P:Program) (o:Oper) (e:Env) (w:World) (K:Value→World→Prop):Prop:=RO P K ((execOp (ev e) o).run P w)
theorem qo9 {K K':Value→World→Prop} (hk:∀ v w,K v w→K' v w) {r:Result Next} (h:RO P K r):RO P K' r:=by
 cases r with
 | ok x w =>
  cases x <;> simp only [RO] at h ⊢
  ·exact hk _ _ h
  ·exact hk _ _ h
  ·exact h.mono fun x w' hx=>by cases x <;> first | exact hk _ _ hx | exact hx
 | halt=>exact h
theorem qfi {o:Oper} {e:Env} {w:World} {K K':Value→World→Prop} (hk:∀ v w,K v w→K' v w) (h:WO P o e w K):WO P o e w K':=qo9 hk h
def q3i (ops:Array Oper) (e:Env) (j:Nat):Option Bool :=
 match (ops[j]?).bind (·.dst) with
 | some d=>match e d with | .bool b=>some b | _=>none
 | none=>none
def q64 (ops:Array Oper) (e:Env) (o:Oper):Bool :=
 match o.guard with
 | none=>true
 | some (j,want)=>q3i ops e j == some want
def WG (P:Program) (ops:Array Oper) (o:Oper) (e:Env) (w:World) (K:Value→World→Prop):Prop :=
 if q64 ops e o then WO P o e w K else K undef w
theorem q5t {ops:Array Oper} {o:Oper} {e:Env} {w:World} {K K':Value→World→Prop} (hk:∀ v w,K v w→K' v w) (h:WG P ops o e w K):WG P ops o e w K':=by
 unfold WG at *; split
 ·rename_i hw; rw [if_pos hw] at h; exact qfi hk h
 ·rename_i hw; rw [if_neg hw] at h; exact hk _ _ h
def WL (P:Program) (ops:Array Oper) (K:Env→World→Prop):List Oper→Env→World→Prop
 | [],e,w=>K e w
 | o :: rest,e,w=>WG P ops o e w fun v w'=>WL P ops K rest (put e o.dst v) w'
theorem qgC {ops:Array Oper} {a:Act} {e:Env} (hr:Rel n a e) (hd:ops.toList.all (q3d n)=true) (j:Nat):yielded ops a.tmps j=q3i ops e j:=by
 unfold yielded q3i;cases hj:ops[j]? with
 | none=>simp
 | some o =>
  have ho:q3d n o=true:=by
   rw [List.all_eq_true] at hd;exact hd o (Array.mem_toList_iff.2 (Array.mem_of_getElem? hj))
  simp only [Option.bind_some];unfold q3d at ho;cases hdst:o.dst with
  | none=>simp
  | some d =>
   rw [hdst] at ho;have hlt:d < a.tmps.size:=by rw [hr.size]; simpa using ho
   have hg:=hr.get d;simp only [Option.bind_some,Array.getElem?_eq_getElem hlt];have hv:a.tmps[d]=e d:=by rw [← hg,Array.getD_eq_getD_getElem?,Array.getElem?_eq_getElem hlt]; rfl
   rw [hv];cases e d <;> rfl
theorem q2e {ops:Array Oper} {a:Act} {e:Env} (hr:Rel n a e) (hd:ops.toList.all (q3d n)=true) (o:Oper):Region.wanted o (yielded ops a.tmps)=q64 ops e o:=by
 unfold Region.wanted q64;cases o.guard with
 | none=>rfl
 | some g=>obtain ⟨j,want⟩:=g; simp only [qgC hr hd j]
theorem q2O {o:Oper} {a:Act} {e:Env} {w:World} {K:Value→World→Prop} {K':Act→World→Prop} {Q:Exit→Act→World→Prop} (hr:Rel n a e) (h:WO P o e w K) (hk:∀ v w',K v w'→K' (a.put o.dst v) w'):o.wp P a w K' Q:=by
 unfold Oper.wp;rw [hr.eval];unfold WO at h;generalize (execOp (ev e) o).run P w=r at *;cases r with
 | ok x w' =>
  cases x <;> simp only [RO] at h <;> simp only [Oper.upon]
  ·exact hk _ _ h
  ·exact hk _ _ h
  ·refine h.mono fun x w'' hx=>?_;cases x with
   | returned v=>exact hk _ _ hx
   | _=>exact hx.elim
 | halt=>exact h.elim
theorem q44 {ops:Array Oper} {K:Env→World→Prop} {Q:Exit→Act→World→Prop} (hd:ops.toList.all (q3d n)=true):∀ (l:List Oper),(∀ o ∈ l,q3d n o=true)→∀ (a:Act) (e:Env) (w:World),
  Rel n a e→(∀ (a':Act) (e':Env) (w':World),Rel n a' e'→(∀ i,l.any (wrO i)=false→e' i=e i)→K e' w'→Q .normal a' w')→WL P ops K l e w→wpList P ops Q l a w
 | [],_,a,e,w,hr,hq,h=>hq a e w hr (fun _ _=>rfl) h
 | o :: rest,hl,a,e,w,hr,hq,h=>by
  have hdo:=hl o List.mem_cons_self;have hput:∀ v,Rel n (a.put o.dst v) (put e o.dst v):=fun v=>hr.put o.dst v (by unfold q3d at hdo; cases hx:o.dst <;> simp_all);have hrec:∀ v w',WL P ops K rest (put e o.dst v) w'→wpList P ops Q rest (a.put o.dst v) w':=fun v w' hw=>by
   refine q44 hd rest (fun o ho=>hl o (List.mem_cons_of_mem _ ho)) _ _ _ (hput v) (fun a' e' w'' r' f' k'=>hq a' e' w'' r' (fun i hi=>?_) k') hw;simp only [List.any_cons,Bool.or_eq_false_iff] at hi;rw [f' i hi.2];unfold wrO at hi;cases hx:o.dst with
   | none=>rfl
   | some d =>
    rw [hx] at hi;have hne:i≠d:=fun he=>by subst he; simp at hi
    simp [put,upd,hne]
  simp only [WL,WG] at h;unfold wpList;rw [q2e hr hd o]
  split
  ·rename_i hw;rw [if_pos hw] at h;exact .inl (q2O hr h hrec)
  ·rename_i hw;rw [if_neg hw] at h;exact hrec _ _ h
theorem q7X {id:Nat} {ops:Array Oper} {Q:Exit→Env→World→Prop} {e:Env} {w:World} (h:WL P ops (Q .normal) ops.toList e w):W P n (.region id ops false) Q e w:=by
 intro hd a hr;have hd':ops.toList.all (q3d n)=true:=hd;refine wp_region_list (q44 hd' ops.toList (fun o ho=>by rw [List.all_eq_true] at hd'; exact hd' o ho) a e w hr ?_ h);intro a' e' w' r' f' k';exact ⟨e',r',f',k'⟩
end
structure Pre (R:World→World→Prop):Prop where
 refl:∀ w,R w w
 trans:∀ {a b c},R a b→R b c→R a c
 drew:∀ w k,R w { w with drawn:=k }
abbrev q1A (R:World→World→Prop):={ p:Value→World→Prop // ∀ v w w',R w w'→p v w→p v w' }
section
variable {R:World→World→Prop}
def is (v:Value):q1A R:=⟨fun x _=>x=v,fun _ _ _ _ h=>h⟩
def anyV:q1A R:=⟨fun _ _=>True,fun _ _ _ _ h=>h⟩
def look:List (Nat × q1A R)→Nat→q1A R
 | [],_=>anyV
 | (k,p) :: l,t=>if k=t then p else look l t
end
def q0v (o:Oper) (j:Nat):Bool:=o.after.toList.any fun e=>Region.binds .any e && Nat.beq e.on j
def qnR (ops:List Oper) (j t:Nat):Bool:=match (ops[j]?).bind (·.dst) with | some d=>Nat.beq d t | none=>false
def q1c (ops:Array Oper) (o:Oper) (t:Nat):Bool:=(o.looksAt ops).any (Nat.beq t)
def dep (ops:Array Oper) (o:Oper) (t:Nat):Bool:=(List.range ops.size).any fun j=>q0v o j && qnR ops.toList j t
def q24 (ops:Array Oper) (t:Nat):Bool:=ops.toList.any (wrO t)
def q2H (ops:Array Oper):Bool :=
 (List.range ops.size).all fun i=>match ops.toList[i]? with
  | none=>true
  | some o=>(o.after.toList.all fun e=>!Region.binds .any e || decide (e.on < i)) &&
   (match o.op with | .select _ _=>false | _=>true) &&
   (List.range ops.size).all fun j=>match ops.toList[j]? with
    | none=>true
    | some p=>Nat.beq i j || ((match o.dst,p.dst with | some d,some d'=>!Nat.beq d d' | _,_=>true) &&
      (match p.dst with | some d=>!q1c ops o d || q0v o j || q0v p i | none=>true))
section
variable {P:Program} {n:Nat} {R:World→World→Prop}
def q35 (P:Program) (ops:Array Oper) (R:World→World→Prop) (l:List (Nat × q1A R)) (e:Env) (w:World) (o:Oper):Prop :=
 ∀ e' w',R w w'→(∀ t,dep ops o t=true→(look l t).1 (e' t) w')→(∀ t,q1c ops o t=true→dep ops o t=false→e' t=e t) →
  WG P ops o e' w' fun v w''=>R w' w''∧∀ d,o.dst=some d→(look l d).1 v w''
def q2N (P:Program) (ops:Array Oper) (R:World→World→Prop) (l:List (Nat × q1A R)) (e:Env) (w:World):List Oper→Prop
 | []=>True
 | o :: rest=>q35 P ops R l e w o∧q2N P ops R l e w rest
theorem q2N.get {ops:Array Oper} {l:List (Nat × q1A R)} {e:Env} {w:World}:∀ {os:List Oper},q2N P ops R l e w os→∀ o ∈ os,q35 P ops R l e w o:=by
 intro os
 induction os with
 | nil=>intro _ o ho; cases ho
 | cons a rest ih =>
  intro h x hx
  rcases List.mem_cons.1 hx with hx | hx
  ·rw [hx]; exact h.1
  ·exact ih h.2 x hx
structure DInv (ops:Array Oper) (n:Nat) (R:World→World→Prop) (l:List (Nat × q1A R)) (e:Env) (w:World) (listed:Array Bool) (a:Act) (e':Env) (w':World):Prop where
 size:listed.size=ops.size
 rel:Rel n a e'
 world:R w w'
 done:∀ (i:Nat) (o:Oper) (d:Nat),ops[i]?=some o→listed.getD i true=true→o.dst=some d→(look l d).1 (e' d) w'
 old:∀ (t:Nat),(∀ (i:Nat) (o:Oper),ops[i]?=some o→listed.getD i true=true→o.dst≠some t)→e' t=e t
 closed:∀ (i:Nat) (o:Oper) (x:Edge),ops[i]?=some o→listed.getD i true=true→x ∈ o.after→Region.binds .any x=true→listed.getD x.on false=true
theorem q0a {o:Oper} {j:Nat}:q0v o j=true ↔ ∃ x ∈ o.after,Region.binds .any x=true∧x.on=j:=by
 unfold q0v;simp only [List.any_eq_true,Bool.and_eq_true,Nat.beq_eq,Array.mem_toList_iff]
theorem q36 {o:Oper} {t:Nat}:wrO t o=true ↔ o.dst=some t:=by
 unfold wrO; cases o.dst <;> simp
theorem q1h {ops:Array Oper} {t:Nat} (h:q24 ops t=false) (i:Nat) (o:Oper) (ho:ops[i]?=some o):o.dst≠some t:=by
 intro hd;have:q24 ops t=true:=by
  unfold q24; rw [List.any_eq_true];exact ⟨o,Array.mem_toList_iff.2 (Array.mem_of_getElem? ho),q36.2 hd⟩
 rw [h] at this; cases this
theorem q3M {ops:Array Oper} {o:Oper} {t:Nat}:dep ops o t=true ↔ ∃ j p,ops[j]?=some p∧q0v o j=true∧p.dst=some t:=by
 unfold dep;simp only [List.any_eq_true,List.mem_range,Bool.and_eq_true]
 constructor
 ·rintro ⟨j,hj,he,hd⟩;unfold qnR at hd;rw [Array.getElem?_toList] at hd;cases hp:ops[j]? with
  | none=>rw [hp] at hd; simp at hd
  | some p =>
   rw [hp] at hd;cases hx:p.dst with
   | none=>simp [hx] at hd
   | some d=>simp [hx] at hd; exact ⟨j,p,hp,he,by rw [hx,hd]⟩
 ·rintro ⟨j,p,hp,he,hd⟩;refine ⟨j,(Array.getElem?_eq_some_iff.1 hp).1,he,?_⟩;unfold qnR;rw [Array.getElem?_toList,hp];simp [hd]
structure DOk (ops:Array Oper):Prop where
 down:∀ (i:Nat) (o:Oper) (x:Edge),ops[i]?=some o→x ∈ o.after→Region.binds .any x=true→x.on < i
 one:∀ (i j:Nat) (o p:Oper) (d:Nat),ops[i]?=some o→ops[j]?=some p→i≠j→o.dst=some d→p.dst≠some d
 seen:∀ (i j:Nat) (o p:Oper) (d:Nat),ops[i]?=some o→ops[j]?=some p→i≠j→p.dst=some d→q1c ops o d=true→q0v o j=true∨q0v p i=true
theorem DOk.of {ops:Array Oper} (h:q2H ops=true):DOk ops:=by
 unfold q2H at h;rw [List.all_eq_true] at h;have h1:∀ i o,ops[i]?=some o→_:=fun i o ho=>h i (List.mem_range.2 (Array.getElem?_eq_some_iff.1 ho).1);refine ⟨fun i o x ho hx hb=>?_,fun i j o p d ho hp hne hd hd'=>?_,fun i j o p d ho hp hne hd hl=>?_⟩
 ·have:=h1 i o ho;rw [Array.getElem?_toList,ho] at this;simp only [Bool.and_eq_true,List.all_eq_true] at this;have:=this.1.1 x (Array.mem_toList_iff.2 hx);simpa [hb] using this
 ·have:=h1 i o ho;rw [Array.getElem?_toList,ho] at this;simp only [Bool.and_eq_true,List.all_eq_true] at this;have:=this.2 j (List.mem_range.2 (Array.getElem?_eq_some_iff.1 hp).1);rw [Array.getElem?_toList,hp] at this;simp [hd,hd',hne] at this
 ·have:=h1 i o ho;rw [Array.getElem?_toList,ho] at this;simp only [Bool.and_eq_true,List.all_eq_true] at this;have:=this.2 j (List.mem_range.2 (Array.getElem?_eq_some_iff.1 hp).1);rw [Array.getElem?_toList,hp] at this;simp only [hd,hl,Bool.or_eq_true,Nat.beq_eq,Bool.and_eq_true] at this
  rcases this with this | ⟨_,this⟩
  ·exact absurd this hne
  ·simpa using this
theorem q0I {listed:Array Bool} {i j:Nat} (hi:i < listed.size) {b:Bool}:(listed.setIfInBounds i true).getD j b=if i=j then true else listed.getD j b:=by
 simp only [Array.getD_eq_getD_getElem?,Array.getElem?_setIfInBounds]
 by_cases h:i=j
 ·subst h; simp [hi]
 ·simp [h]
theorem qiN {ops:Array Oper} {l:List (Nat × q1A R)} {e:Env} {w:World} {Q:Exit→Act→World→Prop} (hR:Pre R) (hok:DOk ops) (hd:ops.toList.all (q3d n)=true)
  (steps:∀ o ∈ ops.toList,q35 P ops R l e w o)
  (hQ:∀ a e' w',Rel n a e'→R w w'→(∀ t,q24 ops t=true→(look l t).1 (e' t) w')→(∀ t,q24 ops t=false→e' t=e t)→Q .normal a w') :
  ∀ (fuel:Nat) (listed:Array Bool) (a:Act) (e':Env) (w':World),ops.size≤fuel+(List.range ops.size).countP (fun i=>listed.getD i true)→DInv ops n R l e w listed a e' w'→wpAny P .any ops Q fuel listed a w':=by
 have hend:∀ (listed:Array Bool) (a:Act) (e':Env) (w':World),DInv ops n R l e w listed a e' w'→Region.ready .any ops listed=[]→Q .normal a w':=by
  intro listed a e' w' I hnil;have hall:∀ i,i < ops.size→listed.getD i true=true:=by
   intro i
   induction i using Nat.strongRecOn with
   | _ i ih =>
    intro hi;cases hb:listed.getD i true with
    | true=>rfl
    | false =>
     have:i ∈ Region.ready .any ops listed:=by
      unfold Region.ready;rw [List.mem_filter];refine ⟨List.mem_range.2 hi,?_⟩;simp only [hb,Bool.not_false,Bool.true_and,Array.getElem?_eq_getElem hi,Option.map_some,Option.getD_some];rw [Array.all_eq_true'];intro x hx;cases hbx:Region.binds .any x with
      | false=>rfl
      | true =>
       have hlt:=hok.down i ops[i] x (Array.getElem?_eq_getElem hi) hx hbx;have:=ih x.on hlt Oq;have hlt2:x.on < listed.size:=by rw [I.size]; omega
       simp only [Array.getD_eq_getD_getElem?,Array.getElem?_eq_getElem hlt2,Option.getD_some] at this ⊢;simp [this]
     rw [hnil] at this; cases this
  refine hQ a e' w' I.rel I.world (fun t ht=>?_) (fun t ht=>?_)
  ·unfold q24 at ht;rw [List.any_eq_true] at ht;obtain ⟨o,ho,hw⟩:=ht;obtain ⟨i,hi,hio⟩:=Array.getElem_of_mem (Array.mem_toList_iff.1 ho);exact I.done i o t (by rw [Array.getElem?_eq_getElem hi,hio]) (hall i hi) (q36.1 hw)
  ·exact I.old t fun i o ho _=>q1h ht i o ho
 intro fuel
 induction fuel with
 | zero =>
  intro listed a e' w' hf I;have hall:∀ i,i < ops.size→listed.getD i true=true:=by
   have hle:(List.range ops.size).countP (fun i=>listed.getD i true)=(List.range ops.size).length:=by
    have:=List.countP_le_length (p:=fun i=>listed.getD i true) (l:=List.range ops.size);simp only [List.length_range] at this ⊢; omega
   rw [List.countP_eq_length] at hle;exact fun i hi=>hle i (List.mem_range.2 hi)
  have hnil:Region.ready .any ops listed=[]:=by
   unfold Region.ready;rw [List.filter_eq_nil_iff];intro i hi;simp [hall i (List.mem_range.1 hi)]
  exact ⟨hnil,hend _ _ _ _ I hnil⟩
 | succ fuel ih =>
  intro listed a e' w' hf I;refine ⟨hend _ _ _ _ I,fun i hi=>?_⟩;unfold Region.ready at hi;rw [List.mem_filter] at hi;obtain ⟨hir,hrd⟩:=hi;have hlt:=List.mem_range.1 hir;have hio:ops[i]?=some ops[i]:=Array.getElem?_eq_getElem hlt;simp only [hio,Option.map_some,Option.getD_some,Bool.and_eq_true] at hrd;obtain ⟨hnl,haf⟩:=hrd;have hnl':listed.getD i true=false:=by simpa using hnl
  rw [Array.all_eq_true'] at haf;have haf':∀ x ∈ ops[i].after,Region.binds .any x=true→listed.getD x.on false=true:=fun x hx hb=>by
   have:=haf x hx;simpa [hb] using this
  have hmem:ops[i] ∈ ops.toList:=by simp
  have hdo:q3d n ops[i]=true:=by rw [List.all_eq_true] at hd; exact hd _ hmem
  have hstep:=steps _ hmem e' w' I.world (fun t ht=>by
   obtain ⟨j,p,hp,he,hpd⟩:=q3M.1 ht;obtain ⟨x,hx,hb,rfl⟩:=q0a.1 he;have hl:=haf' x hx hb;have hxl:x.on < listed.size:=by rw [I.size]; exact (Array.getElem?_eq_some_iff.1 hp).1
   exact I.done x.on p t hp (by simp only [Array.getD_eq_getD_getElem?,Array.getElem?_eq_getElem hxl,Option.getD_some] at hl ⊢; exact hl) hpd) (fun t ht hnd=>by
   refine I.old t fun j p hp hl hpd=>?_
   by_cases hij:i=j
   ·subst hij; rw [hnl'] at hl; cases hl
   ·rcases hok.seen i j ops[i] p t hio hp hij hpd ht with h | h
    ·have:dep ops ops[i] t=true:=q3M.2 ⟨j,p,hp,h,hpd⟩;rw [hnd] at this; cases this
    ·obtain ⟨x,hx,hb,hxo⟩:=q0a.1 h;have:=I.closed j p x hp hl hx hb;rw [hxo] at this;have hxl:i < listed.size:=by rw [I.size]; exact hlt
     simp only [Array.getD_eq_getD_getElem?,Array.getElem?_eq_getElem hxl,Option.getD_some] at this hnl';rw [this] at hnl'; cases hnl')
  have hcount:ops.size≤fuel+(List.range ops.size).countP (fun j=>(listed.setIfInBounds i true).getD j true):=by
   have hli:i < listed.size:=by rw [I.size]; exact hlt
   have:(List.range ops.size).countP (fun j=>listed.getD j true)+1≤(List.range ops.size).countP (fun j=>(listed.setIfInBounds i true).getD j true):=by
    have hsplit:List.range ops.size=List.range i ++ i :: (List.range' (i+1) (ops.size-i-1)):=by
     rw [List.range_eq_range',List.range_eq_range',show ops.size=i+(1+(ops.size-i-1)) by omega,← List.range'_append_1,Nat.zero_add]
     congr 1
     rw [show i+(1+(ops.size-i-1))-i-1=ops.size-i-1 by omega,Nat.add_comm 1,List.range'_succ]
    rw [hsplit,List.countP_append,List.countP_append,List.countP_cons,List.countP_cons];have hmono:∀ (L:List Nat),L.countP (fun j=>listed.getD j true)≤L.countP (fun j=>(listed.setIfInBounds i true).getD j true):=by
     intro L;refine List.countP_mono_left (fun j _ hj=>?_);rw [q0I hli]
     split
     ·rfl
     ·exact hj
    have h1:=hmono (List.range i);have h2:=hmono (List.range' (i+1) (ops.size-i-1));simp only [hnl',q0I hli,if_true,if_false,Bool.false_eq_true] at h1 h2 ⊢;omega
   omega
  have hnext:∀ v w'',R w' w''→(∀ d,ops[i].dst=some d→(look l d).1 v w'')→wpAny P .any ops Q fuel (listed.setIfInBounds i true) (a.put ops[i].dst v) w'':=by
   intro v w'' hr hv;have hli:i < listed.size:=by rw [I.size]; exact hlt
   refine ih _ _ (put e' ops[i].dst v) w'' hcount ⟨by simpa using I.size,I.rel.put _ v (by unfold q3d at hdo; cases hx:ops[i].dst <;> simp_all),hR.trans I.world hr,?_,?_,?_⟩
   ·intro j p d hp hl hpd;rw [q0I hli] at hl
    by_cases hij:i=j
    ·subst hij;have:p=ops[i]:=Option.some.inj (hp.symm.trans hio);subst this;rw [hpd];simp only [put,upd,if_true];exact hv d hpd
    ·rw [if_neg hij] at hl;have h0:=I.done j p d hp hl hpd;have hne:ops[i].dst≠some d:=fun hx=>hok.one i j ops[i] p d hio hp hij hx hpd;have:put e' ops[i].dst v d=e' d:=by
      cases hx:ops[i].dst with
      | none=>rfl
      | some d' =>
       have:d≠d':=fun h=>hne (by rw [hx,h]);simp [put,upd,this]
     rw [this];exact (look l d).2 _ _ _ hr h0
   ·intro t ht;have h0:=ht i ops[i] hio (by rw [q0I hli]; simp);have:put e' ops[i].dst v t=e' t:=by
     cases hx:ops[i].dst with
     | none=>rfl
     | some d' =>
      have:t≠d':=fun h=>h0 (by rw [hx,h]);simp [put,upd,this]
    rw [this];exact I.old t fun j p hp hl=>ht j p hp (by
     rw [q0I hli]; split
     ·rfl
     ·exact hl)
   ·intro j p x hp hl hx hb;rw [q0I hli] at hl ⊢
    by_cases hij:i=j
    ·subst hij;have:p=ops[i]:=Option.some.inj (hp.symm.trans hio);subst this
     split
     ·rfl
     ·exact haf' x hx hb
    ·rw [if_neg hij] at hl
     split
     ·rfl
     ·exact I.closed j p x hp hl hx hb
  unfold wpOp;simp only [hio];rw [q2e I.rel hd];unfold WG at hstep
  split
  ·rename_i hw;rw [if_pos hw] at hstep;exact .inl (q2O I.rel hstep fun v w'' ⟨h1,h2⟩=>hnext v w'' h1 h2)
  ·rename_i hw;rw [if_neg hw] at hstep;exact hnext _ _ hstep.1 hstep.2
theorem qet {ops:Array Oper} {l:List (Nat × q1A R)} {e:Env} {w:World} {Q:Exit→Act→World→Prop} (hR:Pre R) (hok:DOk ops) (hd:ops.toList.all (q3d n)=true)
  {m:Nat} {last:Oper} (hm:ops[m]?=some last) (hsz:ops.size=m+1) (hlast:∀ j,j < m→q0v last j=true)
  (steps:∀ i o,ops[i]?=some o→i≠m→q35 P ops R l e w o) {K:Env→World→Prop}
  (hL:∀ e' w',R w w'→(∀ i o t,ops[i]?=some o→i≠m→o.dst=some t→(look l t).1 (e' t) w')→(∀ t,(∀ i o,ops[i]?=some o→i≠m→o.dst≠some t)→e' t=e t)→WG P ops last e' w' fun v w''=>K (put e' last.dst v) w'')
  (hQ:∀ a e' w',Rel n a e'→(∀ t,q24 ops t=false→e' t=e t)→K e' w'→Q .normal a w') :
  ∀ (fuel:Nat) (listed:Array Bool) (a:Act) (e':Env) (w':World),listed.getD m true=false→ops.size≤fuel+(List.range ops.size).countP (fun i=>listed.getD i true)→DInv ops n R l e w listed a e' w'→wpAny P .any ops Q fuel listed a w':=by
 have hmin:∀ (listed:Array Bool),listed.size=ops.size→Region.ready .any ops listed=[]→∀ i,i < ops.size→listed.getD i true=true:=by
  intro listed hsize hnil i
  induction i using Nat.strongRecOn with
  | _ i ih =>
   intro hi;cases hb:listed.getD i true with
   | true=>rfl
   | false =>
    have:i ∈ Region.ready .any ops listed:=by
     unfold Region.ready;rw [List.mem_filter];refine ⟨List.mem_range.2 hi,?_⟩;simp only [hb,Bool.not_false,Bool.true_and,Array.getElem?_eq_getElem hi,Option.map_some,Option.getD_some];rw [Array.all_eq_true'];intro x hx;cases hbx:Region.binds .any x with
     | false=>rfl
     | true =>
      have hlt:=hok.down i ops[i] x (Array.getElem?_eq_getElem hi) hx hbx;have:=ih x.on hlt Oq;have hlt2:x.on < listed.size:=by omega
      simp only [Array.getD_eq_getD_getElem?,Array.getElem?_eq_getElem hlt2,Option.getD_some] at this ⊢;simp [this]
    rw [hnil] at this; cases this
 have hend:∀ (listed:Array Bool) (a:Act) (e':Env) (w':World),listed.getD m true=false→DInv ops n R l e w listed a e' w'→Region.ready .any ops listed=[]→Q .normal a w':=by
  intro listed a e' w' hml I hnil;have:=hmin listed I.size hnil m Oq;rw [hml] at this; cases this
 have hdone:∀ (fuel:Nat) (listed:Array Bool) (a:Act) (w':World),(∀ i,i < ops.size→listed.getD i true=true)→Q .normal a w'→wpAny P .any ops Q fuel listed a w':=by
  intro fuel listed a w' hall hq;have hnil:Region.ready .any ops listed=[]:=by
   unfold Region.ready;rw [List.filter_eq_nil_iff];intro i hi;simp [hall i (List.mem_range.1 hi)]
  cases fuel with
  | zero=>exact ⟨hnil,hq⟩
  | succ f=>exact ⟨fun _=>hq,fun i hi=>by rw [hnil] at hi; cases hi⟩
 intro fuel
 induction fuel with
 | zero =>
  intro listed a e' w' hml hf I;have hle:(List.range ops.size).countP (fun i=>listed.getD i true)=(List.range ops.size).length:=by
   have:=List.countP_le_length (p:=fun i=>listed.getD i true) (l:=List.range ops.size);simp only [List.length_range] at this ⊢; omega
  rw [List.countP_eq_length] at hle;have:=hle m (List.mem_range.2 Oq);rw [hml] at this; cases this
 | succ fuel ih =>
  intro listed a e' w' hml hf I;refine ⟨hend _ _ _ _ hml I,fun i hi=>?_⟩;unfold Region.ready at hi;rw [List.mem_filter] at hi;obtain ⟨hir,hrd⟩:=hi;have hlt:=List.mem_range.1 hir;have hio:ops[i]?=some ops[i]:=Array.getElem?_eq_getElem hlt;simp only [hio,Option.map_some,Option.getD_some,Bool.and_eq_true] at hrd;obtain ⟨hnl,haf⟩:=hrd;have hnl':listed.getD i true=false:=by simpa using hnl
  rw [Array.all_eq_true'] at haf;have haf':∀ x ∈ ops[i].after,Region.binds .any x=true→listed.getD x.on false=true:=fun x hx hb=>by
   have:=haf x hx;simpa [hb] using this
  have hmem:ops[i] ∈ ops.toList:=by simp
  have hdo:q3d n ops[i]=true:=by rw [List.all_eq_true] at hd; exact hd _ hmem
  by_cases him:i=m
  ·subst him;have hlo:ops[i]=last:=Option.some.inj (hio.symm.trans hm);have hli:i < listed.size:=by rw [I.size]; exact hlt
   have hall:∀ j,j < ops.size→j≠i→listed.getD j true=true:=fun j hj hji=>by
    obtain ⟨x,hx,hb,hxo⟩:=q0a.1 (hlast j Oq);have:=haf' x (by rw [hlo]; exact hx) hb;rw [hxo] at this;have hjl:j < listed.size:=by rw [I.size]; exact hj
    simp only [Array.getD_eq_getD_getElem?,Array.getElem?_eq_getElem hjl,Option.getD_some] at this ⊢;exact this
   have hstep:=hL e' w' I.world (fun j o t ho hji hot=>I.done j o t ho (hall j (Array.getElem?_eq_some_iff.1 ho).1 hji) hot) (fun t ht=>I.old t fun j o ho hl=>by
    by_cases hji:j=i
    ·subst hji; rw [hnl'] at hl; cases hl
    ·exact ht j o ho hji)
   have hfin:∀ v w'',K (put e' last.dst v) w''→wpAny P .any ops Q fuel (listed.setIfInBounds i true) (a.put ops[i].dst v) w'':=fun v w'' hk=>by
    refine hdone _ _ _ _ (fun j hj=>?_) (hQ _ (put e' last.dst v) w'' (by rw [hlo]; exact I.rel.put _ v (by unfold q3d at hdo; rw [hlo] at hdo; cases hx:last.dst <;> simp_all)) (fun t ht=>?_) hk)
    ·rw [q0I hli]
     split
     ·rfl
     ·rename_i hne; exact hall j hj (fun h=>hne h.symm)
    ·have h0:=q1h ht i last hm;have:put e' last.dst v t=e' t:=by
      cases hx:last.dst with
      | none=>rfl
      | some d' =>
       have:t≠d':=fun h=>h0 (by rw [hx,h]);simp [put,upd,this]
     rw [this];exact I.old t fun j o ho _=>q1h ht j o ho
   unfold wpOp;simp only [hio];rw [q2e I.rel hd,hlo];unfold WG at hstep
   split
   ·rename_i hw;rw [if_pos hw] at hstep;exact .inl (q2O I.rel hstep fun v w'' hk=>by rw [← hlo]; exact hfin v w'' hk)
   ·rename_i hw;rw [if_neg hw] at hstep;have:=hfin _ _ hstep
    rwa [hlo] at this
  have hstep:=steps i _ hio him e' w' I.world (fun t ht=>by
   obtain ⟨j,p,hp,he,hpd⟩:=q3M.1 ht;obtain ⟨x,hx,hb,rfl⟩:=q0a.1 he;have hl:=haf' x hx hb;have hxl:x.on < listed.size:=by rw [I.size]; exact (Array.getElem?_eq_some_iff.1 hp).1
   exact I.done x.on p t hp (by simp only [Array.getD_eq_getD_getElem?,Array.getElem?_eq_getElem hxl,Option.getD_some] at hl ⊢; exact hl) hpd) (fun t ht hnd=>by
   refine I.old t fun j p hp hl hpd=>?_
   by_cases hij:i=j
   ·subst hij; rw [hnl'] at hl; cases hl
   ·rcases hok.seen i j ops[i] p t hio hp hij hpd ht with h | h
    ·have:dep ops ops[i] t=true:=q3M.2 ⟨j,p,hp,h,hpd⟩;rw [hnd] at this; cases this
    ·obtain ⟨x,hx,hb,hxo⟩:=q0a.1 h;have:=I.closed j p x hp hl hx hb;rw [hxo] at this;have hxl:i < listed.size:=by rw [I.size]; exact hlt
     simp only [Array.getD_eq_getD_getElem?,Array.getElem?_eq_getElem hxl,Option.getD_some] at this hnl';rw [this] at hnl'; cases hnl')
  have hcount:ops.size≤fuel+(List.range ops.size).countP (fun j=>(listed.setIfInBounds i true).getD j true):=by
   have hli:i < listed.size:=by rw [I.size]; exact hlt
   have:(List.range ops.size).countP (fun j=>listed.getD j true)+1≤(List.range ops.size).countP (fun j=>(listed.setIfInBounds i true).getD j true):=by
    have hsplit:List.range ops.size=List.range i ++ i :: (List.range' (i+1) (ops.size-i-1)):=by
     rw [List.range_eq_range',List.range_eq_range',show ops.size=i+(1+(ops.size-i-1)) by omega,← List.range'_append_1,Nat.zero_add]
     congr 1
     rw [show i+(1+(ops.size-i-1))-i-1=ops.size-i-1 by omega,Nat.add_comm 1,List.range'_succ]
    rw [hsplit,List.countP_append,List.countP_append,List.countP_cons,List.countP_cons];have hmono:∀ (L:List Nat),L.countP (fun j=>listed.getD j true)≤L.countP (fun j=>(listed.setIfInBounds i true).getD j true):=by
     intro L;refine List.countP_mono_left (fun j _ hj=>?_);rw [q0I hli]
     split
     ·rfl
     ·exact hj
    have h1:=hmono (List.range i);have h2:=hmono (List.range' (i+1) (ops.size-i-1));simp only [hnl',q0I hli,if_true,if_false,Bool.false_eq_true] at h1 h2 ⊢;omega
   omega
  have hnext:∀ v w'',R w' w''→(∀ d,ops[i].dst=some d→(look l d).1 v w'')→wpAny P .any ops Q fuel (listed.setIfInBounds i true) (a.put ops[i].dst v) w'':=by
   intro v w'' hr hv;have hli:i < listed.size:=by rw [I.size]; exact hlt
   refine ih _ _ (put e' ops[i].dst v) w'' (by rw [q0I hli,if_neg him]; exact hml) hcount ⟨by simpa using I.size,I.rel.put _ v (by unfold q3d at hdo; cases hx:ops[i].dst <;> simp_all),hR.trans I.world hr,?_,?_,?_⟩
   ·intro j p d hp hl hpd;rw [q0I hli] at hl
    by_cases hij:i=j
    ·subst hij;have:p=ops[i]:=Option.some.inj (hp.symm.trans hio);subst this;rw [hpd];simp only [put,upd,if_true];exact hv d hpd
    ·rw [if_neg hij] at hl;have h0:=I.done j p d hp hl hpd;have hne:ops[i].dst≠some d:=fun hx=>hok.one i j ops[i] p d hio hp hij hx hpd;have:put e' ops[i].dst v d=e' d:=by
      cases hx:ops[i].dst with
      | none=>rfl
      | some d' =>
       have:d≠d':=fun h=>hne (by rw [hx,h]);simp [put,upd,this]
     rw [this];exact (look l d).2 _ _ _ hr h0
   ·intro t ht;have h0:=ht i ops[i] hio (by rw [q0I hli]; simp);have:put e' ops[i].dst v t=e' t:=by
     cases hx:ops[i].dst with
     | none=>rfl
     | some d' =>
      have:t≠d':=fun h=>h0 (by rw [hx,h]);simp [put,upd,this]
    rw [this];exact I.old t fun j p hp hl=>ht j p hp (by
     rw [q0I hli]; split
     ·rfl
     ·exact hl)
   ·intro j p x hp hl hx hb;rw [q0I hli] at hl ⊢
    by_cases hij:i=j
    ·subst hij;have:p=ops[i]:=Option.some.inj (hp.symm.trans hio);subst this
     split
     ·rfl
     ·exact haf' x hx hb
    ·rw [if_neg hij] at hl
     split
     ·rfl
     ·exact I.closed j p x hp hl hx hb
  unfold wpOp;simp only [hio];rw [q2e I.rel hd];unfold WG at hstep
  split
  ·rename_i hw;rw [if_pos hw] at hstep;exact .inl (q2O I.rel hstep fun v w'' ⟨h1,h2⟩=>hnext v w'' h1 h2)
  ·rename_i hw;rw [if_neg hw] at hstep;exact hnext _ _ hstep.1 hstep.2
theorem qtZ {id:Nat} {ops:Array Oper} {Q:Exit→Env→World→Prop} {e:Env} {w:World} (hm:P.follows .mixedOrders=true) (hR:Pre R) (l:List (Nat × q1A R)) (hok:q2H ops=true)
  (steps:q2N P ops R l e w ops.toList)
  (hQ:∀ e' w',R w w'→(∀ t,q24 ops t=true→(look l t).1 (e' t) w')→(∀ t,q24 ops t=false→e' t=e t)→Q .normal e' w') :
  W P n (.region id ops true) Q e w:=by
 intro hd a hr;have hd':ops.toList.all (q3d n)=true:=hd;have hst:∀ o ∈ ops.toList,q35 P ops R l e { w with drawn:=w.drawn+1 } o:=fun o ho e' w' hw h1 h2=>steps.get o ho e' w' (hR.trans (hR.drew w _) hw) h1 h2;refine wp_region_any hm (qiN (n:=n) (e:=e) hR (DOk.of hok) hd' hst ?_ ops.size _ a e _ Oq ⟨by simp,hr,hR.refl _,?_,fun _ _=>rfl,?_⟩)
 ·intro a' e' w' r' h1 h2 h3;exact ⟨e',r',h3,hQ e' w' (hR.trans (hR.drew w _) h1) h2 h3⟩
 ·intro i o d ho hl;have hlt:=(Array.getElem?_eq_some_iff.1 ho).1;simp [Array.getD_eq_getD_getElem?,hlt] at hl
 ·intro i o x ho hl;have hlt:=(Array.getElem?_eq_some_iff.1 ho).1;simp [Array.getD_eq_getD_getElem?,hlt] at hl
theorem qo5 {id:Nat} {ops:Array Oper} {Q:Exit→Env→World→Prop} {e:Env} {w:World} (hm:P.follows .mixedOrders=true) (hR:Pre R) (l:List (Nat × q1A R)) (init:List Oper) (last:Oper) (hops:ops.toList=init ++ [last])
  (hok:(q2H ops && (List.range init.length).all fun j=>q0v last j)=true)
  (steps:q2N P ops R l e w init)
  (hL:∀ e' w',R w w'→(∀ t,init.any (wrO t)=true→(look l t).1 (e' t) w')→(∀ t,init.any (wrO t)=false→e' t=e t)→WG P ops last e' w' fun v w''=>Q .normal (put e' last.dst v) w'') :
  W P n (.region id ops true) Q e w:=by
 intro hd a hr;have hd':ops.toList.all (q3d n)=true:=hd;rw [Bool.and_eq_true] at hok;have hsz:ops.size=init.length+1:=by rw [← Array.length_toList,hops]; simp
 have hm':ops[init.length]?=some last:=by rw [← Array.getElem?_toList,hops]; simp
 have hin:∀ i o,ops[i]?=some o→i≠init.length→o ∈ init:=fun i o ho hi=>by
  rw [← Array.getElem?_toList,hops] at ho;have hlt:i < init.length:=by
   have:=(List.getElem?_eq_some_iff.1 ho).1;simp at this; omega
  rw [List.getElem?_append_left hlt] at ho;exact List.mem_of_getElem? ho
 have hin2:∀ o ∈ init,∃ i,ops[i]?=some o∧i≠init.length:=fun o ho=>by
  obtain ⟨i,hi,rfl⟩:=List.getElem_of_mem ho;refine ⟨i,?_,by omega⟩;rw [← Array.getElem?_toList,hops,List.getElem?_append_left hi,List.getElem?_eq_getElem hi]
 have hst:∀ i o,ops[i]?=some o→i≠init.length→q35 P ops R l e { w with drawn:=w.drawn+1 } o:=fun i o ho hi e' w' hw h1 h2=>steps.get o (hin i o ho hi) e' w' (hR.trans (hR.drew w _) hw) h1 h2;refine wp_region_any hm (qet (n:=n) (e:=e) (K:=Q .normal) hR (DOk.of hok.1) hd' hm' hsz (fun j hj=>?_) hst ?_ ?_ ops.size _ a e _ ?_ Oq ⟨by simp,hr,hR.refl _,?_,fun _ _=>rfl,?_⟩)
 ·have:=hok.2; rw [List.all_eq_true] at this; exact this j (List.mem_range.2 hj)
 ·intro e' w' h1 h2 h3;refine hL e' w' (hR.trans (hR.drew w _) h1) (fun t ht=>?_) (fun t ht=>h3 t fun i o ho hi hot=>?_)
  ·rw [List.any_eq_true] at ht;obtain ⟨o,ho,hw⟩:=ht;obtain ⟨i,hi,hne⟩:=hin2 o ho;exact h2 i o t hi hne (q36.1 hw)
  ·have:init.any (wrO t)=true:=by rw [List.any_eq_true]; exact ⟨o,hin i o ho hi,q36.2 hot⟩
   rw [ht] at this; cases this
 ·intro a' e' w' r' h2 h3;exact ⟨e',r',h2,h3⟩
 ·simp [Array.getD_eq_getD_getElem?,hsz]
 ·intro i o d ho hl;have hlt:=(Array.getElem?_eq_some_iff.1 ho).1;simp [Array.getD_eq_getD_getElem?,hlt] at hl
 ·intro i o x ho hl;have hlt:=(Array.getElem?_eq_some_iff.1 ho).1;simp [Array.getD_eq_getD_getElem?,hlt] at hl
def q3t:List Oper→Oper
 | []=>default
 | [o]=>o
 | _ :: o :: os=>q3t (o :: os)
theorem qeA {o:Oper}:q3t [o]=o:=rfl
theorem q6U {o p:Oper} {os:List Oper}:q3t (o :: p :: os)=q3t (p :: os):=rfl
theorem qaX:∀ {l:List Oper},l≠[]→l=l.dropLast ++ [q3t l]
 | [],h=>absurd rfl h
 | [o],_=>rfl
 | o :: p :: os,_=>by
  have:=qaX (l:=p :: os) (by simp);rw [q6U,List.dropLast_cons_of_ne_nil (by simp),List.cons_append,← this]
theorem qfg {id:Nat} {ops:List Oper} {Q:Exit→Env→World→Prop} {e:Env} {w:World} (hm:P.follows .mixedOrders=true) (hR:Pre R) (l:List (Nat × q1A R))
  (hok:(!ops.isEmpty && q2H ops.toArray && (List.range ops.dropLast.length).all fun j=>q0v (q3t ops) j)=true)
  (steps:q2N P ops.toArray R l e w ops.dropLast)
  (hL:∀ e' w',R w w'→(∀ t,ops.dropLast.any (wrO t)=true→(look l t).1 (e' t) w')→(∀ t,ops.dropLast.any (wrO t)=false→e' t=e t)→WG P ops.toArray (q3t ops) e' w' fun v w''=>Q .normal (put e' (q3t ops).dst v) w'') :
  W P n (.region id ops.toArray true) Q e w:=by
 simp only [Bool.and_eq_true] at hok;have h:=qaX (l:=ops) (by intro h; rw [h] at hok; simp at hok);exact qo5 hm hR l ops.dropLast (q3t ops) (by simpa using h) (by rw [Bool.and_eq_true]; exact ⟨hok.1.2,hok.2⟩) steps hL
theorem qo4 {id:Nat} {ops:List Oper} {Q:Exit→Env→World→Prop} {e:Env} {w:World} (hm:P.follows .mixedOrders=true) (hR:Pre R) (l:List (Nat × q1A R)) (hok:q2H ops.toArray=true)
  (steps:q2N P ops.toArray R l e w ops)
  (hQ:∀ e' w',R w w'→(∀ t,q24 ops.toArray t=true→(look l t).1 (e' t) w')→(∀ t,q24 ops.toArray t=false→e' t=e t)→Q .normal e' w') :
  W P n (.region id ops.toArray true) Q e w:=qtZ hm hR l hok (by simpa using steps) hQ
end
def q2k {α:Type} (o:Option α) (K:α→Prop):Prop:=match o with | some a=>K a | none=>False
theorem q3I {α:Type} (a:α) (K:α→Prop):q2k (some a) K=K a:=rfl
def q1I (op:BinOp) (k:IntKind) (a b:Int):Int :=
 match op with
 | .and=>k.wrap (BitVec.ofInt k.bits a &&& BitVec.ofInt k.bits b).toNat
 | .or=>k.wrap (BitVec.ofInt k.bits a ||| BitVec.ofInt k.bits b).toNat
 | .xor=>k.wrap (BitVec.ofInt k.bits a ^^^ BitVec.ofInt k.bits b).toNat
 | _=>k.wrap (BitVec.ofInt k.bits a &&& ~~~(BitVec.ofInt k.bits b)).toNat
def q3P (op:BinOp) (k:IntKind) (a b:Int):Option Value :=
 match op with
 | .add=>some (.int k (k.wrap (a+b)))
 | .sub=>some (.int k (k.wrap (a-b)))
 | .mul=>some (.int k (k.wrap (a*b)))
 | .quo=>if b=0 then none else some (.int k (k.wrap (a.tdiv b)))
 | .rem=>if b=0 then none else some (.int k (a.tmod b))
 | .and=>some (.int k (q1I .and k a b))
 | .or=>some (.int k (q1I .or k a b))
 | .xor=>some (.int k (q1I .xor k a b))
 | .andNot=>some (.int k (q1I .andNot k a b))
 | .eql=>some (.bool (a == b))
 | .neq=>some (.bool (a != b))
 | .lss=>some (.bool (decide (a < b)))
 | .leq=>some (.bool (decide (a≤b)))
 | .gtr=>some (.bool (decide (a > b)))
 | .geq=>some (.bool (decide (a ≥ b)))
 | _=>none
def q7T (op:BinOp) (k k':IntKind) (a b:Int):Option Value :=
 match op with
 | .shl=>if b < 0 then none else some (.int k (k.wrap (a*2 ^ (min b.toNat k.bits))))
 | .shr=>if b < 0 then none else some (.int k (a.fdiv (2 ^ (min b.toNat k.bits))))
 | op=>if k=k' then q3P op k a b else none
def q0y (P:Program) (op:BinOp) (t:TypeId):Value→Value→Option Value
 | .int k a,.int k' b=>q7T op k k' a b
 | .bool a,.bool b=>match op,P.underlying t with
  | .eql,some .bool=>some (.bool (a == b))
  | .neq,some .bool=>some (.bool (a != b))
  | _,_=>none
 | .slice a _ _,.slice none _ _=>match op,P.underlying t with
  | .eql,some (.slice _)=>some (.bool a.isNone)
  | .neq,some (.slice _)=>some (.bool a.isSome)
  | _,_=>none
 | _,_=>none
def unV (op:UnOp):Value→Option Value
 | .bool b=>match op with | .not=>some (.bool !b) | _=>none
 | .int k n=>match op with | .neg=>some (.int k (k.wrap (0-n))) | _=>none
 | _=>none
def qbn (s d:Option TypeDesc):Value→Option Value
 | .int _ n=>match s,d with | some _,some (.int k)=>some (.int k (k.wrap n)) | _,_=>none
 | _=>none
def q0d (P:Program) (t:TypeId):Option (Option Nat) :=
 match P.underlying t,P.info? t with
 | some (.struct _),some i=>some (some i.size)
 | some (.array _ _),some i=>some (some i.size)
 | some _,some _=>some none
 | _,_=>none
def q0l (P:Program) (t:TypeId) (f:Nat):Option Nat :=
 match P.underlying t with
 | some (.struct fs)=>match fs[f]? with
  | some d=>match P.info? d.type with | some i=>if i.size=0 then none else some d.offset | none=>none
  | none=>none
 | _=>none
def q0p (P:Program) (t:TypeId):Option Nat :=
 match P.underlying t with
 | some (.slice e)=>(P.info? e).map (·.size)
 | _=>none
def q08 (P:Program) (t:TypeId):Option (TypeId × Nat × Nat × Array Value) :=
 match P.underlying t with
 | some (.slice e)=>(P.info? e).bind fun i=>i.zero.map fun z=>(e,i.size,i.bytes,z.cells)
 | _=>none
def q2E (P:Program) (t:TypeId):Option (Array Value):=match P.info? t with | some i=>i.zero.map (·.cells) | none=>none
def q04 (P:Program) (t:TypeId):Option Nat:=(P.info? t).map (·.size)
def q0z (w:World) (p:Addr):Nat→Nat→Option (List Value)
 | _,0=>some []
 | i,k+1=>match w.cell? (p.add i),q0z w p (i+1) k with | some v,some l=>some (v :: l) | _,_=>none
def ldV (w:World) (k:Option (Option Nat)):Value→Option Value
 | .pointer (some p)=>match k with
  | some none=>w.cell? p
  | some (some k)=>(q0z w p 0 k).map fun l=>.agg l.toArray
  | none=>none
 | _=>none
def stN (w:World) (p:Addr):Nat→List Value→World
 | _,[]=>w
 | i,v :: vs=>stN (w.setCell (p.add i) v) p (i+1) vs
def stOk (w:World) (p:Addr):Nat→List Value→Prop
 | _,[]=>True
 | i,v :: vs=>(w.cell? (p.add i)).isSome=true∧w.frozen? (p.add i)=false∧v.oneCell'=true∧stOk w p (i+1) vs
def qbt (P:Program) (t:TypeId):Option (Nat × Nat) :=
 match P.underlying t with
 | some (.array n e)=>(P.info? e).map fun i=>(n,i.size)
 | _=>none
def qhU (sz:Option Nat) (ar:Option (Nat × Nat)):Value→Value→Option Value
 | .slice (some a) n _,.int _ i=>match sz with | some s=>if 0≤i∧i < n then some (.pointer (some (a.add (i.toNat*s)))) else none | none=>none
 | .pointer (some a),.int _ i=>match ar with | some (n,s)=>if 0≤i∧i < n then some (.pointer (some (a.add (i.toNat*s)))) else none | none=>none
 | _,_=>none
def q33 (y:Nat):Option Value→Nat→Option Nat
 | none,d=>some d
 | some (.int _ i),_=>if 0≤i∧i≤y then some i.toNat else none
 | some _,_=>none
def q2Q (sz:Option Nat) (lo hi:Option Value):Value→Option Value
 | .slice a n c=>match sz,q33 c hi n with
  | some s,some h=>match q33 h lo 0 with
   | some l=>some (.slice (if c=l then a else a.map (·.add (l*s))) (h-l) (c-l))
   | none=>none
  | _,_=>none
 | _=>none
def qqz (sz:Option Nat):Value→Option Value
 | .slice _ n _=>match sz with | some _=>some (.int .i64 n) | none=>none
 | _=>none
def qju (i:Nat):Value→Option Value
 | .tuple vs=>vs[i]?
 | _=>none
def bsV (P:Program) (t:TypeId) (len:Nat) (parts:List (Nat × Value)):Option (TypeId × Array Value) :=
 match q08 P t with
 | some (e,s,_,z)=>if len*s=0 then (if parts.isEmpty then some (e,#[]) else none) else if len*s > 16777216 then none else (Instr.fill (fun i=>some (i*s,s)) ((Array.range (len*s)).map (z[· % z.size]!)) parts).map fun cs=>(e,cs)
 | none=>none
def mmV (isMax:Bool):List Value→Option Value
 | [.int k a,.int k' b]=>if k=k' then some (.int k (if isMax then max a b else min a b)) else none
 | _=>none
def q0C (P : Program) (f : FuncId) : Bool := match P.funcs[f]? with | some fn => fn.body.isSome && !(fn.name == "runtime.NumGoroutine") | none => false
def wo (P:Program) (o:Oper) (e:Env) (w:World) (K:Value→World→Prop):Prop :=
 match o.op with
 | .move x=>K (ev e x) w
 | .assign x=>K (ev e x) w
 | .pick c a b=>match ev e c with | .bool true=>K (ev e a) w | .bool false=>K (ev e b) w | _=>False
 | .alloc t=>q2k (q2E P t) fun z=>K (.pointer (some ⟨w.heap.size,0,none⟩)) (w.alloc (.cells z t))
 | .box t x=>K (.pointer (some ⟨w.heap.size,0,none⟩)) (w.alloc (.cells (ev e x).cells t))
 | .build t ps=>q2k (P.built t (ps.map fun (i,x)=>(i,ev e x)).toList) fun cs=>K (.agg cs) w
 | .buildSlice t len ps=>q2k (bsV P t len (ps.map fun (i,x)=>(i,ev e x)).toList) fun (el,cs)=>K (.slice (some ⟨w.heap.size,0,none⟩) len len) (w.alloc (.cells cs el))
 | .load t a=>q2k (ldV w (q0d P t) (ev e a)) fun v=>K v w
 | .store t a x=>match ev e a with
  | .pointer (some p)=>q04 P t=some (ev e x).cells.size∧stOk w p 0 (ev e x).cells.toList∧K undef (stN w p 0 (ev e x).cells.toList)
  | _=>False
 | .binOp op t x y _=>q2k (q0y P op t (ev e x) (ev e y)) fun v=>K v w
 | .unOp op _ x=>q2k (unV op (ev e x)) fun v=>K v w
 | .convert s d x=>q2k (qbn (P.underlying s) (P.underlying d) (ev e x)) fun v=>K v w
 | .fieldAddr t x f=>match ev e x with
  | .pointer (some p)=>q2k (q0l P t f) fun off=>K (.pointer (some (p.add off))) w
  | _=>False
 | .indexAddr t x i=>q2k (qhU (q0p P t) (qbt P t) (ev e x) (ev e i)) fun v=>K v w
 | .slice t x lo hi none=>q2k (q2Q (q0p P t) (lo.map (ev e)) (hi.map (ev e)) (ev e x)) fun v=>K v w
 | .makeSlice t l c=>match ev e l,ev e c with
  | .int _ l,.int _ c=>q2k (q08 P t) fun (el,s,b,z)=>(0≤l∧l≤c∧(b:Int)*c≤281474976710656∧c≤9223372036854775807)∧K (.slice (some ⟨w.heap.size,0,none⟩) l.toNat c.toNat) (w.alloc (.cells (madeCells z (c.toNat*s)) el))
  | _,_=>False
 | .nilCheck x=>match ev e x with
  | .pointer (some p)=>K (.pointer (some p)) w
  | _=>False
 | .extract x i=>q2k (qju i (ev e x)) fun v=>K v w
 | .call c=>match c.callee with
  | .builtin .len=>match c.args.toList,c.argTypes.toList with
   | [x],[t]=>q2k (qqz (q0p P t) (ev e x)) fun v=>K v w
   | _,_=>False
  | .builtin .max=>q2k (mmV true (c.args.toList.map (ev e))) fun v=>K v w
  | .builtin .min=>q2k (mmV false (c.args.toList.map (ev e))) fun v=>K v w
  | .value (.func f)=>q0C P f=true∧Calls P f (c.args.map (ev e)) w fun x w'=>match x with | .returned v=>K v w' | _=>False
  | _=>WO P o e w K
 | _=>WO P o e w K
section
variable {P:Program} {o:Oper} {e:Env} {w:World} {K:Value→World→Prop}
theorem q0W {α:Type} {o:Option α} {K:α→Prop} (h:q2k o K):∃ a,o=some a∧K a:=by
 cases o with
 | none=>exact h.elim
 | some a=>exact ⟨a,rfl,h⟩
theorem q53 (w:World) (p:Addr):∀ (k i:Nat) (l:List Value) (acc:Array Value),q0z w p i k=some l→(loadCellsFrom p i k acc).run P w=.ok (acc ++ l.toArray) w
 | 0,i,l,acc,h=>by simp [q0z] at h; subst h; simp [loadCellsFrom]
 | k+1,i,l,acc,h=>by
  simp only [q0z] at h;cases hc:w.cell? (p.add i) with
  | none=>simp [hc] at h
  | some v =>
   cases hr:q0z w p (i+1) k with
   | none=>simp [hc,hr] at h
   | some l' =>
    simp [hc,hr] at h;subst h;have:=q53 w p k (i+1) l' (acc.push v) hr;simp only [loadCellsFrom,Sem.run_bind,run_load,hc,Result.andThen,this];simp
theorem qdD (P:Program) (p:Addr):∀ (vs:List Value) (i:Nat) (w:World),stOk w p i vs→(storeCells p vs i).run P w=.ok () (stN w p i vs)
 | [],i,w,_=>by simp [storeCells,stN]
 | v :: vs,i,w,⟨h1,h2,h3,h4⟩=>by
  have hkeep:∀ (vs:List Value) (j:Nat),i < j→stOk w p j vs→stOk (w.setCell (p.add i) v) p j vs:=by
   intro vs
   induction vs with
   | nil=>intro _ _ _; exact trivial
   | cons u vs ih =>
    rintro j hj ⟨a1,a2,a3,a4⟩;have hne:p.add i≠p.add j:=fun he=>by
     unfold Addr.add at he
     split at he <;> split at he <;> first | omega | (have:=congrArg Addr.off he; simp at this; omega)
    refine ⟨?_,by rw [World.frozen?_setCell]; exact a2,a3,ih (j+1) Oq a4⟩;rw [World.cell?_setCell_other _ _ _ _ hne];exact a1
  have ih:=qdD P p vs (i+1) (w.setCell (p.add i) v) (hkeep vs (i+1) Oq h4);obtain ⟨u,hu⟩:=Option.isSome_iff_exists.1 h1;have hst:(store (p.add i) v).run P w=.ok () (w.setCell (p.add i) v):=by
   rw [run_store P w _ v _ h3];simp [hu,h2]
  simp only [storeCells,Sem.run_bind,hst,Result.andThen_ok,ih,stN]
theorem q6M {t:TypeId} {a b:Bool} (w:World) (hu:P.underlying t=some .bool):(Op.equal t (.bool a) (.bool b)).run P w=.ok (a == b) w:=by
 have h:∀ d:Nat,(Op.equalIn (d+1) t (.bool a) (.bool b)).run P w=.ok (a == b) w:=fun d=>by
  simp [Op.equalIn,run_underlying hu]
 exact h 9999
theorem q7o {t el:TypeId} {a:Option Addr} {n c n' c':Nat} (w:World) (hu:P.underlying t=some (.slice el)):(Op.equal t (.slice a n c) (.slice none n' c')).run P w=.ok a.isNone w:=by
 have h:∀ d:Nat,(Op.equalIn (d+1) t (.slice a n c) (.slice none n' c')).run P w=.ok a.isNone w:=fun d=>by
  cases a <;> simp [Op.equalIn,run_underlying hu]
 exact h 9999
theorem qgf {op : BinOp} {t : TypeId} {x y : Operand} {vx vy v : Value} (w : World) (hv : q0y P op t vx vy = some v) :
    (do eqGuard op t x y vx vy; binOp op t vx vy : Sem Value).run P w = .ok v w := by
  unfold q0y at hv
  split at hv
  · rename_i k a k' b
    unfold q7T at hv
    have hg : (eqGuard op t x y (.int k a) (.int k' b)).run P w = .ok () w := by
      unfold eqGuard; cases op <;> simp
    rw [Sem.run_bind, hg, Result.andThen_ok]
    split at hv
    · split at hv
      · cases hv
      · rename_i hb; obtain rfl := Option.some.inj hv; simp [binOp, Op.shift, hb]
    · split at hv
      · cases hv
      · rename_i hb; obtain rfl := Option.some.inj hv; simp [binOp, Op.shift, hb]
    · rename_i hs1 hs2
      split at hv
      · rename_i hk
        subst hk
        cases op <;> simp only [q3P] at hv <;> first
          | exact absurd rfl hs1
          | exact absurd rfl hs2
          | (split at hv
             · cases hv
             · rename_i hb; obtain rfl := Option.some.inj hv; simp [binOp, Op.intDiv, hb])
          | (obtain rfl := Option.some.inj hv; simp [binOp, Op.intArith, Op.intBits, Op.intCmp, q1I])
          | cases hv
      · cases hv
  · rename_i a b
    split at hv
    · rename_i hu
      obtain rfl := Option.some.inj hv
      have hg : (eqGuard .eql t x y (.bool a) (.bool b)).run P w = .ok () w := by unfold eqGuard; simp
      rw [Sem.run_bind, hg, Result.andThen_ok]
      have hb : binOp .eql t (.bool a) (.bool b) = (do pure (.bool (← Op.equal t (.bool a) (.bool b))) : Sem Value) := rfl
      rw [hb, Sem.run_bind, q6M w hu]
      rfl
    · rename_i hu
      obtain rfl := Option.some.inj hv
      have hg : (eqGuard .neq t x y (.bool a) (.bool b)).run P w = .ok () w := by unfold eqGuard; simp
      rw [Sem.run_bind, hg, Result.andThen_ok]
      have hb : binOp .neq t (.bool a) (.bool b) = (do pure (.bool (!(← Op.equal t (.bool a) (.bool b)))) : Sem Value) := rfl
      rw [hb, Sem.run_bind, q6M w hu]
      rfl
    · cases hv
  · rename_i a n c n' c'
    split at hv
    · rename_i hu
      obtain rfl := Option.some.inj hv
      have hg : (eqGuard .eql t x y (.slice a n c) (.slice none n' c')).run P w = .ok () w := by unfold eqGuard; simp
      rw [Sem.run_bind, hg, Result.andThen_ok]
      have hb : binOp .eql t (.slice a n c) (.slice none n' c') = (do pure (.bool (← Op.equal t (.slice a n c) (.slice none n' c'))) : Sem Value) := rfl
      rw [hb, Sem.run_bind, q7o w hu]
      rfl
    · rename_i hu
      obtain rfl := Option.some.inj hv
      have hg : (eqGuard .neq t x y (.slice a n c) (.slice none n' c')).run P w = .ok () w := by unfold eqGuard; simp
      rw [Sem.run_bind, hg, Result.andThen_ok]
      have hb : binOp .neq t (.slice a n c) (.slice none n' c') = (do pure (.bool (!(← Op.equal t (.slice a n c) (.slice none n' c')))) : Sem Value) := rfl
      rw [hb, Sem.run_bind, q7o w hu]
      cases a <;> rfl
    · cases hv
  · cases hv
theorem q2F {y d h:Nat} (hv:q33 y none d=some h):d=h:=Option.some.inj hv
theorem q14 {w:World} {y d h:Nat} {v:Value} (code:BoundsCode) (hv:q33 y (some v) d=some h):(Instr.sliceBound v y code).run P w=.ok h w:=by
 cases v <;> simp only [q33] at hv <;> try (cases hv; done)
 split at hv
 ·rename_i hb;obtain rfl:=Option.some.inj hv;exact run_sliceBound w _ _ _ _ hb.1 hb.2
 ·cases hv
theorem qbX {t:TypeId} {lo hi:Option Value} {x v:Value} (w:World) (hv:q2Q (q0p P t) lo hi x=some v) :
  ∃ el,P.underlying t=some (.slice el)∧∃ i,P.info? el=some i∧(Instr.sliceAt t x lo hi none).run P w=.ok v w:=by
 unfold q2Q at hv
 split at hv
 ·rename_i a n c
  split at hv
  ·rename_i s h hs hh
   split at hv
   ·rename_i l hl;obtain rfl:=Option.some.inj hv;unfold q0p at hs
    split at hs
    ·rename_i el hu;obtain ⟨i,hi',hsz⟩:=Option.map_eq_some_iff.1 hs;refine ⟨el,hu,i,hi',?_⟩;have hsize:(sizeOf el).run P w=.ok s w:=by simp [sizeOf,typeInfo,hi',hsz]
     have hb:(Instr.sliceBounds true n c lo hi none).run P w=.ok (l,h,c) w:=by
      unfold Instr.sliceBounds;cases hi with
      | none =>
       obtain rfl:=q2F hh;cases lo with
       | none=>obtain rfl:=q2F hl; simp
       | some lv=>simp [q14 (P:=P) (w:=w) .sliceB hl]
      | some hv' =>
       cases lo with
       | none=>obtain rfl:=q2F hl; simp [q14 (P:=P) (w:=w) .sliceAcap hh]
       | some lv=>simp [q14 (P:=P) (w:=w) .sliceAcap hh,q14 (P:=P) (w:=w) .sliceB hl]
     simp [Instr.sliceAt,Instr.slice,run_underlying hu,hb,hsize]
    ·cases hs
   ·cases hv
  ·cases hv
 ·cases hv
theorem qbY {t:TypeId} {f off:Nat} (w:World) (p:Addr) (h:q0l P t f=some off):(Instr.fieldAt t (.pointer (some p)) f).run P w=.ok (.pointer (some (p.add off))) w:=by
 unfold q0l at h
 split at h
 ·rename_i fs hu
  split at h
  ·rename_i d hd
   split at h
   ·rename_i i hi
    split at h
    ·cases h
    ·rename_i hn;obtain rfl:=Option.some.inj h;simp [Instr.fieldAt,run_underlying hu,hd,Instr.sureAddr,fieldPlace,sizeOf,typeInfo,hi,hn]
   ·cases h
  ·cases h
 ·cases h
theorem qge {t:TypeId} {x i v:Value} (w:World) (h:qhU (q0p P t) (qbt P t) x i=some v):(Instr.indexAt t x i).run P w=.ok v w:=by
 unfold qhU at h
 split at h
 ·split at h
  ·rename_i s hs
   split at h
   ·rename_i hb;obtain rfl:=Option.some.inj h;unfold q0p at hs
    split at hs
    ·rename_i el hu;obtain ⟨i,hi,hsz⟩:=Option.map_eq_some_iff.1 hs;simp [Instr.indexAt,asIntOf,run_underlying hu,hb,sizeOf,typeInfo,hi,hsz]
    ·cases hs
   ·cases h
  ·cases h
 ·split at h
  ·rename_i n s hs
   split at h
   ·rename_i hb;obtain rfl:=Option.some.inj h;unfold qbt at hs
    split at hs
    ·rename_i n' el hu;obtain ⟨i,hi,hsz⟩:=Option.map_eq_some_iff.1 hs;cases hsz;simp [Instr.indexAt,Instr.sureAddr,asIntOf,run_underlying hu,hb,sizeOf,typeInfo,hi]
    ·cases hs
   ·cases h
  ·cases h
 ·cases h
theorem q62 (h:wo P o e w K):WO P o e w K:=by
 unfold wo at h;unfold WO;obtain ⟨dst,op,ty,pos,af,g⟩:=o;cases op <;> try exact h
 case pick c a b =>
  simp only [] at h;simp only [execOp,Sem.run_bind]
  split at h
  ·rename_i hc; rw [hc]; exact h
  ·rename_i hc; rw [hc]; exact h
  ·exact h.elim
 case alloc t =>
  obtain ⟨z,hz,h⟩:=q0W h;unfold q2E at hz;cases hi:P.info? t with
  | none=>rw [hi] at hz; cases hz
  | some i =>
   rw [hi] at hz;cases hzz:i.zero with
   | none=>simp [hzz] at hz
   | some v =>
    simp [hzz] at hz;subst hz;simp [execOp,Instr.alloc,zeroValue,typeInfo,hi,hzz,newVar,newRow,RO];exact h
 case build t ps =>
  obtain ⟨z,hz,h⟩:=q0W h;have:=run_build (P:=P) w t (ps.map fun (i,x)=>(i,ev e x)) z hz;simp only [execOp,Sem.run_bind,this];exact h
 case buildSlice t len ps =>
  obtain ⟨z,hz,h⟩:=q0W h;unfold bsV q08 at hz;cases hu:P.underlying t with
  | none=>simp [hu] at hz
  | some d =>
   cases d with
   | slice el =>
    cases hi:P.info? el with
    | none=>simp [hu,hi] at hz
    | some i =>
     cases hzz:i.zero with
     | none=>simp [hu,hi,hzz] at hz
     | some v =>
      simp only [hu,hi,hzz,Option.bind_some,Option.map_some] at hz;have e1:(sizeOf el).run P w=.ok i.size w:=by simp [sizeOf,typeInfo,hi]
      have e2:(zeroValue el).run P w=.ok v w:=by simp [zeroValue,typeInfo,hi,hzz]
      have hrun:(Instr.buildSlice t len (ps.map fun (i,x)=>(i,ev e x))).run P w=.ok (.slice (some ⟨w.heap.size,0,none⟩) len len) (w.alloc (.cells z.2 z.1)):=by
       unfold Instr.buildSlice;rw [Sem.run_bind,run_underlying hu,Result.andThen_ok];simp only [];rw [Sem.run_bind,e1,Result.andThen_ok]
       split at hz
       ·rename_i h0
        split at hz
        ·rename_i hp;obtain rfl:=Option.some.inj hz;have hp':(ps.map fun (i,x)=>(i,ev e x)).toList=[]:=by simpa using hp
         have h2':¬ len*i.size > 2 ^ 24:=by omega
         rw [if_neg h2',if_pos h0];simp only [pure_bind];have hr0:Array.range 0=#[]:=rfl;rw [hp',h0,hr0];simp [Instr.fill,newRow]
        ·cases hz
       ·rename_i h1
        split at hz
        ·cases hz
        ·rename_i h2;have h2':¬ len*i.size > 2 ^ 24:=by simpa using h2
         obtain ⟨cs,hcs,rfl⟩:=Option.map_eq_some_iff.1 hz;rw [if_neg h2',if_neg h1];simp only [pure_bind,Sem.run_bind,e2,Result.andThen_ok];rw [hcs];simp [newRow]
      simp only [execOp,Sem.run_bind,hrun];exact h
   | _=>simp [hu] at hz
 case load t a =>
  obtain ⟨v,hv,h⟩:=q0W h;have key:(Instr.loadAt t (ev e a)).run P w=.ok v w:=by
   generalize ev e a=va at *;unfold ldV at hv
   split at hv
   ·rename_i p
    split at hv
    ·rename_i hk;unfold q0d at hk;have hagg:(isAgg t).run P w=.ok false w:=by
      unfold isAgg;cases hu:P.underlying t with
      | none=>simp [hu] at hk
      | some d =>
       rw [Sem.run_bind,run_underlying hu w];cases hi:P.info? t <;> cases d <;> simp_all
     simp [Instr.loadAt,Instr.sureAddr,loadVar,hagg,hv]
    ·rename_i k hk;unfold q0d at hk;obtain ⟨l,hl,rfl⟩:=Option.map_eq_some_iff.1 hv;have hagg:(isAgg t).run P w=.ok true w∧(sizeOf t).run P w=.ok k w:=by
      unfold isAgg sizeOf typeInfo;cases hu:P.underlying t with
      | none=>simp [hu] at hk
      | some d =>
       rw [Sem.run_bind,run_underlying hu w];cases hi:P.info? t <;> cases d <;> simp_all
     have hrun:=q53 (P:=P) w p k 0 l #[] hl;simp [Instr.loadAt,Instr.sureAddr,loadVar,hagg.1,hagg.2,loadCells,hrun]
    ·cases hv
   ·cases hv
  simp only [execOp,Sem.run_bind,key];exact h
 case store t a x =>
  simp only [] at h
  split at h
  ·rename_i p hp;obtain ⟨h1,h2,h3⟩:=h;unfold q04 at h1;obtain ⟨i,hi,hs⟩:=Option.map_eq_some_iff.1 h1;have hrun:=qdD P p (ev e x).cells.toList 0 w h2;simp [execOp,Instr.storeAt,Instr.sureAddr,storeVar,sizeOf,typeInfo,hi,hs,hp,hrun,RO];exact h3
  ·exact h.elim
 case nilCheck x =>
  simp only [] at h
  split at h
  ·rename_i p hp; simp [execOp,hp,RO]; exact h
  ·exact h.elim
 case binOp op t x y t' =>
  obtain ⟨v,hv,h⟩:=q0W h;have key:=qgf (P:=P) (x:=x) (y:=y) w hv;simp only [execOp];rw [Sem.run_bind,key];exact h
 case unOp op t x =>
  obtain ⟨v,hv,h⟩:=q0W h;unfold unV at hv
  split at hv
  ·rename_i hx
   split at hv
   ·obtain rfl:=Option.some.inj hv;simp [execOp,hx,Op.unary,RO]; exact h
   ·cases hv
  ·rename_i hx
   split at hv
   ·obtain rfl:=Option.some.inj hv;simp only [execOp,hx,Op.unary,Op.intArith,Sem.run_bind]; exact h
   ·cases hv
  ·cases hv
 case convert s d x =>
  obtain ⟨v,hv,h⟩:=q0W h;unfold qbn at hv
  split at hv
  ·rename_i k0 n0 hx
   split at hv
   ·rename_i sd k hs hd;obtain rfl:=Option.some.inj hv;have key:(convert s d (ev e x)).run P w=.ok (.int k (k.wrap n0)) w:=by
     rw [hx]; simp [convert,run_underlying hs,run_underlying hd,Conv.intToInt]
    simp only [execOp,Sem.run_bind,key];exact h
   ·cases hv
  ·cases hv
 case makeSlice t l c =>
  simp only [] at h
  split at h
  ·rename_i kl l' kc c' hl hc;obtain ⟨⟨el,s,b,z⟩,hz,⟨h0,h1,h2,h3⟩,h⟩:=q0W h;unfold q08 at hz;cases hu:P.underlying t with
   | none=>simp [hu] at hz
   | some d =>
    cases d with
    | slice el' =>
     cases hi:P.info? el' with
     | none=>simp [hu,hi] at hz
     | some i =>
      cases hzz:i.zero with
      | none=>simp [hu,hi,hzz] at hz
      | some v =>
       simp [hu,hi,hzz] at hz;obtain ⟨rfl,rfl,rfl,rfl⟩:=hz;have:=run_make (P:=P) w t el' i v hu hi hzz kl kc l' c' h0 h1 h2 h3;simp only [execOp,hl,hc,Sem.run_bind,this];exact h
    | _=>simp [hu] at hz
  ·exact h.elim
 case slice t x lo hi mx =>
  cases mx with
  | some _=>exact h
  | none =>
   obtain ⟨v,hv,h⟩:=q0W h;obtain ⟨el,hu,i,hi',hrun⟩:=qbX (P:=P) w hv;simp only [execOp,Sem.run_bind,Option.map_none,hrun];exact h
 case fieldAddr t x f =>
  simp only [] at h
  split at h
  ·rename_i p hp;obtain ⟨off,ho,h⟩:=q0W h;have key:=qbY (P:=P) w p ho;simp only [execOp,Sem.run_bind,hp,key];exact h
  ·exact h.elim
 case indexAddr t x i =>
  obtain ⟨v,hv,h⟩:=q0W h;have key:=qge (P:=P) w hv;simp only [execOp,Sem.run_bind,key];exact h
 case extract x i =>
  obtain ⟨v,hv,h⟩:=q0W h;unfold qju at hv
  split at hv
  ·rename_i hx; simp [execOp,hx,Instr.extract,hv,RO]; exact h
  ·cases hv
 case call c =>
  simp only [] at h;obtain ⟨callee,args,tys⟩:=c;simp only [] at h
  split at h
  ·split at h
   ·rename_i x t ha ht;obtain ⟨v,hv,h⟩:=q0W h;obtain ⟨args⟩:=args;obtain ⟨tys⟩:=tys;simp only at ha ht;subst ha; subst ht;have key:(Builtin.len_ #[t] ty #[ev e x]).run P w=.ok v w:=by
     unfold qqz at hv
     split at hv
     ·rename_i hx
      split at hv
      ·rename_i hs;obtain rfl:=Option.some.inj hv;unfold q0p at hs
       split at hs
       ·rename_i el hu;simp [Builtin.len_,hx,run_underlying hu,goInt]
       ·cases hs
      ·cases hv
     ·cases hv
    simp [execOp,resolve,invoke,builtin,key,RO];exact h
   ·exact h.elim
  ·obtain ⟨v,hv,h⟩:=q0W h;have key:(Builtin.max_ tys ty (args.map (ev e))).run P w=.ok v w:=by
    unfold mmV at hv;unfold Builtin.max_;rw [Array.toList_map]
    split at hv
    ·rename_i k a k' b hl
     split at hv
     ·rename_i hk;obtain rfl:=Option.some.inj hv;simp [hl,Builtin.max2]
      split <;> omega
     ·cases hv
    ·cases hv
   simp [execOp,resolve,invoke,builtin,key,RO];exact h
  ·obtain ⟨v,hv,h⟩:=q0W h;have key:(Builtin.min_ tys ty (args.map (ev e))).run P w=.ok v w:=by
    unfold mmV at hv;unfold Builtin.min_;rw [Array.toList_map]
    split at hv
    ·rename_i k a k' b hl
     split at hv
     ·rename_i hk;obtain rfl:=Option.some.inj hv;simp [hl,Builtin.min2]
      split <;> omega
     ·cases hv
    ·cases hv
   simp [execOp,resolve,invoke,builtin,key,RO];exact h
  ·rename_i f;obtain ⟨hf,h⟩:=h;have key:(callFunc f (args.map (ev e))).run P w=.ok (.enter f (args.map (ev e))) w:=by
    unfold q0C at hf;cases hfn:P.funcs[f]? with
    | none=>simp [hfn] at hf
    | some fn =>
     simp only [hfn,Bool.and_eq_true] at hf;obtain ⟨h1,h2⟩:=hf;obtain ⟨b,hb⟩:=Option.isSome_iff_exists.1 h1;simp only [Bool.not_eq_true',beq_eq_false_iff_ne,ne_eq] at h2;simp [callFunc,hfn,hb,h2]
   have key2:(execOp (ev e) ⟨dst,.call ⟨.value (.func f),args,tys⟩,ty,pos,af,g⟩).run P w=.ok (.enter f (args.map (ev e))) w:=by
    simp only [execOp,resolve,Deferred.ofValue,ev,pure_bind,invoke];simp [key]
   rw [key2];exact h
  ·exact h
end
def wg (P:Program) (ops:Array Oper) (o:Oper) (e:Env) (w:World) (K:Value→World→Prop):Prop :=
 if q64 ops e o then wo P o e w K else K undef w
def WLo (P:Program) (ops:Array Oper) (K:Env→World→Prop):List Oper→Env→World→Prop
 | [],e,w=>K e w
 | o :: rest,e,w=>wg P ops o e w fun v w'=>WLo P ops K rest (put e o.dst v) w'
section
variable {P:Program} {n:Nat} {ops:Array Oper} {Q:Exit→Env→World→Prop} {K:Env→World→Prop} {e:Env} {w:World}
theorem q0w {o:Oper} {K:Value→World→Prop} (h:wg P ops o e w K):WG P ops o e w K:=by
 unfold wg at h; unfold WG
 split
 ·rename_i hw; rw [if_pos hw] at h; exact q62 h
 ·rename_i hw; rw [if_neg hw] at h; exact h
theorem q83:∀ (l:List Oper) (e:Env) (w:World),WLo P ops K l e w→WL P ops K l e w
 | [],_,_,h=>h
 | _ :: rest,_,_,h=>q5t (fun _ _ h=>q83 rest _ _ h) (q0w h)
theorem qbx {id:Nat} {l:List Oper} (h:WLo P l.toArray (Q .normal) l e w):W P n (.region id l.toArray false) Q e w:=q7X (q83 _ _ _ (by simpa using h))
theorem q0P {id:Nat} {l:List Oper} (h:∀ K:Env→World→Prop,(∀ e w,Q .normal e w→K e w)→WLo P l.toArray K l e w):W P n (.region id l.toArray false) Q e w:=qbx (h _ fun _ _ h=>h)
theorem q0A {id:Nat} {l:List Oper} {b:Code} (h:∀ K:Env→World→Prop,(∀ e w,W P n b Q e w→K e w)→WLo P l.toArray K l e w):W P n (.seq (.region id l.toArray false) b) Q e w :=
 qff (qbx (h _ fun _ _ h=>h))
theorem Wz {id:Nat} {l:List Oper} {b:Code} {e1:Env} {w1:World}  (k:W P n b Q e1 w1) (ee:∀ K:Env→World→Prop,WLo P l.toArray K l e w=K e1 w1:=by intro K; simp -implicitDefEqProofs (disch:=omega) only [go_sem,Nat.reduceEqDiff,Nat.reduceAdd,↓reduceIte]; exact rfl):W P n (.seq (.region id l.toArray false) b) Q e w:=q0A fun K hK=>(ee K).mpr (hK _ _ k)
theorem Wz1 {id:Nat} {l:List Oper} {b:Code} {e1:Env} {w1:World} {F1:Prop} (f1:F1) (k:W P n b Q e1 w1) (ee:F1→∀ K:Env→World→Prop,WLo P l.toArray K l e w=K e1 w1:=by intro g1 K; simp -implicitDefEqProofs (disch:=omega) only [go_sem,Nat.reduceEqDiff,Nat.reduceAdd,↓reduceIte,g1]; exact rfl):W P n (.seq (.region id l.toArray false) b) Q e w:=q0A fun K hK=>(ee f1 K).mpr (hK _ _ k)
theorem Wz2 {id:Nat} {l:List Oper} {b:Code} {e1:Env} {w1:World} {F1 F2:Prop} (f1:F1) (f2:F2) (k:W P n b Q e1 w1) (ee:F1→F2→∀ K:Env→World→Prop,WLo P l.toArray K l e w=K e1 w1:=by intro g1 g2 K; simp -implicitDefEqProofs (disch:=omega) only [go_sem,Nat.reduceEqDiff,Nat.reduceAdd,↓reduceIte,g1,g2]; exact rfl):W P n (.seq (.region id l.toArray false) b) Q e w:=q0A fun K hK=>(ee f1 f2 K).mpr (hK _ _ k)
theorem Wz3 {id:Nat} {l:List Oper} {b:Code} {e1:Env} {w1:World} {F1 F2 F3:Prop} (f1:F1) (f2:F2) (f3:F3) (k:W P n b Q e1 w1) (ee:F1→F2→F3→∀ K:Env→World→Prop,WLo P l.toArray K l e w=K e1 w1:=by intro g1 g2 g3 K; simp -implicitDefEqProofs (disch:=omega) only [go_sem,Nat.reduceEqDiff,Nat.reduceAdd,↓reduceIte,g1,g2,g3]; exact rfl):W P n (.seq (.region id l.toArray false) b) Q e w:=q0A fun K hK=>(ee f1 f2 f3 K).mpr (hK _ _ k)
theorem Wz4 {id:Nat} {l:List Oper} {b:Code} {e1:Env} {w1:World} {F1 F2 F3 F4:Prop} (f1:F1) (f2:F2) (f3:F3) (f4:F4) (k:W P n b Q e1 w1) (ee:F1→F2→F3→F4→∀ K:Env→World→Prop,WLo P l.toArray K l e w=K e1 w1:=by intro g1 g2 g3 g4 K; simp -implicitDefEqProofs (disch:=omega) only [go_sem,Nat.reduceEqDiff,Nat.reduceAdd,↓reduceIte,g1,g2,g3,g4]; exact rfl):W P n (.seq (.region id l.toArray false) b) Q e w:=q0A fun K hK=>(ee f1 f2 f3 f4 K).mpr (hK _ _ k)
theorem Wz5 {id:Nat} {l:List Oper} {b:Code} {e1:Env} {w1:World} {F1 F2 F3 F4 F5:Prop} (f1:F1) (f2:F2) (f3:F3) (f4:F4) (f5:F5) (k:W P n b Q e1 w1) (ee:F1→F2→F3→F4→F5→∀ K:Env→World→Prop,WLo P l.toArray K l e w=K e1 w1:=by intro g1 g2 g3 g4 g5 K; simp -implicitDefEqProofs (disch:=omega) only [go_sem,Nat.reduceEqDiff,Nat.reduceAdd,↓reduceIte,g1,g2,g3,g4,g5]; exact rfl):W P n (.seq (.region id l.toArray false) b) Q e w:=q0A fun K hK=>(ee f1 f2 f3 f4 f5 K).mpr (hK _ _ k)
theorem Wz6 {id:Nat} {l:List Oper} {b:Code} {e1:Env} {w1:World} {F1 F2 F3 F4 F5 F6:Prop} (f1:F1) (f2:F2) (f3:F3) (f4:F4) (f5:F5) (f6:F6) (k:W P n b Q e1 w1) (ee:F1→F2→F3→F4→F5→F6→∀ K:Env→World→Prop,WLo P l.toArray K l e w=K e1 w1:=by intro g1 g2 g3 g4 g5 g6 K; simp -implicitDefEqProofs (disch:=omega) only [go_sem,Nat.reduceEqDiff,Nat.reduceAdd,↓reduceIte,g1,g2,g3,g4,g5,g6]; exact rfl):W P n (.seq (.region id l.toArray false) b) Q e w:=q0A fun K hK=>(ee f1 f2 f3 f4 f5 f6 K).mpr (hK _ _ k)
theorem q0O {id:Nat} {a b:Code} (h:∀ K:Env→World→Prop,(∀ e w,W P n b Q e w→K e w)→W P n a (inB id (q7f K Q)) e w):W P n (.seq (.block id a) b) Q e w :=
 qff (q0Y (h _ fun _ _ h=>h))
theorem qbU {R:World→World→Prop} {l:List (Nat × q1A R)} {o:Oper}
  (h:∀ e' w',R w w'→(∀ t,dep ops o t=true→(look l t).1 (e' t) w')→(∀ t,q1c ops o t=true→dep ops o t=false→e' t=e t)→wg P ops o e' w' fun v w''=>R w' w''∧∀ d,o.dst=some d→(look l d).1 v w''):q35 P ops R l e w o :=
 fun e' w' h1 h2 h3=>q0w (h e' w' h1 h2 h3)
end
theorem q1f {P:Program} {ops:Array Oper} {R:World→World→Prop} {l:List (Nat × q1A R)} {e:Env} {w:World} {o:Oper} {rest:List Oper}
  (h:∀ e' w',R w w'→(∀ t,dep ops o t=true→(look l t).1 (e' t) w')→(∀ t,q1c ops o t=true→dep ops o t=false→e' t=e t)→wg P ops o e' w' fun v w''=>R w' w''∧∀ d,o.dst=some d→(look l d).1 v w'')
  (h2:q2N P ops R l e w rest):q2N P ops R l e w (o :: rest):=⟨qbU h,h2⟩
theorem qck {P:Program} {ops:Array Oper} {R:World→World→Prop} {l:List (Nat × q1A R)} {e:Env} {w:World}:q2N P ops R l e w []:=trivial
def qqP (e:Env):ResultVar→Sem Value
 | .tmp t=>pure (e t)
 | .cell a t=>do loadVar t (← asAddr (e a))
def qdK (fn:Func) (e:Env):Sem Value:=do
 let vs ← fn.results.mapM (qqP e)
 pure (if h:vs.size=1 then vs[0] else .tuple vs)
def q89 (P:Program) (fn:Func) (R:Ending→World→Prop) (x:Exit) (e:Env) (w:World):Prop :=
 match x with
 | .normal | .ret=>∃ v,(qdK fn e).run P w=.ok v w∧R (.returned v) w
 | _=>False
section
variable {P:Program} {n:Nat}
theorem q6P {fn:Func} {a:Act} {e:Env} (hr:Rel n a e):results fn a.tmps=qdK fn e:=by
 have:(fun i=>a.tmps.getD i undef)=e:=funext hr.get;unfold results qdK
 congr 1
 congr 1
 subst this
 funext r
 cases r <;> rfl
theorem q0H {f:FuncId} {fn:Func} {c:Code} {args:Array Value} {w:World} {R:Ending→World→Prop}
  (hf:P.funcs[f]?=some fn) (hb:fn.body=some c) (hn:fn.ntmps=n) (hd:(decide (args.size≤n) && q8b n c)=true)
  (h:W P n c (q89 P fn R) (q4o args.toList) w):Calls P f args w R:=by
 rw [Bool.and_eq_true,decide_eq_true_eq] at hd;refine calls_of_wp hf hb (wp_mono (h hd.2 ⟨args ++ Array.replicate (fn.ntmps-args.size) undef,[]⟩ ⟨rfl,by simp; omega,fun i=>?_⟩) ?_)
 ·simp only [q4o,Array.getD_eq_getD_getElem?,List.getD_eq_getElem?_getD,Array.getElem?_append,Array.getElem?_replicate]
  by_cases hi:i < args.size
  ·simp [hi]
  ·simp only [hi,if_false,Array.getElem?_toList,Array.getElem?_eq_none (Nat.le_of_not_lt hi),Option.getD_none]
   split <;> rfl
 ·rintro x a' w' ⟨e',hr,_,hq⟩;cases x <;> simp only [q89] at hq <;> try exact hq.elim
  ·obtain ⟨v,hv,hR⟩:=hq;exact ⟨hr.defs,v,by rw [q6P hr]; exact hv,hR⟩
  ·obtain ⟨v,hv,hR⟩:=hq;exact ⟨hr.defs,v,by rw [q6P hr]; exact hv,hR⟩
theorem q0k {fn:Func} {R:Ending→World→Prop} {e:Env} {w:World} {t:Nat} (h:fn.results=#[.tmp t]) (hR:R (.returned (e t)) w):q89 P fn R .ret e w :=
 ⟨e t,by simp [qdK,h,qqP],hR⟩
theorem q8s {fn:Func} {R:Ending→World→Prop} {e:Env} {w:World} {t u:Nat} (h:fn.results=#[.tmp t,.tmp u]) (hR:R (.returned (.tuple #[e t,e u])) w):q89 P fn R .ret e w :=
 ⟨.tuple #[e t,e u],by simp [qdK,h,qqP],hR⟩
theorem ret0 {fn:Func} {R:Ending→World→Prop} {e:Env} {w:World} (h:fn.results=#[]) (hR:R (.returned (.tuple #[])) w):q89 P fn R .ret e w :=
 ⟨.tuple #[],by simp [qdK,h],hR⟩
theorem ret0n {fn:Func} {R:Ending→World→Prop} {e:Env} {w:World} (h:fn.results=#[]) (hR:R (.returned (.tuple #[])) w):q89 P fn R .normal e w :=
 ⟨.tuple #[],by simp [qdK,h],hR⟩
def q6k (P:Program) (w:World) (e:Env):ResultVar→Option Value
 | .tmp t=>some (e t)
 | .cell a t=>match e a with
  | .pointer (some p)=>match q0d P t with
   | some (some k)=>(q0z w p 0 k).map fun l=>.agg l.toArray
   | some none=>w.cell? p
   | none=>none
  | _=>none
theorem q1l {w:World} {e:Env} {r:ResultVar} {v:Value} (h:q6k P w e r=some v) :
  (qqP e r).run P w=.ok v w:=by
 cases r with
 | tmp t=>simp only [q6k] at h; obtain rfl:=Option.some.inj h; rfl
 | cell a t =>
  simp only [q6k] at h
  split at h
  ·rename_i p hp;have:ldV w (q0d P t) (.pointer (some p))=some v:=by
    unfold ldV; simp only []
    split at h <;> simp_all
   have h2 : WO P ⟨none, .load t (.const (.pointer (some p))), 0, "", #[], none⟩ e w (fun v' w' => v' = v ∧ w' = w) := q62 (by simp only [wo, ev, this, q3I]; exact ⟨trivial, trivial⟩);unfold WO at h2;simp only [execOp,ev,Sem.run_bind] at h2;simp only [qqP,Sem.run_bind,hp,asAddr,Sem.run_pure,Result.andThen_ok];simp only [Instr.loadAt,Instr.sureAddr,Sem.run_bind,Sem.run_pure,Result.andThen_ok] at h2;cases hr:(loadVar t p).run P w with
   | ok x w'=>rw [hr] at h2; simp only [Result.andThen_ok,RO] at h2; rw [h2.1,h2.2]
   | halt=>rw [hr] at h2; simp only [Result.andThen_halt,RO] at h2
  ·cases h
theorem q2u {fn:Func} {R:Ending→World→Prop} {e:Env} {w:World} {r:ResultVar} {v:Value} (h:fn.results=#[r]) (h0:q6k P w e r=some v) (hR:R (.returned v) w):q89 P fn R .ret e w:=by
 have:=q1l h0;exact ⟨v,by simp [qdK,h,this],hR⟩
theorem qli {fn:Func} {R:Ending→World→Prop} {e:Env} {w:World} {r s:ResultVar} {v u:Value} (h:fn.results=#[r,s]) (h0:q6k P w e r=some v) (h1:q6k P w e s=some u) (hR:R (.returned (.tuple #[v,u])) w):q89 P fn R .ret e w:=by
 have a0:=q1l h0;have a1:=q1l h1;exact ⟨.tuple #[v,u],by simp [qdK,h,a0,a1],hR⟩
theorem qlh {fn:Func} {R:Ending→World→Prop} {e:Env} {w:World} {r s q:ResultVar} {v u x:Value} (h:fn.results=#[r,s,q]) (h0:q6k P w e r=some v) (h1:q6k P w e s=some u) (h2:q6k P w e q=some x) (hR:R (.returned (.tuple #[v,u,x])) w):q89 P fn R .ret e w:=by
 have a0:=q1l h0;have a1:=q1l h1;have a2:=q1l h2;exact ⟨.tuple #[v,u,x],by simp [qdK,h,a0,a1,a2],hR⟩
end
def qgQ (v:Value) (K:Value→Prop):Prop:=K v
def qb3 (c a b:Value) (K:Value→Prop):Prop:=match c with | .bool true=>K a | .bool false=>K b | _=>False
def q3w (o:Option Bool) (b:Bool) (A B:Prop):Prop:=if o == some b then A else B
def q31 (P:Program) (t:TypeId) (w:World) (a x:Value) (K:World→Prop):Prop:=match a with
  | .pointer (some p)=>q04 P t=some x.cells.size∧stOk w p 0 x.cells.toList∧K (stN w p 0 x.cells.toList)
  | _=>False
def qrQ (off:Option Nat) (x:Value) (K:Value→Prop):Prop:=match x with
  | .pointer (some p)=>q2k off fun off=>K (.pointer (some (p.add off)))
  | _=>False
def mkW (eo:Option (TypeId × Nat × Nat × Array Value)) (l c:Value) (w:World) (K:Value→World→Prop):Prop:=match l,c with
  | .int _ l,.int _ c=>q2k eo fun (el,s,b,z)=>(0≤l∧l≤c∧(b:Int)*c≤281474976710656∧c≤9223372036854775807)∧K (.slice (some ⟨w.heap.size,0,none⟩) l.toNat c.toNat) (w.alloc (.cells (madeCells z (c.toNat*s)) el))
  | _,_=>False
def qow (t:TypeId) (v:Value) (w:World) (K:Value→World→Prop):Prop:=K (.pointer (some ⟨w.heap.size,0,none⟩)) (w.alloc (.cells v.cells t))
def bsW (o:Option (TypeId × Array Value)) (len:Nat) (w:World) (K:Value→World→Prop):Prop:=q2k o fun (el,cs)=>K (.slice (some ⟨w.heap.size,0,none⟩) len len) (w.alloc (.cells cs el))
def alW (o:Option (Array Value)) (t:TypeId) (w:World) (K:Value→World→Prop):Prop:=q2k o fun z=>K (.pointer (some ⟨w.heap.size,0,none⟩)) (w.alloc (.cells z t))
def q7P (P:Program) (f:FuncId) (args:List Value) (w:World) (K:Value→World→Prop):Prop:=q0C P f=true∧Calls P f args.toArray w fun x w'=>match x with | .returned v=>K v w' | _=>False
def qfy (P:Program) (tys:Array TypeId) (ty:TypeId) (args:List Value) (w:World) (K:Value→World→Prop):Prop:=∃ v w',(Builtin.append_ tys ty args.toArray).run P w=.ok v w'∧K v w'
section
variable {P:Program}
@[congr] theorem qon {α:Type} {o o':Option α} {K:α→Prop} (h:o=o'):q2k o K=q2k o' K:=by rw [h]
@[congr] theorem qoj {v v':Value} {K:Value→Prop} (h:v=v'):qgQ v K=qgQ v' K:=by rw [h]
@[congr] theorem qmF {c c' a b:Value} {K:Value→Prop} (h:c=c'):qb3 c a b K=qb3 c' a b K:=by rw [h]
@[congr] theorem qjl {o o':Option Bool} {b:Bool} {A B:Prop} (h:o=o'):q3w o b A B=q3w o' b A B:=by rw [h]
@[congr] theorem qjM {t:TypeId} {w w':World} {a a' x x':Value} {K:World→Prop} (hw:w=w') (h:a=a') (h':x=x'):q31 P t w a x K=q31 P t w' a' x' K:=by rw [h,h',hw]
@[congr] theorem qoq {o o':Option Nat} {x x':Value} {K:Value→Prop} (h:o=o') (h':x=x'):qrQ o x K=qrQ o' x' K:=by rw [h,h']
@[congr] theorem qqo {o o':Option (TypeId × Nat × Nat × Array Value)} {l l' c c':Value} {w:World} {K:Value→World→Prop} (h:o=o') (h1:l=l') (h2:c=c'):mkW o l c w K=mkW o' l' c' w K:=by rw [h,h1,h2]
@[congr] theorem qov {t:TypeId} {v v':Value} {w:World} {K:Value→World→Prop} (h:v=v'):qow t v w K=qow t v' w K:=by rw [h]
@[congr] theorem qs6 {o o':Option (TypeId × Array Value)} {len:Nat} {w:World} {K:Value→World→Prop} (h:o=o'):bsW o len w K=bsW o' len w K:=by rw [h]
@[congr] theorem qtD {o o':Option (Array Value)} {t:TypeId} {w:World} {K:Value→World→Prop} (h:o=o'):alW o t w K=alW o' t w K:=by rw [h]
@[congr] theorem qnd {f:FuncId} {args args':List Value} {w:World} {K:Value→World→Prop} (h:args=args'):q7P P f args w K=q7P P f args' w K:=by rw [h]
@[congr] theorem qox {tys:Array TypeId} {ty:TypeId} {args args':List Value} {w:World} {K:Value→World→Prop} (h:args=args'):qfy P tys ty args w K=qfy P tys ty args' w K:=by rw [h]
@[congr] theorem qt0 {ops:Array Oper} {l:List Oper} {e e':Env} {w:World} {K:Env→World→Prop} (h:e=e'):WLo P ops K l e w=WLo P ops K l e' w:=by rw [h]
@[congr] theorem W_congr {n:Nat} {c:Code} {Q:Exit→Env→World→Prop} {e e':Env} {w:World} (h:e=e'):W P n c Q e w=W P n c Q e' w:=by rw [h]
@[congr] theorem wo_congr {o:Oper} {e e':Env} {w:World} {K:Value→World→Prop} (h:e=e'):wo P o e w K=wo P o e' w K:=by rw [h]
variable {d:Option Nat} {ty t s:TypeId} {pos:String} {af:Array Edge} {g:Option (Nat × Bool)} {e:Env} {w:World} {K:Value→World→Prop}
theorem qpP {v:Value} {K:Value→Prop}:qgQ v K=K v:=rfl
theorem qmD {a b:Value} {K:Value→Prop}:qb3 (.bool true) a b K=qgQ a K:=rfl
theorem qmE {a b:Value} {K:Value→Prop}:qb3 (.bool false) a b K=qgQ b K:=rfl
theorem qeL {A B:Prop}:q3w (some true) true A B=A:=rfl
theorem qeM {A B:Prop}:q3w (some true) false A B=B:=rfl
theorem qeN {A B:Prop}:q3w (some false) true A B=B:=rfl
theorem qeO {A B:Prop}:q3w (some false) false A B=A:=rfl
theorem qhZ {A B:Prop} {b:Bool}:q3w none b A B=B:=rfl
theorem q4x {p:Addr} {x:Value} {K:World→Prop}:q31 P t w (.pointer (some p)) x K=(q04 P t=some x.cells.size∧stOk w p 0 x.cells.toList∧K (stN w p 0 x.cells.toList)):=rfl
theorem qrP {off:Nat} {p:Addr} {K:Value→Prop}:qrQ (some off) (.pointer (some p)) K=qgQ (.pointer (some (p.add off))) K:=rfl
theorem mkW_i {kl kc:IntKind} {l c:Int} {el:TypeId} {s b:Nat} {z:Array Value}:mkW (some (el,s,b,z)) (.int kl l) (.int kc c) w K=((0≤l∧l≤c∧(b:Int)*c≤281474976710656∧c≤9223372036854775807)∧K (.slice (some ⟨w.heap.size,0,none⟩) l.toNat c.toNat) (w.alloc (.cells (madeCells z (c.toNat*s)) el))):=rfl
theorem qaF {i:Nat} {v:Value}:put e (some i) v=upd e i v:=rfl
theorem qlB {x}:wo P ⟨d,.move x,ty,pos,af,g⟩ e w K=qgQ (ev e x) fun v=>K v w:=rfl
theorem qcR {x}:wo P ⟨d,.assign x,ty,pos,af,g⟩ e w K=qgQ (ev e x) fun v=>K v w:=rfl
theorem qlA {c a b}:wo P ⟨d,.pick c a b,ty,pos,af,g⟩ e w K=qb3 (ev e c) (ev e a) (ev e b) fun v=>K v w:=rfl
theorem qgP:wo P ⟨d,.alloc t,ty,pos,af,g⟩ e w K=alW (q2E P t) t w K:=rfl
theorem qpO {x}:wo P ⟨d,.box t x,ty,pos,af,g⟩ e w K=qow t (ev e x) w K:=rfl
theorem qgN {ps}:wo P ⟨d,.build t ps,ty,pos,af,g⟩ e w K=q2k (P.built t (ps.map fun (i,x)=>(i,ev e x)).toList) fun cs=>K (.agg cs) w:=rfl
theorem q3j {len ps}:wo P ⟨d,.buildSlice t len ps,ty,pos,af,g⟩ e w K=bsW (bsV P t len (ps.map fun (i,x)=>(i,ev e x)).toList) len w K:=rfl
theorem qlD {a}:wo P ⟨d,.load t a,ty,pos,af,g⟩ e w K=q2k (ldV w (q0d P t) (ev e a)) fun v=>K v w:=rfl
theorem qgJ {a x}:wo P ⟨d,.store t a x,ty,pos,af,g⟩ e w K=q31 P t w (ev e a) (ev e x) fun w'=>K undef w':=rfl
theorem qgO {op x y t'}:wo P ⟨d,.binOp op t x y t',ty,pos,af,g⟩ e w K=q2k (q0y P op t (ev e x) (ev e y)) fun v=>K v w:=rfl
theorem qkz {op x}:wo P ⟨d,.unOp op t x,ty,pos,af,g⟩ e w K=q2k (unV op (ev e x)) fun v=>K v w:=rfl
theorem qbP {x}:wo P ⟨d,.convert s t x,ty,pos,af,g⟩ e w K=q2k (qbn (P.underlying s) (P.underlying t) (ev e x)) fun v=>K v w:=rfl
theorem q7c {x f}:wo P ⟨d,.fieldAddr t x f,ty,pos,af,g⟩ e w K=qrQ (q0l P t f) (ev e x) fun v=>K v w:=rfl
theorem q7b {x i}:wo P ⟨d,.indexAddr t x i,ty,pos,af,g⟩ e w K=q2k (qhU (q0p P t) (qbt P t) (ev e x) (ev e i)) fun v=>K v w:=rfl
theorem qgK {x lo hi}:wo P ⟨d,.slice t x lo hi none,ty,pos,af,g⟩ e w K=q2k (q2Q (q0p P t) (lo.map (ev e)) (hi.map (ev e)) (ev e x)) fun v=>K v w:=rfl
theorem q7a {l c}:wo P ⟨d,.makeSlice t l c,ty,pos,af,g⟩ e w K=mkW (q08 P t) (ev e l) (ev e c) w K:=rfl
theorem qbO {x i}:wo P ⟨d,.extract x i,ty,pos,af,g⟩ e w K=q2k (qju i (ev e x)) fun v=>K v w:=rfl
theorem q8e {x}:wo P ⟨d,.nilCheck x,ty,pos,af,g⟩ e w K=q2k (match ev e x with | .pointer (some p)=>some (.pointer (some p)) | _=>none) fun v=>K v w:=by
 simp only [wo]
 split <;> rename_i h <;> first | rfl | (simp only [h]; done) | (simp only [h]; rfl)
theorem qpN {x}:wo P ⟨d,.call ⟨.builtin .len,#[x],#[t]⟩,ty,pos,af,g⟩ e w K=q2k (qqz (q0p P t) (ev e x)) fun v=>K v w:=rfl
theorem qpM {xs ts}:wo P ⟨d,.call ⟨.builtin .max,xs,ts⟩,ty,pos,af,g⟩ e w K=q2k (mmV true (xs.toList.map (ev e))) fun v=>K v w:=rfl
theorem qpL {xs ts}:wo P ⟨d,.call ⟨.builtin .min,xs,ts⟩,ty,pos,af,g⟩ e w K=q2k (mmV false (xs.toList.map (ev e))) fun v=>K v w:=rfl
theorem qcQ {f} {xs:List Operand} {ts}:wo P ⟨d,.call ⟨.value (.func f),xs.toArray,ts⟩,ty,pos,af,g⟩ e w K=q7P P f (xs.map (ev e)) w K:=by
 simp only [wo,q7P,List.map_toArray]
 try rfl
theorem q0E {f:FuncId} {args:List Value} {R:Ending→World→Prop} (hc:q0C P f=true) (h:Calls P f args.toArray w R) (hk:∀ x w',R x w'→∃ v,x=.returned v∧K v w'):q7P P f args w K :=
 ⟨hc,h.mono fun x w' hx=>by obtain ⟨v,rfl,h⟩:=hk x w' hx; exact h⟩
theorem q5U {s x:Operand} {tys:Array TypeId}:wo P ⟨d,.call ⟨.builtin .append,#[s,x],tys⟩,ty,pos,af,g⟩ e w K=qfy P tys ty [ev e s,ev e x] w K:=by
 simp only [wo,WO,execOp,resolve,invoke,builtin,Sem.run_bind,Sem.run_pure,Result.andThen_ok,List.map_toArray,List.map_cons,List.map_nil,qfy];cases hr:(Builtin.append_ tys ty #[ev e s,ev e x]).run P w with
 | ok v w' =>
  simp only [Result.andThen_ok,Sem.run_pure,RO];exact propext ⟨fun h=>⟨v,w',rfl,h⟩,fun ⟨v',w'',h,hk⟩=>by injection h with h1 h2; subst h1; subst h2; exact hk⟩
 | halt x w' =>
  simp only [Result.andThen_halt,RO];exact propext ⟨fun h=>h.elim,fun ⟨_,_,h,_⟩=>by cases h⟩
def q6q (P:Program) (T ty:TypeId) (s x:Value) (w:World) (K:Value→Value→World→Prop):Prop :=
 bsW (bsV P T 1 [(0,x)]) 1 w fun v1 w1=>qfy P #[T,T] ty [s,v1] w1 fun v2 w2=>K v1 v2 w2
@[congr] theorem qly {T ty:TypeId} {s s' x x':Value} {w:World} {K:Value→Value→World→Prop} (h:s=s') (h':x=x'):q6q P T ty s x w K=q6q P T ty s' x' w K:=by rw [h,h']
theorem q63 {ops:Array Oper} {op:Op}:wg P ops ⟨d,op,ty,pos,af,none⟩ e w K=wo P ⟨d,op,ty,pos,af,none⟩ e w K:=rfl
theorem qlF {ops:Array Oper} {op:Op} {j:Nat} {b:Bool}:wg P ops ⟨d,op,ty,pos,af,some (j,b)⟩ e w K=q3w (q3i ops e j) b (wo P ⟨d,op,ty,pos,af,some (j,b)⟩ e w K) (K undef w):=rfl
theorem qfj {ops:Array Oper} {K:Env→World→Prop}:WLo P ops K [] e w=K e w:=rfl
theorem q4H {ops:Array Oper} {K:Env→World→Prop} {o:Oper} {rest:List Oper}:WLo P ops K (o :: rest) e w=wg P ops o e w fun v w'=>WLo P ops K rest (put e o.dst v) w':=rfl
theorem qip {ops:Array Oper} {K:Env→World→Prop} {d1 d2 s T ty1 ty2:Nat} {x:Operand} {p1 p2:String} {a1 a2:Array Edge} {rest:List Oper} :
  WLo P ops K (⟨some d1,.buildSlice T 1 #[(0,x)],ty1,p1,a1,none⟩ :: ⟨some d2,.call ⟨.builtin .append,#[.tmp s,.tmp d1],#[T,T]⟩,ty2,p2,a2,none⟩ :: rest) e w =
   if s=d1 then wg P ops ⟨some d1,.buildSlice T 1 #[(0,x)],ty1,p1,a1,none⟩ e w (fun v w'=>WLo P ops K (⟨some d2,.call ⟨.builtin .append,#[.tmp s,.tmp d1],#[T,T]⟩,ty2,p2,a2,none⟩ :: rest) (put e (some d1) v) w')
   else q6q P T ty2 (e s) (ev e x) w fun v1 v2 w'=>WLo P ops K rest (upd (upd e d1 v1) d2 v2) w':=by
 split
 ·rfl
 rename_i hne;have h:∀ v1,ev (upd e d1 v1) (.tmp s)=e s:=fun v1=>by
  simp [ev,upd,hne]
 have h2:∀ v1,ev (upd e d1 v1) (.tmp d1)=v1:=fun v1=>by simp [ev,upd]
 rw [q4H,q63,q3j];unfold q6q;have hp:(Array.map (fun x=>match x with | (i,x)=>(i,ev e x)) #[(0,x)]).toList=[(0,ev e x)]:=by simp
 rw [hp]
 congr 1
 funext v1 w1
 rw [q4H,q63,qaF,q5U,h,h2]
 rfl
theorem qgr {v:Value}:put e none v=e:=rfl
theorem qjv {i:Nat}:ev e (.tmp i)=e i:=rfl
theorem qiF {v:Value}:ev e (.const v)=v:=rfl
theorem q0F {i j:Nat} {v:Value}:upd e i v j=if j=i then v else e j:=rfl
theorem q0n {next:Env→World→Prop} {Q:Exit→Env→World→Prop}:q7f next Q .normal e w=next e w:=rfl
theorem q0D {next:Env→World→Prop} {Q:Exit→Env→World→Prop}:q7f next Q .ret e w=Q .ret e w:=rfl
theorem qm4 {Q:Exit→Env→World→Prop} {i:Nat}:inB i Q .normal e w=Q .normal e w:=rfl
theorem q0N {Q:Exit→Env→World→Prop} {i:Nat}:inB i Q .ret e w=Q .ret e w:=rfl
theorem env_z {v:Value} {l:List Value}:q4o (v :: l) 0=v:=rfl
theorem env_s {v:Value} {l:List Value} {i:Nat}:q4o (v :: l) (i+1)=q4o l i:=rfl
theorem q97 {tys:Array TypeId} {ty':TypeId} {args:List Value} {v:Value} {w':World} (h:(Builtin.append_ tys ty' args.toArray).run P w=.ok v w') (hk:K v w'):qfy P tys ty' args w K:=⟨v,w',h,hk⟩
theorem bsW_s {el:TypeId} {cs:Array Value} {len:Nat}:bsW (some (el,cs)) len w K=K (.slice (some ⟨w.heap.size,0,none⟩) len len) (w.alloc (.cells cs el)):=rfl
theorem alW_s {z:Array Value}:alW (some z) t w K=K (.pointer (some ⟨w.heap.size,0,none⟩)) (w.alloc (.cells z t)):=rfl
theorem qsb {v:Value}:qow t v w K=K (.pointer (some ⟨w.heap.size,0,none⟩)) (w.alloc (.cells v.cells t)):=rfl
theorem qgt {T:TypeId} {s x:Value} {K:Value→Value→World→Prop} (h:bsW (bsV P T 1 [(0,x)]) 1 w fun v1 w1=>qfy P #[T,T] ty [s,v1] w1 fun v2 w2=>K v1 v2 w2):q6q P T ty s x w K:=h
end
attribute [irreducible] q6q bsW qfy q7P mkW qow alW q31 qrQ q3w qb3 qgQ WLo wg
section
variable {P:Program} {t:TypeId} {k k':IntKind} {a b:Int}
theorem qoM:q0y P .add t (.int k a) (.int k b)=some (.int k (k.wrap (a+b))):=by simp [q0y,q7T,q3P]
theorem qoD:q0y P .sub t (.int k a) (.int k b)=some (.int k (k.wrap (a-b))):=by simp [q0y,q7T,q3P]
theorem qoF:q0y P .mul t (.int k a) (.int k b)=some (.int k (k.wrap (a*b))):=by simp [q0y,q7T,q3P]
theorem q94:q0y P .quo t (.int k a) (.int k b)=if b=0 then none else some (.int k (k.wrap (a.tdiv b))):=by simp [q0y,q7T,q3P]
theorem q93:q0y P .rem t (.int k a) (.int k b)=if b=0 then none else some (.int k (a.tmod b)):=by simp [q0y,q7T,q3P]
theorem qoL:q0y P .and t (.int k a) (.int k b)=some (.int k (q1I .and k a b)):=by simp [q0y,q7T,q3P]
theorem qsi:q0y P .or t (.int k a) (.int k b)=some (.int k (q1I .or k a b)):=by simp [q0y,q7T,q3P]
theorem qoC:q0y P .xor t (.int k a) (.int k b)=some (.int k (q1I .xor k a b)):=by simp [q0y,q7T,q3P]
theorem qbs:q0y P .andNot t (.int k a) (.int k b)=some (.int k (q1I .andNot k a b)):=by simp [q0y,q7T,q3P]
theorem qoK:q0y P .eql t (.int k a) (.int k b)=some (.bool (a == b)):=by simp [q0y,q7T,q3P]
theorem qoE:q0y P .neq t (.int k a) (.int k b)=some (.bool (a != b)):=by simp [q0y,q7T,q3P]
theorem qoG:q0y P .lss t (.int k a) (.int k b)=some (.bool (decide (a < b))):=by simp [q0y,q7T,q3P]
theorem qoH:q0y P .leq t (.int k a) (.int k b)=some (.bool (decide (a≤b))):=by simp [q0y,q7T,q3P]
theorem qoI:q0y P .gtr t (.int k a) (.int k b)=some (.bool (decide (b < a))):=by simp [q0y,q7T,q3P]
theorem qoJ:q0y P .geq t (.int k a) (.int k b)=some (.bool (decide (b≤a))):=by simp [q0y,q7T,q3P]
theorem q92:q0y P .shl t (.int k a) (.int k' b)=if b < 0 then none else some (.int k (k.wrap (a*2 ^ (min b.toNat k.bits)))):=by simp [q0y,q7T]
theorem q2L:q0y P .shr t (.int k a) (.int k' b)=if b < 0 then none else some (.int k (a.fdiv (2 ^ (min b.toNat k.bits)))):=by simp [q0y,q7T]
theorem qaz {x y:Bool} (h:P.underlying t=some .bool):q0y P .eql t (.bool x) (.bool y)=some (.bool (x == y)):=by simp [q0y,h]
theorem qay {x y:Bool} (h:P.underlying t=some .bool):q0y P .neq t (.bool x) (.bool y)=some (.bool (x != y)):=by simp [q0y,h]
theorem q95 {A:Option Addr} {n c n' c' el:Nat} (h:P.underlying t=some (.slice el)):q0y P .eql t (.slice A n c) (.slice none n' c')=some (.bool A.isNone):=by simp [q0y,h]
theorem q7S {A:Option Addr} {n c n' c' el:Nat} (h:P.underlying t=some (.slice el)):q0y P .neq t (.slice A n c) (.slice none n' c')=some (.bool A.isSome):=by simp [q0y,h]
theorem qpW {x:Bool}:unV .not (.bool x)=some (.bool !x):=rfl
theorem qpX:unV .neg (.int k a)=some (.int k (k.wrap (0-a))):=rfl
theorem qiU {s:TypeDesc}:qbn (some s) (some (.int k)) (.int k' a)=some (.int k (k.wrap a)):=rfl
theorem idx_s {ad:Addr} {n c s:Nat} {ar:Option (Nat × Nat)} {i:Int}:qhU (some s) ar (.slice (some ad) n c) (.int k i)=if 0≤i∧i < n then some (.pointer (some (ad.add (i.toNat*s)))) else none:=rfl
theorem idx_a {ad:Addr} {n s:Nat} {sz:Option Nat} {i:Int}:qhU sz (some (n,s)) (.pointer (some ad)) (.int k i)=if 0≤i∧i < n then some (.pointer (some (ad.add (i.toNat*s)))) else none:=rfl
theorem len_s {A:Option Addr} {n c s:Nat}:qqz (some s) (.slice A n c)=some (.int .i64 n):=rfl
theorem ext_0 {v:Value} {l:List Value}:qju 0 (.tuple ⟨v :: l⟩)=some v:=rfl
theorem ext_1 {v u:Value} {l:List Value}:qju 1 (.tuple ⟨v :: u :: l⟩)=some u:=rfl
theorem ext_2 {v u x:Value} {l:List Value}:qju 2 (.tuple ⟨v :: u :: x :: l⟩)=some x:=rfl
theorem ext_3 {v u x y:Value} {l:List Value}:qju 3 (.tuple ⟨v :: u :: x :: y :: l⟩)=some y:=rfl
theorem ld_1 {w:World} {p:Addr}:ldV w (some none) (.pointer (some p))=w.cell? p:=rfl
theorem ld_k {w:World} {p:Addr} {n:Nat}:ldV w (some (some n)) (.pointer (some p))=(q0z w p 0 n).map fun l=>.agg l.toArray:=rfl
theorem rd_z {w:World} {p:Addr} {i:Nat}:q0z w p i 0=some []:=rfl
def qn0 (a:Option Value) (b:Option (List Value)):Option (List Value):=match a,b with | some v,some l=>some (v :: l) | _,_=>none
theorem qnZ {v:Value} {l:List Value}:qn0 (some v) (some l)=some (v :: l):=rfl
theorem rd_s {w:World} {p:Addr} {i n:Nat}:q0z w p i (n+1)=qn0 (w.cell? (p.add i)) (q0z w p (i+1) n):=rfl
theorem sl_hi {A:Option Addr} {n c s:Nat} {h:Int}:q2Q (some s) none (some (.int k h)) (.slice A n c)=if 0≤h∧h≤c then some (.slice (if c=0 then A else A.map (·.add (0*s))) (h.toNat-0) (c-0)) else none:=by
 simp only [q2Q,q33]
 split <;> rename_i hh <;> split at hh <;> simp_all
theorem sl_lo {A:Option Addr} {n c s:Nat} {l:Int}:q2Q (some s) (some (.int k l)) none (.slice A n c)=if 0≤l∧l≤n then some (.slice (if c=l.toNat then A else A.map (·.add (l.toNat*s))) (n-l.toNat) (c-l.toNat)) else none:=by
 simp only [q2Q,q33]
 split <;> rename_i hh <;> split at hh <;> simp_all
theorem sl_lh {A:Option Addr} {n c s:Nat} {l h:Int}:q2Q (some s) (some (.int k l)) (some (.int k' h)) (.slice A n c) =
  if (0≤h∧h≤c)∧0≤l∧l≤h then some (.slice (if c=l.toNat then A else A.map (·.add (l.toNat*s))) (h.toNat-l.toNat) (c-l.toNat)) else none:=by
 simp only [q2Q,q33]
 by_cases h1:0≤h∧h≤(c:Int)
 ·have e:((h.toNat:Nat):Int)=h:=by omega
  simp only [h1,and_self,if_true,e,true_and]
  by_cases h2:0≤l∧l≤h <;> simp [h2]
 ·simp [h1]
theorem qfc (A:Option Addr) (s:Nat):A.map (·.add (0*s))=A:=by
 rw [Nat.zero_mul]; cases A <;> simp [Addr.add]
theorem qpl {A:Option Addr} {n c s:Nat} {h:Int}:q2Q (some s) none (some (.int k h)) (.slice A n c)=if 0≤h∧h≤c then some (.slice A h.toNat c) else none:=by
 rw [sl_hi,qfc]; simp
def qav:Value→Option Bool | .bool b=>some b | _=>none
theorem qi6 {b:Bool}:qav (.bool b)=some b:=rfl
theorem qi5:qav undef=none:=rfl
def q6D:List Oper→Nat→Env→Option Bool
 | [],_,_=>none
 | o :: _,0,e=>match o.dst with | some d=>qav (e d) | none=>none
 | _ :: os,j+1,e=>q6D os j e
theorem qgE {o:Oper} {os:List Oper} {j:Nat} {e:Env}:q6D (o :: os) (j+1) e=q6D os j e:=rfl
theorem qgD {d:Nat} {op:Op} {ty:TypeId} {pos:String} {af:Array Edge} {g:Option (Nat × Bool)} {os:List Oper} {e:Env}:q6D (⟨some d,op,ty,pos,af,g⟩ :: os) 0 e=qav (e d):=rfl
theorem qgF {l:List Oper} {e:Env} {j:Nat}:q3i l.toArray e j=q6D l j e:=by
 unfold q3i;rw [List.getElem?_toArray]
 induction l generalizing j with
 | nil=>rfl
 | cons o os ih =>
  cases j with
  | zero =>
   simp only [List.getElem?_cons_zero,Option.bind_some,q6D];cases o.dst with
   | none=>rfl
   | some d=>simp only []; cases e d <;> rfl
  | succ j=>rw [List.getElem?_cons_succ]; exact ih
end
theorem i64_in {n:Int} (h1 : -9223372036854775808≤n) (h2:n≤9223372036854775807):IntKind.i64.wrap n=n:=IntWalk.i64_in n ⟨h1,h2⟩
theorem u64_in {n:Int} (h1:0≤n) (h2:n≤18446744073709551615):IntKind.u64.wrap n=n:=IntWalk.u64_in n ⟨h1,h2⟩
theorem u8_in {n:Int} (h1:0≤n) (h2:n≤255):IntKind.u8.wrap n=n:=IntWalk.u8_in n ⟨h1,h2⟩
theorem q1R (n:Int):IntKind.u64.wrap n=n % 18446744073709551616:=by simp [IntKind.wrap,IntKind.bits,IntKind.signed]
theorem q2h (n:Int):IntKind.u32.wrap n=n % 4294967296:=by simp [IntKind.wrap,IntKind.bits,IntKind.signed]
theorem qhX (n:Int):IntKind.i64.wrap n=(n+9223372036854775808) % 18446744073709551616-9223372036854775808:=IntKind.wrap_i64 n
attribute [go_sem] qoM qoD qoF q94 q93 qoL qsi qoC qbs qoK qoE qoG qoH qoI qoJ q92 q2L qaz qay qpW qpX qiU idx_s idx_a len_s ext_0 ext_1 ext_2 ext_3 ld_1 ld_k rd_z qnZ rd_s qpl sl_lo sl_lh
attribute [go_sem ↓] qlB qcR qlA qgP qpO qgN q3j qlD qgJ qgO qkz qbP q7c q7b qgK q7a qbO q8e qpN qpM qpL q5U qcQ q63 qlF qfj q4H qgF qgE qgD
attribute [go_sem ↓ high] qip
attribute [go_sem ↓] qeA q6U
attribute [go_sem] qpP qmD qmE qeL qeM qeN qeO qhZ qi5 qrP qaF qgr qjv qiF q0F q3I env_z env_s qi6 decide_true decide_false Bool.not_false Bool.not_true ite_true ite_false beq_self_eq_true List.map_cons List.map_nil Option.map_some Option.map_none Int.toNat_natCast Nat.mul_one and_self List.map_toArray List.toList_toArray
end Go.E
namespace Go.Sp
def B:Nat:=4294967296
theorem q4K:0 < B:=by decide
theorem quJ:1 < B:=by decide
theorem q4J (k:Nat):0 < B ^ k:=Nat.pow_pos q4K
def val:List Nat→Nat
 | []=>0
 | d :: l=>d+B*val l
def qhI:Nat→Nat→List Nat
 | 0,_=>[]
 | f+1,n=>if n=0 then [] else n % B :: qhI f (n / B)
def lim (n:Nat):List Nat:=qhI n n
def q1w (l:List Nat):Prop:=∀ d ∈ l,d < B
theorem q7I {n:Nat} (h:n≠0):n / B < n:=Nat.div_lt_self Oq quJ
theorem q8C : ∀ (f g n : Nat), n ≤ f → n ≤ g → qhI f n = qhI g n
  | 0, 0, _, _, _ => rfl
  | 0, g + 1, n, h, _ => by have : n = 0 := by omega
                            subst this; simp [qhI]
  | f + 1, 0, n, _, h => by have : n = 0 := by omega
                            subst this; simp [qhI]
  | f + 1, g + 1, n, h1, h2 => by
    by_cases h : n = 0
    · subst h; simp [qhI]
    · simp only [qhI, if_neg h]
      have := q7I h
      rw [q8C f g (n / B) Oq (by omega)]
theorem q2U:lim 0=[]:=rfl
theorem q39 {n:Nat} (h:n≠0):lim n=n % B :: lim (n / B):=by
 obtain ⟨m,rfl⟩:∃ m,n=m+1:=⟨n-1,by omega⟩;unfold lim;simp only [qhI,if_neg h];have:=q7I h;rw [q8C m ((m+1) / B) ((m+1) / B) Oq (Nat.le_refl _)]
theorem q6z {P:Nat→Prop} (h0:P 0) (hs:∀ n,n≠0→P (n / B)→P n) (n:Nat):P n:=by
 induction n using Nat.strongRecOn with
 | _ n ih =>
  by_cases h:n=0
  ·subst h; exact h0
  ·exact hs n h (ih _ (q7I h))
theorem q0J (n:Nat):val (lim n)=n:=by
 induction n using q6z with
 | h0=>rfl
 | hs n h ih=>rw [q39 h,val,ih]; exact Nat.mod_add_div n B
theorem q18 (n:Nat):q1w (lim n):=by
 induction n using q6z with
 | h0=>intro d h; cases h
 | hs n h ih =>
  rw [q39 h]; intro d hd
  rcases List.mem_cons.1 hd with rfl | hd
  ·exact Nat.mod_lt _ q4K
  ·exact ih d hd
theorem q0S {n:Nat}:0 < (lim n).length ↔ n≠0:=by
 constructor
 ·intro h h0; subst h0; simp [q2U] at h
 ·intro h; rw [q39 h]; simp
theorem q1S {l:List Nat} (h:q1w l):val l < B ^ l.length:=by
 induction l with
 | nil=>simp [val]
 | cons d l ih =>
  have h1:=ih (fun x hx=>h x (List.mem_cons_of_mem _ hx));have h2:=h d (List.mem_cons_self);simp only [val,List.length_cons,Nat.pow_succ];have h3:B*val l+B≤B*B ^ l.length:=by
   rw [← Nat.mul_succ]; exact Nat.mul_le_mul_left _ h1
  rw [Nat.mul_comm (B ^ l.length)]; omega
theorem q3R (a b:List Nat):val (a ++ b)=val a+B ^ a.length*val b:=by
 induction a with
 | nil=>simp [val]
 | cons d a ih =>
  simp only [List.cons_append,val,ih,List.length_cons,Nat.pow_succ,Nat.mul_add];rw [Nat.mul_comm (B ^ a.length) B,Nat.mul_assoc]; omega
theorem q1n (n:Nat):val (List.replicate n 0)=0:=by
 induction n with
 | zero=>rfl
 | succ n ih=>simp [List.replicate_succ,val,ih]
theorem q1w.nil:q1w []:=fun _ h=>by cases h
theorem q1w.take {l:List Nat} (h:q1w l) (n:Nat):q1w (l.take n):=fun d hd=>h d (List.mem_of_mem_take hd)
theorem q1w.drop {l:List Nat} (h:q1w l) (n:Nat):q1w (l.drop n):=fun d hd=>h d (List.mem_of_mem_drop hd)
theorem q1w.append {a b:List Nat} (h:q1w a) (k:q1w b):q1w (a ++ b):=fun d hd=>by
 rcases List.mem_append.1 hd with hd | hd
 ·exact h d hd
 ·exact k d hd
theorem q1w.one {d:Nat} (h:d < B):q1w [d]:=fun x hx=>by simp at hx; subst hx; exact h
theorem q1w.snoc {a:List Nat} {d:Nat} (h:q1w a) (k:d < B):q1w (a ++ [d]):=h.append (.one k)
theorem q1C {l:List Nat} {i:Nat} (h:i < l.length):l.getD i 0=l[i]:=(List.getElem_eq_getD 0).symm
theorem q1w.get {l:List Nat} (h:q1w l) (i:Nat):l.getD i 0 < B:=by
 rcases Nat.lt_or_ge i l.length with hi | hi
 ·rw [q1C hi]; exact h _ (List.getElem_mem hi)
 ·simp [List.getD,List.getElem?_eq_none hi,q4K]
theorem q1w.set {l:List Nat} (h:q1w l) (i d:Nat) (hd:d < B):q1w (l.set i d):=fun x hx=>by
 rcases List.mem_or_eq_of_mem_set hx with hx | rfl
 ·exact h x hx
 ·exact hd
theorem q1w.replicate (n:Nat):q1w (List.replicate n 0):=fun d hd=>by
 rw [List.mem_replicate] at hd; rw [hd.2]; exact q4K
theorem qcZ {α:Type} (l:List α) (i:Nat) (h:i < l.length):l.take (i+1)=l.take i ++ [l[i]]:=List.take_succ_eq_append_getElem h
theorem q3T (l:List Nat) (i:Nat) (h:i < l.length):l.take (i+1)=l.take i ++ [l.getD i 0]:=by
 rw [qcZ l i h,q1C h]
theorem qlH (d:Nat):val [d]=d:=by simp [val]
theorem q2f (l:List Nat) (d:Nat):val (l ++ [d])=val l+B ^ l.length*d:=by rw [q3R,qlH]
theorem q2B (l:List Nat) (i:Nat) (h:i < l.length):val (l.take (i+1))=val (l.take i)+B ^ i*l.getD i 0:=by
 rw [q3T l i h,q2f,List.length_take,Nat.min_eq_left (by omega)]
theorem q0M (l:List Nat) (i:Nat) (h:l.length≤i):val (l.take i)=val l:=by rw [List.take_of_length_le h]
theorem q1E (l:List Nat) (i:Nat) (h:i≤l.length):val l=val (l.take i)+B ^ i*val (l.drop i):=by
 have:=q3R (l.take i) (l.drop i);rw [List.take_append_drop,List.length_take,Nat.min_eq_left h] at this;exact this
theorem q2j (l:List Nat) (i d:Nat):(l.set i d).take i=l.take i:=List.take_set_of_le (Nat.le_refl i)
theorem q5L {n : Nat} (h : n ≠ 0) : (lim n).getD ((lim n).length - 1) 0 ≠ 0 := by
  induction n using q6z with
  | h0 => exact absurd rfl h
  | hs n h ih =>
    rw [q39 h]
    by_cases h0 : n / B = 0
    · rw [h0, q2U]
      have : n < B := by rcases Nat.lt_or_ge n B with h1 | h1
                         · exact h1
                         · have := Nat.div_pos h1 q4K; omega
      simp [Nat.mod_eq_of_lt this, h]
    · have := ih h0
      have hp := q0S.2 h0
      simp only [List.length_cons, Nat.add_sub_cancel]
      obtain ⟨k, hk⟩ : ∃ k, (lim (n / B)).length = k + 1 := ⟨(lim (n / B)).length - 1, by omega⟩
      rw [hk] at this ⊢
      simpa using this
theorem q9D {d m:Nat} (hd:d < B) (h:d+B*m≠0):lim (d+B*m)=d :: lim m:=by
 rw [q39 h];rw [Nat.add_mul_mod_self_left,Nat.mod_eq_of_lt hd,Nat.add_mul_div_left _ _ q4K,Nat.div_eq_of_lt hd,Nat.zero_add]
theorem q2y:∀ {l:List Nat},l≠[]→l.getD (l.length-1) 0≠0→val l≠0
 | [],h,_=>absurd rfl h
 | [d],_,k=>by simpa [val] using k
 | d :: e :: l,_,k=>by
  have:=q2y (l:=e :: l) (by simp) (by simpa using k);have hB:=q4K;have:0 < B*val (e :: l):=Nat.mul_pos hB Oq;rw [val]; omega
theorem qds:∀ {l:List Nat},q1w l→(l=[]∨l.getD (l.length-1) 0≠0)→lim (val l)=l
 | [],_,_=>rfl
 | d :: l,h,k=>by
  have hd:=h d List.mem_cons_self;have hl:q1w l:=fun x hx=>h x (List.mem_cons_of_mem _ hx);have k':(d :: l).getD ((d :: l).length-1) 0≠0:=k.resolve_left (by simp);have hv:=q2y (l:=d :: l) (by simp) k';rw [val] at hv ⊢;rw [q9D hd hv,qds hl];cases l with
  | nil=>exact .inl rfl
  | cons e l=>exact .inr (by simpa using k')
theorem qlI {l:List Nat} {n:Nat} (h:q1w l) (hn:n≤l.length) (hz:∀ i,n≤i→i < l.length→l.getD i 0=0) (hl:n=0∨l.getD (n-1) 0≠0):l.take n=lim (val l):=by
 have hd:val (l.drop n)=0:=by
  have:l.drop n=List.replicate (l.length-n) 0:=by
   apply List.ext_getElem (by simp)
   intro i h1 h2;have:=hz (n+i) Oq (by simp at h1; omega);rw [q1C (by simp at h1; omega)] at this;simp [this]
  rw [this,q1n]
 have hv:val l=val (l.take n):=by rw [q1E l n hn,hd]; simp
 rw [hv,qds (h.take n)]
 rcases hl with rfl | hl
 ·exact .inl (by simp)
 ·by_cases h0:n=0
  ·exact .inl (by simp [h0])
  ·refine .inr ?_;rw [List.length_take,Nat.min_eq_left hn];rw [q1C (by omega)] at hl;rw [q1C (by simp; omega)];simpa using hl
theorem q1V (n:Nat):n < B ^ (lim n).length:=by
 have:=q1S (q18 n); rwa [q0J] at this
theorem q28 {n:Nat} (h:n≠0):B ^ ((lim n).length-1)≤n:=by
 induction n using q6z with
 | h0=>exact absurd rfl h
 | hs n h ih =>
  rw [q39 h];simp only [List.length_cons,Nat.add_sub_cancel]
  by_cases h0:n / B=0
  ·rw [h0,q2U]; simp; omega
  ·have:=ih h0;have hp:=q0S.2 h0;obtain ⟨k,hk⟩:∃ k,(lim (n / B)).length=k+1:=⟨(lim (n / B)).length-1,by omega⟩;rw [hk] at this ⊢;simp only [Nat.add_sub_cancel] at this;rw [Nat.pow_succ];exact Nat.le_trans (Nat.mul_le_mul_right B this) (Nat.div_mul_le_self n B)
theorem q2V {n k:Nat} (h:n < B ^ k):(lim n).length≤k:=by
 by_cases h0:n=0
 ·subst h0; simp [q2U]
 ·have h1:=q28 h0;have h2:B ^ ((lim n).length-1) < B ^ k:=Nat.lt_of_le_of_lt h1 h;have:=(Nat.pow_lt_pow_iff_right quJ).1 h2;omega
theorem q2m {m n:Nat} (h:m≤n):(lim m).length≤(lim n).length:=q2V (Nat.lt_of_le_of_lt h (q1V n))
theorem q2S {m n:Nat} (h:(lim m).length < (lim n).length):m < n:=by
 rcases Nat.lt_or_ge m n with k | k
 ·exact k
 ·have:=q2m k; omega
theorem q3k {a b:List Nat} {i:Nat} (ha:q1w a) (hl:a.length=b.length) (hi:i < a.length)
  (hs:a.drop (i+1)=b.drop (i+1)) (hlt:a.getD i 0 < b.getD i 0):val a < val b:=by
 rw [q1E a (i+1) Oq,q1E b (i+1) Oq,hs,q2B a i hi,q2B b i (by omega)];have h1:=q1S (ha.take i);rw [List.length_take,Nat.min_eq_left (by omega)] at h1;have h2:B ^ i*a.getD i 0+B ^ i≤B ^ i*b.getD i 0:=by rw [← Nat.mul_succ]; exact Nat.mul_le_mul_left _ hlt
 omega
end Go.Sp
namespace Go.E
open Go Go.RowKit
structure Kp (D:Nat→Prop) (w w':World):Prop where
 os:w'.os=w.os
 tape:w'.tape=w.tape
 output:w'.output=w.output
 size:w.heap.size≤w'.heap.size
 block:∀ k,k < w.heap.size→D k→w'.heap[k]?=w.heap[k]?
abbrev Ext (w w':World):Prop:=Kp (fun _=>True) w w'
theorem Ck {P:Program} {f:FuncId} {args:List Value} {v:Value} {w:World} {K:Value→World→Prop} (hc:q0C P f=true) (h:Calls P f args.toArray w fun e w'=>e=.returned v∧Ext w w') (k:∀ w',Ext w w'→K v w'):q7P P f args w K:=q0E hc h fun x w' ⟨h1,h2⟩=>⟨v,h1,k w' h2⟩
def Fr (D:Nat→Prop) (w:World):Prop:=∀ k,w.heap.size≤k→D k
section
variable {D D':Nat→Prop} {w w' w'':World}
theorem Kp.refl (D:Nat→Prop) (w:World):Kp D w w:=⟨rfl,rfl,rfl,Nat.le_refl _,fun _ _ _=>rfl⟩
theorem Kp.trans (h:Kp D w w') (k:Kp D w' w''):Kp D w w'' :=
 ⟨k.os.trans h.os,k.tape.trans h.tape,k.output.trans h.output,Nat.le_trans h.size k.size,fun i hi hd=>(k.block i (Nat.lt_of_lt_of_le hi h.size) hd).trans (h.block i hi hd)⟩
theorem Kp.mono (h:Kp D w w') (hd:∀ k,k < w.heap.size→D' k→D k):Kp D' w w':=⟨h.os,h.tape,h.output,h.size,fun k hk hk'=>h.block k hk (hd k hk hk')⟩
theorem Kp.of_ext (h:Ext w w'):Kp D w w':=h.mono fun _ _ _=>trivial
theorem Kp.drew (w:World) (k:Nat):Kp D w { w with drawn:=k }:=⟨rfl,rfl,rfl,Nat.le_refl _,fun _ _ _=>rfl⟩
theorem Kp.alloc (w:World) (o:Obj):Kp D w (w.alloc o):=⟨rfl,rfl,rfl,by simp,fun k hk _=>Below.heap_alloc w o k hk⟩
theorem Kp.setCell (w:World) {p:Addr} (hp:p.block < w.heap.size→¬ D p.block) (v:Value):Kp D w (w.setCell p v) :=
 ⟨rfl,rfl,rfl,by simp [World.setCell],fun k hk hd=>Below.heap_setCell w p v k (fun e=>by subst e; exact hp hk hd)⟩
theorem Kp.pre (D:Nat→Prop):Pre (Kp D):=⟨Kp.refl D,fun h k=>h.trans k,fun w k=>Kp.drew w k⟩
theorem Kp.cell (h:Kp D w w') {p:Addr} {v:Value} (hd:D p.block) (hc:w.cell? p=some v):w'.cell? p=some v:=by
 have hlt:=World.block_lt_of_cell? w p hc;rw [← hc];exact World.cell?_of_block (h.block p.block hlt hd)
theorem Kp.of_grown {row:Option Nat} (h:w.grownBy w' row) (hr:∀ k,k < w.heap.size→row=some k→¬ D k):Kp D w w' :=
 ⟨h.os,h.tape,h.output,h.size,fun k hk hd=>h.block k hk fun e=>hr k hk e.symm hd⟩
theorem Kp.below (h:Ext w w'):Below w.heap.size w w':=⟨h.os,h.tape,h.output,h.size,fun k hk=>h.block k hk trivial⟩
theorem Fr.kp (h:Fr D w) (k:Kp D' w w'):Fr D w':=fun i hi=>h i (Nat.le_trans k.size hi)
theorem Fr.triv (w:World):Fr (fun _=>True) w:=fun _ _=>trivial
theorem Fr.grow (h:Fr D w) (hs:w.heap.size≤w'.heap.size):Fr D w':=fun i hi=>h i (Nat.le_trans hs hi)
def Dx (D:Nat→Prop) (a b:Nat):Nat→Prop:=fun k=>D k∧(k < a∨b≤k)
theorem Dx.sub {a b:Nat} {k:Nat} (h:Dx D a b k):D k:=h.1
theorem Dx.fr {a b:Nat} (h:Fr D w) (hb:b≤w.heap.size):Fr (Dx D a b) w:=fun k hk=>⟨h k hk,.inr (Nat.le_trans hb hk)⟩
theorem Dx.not {a b k:Nat} (h1:a≤k) (h2:k < b):¬ Dx D a b k:=fun h=>by rcases h.2 with h | h <;> omega
theorem Dx.lt {a b k:Nat} (h:D k) (hk:k < a):Dx D a b k:=⟨h,.inl hk⟩
theorem Dx.ge {a b k:Nat} (h:D k) (hk:b≤k):Dx D a b k:=⟨h,.inr hk⟩
def Blk (w:World) (g:Nat) (t:TypeId) (cs:Array Value):Prop:=w.heap[g]?=some (.cells cs t (0,0))
variable {g:Nat} {t:TypeId} {cs:Array Value}
theorem Blk.lt (h:Blk w g t cs):g < w.heap.size:=by
 rcases Nat.lt_or_ge g w.heap.size with hlt | hge
 ·exact hlt
 ·unfold Blk at h; rw [Array.getElem?_eq_none hge] at h; cases h
theorem Blk.cell (h:Blk w g t cs) (i:Nat):w.cell? ⟨g,i,none⟩=cs[i]?:=cell_of_row w g i cs t (0,0) h
theorem Blk.frozen (h:Blk w g t cs) (i:Nat):w.frozen? ⟨g,i,none⟩=false:=by unfold Blk at h; simp [World.frozen?,h]
theorem Blk.new (w:World) (t:TypeId) (cs:Array Value):Blk (w.alloc (.cells cs t)) w.heap.size t cs:=heap_alloc_new w _
theorem Blk.kp (h:Blk w g t cs) (hk:Kp D w w') (hd:D g):Blk w' g t cs:=(hk.block g h.lt hd).trans h
theorem Blk.ext (h:Blk w g t cs) (hk:Ext w w'):Blk w' g t cs:=(hk.block g h.lt trivial).trans h
theorem Blk.alloc (h:Blk w g t cs) (o:Obj):Blk (w.alloc o) g t cs:=(Below.heap_alloc w o g h.lt).trans h
theorem Blk.set (h:Blk w g t cs) (i:Nat) (u:Value):Blk (w.setCell ⟨g,i,none⟩ u) g t (cs.setIfInBounds i u):=by
 unfold Blk at h ⊢;simp [World.setCell,Array.getElem?_modify,h]
theorem q02 {b o i:Nat}:(⟨b,o,none⟩:Addr).add i=⟨b,o+i,none⟩:=by unfold Addr.add; split <;> simp_all
theorem q7W (a:Addr) (i j:Nat):(a.add i).add j=a.add (i+j):=by
 unfold Addr.add
 by_cases hi:i=0 <;> by_cases hj:j=0 <;> simp [hi,hj,Nat.add_assoc]
theorem q1Q (a:Addr) (n:Nat):(a.add n).block=a.block:=by unfold Addr.add; split <;> rfl
theorem add_zero (a:Addr):a.add 0=a:=by simp [Addr.add]
theorem Blk.rd (h:Blk w g t cs):∀ (n i:Nat),i+n≤cs.size→q0z w ⟨g,0,none⟩ i n=some ((cs.toList.drop i).take n)
 | 0,i,_=>by simp [q0z]
 | n+1,i,hi=>by
  rw [rd_s,q02,Nat.zero_add,h.cell,h.rd n (i+1) (by omega)];have hlt:i < cs.size:=by omega
  have hd:cs.toList.drop i=cs[i] :: cs.toList.drop (i+1):=by rw [List.drop_eq_getElem_cons (by simpa using hlt)]; simp
  rw [Array.getElem?_eq_getElem hlt,hd];simp [qn0]
theorem Blk.rdAll (h:Blk w g t cs) {n:Nat} (hn:cs.size=n):q0z w ⟨g,0,none⟩ 0 n=some cs.toList:=by
 rw [h.rd n 0 Oq,List.drop_zero,List.take_of_length_le (by simp [hn])]
theorem qcl {p:Addr}:∀ (vs:List Value) (i:Nat) (w:World),(p.block < w.heap.size→¬ D p.block)→Kp D w (stN w p i vs)
 | [],_,w,_=>Kp.refl D w
 | v :: vs,i,w,hp=>by
  have h1:Kp D w (w.setCell (p.add i) v):=Kp.setCell w (by rw [q1Q]; exact hp) v;exact h1.trans (qcl vs (i+1) _ (by simpa [World.setCell] using hp))
theorem Blk.stOk (h:Blk w g t cs):∀ (vs:List Value) (i:Nat),i+vs.length≤cs.size→(∀ v ∈ vs,v.oneCell'=true)→stOk w ⟨g,0,none⟩ i vs
 | [],_,_,_=>trivial
 | v :: vs,i,hl,h1=>by
  have hlt:i < cs.size:=by simp at hl; omega
  refine ⟨?_,?_,h1 v List.mem_cons_self,h.stOk vs (i+1) (by simp at hl ⊢; omega) fun u hu=>h1 u (List.mem_cons_of_mem _ hu)⟩
  ·rw [q02,Nat.zero_add,h.cell,Array.getElem?_eq_getElem hlt]; rfl
  ·rw [q02,Nat.zero_add]; exact h.frozen i
theorem Blk.stN:∀ (vs:List Value) (i:Nat) (w:World) (cs:Array Value),Blk w g t cs→i+vs.length≤cs.size →
  ∃ cs',Blk (E.stN w ⟨g,0,none⟩ i vs) g t cs'∧cs'.size=cs.size∧(∀ j,j < i→cs'[j]?=cs[j]?)∧(∀ j,cs'[i+j]?=if j < vs.length then vs[j]? else cs[i+j]?)
 | [],i,w,cs,hb,_=>⟨cs,hb,rfl,fun _ _=>rfl,fun j=>by simp⟩
 | v :: vs,i,w,cs,hb,hl=>by
  have hs:=hb.set i v;have hlt:i < cs.size:=by simp at hl; omega
  obtain ⟨cs',h3,h4,h5,h6⟩:=Blk.stN vs (i+1) _ _ hs (by simp at hl ⊢; omega);refine ⟨cs',?_,?_,fun j hj=>?_,fun j=>?_⟩
  ·rw [E.stN,q02,Nat.zero_add]; exact h3
  ·rw [h4]; simp
  ·rw [h5 j Oq,Array.getElem?_setIfInBounds]; simp [show i≠j by omega]
  ·cases j with
   | zero=>rw [h5 (i+0) Oq,Array.getElem?_setIfInBounds]; simp [hlt]
   | succ j =>
    have:=h6 j;rw [show i+1+j=i+(j+1) by omega] at this;rw [this,Array.getElem?_setIfInBounds];simp
theorem Blk.store (h:Blk w g t cs) {vs:List Value} (hl:vs.length=cs.size):Blk (E.stN w ⟨g,0,none⟩ 0 vs) g t vs.toArray:=by
 obtain ⟨cs',h3,h4,_,h6⟩:=Blk.stN vs 0 w cs h Oq;have:cs'=vs.toArray:=by
  apply Array.ext_getElem?
  intro j;have:=h6 j;rw [Nat.zero_add] at this;rw [this]
  split
  ·simp
  ·rename_i hj;rw [Array.getElem?_eq_none (by omega)];simp; omega
 rw [← this]; exact h3
end
structure Row (w:World) (D:Nat→Prop) (sz:Nat) (A:Option Addr) (n c:Nat) (xs:List Value):Prop where
 cap:n≤c
 len:xs.length=n*sz
 at_:0 < xs.length→∃ ad,A=some ad∧D ad.block∧∀ j u,xs[j]?=some u→w.cell? (ad.add j)=some u
section
variable {D D':Nat→Prop} {w w':World} {sz n c:Nat} {A:Option Addr} {xs:List Value}
theorem Row.nil (w:World) (D:Nat→Prop) (sz:Nat):Row w D sz none 0 0 []:=⟨Nat.le_refl _,by simp,fun h=>by simp at h⟩
theorem Row.kp (h:Row w D sz A n c xs) (hk:Kp D w w'):Row w' D sz A n c xs :=
 ⟨h.cap,h.len,fun hx=>by
  obtain ⟨ad,rfl,hd,hc⟩:=h.at_ hx;exact ⟨ad,rfl,hd,fun j u hu=>hk.cell (by rw [q1Q]; exact hd) (hc j u hu)⟩⟩
theorem Row.sub (h:Row w D sz A n c xs) (hs:∀ k,k < w.heap.size→D k→D' k):Row w D' sz A n c xs :=
 ⟨h.cap,h.len,fun hx=>by
  obtain ⟨ad,rfl,hd,hc⟩:=h.at_ hx;refine ⟨ad,rfl,hs _ ?_ hd,hc⟩;have:=hc 0 xs[0] (List.getElem?_eq_getElem hx);have hlt:=World.block_lt_of_cell? w _ this
  rwa [q1Q] at hlt⟩
theorem Row.lt (h:Row w D sz A n c xs):Row w (fun k=>D k∧k < w.heap.size) sz A n c xs:=h.sub fun _ hk hd=>⟨hd,hk⟩
theorem Row.take (h:Row w D sz A n c xs) {m:Nat} (hm:m≤n):Row w D sz A m c (xs.take (m*sz)) :=
 ⟨Nat.le_trans hm h.cap,by rw [List.length_take,h.len,Nat.min_eq_left (Nat.mul_le_mul_right _ hm)],fun hx=>by
  obtain ⟨ad,rfl,hd,hc⟩:=h.at_ (by rw [List.length_take] at hx; omega);refine ⟨ad,rfl,hd,fun j u hu=>hc j u ?_⟩;rw [List.getElem?_take] at hu
  split at hu
  ·exact hu
  ·cases hu⟩
theorem Row.drop (h:Row w D sz A n c xs) {m:Nat} (hm:m≤n):Row w D sz (if c=m then A else A.map (·.add (m*sz))) (n-m) (c-m) (xs.drop (m*sz)) :=
 ⟨Nat.sub_le_sub_right h.cap m,by rw [List.length_drop,h.len,Nat.sub_mul],fun hx=>by
  rw [List.length_drop,h.len] at hx;obtain ⟨ad,rfl,hd,hc⟩:=h.at_ (by rw [h.len]; omega);have hne:¬ c=m:=fun e=>by
   subst e;have hcn:n=c:=Nat.le_antisymm h.cap hm;subst hcn; omega
  rw [if_neg hne];refine ⟨ad.add (m*sz),rfl,by rw [q1Q]; exact hd,fun j u hu=>?_⟩;rw [q7W];exact hc _ u (by rw [← hu,List.getElem?_drop])⟩
theorem Row.get (h:Row w D sz A n c xs) {j:Nat} (hj:j < xs.length):∃ ad,A=some ad∧w.cell? (ad.add j)=some xs[j]:=by
 obtain ⟨ad,rfl,_,hc⟩:=h.at_ Oq;exact ⟨ad,rfl,hc j _ (List.getElem?_eq_getElem hj)⟩
end
attribute [go_sem] q02 Nat.zero_add
def Own (w:World) (B:Nat) (E sz:Nat) (A:Option Addr) (n c:Nat) (xs:List Value):Prop:=w.ownsRow B E sz (.slice A n c) n xs
def nb (A:Option Addr) (k:Nat):Prop:=∀ a,A=some a→a.block≠k
section
variable {w w':World} {B E sz n c:Nat} {A:Option Addr} {xs:List Value} {D D':Nat→Prop}
theorem Own.nil (w:World) (B E sz:Nat):Own w B E sz none 0 0 []:=World.ownsRow_nil w B E sz
theorem Own.form (h:Own w B E sz A n c xs):(A=none∧n=0∧c=0∧xs=[])∨∃ g cur,A=some ⟨g,0,none⟩∧B≤g∧Blk w g E cur∧n≤c∧c≤maxLen∧cur.size=c*sz∧cur.toList.take (n*sz)=xs:=by
 obtain ⟨h1,h2⟩:=h
 rcases h2 with ⟨h2,h3⟩ | ⟨g,cap,cur,hv,hb,hg,hn,hc,hs,ht⟩
 ·injection h2 with a b c
  subst h3;exact .inl ⟨a,rfl,c,List.eq_nil_of_length_eq_zero (by simpa using h1)⟩
 ·injection hv with a b c'
  subst c';exact .inr ⟨g,cur,a,hb,hg,hn,hc,hs,ht⟩
theorem Own.len (h:Own w B E sz A n c xs):xs.length=n*sz:=h.1
theorem Own.cap (h:Own w B E sz A n c xs):n≤c:=by
 rcases h.form with ⟨_,rfl,_,_⟩ | ⟨_,_,_,_,_,hn,_⟩ <;> omega
theorem Own.not_lt (h:Own w B E sz A n c xs) {k:Nat} (hk:k < B):nb A k:=by
 intro a ha
 rcases h.form with ⟨h0,_⟩ | ⟨g,_,h0,hb,_⟩
 ·rw [h0] at ha; cases ha
 ·rw [h0] at ha; obtain rfl:=Option.some.inj ha; simp only; omega
theorem Own.kp (h:Own w B E sz A n c xs) (hk:Kp D w w') (hd:∀ a,A=some a→D a.block):Own w' B E sz A n c xs:=by
 refine ⟨h.1,?_⟩
 rcases h.2 with h2 | ⟨g,cap,cur,hv,hb,hg,rest⟩
 ·exact .inl h2
 ·have hv':=hv
  injection hv with a _ _
  exact .inr ⟨g,cap,cur,hv',hb,Blk.kp hg hk (hd _ a),rest⟩
theorem Own.ext (h:Own w B E sz A n c xs) (hk:Ext w w'):Own w' B E sz A n c xs:=h.kp hk fun _ _=>trivial
theorem Own.mono (h:Own w B E sz A n c xs) {B':Nat} (hb:B'≤B):Own w B' E sz A n c xs:=by
 refine ⟨h.1,?_⟩
 rcases h.2 with h2 | ⟨g,cap,cur,hv,hb',rest⟩
 ·exact .inl h2
 ·exact .inr ⟨g,cap,cur,hv,Nat.le_trans hb hb',rest⟩
theorem Kp.under {w1 w2:World} (hx:Ext w w1) (hk:Kp D w1 w2) (ho:∀ k,k < w.heap.size→D k):Ext w w2 :=
 ⟨hk.os.trans hx.os,hk.tape.trans hx.tape,hk.output.trans hx.output,Nat.le_trans hx.size hk.size,fun k hk1 _=>(hk.block k (Nat.lt_of_lt_of_le hk1 hx.size) (ho k hk1)).trans (hx.block k hk1 trivial)⟩
theorem Own.under {w1 w2:World} (h:Own w1 w.heap.size E sz A n c xs) (hx:Ext w w1) (hk:Kp (nb A) w1 w2):Ext w w2:=hx.under hk fun _ hk=>h.not_lt hk
theorem Own.row (h:Own w B E sz A n c xs):Row w (fun k=>B≤k) sz A n c xs:=by
 refine ⟨h.cap,h.len,fun hx=>?_⟩
 rcases h.form with ⟨_,_,_,rfl⟩ | ⟨g,cur,rfl,hb,hg,hn,_,hs,ht⟩
 ·simp at hx
 ·refine ⟨_,rfl,hb,fun j u hu=>?_⟩;rw [q02,Nat.zero_add,hg.cell];rw [← ht,List.getElem?_take] at hu
  split at hu
  ·simpa using hu
  ·cases hu
theorem Own.made {cur:Array Value} (hg:Blk w w'.heap.size E cur) (hn:n≤c) (hc:c≤maxLen) (hs:cur.size=c*sz) (hb:B≤w'.heap.size):Own w B E sz (some ⟨w'.heap.size,0,none⟩) n c (cur.toList.take (n*sz)) :=
 ⟨by rw [List.length_take,Array.length_toList,hs,Nat.min_eq_left (Nat.mul_le_mul_right _ hn)],.inr ⟨_,c,cur,rfl,hb,hg,hn,hc,hs,rfl⟩⟩
theorem Own.cell (h:Own w B E sz A n c xs) {j:Nat} (hj:j < xs.length):∃ g,A=some ⟨g,0,none⟩∧B≤g∧w.cell? ⟨g,j,none⟩=some xs[j]∧w.frozen? ⟨g,j,none⟩=false:=by
 rcases h.form with ⟨_,_,_,rfl⟩ | ⟨g,cur,rfl,hb,hg,hn,_,hs,ht⟩
 ·simp at hj
 ·refine ⟨g,rfl,hb,?_,hg.frozen j⟩;rw [hg.cell];have:xs[j]?=some xs[j]:=List.getElem?_eq_getElem hj;rw [← this];subst ht;rw [List.getElem?_take];simp only [List.length_take] at hj;rw [if_pos (by omega)]; simp
theorem Own.set {g:Nat} (h:Own w B E sz (some ⟨g,0,none⟩) n c xs) (j:Nat) (u:Value):Own (w.setCell ⟨g,j,none⟩ u) B E sz (some ⟨g,0,none⟩) n c (xs.set j u):=(World.ownsRow.stored h j u).1
theorem qdf {g j:Nat} {u:Value}:Kp (nb (some ⟨g,0,none⟩)) w (w.setCell ⟨g,j,none⟩ u):=Kp.setCell w (fun _ h=>h _ rfl rfl) u
end
section
variable {P:Program} {w:World} {K:Value→World→Prop}
theorem q1i {T ty E sz bytes:Nat} {z:Array Value} (he:q08 P T=some (E,sz,bytes,z)) (hzs:z.size=sz) (hsz:0 < sz)
  {B n c:Nat} {A:Option Addr} {xs:List Value} (hown:Own w B E sz A n c xs) {D:Nat→Prop} {A2:Option Addr} {m c2:Nat} {news:List Value} (hr:Row w D sz A2 m c2 news)
  (h1:∀ u ∈ news,u.oneCell'=true) (hlen:(n+m)*(bytes+1)≤140737488355328) (hb:B≤w.heap.size)
  (hK:∀ A' c' w',Own w' B E sz A' (n+m) c' (xs ++ news)→Kp (nb A) w w'→(A'=A∨A'=some ⟨w.heap.size,0,none⟩)→K (.slice A' (n+m) c') w') :
  qfy P #[T,T] ty [.slice A n c,.slice A2 m c2] w K:=by
 unfold q08 at he
 split at he
 case h_2=>cases he
 rename_i e hu;obtain ⟨i,hi,hx⟩:=Option.bind_eq_some_iff.1 he;obtain ⟨zv,hz,hx⟩:=Option.map_eq_some_iff.1 hx;simp only [Prod.mk.injEq] at hx;obtain ⟨rfl,rfl,rfl,rfl⟩:=hx;have hs:sizeOf e=sizeOf e:=rfl;have hmb:n+m≤maxLen:=by
  have:n+m≤(n+m)*(i.bytes+1):=Nat.le_mul_of_pos_right _ Oq;simp only [maxLen]; omega
 have hbb:(n+m)*i.bytes≤140737488355328:=Nat.le_trans (Nat.mul_le_mul_left _ Oq) hlen
 by_cases hm:m=0
 ·subst hm;have hnews:news=[]:=List.eq_nil_of_length_eq_zero (by simpa using hr.len);subst hnews;refine q97 (v:=.slice A n c) (w':=w) ?_ ?_
  ·have hz:(sizeOf e).run P w=.ok i.size w:=by simp [Go.sizeOf,typeInfo,hi]
   have hcap:n≤c:=hown.cap;cases A2 with
   | none =>
    cases A <;> simp [Builtin.append_,run_underlying hu,Go.sizeOf,typeInfo,hi,Builtin.lenOf,Builtin.firstCells,hcap,storeCells]
   | some ad =>
    cases A <;> simp [Builtin.append_,run_underlying hu,Go.sizeOf,typeInfo,hi,Builtin.lenOf,Builtin.firstCells,loadCells,loadCellsFrom,hcap,storeCells]
  ·have:=hK A c w (by simpa using hown) (Kp.refl _ _) (.inl rfl);simpa using this
 ·have hx0:0 < news.length:=by rw [hr.len]; exact Nat.mul_pos Oq hsz
  obtain ⟨ad,rfl,_,hc⟩:=hr.at_ hx0;obtain ⟨v',w',hrun,ho,hg,_,hat⟩:=run_append_own_at (P:=P) w B T ty e i zv i.size i.bytes hu hi hz rfl rfl hzs hsz (.slice A n c) n xs hown ad m c2 news hr.len hc h1 hmb hbb hb;refine q97 hrun ?_;have hv:∃ A' c',v'=.slice A' (n+m) c'∧((A'=none∧n+m=0)∨∃ g,A'=some ⟨g,0,none⟩):=by
   rcases ho.2 with ⟨h2,h3⟩ | ⟨g,cap,cur,h2,_⟩
   ·exact ⟨none,0,by rw [h2,h3],.inl ⟨rfl,h3⟩⟩
   ·exact ⟨some ⟨g,0,none⟩,cap,h2,.inr ⟨g,rfl⟩⟩
  obtain ⟨A',c',rfl,hA'⟩:=hv;refine hK A' c' w' ho (Kp.of_grown hg fun k _ hk hn=>?_) ?_
  ·cases A with
   | none=>simp [Value.ownBlock] at hk
   | some a=>simp [Value.ownBlock] at hk; exact hn a rfl hk
  ·rcases hA' with ⟨_,h0⟩ | ⟨g,rfl⟩
   ·omega
   ·rcases hat with h | h
    ·left
     rcases hown.form with ⟨rfl,_⟩ | ⟨g',_,rfl,_⟩
     ·simp [Value.ownBlock] at h
     ·simp [Value.ownBlock] at h; rw [h]
    ·right
     simp [Value.ownBlock] at h; rw [h]
theorem qnu {T E:Nat} {bytes:Nat} {z v:Value} (he:q08 P T=some (E,1,bytes,#[z])) (hv:v.cells=#[v]):bsV P T 1 [(0,v)]=some (E,v.cells):=by
 unfold bsV;simp only [he];have hr:Array.range 1=#[0]:=rfl;simp [Instr.fill,hv,hr]
theorem q1P {E len:Nat} {cs:Array Value}
  (hK:∀ w',Ext w w'→Blk w' w.heap.size E cs→w.heap.size < w'.heap.size→K (.slice (some ⟨w.heap.size,0,none⟩) len len) w'):bsW (some (E,cs)) len w K:=by
 rw [bsW_s];exact hK _ (Kp.alloc w _) (Blk.new w E cs) (by simp)
theorem qgs {T ty E sz bytes:Nat} {z:Array Value} {x:Value} (he:q08 P T=some (E,sz,bytes,z)) (hzs:z.size=sz) (hsz:0 < sz) (hbs:bsV P T 1 [(0,x)]=some (E,x.cells)) (hxs:x.cells.size=sz) (h1:∀ u ∈ x.cells.toList,u.oneCell'=true)
  {B n c:Nat} {A:Option Addr} {xs:List Value} (hown:Own w B E sz A n c xs) (hlen:(n+1)*(bytes+1)≤140737488355328) (hb:B≤w.heap.size) {K:Value→Value→World→Prop}
  (hK:∀ v1 A' c' w',Own w' B E sz A' (n+1) c' (xs ++ x.cells.toList)→Kp (nb A) w w'→(A'=A∨∃ g,w.heap.size≤g∧A'=some ⟨g,0,none⟩)→K v1 (.slice A' (n+1) c') w') :
  q6q P T ty (.slice A n c) x w K:=by
 refine qgt ?_;rw [hbs];refine q1P fun w1 hx hblk hlt=>?_;have hr:Row w1 (fun _=>True) sz (some ⟨w.heap.size,0,none⟩) 1 1 x.cells.toList:=by
  refine ⟨Nat.le_refl _,by simp [hxs],fun _=>⟨_,rfl,trivial,fun j u hu=>?_⟩⟩;rw [q02,Nat.zero_add,hblk.cell];simpa using hu
 refine q1i he hzs hsz (hown.ext hx) hr h1 hlen (Nat.le_trans hb hx.size) fun A' c' w' ho hk hat=>?_;refine hK _ A' c' w' ho (Kp.trans (Kp.of_ext hx) hk) ?_
 rcases hat with h | h
 ·exact .inl h
 ·exact .inr ⟨_,hx.size,h⟩
theorem push1 {T ty E bytes:Nat} {z x:Value} (he:q08 P T=some (E,1,bytes,#[z])) (hv:x.cells=#[x]) (h1:x.oneCell'=true)
  {B n c:Nat} {A:Option Addr} {xs:List Value} (hown:Own w B E 1 A n c xs) (hlen:(n+1)*(bytes+1)≤140737488355328) (hb:B≤w.heap.size) {K:Value→Value→World→Prop}
  (hK:∀ v1 A' c' w',Own w' B E 1 A' (n+1) c' (xs ++ [x])→Kp (nb A) w w'→(A'=A∨∃ g,w.heap.size≤g∧A'=some ⟨g,0,none⟩)→K v1 (.slice A' (n+1) c') w') :
  q6q P T ty (.slice A n c) x w K :=
 qgs he rfl Oq (qnu he hv) (by rw [hv]; rfl) (fun u hu=>by rw [hv] at hu; simp at hu; subst hu; exact h1) hown hlen hb fun v1 A' c' w' ho hk hat=>hK v1 A' c' w' (by rw [hv] at ho; exact ho) hk hat
end
end Go.E
namespace Go.Proofs.YtbcmhlhgljoolaaGreatDoor
open Go Go.E
set_option maxRecDepth 100000
theorem agg3:q0d Tryz.prog 3=some none:=by kernel_rfl
theorem agg4:q0d Tryz.prog 4=some none:=by kernel_rfl
theorem agg5:q0d Tryz.prog 5=some none:=by kernel_rfl
theorem agg23:q0d Tryz.prog 23=some none:=by kernel_rfl
theorem agg24:q0d Tryz.prog 24=some none:=by kernel_rfl
theorem agg25:q0d Tryz.prog 25=some none:=by kernel_rfl
theorem agg27:q0d Tryz.prog 27=some (some 4):=by kernel_rfl
theorem agg29:q0d Tryz.prog 29=some none:=by kernel_rfl
theorem agg30:q0d Tryz.prog 30=some none:=by kernel_rfl
theorem agg33:q0d Tryz.prog 33=some none:=by kernel_rfl
theorem agg52:q0d Tryz.prog 52=some (some 5):=by kernel_rfl
theorem agg70:q0d Tryz.prog 70=some none:=by kernel_rfl
theorem q1X:q0d Tryz.prog 72=some (some 2):=by kernel_rfl
theorem q80:q0d Tryz.prog 74=some (some 4):=by kernel_rfl
theorem qtX:q0d Tryz.prog 105=some none:=by kernel_rfl
theorem qtW:q0d Tryz.prog 125=some none:=by kernel_rfl
theorem qtV:q0d Tryz.prog 135=some none:=by kernel_rfl
theorem qtU:q0d Tryz.prog 141=some (some 1):=by kernel_rfl
theorem qtT:q0d Tryz.prog 147=some none:=by kernel_rfl
theorem qtS:q0d Tryz.prog 155=some (some 5):=by kernel_rfl
theorem qtR:q0d Tryz.prog 224=some (some 3):=by kernel_rfl
theorem qmz:q0l Tryz.prog 27 0=some 0:=by kernel_rfl
theorem qmy:q0l Tryz.prog 27 1=some 1:=by kernel_rfl
theorem qmx:q0l Tryz.prog 27 2=some 2:=by kernel_rfl
theorem qmw:q0l Tryz.prog 27 3=some 3:=by kernel_rfl
theorem qmv:q0l Tryz.prog 52 0=some 0:=by kernel_rfl
theorem qmu:q0l Tryz.prog 52 1=some 1:=by kernel_rfl
theorem qmt:q0l Tryz.prog 52 2=some 2:=by kernel_rfl
theorem qms:q0l Tryz.prog 52 3=some 3:=by kernel_rfl
theorem qmr:q0l Tryz.prog 52 4=some 4:=by kernel_rfl
theorem qmq:q0l Tryz.prog 72 0=some 0:=by kernel_rfl
theorem qmp:q0l Tryz.prog 72 1=some 1:=by kernel_rfl
theorem qmo:q0l Tryz.prog 74 0=some 0:=by kernel_rfl
theorem qmn:q0l Tryz.prog 74 1=some 1:=by kernel_rfl
theorem qmm:q0l Tryz.prog 74 2=some 3:=by kernel_rfl
theorem qhs:q0l Tryz.prog 141 0=some 0:=by kernel_rfl
theorem qhr:q0l Tryz.prog 155 0=some 0:=by kernel_rfl
theorem qhq:q0l Tryz.prog 155 1=some 1:=by kernel_rfl
theorem qhp:q0l Tryz.prog 155 2=some 3:=by kernel_rfl
theorem qho:q0l Tryz.prog 155 3=some 4:=by kernel_rfl
theorem qhn:q0l Tryz.prog 220 0=some 0:=by kernel_rfl
theorem qhm:q0l Tryz.prog 220 1=some 1:=by kernel_rfl
theorem qhl:q0l Tryz.prog 224 0=some 0:=by kernel_rfl
theorem qhk:q0l Tryz.prog 224 1=some 1:=by kernel_rfl
theorem qhj:q0l Tryz.prog 224 2=some 2:=by kernel_rfl
theorem esz22:q0p Tryz.prog 22=some 1:=by kernel_rfl
theorem esz23:q0p Tryz.prog 23=some 1:=by kernel_rfl
theorem esz24:q0p Tryz.prog 24=some 1:=by kernel_rfl
theorem esz25:q0p Tryz.prog 25=some 1:=by kernel_rfl
theorem esz33:q0p Tryz.prog 33=some 1:=by kernel_rfl
theorem esz70:q0p Tryz.prog 70=some 1:=by kernel_rfl
theorem esz99:q0p Tryz.prog 99=some 1:=by kernel_rfl
theorem qr8:q0p Tryz.prog 105=some 1:=by kernel_rfl
theorem qr7:q0p Tryz.prog 125=some 4:=by kernel_rfl
theorem qr6:q0p Tryz.prog 147=some 1:=by kernel_rfl
theorem qr5:q0p Tryz.prog 221=some 3:=by kernel_rfl
theorem elm22:q08 Tryz.prog 22=some (29,1,8,#[.int .u64 0]):=by kernel_rfl
theorem elm23:q08 Tryz.prog 23=some (4,1,1,#[.bool false]):=by kernel_rfl
theorem q5l:q08 Tryz.prog 24=some (3,1,8,#[.int .i64 0]):=by kernel_rfl
theorem elm25:q08 Tryz.prog 25=some (30,1,8,#[.int .u64 0]):=by kernel_rfl
theorem elm33:q08 Tryz.prog 33=some (24,1,24,#[.slice none 0 0]):=by kernel_rfl
theorem qnI:q08 Tryz.prog 70=some (135,1,4,#[.int .u32 0]):=by kernel_rfl
theorem elm99:q08 Tryz.prog 99=some (125,1,24,#[.slice none 0 0]):=by kernel_rfl
theorem qre:q08 Tryz.prog 105=some (25,1,24,#[.slice none 0 0]):=by kernel_rfl
theorem qem:q08 Tryz.prog 125=some (74,4,48,#[.bool false,.bool false,.slice none 0 0,.int .i64 0]):=by kernel_rfl
theorem qrd:q08 Tryz.prog 147=some (23,1,24,#[.slice none 0 0]):=by kernel_rfl
theorem qrc:q08 Tryz.prog 221=some (224,3,24,#[.int .i64 0,.int .i64 0,.int .u64 0]):=by kernel_rfl
theorem zer3:q2E Tryz.prog 3=some #[.int .i64 0]:=by kernel_rfl
theorem zer27:q2E Tryz.prog 27=some #[.slice none 0 0,.slice none 0 0,.slice none 0 0,.slice none 0 0]:=by kernel_rfl
theorem zer52:q2E Tryz.prog 52=some #[.int .i64 0,.int .i64 0,.slice none 0 0,.slice none 0 0,.slice none 0 0]:=by kernel_rfl
theorem zer72:q2E Tryz.prog 72=some #[.bool false,.slice none 0 0]:=by kernel_rfl
theorem zer74:q2E Tryz.prog 74=some #[.bool false,.bool false,.slice none 0 0,.int .i64 0]:=by kernel_rfl
theorem qpH:q2E Tryz.prog 141=some #[.slice none 0 0]:=by kernel_rfl
theorem qpG:q2E Tryz.prog 155=some #[.bool false,.bool false,.slice none 0 0,.int .i64 0,.bool false]:=by kernel_rfl
theorem qpF:q2E Tryz.prog 220=some #[.slice none 0 0,.slice none 0 0]:=by kernel_rfl
theorem qpE:q2E Tryz.prog 224=some #[.int .i64 0,.int .i64 0,.int .u64 0]:=by kernel_rfl
theorem qpD:q2E Tryz.prog 241=some #[.int .u8 0,.int .u8 0,.int .u8 0,.int .u8 0,.int .u8 0,.int .u8 0,.int .u8 0,.int .u8 0,.int .u8 0,.int .u8 0,.int .u8 0,.int .u8 0,.int .u8 0,.int .u8 0,.int .u8 0,.int .u8 0,.int .u8 0,.int .u8 0,.int .u8 0,.int .u8 0,.int .u8 0,.int .u8 0,.int .u8 0,.int .u8 0,.int .u8 0,.int .u8 0,.int .u8 0,.int .u8 0,.int .u8 0,.int .u8 0,.int .u8 0,.int .u8 0]:=by kernel_rfl
theorem siz3:q04 Tryz.prog 3=some 1:=by kernel_rfl
theorem siz4:q04 Tryz.prog 4=some 1:=by kernel_rfl
theorem siz24:q04 Tryz.prog 24=some 1:=by kernel_rfl
theorem siz25:q04 Tryz.prog 25=some 1:=by kernel_rfl
theorem qpn:q04 Tryz.prog 27=some 4:=by kernel_rfl
theorem qpm:q04 Tryz.prog 30=some 1:=by kernel_rfl
theorem siz33:q04 Tryz.prog 33=some 1:=by kernel_rfl
theorem siz52:q04 Tryz.prog 52=some 5:=by kernel_rfl
theorem q0u:q04 Tryz.prog 72=some 2:=by kernel_rfl
theorem q51:q04 Tryz.prog 74=some 4:=by kernel_rfl
theorem qpu:q04 Tryz.prog 105=some 1:=by kernel_rfl
theorem qcm:q04 Tryz.prog 125=some 1:=by kernel_rfl
theorem qjP:q04 Tryz.prog 135=some 1:=by kernel_rfl
theorem qpt:q04 Tryz.prog 141=some 1:=by kernel_rfl
theorem qps:q04 Tryz.prog 147=some 1:=by kernel_rfl
theorem qpr:q04 Tryz.prog 155=some 5:=by kernel_rfl
theorem qpq:q04 Tryz.prog 220=some 2:=by kernel_rfl
theorem qpp:q04 Tryz.prog 224=some 3:=by kernel_rfl
theorem qpo:q04 Tryz.prog 241=some 32:=by kernel_rfl
theorem und3:Tryz.prog.underlying 3=some (.int .i64):=by kernel_rfl
theorem und4:Tryz.prog.underlying 4=some .bool:=by kernel_rfl
theorem beq4 {x y:Bool}:q0y Tryz.prog .eql 4 (.bool x) (.bool y)=some (.bool (x == y)):=qaz und4
theorem bne4 {x y:Bool}:q0y Tryz.prog .neq 4 (.bool x) (.bool y)=some (.bool (x != y)):=qay und4
theorem und5:Tryz.prog.underlying 5=some (.int .u8):=by kernel_rfl
theorem qpU:Tryz.prog.underlying 24=some (.slice 3):=by kernel_rfl
theorem nil24 {A:Option Addr} {n c n2 c2:Nat}:q0y Tryz.prog .eql 24 (.slice A n c) (.slice none n2 c2)=some (.bool A.isNone):=q95 qpU
theorem qql {A:Option Addr} {n c n2 c2:Nat}:q0y Tryz.prog .neq 24 (.slice A n c) (.slice none n2 c2)=some (.bool A.isSome):=q7S qpU
theorem qpT:Tryz.prog.underlying 25=some (.slice 30):=by kernel_rfl
theorem nil25 {A:Option Addr} {n c n2 c2:Nat}:q0y Tryz.prog .eql 25 (.slice A n c) (.slice none n2 c2)=some (.bool A.isNone):=q95 qpT
theorem qqk {A:Option Addr} {n c n2 c2:Nat}:q0y Tryz.prog .neq 25 (.slice A n c) (.slice none n2 c2)=some (.bool A.isSome):=q7S qpT
theorem qpS:Tryz.prog.underlying 29=some (.int .u64):=by kernel_rfl
theorem und30:Tryz.prog.underlying 30=some (.int .u64):=by kernel_rfl
theorem und34:Tryz.prog.underlying 34=some (.int .i64):=by kernel_rfl
theorem qpR:Tryz.prog.underlying 70=some (.slice 135):=by kernel_rfl
theorem nil70 {A:Option Addr} {n c n2 c2:Nat}:q0y Tryz.prog .eql 70 (.slice A n c) (.slice none n2 c2)=some (.bool A.isNone):=q95 qpR
theorem qqj {A:Option Addr} {n c n2 c2:Nat}:q0y Tryz.prog .neq 70 (.slice A n c) (.slice none n2 c2)=some (.bool A.isSome):=q7S qpR
theorem und81:Tryz.prog.underlying 81=some (.int .u64):=by kernel_rfl
theorem qpV:Tryz.prog.underlying 135=some (.int .u32):=by kernel_rfl
theorem qsf  : Tryz.prog.built 27 []=some #[.slice none 0 0,.slice none 0 0,.slice none 0 0,.slice none 0 0]:=by kernel_rfl
theorem qf5 {x0A:Option Addr} {x0n x0c:Nat} {x1A:Option Addr} {x1n x1c:Nat}:Tryz.prog.built 27 [(0,(.slice x0A x0n x0c)),(1,(.slice x1A x1n x1c))]=some #[.slice x0A x0n x0c,.slice x1A x1n x1c,.slice none 0 0,.slice none 0 0]:=by kernel_rfl
theorem q7Q {x0A:Option Addr} {x0n x0c:Nat} {x1A:Option Addr} {x1n x1c:Nat} {x2A:Option Addr} {x2n x2c:Nat} {x3A:Option Addr} {x3n x3c:Nat}:Tryz.prog.built 27 [(0,(.slice x0A x0n x0c)),(1,(.slice x1A x1n x1c)),(2,(.slice x2A x2n x2c)),(3,(.slice x3A x3n x3c))]=some #[.slice x0A x0n x0c,.slice x1A x1n x1c,.slice x2A x2n x2c,.slice x3A x3n x3c]:=by kernel_rfl
theorem qse  : Tryz.prog.built 52 []=some #[.int .i64 0,.int .i64 0,.slice none 0 0,.slice none 0 0,.slice none 0 0]:=by kernel_rfl
theorem q90 {x0:Int} {x1:Int} {x2A:Option Addr} {x2n x2c:Nat}:Tryz.prog.built 52 [(0,(.int .i64 x0)),(1,(.int .i64 x1)),(2,(.slice x2A x2n x2c))]=some #[.int .i64 x0,.int .i64 x1,.slice x2A x2n x2c,.slice none 0 0,.slice none 0 0]:=by kernel_rfl
theorem q5q {x0:Int} {x1:Int} {x2A:Option Addr} {x2n x2c:Nat} {x3A:Option Addr} {x3n x3c:Nat} {x4A:Option Addr} {x4n x4c:Nat}:Tryz.prog.built 52 [(0,(.int .i64 x0)),(1,(.int .i64 x1)),(2,(.slice x2A x2n x2c)),(3,(.slice x3A x3n x3c)),(4,(.slice x4A x4n x4c))]=some #[.int .i64 x0,.int .i64 x1,.slice x2A x2n x2c,.slice x3A x3n x3c,.slice x4A x4n x4c]:=by kernel_rfl
theorem qsd  : Tryz.prog.built 72 []=some #[.bool false,.slice none 0 0]:=by kernel_rfl
theorem qf4 {x0:Bool} {x1A:Option Addr} {x1n x1c:Nat}:Tryz.prog.built 72 [(0,(.bool x0)),(1,(.slice x1A x1n x1c))]=some #[.bool x0,.slice x1A x1n x1c]:=by kernel_rfl
theorem qsc  : Tryz.prog.built 74 []=some #[.bool false,.bool false,.slice none 0 0,.int .i64 0]:=by kernel_rfl
theorem qnz {x0:Bool}:Tryz.prog.built 74 [(0,(.bool x0))]=some #[.bool x0,.bool false,.slice none 0 0,.int .i64 0]:=by kernel_rfl
theorem qf3 {x10:Bool} {x11A:Option Addr} {x11n x11c:Nat} {x2:Int}:Tryz.prog.built 74 [(1,.agg #[.bool x10,.slice x11A x11n x11c]),(2,(.int .i64 x2))]=some #[.bool false,.bool x10,.slice x11A x11n x11c,.int .i64 x2]:=by kernel_rfl
theorem qoA  : Tryz.prog.built 141 []=some #[.slice none 0 0]:=by kernel_rfl
theorem q8U {x0:Bool} {x10:Bool} {x11A:Option Addr} {x11n x11c:Nat} {x2:Int}:Tryz.prog.built 155 [(0,(.bool x0)),(1,.agg #[.bool x10,.slice x11A x11n x11c]),(2,(.int .i64 x2))]=some #[.bool x0,.bool x10,.slice x11A x11n x11c,.int .i64 x2,.bool false]:=by kernel_rfl
theorem q6B {x0:Bool} {x10:Bool} {x11A:Option Addr} {x11n x11c:Nat} {x2:Int} {x3:Bool}:Tryz.prog.built 155 [(0,(.bool x0)),(1,.agg #[.bool x10,.slice x11A x11n x11c]),(2,(.int .i64 x2)),(3,(.bool x3))]=some #[.bool x0,.bool x10,.slice x11A x11n x11c,.int .i64 x2,.bool x3]:=by kernel_rfl
theorem qbr {x0A:Option Addr} {x0n x0c:Nat} {x1A:Option Addr} {x1n x1c:Nat}:Tryz.prog.built 220 [(0,(.slice x0A x0n x0c)),(1,(.slice x1A x1n x1c))]=some #[.slice x0A x0n x0c,.slice x1A x1n x1c]:=by kernel_rfl
theorem q8T {x0:Int} {x1:Int} {x2:Int}:Tryz.prog.built 224 [(0,(.int .i64 x0)),(1,(.int .i64 x1)),(2,(.int .u64 x2))]=some #[.int .i64 x0,.int .i64 x1,.int .u64 x2]:=by kernel_rfl
theorem qnt:bsV Tryz.prog 24 0 []=some (3,#[]):=by kernel_rfl
theorem qns {x0:Int}:bsV Tryz.prog 24 1 [(0,(.int .i64 x0))]=some (3,#[.int .i64 x0]):=by kernel_rfl
theorem qnr {x0:Int} {x1:Int}:bsV Tryz.prog 24 2 [(0,(.int .i64 x0)),(1,(.int .i64 x1))]=some (3,#[.int .i64 x0,.int .i64 x1]):=by kernel_rfl
theorem qnq {x0:Int} {x1:Int} {x2:Int}:bsV Tryz.prog 24 3 [(0,(.int .i64 x0)),(1,(.int .i64 x1)),(2,(.int .i64 x2))]=some (3,#[.int .i64 x0,.int .i64 x1,.int .i64 x2]):=by kernel_rfl
theorem qnp:bsV Tryz.prog 25 0 []=some (30,#[]):=by kernel_rfl
theorem qno {x0:Int}:bsV Tryz.prog 25 1 [(0,(.int .u64 x0))]=some (30,#[.int .u64 x0]):=by kernel_rfl
theorem qnn {x0:Int} {x1:Int}:bsV Tryz.prog 25 2 [(0,(.int .u64 x0)),(1,(.int .u64 x1))]=some (30,#[.int .u64 x0,.int .u64 x1]):=by kernel_rfl
theorem qnm {x0:Int} {x1:Int} {x2:Int}:bsV Tryz.prog 25 3 [(0,(.int .u64 x0)),(1,(.int .u64 x1)),(2,(.int .u64 x2))]=some (30,#[.int .u64 x0,.int .u64 x1,.int .u64 x2]):=by kernel_rfl
theorem qnl {x0A:Option Addr} {x0n x0c:Nat}:bsV Tryz.prog 33 1 [(0,(.slice x0A x0n x0c))]=some (24,#[.slice x0A x0n x0c]):=by kernel_rfl
theorem qnk:bsV Tryz.prog 70 0 []=some (135,#[]):=by kernel_rfl
theorem qnj {x0:Int}:bsV Tryz.prog 70 1 [(0,(.int .u32 x0))]=some (135,#[.int .u32 x0]):=by kernel_rfl
theorem qni {x0:Int} {x1:Int}:bsV Tryz.prog 70 2 [(0,(.int .u32 x0)),(1,(.int .u32 x1))]=some (135,#[.int .u32 x0,.int .u32 x1]):=by kernel_rfl
theorem qi4 {x0A:Option Addr} {x0n x0c:Nat}:bsV Tryz.prog 105 1 [(0,(.slice x0A x0n x0c))]=some (25,#[.slice x0A x0n x0c]):=by kernel_rfl
theorem qi3 {x0A:Option Addr} {x0n x0c:Nat} {x1A:Option Addr} {x1n x1c:Nat}:bsV Tryz.prog 105 2 [(0,(.slice x0A x0n x0c)),(1,(.slice x1A x1n x1c))]=some (25,#[.slice x0A x0n x0c,.slice x1A x1n x1c]):=by kernel_rfl
theorem qi2 {x00:Bool} {x010:Bool} {x011A:Option Addr} {x011n x011c:Nat} {x02:Int}:bsV Tryz.prog 125 1 [(0,.agg #[.bool x00,.bool x010,.slice x011A x011n x011c,.int .i64 x02])]=some (74,#[.bool x00,.bool x010,.slice x011A x011n x011c,.int .i64 x02]):=by kernel_rfl
theorem qi1 {x00:Bool} {x010:Bool} {x011A:Option Addr} {x011n x011c:Nat} {x02:Int} {x10:Bool} {x110:Bool} {x111A:Option Addr} {x111n x111c:Nat} {x12:Int}:bsV Tryz.prog 125 2 [(0,.agg #[.bool x00,.bool x010,.slice x011A x011n x011c,.int .i64 x02]),(1,.agg #[.bool x10,.bool x110,.slice x111A x111n x111c,.int .i64 x12])]=some (74,#[.bool x00,.bool x010,.slice x011A x011n x011c,.int .i64 x02,.bool x10,.bool x110,.slice x111A x111n x111c,.int .i64 x12]):=by kernel_rfl
theorem qi0 {x0A:Option Addr} {x0n x0c:Nat}:bsV Tryz.prog 147 1 [(0,(.slice x0A x0n x0c))]=some (23,#[.slice x0A x0n x0c]):=by kernel_rfl
theorem qiZ {x00:Int} {x01:Int} {x02:Int}:bsV Tryz.prog 221 1 [(0,.agg #[.int .i64 x00,.int .i64 x01,.int .u64 x02])]=some (224,#[.int .i64 x00,.int .i64 x01,.int .u64 x02]):=by kernel_rfl
theorem qs3:q0C Tryz.prog 11=true:=by kernel_rfl
theorem qs2:q0C Tryz.prog 12=true:=by kernel_rfl
theorem qnh:q0C Tryz.prog 13=true:=by kernel_rfl
theorem qs1:q0C Tryz.prog 15=true:=by kernel_rfl
theorem qs0:q0C Tryz.prog 16=true:=by kernel_rfl
theorem qfN:q0C Tryz.prog 25=true:=by kernel_rfl
theorem qsZ:q0C Tryz.prog 32=true:=by kernel_rfl
theorem qbq:q0C Tryz.prog 34=true:=by kernel_rfl
theorem qsY:q0C Tryz.prog 38=true:=by kernel_rfl
theorem qsX:q0C Tryz.prog 41=true:=by kernel_rfl
theorem qiY:q0C Tryz.prog 42=true:=by kernel_rfl
theorem qsW:q0C Tryz.prog 43=true:=by kernel_rfl
theorem qsV:q0C Tryz.prog 47=true:=by kernel_rfl
theorem qsU:q0C Tryz.prog 49=true:=by kernel_rfl
theorem qng:q0C Tryz.prog 59=true:=by kernel_rfl
theorem qsT:q0C Tryz.prog 60=true:=by kernel_rfl
theorem qsS:q0C Tryz.prog 61=true:=by kernel_rfl
theorem qfI:q0C Tryz.prog 62=true:=by kernel_rfl
theorem qsR:q0C Tryz.prog 63=true:=by kernel_rfl
theorem qsQ:q0C Tryz.prog 64=true:=by kernel_rfl
theorem qsP:q0C Tryz.prog 88=true:=by kernel_rfl
theorem qnf:q0C Tryz.prog 91=true:=by kernel_rfl
theorem qsO:q0C Tryz.prog 92=true:=by kernel_rfl
theorem qne:q0C Tryz.prog 94=true:=by kernel_rfl
theorem qau:q0C Tryz.prog 101=true:=by kernel_rfl
theorem q8S:q0C Tryz.prog 103=true:=by kernel_rfl
theorem qka:q0C Tryz.prog 104=true:=by kernel_rfl
theorem qk9:q0C Tryz.prog 112=true:=by kernel_rfl
theorem qk8:q0C Tryz.prog 127=true:=by kernel_rfl
theorem qk7:q0C Tryz.prog 128=true:=by kernel_rfl
theorem qk6:q0C Tryz.prog 133=true:=by kernel_rfl
theorem qk5:q0C Tryz.prog 134=true:=by kernel_rfl
theorem qf1:q0C Tryz.prog 137=true:=by kernel_rfl
theorem qf0:q0C Tryz.prog 148=true:=by kernel_rfl
theorem qat:q0C Tryz.prog 150=true:=by kernel_rfl
theorem qas:q0C Tryz.prog 151=true:=by kernel_rfl
theorem qfZ:q0C Tryz.prog 152=true:=by kernel_rfl
theorem qfY:q0C Tryz.prog 153=true:=by kernel_rfl
theorem qar:q0C Tryz.prog 154=true:=by kernel_rfl
theorem qaq:q0C Tryz.prog 155=true:=by kernel_rfl
theorem q6Y:q0C Tryz.prog 157=true:=by kernel_rfl
theorem qk4:q0C Tryz.prog 158=true:=by kernel_rfl
theorem qk3:q0C Tryz.prog 159=true:=by kernel_rfl
theorem qk2:q0C Tryz.prog 166=true:=by kernel_rfl
theorem qk1:q0C Tryz.prog 167=true:=by kernel_rfl
theorem qk0:q0C Tryz.prog 168=true:=by kernel_rfl
theorem qkZ:q0C Tryz.prog 169=true:=by kernel_rfl
theorem qfX:q0C Tryz.prog 172=true:=by kernel_rfl
theorem qkY:q0C Tryz.prog 173=true:=by kernel_rfl
theorem qap:q0C Tryz.prog 174=true:=by kernel_rfl
theorem qfW:q0C Tryz.prog 176=true:=by kernel_rfl
theorem qkX:q0C Tryz.prog 195=true:=by kernel_rfl
theorem q2X:q0C Tryz.prog 196=true:=by kernel_rfl
theorem q6X:q0C Tryz.prog 197=true:=by kernel_rfl
theorem q2s:q0C Tryz.prog 208=true:=by kernel_rfl
theorem qfV:q0C Tryz.prog 209=true:=by kernel_rfl
theorem qkW:q0C Tryz.prog 210=true:=by kernel_rfl
theorem qkV:q0C Tryz.prog 211=true:=by kernel_rfl
theorem q4A:q0C Tryz.prog 212=true:=by kernel_rfl
theorem q2r:q0C Tryz.prog 213=true:=by kernel_rfl
theorem qkU:q0C Tryz.prog 214=true:=by kernel_rfl
theorem qfU:q0C Tryz.prog 215=true:=by kernel_rfl
theorem qfT:q0C Tryz.prog 216=true:=by kernel_rfl
theorem qao:q0C Tryz.prog 217=true:=by kernel_rfl
theorem qan:q0C Tryz.prog 218=true:=by kernel_rfl
theorem qfS:q0C Tryz.prog 219=true:=by kernel_rfl
theorem qam:q0C Tryz.prog 220=true:=by kernel_rfl
theorem qfR:q0C Tryz.prog 222=true:=by kernel_rfl
theorem qkT:q0C Tryz.prog 226=true:=by kernel_rfl
theorem qkS:q0C Tryz.prog 229=true:=by kernel_rfl
theorem qfQ:q0C Tryz.prog 233=true:=by kernel_rfl
theorem q1H:q0C Tryz.prog 238=true:=by kernel_rfl
theorem qkR:q0C Tryz.prog 241=true:=by kernel_rfl
theorem qkQ:q0C Tryz.prog 242=true:=by kernel_rfl
theorem qfP:q0C Tryz.prog 243=true:=by kernel_rfl
theorem qfO:q0C Tryz.prog 244=true:=by kernel_rfl
theorem q6W:q0C Tryz.prog 246=true:=by kernel_rfl
theorem qkP:q0C Tryz.prog 247=true:=by kernel_rfl
theorem qkO:q0C Tryz.prog 256=true:=by kernel_rfl
theorem qkN:q0C Tryz.prog 261=true:=by kernel_rfl
theorem qfM:q0C Tryz.prog 262=true:=by kernel_rfl
theorem qal:q0C Tryz.prog 263=true:=by kernel_rfl
theorem qkM:q0C Tryz.prog 264=true:=by kernel_rfl
theorem qfL:q0C Tryz.prog 265=true:=by kernel_rfl
theorem qkL:q0C Tryz.prog 266=true:=by kernel_rfl
theorem qkK:q0C Tryz.prog 267=true:=by kernel_rfl
theorem qkJ:q0C Tryz.prog 268=true:=by kernel_rfl
theorem qfK:q0C Tryz.prog 269=true:=by kernel_rfl
theorem qkI:q0C Tryz.prog 270=true:=by kernel_rfl
theorem qkH:q0C Tryz.prog 271=true:=by kernel_rfl
theorem qfJ:q0C Tryz.prog 272=true:=by kernel_rfl
theorem qkG:q0C Tryz.prog 273=true:=by kernel_rfl
theorem qkF:q0C Tryz.prog 274=true:=by kernel_rfl
theorem q0j:Tryz.prog.follows .mixedOrders=true:=by kernel_rfl
attribute [go_sem] agg3 agg4 agg5 agg23 agg24 agg25 agg27 agg29 agg30 agg33 agg52 agg70 q1X q80 qtX qtW qtV qtU qtT qtS qtR qmz qmy qmx qmw qmv qmu qmt qms qmr
attribute [go_sem] qmq qmp qmo qmn qmm qhs qhr qhq qhp qho qhn qhm qhl qhk qhj esz22 esz23 esz24 esz25 esz33 esz70 esz99 qr8 qr7 qr6 qr5 elm22
attribute [go_sem] elm23 q5l elm25 elm33 qnI elm99 qre qem qrd qrc zer3 zer27 zer52 zer72 zer74 qpH qpG qpF qpE qpD siz3 siz4 siz24 siz25 qpn qpm siz33 siz52 q0u q51 qpu qcm qjP qpt
attribute [go_sem] qps qpr qpq qpp qpo und3 und4 beq4 bne4 und5 nil24 qql nil25 qqk qpS und30 und34 nil70 qqj und81 qpV qsf qf5 q7Q qse q90 q5q qsd qf4 qsc qnz qf3 qoA q8U q6B qbr
attribute [go_sem] q8T qnt qns qnr qnq qnp qno qnn qnm qnl qnk qnj qni qi4 qi3 qi2 qi1 qi0 qiZ qs3 qs2 qnh qs1 qs0
attribute [go_sem] qfN qsZ qbq qsY qsX qiY qsW qsV qsU qng qsT qsS qfI
attribute [go_sem] qsR qsQ qsP qnf qsO qne qau
attribute [go_sem] q8S qka qk9 qk8 qk7 qk6 qk5 qf1
attribute [go_sem] qf0 qat qas qfZ qfY qar qaq q6Y qk4 qk3 qk2 qk1 qk0 qkZ qfX qkY qap qfW
attribute [go_sem] qkX q2X q6X q2s qfV qkW qkV q4A q2r qkU qfU qfT qao qan qfS qam qfR
attribute [go_sem] qkT qkS qfQ q1H qkR qkQ qfP qfO q6W qkP qkO qkN qfM
attribute [go_sem] qal qkM qfL qkL qkK qkJ qfK qkI qkH qfJ qkG qkF q0j
open Go.Sp
def dg (l:List Nat) (i:Nat):Nat:=l.getD i 0
def q75 (d:Nat):Value:=.int .u32 d
def U32 (w:World) (D:Nat→Prop) (A:Option Addr) (n c:Nat) (l:List Nat):Prop:=Row w D 1 A n c (l.map q75)∧q1w l
section
variable {w w':World} {D D':Nat→Prop} {A:Option Addr} {n c:Nat} {l:List Nat}
theorem U32.len (h:U32 w D A n c l):l.length=n:=by have:=h.1.len; simpa using this
theorem U32.cap (h:U32 w D A n c l):n≤c:=h.1.cap
theorem U32.cell (h:U32 w D A n c l) {j:Nat} (hj:j < n):∃ ad,A=some ad∧w.cell? (ad.add j)=some (.int .u32 ((dg l j:Nat):Int)):=by
 have hl:=h.len;obtain ⟨ad,rfl,hc⟩:=h.1.get (j:=j) (by simp; omega);refine ⟨ad,rfl,?_⟩;rw [hc]; simp [q75,dg,show j < l.length by omega]
theorem U32.dg_lt (h:U32 w D A n c l) (j:Nat):dg l j < 4294967296:=h.2.get j
theorem U32.kp (h:U32 w D A n c l) (k:Kp D w w'):U32 w' D A n c l:=⟨h.1.kp k,h.2⟩
theorem U32.ext (h:U32 w D A n c l) (k:Ext w w'):U32 w' D A n c l:=h.kp (Kp.of_ext k)
theorem U32.sub (h:U32 w D A n c l) (hs:∀ k,k < w.heap.size→D k→D' k):U32 w D' A n c l:=⟨h.1.sub hs,h.2⟩
theorem U32.take (h:U32 w D A n c l) {m:Nat} (hm:m≤n):U32 w D A m c (l.take m):=by
 have:=h.1.take hm;rw [Nat.mul_one,← List.map_take] at this;exact ⟨this,h.2.take m⟩
theorem U32.nil:U32 w D none 0 0 []:=⟨Row.nil _ _ _,q1w.nil⟩
theorem U32.trim (h:U32 w D A n c l) {m:Nat} (hm:m≤n) (hz:∀ i,m≤i→i < n→dg l i=0) (hl:m=0∨dg l (m-1)≠0):U32 w D A m c (lim (val l)):=by
 have hn:=h.len;have:=h.take hm
 rwa [qlI h.2 Oq (fun i h1 h2=>hz i h1 Oq) hl] at this
end
theorem qcX {D:Nat→Prop} {A:Option Addr} {n c:Nat} {l:List Nat} {w:World} (h:U32 w D A n c l) (hb:n≤1000000000) :
  Calls Tryz.prog 238 #[.slice A n c] w fun e w'=>∃ m,e=.returned (.slice A m c)∧w=w'∧U32 w D A m c (lim (val l)):=by
 refine q0H Tryz.func238 rfl Tryz.ntmps238 (by kernel_rfl) ?_;refine Wz ?_;refine Wz ?_;refine q0O fun K hK=>?_;have hx:∀ (e':Env) (m:Nat),e' 0=.slice A n c→e' 3=.int .i64 m→m≤n→(∀ i,m≤i→i < n→dg l i=0)→(m=0∨dg l (m-1)≠0)→K e' w:=by
  intro e' m h0 h3 hm hz hl;refine hK _ _ ?_; clear hK K;have e3:(0:Int)≤m∧(m:Int)≤c:=by have:=h.cap; omega
  refine q0A fun K hK=>?_;simp -implicitDefEqProofs (disch:=omega) only [go_sem,Nat.reduceEqDiff,Nat.reduceAdd,↓reduceIte,h0,h3,e3];refine hK _ _ ?_; clear hK K;exact q0L (q0k rfl ⟨m,rfl,rfl,h.trim hm hz hl⟩)
 clear hK;refine q09 (fun e' w'=>w'=w∧∃ m:Nat,e' 3=.int .i64 m∧m≤n∧∀ i,m≤i→i < n→dg l i=0) (fun e' _=>(RowKit.intOf (e' 3)).toNat) ⟨rfl,n,rfl,Nat.le_refl _,fun i h1 h2=>by omega⟩ ?_;rintro e1 w1 ⟨rfl,m,h3,hm,hz⟩ hk;have h0:e1 0=.slice A n c:=(hk 0 (by kernel_rfl)).trans rfl;clear hk;refine q0B fun K1 hK1=>?_
 by_cases hpos:0 < m
 ·have hpos':(0:Int) < m:=by omega
  obtain ⟨ad,rfl,hc⟩:=h.cell (j:=m-1) Oq;have e1':((m:Int)-1).toNat=m-1:=by omega
  have e2:(0:Int)≤m-1∧(m:Int)-1 < n:=by omega
  refine q0A fun K hK=>?_;simp -implicitDefEqProofs (disch:=omega) only [go_sem,Nat.reduceEqDiff,Nat.reduceAdd,↓reduceIte,h3,h0,hpos',i64_in,e1',e2,hc];refine hK _ _ ?_; clear hK K;refine q00 rfl (fun hc1=>q0G (hK1 _ _ ?_)) (fun hc1=>q03 ?_)
  ·clear hK1;refine q0Y (qbx ?_);refine Zz2 h3 @i64_in ?_;refine ⟨⟨rfl,m-1,?_,by omega,fun i h1 h2=>?_⟩,?_⟩
   ·simp only [q0F,↓reduceIte]; congr 1; omega
   ·by_cases hi:i=m-1
    ·rw [hi]; simpa using hc1
    ·exact hz i Oq h2
   ·simp only [q0F,↓reduceIte,h3,RowKit.intOf]; omega
  ·exact hx _ m (by simp only [q0F,Nat.reduceEqDiff,↓reduceIte,h0]) (by simp only [q0F,Nat.reduceEqDiff,↓reduceIte,h3]) hm hz (.inr (by simpa using hc1))
 ·have hpos':¬ (0:Int) < m:=by omega
  refine q0A fun K hK=>?_;simp -implicitDefEqProofs (disch:=omega) only [go_sem,Nat.reduceEqDiff,Nat.reduceAdd,↓reduceIte,h3,h0,hpos'];refine hK _ _ ?_; clear hK K;refine Wf (q03 ?_);exact hx _ m (by simp only [q0F,Nat.reduceEqDiff,↓reduceIte,h0]) (by simp only [q0F,Nat.reduceEqDiff,↓reduceIte,h3]) hm hz (.inl Oq)
section
variable {w w':World} {D D':Nat→Prop} {A:Option Addr} {n c B:Nat} {l:List Nat}
def q1Y (w:World) (B:Nat) (A:Option Addr) (n c:Nat) (l:List Nat):Prop:=Own w B 135 1 A n c (l.map q75)∧q1w l
theorem q1Y.u32 (h:q1Y w B A n c l) (hd:∀ k,B≤k→D k):U32 w D A n c l:=⟨h.1.row.sub fun k _ hk=>hd k hk,h.2⟩
end
theorem q6r {w:World} {ty B n c:Nat} {A:Option Addr} {l:List Nat} {x:Nat} (hO:q1Y w B A n c l) (hx:x < 4294967296) (hn:n≤2000000000) (hb:B≤w.heap.size) {K:Value→Value→World→Prop}
  (hK:∀ v1 A' c' w',q1Y w' B A' (n+1) c' (l ++ [x])→Kp (nb A) w w'→(A'=A∨∃ g,w.heap.size≤g∧A'=some ⟨g,0,none⟩)→K v1 (.slice A' (n+1) c') w') :
  q6q Tryz.prog 70 ty (.slice A n c) (.int .u32 x) w K :=
 push1 (x:=.int .u32 x) qnI rfl rfl hO.1 Oq hb fun v1 A' c' w' ho hk hat=>hK v1 A' c' w' ⟨by simpa [q75] using ho,hO.2.snoc hx⟩ hk hat
section
variable {P:Program} {w:World} {K:Value→World→Prop}
theorem q7y {el b:Nat} {z:Value} {l c:Nat} (hl:l≤c) (hc:b*c≤281474976710656) (hc2:c≤maxLen)
  (hK:∀ w',Ext w w'→Own w' w.heap.size el 1 (some ⟨w.heap.size,0,none⟩) l c (List.replicate l z)→w'.heap.size=w.heap.size+1→K (.slice (some ⟨w.heap.size,0,none⟩) l c) w') :
  mkW (some (el,1,b,#[z])) (.int .i64 l) (.int .i64 c) w K:=by
 rw [mkW_i];refine ⟨⟨by omega,by omega,?_,by unfold maxLen at hc2; omega⟩,?_⟩
 ·have:((b*c:Nat):Int)≤281474976710656:=by omega
  rwa [Int.natCast_mul] at this
 ·have h1:=hK (w.alloc (.cells (madeCells #[z] (c*1)) el)) (Kp.alloc w _) ?_ (by simp)
  ·simpa using h1
  ·have:=Own.made (w:=w.alloc (.cells (madeCells #[z] (c*1)) el)) (w':=w) (B:=w.heap.size) (sz:=1) (n:=l) (c:=c) (Blk.new w el _) hl hc2 (by simp [size_madeCells]) (Nat.le_refl _);rw [Nat.mul_one,Nat.mul_one,toList_madeCells_one,List.take_replicate,Nat.min_eq_left hl] at this;simpa using this
end
theorem qlk (n:Nat):(List.replicate n (Value.int .u32 0))=(List.replicate n 0).map q75:=by simp [q75]
theorem mkU {w:World} {l c:Nat} {K:Value→World→Prop} (hl:l≤c) (hc:c≤4000000000)
  (hK:∀ w',Ext w w'→q1Y w' w.heap.size (some ⟨w.heap.size,0,none⟩) l c (List.replicate l 0)→K (.slice (some ⟨w.heap.size,0,none⟩) l c) w') :
  mkW (some (135,1,4,#[.int .u32 0])) (.int .i64 l) (.int .i64 c) w K :=
 q7y hl Oq (by unfold maxLen; omega) fun w' hx ho _=>hK w' hx ⟨by rw [← qlk]; exact ho,q1w.replicate l⟩
theorem q16 {D:Nat→Prop} {A:Option Addr} {n c:Nat} {l:List Nat} {w:World} (h:U32 w D A n c l) (hb:n≤1000000000) :
  Calls Tryz.prog 213 #[.slice A n c] w fun e w'=>∃ A' m c',e=.returned (.slice A' m c')∧Ext w w'∧q1Y w' w.heap.size A' m c' (lim (val l)):=by
 refine q0H Tryz.func213 rfl Tryz.ntmps213 (by kernel_rfl) ?_;refine Wz ?_;refine Wz ?_;refine q0O fun K hK=>?_;have hx:∀ (e':Env) (m:Nat),e' 0=.slice A n c→e' 3=.int .i64 m→m≤n→U32 w D A m c (lim (val l))→K e' w:=by
  intro e' m h0 h3 hmn' hU;refine hK _ _ ?_; clear hK K h;have hml:=hU.len;refine q0A fun K hK=>?_;simp -implicitDefEqProofs (disch:=omega) only [go_sem,Nat.reduceEqDiff,Nat.reduceAdd,↓reduceIte,h0,h3];refine hK _ _ ?_; clear hK K;refine q0B fun K0 hK0=>?_;refine q0A fun K hK=>?_;simp -implicitDefEqProofs (disch:=omega) only [go_sem,Nat.reduceEqDiff,Nat.reduceAdd,↓reduceIte,h0,h3];refine hK _ _ ?_; clear hK K;refine q0Y ?_;refine q09 (fun e2 w2=>∃ (k:Nat) (A':Option Addr) (c':Nat),e2 5=.int .i64 k∧e2 4=.slice A' k c'∧k≤m∧Ext w w2∧q1Y w2 w.heap.size A' k c' ((lim (val l)).take k)) (fun e2 _=>m-(RowKit.intOf (e2 5)).toNat) ⟨0,none,0,rfl,rfl,Nat.zero_le _,Kp.refl _ _,Own.nil _ _ _ _,q1w.nil⟩ ?_;rintro e1 w1 ⟨k,A',c',h5,h4,hkm,hx,hO⟩ hk;have h0':e1 0=.slice A n c:=(hk 0 (by kernel_rfl)).trans (by simp only [q0F,Nat.reduceEqDiff,↓reduceIte,h0]);have h3':e1 3=.int .i64 m:=(hk 3 (by kernel_rfl)).trans (by simp only [q0F,Nat.reduceEqDiff,↓reduceIte,h3]);clear hk;refine q0B fun K1 hK1=>?_
  by_cases hlt:k < m
  ·have hlt':(k:Int) < m:=by omega
   refine Wz3 h5 h3' hlt' ?_;refine Wt (q0G (hK1 _ _ ?_));clear hK1;obtain ⟨ad,rfl,hc⟩:=(hU.ext hx).cell hlt;refine q0O fun K hK=>qbx ?_;have e2:(0:Int)≤k∧(k:Int) < n:=by omega
   refine Zz5 h0' h4 h5 e2 hc ?_;refine q6r hO (hU.2.get k) Oq hx.size ?_;intro v1 A2 c2 w2 hO2 hk2 hat;refine hK _ _ ?_; clear hK;refine qbx ?_;refine Zz2 h5 @i64_in ?_;have hx2:Ext w w2:=hO.1.under hx hk2;have hO3:q1Y w2 w.heap.size A2 (k+1) c2 ((lim (val l)).take (k+1)):=by
    rw [q3T _ _ (by omega)];exact hO2
   exact ⟨⟨k+1,A2,c2,rfl,rfl,by omega,hx2,hO3⟩,by simp only [q0F,↓reduceIte,h5,RowKit.intOf]; omega⟩
  ·obtain rfl:k=m:=by omega
   have hlt':¬ (k:Int) < k:=by omega
   refine Wz3 h5 h3' hlt' ?_;refine Wf (q03 ?_);refine hK0 _ _ ?_; clear hK0 hK1;refine Wz1 h4 ?_;rw [List.take_of_length_le (by omega)] at hO;exact q0L (q0k rfl ⟨A',k,c',rfl,hx,hO⟩)
 clear hK;refine q09 (fun e' w'=>w'=w∧∃ m:Nat,e' 3=.int .i64 m∧m≤n∧∀ i,m≤i→i < n→dg l i=0) (fun e' _=>(RowKit.intOf (e' 3)).toNat) ⟨rfl,n,rfl,Nat.le_refl _,fun i h1 h2=>by omega⟩ ?_;rintro e1 w1 ⟨rfl,m,h3,hm,hz⟩ hk;have h0:e1 0=.slice A n c:=(hk 0 (by kernel_rfl)).trans rfl;clear hk;refine q0B fun K1 hK1=>?_
 by_cases hpos:0 < m
 ·have hpos':(0:Int) < m:=by omega
  obtain ⟨ad,rfl,hc⟩:=h.cell (j:=m-1) Oq;have e1':((m:Int)-1).toNat=m-1:=by omega
  have e2:(0:Int)≤m-1∧(m:Int)-1 < n:=by omega
  refine q0A fun K hK=>?_;simp -implicitDefEqProofs (disch:=omega) only [go_sem,Nat.reduceEqDiff,Nat.reduceAdd,↓reduceIte,h3,h0,hpos',i64_in,e1',e2,hc];refine hK _ _ ?_; clear hK K;refine q00 rfl (fun hc1=>q0G (hK1 _ _ ?_)) (fun hc1=>q03 ?_)
  ·clear hK1;refine q0Y (qbx ?_);refine Zz2 h3 @i64_in ?_;refine ⟨⟨rfl,m-1,?_,by omega,fun i h1 h2=>?_⟩,?_⟩
   ·simp only [q0F,↓reduceIte]; congr 1; omega
   ·by_cases hi:i=m-1
    ·rw [hi]; simpa using hc1
    ·exact hz i Oq h2
   ·simp only [q0F,↓reduceIte,h3,RowKit.intOf]; omega
  ·exact hx _ m (by simp only [q0F,Nat.reduceEqDiff,↓reduceIte,h0]) (by simp only [q0F,Nat.reduceEqDiff,↓reduceIte,h3]) hm (h.trim hm hz (.inr (by simpa using hc1)))
 ·have hpos':¬ (0:Int) < m:=by omega
  refine q0A fun K hK=>?_;simp -implicitDefEqProofs (disch:=omega) only [go_sem,Nat.reduceEqDiff,Nat.reduceAdd,↓reduceIte,h3,h0,hpos'];refine hK _ _ ?_; clear hK K;refine Wf (q03 ?_);exact hx _ m (by simp only [q0F,Nat.reduceEqDiff,↓reduceIte,h0]) (by simp only [q0F,Nat.reduceEqDiff,↓reduceIte,h3]) hm (h.trim hm hz (.inl Oq))
end Go.Proofs.YtbcmhlhgljoolaaGreatDoor
namespace Go.E
def sgn (b:Bool) (m:Nat):Int:=if b then -(m:Int) else m
theorem q1M (b:Bool) (m:Nat):(sgn b m).natAbs=m:=by unfold sgn; split <;> omega
theorem q8o (b:Bool) (m:Nat):decide (sgn b m < 0)=(b && decide (0 < m)):=by
 unfold sgn; cases b <;> simp
theorem q4y (z:Int):sgn (decide (z < 0)) z.natAbs=z:=by
 unfold sgn; by_cases h:z < 0 <;> simp [h] <;> omega
end Go.E
namespace Go.Sp
open Go.E
theorem q6A {l:List Nat} {i:Nat} (h:l.length≤i):l.getD i 0=0:=by simp [List.getD,List.getElem?_eq_none h]
theorem vts (l:List Nat) (i:Nat):val (l.take (i+1))=val (l.take i)+B ^ i*l.getD i 0:=by
 rcases Nat.lt_or_ge i l.length with h | h
 ·exact q2B l i h
 ·rw [q0M l (i+1) Oq,q0M l i h,q6A h]; simp
theorem q7V {o:List Nat} {i c x y A:Nat} (hl:o.length=i) (h:val o+B ^ i*c=A):val (o ++ [(c+x+y) % B])+B ^ (i+1)*((c+x+y) / B)=A+B ^ i*x+B ^ i*y:=by
 rw [q2f,hl,← h,Nat.pow_succ];have:=Nat.mod_add_div (c+x+y) B;have h2:B ^ i*((c+x+y) % B)+B ^ i*B*((c+x+y) / B)=B ^ i*(c+x+y):=by
  rw [Nat.mul_assoc,← Nat.mul_add,this]
 rw [Nat.mul_add,Nat.mul_add] at h2;omega
theorem q9p {o:List Nat} {i br x y U V t:Nat} (hl:o.length=i) (h:val o+V=U+B ^ i*br) (hbr:br≤1) (hx:x < 4294967296) (hy:y < 4294967296)
  (ht:t=((x+(18446744073709551616-br)) % 18446744073709551616+(18446744073709551616-y)) % 18446744073709551616) :
  val (o ++ [t % 4294967296])+(V+B ^ i*y)=U+B ^ i*x+B ^ (i+1)*(t / 9223372036854775808)∧t / 9223372036854775808≤1:=by
 have key:x+t / 9223372036854775808*4294967296=t % 4294967296+br+y∧t / 9223372036854775808≤1:=by omega
 refine ⟨?_,key.2⟩;rw [q2f,hl,Nat.pow_succ];have h2:B ^ i*(x+t / 9223372036854775808*4294967296)=B ^ i*(t % 4294967296+br+y):=by rw [key.1]
 rw [Nat.mul_add,Nat.mul_add,Nat.mul_add] at h2;have h3:B ^ i*B*(t / 9223372036854775808)=B ^ i*(t / 9223372036854775808*4294967296):=by
  rw [Nat.mul_assoc,Nat.mul_comm B]; rfl
 omega
def q2D (x y:Nat):Int:=if x < y then -1 else if x=y then 0 else 1
theorem q85:B=2 ^ 32:=rfl
theorem q2G {c m k:Nat} (hc:c < 2 ^ k):c ||| m*2 ^ k=c+m*2 ^ k:=by
 rw [Nat.or_comm,Nat.mul_comm,← Nat.two_pow_add_eq_or_of_lt hc];omega
theorem qgc {o:List Nat} {i c x k V:Nat} (hl:o.length=i) (h:val o+B ^ i*c=2 ^ k*V) :
  val (o ++ [(c+x*2 ^ k) % 4294967296])+B ^ (i+1)*((c+x*2 ^ k) / 4294967296)=2 ^ k*(V+B ^ i*x):=by
 have:=q7V (x:=x*2 ^ k) (y:=0) hl h;have e:B ^ i*(x*2 ^ k)=2 ^ k*(B ^ i*x):=by rw [Nat.mul_comm x,Nat.mul_left_comm]
 rw [Nat.add_zero,Nat.mul_zero,Nat.add_zero,e,← Nat.mul_add] at this;exact this
theorem qlZ {X k:Nat} (hk:k≤32):(X / 2 ^ k) % 4294967296=(X % 18446744073709551616 / 2 ^ k) % 4294967296:=by
 have e:18446744073709551616=2 ^ k*(2 ^ (32-k)*4294967296):=by
  rw [← Nat.mul_assoc,← Nat.pow_add,show k+(32-k)=32 by omega]
 rw [e,Nat.mod_mul_right_div_self,Nat.mod_mul_left_mod]
theorem q1q (l:List Nat) (i:Nat):val (l.drop i)=l.getD i 0+B*val (l.drop (i+1)):=by
 rcases Nat.lt_or_ge i l.length with h | h
 ·rw [List.drop_eq_getElem_cons h,val,q1C h]
 ·rw [List.drop_of_length_le h,List.drop_of_length_le Oq,q6A h]; rfl
theorem q2g {l:List Nat} (h:q1w l) (z:Nat):val (l.drop z)=val l / B ^ z:=by
 rcases Nat.le_total z l.length with hz | hz
 ·rw [q1E l z hz];have h1:=q1S (h.take z);rw [List.length_take,Nat.min_eq_left hz] at h1;rw [Nat.add_mul_div_left _ _ (q4J z),Nat.div_eq_of_lt h1,Nat.zero_add]
 ·have h1:=q1S h;have h2:B ^ l.length≤B ^ z:=Nat.pow_le_pow_right q4K hz;rw [List.drop_of_length_le hz,Nat.div_eq_of_lt (by omega)]; rfl
theorem q2x {l:List Nat} (h:q1w l) (z:Nat):val (l.take z)=val l % B ^ z:=by
 rcases Nat.le_total z l.length with hz | hz
 ·have h1:=q1S (h.take z);rw [List.length_take,Nat.min_eq_left hz] at h1;have:=q1E l z hz;rw [this,Nat.add_mul_mod_self_left,Nat.mod_eq_of_lt h1]
 ·have h1:=q1S h;have h2:B ^ l.length≤B ^ z:=Nat.pow_le_pow_right q4K hz;rw [List.take_of_length_le hz,Nat.mod_eq_of_lt (by omega)]
theorem q9u {o l:List Nat} {j i k V:Nat} (hk:k≤32) (ha:q1w l) (hl:o.length=j) (h:val o+B ^ j*(val (l.drop i) / 2 ^ k)=V) :
  val (o ++ [(l.getD i 0+l.getD (i+1) 0*4294967296) / 2 ^ k % 4294967296])+B ^ (j+1)*(val (l.drop (i+1)) / 2 ^ k)=V:=by
 have h0:=ha.get i;have h1:=ha.get (i+1);unfold B at h0 h1;have e1:=q1q l i;have e2:=q1q l (i+1);have e3:val (l.drop i) % 18446744073709551616=l.getD i 0+l.getD (i+1) 0*4294967296:=by
  unfold B at e1 e2; omega
 have e4:val (l.drop i) / 2 ^ k / 4294967296=val (l.drop (i+1)) / 2 ^ k:=by
  rw [Nat.div_div_eq_div_mul,Nat.mul_comm,← Nat.div_div_eq_div_mul]
  congr 1
  unfold B at e1; omega
 rw [q2f,hl,← e3,← qlZ hk,← e4,Nat.pow_succ,Nat.add_assoc,Nat.mul_assoc,← Nat.mul_add];have:B*(val (l.drop i) / 2 ^ k / 4294967296)=4294967296*(val (l.drop i) / 2 ^ k / 4294967296):=rfl;rw [this,Nat.mod_add_div];exact h
theorem qaT {l:List Nat} (ha:q1w l) (z k:Nat) (hk:k≤32):val l % 2 ^ (32*z+k)=0 ↔ (val (l.take z)=0∧l.getD z 0 % 2 ^ k=0):=by
 have e1:val l / B ^ z % 2 ^ k=l.getD z 0 % 2 ^ k:=by
  rw [← q2g ha,q1q,q85,show 2 ^ 32=2 ^ k*2 ^ (32-k) by rw [← Nat.pow_add]; congr 1; omega,Nat.mul_assoc,Nat.add_mul_mod_self_left]
 rw [Nat.pow_add,Nat.pow_mul,← q85,Nat.mod_mul,e1,← q2x ha];have:=q4J z
 constructor
 ·intro h;have h1:val (l.take z)=0:=by omega
  refine ⟨h1,?_⟩;rw [h1,Nat.zero_add] at h
  rcases Nat.mul_eq_zero.1 h with h | h
  ·omega
  ·exact h
 ·rintro ⟨h1,h2⟩; rw [h1,h2]; simp
theorem qhH {l:List Nat} (ha:q1w l) (z k:Nat) (h:l.length≤z):val l % 2 ^ (32*z+k)=val l:=by
 have h1:=q1S ha;have h2:B ^ l.length≤B ^ z:=Nat.pow_le_pow_right q4K h;have h3:B ^ z≤2 ^ (32*z+k):=by rw [q85,← Nat.pow_mul]; exact Nat.pow_le_pow_right Oq Oq
 exact Nat.mod_eq_of_lt Oq
theorem q37:∀ {o:List Nat} {p:Nat} (d:Nat),p < o.length→val (o.set p d)+B ^ p*o.getD p 0=val o+B ^ p*d
 | [],p,d,h=>by simp at h
 | x :: o,0,d,_=>by simp [val]; omega
 | x :: o,p+1,d,h=>by
  have ih:=q37 (o:=o) (p:=p) d (by simpa using h);simp only [List.set_cons_succ,val,List.getD_cons_succ,Nat.pow_succ];have e1:B ^ p*B*o.getD p 0=B*(B ^ p*o.getD p 0):=by rw [Nat.mul_comm (B ^ p) B,Nat.mul_assoc]
  have e2:B ^ p*B*d=B*(B ^ p*d):=by rw [Nat.mul_comm (B ^ p) B,Nat.mul_assoc]
  rw [e1,e2,Nat.add_assoc,Nat.add_assoc,← Nat.mul_add,← Nat.mul_add,ih]
theorem qaN {o:List Nat} {p c x y V:Nat} (hp:p < o.length) (h:val o+B ^ p*c=V) :
  val (o.set p ((c+x*y+o.getD p 0) % 4294967296))+B ^ (p+1)*((c+x*y+o.getD p 0) / 4294967296)=V+B ^ p*(x*y):=by
 have h1:=q37 (o:=o) (p:=p) ((c+x*y+o.getD p 0) % 4294967296) hp;have h2:B ^ p*((c+x*y+o.getD p 0) % 4294967296)+B ^ (p+1)*((c+x*y+o.getD p 0) / 4294967296)=B ^ p*c+B ^ p*(x*y)+B ^ p*o.getD p 0:=by
  rw [Nat.pow_succ,Nat.mul_assoc,← Nat.mul_add,← Nat.mul_add,← Nat.mul_add]
  congr 1
  exact Nat.mod_add_div _ 4294967296
 omega
theorem q7v {c x y z:Nat} (hc:c < 4294967296) (hx:x < 4294967296) (hy:y < 4294967296) (hz:z < 4294967296):c+x*y+z < 18446744073709551616∧x*y < 18446744065119617026:=by
 have:x*y≤4294967295*4294967295:=Nat.mul_le_mul Oq Oq;omega
theorem q07 {o:List Nat} {p q d:Nat} (h:q≠p):(o.set p d).getD q 0=o.getD q 0:=by
 simp only [List.getD_eq_getElem?_getD];rw [List.getElem?_set_ne (fun e=>h e.symm)]
def shI (z n:Int):Int:=if 0≤n then z*2 ^ n.toNat else z / 2 ^ (-n).toNat
theorem qeZ (v p:Nat) (hp:0 < p):(-(v:Int)) / (p:Int) = -((v / p:Nat):Int)-(if v % p≠0 then 1 else 0):=by
 have h:=Nat.div_add_mod v p;have hr:=Nat.mod_lt v hp;have h':(p:Int)*((v / p:Nat):Int)+((v % p:Nat):Int)=(v:Int):=by
  rw [← Int.natCast_mul,← Int.natCast_add,h]
 generalize v / p=q at *;generalize hrr:v % p=r at *
 by_cases h0:r=0
 ·rw [if_neg (by simpa using h0)];refine ((Int.ediv_emod_unique (by omega:(0:Int) < p) (r:=0)).2 ⟨?_,by omega,by omega⟩).1;rw [Int.sub_zero,Int.mul_neg]; omega
 ·rw [if_pos h0];refine ((Int.ediv_emod_unique (by omega:(0:Int) < p) (r:=(p:Int)-r)).2 ⟨?_,by omega,by omega⟩).1;rw [Int.mul_sub,Int.mul_neg,Int.mul_one]; omega
theorem q1B (k:Nat):((2 ^ k:Nat):Int)=(2:Int) ^ k:=by simp
theorem q8n (v k:Nat):(-(v:Int)) / (2:Int) ^ k = -((v / 2 ^ k:Nat):Int)-(if v % 2 ^ k≠0 then 1 else 0):=by
 rw [← q1B]; exact qeZ v (2 ^ k) (Nat.pow_pos Oq)
def bl (n:Nat):Nat:=if n=0 then 0 else Nat.log2 n+1
theorem q2o (n:Nat):n < 2 ^ bl n:=by
 unfold bl; split
 ·omega
 ·exact Nat.lt_log2_self
theorem q7R {n:Nat} (h:n≠0):2 ^ (bl n-1)≤n:=by
 unfold bl; rw [if_neg h]; exact Nat.log2_self_le h
theorem q1a:bl 0=0:=rfl
theorem qf6 {n k:Nat} (h1:n < 2 ^ k) (h2:k=0∨2 ^ (k-1)≤n):bl n=k:=by
 by_cases h0:n=0
 ·subst h0
  rcases h2 with h2 | h2
  ·rw [h2]; rfl
  ·have:=Nat.pow_pos (n:=k-1) (show 0 < 2 by omega); omega
 ·have a:=q2o n;have b:=q7R h0;have c:bl n≠0:=by unfold bl; rw [if_neg h0]; omega
  have d:k≠0:=by intro e; subst e; simp at h1; omega
  have h2:=h2.resolve_left d;have e1:=(Nat.pow_lt_pow_iff_right (a:=2) Oq).1 (Nat.lt_of_le_of_lt b h1);have e2:=(Nat.pow_lt_pow_iff_right (a:=2) Oq).1 (Nat.lt_of_le_of_lt h2 a);omega
theorem qax {n k:Nat} (h:2 ^ k≤n):bl n=k+bl (n / 2 ^ k):=by
 have hp:=Nat.pow_pos (n:=k) (show 0 < 2 by omega);have h0:n / 2 ^ k≠0:=by have:=Nat.div_pos h hp; omega
 have a:=q2o (n / 2 ^ k);have b:=q7R h0;have c:bl (n / 2 ^ k)≠0:=by unfold bl; rw [if_neg h0]; omega
 refine qf6 ?_ (.inr ?_)
 ·rw [Nat.pow_add,Nat.mul_comm];exact (Nat.div_lt_iff_lt_mul hp).1 a
 ·rw [show k+bl (n / 2 ^ k)-1=k+(bl (n / 2 ^ k)-1) by omega,Nat.pow_add,Nat.mul_comm];exact (Nat.le_div_iff_mul_le hp).1 b
theorem q0b {m n:Nat} (h:m≤n):bl m≤bl n:=by
 by_cases h0:m=0
 ·subst h0; simp [q1a]
 ·have a:=q7R h0;have b:=q2o n;have:=(Nat.pow_lt_pow_iff_right (a:=2) Oq).1 (Nat.lt_of_le_of_lt (Nat.le_trans a h) b);omega
theorem q0T {n k:Nat} (h:n < 2 ^ k):bl n≤k:=by
 by_cases h0:n=0
 ·subst h0; simp [q1a]
 ·have:=(Nat.pow_lt_pow_iff_right (a:=2) Oq).1 (Nat.lt_of_le_of_lt (q7R h0) h);omega
theorem q6Z {n:Nat} (h:n≠0):bl n=32*((lim n).length-1)+bl ((lim n).getD ((lim n).length-1) 0):=by
 have hp:=q0S.2 h;have h1:2 ^ (32*((lim n).length-1))=B ^ ((lim n).length-1):=by rw [q85,← Nat.pow_mul]
 have h2:n / B ^ ((lim n).length-1)=(lim n).getD ((lim n).length-1) 0:=by
  have:=q2g (q18 n) ((lim n).length-1);rw [q0J] at this;rw [← this,q1q,show (lim n).length-1+1=(lim n).length by omega,List.drop_length]; simp [val]
 rw [← h2,← h1];exact qax (by rw [h1]; exact q28 h)
end Go.Sp
namespace Go.E
open Go
section
variable {P:Program} {w:World} {K:Value→World→Prop} {D:Nat→Prop}
theorem q0X {t:TypeId} {v:Value} (hK:∀ g w',w.heap.size=g→Ext w w'→Blk w' g t v.cells→w'.heap.size=g+1→K (.pointer (some ⟨g,0,none⟩)) w'):qow t v w K:=by
 rw [qsb];exact hK _ _ rfl (Kp.alloc w _) (Blk.new w t v.cells) (by simp)
theorem q0i {t:TypeId} {z:Array Value} (hK:∀ g w',w.heap.size=g→Ext w w'→Blk w' g t z→w'.heap.size=g+1→K (.pointer (some ⟨g,0,none⟩)) w'):alW (some z) t w K:=by
 rw [alW_s];exact hK _ _ rfl (Kp.alloc w _) (Blk.new w t z) (by simp)
theorem q0V {T t g:Nat} {v:Value} {cs:Array Value} {K:World→Prop} (hb:Blk w g t cs) (hs:q04 P T=some v.cells.size) (hl:v.cells.size=cs.size) (h1:v.cells.toList.all (·.oneCell')=true)
  (hK:∀ w',Kp (fun k=>k≠g) w w'→Blk w' g t v.cells→K w'):q31 P T w (.pointer (some ⟨g,0,none⟩)) v K:=by
 rw [q4x];refine ⟨hs,hb.stOk _ _ (by simp [hl]) (fun u hu=>(List.all_eq_true.1 h1) u hu),hK _ (qcl _ _ _ fun _ h=>h rfl) ?_⟩;have:=hb.store (vs:=v.cells.toList) (by simp [hl]);simpa using this
theorem q0t {e:Env} {a t t' k g:Nat} {cs:Array Value} (he:e a=.pointer (some ⟨g,0,none⟩)) (hk:q0d P t=some (some k)) (hb:Blk w g t' cs) (hs:cs.size=k):q6k P w e (.cell a t)=some (.agg cs):=by
 unfold q6k;simp only [he,hk,hb.rdAll hs];simp
theorem q22 {k g t':Nat} {cs:Array Value} (hb:Blk w g t' cs) (hs:cs.size=k):ldV w (some (some k)) (.pointer (some ⟨g,0,none⟩))=some (.agg cs):=by
 simp only [ldV,hb.rdAll hs];simp
theorem Dx.ne {a b k g:Nat} (h:Dx D a b k) (h1:a≤g) (h2:g < b):k≠g:=fun e=>by subst e; exact Dx.not h1 h2 h
theorem Blk.kpne {g g' t:Nat} {cs:Array Value} {w':World} (h:Blk w g t cs) (hk:Kp (fun k=>k≠g') w w') (hne:g≠g'):Blk w' g t cs:=h.kp hk hne
end
end Go.E
namespace Go.Proofs.YtbcmhlhgljoolaaGreatDoor
open Go Go.E Go.Sp
def Big (w:World) (D:Nat→Prop) (s:Bool) (A:Option Addr) (n c:Nat) (z:Int):Prop:=s=decide (z < 0)∧U32 w D A n c (lim z.natAbs)
section
variable {w w':World} {D D':Nat→Prop} {A:Option Addr} {n c B:Nat} {l:List Nat} {s:Bool} {z:Int}
theorem Big.kp (h:Big w D s A n c z) (k:Kp D w w'):Big w' D s A n c z:=⟨h.1,h.2.kp k⟩
theorem Big.ext (h:Big w D s A n c z) (k:Ext w w'):Big w' D s A n c z:=⟨h.1,h.2.ext k⟩
theorem Big.sub (h:Big w D s A n c z) (hs:∀ k,k < w.heap.size→D k→D' k):Big w D' s A n c z:=⟨h.1,h.2.sub hs⟩
theorem Big.len (h:Big w D s A n c z):(lim z.natAbs).length=n:=h.2.len
theorem Big.sgn (h:Big w D s A n c z):sgn s z.natAbs=z:=by rw [h.1,q4y]
theorem q21 (h:U32 w D A n c l):(lim (val l)).length≤n:=by
 have h1:=q2V (q1S h.2); rw [h.len] at h1; exact h1
end
def isU (D:Nat→Prop) (l:List Nat):q1A (Kp fun _=>True):=⟨fun v w=>∃ A n c,v=.slice A n c∧U32 w D A n c l,fun v w w' hk ⟨A,n,c,h1,h2⟩=>⟨A,n,c,h1,h2.ext hk⟩⟩
def isV (D:Nat→Prop) (N m:Nat):q1A (Kp fun _=>True):=⟨fun v w=>∃ A n c l,v=.slice A n c∧U32 w D A n c l∧val l=m∧n≤N,fun v w w' hk ⟨A,n,c,l,h1,h2,h3⟩=>⟨A,n,c,l,h1,h2.ext hk,h3⟩⟩
def isB (D:Nat→Prop) (z:Int):q1A (Kp fun _=>True):=⟨fun v w=>∃ s A n c,v=.agg #[.bool s,.slice A n c]∧Big w D s A n c z,fun v w w' hk ⟨s,A,n,c,h1,h2⟩=>⟨s,A,n,c,h1,h2.ext hk⟩⟩
theorem q17 {D:Nat→Prop} {A:Option Addr} {n c:Nat} {l:List Nat} {s:Bool} {w:World} (h:U32 w D A n c l) (hb:n≤1000000000) (hf:Fr D w) :
  Calls Tryz.prog 208 #[.bool s,.slice A n c] w fun e w'=>∃ s' A' n' c',e=.returned (.agg #[.bool s',.slice A' n' c'])∧Ext w w'∧Big w' D s' A' n' c' (sgn s (val l)):=by
 refine q0H Tryz.func208 rfl Tryz.ntmps208 (by kernel_rfl) ?_;refine q0A fun K hK=>?_;refine Zz ?_;refine q0i ?_;intro g w1 hg hx1 hb1 hs1;refine hK _ _ ?_; clear hK;refine q0A fun K hK=>?_;refine Zz ?_;refine q0E q2r (q16 (h.ext hx1) hb) ?_;rintro _ w2 ⟨A2,m,c2,rfl,hx2,hO⟩; refine ⟨_,rfl,?_⟩;refine hK _ _ ?_; clear hK;replace hb1:=hb1.ext hx2;have hU:U32 w2 D A2 m c2 (lim (val l)):=hO.u32 fun k hk=>hf k (by have:=hx1.size; omega);have hne:∀ {w3},Kp (fun k=>k≠g) w2 w3→Ext w w3:=fun h3=>(hx1.trans hx2).under h3 fun k hk=>by omega
 have hUne:∀ {w3},Kp (fun k=>k≠g) w2 w3→U32 w3 D A2 m c2 (lim (val l)):=fun h3=>by
  have:U32 w2 (fun k=>k≠g∧D k) A2 m c2 (lim (val l)):=hO.u32 fun k hk=>⟨by omega,hf k (by have:=hx1.size; omega)⟩;exact (this.kp (h3.mono fun k _ h=>h.1)).sub fun k _ h=>h.2
 have hlm:=hU.len;have hz0:decide (0 < (m:Int))=decide (0 < val l):=by
  have h1:=@q0S (val l); rw [hlm] at h1;rw [decide_eq_decide]; omega
 refine q0A fun K hK=>?_;have fin:∀ e' w3,e' 4=.pointer (some ⟨g,0,none⟩)→Kp (fun k=>k≠g) w2 w3→Blk w3 g 72 #[.bool (s && decide (0 < (m:Int))),.slice A2 m c2]→K e' w3:=by
  intro e' w3 h4 hk3 hb3;refine hK _ _ (q0L (q2u rfl (q0t h4 q1X hb3 rfl) ⟨_,A2,m,c2,rfl,hne hk3,?_⟩));rw [hz0];exact ⟨(q8o s _).symm,by rw [q1M]; exact hUne hk3⟩
 clear hK;cases s
 ·refine Zz ?_;refine q0V hb1 q0u rfl rfl fun w3 hk3 hb3=>?_;exact fin _ _ (by simp only [q0F,Nat.reduceEqDiff,↓reduceIte]) hk3 hb3
 ·refine Zz ?_;refine q0V hb1 q0u rfl rfl fun w3 hk3 hb3=>?_;exact fin _ _ (by simp only [q0F,Nat.reduceEqDiff,↓reduceIte]) hk3 hb3
theorem Dx.keep {D:Nat→Prop} {w:World} {a b:Nat} (ha:a=w.heap.size):∀ k,k < w.heap.size→D k→Dx D a b k:=fun _ hk hd=>Dx.lt hd Oq
theorem qlx {D:Nat→Prop} {A:Option Addr} {n c:Nat} {l:List Nat} {s:Bool} {w:World} (h:U32 w D A n c l) (hb:n≤1000000000) (hf:Fr D w) :
  Calls Tryz.prog 151 #[.agg #[.bool s,.slice A n c]] w fun e w'=>∃ s' A' n' c',e=.returned (.agg #[.bool s',.slice A' n' c'])∧Ext w w'∧Big w' D s' A' n' c' (val l):=by
 refine q0H Tryz.func151 rfl Tryz.ntmps151 (by kernel_rfl) ?_;refine q0A fun K hK=>?_;refine Zz ?_;refine q0X ?_;intro g1 w1 hg1 hx1 hb1 hs1;refine q0i ?_;intro g2 w2 hg2 hx2 hb2 hs2;refine hK _ _ ?_; clear hK;replace hb1:=hb1.ext hx2;have hc1:w2.cell? ⟨g1,1,none⟩=some (.slice A n c):=hb1.cell 1;have hD:Fr (Dx D w.heap.size w2.heap.size) w2:=Dx.fr ((hf.kp hx1).kp hx2) (Nat.le_refl _);refine q0A fun K hK=>?_;refine Zz1 hc1 ?_;refine q0E q2s (q17 (((h.sub (Dx.keep rfl)).ext hx1).ext hx2) hb hD) ?_;rintro _ w3 ⟨s3,A3,n3,c3,rfl,hx3,hB⟩; refine ⟨_,rfl,?_⟩;replace hb2:=hb2.ext hx3;refine q0V hb2 q0u rfl rfl fun w9 hk9 hb9=>?_;refine hK _ _ ?_; clear hK;refine q0L ?_
 try simp only [q0D,q0N]
 exact (q2u rfl (q0t (by first | exact rfl | assumption) q1X hb9 rfl) ⟨_,_,_,_,rfl,(((hx1.trans hx2).trans hx3)).under hk9 (fun k hk=>by omega),(hB.kp (hk9.mono fun k _ h=>Dx.ne h Oq Oq)).sub fun k _ h=>h.1⟩)
end Go.Proofs.YtbcmhlhgljoolaaGreatDoor
namespace Go.E
open Go Go.RowKit
def q4g (o:Oper):Bool:=match o.op with
 | .move _ | .assign _ | .pick _ _ _ | .build _ _ | .load _ _ | .binOp _ _ _ _ _ | .unOp _ _ _ | .convert _ _ _ | .fieldAddr _ _ _ | .indexAddr _ _ _ | .extract _ _=>true
 | .slice _ _ _ _ none=>true
 | .call c=>match c.callee with | .builtin .len | .builtin .max | .builtin .min=>true | _=>false
 | _=>false
def q5h (o:Oper):Bool:=match o.op with | .load _ _=>true | _=>false
section
variable {P:Program} {n:Nat} {R:World→World→Prop}
theorem qjS {w w':World} (hx:Ext w w') {p:Addr}:∀ (k i:Nat) (l:List Value),q0z w p i k=some l→q0z w' p i k=some l
 | 0,_,_,h=>h
 | k+1,i,l,h=>by
  simp only [q0z] at h ⊢
  split at h
  ·rename_i v l' h1 h2;rw [hx.cell (D:=fun _=>True) trivial h1,qjS hx k (i+1) l' h2];exact h
  ·cases h
theorem qrB {w w':World} (hx:Ext w w') {k:Option (Option Nat)} {a v:Value} (h:ldV w k a=some v):ldV w' k a=some v:=by
 unfold ldV at h ⊢
 split at h
 ·split at h
  ·exact hx.cell (D:=fun _=>True) trivial h
  ·rw [Option.map_eq_some_iff] at h;obtain ⟨l,h1,h2⟩:=h;rw [qjS hx _ _ _ h1,← h2]; rfl
  ·cases h
 ·cases h
theorem qpK {o:Oper} (hp:q4g o=true) {e:Env} {w:World} {K:Value→World→Prop} (h:wo P o e w K) :
  ∃ v,K v w∧∀ (e2:Env) (w':World),(∀ x ∈ o.op.operands.toList,ev e2 x=ev e x)→(q5h o=true→Ext w w')→∀ K':Value→World→Prop,K' v w'→wo P o e2 w' K':=by
 obtain ⟨d,op,ty,pos,af,g⟩:=o;cases op <;> (try (cases hp; done)) <;> simp only [wo] at h
 case move x=>exact ⟨_,h,fun e2 w' hop _ K' hk=>by simp only [wo]; rw [hop x (by simp [Op.operands])]; exact hk⟩
 case assign x=>exact ⟨_,h,fun e2 w' hop _ K' hk=>by simp only [wo]; rw [hop x (by simp [Op.operands])]; exact hk⟩
 case pick c a b =>
  split at h
  ·rename_i hc;exact ⟨_,h,fun e2 w' hop _ K' hk=>by simp only [wo]; rw [hop c (by simp [Op.operands]),hc,hop a (by simp [Op.operands])]; exact hk⟩
  ·rename_i hc;exact ⟨_,h,fun e2 w' hop _ K' hk=>by simp only [wo]; rw [hop c (by simp [Op.operands]),hc,hop b (by simp [Op.operands])]; exact hk⟩
  ·exact h.elim
 case build t ps =>
  obtain ⟨cs,h1,h2⟩:=q0W h;refine ⟨_,h2,fun e2 w' hop _ K' hk=>?_⟩;simp only [wo];have:(ps.map fun (i,x)=>(i,ev e2 x))=ps.map fun (i,x)=>(i,ev e x):=by
   apply Array.map_congr_left
   intro a ha;obtain ⟨i,x⟩:=a;simp only [Prod.mk.injEq,true_and];exact hop x (by simp only [Op.operands,List.mem_map]; exact ⟨(i,x),by simpa using ha,rfl⟩)
  rw [this,h1]; exact hk
 case load t a =>
  obtain ⟨v,h1,h2⟩:=q0W h;refine ⟨_,h2,fun e2 w' hop hx K' hk=>?_⟩;simp only [wo];rw [hop a (by simp [Op.operands]),qrB (hx rfl) h1]; exact hk
 case binOp op t x y t' =>
  obtain ⟨v,h1,h2⟩:=q0W h;refine ⟨_,h2,fun e2 w' hop hx K' hk=>?_⟩;simp only [wo];rw [hop x (by simp [Op.operands]),hop y (by simp [Op.operands]),h1]; exact hk
 case unOp op t x =>
  obtain ⟨v,h1,h2⟩:=q0W h;refine ⟨_,h2,fun e2 w' hop hx K' hk=>?_⟩;simp only [wo];rw [hop x (by simp [Op.operands]),h1]; exact hk
 case convert s t x =>
  obtain ⟨v,h1,h2⟩:=q0W h;refine ⟨_,h2,fun e2 w' hop hx K' hk=>?_⟩;simp only [wo];rw [hop x (by simp [Op.operands]),h1]; exact hk
 case fieldAddr t x f =>
  split at h
  ·rename_i p hp';obtain ⟨v,h1,h2⟩:=q0W h;refine ⟨_,h2,fun e2 w' hop hx K' hk=>?_⟩;simp only [wo];rw [hop x (by simp [Op.operands]),hp'];simp only [h1]; exact hk
  ·exact h.elim
 case indexAddr t x i =>
  obtain ⟨v,h1,h2⟩:=q0W h;refine ⟨_,h2,fun e2 w' hop hx K' hk=>?_⟩;simp only [wo];rw [hop x (by simp [Op.operands]),hop i (by simp [Op.operands]),h1]; exact hk
 case slice t x lo hi m =>
  cases m with
  | some m=>cases hp
  | none =>
   obtain ⟨v,h1,h2⟩:=q0W h;refine ⟨_,h2,fun e2 w' hop hx K' hk=>?_⟩;have hl:lo.map (ev e2)=lo.map (ev e):=by
    cases lo with
    | none=>rfl
    | some y=>simp only [Option.map_some]; rw [hop y (by simp [Op.operands])]
   have hh:hi.map (ev e2)=hi.map (ev e):=by
    cases hi with
    | none=>rfl
    | some y=>simp only [Option.map_some]; rw [hop y (by simp [Op.operands])]
   simp only [wo];rw [hop x (by simp [Op.operands]),hl,hh,h1]; exact hk
 case extract x i =>
  obtain ⟨v,h1,h2⟩:=q0W h;refine ⟨_,h2,fun e2 w' hop hx K' hk=>?_⟩;simp only [wo];rw [hop x (by simp [Op.operands]),h1]; exact hk
 case call c =>
  obtain ⟨ca,ar,ts⟩:=c;have hargs:∀ e2:Env,(∀ x ∈ (Op.call ⟨ca,ar,ts⟩).operands.toList,ev e2 x=ev e x)→ar.toList.map (ev e2)=ar.toList.map (ev e):=fun e2 hop=>by
   apply List.map_congr_left
   intro x hx;exact hop x (by simp only [Op.operands,Call.operands,Array.toList_append,List.mem_append]; exact .inr hx)
  cases ca with
  | builtin b =>
   cases b <;> (try (cases hp; done)) <;> simp only [] at h
   case len =>
    split at h
    ·rename_i x t hx ht;obtain ⟨v,h1,h2⟩:=q0W h;refine ⟨_,h2,fun e2 w' hop _ K' hk=>?_⟩;have:=hargs e2 hop;rw [hx] at this;simp only [wo,hx,ht];simp only [List.map_cons,List.map_nil,List.cons.injEq,and_true] at this;rw [this,h1]; exact hk
    ·exact h.elim
   case max =>
    obtain ⟨v,h1,h2⟩:=q0W h;refine ⟨_,h2,fun e2 w' hop _ K' hk=>?_⟩;simp only [wo];rw [hargs e2 hop,h1]; exact hk
   case min =>
    obtain ⟨v,h1,h2⟩:=q0W h;refine ⟨_,h2,fun e2 w' hop _ K' hk=>?_⟩;simp only [wo];rw [hargs e2 hop,h1]; exact hk
  | _=>cases hp
theorem qaU {ops:Array Oper} {o:Oper} {e e2:Env} (h:∀ t,q1c ops o t=true→e2 t=e t):∀ x ∈ o.op.operands.toList,ev e2 x=ev e x:=by
 intro x hx;cases x with
 | tmp t =>
  refine h t ?_;unfold q1c Oper.looksAt;rw [List.any_eq_true];exact ⟨t,List.mem_append_left _ (List.mem_filterMap.2 ⟨_,hx,rfl⟩),by simp⟩
 | const v=>rfl
 | global v=>rfl
 | func v=>rfl
theorem q4W {ops:Array Oper} {o:Oper} {e e2:Env} (h:∀ t,q1c ops o t=true→e2 t=e t):q64 ops e2 o=q64 ops e o:=by
 unfold q64;cases hg:o.guard with
 | none=>rfl
 | some g =>
  obtain ⟨j,b⟩:=g;simp only;unfold q3i;cases hd:(ops[j]?).bind (·.dst) with
  | none=>rfl
  | some d =>
   have:e2 d=e d:=h d (by
    unfold q1c Oper.looksAt;rw [List.any_eq_true];exact ⟨d,List.mem_append_right _ (by rw [hg]; simp only [hd]; simp),by simp⟩)
   simp only [this]
theorem qcS {ops:Array Oper} {o:Oper} (hp:q4g o=true) {e:Env} {w:World} {K:Value→World→Prop} (h:wg P ops o e w K) :
  ∃ v,K v w∧∀ (e2:Env) (w':World),(∀ t,q1c ops o t=true→e2 t=e t)→(q5h o=true→Ext w w')→∀ K':Value→World→Prop,K' v w'→wg P ops o e2 w' K':=by
 unfold wg at h
 split at h
 ·rename_i hw;obtain ⟨v,h1,h2⟩:=qpK hp h;refine ⟨v,h1,fun e2 w' hl hx K' hk=>?_⟩;unfold wg;rw [q4W hl,if_pos hw];exact h2 e2 w' (qaU hl) hx K' hk
 ·rename_i hw;refine ⟨_,h,fun e2 w' hl hx K' hk=>?_⟩;unfold wg;rw [q4W hl,if_neg hw];exact hk
def WLm (P:Program) (ops:Array Oper) (K:Env→Prop):List Bool→List Oper→Env→World→Prop
 | true :: m,o :: os,e,w=>wg P ops o e w fun v _=>WLm P ops K m os (put e o.dst v) w
 | false :: m,_ :: os,e,w=>WLm P ops K m os e w
 | _,_,e,_=>K e
def q1u:List Bool→List Oper→Nat→Bool
 | false :: m,o :: os,t=>wrO t o || q1u m os t
 | true :: m,_ :: os,t=>q1u m os t
 | _,_,_=>false
def q0h:List Bool→List Oper→List Nat
 | true :: m,o :: os=>match o.dst with | some d=>d :: q0h m os | none=>q0h m os
 | false :: m,_ :: os=>q0h m os
 | _,_=>[]
def q47 (lc:Bool) (ops:List Oper) (mask:List Bool):Bool :=
 Nat.beq mask.length ops.length && (List.range ops.length).all fun i=>match ops[i]? with
  | some o=>!(mask.getD i false) || (q4g o && (lc || !q5h o) && (List.range ops.length).all fun j=>!q0v o j || mask.getD j false)
  | none=>true
def q3s (mask:List Bool) (ops:List Oper) (es:Env) (l:List (Nat × q1A R)):List (Nat × q1A R):=(q0h mask ops).map (fun t=>(t,is (es t))) ++ l
theorem q2T {S:List Nat} {es:Env} {l:List (Nat × q1A R)} {t:Nat}:look (S.map (fun t=>(t,(is (es t):q1A R))) ++ l) t=if t ∈ S then is (es t) else look l t:=by
 induction S with
 | nil=>simp
 | cons s S ih =>
  simp only [List.map_cons,List.cons_append,look,List.mem_cons]
  by_cases h:s=t
  ·subst h; simp
  ·rw [if_neg h,ih];have:¬ t=s:=fun e=>h e.symm;simp [this]
theorem q0g {t:Nat}:∀ {m:List Bool} {os:List Oper},t ∈ q0h m os ↔ ∃ (i:Nat) (o:Oper),os[i]?=some o∧m[i]?=some true∧o.dst=some t
 | [],_=>by simp [q0h]
 | b :: m,[]=>by cases b <;> simp [q0h]
 | true :: m,o :: os=>by
  have ih:=q0g (t:=t) (m:=m) (os:=os)
  constructor
  ·intro h;unfold q0h at h;cases hd:o.dst with
   | none =>
    rw [hd] at h; simp only at h;obtain ⟨i,p,h1,h2,h3⟩:=ih.1 h;exact ⟨i+1,p,by simpa using h1,by simpa using h2,h3⟩
   | some d =>
    rw [hd] at h; simp only [List.mem_cons] at h
    rcases h with rfl | h
    ·exact ⟨0,o,rfl,rfl,hd⟩
    ·obtain ⟨i,p,h1,h2,h3⟩:=ih.1 h;exact ⟨i+1,p,by simpa using h1,by simpa using h2,h3⟩
  ·rintro ⟨i,p,h1,h2,h3⟩;unfold q0h;cases i with
   | zero=>simp at h1; subst h1; rw [h3]; simp
   | succ i =>
    have:=ih.2 ⟨i,p,by simpa using h1,by simpa using h2,h3⟩;cases o.dst <;> simp [this]
 | false :: m,o :: os=>by
  have ih:=q0g (t:=t) (m:=m) (os:=os);simp only [q0h]
  constructor
  ·intro h;obtain ⟨i,p,h1,h2,h3⟩:=ih.1 h;exact ⟨i+1,p,by simpa using h1,by simpa using h2,h3⟩
  ·rintro ⟨i,p,h1,h2,h3⟩;cases i with
   | zero=>simp at h2
   | succ i=>exact ih.2 ⟨i,p,by simpa using h1,by simpa using h2,h3⟩
theorem q1m {t:Nat}:∀ {m:List Bool} {os:List Oper},q1u m os t=true ↔ ∃ (i:Nat) (o:Oper),os[i]?=some o∧m[i]?=some false∧o.dst=some t
 | [],_=>by simp [q1u]
 | b :: m,[]=>by cases b <;> simp [q1u]
 | false :: m,o :: os=>by
  have ih:=q1m (t:=t) (m:=m) (os:=os);simp only [q1u,Bool.or_eq_true,q36]
  constructor
  ·rintro (h | h)
   ·exact ⟨0,o,rfl,rfl,h⟩
   ·obtain ⟨i,p,h1,h2,h3⟩:=ih.1 h;exact ⟨i+1,p,by simpa using h1,by simpa using h2,h3⟩
  ·rintro ⟨i,p,h1,h2,h3⟩;cases i with
   | zero=>simp at h1; subst h1; exact .inl h3
   | succ i=>exact .inr (ih.2 ⟨i,p,by simpa using h1,by simpa using h2,h3⟩)
 | true :: m,o :: os=>by
  have ih:=q1m (t:=t) (m:=m) (os:=os);simp only [q1u]
  constructor
  ·intro h;obtain ⟨i,p,h1,h2,h3⟩:=ih.1 h;exact ⟨i+1,p,by simpa using h1,by simpa using h2,h3⟩
  ·rintro ⟨i,p,h1,h2,h3⟩;cases i with
   | zero=>simp at h2
   | succ i=>exact ih.2 ⟨i,p,by simpa using h1,by simpa using h2,h3⟩
theorem q2c {ops:Array Oper} {K:Env→Prop} {w:World}:∀ (m:List Bool) (os:List Oper) (ek:Env),
  (∀ (i j:Nat) (o p:Oper) (d:Nat),os[i]?=some o→os[j]?=some p→o.dst=some d→p.dst=some d→i=j)→(∀ (i:Nat) (o:Oper),os[i]?=some o→m[i]?=some true→q4g o=true)→WLm P ops K m os ek w →
  ∃ es,K es∧(∀ t,t ∉ q0h m os→es t=ek t)∧∀ (i:Nat) (o:Oper),os[i]?=some o→m[i]?=some true→∃ (ei:Env) (v:Value),
   (∀ t,(∀ (j:Nat) (p:Oper),j < i→os[j]?=some p→m[j]?=some true→p.dst≠some t)→ei t=ek t) ∧
   (∀ t,(∃ (j:Nat) (p:Oper),j < i∧os[j]?=some p∧m[j]?=some true∧p.dst=some t)→ei t=es t) ∧
   (∀ d,o.dst=some d→es d=v) ∧
   ∀ (e2:Env) (w':World),(∀ t,q1c ops o t=true→e2 t=ei t)→(q5h o=true→Ext w w')→∀ K':Value→World→Prop,K' v w'→wg P ops o e2 w' K'
 | [],os,ek,_,_,h=>⟨ek,by cases os <;> exact h,fun _ _=>rfl,fun i o _ h=>by simp at h⟩
 | b :: m,[],ek,_,_,h=>⟨ek,by cases b <;> exact h,fun _ _=>rfl,fun i o h=>by simp at h⟩
 | false :: m,o :: os,ek,hd,hp,h=>by
  obtain ⟨es,h1,h2,h3⟩:=q2c m os ek (fun i j o p d a b c e=>by have:=hd (i+1) (j+1) o p d (by simpa using a) (by simpa using b) c e; omega) (fun i o a b=>hp (i+1) o (by simpa using a) (by simpa using b)) h;refine ⟨es,h1,h2,fun i p hi hm=>?_⟩;cases i with
  | zero=>simp at hm
  | succ i =>
   obtain ⟨ei,v,g1,g2,g3,g4⟩:=h3 i p (by simpa using hi) (by simpa using hm);refine ⟨ei,v,fun t ht=>g1 t fun j q hj hq hmj=>ht (j+1) q Oq (by simpa using hq) (by simpa using hmj),fun t ⟨j,q,hj,hq,hmj,hdq⟩=>?_,g3,g4⟩;cases j with
   | zero=>simp at hmj
   | succ j=>exact g2 t ⟨j,q,by omega,by simpa using hq,by simpa using hmj,hdq⟩
 | true :: m,o :: os,ek,hd,hp,h=>by
  obtain ⟨v,hv,hre⟩:=qcS (hp 0 o rfl rfl) h;obtain ⟨es,h1,h2,h3⟩:=q2c m os (put ek o.dst v) (fun i j o p d a b c e=>by have:=hd (i+1) (j+1) o p d (by simpa using a) (by simpa using b) c e; omega) (fun i o a b=>hp (i+1) o (by simpa using a) (by simpa using b)) hv;have hne:∀ d,o.dst=some d→d ∉ q0h m os:=fun d hod hm=>by
   obtain ⟨i,p,a,b,c⟩:=q0g.1 hm;have:=hd 0 (i+1) o p d rfl (by simpa using a) hod c;omega
  have hes:∀ d,o.dst=some d→es d=v:=fun d hod=>by rw [h2 d (hne d hod),hod]; simp [put,upd]
  refine ⟨es,h1,fun t ht=>?_,fun i p hi hm=>?_⟩
  ·have hn:t ∉ q0h m os:=fun hm=>ht (by unfold q0h; cases o.dst <;> simp [hm]);rw [h2 t hn];unfold put;cases hod:o.dst with
   | none=>rfl
   | some d =>
    have:t≠d:=fun e=>by subst e; exact ht (by unfold q0h; rw [hod]; simp)
    simp [upd,this]
  ·cases i with
   | zero =>
    simp at hi; subst hi;exact ⟨ek,v,fun _ _=>rfl,fun t ⟨j,_,hj,_⟩=>by omega,hes,hre⟩
   | succ i =>
    obtain ⟨ei,u,g1,g2,g3,g4⟩:=h3 i p (by simpa using hi) (by simpa using hm);refine ⟨ei,u,fun t ht=>?_,fun t ⟨j,q,hj,hq,hmj,hdq⟩=>?_,g3,g4⟩
    ·rw [g1 t fun j q hj hq hmj=>ht (j+1) q Oq (by simpa using hq) (by simpa using hmj)];have h0:=ht 0 o Oq rfl rfl;unfold put;cases hod:o.dst with
     | none=>rfl
     | some d =>
      have:t≠d:=fun e=>by subst e; exact h0 hod
      simp [upd,this]
    ·cases j with
     | zero =>
      simp at hq; subst hq;rw [hes t hdq];rw [g1 t fun j q' hj' hq' hmj' hdq'=>by
       have:=hd 0 (j+1) o q' t rfl (by simpa using hq') hdq hdq';omega]
      rw [hdq]; simp [put,upd]
     | succ j=>exact g2 t ⟨j,q,by omega,by simpa using hq,by simpa using hmj,hdq⟩
def qcE:List Bool→List Oper→List Oper
 | false :: m,o :: os=>o :: qcE m os
 | true :: m,_ :: os=>qcE m os
 | _,_=>[]
def qir (P:Program) (ops:List Oper) (R:World→World→Prop) (mask:List Bool) (l:List (Nat × q1A R)) (es:Env) (w:World) (o:Oper):Prop :=
 ∀ e' w',R w w'→(∀ t,dep ops.toArray o t=true→q1u mask ops t=true→(look l t).1 (e' t) w')→(∀ t,q1c ops.toArray o t=true→q1u mask ops t=false→e' t=es t) →
  wg P ops.toArray o e' w' fun v w''=>R w' w''∧∀ d,o.dst=some d→(look l d).1 v w''
def q34 (P:Program) (ops:List Oper) (R:World→World→Prop) (mask:List Bool) (l:List (Nat × q1A R)) (es:Env) (w:World):List Oper→Prop
 | []=>True
 | o :: rest=>qir P ops R mask l es w o∧q34 P ops R mask l es w rest
theorem q34.get {ops:List Oper} {mask:List Bool} {l:List (Nat × q1A R)} {es:Env} {w:World}:∀ {os:List Oper},q34 P ops R mask l es w os→∀ o ∈ os,qir P ops R mask l es w o:=by
 intro os
 induction os with
 | nil=>intro _ o ho; cases ho
 | cons a rest ih =>
  intro h x hx
  rcases List.mem_cons.1 hx with hx | hx
  ·rw [hx]; exact h.1
  ·exact ih h.2 x hx
theorem q4z {o:Oper}:∀ {m:List Bool} {os:List Oper} {i:Nat},os[i]?=some o→m[i]?=some false→o ∈ qcE m os
 | [],_,_,_,h=>by simp at h
 | b :: m,[],_,h,_=>by simp at h
 | false :: m,p :: os,0,h,_=>by simp at h; subst h; simp [qcE]
 | true :: m,p :: os,0,_,h=>by simp at h
 | false :: m,p :: os,i+1,h,k=>by
  have:=q4z (m:=m) (os:=os) (i:=i) (by simpa using h) (by simpa using k);simp [qcE,this]
 | true :: m,p :: os,i+1,h,k=>by
  have:=q4z (m:=m) (os:=os) (i:=i) (by simpa using h) (by simpa using k);simpa [qcE] using this
theorem q2N.of {ops:Array Oper} {l:List (Nat × q1A R)} {e:Env} {w:World}:∀ {os:List Oper},(∀ o ∈ os,q35 P ops R l e w o)→q2N P ops R l e w os
 | [],_=>trivial
 | o :: os,h=>⟨h o List.mem_cons_self,q2N.of fun p hp=>h p (List.mem_cons_of_mem _ hp)⟩
def qo8 (P:Program) (ops:Array Oper) (R:World→World→Prop) (l:List (Nat × q1A R)) (e:Env) (w:World) (o:Oper):Prop :=
 ∀ e' w',R w w'→(∀ t,dep ops o t=true→(look l t).1 (e' t) w')→(∀ t,q1c ops o t=true→dep ops o t=false→e' t=e t) →
  wg P ops o e' w' fun v w''=>R w' w''∧∀ d,o.dst=some d→(look l d).1 v w''
theorem qo8.ok {ops:Array Oper} {l:List (Nat × q1A R)} {e:Env} {w:World} {o:Oper} (h:qo8 P ops R l e w o):q35 P ops R l e w o:=fun e' w' a b c=>q0w (h e' w' a b c)
theorem q8N {ops:List Oper} {mask:List Bool} {l:List (Nat × q1A R)} {lc:Bool} {e:Env} {w:World} {K:Env→Prop} (hP:Pre R) (hld:lc=true→∀ w w',R w w'→Ext w w') (hok:q2H ops.toArray=true) (hm:q47 lc ops mask=true)
  (hw:WLm P ops.toArray K mask ops e w):∃ es,K es∧(∀ t,t ∉ q0h mask ops→es t=e t)∧(∀ t,t ∈ q0h mask ops→q1u mask ops t=false) ∧
   (∀ (i:Nat) (o:Oper),ops[i]?=some o→(mask[i]?=some false→qir P ops R mask l es w o)→qo8 P ops.toArray R (q3s mask ops es l) e w o):=by
 unfold q47 at hm;rw [Bool.and_eq_true] at hm;obtain ⟨hlen,hm⟩:=hm;have hlen:mask.length=ops.length:=Nat.eq_of_beq_eq_true hlen;rw [List.all_eq_true] at hm;have hm':∀ (i:Nat) (o:Oper),ops[i]?=some o→mask[i]?=some true→q4g o=true∧(lc=true∨q5h o=false)∧∀ j,q0v o j=true→j < ops.length→mask[j]?=some true:=fun i o hi hmi=>by
  have hlt:=(List.getElem?_eq_some_iff.1 hi).1;have:=hm i (List.mem_range.2 hlt);rw [hi] at this;have hg:mask.getD i false=true:=by simp [List.getD,hmi]
  simp only [hg,Bool.not_true,Bool.false_or,Bool.and_eq_true,Bool.or_eq_true,Bool.not_eq_true',List.all_eq_true,List.mem_range] at this;refine ⟨this.1.1,this.1.2,fun j hj hjl=>?_⟩;have:=this.2 j hjl;rw [hj] at this;simp only [Bool.true_eq_false,false_or] at this;rw [List.getElem?_eq_getElem (by omega)];rw [List.getD,List.getElem?_eq_getElem (by omega)] at this;simpa using this
 have dok:=DOk.of hok;unfold q2H at hok;rw [List.all_eq_true] at hok;have hpair:∀ (i j:Nat) (o p:Oper),ops[i]?=some o→ops[j]?=some p→i≠j→(∀ d,o.dst=some d→p.dst≠some d)∧∀ d,p.dst=some d→q1c ops.toArray o d=true→q0v o j=true∨q0v p i=true:=fun i j o p hi hj hij=>by
  have hlt:=(List.getElem?_eq_some_iff.1 hi).1;have hltj:=(List.getElem?_eq_some_iff.1 hj).1;have:=hok i (List.mem_range.2 (by simpa using hlt));simp only [hi,Bool.and_eq_true,List.all_eq_true] at this;have:=this.2 j (List.mem_range.2 (by simpa using hltj));simp only [hj,Bool.or_eq_true,Bool.and_eq_true] at this
  rcases this with h | ⟨h1,h2⟩
  ·exact absurd (Nat.eq_of_beq_eq_true h) hij
  ·refine ⟨fun d ho hp=>?_,fun d hp hl=>?_⟩
   ·rw [ho,hp] at h1; simp at h1
   ·rw [hp] at h2;simp only [hl,Bool.not_true,Bool.or_eq_true] at h2;simpa using h2
 have hafter:∀ (i j:Nat) (o:Oper),ops[i]?=some o→q0v o j=true→j < i:=fun i j o hi he=>by
  have hlt:=(List.getElem?_eq_some_iff.1 hi).1;have:=hok i (List.mem_range.2 (by simpa using hlt));simp only [hi,Bool.and_eq_true,List.all_eq_true] at this;obtain ⟨x,hx,hb,hon⟩:=q0a.1 he;have:=this.1.1 x (Array.mem_toList_iff.2 hx);simp only [hb,Bool.not_true,Bool.false_or,decide_eq_true_eq] at this;omega
 have hdd:∀ (i j:Nat) (o p:Oper) (d:Nat),ops[i]?=some o→ops[j]?=some p→o.dst=some d→p.dst=some d→i=j:=fun i j o p d hi hj ho hp=>by
  rcases Nat.decEq i j with h | h
  ·exact absurd hp ((hpair i j o p hi hj h).1 d ho)
  ·exact h
 have hmb:∀ (i:Nat),i < ops.length→mask[i]?=some true∨mask[i]?=some false:=fun i hi=>by
  rw [List.getElem?_eq_getElem (by omega)];cases mask[i] <;> simp
 obtain ⟨es,h1,h2,h3⟩:=q2c (P:=P) mask ops e hdd (fun i o a b=>(hm' i o a b).1) hw;have hdis:∀ t,t ∈ q0h mask ops→q1u mask ops t=false:=fun t ht=>by
  obtain ⟨i,o,a,b,c⟩:=q0g.1 ht;cases hl:q1u mask ops t with
  | false=>rfl
  | true =>
   obtain ⟨j,p,a',b',c'⟩:=q1m.1 hl;have:=hdd i j o p t a a' c c';subst this;rw [b] at b'; cases b'
 refine ⟨es,h1,h2,hdis,fun i o hi hstep e' w' hR hd ho=>?_⟩;have hlt:=(List.getElem?_eq_some_iff.1 hi).1;have hdepE:∀ t,dep ops.toArray o t=true→t ∈ q0h mask ops→e' t=es t:=fun t hdt hte=>by
  have:=hd t hdt;unfold q3s at this;rw [q2T,if_pos hte] at this;exact this
 rcases hmb i hlt with hmi | hmi
 ·obtain ⟨ei,v,g1,g2,g3,g4⟩:=h3 i o hi hmi;obtain ⟨hp,hlc,hed⟩:=hm' i o hi hmi;refine g4 e' w' (fun t ht=>?_) (fun hl=>hld (by rcases hlc with h | h; exact h; rw [hl] at h; cases h) _ _ hR) _ ⟨?_,fun d hod=>?_⟩
  ·cases hdt:dep ops.toArray o t with
   | true =>
    obtain ⟨j,p,hj,hej,hpd⟩:=q3M.1 hdt;have hj:ops[j]?=some p:=by simpa using hj
    have hjl:=(List.getElem?_eq_some_iff.1 hj).1;have hmj:=hed j hej hjl;rw [hdepE t hdt (q0g.2 ⟨j,p,hj,hmj,hpd⟩),g2 t ⟨j,p,hafter i j o hi hej,hj,hmj,hpd⟩]
   | false =>
    rw [ho t ht hdt,g1 t fun j p hji hj hmj hpd=>?_]
    rcases (hpair i j o p hi hj Oq).2 t hpd ht with h | h
    ·have:dep ops.toArray o t=true:=q3M.2 ⟨j,p,by simpa using hj,h,hpd⟩;rw [hdt] at this; cases this
    ·have:=hafter j i p hj h; omega
  ·exact hP.refl _
  ·have:d ∈ q0h mask ops:=q0g.2 ⟨i,o,hi,hmi,hod⟩;unfold q3s;rw [q2T,if_pos this];exact (g3 d hod).symm
 ·have hL:=hstep hmi e' w' hR (fun t hdt hlt'=>?_) (fun t ht hlt'=>?_)
  ·have hlk:∀ d,o.dst=some d→look (q3s mask ops es l) d=look l d:=fun d hod=>by
    have hne:d ∉ q0h mask ops:=fun hm=>by
     have:=hdis d hm;rw [q1m.2 ⟨i,o,hi,hmi,hod⟩] at this; cases this
    unfold q3s;rw [q2T,if_neg hne]
   have hpost:(fun v w''=>R w' w''∧∀ d,o.dst=some d→(look (q3s mask ops es l) d).1 v w'')=fun v w''=>R w' w''∧∀ d,o.dst=some d→(look l d).1 v w'':=by
    funext v w''
    refine propext ⟨fun ⟨a,b⟩=>⟨a,fun d hod=>by rw [← hlk d hod]; exact b d hod⟩,fun ⟨a,b⟩=>⟨a,fun d hod=>by rw [hlk d hod]; exact b d hod⟩⟩
   rw [hpost]; exact hL
  ·have:=hd t hdt;have hne:t ∉ q0h mask ops:=fun hm=>by have:=hdis t hm; rw [hlt'] at this; cases this
   unfold q3s at this;rw [q2T,if_neg hne] at this;exact this
  ·cases hdt:dep ops.toArray o t with
   | true =>
    obtain ⟨j,p,hj,hej,hpd⟩:=q3M.1 hdt;have hj:ops[j]?=some p:=by simpa using hj
    have hjl:=(List.getElem?_eq_some_iff.1 hj).1
    rcases hmb j hjl with hmj | hmj
    ·exact hdepE t hdt (q0g.2 ⟨j,p,hj,hmj,hpd⟩)
    ·rw [q1m.2 ⟨j,p,hj,hmj,hpd⟩] at hlt'; cases hlt'
   | false =>
    rw [ho t ht hdt,h2 t fun hte=>?_];obtain ⟨j,p,hj,hmj,hpd⟩:=q0g.1 hte;have hij:i≠j:=fun e=>by subst e; rw [hmi] at hmj; cases hmj
    rcases (hpair i j o p hi hj hij).2 t hpd ht with h | h
    ·have:dep ops.toArray o t=true:=q3M.2 ⟨j,p,by simpa using hj,h,hpd⟩;rw [hdt] at this; cases this
    ·have:=(hm' j p hj hmj).2.2 i h hlt;rw [hmi] at this; cases this
theorem q5m {ops:List Oper} {mask:List Bool} {l:List (Nat × q1A R)} {lc:Bool} {e:Env} {w:World} {K:Env→Prop} (hP:Pre R) (hld:lc=true→∀ w w',R w w'→Ext w w') (hok:q2H ops.toArray=true) (hm:q47 lc ops mask=true)
  (hw:WLm P ops.toArray K mask ops e w):∃ es,K es∧(∀ t,t ∉ q0h mask ops→es t=e t)∧(∀ t,t ∈ q0h mask ops→q1u mask ops t=false) ∧
   (∀ (i:Nat) (o:Oper),ops[i]?=some o→(mask[i]?=some false→qir P ops R mask l es w o)→q35 P ops.toArray R (q3s mask ops es l) e w o):=by
 obtain ⟨es,h1,h2,h3,h4⟩:=q8N (l:=l) hP hld hok hm hw;exact ⟨es,h1,h2,h3,fun i o hi hs=>(h4 i o hi hs).ok⟩
theorem q0Z {ops:List Oper} {mask:List Bool} {l:List (Nat × q1A R)} {es:Env} {w:World} {o:Oper} {rest:List Oper}
  (h:∀ e' w',R w w'→(∀ t,dep ops.toArray o t=true→q1u mask ops t=true→(look l t).1 (e' t) w')→(∀ t,q1c ops.toArray o t=true→q1u mask ops t=false→e' t=es t) →
   wg P ops.toArray o e' w' fun v w''=>R w' w''∧∀ d,o.dst=some d→(look l d).1 v w'')
  (h2:q34 P ops R mask l es w rest):q34 P ops R mask l es w (o :: rest):=⟨h,h2⟩
theorem q1T {ops:List Oper} {mask:List Bool} {l:List (Nat × q1A R)} {es:Env} {w:World}:q34 P ops R mask l es w []:=trivial
theorem q4X {ops:List Oper} {t:Nat}:ops.any (wrO t)=true ↔ ∃ (i:Nat) (o:Oper),ops[i]?=some o∧o.dst=some t:=by
 rw [List.any_eq_true]
 constructor
 ·rintro ⟨o,ho,hw⟩;obtain ⟨i,hi⟩:=List.getElem?_of_mem ho;exact ⟨i,o,hi,q36.1 hw⟩
 ·rintro ⟨i,o,hi,hd⟩;exact ⟨o,List.mem_of_getElem? hi,q36.2 hd⟩
theorem qkk {id:Nat} {ops:List Oper} {Q:Exit→Env→World→Prop} {e:Env} {w:World} (lc:Bool) (hm:P.follows .mixedOrders=true) (hR:Pre R) (hld:lc=true→∀ w w',R w w'→Ext w w') (mask:List Bool) (l:List (Nat × q1A R))
  (hok:((!ops.isEmpty && q2H ops.toArray && (List.range ops.dropLast.length).all fun j=>q0v (q3t ops) j) && (q47 lc ops mask && !mask.getD (ops.length-1) true))=true)
  (h:∀ K:Env→Prop,(∀ es,(q34 P ops R mask l es w (qcE mask ops.dropLast) ∧
   (∀ e' w',R w w'→(∀ t,q1u mask ops.dropLast t=true→(look l t).1 (e' t) w')→(∀ t,q1u mask ops.dropLast t=false→e' t=es t)→wg P ops.toArray (q3t ops) e' w' fun v w''=>Q .normal (put e' (q3t ops).dst v) w''))→K es)→WLm P ops.toArray K mask ops e w) :
  W P n (.region id ops.toArray true) Q e w:=by
 rw [Bool.and_eq_true] at hok;obtain ⟨hok1,hmk'⟩:=hok;rw [Bool.and_eq_true] at hmk';obtain ⟨hmk,hlast⟩:=hmk';have hok2:=hok1;simp only [Bool.and_eq_true] at hok2;obtain ⟨es,⟨hst,hL⟩,h2,hdis,h3⟩:=q5m (K:=fun es=>q34 P ops R mask l es w (qcE mask ops.dropLast) ∧
   (∀ e' w',R w w'→(∀ t,q1u mask ops.dropLast t=true→(look l t).1 (e' t) w')→(∀ t,q1u mask ops.dropLast t=false→e' t=es t)→wg P ops.toArray (q3t ops) e' w' fun v w''=>Q .normal (put e' (q3t ops).dst v) w''))
  hR hld hok2.1.2 hmk (h _ fun _ h=>h)
 have hlen:mask.length=ops.length:=by
  unfold q47 at hmk; rw [Bool.and_eq_true] at hmk; exact Nat.eq_of_beq_eq_true hmk.1
 have hdl:∀ (i:Nat) (o:Oper),ops.dropLast[i]?=some o→ops[i]?=some o∧i < ops.length-1:=fun i o hi=>by
  have:=(List.getElem?_eq_some_iff.1 hi);obtain ⟨hlt,he⟩:=this;rw [List.getElem_dropLast] at he;simp at hlt;exact ⟨by rw [List.getElem?_eq_getElem Oq,he],hlt⟩
 have hdr:∀ (i:Nat) (o:Oper),ops[i]?=some o→i < ops.length-1→ops.dropLast[i]?=some o:=fun i o hi hlt=>by
  rw [List.getElem?_dropLast,if_pos hlt]; exact hi
 have hmb:∀ (i:Nat),i < ops.length→mask[i]?=some true∨mask[i]?=some false:=fun i hi=>by
  rw [List.getElem?_eq_getElem (by omega)];cases mask[i] <;> simp
 have hmt:∀ (i:Nat),mask[i]?=some true→i < ops.length→i < ops.length-1:=fun i hi hlt=>by
  rcases Nat.lt_or_ge i (ops.length-1) with h | h
  ·exact h
  ·have he:i=ops.length-1:=by omega
   subst he;simp [List.getD,hi] at hlast
 refine qfg hm hR (q3s mask ops es l) hok1 (q2N.of fun o ho=>?_) (fun e' w' hw hs ho=>?_)
 ·obtain ⟨i,hi⟩:=List.getElem?_of_mem ho;exact h3 i o (hdl i o hi).1 fun hmi=>hst.get o (q4z hi hmi)
 ·refine q0w (hL e' w' hw (fun t ht=>?_) (fun t ht=>?_))
  ·obtain ⟨i,o,hi,hmi,hd⟩:=q1m.1 ht;have:=hs t (q4X.2 ⟨i,o,hi,hd⟩);have hne:t ∉ q0h mask ops:=fun hm=>by
    have:=hdis t hm;rw [q1m.2 ⟨i,o,(hdl i o hi).1,hmi,hd⟩] at this; cases this
   unfold q3s at this;rw [q2T,if_neg hne] at this;exact this
  ·by_cases hte:t ∈ q0h mask ops
   ·obtain ⟨i,o,hi,hmi,hd⟩:=q0g.1 hte;have:=hs t (q4X.2 ⟨i,o,hdr i o hi (hmt i hmi (List.getElem?_eq_some_iff.1 hi).1),hd⟩);unfold q3s at this;rw [q2T,if_pos hte] at this;exact this
   ·rw [h2 t hte];refine ho t ?_;cases ha:ops.dropLast.any (wrO t) with
    | false=>rfl
    | true =>
     obtain ⟨i,o,hi,hd⟩:=q4X.1 ha;obtain ⟨hi',hlt⟩:=hdl i o hi
     rcases hmb i Oq with hmi | hmi
     ·exact absurd (q0g.2 ⟨i,o,hi',hmi,hd⟩) hte
     ·rw [q1m.2 ⟨i,o,hi,hmi,hd⟩] at ht; cases ht
theorem W_dP {id:Nat} {ops:List Oper} {Q:Exit→Env→World→Prop} {e:Env} {w:World} (lc:Bool) (hm:P.follows .mixedOrders=true) (hR:Pre R) (hld:lc=true→∀ w w',R w w'→Ext w w') (mask:List Bool) (l:List (Nat × q1A R))
  (hok:(q2H ops.toArray && q47 lc ops mask)=true)
  (h:∀ K:Env→Prop,(∀ es,(q34 P ops R mask l es w (qcE mask ops) ∧
   (∀ e' w',R w w'→(∀ t,q1u mask ops t=true→(look l t).1 (e' t) w')→(∀ t,q1u mask ops t=false→e' t=es t)→Q .normal e' w'))→K es)→WLm P ops.toArray K mask ops e w) :
  W P n (.region id ops.toArray true) Q e w:=by
 rw [Bool.and_eq_true] at hok;obtain ⟨hok1,hmk⟩:=hok;obtain ⟨es,⟨hst,hL⟩,h2,hdis,h3⟩:=q5m (K:=fun es=>q34 P ops R mask l es w (qcE mask ops) ∧
   (∀ e' w',R w w'→(∀ t,q1u mask ops t=true→(look l t).1 (e' t) w')→(∀ t,q1u mask ops t=false→e' t=es t)→Q .normal e' w'))
  hR hld hok1 hmk (h _ fun _ h=>h)
 have hlen:mask.length=ops.length:=by
  unfold q47 at hmk; rw [Bool.and_eq_true] at hmk; exact Nat.eq_of_beq_eq_true hmk.1
 have hmb:∀ (i:Nat),i < ops.length→mask[i]?=some true∨mask[i]?=some false:=fun i hi=>by
  rw [List.getElem?_eq_getElem (by omega)];cases mask[i] <;> simp
 have hisd:∀ t,q24 ops.toArray t=ops.any (wrO t):=fun t=>rfl;refine qo4 hm hR (q3s mask ops es l) hok1 (q2N.of fun o ho=>?_) (fun e' w' hw hs ho=>?_)
 ·obtain ⟨i,hi⟩:=List.getElem?_of_mem ho;exact h3 i o hi fun hmi=>hst.get o (q4z hi hmi)
 ·refine hL e' w' hw (fun t ht=>?_) (fun t ht=>?_)
  ·obtain ⟨i,o,hi,hmi,hd⟩:=q1m.1 ht;have:=hs t (q4X.2 ⟨i,o,hi,hd⟩);have hne:t ∉ q0h mask ops:=fun hm=>by
    have:=hdis t hm;rw [ht] at this; cases this
   unfold q3s at this;rw [q2T,if_neg hne] at this;exact this
  ·by_cases hte:t ∈ q0h mask ops
   ·obtain ⟨i,o,hi,hmi,hd⟩:=q0g.1 hte;have:=hs t (q4X.2 ⟨i,o,hi,hd⟩);unfold q3s at this;rw [q2T,if_pos hte] at this;exact this
   ·rw [h2 t hte];refine ho t ?_;rw [hisd];cases ha:ops.any (wrO t) with
    | false=>rfl
    | true =>
     obtain ⟨i,o,hi,hd⟩:=q4X.1 ha
     rcases hmb i (List.getElem?_eq_some_iff.1 hi).1 with hmi | hmi
     ·exact absurd (q0g.2 ⟨i,o,hi,hmi,hd⟩) hte
     ·rw [q1m.2 ⟨i,o,hi,hmi,hd⟩] at ht; cases ht
theorem q8E {t:Nat}:∀ {m:List Bool} {os:List Oper},m.all (fun b=>b)=true→q1u m os t=false
 | [],_,_=>by cases ‹List Oper› <;> rfl
 | true :: m,[],_=>rfl
 | true :: m,_ :: os,h=>by simp only [q1u]; exact q8E (by simpa using h)
 | false :: m,_,h=>by simp at h
theorem q9y:∀ {m:List Bool} {os:List Oper},m.all (fun b=>b)=true→qcE m os=[]
 | [],_,_=>by cases ‹List Oper› <;> rfl
 | true :: m,[],_=>rfl
 | true :: m,_ :: os,h=>by simp only [qcE]; exact q9y (by simpa using h)
 | false :: m,_,h=>by simp at h
theorem qcJ {id:Nat} {ops:List Oper} {Q:Exit→Env→World→Prop} {e:Env} {w:World} (hm:P.follows .mixedOrders=true) (mask:List Bool)
  (hok:(mask.all (fun b=>b) && (q2H ops.toArray && q47 true ops mask))=true)
  (h:∀ K:Env→Prop,(∀ es,(∀ w',Ext w w'→Q .normal es w')→K es)→WLm P ops.toArray K mask ops e w) :
  W P n (.region id ops.toArray true) Q e w:=by
 rw [Bool.and_eq_true] at hok;have hall:mask.all (fun b=>b)=true:=hok.1;refine W_dP (R:=Kp fun _=>True) true hm (Kp.pre _) (fun _ _ _ h=>h) mask [] hok.2 fun K hK=>h K fun es hes=>hK es ⟨by rw [q9y hall]; trivial,fun e' w' hw _ ho=>?_⟩;have:e'=es:=funext fun t=>ho t (q8E hall);rw [this];exact hes w' hw
end
section
variable {P:Program} {ops:Array Oper} {K:Env→Prop} {e:Env} {w:World} {d:Option Nat} {o:Oper} {os:List Oper} {m:List Bool}
theorem WLm_t:WLm P ops K (true :: m) (o :: os) e w=wg P ops o e w fun v _=>WLm P ops K m os (put e o.dst v) w:=rfl
theorem WLm_f:WLm P ops K (false :: m) (o :: os) e w=WLm P ops K m os e w:=rfl
theorem WLm_n:WLm P ops K [] [] e w=K e:=rfl
@[congr] theorem qt1 {e':Env} (h:e=e'):WLm P ops K m os e w=WLm P ops K m os e' w:=by rw [h]
attribute [go_sem ↓] WLm_t WLm_f WLm_n
attribute [irreducible] WLm
end
section
variable {P:Program} {t:TypeId} {k':IntKind} {a b:Nat}
theorem q8K (a b:Nat):Int.fdiv (a:Int) (b:Int)=((a / b:Nat):Int):=by
 rw [Int.fdiv_eq_ediv_of_nonneg _ (Int.natCast_nonneg b)]; rfl
theorem qg8:q0y P .shr t (.int .u64 (a:Int)) (.int k' 32)=some (.int .u64 ((a / 4294967296:Nat):Int)):=by
 rw [q2L,if_neg (by omega)];exact congrArg (fun x=>some (Value.int .u64 x)) (q8K a 4294967296)
theorem qg6:q0y P .shr t (.int .u64 (a:Int)) (.int k' 63)=some (.int .u64 ((a / 9223372036854775808:Nat):Int)):=by
 rw [q2L,if_neg (by omega)];exact congrArg (fun x=>some (Value.int .u64 x)) (q8K a 9223372036854775808)
theorem ql1:q0y P .shr t (.int .u32 (a:Int)) (.int k' 8)=some (.int .u32 ((a / 256:Nat):Int)):=by
 rw [q2L,if_neg (by omega)];exact congrArg (fun x=>some (Value.int .u32 x)) (q8K a 256)
theorem qga:q0y P .shr t (.int .u32 (a:Int)) (.int k' 16)=some (.int .u32 ((a / 65536:Nat):Int)):=by
 rw [q2L,if_neg (by omega)];exact congrArg (fun x=>some (Value.int .u32 x)) (q8K a 65536)
theorem qg9:q0y P .shr t (.int .u32 (a:Int)) (.int k' 27)=some (.int .u32 ((a / 134217728:Nat):Int)):=by
 rw [q2L,if_neg (by omega)];exact congrArg (fun x=>some (Value.int .u32 x)) (q8K a 134217728)
theorem w32N:IntKind.u32.wrap (a:Int)=((a % 4294967296:Nat):Int):=by rw [q2h]; omega
theorem q81 (h:a+b < 18446744073709551616):IntKind.u64.wrap ((a:Int)+(b:Int))=((a+b:Nat):Int):=by rw [q1R]; omega
theorem q50 (hb:b < 18446744073709551616):IntKind.u64.wrap ((a:Int)-(b:Int))=(((a+(18446744073709551616-b)) % 18446744073709551616:Nat):Int):=by rw [q1R]; omega
theorem id64N (h:a < 18446744073709551616):IntKind.u64.wrap (a:Int)=(a:Int):=by rw [q1R]; omega
theorem qdj (h:a*b < 18446744073709551616):IntKind.u64.wrap ((a:Int)*(b:Int))=((a*b:Nat):Int):=by rw [q1R,← Int.natCast_mul]; omega
theorem i64N (h:a < 9223372036854775808):IntKind.i64.wrap (a:Int)=(a:Int):=by rw [qhX]; omega
end
theorem q4b {n x:Nat}:(BitVec.ofInt n (x:Int))=BitVec.ofNat n x:=by simp
theorem qb6 {a b:Nat} (ha:a < 18446744073709551616) (hb:b < 18446744073709551616):q1I .or .u64 (a:Int) (b:Int)=((a ||| b:Nat):Int):=by
 have h:a ||| b < 2 ^ 64:=Nat.or_lt_two_pow ha hb;have h2:(BitVec.ofInt 64 (a:Int) ||| BitVec.ofInt 64 (b:Int)).toNat=a ||| b:=by
  rw [q4b,q4b,BitVec.toNat_or,BitVec.toNat_ofNat,BitVec.toNat_ofNat,Nat.mod_eq_of_lt ha,Nat.mod_eq_of_lt hb]
 show IntKind.u64.wrap ((BitVec.ofInt 64 (a:Int) ||| BitVec.ofInt 64 (b:Int)).toNat:Int)=_
 rw [h2,q1R]; omega
theorem or32N {a b:Nat} (ha:a < 4294967296) (hb:b < 4294967296):q1I .or .u32 (a:Int) (b:Int)=((a ||| b:Nat):Int):=by
 have h:a ||| b < 2 ^ 32:=Nat.or_lt_two_pow ha hb;have h2:(BitVec.ofInt 32 (a:Int) ||| BitVec.ofInt 32 (b:Int)).toNat=a ||| b:=by
  rw [q4b,q4b,BitVec.toNat_or,BitVec.toNat_ofNat,BitVec.toNat_ofNat,Nat.mod_eq_of_lt ha,Nat.mod_eq_of_lt hb]
 show IntKind.u32.wrap ((BitVec.ofInt 32 (a:Int) ||| BitVec.ofInt 32 (b:Int)).toNat:Int)=_
 rw [h2,q2h]; omega
theorem q4G {a b:Nat} (ha:a < 18446744073709551616) (hb:b < 18446744073709551616):q1I .and .u64 (a:Int) (b:Int)=((a &&& b:Nat):Int):=by
 have h:a &&& b < 2 ^ 64:=Nat.and_lt_two_pow a hb;have h2:(BitVec.ofInt 64 (a:Int) &&& BitVec.ofInt 64 (b:Int)).toNat=a &&& b:=by
  rw [q4b,q4b,BitVec.toNat_and,BitVec.toNat_ofNat,BitVec.toNat_ofNat,Nat.mod_eq_of_lt ha,Nat.mod_eq_of_lt hb]
 show IntKind.u64.wrap ((BitVec.ofInt 64 (a:Int) &&& BitVec.ofInt 64 (b:Int)).toNat:Int)=_
 rw [h2,q1R]; omega
theorem qbD {a b:Nat} (ha:a < 4294967296) (hb:b < 4294967296):q1I .and .u32 (a:Int) (b:Int)=((a &&& b:Nat):Int):=by
 have h:a &&& b < 2 ^ 32:=Nat.and_lt_two_pow a hb;have h2:(BitVec.ofInt 32 (a:Int) &&& BitVec.ofInt 32 (b:Int)).toNat=a &&& b:=by
  rw [q4b,q4b,BitVec.toNat_and,BitVec.toNat_ofNat,BitVec.toNat_ofNat,Nat.mod_eq_of_lt ha,Nat.mod_eq_of_lt hb]
 show IntKind.u32.wrap ((BitVec.ofInt 32 (a:Int) &&& BitVec.ofInt 32 (b:Int)).toNat:Int)=_
 rw [h2,q2h]; omega
section
variable {P:Program} {t:TypeId} {k':IntKind} {a b:Nat}
theorem qcp (hb:b≤64):q0y P .shl t (.int .u64 (a:Int)) (.int k' (b:Int))=some (.int .u64 ((a*2 ^ b % 18446744073709551616:Nat):Int)):=by
 rw [q92,if_neg (by omega)];have:min (b:Int).toNat IntKind.u64.bits=b:=by simp [IntKind.bits]; omega
 rw [this,q1R]
 congr 2
theorem qjQ (hb:b≤32):q0y P .shl t (.int .u32 (a:Int)) (.int k' (b:Int))=some (.int .u32 ((a*2 ^ b % 4294967296:Nat):Int)):=by
 rw [q92,if_neg (by omega)];have:min (b:Int).toNat IntKind.u32.bits=b:=by simp [IntKind.bits]; omega
 rw [this,q2h]
 congr 2
theorem qpw (hb:b≤64):q0y P .shr t (.int .u64 (a:Int)) (.int k' (b:Int))=some (.int .u64 ((a / 2 ^ b:Nat):Int)):=by
 rw [q2L,if_neg (by omega)];have:min (b:Int).toNat IntKind.u64.bits=b:=by simp [IntKind.bits]; omega
 rw [this];have:=q8K a (2 ^ b);rw [← this]; simp
theorem qq1 (h:a < 9223372036854775808):q0y P .quo t (.int .i64 (a:Int)) (.int .i64 32)=some (.int .i64 ((a / 32:Nat):Int)):=by
 rw [q94,if_neg (by omega)];have:Int.tdiv (a:Int) 32=((a / 32:Nat):Int):=rfl;rw [this,i64_in Oq (by omega)]
theorem qqQ:q0y P .rem t (.int .i64 (a:Int)) (.int .i64 32)=some (.int .i64 ((a % 32:Nat):Int)):=by
 rw [q93,if_neg (by omega)]; rfl
end
section
variable {P:Program} {t:TypeId} {k':IntKind} {a b:Nat}
theorem qgd:q0y P .shl t (.int .u64 (a:Int)) (.int k' 32)=some (.int .u64 ((a*4294967296 % 18446744073709551616:Nat):Int)):=qcp (b:=32) Oq
theorem ql3 (hb:b < 32):q0y P .shl t (.int .u32 1) (.int k' (b:Int))=some (.int .u32 ((2 ^ b:Nat):Int)):=by
 have:=qjQ (P:=P) (t:=t) (k':=k') (a:=1) (b:=b) Oq;rw [Nat.one_mul,Nat.mod_eq_of_lt (show 2 ^ b < 4294967296 from Nat.pow_lt_pow_right Oq hb)] at this;exact this
theorem qcf (h:0 < a) (h2:a < 4294967296):IntKind.u32.wrap ((a:Int)-1)=((a-1:Nat):Int):=by rw [q2h]; omega
end
attribute [go_sem high] qgd ql3 qb6 or32N q4G qbD qcp qjQ qpw qq1 qqQ
theorem beqN {a b:Nat}:((a:Int) == (b:Int))=decide (a=b):=by rw [Bool.eq_iff_iff,beq_iff_eq,decide_eq_true_eq]; omega
theorem bneN {a b:Nat}:((a:Int) != (b:Int))=decide (a≠b):=by rw [Bool.eq_iff_iff,bne_iff_ne,decide_eq_true_eq]; omega
theorem qkb {a:Nat}:((a:Int) != 0)=decide (a≠0):=bneN (b:=0)
theorem q8W {a:Nat}:((a:Int) == 0)=decide (a=0):=beqN (b:=0)
theorem qja {k:IntKind} {a b:Int}:mmV true [.int k a,.int k b]=some (.int k (max a b)):=by simp [mmV]
theorem qj9 {k:IntKind} {a b:Int}:mmV false [.int k a,.int k b]=some (.int k (min a b)):=by simp [mmV]
attribute [go_sem high] qja qj9
attribute [go_sem high] ql1 qga qg9 qg8 qg6 w32N q81 qdj id64N
end Go.E
namespace Go.Proofs.YtbcmhlhgljoolaaGreatDoor
open Go Go.E Go.Sp
theorem q5D {D:Nat→Prop} {A:Option Addr} {n c:Nat} {l:List Nat} {s:Bool} {w:World} (h:U32 w D A n c l) (hb:n≤1000000000) (hf:Fr D w) :
  Calls Tryz.prog 157 #[.agg #[.bool s,.slice A n c]] w fun e w'=>∃ s' A' n' c',e=.returned (.agg #[.bool s',.slice A' n' c'])∧Ext w w'∧Big w' D s' A' n' c' (sgn s (val l)):=by
 refine q0H Tryz.func157 rfl Tryz.ntmps157 (by kernel_rfl) ?_;refine q0A fun K hK=>?_;refine Zz ?_;refine q0X ?_;intro g1 w1 hg1 hx1 hb1 hs1;refine q0i ?_;intro g2 w2 hg2 hx2 hb2 hs2;refine hK _ _ ?_; clear hK;replace hb1:=hb1.ext hx2;have hc0:w2.cell? ⟨g1,0,none⟩=some (.bool s):=hb1.cell 0;have hc1:w2.cell? ⟨g1,1,none⟩=some (.slice A n c):=hb1.cell 1;have hD:Fr (Dx D w.heap.size w2.heap.size) w2:=Dx.fr ((hf.kp hx1).kp hx2) (Nat.le_refl _);refine q0A fun K hK=>?_;refine Zz2 hc0 hc1 ?_;refine q0E q2s (q17 (((h.sub (Dx.keep rfl)).ext hx1).ext hx2) hb hD) ?_;rintro _ w3 ⟨s3,A3,n3,c3,rfl,hx3,hB⟩; refine ⟨_,rfl,?_⟩;replace hb2:=hb2.ext hx3;refine q0V hb2 q0u rfl rfl fun w9 hk9 hb9=>?_;refine hK _ _ ?_; clear hK;refine q0L ?_
 try simp only [q0D,q0N]
 exact (q2u rfl (q0t (by first | exact rfl | assumption) q1X hb9 rfl) ⟨_,_,_,_,rfl,(((hx1.trans hx2).trans hx3)).under hk9 (fun k hk=>by omega),(hB.kp (hk9.mono fun k _ h=>Dx.ne h Oq Oq)).sub fun k _ h=>h.1⟩)
theorem qdW {D:Nat→Prop} {A:Option Addr} {n c:Nat} {l:List Nat} {s:Bool} {w:World} (h:U32 w D A n c l) (hb:n≤1000000000) (hf:Fr D w) :
  Calls Tryz.prog 172 #[.agg #[.bool s,.slice A n c]] w fun e w'=>∃ s' A' n' c',e=.returned (.agg #[.bool s',.slice A' n' c'])∧Ext w w'∧Big w' D s' A' n' c' (sgn (!s) (val l)):=by
 refine q0H Tryz.func172 rfl Tryz.ntmps172 (by kernel_rfl) ?_;refine q0A fun K hK=>?_;refine Zz ?_;refine q0X ?_;intro g1 w1 hg1 hx1 hb1 hs1;refine q0i ?_;intro g2 w2 hg2 hx2 hb2 hs2;refine hK _ _ ?_; clear hK;replace hb1:=hb1.ext hx2;have hc0:w2.cell? ⟨g1,0,none⟩=some (.bool s):=hb1.cell 0;have hc1:w2.cell? ⟨g1,1,none⟩=some (.slice A n c):=hb1.cell 1;have hD:Fr (Dx D w.heap.size w2.heap.size) w2:=Dx.fr ((hf.kp hx1).kp hx2) (Nat.le_refl _);refine q0A fun K hK=>?_;refine Zz2 hc0 hc1 ?_;refine q0E q2s (q17 (((h.sub (Dx.keep rfl)).ext hx1).ext hx2) hb hD) ?_;rintro _ w3 ⟨s3,A3,n3,c3,rfl,hx3,hB⟩; refine ⟨_,rfl,?_⟩;replace hb2:=hb2.ext hx3;refine q0V hb2 q0u rfl rfl fun w9 hk9 hb9=>?_;refine hK _ _ ?_; clear hK;refine q0L ?_
 try simp only [q0D,q0N]
 exact (q2u rfl (q0t (by first | exact rfl | assumption) q1X hb9 rfl) ⟨_,_,_,_,rfl,(((hx1.trans hx2).trans hx3)).under hk9 (fun k hk=>by omega),(hB.kp (hk9.mono fun k _ h=>Dx.ne h Oq Oq)).sub fun k _ h=>h.1⟩)
theorem qfd {D:Nat→Prop} {A A':Option Addr} {n n' c c':Nat} {l l':List Nat} {w:World} (h:U32 w D A n c l) (h':U32 w D A' n' c' l') (hb:n≤1000000000) (hb':n'≤1000000000) :
  Calls Tryz.prog 214 #[.slice A n c,.slice A' n' c'] w fun e w'=>∃ A2 n2 c2 l2,e=.returned (.slice A2 n2 c2)∧Ext w w'∧q1Y w' w.heap.size A2 n2 c2 l2∧val l2=val l+val l'∧n2≤max n n'+1:=by
 refine q0H Tryz.func214 rfl Tryz.ntmps214 (by kernel_rfl) ?_;refine Wz ?_;refine Wz ?_;refine Wz ?_;have hl:=h.len;have hl':=h'.len;refine q0B fun K0 hK0=>?_;refine Wz ?_;refine q0Y ?_;refine q09 (fun e2 w2=>∃ (k cr:Nat) (A2:Option Addr) (c2:Nat) (o:List Nat),e2 7=.int .i64 k∧e2 6=.int .u64 cr∧e2 5=.slice A2 k c2∧k≤max n n'∧cr≤1∧Ext w w2∧q1Y w2 w.heap.size A2 k c2 o∧val o+B ^ k*cr=val (l.take k)+val (l'.take k)) (fun e2 _=>max n n'-(RowKit.intOf (e2 7)).toNat) ⟨0,0,none,0,[],rfl,rfl,rfl,Nat.zero_le _,Nat.zero_le _,Kp.refl _ _,⟨Own.nil _ _ _ _,q1w.nil⟩,by simp [val]⟩ ?_;rintro e1 w1 ⟨k,cr,A2,c2,o,h7,h6,h5,hkm,hcr,hx,hO,hv⟩ hk;have h0:e1 0=.slice A n c:=(hk 0 (by kernel_rfl)).trans rfl;have h1:e1 1=.slice A' n' c':=(hk 1 (by kernel_rfl)).trans rfl;clear hk;refine q0B fun K1 hK1=>?_;have hd1:=h.dg_lt k;have hd2:=h'.dg_lt k
 by_cases hlt:k < max n n'
 ·have hlt':(k:Int) < max (n:Int) n':=by omega
  refine Wz4 h7 h0 h1 hlt' ?_;refine Wt (q0G (hK1 _ _ ?_));clear hK1;refine q0O fun K hK=>?_;refine q0B fun K1 hK1=>?_;have st1:∀ e2:Env,e2 7=.int .i64 k→e2 6=.int .u64 ((cr+dg l k:Nat):Int)→e2 5=.slice A2 k c2→e2 0=.slice A n c→e2 1=.slice A' n' c'→K1 e2 w1:=by
   intro e2 g7 g6 g5 g0 g1;refine hK1 _ _ ?_; clear hK1;refine q0B fun K1 hK1=>?_;have st2:∀ e2:Env,e2 7=.int .i64 k→e2 6=.int .u64 ((cr+dg l k+dg l' k:Nat):Int)→e2 5=.slice A2 k c2→K1 e2 w1:=by
    intro e2 g7 g6 g5;refine hK1 _ _ ?_; clear hK1;refine q0A fun K9 hK9=>?_;refine Zz2 g6 g5 ?_;refine q6r hO (Nat.mod_lt _ Oq) Oq hx.size ?_;intro v1 A3 c3 w3 hO3 hk3 hat;refine hK9 _ _ ?_; clear hK9;refine q0P fun K9 hK9=>?_;refine Zz1 g6 ?_;refine hK9 _ _ ?_; clear hK9 K9;refine hK _ _ ?_; clear hK;refine q0P fun K9 hK9=>?_;refine Zz2 g7 @i64_in ?_;refine hK9 _ _ ?_; clear hK9 K9;refine ⟨⟨k+1,_,A3,c3,_,rfl,rfl,rfl,by omega,?_,hO.1.under hx hk3,hO3,?_⟩,?_⟩
    ·omega
    ·rw [vts,vts];have:=q7V (x:=dg l k) (y:=dg l' k) (by have:=hO.1.len; simpa using this) hv;unfold B at this ⊢;unfold dg at this ⊢;omega
    ·simp only [q0F,↓reduceIte,RowKit.intOf,h7]; omega
   by_cases hb2:k < n'
   ·have hb2':(k:Int) < n':=by omega
    obtain ⟨ad,rfl,hcc⟩:=(h'.ext hx).cell hb2;refine Wz3 g7 g1 hb2' ?_;refine Wt ?_;have e2:(0:Int)≤k∧(k:Int) < n':=by omega
    refine q0P fun K9 hK9=>?_;refine Zz5 g6 g7 g1 e2 hcc ?_;refine hK9 _ _ ?_; clear hK9 K9;exact st2 _ (by simp only [q0F,Nat.reduceEqDiff,↓reduceIte,g7]) (by simp only [q0F,Nat.reduceEqDiff,↓reduceIte]) (by simp only [q0F,Nat.reduceEqDiff,↓reduceIte,g5])
   ·have hb2':¬ (k:Int) < n':=by omega
    refine Wz3 g7 g1 hb2' ?_;refine Wf (q0G ?_);have hz:dg l' k=0:=q6A Oq;exact st2 _ (by simp only [q0F,Nat.reduceEqDiff,↓reduceIte,g7]) (by simp only [q0F,Nat.reduceEqDiff,↓reduceIte,g6,hz,Nat.add_zero]) (by simp only [q0F,Nat.reduceEqDiff,↓reduceIte,g5])
  by_cases hb2:k < n
  ·have hb2':(k:Int) < n:=by omega
   obtain ⟨ad,rfl,hcc⟩:=(h.ext hx).cell hb2;refine Wz3 h7 h0 hb2' ?_;refine Wt ?_;have e2:(0:Int)≤k∧(k:Int) < n:=by omega
   refine q0P fun K9 hK9=>?_;refine Zz5 h6 h7 h0 e2 hcc ?_;refine hK9 _ _ ?_; clear hK9 K9;exact st1 _ (by simp only [q0F,Nat.reduceEqDiff,↓reduceIte,h7]) (by simp only [q0F,Nat.reduceEqDiff,↓reduceIte]) (by simp only [q0F,Nat.reduceEqDiff,↓reduceIte,h5]) (by simp only [q0F,Nat.reduceEqDiff,↓reduceIte,h0]) (by simp only [q0F,Nat.reduceEqDiff,↓reduceIte,h1])
  ·have hb2':¬ (k:Int) < n:=by omega
   refine Wz3 h7 h0 hb2' ?_;refine Wf (q0G ?_);have hz:dg l k=0:=q6A Oq;exact st1 _ (by simp only [q0F,Nat.reduceEqDiff,↓reduceIte,h7]) (by simp only [q0F,Nat.reduceEqDiff,↓reduceIte,h6,hz,Nat.add_zero]) (by simp only [q0F,Nat.reduceEqDiff,↓reduceIte,h5]) (by simp only [q0F,Nat.reduceEqDiff,↓reduceIte,h0]) (by simp only [q0F,Nat.reduceEqDiff,↓reduceIte,h1])
 ·have hlt':¬ (k:Int) < max (n:Int) n':=by omega
  refine Wz4 h7 h0 h1 hlt' ?_;refine Wf (q03 ?_);obtain rfl:k=max n n':=by omega
  refine hK0 _ _ ?_; clear hK0 hK1;refine q0A fun K9 hK9=>?_;refine Zz2 h5 h6 ?_;refine q6r hO (Nat.mod_lt _ Oq) Oq hx.size ?_;intro v1 A3 c3 w3 hO3 hk3 hat;refine hK9 _ _ ?_; clear hK9;refine q0L (q0k rfl ⟨A3,_,c3,_,rfl,hO.1.under hx hk3,hO3,?_,Nat.le_refl _⟩);rw [q2f,show o.length=max n n' by have:=hO.1.len; simpa using this,Nat.mod_eq_of_lt Oq,hv,q0M l _ Oq,q0M l' _ (by omega)]
theorem q7l {D:Nat→Prop} {A A':Option Addr} {n n' c c':Nat} {l l':List Nat} {w:World} (h:U32 w D A n c l) (h':U32 w D A' n' c' l') (hb:n≤1000000000) (hn:n'≤n) (hle:val l'≤val l) :
  Calls Tryz.prog 216 #[.slice A n c,.slice A' n' c'] w fun e w'=>∃ A2 c2 l2,e=.returned (.slice A2 n c2)∧Ext w w'∧q1Y w' w.heap.size A2 n c2 l2∧val l2=val l-val l':=by
 refine q0H Tryz.func216 rfl Tryz.ntmps216 (by kernel_rfl) ?_;refine Wz ?_;refine Wz ?_;refine Wz ?_;have hl:=h.len;have hl':=h'.len;refine q0B fun K0 hK0=>?_;refine Wz ?_;refine q0Y ?_;refine q09 (fun e2 w2=>∃ (k br:Nat) (A2:Option Addr) (c2:Nat) (o:List Nat),e2 7=.int .i64 k∧e2 6=.int .u64 br∧e2 5=.slice A2 k c2∧k≤n∧br≤1∧Ext w w2∧q1Y w2 w.heap.size A2 k c2 o∧val o+val (l'.take k)=val (l.take k)+B ^ k*br) (fun e2 _=>n-(RowKit.intOf (e2 7)).toNat) ⟨0,0,none,0,[],rfl,rfl,rfl,Nat.zero_le _,Nat.zero_le _,Kp.refl _ _,⟨Own.nil _ _ _ _,q1w.nil⟩,by simp [val]⟩ ?_;rintro e1 w1 ⟨k,br,A2,c2,o,h7,h6,h5,hkm,hbr,hx,hO,hv⟩ hk;have h0:e1 0=.slice A n c:=(hk 0 (by kernel_rfl)).trans rfl;have h1:e1 1=.slice A' n' c':=(hk 1 (by kernel_rfl)).trans rfl;clear hk;refine q0B fun K1 hK1=>?_;have hd1:=h.dg_lt k;have hd2:=h'.dg_lt k
 by_cases hlt:k < n
 ·have hlt':(k:Int) < n:=by omega
  refine Wz3 h7 h0 hlt' ?_;refine Wt (q0G (hK1 _ _ ?_));clear hK1;refine q0O fun K hK=>?_;have e2:(0:Int)≤k∧(k:Int) < n:=by omega
  obtain ⟨ad,rfl,hcc⟩:=(h.ext hx).cell hlt;refine q0A fun K hK=>?_;simp -implicitDefEqProofs (disch:=omega) only [go_sem,Nat.reduceEqDiff,Nat.reduceAdd,↓reduceIte,h6,h7,h0,e2,hcc,q50];refine hK _ _ ?_; clear hK K;refine q0B fun K1 hK1=>?_;have st2:∀ (e2:Env) (t:Nat),e2 7=.int .i64 k→e2 8=.int .u64 (t:Nat)→e2 5=.slice A2 k c2→t=((dg l k+(18446744073709551616-br)) % 18446744073709551616+(18446744073709551616-dg l' k)) % 18446744073709551616→K1 e2 w1:=by
   intro e2 t g7 g8 g5 ht;refine hK1 _ _ ?_; clear hK1;refine q0A fun K9 hK9=>?_;refine Zz2 g8 g5 ?_;refine q6r hO (Nat.mod_lt _ Oq) Oq hx.size ?_;intro v1 A3 c3 w3 hO3 hk3 hat;refine hK9 _ _ ?_; clear hK9;refine q0P fun K9 hK9=>?_;refine Zz1 g8 ?_;refine hK9 _ _ ?_; clear hK9 K9;refine hK _ _ ?_; clear hK;refine q0P fun K9 hK9=>?_;refine Zz2 g7 @i64_in ?_;refine hK9 _ _ ?_; clear hK9 K9;have key:=q9p (by have:=hO.1.len; simpa using this) hv hbr hd1 hd2 ht;refine ⟨⟨k+1,_,A3,c3,_,rfl,rfl,rfl,by omega,key.2,hO.1.under hx hk3,hO3,?_⟩,?_⟩
   ·rw [vts,vts]; exact key.1
   ·simp only [q0F,↓reduceIte,RowKit.intOf,h7]; omega
  by_cases hb2:k < n'
  ·have hb2':(k:Int) < n':=by omega
   obtain ⟨ad',rfl,hcc'⟩:=(h'.ext hx).cell hb2;refine Wz3 h7 h1 hb2' ?_;refine Wt ?_;have e2':(0:Int)≤k∧(k:Int) < n':=by omega
   refine q0P fun K9 hK9=>?_;simp -implicitDefEqProofs (disch:=omega) only [go_sem,Nat.reduceEqDiff,Nat.reduceAdd,↓reduceIte,h7,h1,e2',hcc',q50];refine hK9 _ _ ?_; clear hK9 K9;exact st2 _ _ Ue Ue Ue rfl
  ·have hb2':¬ (k:Int) < n':=by omega
   refine Wz3 h7 h1 hb2' ?_;refine Wf (q0G ?_);have hz:dg l' k=0:=q6A Oq;exact st2 _ _ Ue Ue Ue (by rw [hz]; omega)
 ·have hlt':¬ (k:Int) < n:=by omega
  refine Wz3 h7 h0 hlt' ?_;refine Wf (q03 ?_);obtain rfl:k=n:=by omega
  refine hK0 _ _ ?_; clear hK0 hK1;refine Wz1 h5 ?_;rw [q0M l _ Oq,q0M l' _ (by omega)] at hv;have hol:o.length=k:=by have:=hO.1.len; simpa using this
  have hlt2:=q1S hO.2;rw [hol] at hlt2;have:br=0:=by
   rcases Nat.eq_zero_or_pos br with h0 | h0
   ·exact h0
   ·have:br=1:=by omega
    rw [this] at hv; omega
  rw [this] at hv;refine q0L ?_
  try simp only [q0D,q0N]
  refine q0k rfl ⟨A2,c2,o,rfl,hx,hO,by omega⟩
theorem q8Q {D:Nat→Prop} {A A':Option Addr} {n n' c c':Nat} {x y:Nat} {w:World} (h:U32 w D A n c (lim x)) (h':U32 w D A' n' c' (lim y)) (hb:n≤1000000000) (hb':n'≤1000000000) :
  Calls Tryz.prog 215 #[.slice A n c,.slice A' n' c'] w fun e w'=>e=.returned (.int .i64 (q2D x y))∧Ext w w':=by
 refine q0H Tryz.func215 rfl Tryz.ntmps215 (by kernel_rfl) ?_;refine Wz ?_;have hl:=h.len;have hl':=h'.len;refine q0B fun K0 hK0=>?_;refine Wz ?_
 by_cases hne:n=n'
 ·subst hne;have e1:((n:Int) != n)=false:=by simp
  refine q00 rfl (fun hc=>by rw [e1] at hc; cases hc) (fun hc=>q0G (hK0 _ _ ?_));clear hK0;refine q0B fun K0 hK0=>?_;refine Wz1 @i64_in ?_;refine q0Y ?_;refine q09 (fun e2 w2=>∃ k:Nat,e2 5=.int .i64 ((k:Int)-1)∧k≤n∧Ext w w2∧(lim x).drop k=(lim y).drop k) (fun e2 _=>(RowKit.intOf (e2 5)+1).toNat) ⟨n,rfl,Nat.le_refl _,Kp.refl _ _,by rw [List.drop_of_length_le Oq,List.drop_of_length_le (by omega)]⟩ ?_;rintro e1 w1 ⟨k,h5,hk,hx,hdr⟩ hkk;have h0:e1 0=.slice A n c:=(hkk 0 (by kernel_rfl)).trans rfl;have h1:e1 1=.slice A' n c':=(hkk 1 (by kernel_rfl)).trans rfl;clear hkk;refine q0B fun K1 hK1=>?_
  by_cases hpos:0 < k
  ·have hp':((k:Int)-1 ≥ 0):=by omega
   refine Wz2 h5 hp' ?_;refine Wt (q0G (hK1 _ _ ?_));clear hK1;refine q0O fun K hK=>?_;obtain ⟨ad,rfl,hc⟩:=(h.ext hx).cell (j:=k-1) Oq;obtain ⟨ad',rfl,hc'⟩:=(h'.ext hx).cell (j:=k-1) Oq;have e1':((k:Int)-1).toNat=k-1:=by omega
   have e2':(0:Int)≤k-1∧(k:Int)-1 < n:=by omega
   refine q0B fun K1 hK1=>?_;refine qcJ q0j [true,true,true,true,true,true,true,true,true] (by kernel_rfl) fun KE hKE=>?_;simp -implicitDefEqProofs (maxSteps:=600000) (disch:=omega) only [go_sem,Nat.reduceEqDiff,Nat.reduceAdd,↓reduceIte,h0,h1,h5,e1',e2',hc,hc'];refine hKE _ fun w2 hx2=>?_; clear hKE KE;refine hK1 _ _ ?_; clear hK1
   by_cases hd:dg (lim x) (k-1)=dg (lim y) (k-1)
   ·have hd':(((dg (lim x) (k-1):Nat):Int) != ((dg (lim y) (k-1):Nat):Int))=false:=by simp [hd]
    refine q00 rfl (fun hc=>by rw [hd'] at hc; cases hc) (fun hc=>q0G (hK _ _ ?_));clear hK;refine q0P fun K9 hK9=>?_;refine Zz2 h5 @i64_in ?_;refine hK9 _ _ ?_; clear hK9 K9;refine ⟨⟨k-1,by simp only [q0F,↓reduceIte]; congr 1; omega,by omega,hx.trans hx2,?_⟩,?_⟩
    ·rw [List.drop_eq_getElem_cons (l:=lim x) (i:=k-1) Oq,List.drop_eq_getElem_cons (l:=lim y) (i:=k-1) Oq,show k-1+1=k by omega,hdr];have:=hd;unfold dg at this;rw [q1C Oq,q1C (by omega)] at this;rw [this]
    ·simp only [q0F,↓reduceIte,RowKit.intOf,h5]; omega
   ·have hd':(((dg (lim x) (k-1):Nat):Int) != ((dg (lim y) (k-1):Nat):Int))=true:=by rw [bne_iff_ne]; exact fun e=>hd (Int.ofNat.inj e)
    refine q00 rfl (fun hc=>?_) (fun hc=>by rw [hd'] at hc; cases hc);clear hK;replace hc:=(h.ext hx).ext hx2;replace hc':=(h'.ext hx).ext hx2;obtain ⟨_,hq,hc⟩:=hc.cell (j:=k-1) Oq;obtain ⟨_,hq',hc'⟩:=hc'.cell (j:=k-1) Oq;cases hq; cases hq';refine q0B fun K1 hK1=>?_;refine q0B fun K2 hK2=>?_;refine qcJ q0j [true,true,true,true,true,true,true,true,true] (by kernel_rfl) fun KE hKE=>?_;simp -implicitDefEqProofs (maxSteps:=600000) (disch:=omega) only [go_sem,Nat.reduceEqDiff,Nat.reduceAdd,↓reduceIte,h0,h1,h5,e1',e2',hc,hc'];refine hKE _ fun w3 hx3=>?_; clear hKE KE;refine hK2 _ _ ?_; clear hK2;have tops:∀ {a b:Nat},(lim a).length=n→(lim b).length=n→(lim a).drop k=(lim b).drop k→dg (lim a) (k-1) < dg (lim b) (k-1)→a < b:=by
     intro a b ha hb' hab hlt;have:=q3k (i:=k-1) (q18 a) (ha.trans hb'.symm) Oq (by rw [show k-1+1=k by omega]; exact hab) hlt;simpa [q0J] using this
    by_cases hlt:dg (lim x) (k-1) < dg (lim y) (k-1)
    ·have hlt':decide (((dg (lim x) (k-1):Nat):Int) < ((dg (lim y) (k-1):Nat):Int))=true:=by simp [hlt]
     refine q00 rfl (fun hc=>?_) (fun hc=>by rw [hlt'] at hc; cases hc);refine Wz ?_;have:=tops hl hl' hdr hlt;refine q0L ?_
     try simp only [q0D,q0N]
     refine q0k rfl ⟨by simp [q2D,this,upd],(hx.trans hx2).trans hx3⟩
    ·have hlt':decide (((dg (lim x) (k-1):Nat):Int) < ((dg (lim y) (k-1):Nat):Int))=false:=by simpa using hlt
     refine q00 rfl (fun hc=>by rw [hlt'] at hc; cases hc) (fun hc=>q0G (hK1 _ _ ?_));refine Wz ?_;have:=tops hl' hl hdr.symm Oq;refine q0L ?_
     try simp only [q0D,q0N]
     refine q0k rfl ⟨by simp [q2D,upd,show ¬ x < y by omega,show ¬ x=y by omega],(hx.trans hx2).trans hx3⟩
  ·obtain rfl:k=0:=by omega
   have hp':¬ (((0:Nat):Int)-1 ≥ 0):=by omega
   refine Wz2 h5 hp' ?_;refine Wf (q03 (hK0 _ _ ?_));refine Wz ?_;have:x=y:=by
    have:=congrArg val hdr;simpa [q0J] using this
   refine q0L ?_
   try simp only [q0D,q0N]
   refine q0k rfl ⟨by simp [q2D,upd,this],hx⟩
 ·have e1:((n:Int) != n')=true:=by rw [bne_iff_ne]; omega
  refine q00 rfl (fun hc=>?_) (fun hc=>by rw [e1] at hc; cases hc);refine q0B fun K1 hK1=>?_
  by_cases hlt:n < n'
  ·have hlt':(n:Int) < n':=by omega
   refine Wz1 hlt' ?_;refine Wt ?_;refine Wz ?_;have:=q2S (m:=x) (n:=y) Oq;refine q0L ?_
   try simp only [q0D,q0N]
   refine q0k rfl ⟨by simp [q2D,upd,this],Kp.refl _ _⟩
  ·have hlt':¬ (n:Int) < n':=by omega
   refine Wz1 hlt' ?_;refine Wf (q0G (hK1 _ _ ?_));refine Wz ?_;have:=q2S (m:=y) (n:=x) Oq;refine q0L ?_
   try simp only [q0D,q0N]
   refine q0k rfl ⟨by simp [q2D,upd,show ¬ x < y by omega,show ¬ x=y by omega],Kp.refl _ _⟩
theorem qco {D:Nat→Prop} {A:Option Addr} {n c m:Nat} {l:List Nat} {w:World} (h:U32 w D A n c l) (hb:n≤1000000000) (hm:m≤1000000000) :
  Calls Tryz.prog 217 #[.slice A n c,.int .i64 m] w fun e w'=>∃ A2 n2 c2 l2,e=.returned (.slice A2 n2 c2)∧Ext w w'∧q1Y w' w.heap.size A2 n2 c2 l2∧val l2=2 ^ m*val l∧n2=m / 32+n+1:=by
 refine q0H Tryz.func217 rfl Tryz.ntmps217 (by kernel_rfl) ?_;refine Wz ?_;refine q0A fun K hK=>?_;refine Zz ?_;refine mkU (Nat.le_refl _) Oq fun w0 hx0 hO0=>?_;refine hK _ _ ?_; clear hK;refine Wz ?_;have hl:=h.len;have hk:m % 32 < 32:=Nat.mod_lt _ Oq;have hp:2 ^ (m % 32)≤2147483648:=Nat.pow_le_pow_right (n:=2) Oq (show m % 32≤31 by omega);refine q0B fun K0 hK0=>?_;refine Wz ?_;refine q0Y ?_;refine q09 (fun e2 w2=>∃ (k cr:Nat) (A2:Option Addr) (c2:Nat) (o:List Nat),e2 7=.int .i64 k∧e2 6=.int .u64 cr∧e2 5=.slice A2 (m / 32+k) c2∧k≤n∧cr < 2 ^ (m % 32)∧Ext w w2∧q1Y w2 w.heap.size A2 (m / 32+k) c2 (List.replicate (m / 32) 0 ++ o)∧val o+B ^ k*cr=2 ^ (m % 32)*val (l.take k)) (fun e2 _=>n-(RowKit.intOf (e2 7)).toNat) ⟨0,0,_,_,[],rfl,rfl,rfl,Nat.zero_le _,Nat.pow_pos Oq,hx0,by simpa using hO0,by simp [val]⟩ ?_;rintro e1 w1 ⟨k,cr,A2,c2,o,h7,h6,h5,hkm,hcr,hx,hO,hv⟩ hkk;have h0:e1 0=.slice A n c:=(hkk 0 (by kernel_rfl)).trans rfl;have h1:e1 1=.int .i64 m:=(hkk 1 (by kernel_rfl)).trans rfl;clear hkk;have hol:o.length=k:=by have:=hO.1.len; simp at this; omega
 refine q0B fun K1 hK1=>?_;have hd1:=h.dg_lt k
 by_cases hlt:k < n
 ·have hlt':(k:Int) < n:=by omega
  refine Wz3 h7 h0 hlt' ?_;refine Wt (q0G (hK1 _ _ ?_));clear hK1;refine q0O fun K hK=>?_;have e2:(0:Int)≤k∧(k:Int) < n:=by omega
  obtain ⟨ad,rfl,hcc⟩:=(h.ext hx).cell hlt;have hpr:dg l k*2 ^ (m % 32)≤4294967295*2147483648:=Nat.mul_le_mul Oq hp;have e3:dg l k*2 ^ (m % 32) % 18446744073709551616=dg l k*2 ^ (m % 32):=Nat.mod_eq_of_lt Oq;have e4:cr ||| dg l k*2 ^ (m % 32)=cr+dg l k*2 ^ (m % 32):=q2G hcr;refine q0A fun K hK=>?_;refine Zz8 h6 h7 h0 h1 e2 hcc e3 e4 ?_;refine hK _ _ ?_; clear hK K;refine q0A fun K9 hK9=>?_;refine Zz1 h5 ?_;refine q6r hO (Nat.mod_lt _ Oq) Oq hx.size ?_;intro v1 A3 c3 w3 hO3 hk3 hat;refine hK9 _ _ ?_; clear hK9;refine q0P fun K9 hK9=>?_;refine Zz ?_;refine hK9 _ _ ?_; clear hK9 K9;refine hK _ _ ?_; clear hK;refine q0P fun K9 hK9=>?_;refine Zz2 h7 @i64_in ?_;refine hK9 _ _ ?_; clear hK9 K9;have key:=qgc (x:=dg l k) hol hv;rw [List.append_assoc] at hO3;refine ⟨⟨k+1,_,A3,c3,_,rfl,rfl,rfl,by omega,?_,hO.1.under hx hk3,hO3,?_⟩,?_⟩
  ·rw [Nat.div_lt_iff_lt_mul (by omega)];have:(dg l k+1)*2 ^ (m % 32)≤4294967296*2 ^ (m % 32):=Nat.mul_le_mul_right _ Oq;rw [Nat.add_mul,Nat.one_mul] at this;rw [Nat.mul_comm _ 4294967296];omega
  ·rw [vts]; exact key
  ·simp only [q0F,↓reduceIte,RowKit.intOf,h7]; omega
 ·have hlt':¬ (k:Int) < n:=by omega
  refine Wz3 h7 h0 hlt' ?_;refine Wf (q03 ?_);obtain rfl:k=n:=by omega
  refine hK0 _ _ ?_; clear hK0 hK1;refine q0A fun K9 hK9=>?_;refine Zz2 h5 h6 ?_;refine q6r hO (Nat.mod_lt _ Oq) Oq hx.size ?_;intro v1 A3 c3 w3 hO3 hk3 hat;refine hK9 _ _ ?_; clear hK9;refine q0L (q0k rfl ⟨A3,_,c3,_,rfl,hO.1.under hx hk3,hO3,?_,rfl⟩);rw [q0M l _ (by omega)] at hv;rw [List.append_assoc,q3R,q2f,q1n,hol,Nat.mod_eq_of_lt Oq,hv,List.length_replicate,Nat.zero_add,q85,← Nat.pow_mul,← Nat.mul_assoc,← Nat.pow_add,Nat.div_add_mod]
theorem qcn {D:Nat→Prop} {A:Option Addr} {n c m:Nat} {l:List Nat} {w:World} (h:U32 w D A n c l) (hb:n≤1000000000) (hm:m≤1000000000000) :
  Calls Tryz.prog 218 #[.slice A n c,.int .i64 m] w fun e w'=>∃ A2 n2 c2 l2,e=.returned (.tuple #[.slice A2 n2 c2,.bool (decide (val l % 2 ^ m≠0))])∧Ext w w'∧q1Y w' w.heap.size A2 n2 c2 l2∧val l2=val l / 2 ^ m∧n2≤n:=by
 refine q0H Tryz.func218 rfl Tryz.ntmps218 (by kernel_rfl) ?_;refine Wz ?_;refine Wz ?_;have hl:=h.len;have hk:m % 32 < 32:=Nat.mod_lt _ Oq;have hmm:32*(m / 32)+m % 32=m:=Nat.div_add_mod m 32;have hp:2 ^ (m % 32)≤2147483648:=Nat.pow_le_pow_right (n:=2) Oq (show m % 32≤31 by omega);have hp0:0 < 2 ^ (m % 32):=Nat.pow_pos Oq;refine q0B fun K0 hK0=>?_;refine Wz ?_;have mid:∀ e1:Env,e1 0=.slice A n c→e1 1=.int .i64 m→e1 6=.bool (decide (val (l.take (m / 32))≠0))→K0 e1 w:=by
  intro e1 h0 h1 h6;refine hK0 _ _ ?_; clear hK0;refine Wz ?_;refine Wz1 h1 ?_;refine q0B fun K0 hK0=>?_;refine Wz1 h1 ?_;refine q0Y ?_;refine q09 (fun e2 w2=>∃ (j:Nat) (A2:Option Addr) (c2:Nat) (o:List Nat),e2 10=.int .i64 ((m / 32+j:Nat):Int)∧e2 8=.slice A2 j c2∧e2 6=.bool (if j=0 then decide (val (l.take (m / 32))≠0) else decide (val l % 2 ^ m≠0))∧(j=0∨m / 32+j≤n)∧Ext w w2∧q1Y w2 w.heap.size A2 j c2 o∧val o+B ^ j*(val (l.drop (m / 32+j)) / 2 ^ (m % 32))=val (l.drop (m / 32)) / 2 ^ (m % 32)) (fun e2 _=>n-(RowKit.intOf (e2 10)).toNat) ⟨0,none,0,[],rfl,rfl,Ue,.inl rfl,Kp.refl _ _,⟨Own.nil _ _ _ _,q1w.nil⟩,by simp [val]⟩ ?_;rintro e2 w1 ⟨j,A2,c2,o,g10,g8,g6,hj,hx,hO,hv⟩ hkk;have g0:e2 0=.slice A n c:=(hkk 0 (by kernel_rfl)).trans Ue;have g1:e2 1=.int .i64 m:=(hkk 1 (by kernel_rfl)).trans Ue;have g9:e2 9=.int .i64 ((m % 32:Nat):Int):=(hkk 9 (by kernel_rfl)).trans Ue;clear hkk;have hol:o.length=j:=by have:=hO.1.len; simpa using this
  refine q0B fun K1 hK1=>?_
  by_cases hlt:m / 32+j < n
  ·have hlt':((m / 32+j:Nat):Int) < n:=by omega
   refine Wz3 g10 g0 hlt' ?_;refine Wt (q0G (hK1 _ _ ?_));clear hK1;refine q0O fun K hK=>?_;have e2':(0:Int)≤(m / 32+j:Nat)∧((m / 32+j:Nat):Int) < n:=by omega
   obtain ⟨ad,rfl,hcc⟩:=(h.ext hx).cell hlt;have hd1:=h.dg_lt (m / 32+j);have hd2:=h.dg_lt (m / 32+j+1);refine Wz4 g10 g0 e2' hcc ?_;refine q0B fun K1 hK1=>?_;have st1:∀ e3:Env,e3 10=.int .i64 ((m / 32+j:Nat):Int)→e3 8=.slice A2 j c2→e3 6=.bool (if j=0 then decide (val (l.take (m / 32))≠0) else decide (val l % 2 ^ m≠0))→e3 0=.slice (some ad) n c→e3 1=.int .i64 m→e3 9=.int .i64 ((m % 32:Nat):Int) →
     e3 11=.int .u64 ((dg l (m / 32+j)+dg l (m / 32+j+1)*4294967296:Nat):Int)→K1 e3 w1:=by
    intro e3 k10 k8 k6 k0 k1 k9 k11;refine hK1 _ _ ?_; clear hK1;refine q0B fun K1 hK1=>?_;have st2:∀ (e4:Env) (w2:World),Ext w1 w2→e4 10=.int .i64 ((m / 32+j:Nat):Int)→e4 8=.slice A2 j c2→e4 6=.bool (decide (val l % 2 ^ m≠0))→e4 9=.int .i64 ((m % 32:Nat):Int) →
      e4 11=.int .u64 ((dg l (m / 32+j)+dg l (m / 32+j+1)*4294967296:Nat):Int)→K1 e4 w2:=by
     intro e4 w2 hx2 q10 q8 q6 q9 q11;refine hK1 _ _ ?_; clear hK1;refine q0P fun K9 hK9=>?_;refine Zz3 q11 q9 q8 ?_;refine q6r (hO.1.ext hx2 |> fun a=>⟨a,hO.2⟩) (Nat.mod_lt _ Oq) Oq (hx.trans hx2).size ?_;intro v1 A3 c3 w3 hO3 hk3 hat;refine hK9 _ _ ?_; clear hK9 K9;refine hK _ _ ?_; clear hK;refine q0P fun K9 hK9=>?_;refine Zz2 q10 @i64_in ?_;refine hK9 _ _ ?_; clear hK9 K9;have key:=q9u (Nat.le_of_lt hk) h.2 hol hv;refine ⟨⟨j+1,A3,c3,_,?_,rfl,?_,.inr Oq,(hO.1.ext hx2).under (hx.trans hx2) hk3,hO3,key⟩,?_⟩
     ·simp only [q0F,↓reduceIte]; congr 1
     ·simp only [q0F,Nat.reduceEqDiff,↓reduceIte,q6,Nat.add_eq_zero_iff,Nat.one_ne_zero,and_false]
     ·simp only [q0F,↓reduceIte,RowKit.intOf,g10]; omega
    refine q0B fun K2 hK2=>?_
    by_cases hj0:j=0
    ·subst hj0;have hq:(((m / 32+0:Nat):Int) == ((m / 32:Nat):Int))=true:=by simp
     have hs1:IntKind.u32.wrap (((2 ^ (m % 32):Nat):Int)-1)=((2 ^ (m % 32)-1:Nat):Int):=qcf hp0 Oq;have ha1:q1I .and .u32 ((dg l (m / 32+0):Nat):Int) ((2 ^ (m % 32)-1:Nat):Int)=((dg l (m / 32+0) % 2 ^ (m % 32):Nat):Int):=by
      rw [qbD hd1 Oq,Nat.and_two_pow_sub_one_eq_mod]
     refine qcJ q0j [true,true,true,true,true,true,true,true,true,true,true,true,true,true,true] (by kernel_rfl) fun KE hKE=>?_;simp -implicitDefEqProofs (maxSteps:=600000) (disch:=omega) only [go_sem,Nat.reduceEqDiff,Nat.reduceAdd,↓reduceIte,k10,k1,k0,k9,e2',hcc,hq,hs1,ha1];refine hKE _ fun w2 hx2=>?_; clear hKE KE;refine hK2 _ _ ?_; clear hK2;have hlo:=qaT h.2 (m / 32) (m % 32) Oq;rw [hmm] at hlo
     by_cases hz:dg l (m / 32) % 2 ^ (m % 32)=0
     ·have hz':(((dg l (m / 32+0) % 2 ^ (m % 32):Nat):Int) != 0)=false:=by rw [qkb]; simpa using hz
      refine q00 rfl (fun hc=>by rw [hz'] at hc; cases hc) (fun hc=>q0G ?_);refine st2 _ _ hx2 Ue Ue ?_ Ue Ue;simp only [q0F,Nat.reduceEqDiff,↓reduceIte,k6]
      congr 1
      rw [decide_eq_decide];have:l.getD (m / 32) 0 % 2 ^ (m % 32)=0:=hz;simp only [this,and_true] at hlo;omega
     ·have hz':(((dg l (m / 32+0) % 2 ^ (m % 32):Nat):Int) != 0)=true:=by rw [qkb]; simpa using hz
      refine q00 rfl (fun hc=>?_) (fun hc=>by rw [hz'] at hc; cases hc);refine q0P fun K9 hK9=>?_;refine Zz ?_;refine hK9 _ _ ?_; clear hK9 K9;refine st2 _ _ hx2 Ue Ue ?_ Ue Ue;simp only [q0F,Nat.reduceEqDiff,↓reduceIte]
      congr 1
      symm
      rw [decide_eq_true_eq];intro h0;exact hz (hlo.1 h0).2
    ·have hq:(((m / 32+j:Nat):Int) == ((m / 32:Nat):Int))=false:=by rw [beqN]; exact decide_eq_false Oq
     refine qcJ q0j [true,true,true,true,true,true,true,true,true,true,true,true,true,true,true] (by kernel_rfl) fun KE hKE=>?_;simp -implicitDefEqProofs (maxSteps:=600000) (disch:=omega) only [go_sem,Nat.reduceEqDiff,Nat.reduceAdd,↓reduceIte,k10,k1,k0,k9,e2',hcc,hq];refine hKE _ fun w2 hx2=>?_; clear hKE KE;refine hK2 _ _ ?_; clear hK2;refine Wf (q0G ?_);refine st2 _ _ hx2 Ue Ue ?_ Ue Ue;simp only [q0F,Nat.reduceEqDiff,↓reduceIte,k6,hj0]
   by_cases hn:m / 32+j+1 < n
   ·have hn':((m / 32+j:Nat):Int)+1 < n:=by omega
    obtain ⟨_,hq,hcc'⟩:=(h.ext hx).cell hn;cases hq;refine Wz4 g10 g0 @i64_in hn' ?_;refine Wt ?_;have e3':(0:Int)≤(m / 32+j:Nat)+1∧((m / 32+j:Nat):Int)+1 < n:=by omega
    obtain ⟨q,hqq⟩:∃ q,q=m / 32+j+1:=⟨_,rfl⟩;have e5':(((m / 32+j:Nat):Int)+1).toNat=q:=by omega
    rw [← hqq] at hcc';rw [← hqq] at hd2 st1;have e6:dg l q*4294967296 % 18446744073709551616=dg l q*4294967296:=Nat.mod_eq_of_lt Oq;have e7:dg l (m / 32+j) ||| dg l q*4294967296=dg l (m / 32+j)+dg l q*4294967296:=q2G (k:=32) hd1;refine q0P fun K9 hK9=>?_;refine Zz8 g10 g0 @i64_in e3' e5' hcc' e6 e7 ?_;refine hK9 _ _ ?_; clear hK9 K9;exact st1 _ Ue Ue Ue Ue Ue Ue Ue
   ·have hn':¬ ((m / 32+j:Nat):Int)+1 < n:=by omega
    refine Wz4 g10 g0 @i64_in hn' ?_;refine Wf (q0G ?_);have hz:dg l (m / 32+j+1)=0:=q6A Oq;refine st1 _ Ue Ue Ue Ue Ue Ue ?_;rw [hz]; exact Ue
  ·have hlt':¬ ((m / 32+j:Nat):Int) < n:=by omega
   refine Wz3 g10 g0 hlt' ?_;refine Wf (q03 ?_);refine hK0 _ _ ?_; clear hK0 hK1;refine Wz2 g8 g6 ?_;have hd0:val (l.drop (m / 32+j))=0:=by rw [List.drop_of_length_le (by omega)]; rfl
   rw [hd0,Nat.zero_div,Nat.mul_zero,Nat.add_zero,q2g h.2,Nat.div_div_eq_div_mul,q85,← Nat.pow_mul,← Nat.pow_add,hmm] at hv;have hb2:(if j=0 then decide (val (l.take (m / 32))≠0) else decide (val l % 2 ^ m≠0))=decide (val l % 2 ^ m≠0):=by
    split
    ·rename_i h0;have:=qhH h.2 (m / 32) (m % 32) Oq;rw [hmm] at this;rw [this,q0M l _ (by omega)]
    ·rfl
   refine q0L ?_
   try simp only [q0D,q0N]
   refine q8s rfl ⟨A2,j,c2,o,by simp only [q0F,Nat.reduceEqDiff,↓reduceIte,hb2],hx,hO,hv,by omega⟩
 refine q0Y ?_;refine q09 (fun e2 w2=>w2=w∧∃ i:Nat,e2 7=.int .i64 i∧e2 6=.bool (decide (val (l.take i)≠0))∧i≤m / 32∧i≤n) (fun e2 _=>n-(RowKit.intOf (e2 7)).toNat) ⟨rfl,0,rfl,rfl,Nat.zero_le _,Nat.zero_le _⟩ ?_;rintro e1 w1 ⟨rfl,i,h7,h6,him,hin⟩ hkk;have h0:e1 0=.slice A n c:=(hkk 0 (by kernel_rfl)).trans rfl;have h1:e1 1=.int .i64 m:=(hkk 1 (by kernel_rfl)).trans rfl;clear hkk;refine q0B fun K1 hK1=>?_
 by_cases h1m:i < m / 32
 ·have h1m':(i:Int) < (m / 32:Nat):=by omega
  by_cases h1n:i < n
  ·have h1n':(i:Int) < n:=by omega
   refine Wz5 h7 h1 h0 h1m' h1n' ?_;refine Wt (q0G (hK1 _ _ ?_));clear hK1;refine q0O fun K hK=>?_;have e2':(0:Int)≤i∧(i:Int) < n:=by omega
   obtain ⟨ad,rfl,hcc⟩:=h.cell h1n;have fin:∀ e2:Env,e2 7=.int .i64 i→e2 6=.bool (decide (val (l.take (i+1))≠0))→K e2 w1:=by
    intro e2 g7 g6;refine hK _ _ ?_; clear hK;refine q0P fun K9 hK9=>?_;refine Zz2 g7 @i64_in ?_;refine hK9 _ _ ?_; clear hK9 K9;refine ⟨⟨rfl,i+1,rfl,?_,by omega,by omega⟩,?_⟩
    ·simp only [q0F,Nat.reduceEqDiff,↓reduceIte,g6]
    ·simp only [q0F,↓reduceIte,RowKit.intOf,h7]; omega
   have hpB:=q4J i
   by_cases hz:val (l.take i)=0
   ·have hz':decide (val (l.take i)≠0)=false:=by simp [hz]
    refine q0P fun K9 hK9=>?_;refine Zz6 h6 h7 h0 hz' e2' hcc ?_;refine hK9 _ _ ?_; clear hK9 K9;refine fin _ Ue ?_;simp only [q0F,Nat.reduceEqDiff,↓reduceIte]
    congr 1
    rw [vts,hz,Nat.zero_add,bne];rw [Bool.eq_iff_iff];simp only [Bool.not_eq_true',beq_eq_false_iff_ne,decide_eq_true_eq,ne_eq,Nat.mul_eq_zero,not_or,dg];omega
   ·have hz':decide (val (l.take i)≠0)=true:=by simp [hz]
    refine q0P fun K9 hK9=>?_;refine Zz4 h6 h7 h0 hz' ?_;refine hK9 _ _ ?_; clear hK9 K9;refine fin _ Ue ?_;simp only [q0F,Nat.reduceEqDiff,↓reduceIte]
    congr 1
    rw [vts]; symm; rw [decide_eq_true_eq]; omega
  ·have h1n':¬ (i:Int) < n:=by omega
   refine Wz5 h7 h1 h0 h1m' h1n' ?_;refine Wf (q03 ?_);refine mid _ Ue Ue ?_;simp only [q0F,Nat.reduceEqDiff,↓reduceIte,h6];rw [q0M l i Oq,q0M l (m / 32) (by omega)]
 ·have h1m':¬ (i:Int) < (m / 32:Nat):=by omega
  refine Wz4 h7 h1 h0 h1m' ?_;refine Wf (q03 ?_);obtain rfl:i=m / 32:=by omega
  exact mid _ Ue Ue Ue
theorem q1p {w:World} {Bd g n c:Nat} {l:List Nat} (h:q1Y w Bd (some ⟨g,0,none⟩) n c l) {j d:Nat} (hj:j < n) (hd:d < 4294967296) {K:World→Prop}
  (hK:∀ w',q1Y w' Bd (some ⟨g,0,none⟩) n c (l.set j d)→Kp (nb (some ⟨g,0,none⟩)) w w'→w'.heap.size=w.heap.size→K w'):q31 Tryz.prog 135 w (.pointer (some ⟨g,j,none⟩)) (.int .u32 d) K:=by
 have hl:l.length=n:=by have:=h.1.len; simpa using this
 obtain ⟨g',hg,hb,hc,hfz⟩:=h.1.cell (j:=j) (by simp; omega);cases hg;rw [q4x];refine ⟨qjP,⟨?_,?_,rfl,trivial⟩,?_⟩
 ·rw [q02,Nat.add_zero,hc]; rfl
 ·rw [q02,Nat.add_zero]; exact hfz
 ·refine hK _ ⟨?_,h.2.set j d hd⟩ ?_ ?_
  ·have:=h.1.set j (Value.int .u32 d);rw [List.map_set];simpa [stN,q02,q75,Value.cells] using this
  ·have:=qdf (w:=w) (g:=g) (j:=j) (u:=Value.int .u32 d);simpa [stN,q02,Value.cells] using this
  ·simp [stN,World.setCell,Value.cells]
theorem qgj {D:Nat→Prop} {A:Option Addr} {n c:Nat} {l:List Nat} {s:Bool} {w:World} (h:U32 w D A n c l) (hb:n≤1000000000) (hf:Fr D w) :
  Calls Tryz.prog 148 #[.agg #[.bool s,.slice A n c]] w fun e w'=>e=.returned (.int .i64 (Int.sign (sgn s (val l))))∧Ext w w':=by
 refine q0H Tryz.func148 rfl Tryz.ntmps148 (by kernel_rfl) ?_;refine q0A fun K hK=>?_;refine Zz ?_;refine q0X ?_;intro g1 w1 hg1 hx1 hb1 hs1;refine hK _ _ ?_; clear hK;have hr:ldV w1 (some (some 2)) (.pointer (some ⟨g1,0,none⟩))=some (.agg #[.bool s,.slice A n c]):=q22 hb1 rfl;have hD:Fr (Dx D w.heap.size w1.heap.size) w1:=Dx.fr (hf.kp hx1) (Nat.le_refl _);refine q0A fun K hK=>?_;refine Zz1 hr ?_;refine q0E q6Y (q5D ((h.sub (Dx.keep rfl)).ext hx1) hb hD) ?_;rintro _ w3 ⟨s3,A3,n3,c3,rfl,hx3,hB⟩; refine ⟨_,rfl,?_⟩;replace hb1:=hb1.ext hx3;refine q0V hb1 q0u rfl rfl fun w9 hk9 hb9=>?_;refine hK _ _ ?_; clear hK;have hx9:Ext w w9:=(hx1.trans hx3).under hk9 (fun k hk=>by omega);have hc0:w9.cell? ⟨g1,0,none⟩=some (.bool s3):=hb9.cell 0;have hc1:w9.cell? ⟨g1,1,none⟩=some (.slice A3 n3 c3):=hb9.cell 1;obtain ⟨hs3,hU3⟩:=hB;have hlen:=hU3.len;have hpos:=@q0S (sgn s (val l)).natAbs;refine q0O fun K1 hK1=>?_;refine Wz2 hc0 hc1 ?_
 by_cases hz:n3=0
 ·have hz':((n3:Int) == 0)=true:=by simp [hz]
  refine q00 rfl (fun hc=>?_) (fun hc=>by rw [hz'] at hc; cases hc);refine Wz ?_;have h0:sgn s (val l)=0:=by omega
  refine q0L ?_
  try simp only [q0D,q0N]
  refine q0k rfl ⟨by rw [h0]; rfl,hx9⟩
 ·have hz':((n3:Int) == 0)=false:=by simp [hz]
  refine q00 rfl (fun hc=>by rw [hz'] at hc; cases hc) (fun hc=>?_);refine Wz1 hc0 ?_
  by_cases hn:sgn s (val l) < 0
  ·have hs:s3=true:=by rw [hs3]; simpa using hn
   subst hs;refine Wt ?_;refine Wz ?_;refine q0L ?_
   try simp only [q0D,q0N]
   refine q0k rfl ⟨by rw [Int.sign_eq_neg_one_of_neg hn]; rfl,hx9⟩
  ·have hs:s3=false:=by rw [hs3]; simpa using hn
   subst hs;refine Wf (q0G (hK1 _ _ ?_));refine Wz ?_;refine q0L ?_
   try simp only [q0D,q0N]
   refine q0k rfl ⟨by rw [Int.sign_eq_one_of_pos (by omega)]; rfl,hx9⟩
theorem own2 {w w1:World} {a b:Nat} (hb:Blk w1 w.heap.size 135 #[.int .u32 a,.int .u32 b]) (ha:a < 4294967296) (hb':b < 4294967296):q1Y w1 w.heap.size (some ⟨w.heap.size,0,none⟩) 2 2 [a,b]:=by
 refine ⟨?_,fun d hd=>?_⟩
 ·have:=Own.made (w:=w1) (w':=w) (B:=w.heap.size) (sz:=1) (n:=2) (c:=2) hb (Nat.le_refl _) (by simp [maxLen]) rfl (Nat.le_refl _);simpa [q75] using this
 ·rcases List.mem_cons.1 hd with rfl | hd
  ·exact ha
  ·simp at hd; subst hd; exact hb'
theorem q57 {z:Int} {D:Nat→Prop} {w:World} (h1 : -9223372036854775808≤z) (h2:z≤9223372036854775807) (hf:Fr D w) :
  Calls Tryz.prog 150 #[.int .i64 z] w fun e w'=>∃ s' A' n' c',e=.returned (.agg #[.bool s',.slice A' n' c'])∧Ext w w'∧Big w' D s' A' n' c' z:=by
 refine q0H Tryz.func150 rfl Tryz.ntmps150 (by kernel_rfl) ?_;refine q0A fun K hK=>?_;refine Zz ?_;refine q0i ?_;intro g1 w1 hg1 hx1 hb1 hs1;refine hK _ _ ?_; clear hK;refine Wz ?_;refine q0B fun K0 hK0=>?_;have fin:∀ e1:Env,e1 2=.pointer (some ⟨g1,0,none⟩)→e1 0=.int .i64 z→e1 3=.int .u64 (z.natAbs:Nat)→K0 e1 w1:=by
  intro e1 k2 k0 k3;refine hK0 _ _ ?_; clear hK0;refine q0A fun K hK=>?_;refine Zz3 k2 k0 k3 ?_;refine q1P fun w2 hx2 hb2 hs2=>?_;have hD:Fr (Dx D w.heap.size w1.heap.size) w2:=Dx.fr ((hf.kp hx1).kp hx2) Oq;have hU:U32 w2 (Dx D w.heap.size w1.heap.size) _ 2 2 _:=(own2 hb2 (Nat.mod_lt _ Oq) (Nat.mod_lt _ Oq)).u32 fun k hk=>Dx.ge (hf k Oq) Oq;have hv:val [z.natAbs % 4294967296,z.natAbs / 4294967296 % 4294967296]=z.natAbs:=by simp only [val,B]; omega
  refine q0E q2s (q17 hU Oq hD) ?_;rintro _ w3 ⟨s3,A3,n3,c3,rfl,hx3,hB⟩; refine ⟨_,rfl,?_⟩;replace hb1:=(hb1.ext hx2).ext hx3;rw [hv,q4y] at hB;refine q0V hb1 q0u rfl rfl fun w9 hk9 hb9=>?_;refine hK _ _ ?_; clear hK;refine q0L ?_
  try simp only [q0D,q0N]
  exact (q2u rfl (q0t (by first | exact rfl | assumption) q1X hb9 rfl) ⟨_,_,_,_,rfl,(((hx1.trans hx2).trans hx3)).under hk9 (fun k hk=>by omega),(hB.kp (hk9.mono fun k _ h=>Dx.ne h Oq Oq)).sub fun k _ h=>h.1⟩)
 by_cases hn:z < 0
 ·refine Wz1 hn ?_;refine Wt ?_;have e1:IntKind.u64.wrap (IntKind.u64.wrap (IntKind.i64.wrap (0-IntKind.i64.wrap (z+1)))+1)=((z.natAbs:Nat):Int):=by
   rw [i64_in (n:=z+1) Oq Oq,i64_in Oq Oq,u64_in (n:=0-(z+1)) Oq Oq,u64_in Oq (by omega)]; omega
  refine q0P fun K9 hK9=>?_;simp -implicitDefEqProofs only [go_sem,Nat.reduceEqDiff,Nat.reduceAdd,↓reduceIte];refine hK9 _ _ ?_;exact fin _ Ue Ue (by simp only [q0F,Nat.reduceEqDiff,↓reduceIte,e1])
 ·have hn':¬ z < 0:=hn;refine Wz1 hn' ?_;refine Wf (q0G ?_);exact fin _ Ue Ue (by simp only [q0F,Nat.reduceEqDiff,↓reduceIte]; rw [u64_in Oq (by omega)]; congr 1; omega)
theorem qd2 {D:Nat→Prop} {A A':Option Addr} {n c n' c':Nat} {l l':List Nat} {s s':Bool} {w:World} (h:U32 w D A n c l) (h':U32 w D A' n' c' l') (hb:n≤900000000) (hb':n'≤900000000) (hf:Fr D w) :
  Calls Tryz.prog 153 #[.agg #[.bool s,.slice A n c],.agg #[.bool s',.slice A' n' c']] w fun e w'=>∃ s9 A9 n9 c9,e=.returned (.agg #[.bool s9,.slice A9 n9 c9])∧Ext w w'∧Big w' D s9 A9 n9 c9 (sgn s (val l)+sgn s' (val l')):=by
 refine q0H Tryz.func153 rfl Tryz.ntmps153 (by kernel_rfl) ?_;refine q0A fun K hK=>?_;refine Zz ?_;refine q0X ?_;intro g1 w1 hg1 hx1 hb1 hs1;refine q0X ?_;intro g2 w2 hg2 hx2 hb2 hs2;refine q0i ?_;intro g3 w3 hg3 hx3 hb3 hs3;refine hK _ _ ?_; clear hK;replace hb1:=(hb1.ext hx2).ext hx3;replace hb2:=hb2.ext hx3;have hxx:=(hx1.trans hx2).trans hx3;replace h:=h.ext hxx;replace h':=h'.ext hxx;have hc0:∀ w',Ext w3 w'→w'.cell? ⟨g1,0,none⟩=some (.bool s):=fun w' hw=>(hb1.ext hw).cell 0;have hc1:∀ w',Ext w3 w'→w'.cell? ⟨g1,1,none⟩=some (.slice A n c):=fun w' hw=>(hb1.ext hw).cell 1;have hc0':∀ w',Ext w3 w'→w'.cell? ⟨g2,0,none⟩=some (.bool s'):=fun w' hw=>(hb2.ext hw).cell 0;have hc1':∀ w',Ext w3 w'→w'.cell? ⟨g2,1,none⟩=some (.slice A' n' c'):=fun w' hw=>(hb2.ext hw).cell 1;refine q0B fun K1 hK1=>?_;refine qkk true q0j (Kp.pre (fun _=>True)) (fun _ _ _ h=>h) [true,true,false,true,true,false,false,false] [(9,isU (Dx D w.heap.size w3.heap.size) (lim (val l))),(12,isU (Dx D w.heap.size w3.heap.size) (lim (val l'))),(5,isU (Dx D w.heap.size w3.heap.size) (lim (val l)))] (by kernel_rfl) fun KE hKE=>?_;simp -implicitDefEqProofs (disch:=omega) only [go_sem,Nat.reduceEqDiff,Nat.reduceAdd,↓reduceIte,hc1 _ (Kp.refl _ _),hc1' _ (Kp.refl _ _)];refine hKE _ ⟨?_,fun e' w' hw hs ho=>?_⟩ <;> clear hKE KE
 ·refine q0Z (fun e' w' hw hd ho=>?_) ?_
  ·skip
   have o8:=ho 8 (by kernel_rfl) (by kernel_rfl);simp -implicitDefEqProofs (disch:=omega) only [go_sem,Nat.reduceEqDiff,Nat.reduceAdd,↓reduceIte,o8];refine q0E q2r (q16 (h.ext hw) Oq) ?_;rintro _ w4 ⟨A4,n4,c4,rfl,hx4,hO4⟩; refine ⟨_,rfl,?_⟩;exact ⟨hx4,fun d hd=>by cases hd; exact ⟨_,_,_,rfl,hO4.u32 fun k hk=>Dx.ge (hf k (by have:=hw.size; have:=hxx.size; omega)) (by have:=hw.size; omega)⟩⟩
  refine q0Z (fun e' w' hw hd ho=>?_) ?_
  ·skip
   have o11:=ho 11 (by kernel_rfl) (by kernel_rfl);simp -implicitDefEqProofs (disch:=omega) only [go_sem,Nat.reduceEqDiff,Nat.reduceAdd,↓reduceIte,o11];refine q0E q2r (q16 (h'.ext hw) Oq) ?_;rintro _ w4 ⟨A4,n4,c4,rfl,hx4,hO4⟩; refine ⟨_,rfl,?_⟩;exact ⟨hx4,fun d hd=>by cases hd; exact ⟨_,_,_,rfl,hO4.u32 fun k hk=>Dx.ge (hf k (by have:=hw.size; have:=hxx.size; omega)) (by have:=hw.size; omega)⟩⟩
  refine q0Z (fun e' w' hw hd ho=>?_) ?_
  ·skip
   have h9:=hd 9 (by kernel_rfl) (by kernel_rfl);obtain ⟨A4,n4,c4,h9,hU4⟩:=h9;refine Zz1 h9 ?_;exact ⟨Kp.refl _ _,fun d hd=>by cases hd; exact ⟨_,_,_,rfl,hU4⟩⟩
  exact q1T
 ·have h12:=hs 12 (by kernel_rfl);have h5:=hs 5 (by kernel_rfl);obtain ⟨A4,n4,c4,h5,hU⟩:=h5;obtain ⟨A5,n5,c5,h12,hU'⟩:=h12;have o2:e' 2=.pointer (some ⟨g1,0,none⟩):=ho 2 (by kernel_rfl);have o3:e' 3=.pointer (some ⟨g2,0,none⟩):=ho 3 (by kernel_rfl);have o4:e' 4=.pointer (some ⟨g3,0,none⟩):=ho 4 (by kernel_rfl);clear hs ho;refine Zz1 h12 ?_;refine hK1 _ _ ?_; clear hK1;have hD:Fr (Dx D w.heap.size w3.heap.size) w':=Dx.fr ((hf.kp hxx).kp hw) hw.size;have hn4:n4≤900000000:=by have h1:=hU.len; have h2:=q21 h; omega
  have hn5:n5≤900000000:=by have h1:=hU'.len; have h2:=q21 h'; omega
  replace hb3:=hb3.ext hw;have hxw:=hxx.trans hw;refine q0B fun K1 hK1=>?_;have hq:(s == s')=decide (s=s'):=by cases s <;> cases s' <;> rfl
  have hcs:=hc0 _ hw;have hcs':=hc0' _ hw
  by_cases hss:s=s'
  ·subst hss;refine q0A fun K hK=>?_;simp -implicitDefEqProofs (disch:=omega) only [go_sem,Nat.reduceEqDiff,Nat.reduceAdd,↓reduceIte,o2,o3,hcs,hcs',beq_self_eq_true];refine hK _ _ ?_; clear hK K;refine Wt ?_;refine q0B fun K hK=>?_;refine qkk true q0j (Kp.pre (fun _=>True)) (fun _ _ _ h=>h) [true,true,true,true,false,false,false] [(22,isV (Dx D w.heap.size w3.heap.size) 900000001 (val l+val l')),(23,isB (Dx D w.heap.size w3.heap.size) (sgn s (val l)+sgn s (val l')))] (by kernel_rfl) fun KE hKE=>?_;simp -implicitDefEqProofs (disch:=omega) only [go_sem,Nat.reduceEqDiff,Nat.reduceAdd,↓reduceIte,o2,hcs,h5];refine hKE _ ⟨?_,fun e' w' hw hs ho=>?_⟩ <;> clear hKE KE
   ·refine q0Z (fun e' w' hw hd ho=>?_) ?_
    ·skip
     have o20:=ho 20 (by kernel_rfl) (by kernel_rfl);have o21:=ho 21 (by kernel_rfl) (by kernel_rfl);simp -implicitDefEqProofs (disch:=omega) only [go_sem,Nat.reduceEqDiff,Nat.reduceAdd,↓reduceIte,o20,o21];refine q0E qkU (qfd (hU.ext hw) (hU'.ext hw) Oq Oq) ?_;rintro _ w4 ⟨A6,n6,c6,l6,rfl,hx4,hO6,hv6,hn6⟩; refine ⟨_,rfl,?_⟩;exact ⟨hx4,fun d hd=>by cases hd; exact ⟨_,_,_,_,rfl,hO6.u32 fun k hk=>hD k (by have:=hw.size; omega),by rw [hv6,q0J,q0J],by omega⟩⟩
    refine q0Z (fun e' w' hw hd ho=>?_) ?_
    ·skip
     have o19:=ho 19 (by kernel_rfl) (by kernel_rfl);have h22:=hd 22 (by kernel_rfl) (by kernel_rfl);obtain ⟨A6,n6,c6,l6,h22,hU6,hv6,hn6⟩:=h22;simp -implicitDefEqProofs (disch:=omega) only [go_sem,Nat.reduceEqDiff,Nat.reduceAdd,↓reduceIte,h22,o19];refine q0E q2s (q17 hU6 Oq (hD.kp hw)) ?_;rintro _ w4 ⟨s7,A7,n7,c7,rfl,hx4,hB⟩; refine ⟨_,rfl,?_⟩;rw [hv6] at hB;exact ⟨hx4,fun d hd=>by cases hd; exact ⟨_,_,_,_,rfl,by rw [show sgn s (val l)+sgn s (val l')=sgn s (val l+val l') by cases s <;> simp [sgn] <;> omega]; exact hB⟩⟩
    exact q1T
   ·have o4:=ho 4 (by kernel_rfl);have h23:=hs 23 (by kernel_rfl);obtain ⟨s7,A7,n7,c7,h23,hB⟩:=h23;have o4:e' 4=.pointer (some ⟨g3,0,none⟩):=(ho 4 (by kernel_rfl)).trans Ue;clear hs ho;simp -implicitDefEqProofs (disch:=omega) only [go_sem,Nat.reduceEqDiff,Nat.reduceAdd,↓reduceIte,h23,o4];replace hb3:=hb3.ext hw;have hx:=hxw.trans hw;refine q0V hb3 q0u rfl rfl fun w9 hk9 hb9=>?_;refine hK _ _ ?_; clear hK;refine q0L ?_
    try simp only [q0D,q0N]
    exact (q2u rfl (q0t (by first | exact rfl | assumption) q1X hb9 rfl) ⟨_,_,_,_,rfl,(hx).under hk9 (fun k hk=>by omega),(hB.kp (hk9.mono fun k _ h=>Dx.ne h Oq Oq)).sub fun k _ h=>h.1⟩)
  ·have hss':(s == s')=false:=by rw [hq]; simpa using hss
   refine q0A fun K hK=>?_;simp -implicitDefEqProofs (disch:=omega) only [go_sem,Nat.reduceEqDiff,Nat.reduceAdd,↓reduceIte,o2,o3,hcs,hcs',hss'];refine hK _ _ ?_; clear hK K;refine Wf (q0G (hK1 _ _ ?_));clear hK1;refine q0B fun K1 hK1=>?_;refine q0A fun K hK=>?_;refine Zz1 h5 ?_;refine Ck qfU (q8Q hU hU' Oq Oq) fun w8 hx8=>?_;have hs':s'=!s:=by cases s <;> cases s' <;> simp_all
   replace hb3:=hb3.ext hx8;replace hxw:=hxw.trans hx8;replace hcs:=hc0 _ (hw.trans hx8);replace hcs':=hc0' _ (hw.trans hx8);replace hU:=hU.ext hx8;replace hU':=hU'.ext hx8;replace hD:=hD.kp hx8;have hsz:=hx8.size
   by_cases hle:val l'≤val l
   ·have hg:(q2D (val l) (val l') ≥ 0):=by unfold q2D; split <;> (try split) <;> omega
    have hnn:n5≤n4:=by
     have h1:=hU.len; have h2:=hU'.len; have h3:=q2m hle; omega
    refine Zz1 hg ?_;refine hK _ _ ?_; clear hK;refine Wt ?_;refine q0B fun K hK=>?_;refine qkk true q0j (Kp.pre (fun _=>True)) (fun _ _ _ h=>h) [true,true,true,true,false,false,false] [(32,isV (Dx D w.heap.size w3.heap.size) 900000001 (val l-val l')),(33,isB (Dx D w.heap.size w3.heap.size) (sgn s (val l)+sgn s' (val l')))] (by kernel_rfl) fun KE hKE=>?_;simp -implicitDefEqProofs (disch:=omega) only [go_sem,Nat.reduceEqDiff,Nat.reduceAdd,↓reduceIte,o2,hcs,h5];refine hKE _ ⟨?_,fun e' w' hw hs ho=>?_⟩ <;> clear hKE KE
    ·refine q0Z (fun e' w' hw hd ho=>?_) ?_
     ·skip
      have o30:=ho 30 (by kernel_rfl) (by kernel_rfl);have o31:=ho 31 (by kernel_rfl) (by kernel_rfl);simp -implicitDefEqProofs (disch:=omega) only [go_sem,Nat.reduceEqDiff,Nat.reduceAdd,↓reduceIte,o30,o31];refine q0E qfT (q7l (hU.ext hw) (hU'.ext hw) Oq hnn (by rw [q0J,q0J]; exact hle)) ?_;rintro _ w4 ⟨A6,c6,l6,rfl,hx4,hO6,hv6⟩; refine ⟨_,rfl,?_⟩;exact ⟨hx4,fun d hd=>by cases hd; exact ⟨_,_,_,_,rfl,hO6.u32 fun k hk=>hD k (by have:=hw.size; omega),by rw [hv6,q0J,q0J],by omega⟩⟩
     refine q0Z (fun e' w' hw hd ho=>?_) ?_
     ·skip
      have o29:=ho 29 (by kernel_rfl) (by kernel_rfl);have h32:=hd 32 (by kernel_rfl) (by kernel_rfl);obtain ⟨A6,n6,c6,l6,h32,hU6,hv6,hn6⟩:=h32;simp -implicitDefEqProofs (disch:=omega) only [go_sem,Nat.reduceEqDiff,Nat.reduceAdd,↓reduceIte,h32,o29];refine q0E q2s (q17 hU6 Oq (hD.kp hw)) ?_;rintro _ w4 ⟨s7,A7,n7,c7,rfl,hx4,hB⟩; refine ⟨_,rfl,?_⟩;rw [hv6] at hB;exact ⟨hx4,fun d hd=>by cases hd; exact ⟨_,_,_,_,rfl,by rw [show sgn s (val l)+sgn s' (val l')=sgn s (val l-val l') by rw [hs']; cases s <;> simp [sgn] <;> omega]; exact hB⟩⟩
     exact q1T
    ·have o4:=ho 4 (by kernel_rfl);have h33:=hs 33 (by kernel_rfl);obtain ⟨s7,A7,n7,c7,h33,hB⟩:=h33;have o4:e' 4=.pointer (some ⟨g3,0,none⟩):=(ho 4 (by kernel_rfl)).trans Ue;clear hs ho;simp -implicitDefEqProofs (disch:=omega) only [go_sem,Nat.reduceEqDiff,Nat.reduceAdd,↓reduceIte,h33,o4];replace hb3:=hb3.ext hw;have hx:=hxw.trans hw;refine q0V hb3 q0u rfl rfl fun w9 hk9 hb9=>?_;refine hK _ _ ?_; clear hK;refine q0L ?_
     try simp only [q0D,q0N]
     exact (q2u rfl (q0t (by first | exact rfl | assumption) q1X hb9 rfl) ⟨_,_,_,_,rfl,(hx).under hk9 (fun k hk=>by omega),(hB.kp (hk9.mono fun k _ h=>Dx.ne h Oq Oq)).sub fun k _ h=>h.1⟩)
   ·have hg:¬ (q2D (val l) (val l') ≥ 0):=by unfold q2D; split <;> (try split) <;> omega
    have hnn:n4≤n5:=by
     have h1:=hU.len; have h2:=hU'.len; have h3:=q2m (Nat.le_of_not_le hle); omega
    refine Zz1 hg ?_;refine hK _ _ ?_; clear hK;refine Wf (q0G (hK1 _ _ ?_));clear hK1;refine q0B fun K hK=>?_;refine qkk true q0j (Kp.pre (fun _=>True)) (fun _ _ _ h=>h) [true,true,true,true,false,false,false] [(38,isV (Dx D w.heap.size w3.heap.size) 900000001 (val l'-val l)),(39,isB (Dx D w.heap.size w3.heap.size) (sgn s (val l)+sgn s' (val l')))] (by kernel_rfl) fun KE hKE=>?_;simp -implicitDefEqProofs (disch:=omega) only [go_sem,Nat.reduceEqDiff,Nat.reduceAdd,↓reduceIte,o3,hcs',h5];refine hKE _ ⟨?_,fun e' w' hw hs ho=>?_⟩ <;> clear hKE KE
    ·refine q0Z (fun e' w' hw hd ho=>?_) ?_
     ·skip
      have o36:=ho 36 (by kernel_rfl) (by kernel_rfl);have o37:=ho 37 (by kernel_rfl) (by kernel_rfl);simp -implicitDefEqProofs (disch:=omega) only [go_sem,Nat.reduceEqDiff,Nat.reduceAdd,↓reduceIte,o36,o37];refine q0E qfT (q7l (hU'.ext hw) (hU.ext hw) Oq hnn (by rw [q0J,q0J]; omega)) ?_;rintro _ w4 ⟨A6,c6,l6,rfl,hx4,hO6,hv6⟩; refine ⟨_,rfl,?_⟩;exact ⟨hx4,fun d hd=>by cases hd; exact ⟨_,_,_,_,rfl,hO6.u32 fun k hk=>hD k (by have:=hw.size; omega),by rw [hv6,q0J,q0J],by omega⟩⟩
     refine q0Z (fun e' w' hw hd ho=>?_) ?_
     ·skip
      have o35:=ho 35 (by kernel_rfl) (by kernel_rfl);have h38:=hd 38 (by kernel_rfl) (by kernel_rfl);obtain ⟨A6,n6,c6,l6,h38,hU6,hv6,hn6⟩:=h38;simp -implicitDefEqProofs (disch:=omega) only [go_sem,Nat.reduceEqDiff,Nat.reduceAdd,↓reduceIte,h38,o35];refine q0E q2s (q17 hU6 Oq (hD.kp hw)) ?_;rintro _ w4 ⟨s7,A7,n7,c7,rfl,hx4,hB⟩; refine ⟨_,rfl,?_⟩;rw [hv6] at hB;exact ⟨hx4,fun d hd=>by cases hd; exact ⟨_,_,_,_,rfl,by rw [show sgn s (val l)+sgn s' (val l')=sgn s' (val l'-val l) by rw [hs']; cases s <;> simp [sgn] <;> omega]; exact hB⟩⟩
     exact q1T
    ·have o4:=ho 4 (by kernel_rfl);have h39:=hs 39 (by kernel_rfl);obtain ⟨s7,A7,n7,c7,h39,hB⟩:=h39;have o4:e' 4=.pointer (some ⟨g3,0,none⟩):=(ho 4 (by kernel_rfl)).trans Ue;clear hs ho;simp -implicitDefEqProofs (disch:=omega) only [go_sem,Nat.reduceEqDiff,Nat.reduceAdd,↓reduceIte,h39,o4];replace hb3:=hb3.ext hw;have hx:=hxw.trans hw;refine q0V hb3 q0u rfl rfl fun w9 hk9 hb9=>?_;refine hK _ _ ?_; clear hK;refine q0L ?_
     try simp only [q0D,q0N]
     exact (q2u rfl (q0t (by first | exact rfl | assumption) q1X hb9 rfl) ⟨_,_,_,_,rfl,(hx).under hk9 (fun k hk=>by omega),(hB.kp (hk9.mono fun k _ h=>Dx.ne h Oq Oq)).sub fun k _ h=>h.1⟩)
end Go.Proofs.YtbcmhlhgljoolaaGreatDoor
