/- KrylovSteps. 1/7. -/
import Derived.Laws.OwnMore
import Derived.Maps.AppendAt
import Derived.Orders
import Derived.Test.YtbcmhlhgljoolaaGreatDoorProg
import Derived.WalkKit
set_option linter.unusedSimpArgs false
set_option linter.unusedVariables false
set_option maxRecDepth 20000
set_option maxHeartbeats 2000000
set_option linter.defProp false
namespace Go
def Zz {p q : Prop} (k : q) (e : p = q := by simp -implicitDefEqProofs (disch := omega) only [go_sem, Nat.reduceEqDiff, Nat.reduceAdd, ↓reduceIte]; exact rfl) : p := e.mpr k
def Ue {p : Prop} (e : p := by (try simp only [q0E, Nat.reduceEqDiff, ↓reduceIte]); first | done | assumption | exact rfl) : p := e
def Rf {p : Prop} (e : p := by first | exact rfl | assumption | exact Ue) : p := e
theorem Oq {p : Prop} (e : p := by omega) : p := e
def Om {p : Prop} (e : p := by first | omega | (simp only [Int.natAbs_natCast, Int.natAbs_neg]; omega)) : p := e
def Lk {p : Prop} (e : p := by first | (simp -implicitDefEqProofs (disch := omega) only [go_sem, Nat.reduceEqDiff, Nat.reduceAdd, ↓reduceIte, ↓List.map_cons, ↓List.map_nil]; done) | (simp -implicitDefEqProofs (disch := omega) only [go_sem, Nat.reduceEqDiff, Nat.reduceAdd, ↓reduceIte, ↓List.map_cons, ↓List.map_nil]; rfl) | rfl) : p := e
def Lq {p : Prop} (e : p := by first | (simp -implicitDefEqProofs (disch := omega) only [go_sem, Nat.reduceEqDiff, Nat.reduceAdd, ↓reduceIte]; done) | (simp -implicitDefEqProofs (disch := omega) only [go_sem, Nat.reduceEqDiff, Nat.reduceAdd, ↓reduceIte]; rfl) | rfl) : p := e
def Cz {p : Prop} (e : p := by simp only [go_sem, Nat.reduceEqDiff, ↓reduceIte]) : p := e
def Zy {p : Prop}  (e : p := by simp -implicitDefEqProofs (disch := omega) only [go_sem, Nat.reduceEqDiff, Nat.reduceAdd, ↓reduceIte]) : p := e
def Zy1 {p F1 : Prop} (f1 : F1) (e : F1 → p := by intro g1; simp -implicitDefEqProofs (disch := omega) only [go_sem, Nat.reduceEqDiff, Nat.reduceAdd, ↓reduceIte, g1]) : p := e f1
def Zy2 {p F1 F2 : Prop} (f1 : F1) (f2 : F2) (e : F1 → F2 → p := by intro g1 g2; simp -implicitDefEqProofs (disch := omega) only [go_sem, Nat.reduceEqDiff, Nat.reduceAdd, ↓reduceIte, g1, g2]) : p := e f1 f2
def Zy3 {p F1 F2 F3 : Prop} (f1 : F1) (f2 : F2) (f3 : F3) (e : F1 → F2 → F3 → p := by intro g1 g2 g3; simp -implicitDefEqProofs (disch := omega) only [go_sem, Nat.reduceEqDiff, Nat.reduceAdd, ↓reduceIte, g1, g2, g3]) : p := e f1 f2 f3
def Zy4 {p F1 F2 F3 F4 : Prop} (f1 : F1) (f2 : F2) (f3 : F3) (f4 : F4) (e : F1 → F2 → F3 → F4 → p := by intro g1 g2 g3 g4; simp -implicitDefEqProofs (disch := omega) only [go_sem, Nat.reduceEqDiff, Nat.reduceAdd, ↓reduceIte, g1, g2, g3, g4]) : p := e f1 f2 f3 f4
def Zy5 {p F1 F2 F3 F4 F5 : Prop} (f1 : F1) (f2 : F2) (f3 : F3) (f4 : F4) (f5 : F5) (e : F1 → F2 → F3 → F4 → F5 → p := by intro g1 g2 g3 g4 g5; simp -implicitDefEqProofs (disch := omega) only [go_sem, Nat.reduceEqDiff, Nat.reduceAdd, ↓reduceIte, g1, g2, g3, g4, g5]) : p := e f1 f2 f3 f4 f5
def Zy6 {p F1 F2 F3 F4 F5 F6 : Prop} (f1 : F1) (f2 : F2) (f3 : F3) (f4 : F4) (f5 : F5) (f6 : F6) (e : F1 → F2 → F3 → F4 → F5 → F6 → p := by intro g1 g2 g3 g4 g5 g6; simp -implicitDefEqProofs (disch := omega) only [go_sem, Nat.reduceEqDiff, Nat.reduceAdd, ↓reduceIte, g1, g2, g3, g4, g5, g6]) : p := e f1 f2 f3 f4 f5 f6
def Zy7 {p F1 F2 F3 F4 F5 F6 F7 : Prop} (f1 : F1) (f2 : F2) (f3 : F3) (f4 : F4) (f5 : F5) (f6 : F6) (f7 : F7) (e : F1 → F2 → F3 → F4 → F5 → F6 → F7 → p := by intro g1 g2 g3 g4 g5 g6 g7; simp -implicitDefEqProofs (disch := omega) only [go_sem, Nat.reduceEqDiff, Nat.reduceAdd, ↓reduceIte, g1, g2, g3, g4, g5, g6, g7]) : p := e f1 f2 f3 f4 f5 f6 f7
def Zy8 {p F1 F2 F3 F4 F5 F6 F7 F8 : Prop} (f1 : F1) (f2 : F2) (f3 : F3) (f4 : F4) (f5 : F5) (f6 : F6) (f7 : F7) (f8 : F8) (e : F1 → F2 → F3 → F4 → F5 → F6 → F7 → F8 → p := by intro g1 g2 g3 g4 g5 g6 g7 g8; simp -implicitDefEqProofs (disch := omega) only [go_sem, Nat.reduceEqDiff, Nat.reduceAdd, ↓reduceIte, g1, g2, g3, g4, g5, g6, g7, g8]) : p := e f1 f2 f3 f4 f5 f6 f7 f8
def Zy9 {p F1 F2 F3 F4 F5 F6 F7 F8 F9 : Prop} (f1 : F1) (f2 : F2) (f3 : F3) (f4 : F4) (f5 : F5) (f6 : F6) (f7 : F7) (f8 : F8) (f9 : F9) (e : F1 → F2 → F3 → F4 → F5 → F6 → F7 → F8 → F9 → p := by intro g1 g2 g3 g4 g5 g6 g7 g8 g9; simp -implicitDefEqProofs (disch := omega) only [go_sem, Nat.reduceEqDiff, Nat.reduceAdd, ↓reduceIte, g1, g2, g3, g4, g5, g6, g7, g8, g9]) : p := e f1 f2 f3 f4 f5 f6 f7 f8 f9
def Zy10 {p F1 F2 F3 F4 F5 F6 F7 F8 F9 F10 : Prop} (f1 : F1) (f2 : F2) (f3 : F3) (f4 : F4) (f5 : F5) (f6 : F6) (f7 : F7) (f8 : F8) (f9 : F9) (f10 : F10) (e : F1 → F2 → F3 → F4 → F5 → F6 → F7 → F8 → F9 → F10 → p := by intro g1 g2 g3 g4 g5 g6 g7 g8 g9 g10; simp -implicitDefEqProofs (disch := omega) only [go_sem, Nat.reduceEqDiff, Nat.reduceAdd, ↓reduceIte, g1, g2, g3, g4, g5, g6, g7, g8, g9, g10]) : p := e f1 f2 f3 f4 f5 f6 f7 f8 f9 f10
def Zy11 {p F1 F2 F3 F4 F5 F6 F7 F8 F9 F10 F11 : Prop} (f1 : F1) (f2 : F2) (f3 : F3) (f4 : F4) (f5 : F5) (f6 : F6) (f7 : F7) (f8 : F8) (f9 : F9) (f10 : F10) (f11 : F11) (e : F1 → F2 → F3 → F4 → F5 → F6 → F7 → F8 → F9 → F10 → F11 → p := by intro g1 g2 g3 g4 g5 g6 g7 g8 g9 g10 g11; simp -implicitDefEqProofs (disch := omega) only [go_sem, Nat.reduceEqDiff, Nat.reduceAdd, ↓reduceIte, g1, g2, g3, g4, g5, g6, g7, g8, g9, g10, g11]) : p := e f1 f2 f3 f4 f5 f6 f7 f8 f9 f10 f11
def Zy12 {p F1 F2 F3 F4 F5 F6 F7 F8 F9 F10 F11 F12 : Prop} (f1 : F1) (f2 : F2) (f3 : F3) (f4 : F4) (f5 : F5) (f6 : F6) (f7 : F7) (f8 : F8) (f9 : F9) (f10 : F10) (f11 : F11) (f12 : F12) (e : F1 → F2 → F3 → F4 → F5 → F6 → F7 → F8 → F9 → F10 → F11 → F12 → p := by intro g1 g2 g3 g4 g5 g6 g7 g8 g9 g10 g11 g12; simp -implicitDefEqProofs (disch := omega) only [go_sem, Nat.reduceEqDiff, Nat.reduceAdd, ↓reduceIte, g1, g2, g3, g4, g5, g6, g7, g8, g9, g10, g11, g12]) : p := e f1 f2 f3 f4 f5 f6 f7 f8 f9 f10 f11 f12
def Zy13 {p F1 F2 F3 F4 F5 F6 F7 F8 F9 F10 F11 F12 F13 : Prop} (f1 : F1) (f2 : F2) (f3 : F3) (f4 : F4) (f5 : F5) (f6 : F6) (f7 : F7) (f8 : F8) (f9 : F9) (f10 : F10) (f11 : F11) (f12 : F12) (f13 : F13) (e : F1 → F2 → F3 → F4 → F5 → F6 → F7 → F8 → F9 → F10 → F11 → F12 → F13 → p := by intro g1 g2 g3 g4 g5 g6 g7 g8 g9 g10 g11 g12 g13; simp -implicitDefEqProofs (disch := omega) only [go_sem, Nat.reduceEqDiff, Nat.reduceAdd, ↓reduceIte, g1, g2, g3, g4, g5, g6, g7, g8, g9, g10, g11, g12, g13]) : p := e f1 f2 f3 f4 f5 f6 f7 f8 f9 f10 f11 f12 f13
def Zy14 {p F1 F2 F3 F4 F5 F6 F7 F8 F9 F10 F11 F12 F13 F14 : Prop} (f1 : F1) (f2 : F2) (f3 : F3) (f4 : F4) (f5 : F5) (f6 : F6) (f7 : F7) (f8 : F8) (f9 : F9) (f10 : F10) (f11 : F11) (f12 : F12) (f13 : F13) (f14 : F14) (e : F1 → F2 → F3 → F4 → F5 → F6 → F7 → F8 → F9 → F10 → F11 → F12 → F13 → F14 → p := by intro g1 g2 g3 g4 g5 g6 g7 g8 g9 g10 g11 g12 g13 g14; simp -implicitDefEqProofs (disch := omega) only [go_sem, Nat.reduceEqDiff, Nat.reduceAdd, ↓reduceIte, g1, g2, g3, g4, g5, g6, g7, g8, g9, g10, g11, g12, g13, g14]) : p := e f1 f2 f3 f4 f5 f6 f7 f8 f9 f10 f11 f12 f13 f14
def Zz1 {p q F1 : Prop} (f1 : F1) (k : q) (e : F1 → p = q := by intro g1; simp -implicitDefEqProofs (disch := omega) only [go_sem, Nat.reduceEqDiff, Nat.reduceAdd, ↓reduceIte, g1]; exact rfl) : p := (e f1).mpr k
def Zz2 {p q F1 F2 : Prop} (f1 : F1) (f2 : F2) (k : q) (e : F1 → F2 → p = q := by intro g1 g2; simp -implicitDefEqProofs (disch := omega) only [go_sem, Nat.reduceEqDiff, Nat.reduceAdd, ↓reduceIte, g1, g2]; exact rfl) : p := (e f1 f2).mpr k
def Zz3 {p q F1 F2 F3 : Prop} (f1 : F1) (f2 : F2) (f3 : F3) (k : q) (e : F1 → F2 → F3 → p = q := by intro g1 g2 g3; simp -implicitDefEqProofs (disch := omega) only [go_sem, Nat.reduceEqDiff, Nat.reduceAdd, ↓reduceIte, g1, g2, g3]; exact rfl) : p := (e f1 f2 f3).mpr k
def Zz4 {p q F1 F2 F3 F4 : Prop} (f1 : F1) (f2 : F2) (f3 : F3) (f4 : F4) (k : q) (e : F1 → F2 → F3 → F4 → p = q := by intro g1 g2 g3 g4; simp -implicitDefEqProofs (disch := omega) only [go_sem, Nat.reduceEqDiff, Nat.reduceAdd, ↓reduceIte, g1, g2, g3, g4]; exact rfl) : p := (e f1 f2 f3 f4).mpr k
def Zz5 {p q F1 F2 F3 F4 F5 : Prop} (f1 : F1) (f2 : F2) (f3 : F3) (f4 : F4) (f5 : F5) (k : q) (e : F1 → F2 → F3 → F4 → F5 → p = q := by intro g1 g2 g3 g4 g5; simp -implicitDefEqProofs (disch := omega) only [go_sem, Nat.reduceEqDiff, Nat.reduceAdd, ↓reduceIte, g1, g2, g3, g4, g5]; exact rfl) : p := (e f1 f2 f3 f4 f5).mpr k
def Zz6 {p q F1 F2 F3 F4 F5 F6 : Prop} (f1 : F1) (f2 : F2) (f3 : F3) (f4 : F4) (f5 : F5) (f6 : F6) (k : q) (e : F1 → F2 → F3 → F4 → F5 → F6 → p = q := by intro g1 g2 g3 g4 g5 g6; simp -implicitDefEqProofs (disch := omega) only [go_sem, Nat.reduceEqDiff, Nat.reduceAdd, ↓reduceIte, g1, g2, g3, g4, g5, g6]; exact rfl) : p := (e f1 f2 f3 f4 f5 f6).mpr k
def Zz7 {p q F1 F2 F3 F4 F5 F6 F7 : Prop} (f1 : F1) (f2 : F2) (f3 : F3) (f4 : F4) (f5 : F5) (f6 : F6) (f7 : F7) (k : q) (e : F1 → F2 → F3 → F4 → F5 → F6 → F7 → p = q := by intro g1 g2 g3 g4 g5 g6 g7; simp -implicitDefEqProofs (disch := omega) only [go_sem, Nat.reduceEqDiff, Nat.reduceAdd, ↓reduceIte, g1, g2, g3, g4, g5, g6, g7]; exact rfl) : p := (e f1 f2 f3 f4 f5 f6 f7).mpr k
def Zz8 {p q F1 F2 F3 F4 F5 F6 F7 F8 : Prop} (f1 : F1) (f2 : F2) (f3 : F3) (f4 : F4) (f5 : F5) (f6 : F6) (f7 : F7) (f8 : F8) (k : q) (e : F1 → F2 → F3 → F4 → F5 → F6 → F7 → F8 → p = q := by intro g1 g2 g3 g4 g5 g6 g7 g8; simp -implicitDefEqProofs (disch := omega) only [go_sem, Nat.reduceEqDiff, Nat.reduceAdd, ↓reduceIte, g1, g2, g3, g4, g5, g6, g7, g8]; exact rfl) : p := (e f1 f2 f3 f4 f5 f6 f7 f8).mpr k
def Zz9 {p q F1 F2 F3 F4 F5 F6 F7 F8 F9 : Prop} (f1 : F1) (f2 : F2) (f3 : F3) (f4 : F4) (f5 : F5) (f6 : F6) (f7 : F7) (f8 : F8) (f9 : F9) (k : q) (e : F1 → F2 → F3 → F4 → F5 → F6 → F7 → F8 → F9 → p = q := by intro g1 g2 g3 g4 g5 g6 g7 g8 g9; simp -implicitDefEqProofs (disch := omega) only [go_sem, Nat.reduceEqDiff, Nat.reduceAdd, ↓reduceIte, g1, g2, g3, g4, g5, g6, g7, g8, g9]; exact rfl) : p := (e f1 f2 f3 f4 f5 f6 f7 f8 f9).mpr k
def Zz10 {p q F1 F2 F3 F4 F5 F6 F7 F8 F9 F10 : Prop} (f1 : F1) (f2 : F2) (f3 : F3) (f4 : F4) (f5 : F5) (f6 : F6) (f7 : F7) (f8 : F8) (f9 : F9) (f10 : F10) (k : q) (e : F1 → F2 → F3 → F4 → F5 → F6 → F7 → F8 → F9 → F10 → p = q := by intro g1 g2 g3 g4 g5 g6 g7 g8 g9 g10; simp -implicitDefEqProofs (disch := omega) only [go_sem, Nat.reduceEqDiff, Nat.reduceAdd, ↓reduceIte, g1, g2, g3, g4, g5, g6, g7, g8, g9, g10]; exact rfl) : p := (e f1 f2 f3 f4 f5 f6 f7 f8 f9 f10).mpr k
def Zz11 {p q F1 F2 F3 F4 F5 F6 F7 F8 F9 F10 F11 : Prop} (f1 : F1) (f2 : F2) (f3 : F3) (f4 : F4) (f5 : F5) (f6 : F6) (f7 : F7) (f8 : F8) (f9 : F9) (f10 : F10) (f11 : F11) (k : q) (e : F1 → F2 → F3 → F4 → F5 → F6 → F7 → F8 → F9 → F10 → F11 → p = q := by intro g1 g2 g3 g4 g5 g6 g7 g8 g9 g10 g11; simp -implicitDefEqProofs (disch := omega) only [go_sem, Nat.reduceEqDiff, Nat.reduceAdd, ↓reduceIte, g1, g2, g3, g4, g5, g6, g7, g8, g9, g10, g11]; exact rfl) : p := (e f1 f2 f3 f4 f5 f6 f7 f8 f9 f10 f11).mpr k
def Zz12 {p q F1 F2 F3 F4 F5 F6 F7 F8 F9 F10 F11 F12 : Prop} (f1 : F1) (f2 : F2) (f3 : F3) (f4 : F4) (f5 : F5) (f6 : F6) (f7 : F7) (f8 : F8) (f9 : F9) (f10 : F10) (f11 : F11) (f12 : F12) (k : q) (e : F1 → F2 → F3 → F4 → F5 → F6 → F7 → F8 → F9 → F10 → F11 → F12 → p = q := by intro g1 g2 g3 g4 g5 g6 g7 g8 g9 g10 g11 g12; simp -implicitDefEqProofs (disch := omega) only [go_sem, Nat.reduceEqDiff, Nat.reduceAdd, ↓reduceIte, g1, g2, g3, g4, g5, g6, g7, g8, g9, g10, g11, g12]; exact rfl) : p := (e f1 f2 f3 f4 f5 f6 f7 f8 f9 f10 f11 f12).mpr k
def Zz13 {p q F1 F2 F3 F4 F5 F6 F7 F8 F9 F10 F11 F12 F13 : Prop} (f1 : F1) (f2 : F2) (f3 : F3) (f4 : F4) (f5 : F5) (f6 : F6) (f7 : F7) (f8 : F8) (f9 : F9) (f10 : F10) (f11 : F11) (f12 : F12) (f13 : F13) (k : q) (e : F1 → F2 → F3 → F4 → F5 → F6 → F7 → F8 → F9 → F10 → F11 → F12 → F13 → p = q := by intro g1 g2 g3 g4 g5 g6 g7 g8 g9 g10 g11 g12 g13; simp -implicitDefEqProofs (disch := omega) only [go_sem, Nat.reduceEqDiff, Nat.reduceAdd, ↓reduceIte, g1, g2, g3, g4, g5, g6, g7, g8, g9, g10, g11, g12, g13]; exact rfl) : p := (e f1 f2 f3 f4 f5 f6 f7 f8 f9 f10 f11 f12 f13).mpr k
def Zz14 {p q F1 F2 F3 F4 F5 F6 F7 F8 F9 F10 F11 F12 F13 F14 : Prop} (f1 : F1) (f2 : F2) (f3 : F3) (f4 : F4) (f5 : F5) (f6 : F6) (f7 : F7) (f8 : F8) (f9 : F9) (f10 : F10) (f11 : F11) (f12 : F12) (f13 : F13) (f14 : F14) (k : q) (e : F1 → F2 → F3 → F4 → F5 → F6 → F7 → F8 → F9 → F10 → F11 → F12 → F13 → F14 → p = q := by intro g1 g2 g3 g4 g5 g6 g7 g8 g9 g10 g11 g12 g13 g14; simp -implicitDefEqProofs (disch := omega) only [go_sem, Nat.reduceEqDiff, Nat.reduceAdd, ↓reduceIte, g1, g2, g3, g4, g5, g6, g7, g8, g9, g10, g11, g12, g13, g14]; exact rfl) : p := (e f1 f2 f3 f4 f5 f6 f7 f8 f9 f10 f11 f12 f13 f14).mpr k
end Go
namespace Go.E
open Go
abbrev Env:=Nat→Value
def upd (e:Env) (d:Nat) (v:Value):Env:=fun i=>if i=d then v else e i
def put (e:Env):Option Nat→Value→Env
 | some d,v=>upd e d v
 | none,_=>e
def ev (e:Env):Operand→Value
 | .tmp t=>e t
 | .const v=>v
 | .global g=>.pointer (some ⟨g,0,none⟩)
 | .func f=>.func (.func f) #[] #[]
def q4Y (l:List Value):Env:=fun i=>l.getD i undef
structure Rel (n:Nat) (a:Act) (e:Env):Prop where
 defs:a.defers=[]
 size:a.tmps.size=n
 get:∀ i,a.tmps.getD i undef=e i
def q3z (n:Nat) (o:Oper):Bool:=match o.dst with | some d=>decide (d < n) | none=>true
def q9E (n:Nat):Code→Bool
 | .skip | .exit _ | .ret=>true
 | .region _ ops _=>ops.toList.all (q3z n)
 | .seq a b=>q9E n a && q9E n b
 | .cond _ a b=>q9E n a && q9E n b
 | .block _ c=>q9E n c
 | .loop c=>q9E n c
 | _=>false
def wrO (i:Nat) (o:Oper):Bool:=match o.dst with | some d=>Nat.beq d i | none=>false
def wr (i:Nat):Code→Bool
 | .region _ ops _=>ops.toList.any (wrO i)
 | .seq a b=>wr i a || wr i b
 | .cond _ a b=>wr i a || wr i b
 | .block _ c=>wr i c
 | .loop c=>wr i c
 | _=>false
def Rel.eval {n:Nat} {a:Act} {e:Env} (h:Rel n a e):a.eval=ev e:=by
 funext x
 cases x <;> simp only [Act.eval,ev];exact h.get _
def Rel.put {n:Nat} {a:Act} {e:Env} (h:Rel n a e) (dst:Option Nat) (v:Value) (hd:(match dst with | some d=>decide (d < n) | none=>true)=true):Rel n (a.put dst v) (E.put e dst v):=by
 cases dst with
 | none=>exact h
 | some d =>
  have hd':d < n:=by simpa using hd
  refine ⟨h.defs,by simpa [Act.put] using h.size,fun i=>?_⟩;have hg:=h.get i;have hs:=h.size;simp only [E.put,upd,Act.put,Array.getD_eq_getD_getElem?,Array.getElem?_setIfInBounds] at hg ⊢
  by_cases hi:i=d
  ·subst hi; simp [hs,hd']
  ·simp [hi,Ne.symm hi]; simpa using hg
section
variable {P:Program} {n:Nat}
def qkG (n:Nat) (c:Code) (e:Env) (Q:Exit→Env→World→Prop) (x:Exit) (a:Act) (w:World):Prop :=
 ∃ e',Rel n a e'∧(∀ i,wr i c=false→e' i=e i)∧Q x e' w
def W (P:Program) (n:Nat) (c:Code) (Q:Exit→Env→World→Prop) (e:Env) (w:World):Prop :=
 q9E n c=true→∀ a,Rel n a e→c.wp P (qkG n c e Q) a w
def q8H (next:Env→World→Prop) (Q:Exit→Env→World→Prop):Exit→Env→World→Prop
 | .normal,e,w=>next e w
 | x,e,w=>Q x e w
def inB (id:Nat) (Q:Exit→Env→World→Prop):Exit→Env→World→Prop
 | .exit id',e,w=>if id'=id then Q .normal e w else Q (.exit id') e w
 | x,e,w=>Q x e w
def q5G {c:Code} {Q Q':Exit→Env→World→Prop} {e:Env} {w:World} (hq:∀ x e w,Q x e w→Q' x e w) (h:W P n c Q e w):W P n c Q' e w :=
 fun hd a hr=>wp_mono (h hd a hr) fun _ _ _ ⟨e',r,f,q⟩=>⟨e',r,f,hq _ _ _ q⟩
def qgm {a b:Code} {Q:Exit→Env→World→Prop} {e:Env} {w:World} (h:W P n a (q8H (W P n b Q) Q) e w):W P n (.seq a b) Q e w:=by
 intro hd act hr;simp only [q9E,Bool.and_eq_true] at hd;have key:∀ (x:Exit) (a':Act) (w':World),qkG n a e (q8H (W P n b Q) Q) x a' w'→Exit.then (b.wp P (qkG n (.seq a b) e Q)) (qkG n (.seq a b) e Q) x a' w':=by
  rintro x a' w' ⟨e',r,f,q⟩;cases x with
  | normal =>
   refine wp_mono (q hd.2 a' r) fun x2 a2 w2 ⟨e2,r2,f2,q2⟩=>⟨e2,r2,fun i hi=>?_,q2⟩;simp only [wr,Bool.or_eq_false_iff] at hi;rw [f2 i hi.2,f i hi.1]
  | _=>exact ⟨e',r,fun i hi=>f i (by simp only [wr,Bool.or_eq_false_iff] at hi; exact hi.1),q⟩
 exact wp_seq (wp_mono (h hd.1 act hr) key)
def q0B {a b:Code} {Q:Exit→Env→World→Prop} {e:Env} {w:World} (h:∀ K:Env→World→Prop,(∀ e w,W P n b Q e w→K e w)→W P n a (q8H K Q) e w):W P n (.seq a b) Q e w :=
 qgm (h _ fun _ _ h=>h)
def q02 {c:Operand} {x y:Code} {Q:Exit→Env→World→Prop} {e:Env} {w:World} {t:Bool} (hc:ev e c=.bool t) (ht:t=true→W P n x Q e w) (hf:t=false→W P n y Q e w):W P n (.cond c x y) Q e w:=by
 intro hd a hr;simp only [q9E,Bool.and_eq_true] at hd;refine wp_cond_split (t:=t) (by rw [hr.eval]; exact hc) (fun h=>?_) (fun h=>?_)
 ·exact wp_mono (ht h hd.1 a hr) fun x2 a2 w2 ⟨e2,r2,f2,q2⟩=>⟨e2,r2,fun i hi=>f2 i (by simp only [wr,Bool.or_eq_false_iff] at hi; exact hi.1),q2⟩
 ·exact wp_mono (hf h hd.2 a hr) fun x2 a2 w2 ⟨e2,r2,f2,q2⟩=>⟨e2,r2,fun i hi=>f2 i (by simp only [wr,Bool.or_eq_false_iff] at hi; exact hi.2),q2⟩
def Wt {c:Operand} {x y:Code} {Q:Exit→Env→World→Prop} {e:Env} {w:World} (ht:W P n x Q e w) (hc:ev e c=.bool true:=by exact rfl):W P n (.cond c x y) Q e w:=q02 hc (fun _=>ht) (fun h=>by cases h)
def Wf {c:Operand} {x y:Code} {Q:Exit→Env→World→Prop} {e:Env} {w:World} (ht:W P n y Q e w) (hc:ev e c=.bool false:=by exact rfl):W P n (.cond c x y) Q e w:=q02 hc (fun h=>by cases h) (fun _=>ht)
def q0X {id:Nat} {c:Code} {Q:Exit→Env→World→Prop} {e:Env} {w:World} (h:W P n c (inB id Q) e w):W P n (.block id c) Q e w:=by
 intro hd a hr;refine wp_block (wp_mono (h hd a hr) ?_);rintro x a2 w2 ⟨e2,r2,f2,q2⟩;cases x with
 | exit id' =>
  simp only [inB] at q2;simp only [Exit.inBlock]
  split
  ·rename_i hid; rw [if_pos hid] at q2; exact ⟨e2,r2,f2,q2⟩
  ·rename_i hid; rw [if_neg hid] at q2; exact ⟨e2,r2,f2,q2⟩
 | _=>exact ⟨e2,r2,f2,q2⟩
def q0G {Q:Exit→Env→World→Prop} {e:Env} {w:World} (h:Q .normal e w):W P n .skip Q e w :=
 fun _ _ hr=>wp_skip ⟨e,hr,fun _ _=>rfl,h⟩
def q04 {id:Nat} {Q:Exit→Env→World→Prop} {e:Env} {w:World} (h:Q (.exit id) e w):W P n (.exit id) Q e w :=
 fun _ _ hr=>wp_exit ⟨e,hr,fun _ _=>rfl,h⟩
def q0O {Q:Exit→Env→World→Prop} {e:Env} {w:World} (h:Q .ret e w):W P n .ret Q e w :=
 fun _ _ hr=>wp_ret ⟨e,hr,fun _ _=>rfl,h⟩
def q0a {c:Code} {Q:Exit→Env→World→Prop} {e:Env} {w:World} (I:Env→World→Prop) (μ:Env→World→Nat) (h0:I e w)
  (round:∀ e' w',I e' w'→(∀ i,wr i c=false→e' i=e i)→W P n c (q8H (fun e2 w2=>I e2 w2∧μ e2 w2 < μ e' w') Q) e' w'):W P n (.loop c) Q e w:=by
 intro hd a hr;have hd':q9E n c=true:=hd;refine wp_loop (fun a' w'=>∃ e',Rel n a' e'∧(∀ i,wr i c=false→e' i=e i)∧I e' w') (fun a' w'=>μ (fun i=>a'.tmps.getD i undef) w') ⟨e,hr,fun _ _=>rfl,h0⟩ ?_;rintro a' w' ⟨e',r',f',i'⟩;have he':(fun i=>a'.tmps.getD i undef)=e':=funext r'.get;refine wp_mono (round e' w' i' f' hd' a' r') ?_;rintro x a2 w2 ⟨e2,r2,f2,q2⟩;have he2:(fun i=>a2.tmps.getD i undef)=e2:=funext r2.get;cases x with
 | normal =>
  obtain ⟨q3,q4⟩:=q2;exact ⟨⟨e2,r2,fun i hi=>(f2 i hi).trans (f' i hi),q3⟩,by rw [he2,he']; exact q4⟩
 | _=>exact ⟨e2,r2,fun i hi=>(f2 i hi).trans (f' i hi),q2⟩
def RO (P:Program) (K:Value→World→Prop):Result Next→Prop
 | .ok (.value v) w=>K v w
 | .ok .skip w=>K undef w
 | .ok (.enter f args) w=>Calls P f args w fun x w'=>match x with | .returned v=>K v w' | _=>False
 | _=>False
def WO (P:Program) (o:Oper) (e:Env) (w:World) (K:Value→World→Prop):Prop:=RO P K ((execOp (ev e) o).run P w)
def qqA {K K':Value→World→Prop} (hk:∀ v w,K v w→K' v w) {r:Result Next} (h:RO P K r):RO P K' r:=by
 cases r with
 | ok x w =>
  cases x <;> simp only [RO] at h ⊢
  ·exact hk _ _ h
  ·exact hk _ _ h
  ·exact h.mono fun x w' hx=>by cases x <;> first | exact hk _ _ hx | exact hx
 | halt=>exact h
def qgp {o:Oper} {e:Env} {w:World} {K K':Value→World→Prop} (hk:∀ v w,K v w→K' v w) (h:WO P o e w K):WO P o e w K':=qqA hk h
def q4B (ops:Array Oper) (e:Env) (j:Nat):Option Bool :=
 match (ops[j]?).bind (·.dst) with
 | some d=>match e d with | .bool b=>some b | _=>none
 | none=>none
def q6z (ops:Array Oper) (e:Env) (o:Oper):Bool :=
 match o.guard with
 | none=>true
 | some (j,want)=>q4B ops e j == some want
def WG (P:Program) (ops:Array Oper) (o:Oper) (e:Env) (w:World) (K:Value→World→Prop):Prop :=
 if q6z ops e o then WO P o e w K else K undef w
def q4w {ops:Array Oper} {o:Oper} {e:Env} {w:World} {K K':Value→World→Prop} (hk:∀ v w,K v w→K' v w) (h:WG P ops o e w K):WG P ops o e w K':=by
 unfold WG at *; split
 ·rename_i hw; rw [if_pos hw] at h; exact qgp hk h
 ·rename_i hw; rw [if_neg hw] at h; exact hk _ _ h
def WL (P:Program) (ops:Array Oper) (K:Env→World→Prop):List Oper→Env→World→Prop
 | [],e,w=>K e w
 | o :: rest,e,w=>WG P ops o e w fun v w'=>WL P ops K rest (put e o.dst v) w'
def qhN {ops:Array Oper} {a:Act} {e:Env} (hr:Rel n a e) (hd:ops.toList.all (q3z n)=true) (j:Nat):yielded ops a.tmps j=q4B ops e j:=by
 unfold yielded q4B;cases hj:ops[j]? with
 | none=>simp
 | some o =>
  have ho:q3z n o=true:=by
   rw [List.all_eq_true] at hd;exact hd o (Array.mem_toList_iff.2 (Array.mem_of_getElem? hj))
  simp only [Option.bind_some];unfold q3z at ho;cases hdst:o.dst with
  | none=>simp
  | some d =>
   rw [hdst] at ho;have hlt:d < a.tmps.size:=by rw [hr.size]; simpa using ho
   have hg:=hr.get d;simp only [Option.bind_some,Array.getElem?_eq_getElem hlt];have hv:a.tmps[d]=e d:=by rw [← hg,Array.getD_eq_getD_getElem?,Array.getElem?_eq_getElem hlt]; rfl
   rw [hv];cases e d <;> rfl
def q2l {ops:Array Oper} {a:Act} {e:Env} (hr:Rel n a e) (hd:ops.toList.all (q3z n)=true) (o:Oper):Region.wanted o (yielded ops a.tmps)=q6z ops e o:=by
 unfold Region.wanted q6z;cases o.guard with
 | none=>rfl
 | some g=>obtain ⟨j,want⟩:=g; simp only [qhN hr hd j]
def q2O {o:Oper} {a:Act} {e:Env} {w:World} {K:Value→World→Prop} {K':Act→World→Prop} {Q:Exit→Act→World→Prop} (hr:Rel n a e) (h:WO P o e w K) (hk:∀ v w',K v w'→K' (a.put o.dst v) w'):o.wp P a w K' Q:=by
 unfold Oper.wp;rw [hr.eval];unfold WO at h;generalize (execOp (ev e) o).run P w=r at *;cases r with
 | ok x w' =>
  cases x <;> simp only [RO] at h <;> simp only [Oper.upon]
  ·exact hk _ _ h
  ·exact hk _ _ h
  ·refine h.mono fun x w'' hx=>?_;cases x with
   | returned v=>exact hk _ _ hx
   | _=>exact hx.elim
 | halt=>exact h.elim
def q5A {ops:Array Oper} {K:Env→World→Prop} {Q:Exit→Act→World→Prop} (hd:ops.toList.all (q3z n)=true):∀ (l:List Oper),(∀ o ∈ l,q3z n o=true)→∀ (a:Act) (e:Env) (w:World),
  Rel n a e→(∀ (a':Act) (e':Env) (w':World),Rel n a' e'→(∀ i,l.any (wrO i)=false→e' i=e i)→K e' w'→Q .normal a' w')→WL P ops K l e w→wpList P ops Q l a w
 | [],_,a,e,w,hr,hq,h=>hq a e w hr (fun _ _=>rfl) h
 | o :: rest,hl,a,e,w,hr,hq,h=>by
  have hdo:=hl o List.mem_cons_self;have hput:∀ v,Rel n (a.put o.dst v) (put e o.dst v):=fun v=>hr.put o.dst v (by unfold q3z at hdo; cases hx:o.dst <;> simp_all);have hrec:∀ v w',WL P ops K rest (put e o.dst v) w'→wpList P ops Q rest (a.put o.dst v) w':=fun v w' hw=>by
   refine q5A hd rest (fun o ho=>hl o (List.mem_cons_of_mem _ ho)) _ _ _ (hput v) (fun a' e' w'' r' f' k'=>hq a' e' w'' r' (fun i hi=>?_) k') hw;simp only [List.any_cons,Bool.or_eq_false_iff] at hi;rw [f' i hi.2];unfold wrO at hi;cases hx:o.dst with
   | none=>rfl
   | some d =>
    rw [hx] at hi;have hne:i≠d:=fun he=>by subst he; simp at hi
    simp [put,upd,hne]
  simp only [WL,WG] at h;unfold wpList;rw [q2l hr hd o]
  split
  ·rename_i hw;rw [if_pos hw] at h;exact .inl (q2O hr h hrec)
  ·rename_i hw;rw [if_neg hw] at h;exact hrec _ _ h
def q5g {id:Nat} {ops:Array Oper} {Q:Exit→Env→World→Prop} {e:Env} {w:World} (h:WL P ops (Q .normal) ops.toList e w):W P n (.region id ops false) Q e w:=by
 intro hd a hr;have hd':ops.toList.all (q3z n)=true:=hd;refine wp_region_list (q5A hd' ops.toList (fun o ho=>by rw [List.all_eq_true] at hd'; exact hd' o ho) a e w hr ?_ h);intro a' e' w' r' f' k';exact ⟨e',r',f',k'⟩
end
structure Pre (R:World→World→Prop):Prop where
 refl:∀ w,R w w
 trans:∀ {a b c},R a b→R b c→R a c
 drew:∀ w k,R w { w with drawn:=k }
abbrev q1D (R:World→World→Prop):={ p:Value→World→Prop // ∀ v w w',R w w'→p v w→p v w' }
section
variable {R:World→World→Prop}
def is (v:Value):q1D R:=⟨fun x _=>x=v,fun _ _ _ _ h=>h⟩
def anyV:q1D R:=⟨fun _ _=>True,fun _ _ _ _ h=>h⟩
def look:List (Nat × q1D R)→Nat→q1D R
 | [],_=>anyV
 | (k,p) :: l,t=>if k=t then p else look l t
end
def q0q (o:Oper) (j:Nat):Bool:=o.after.toList.any fun e=>Region.binds .any e && Nat.beq e.on j
def qof (ops:List Oper) (j t:Nat):Bool:=match (ops[j]?).bind (·.dst) with | some d=>Nat.beq d t | none=>false
def q1g (ops:Array Oper) (o:Oper) (t:Nat):Bool:=(o.looksAt ops).any (Nat.beq t)
def dep (ops:Array Oper) (o:Oper) (t:Nat):Bool:=(List.range ops.size).any fun j=>q0q o j && qof ops.toList j t
def q26 (ops:Array Oper) (t:Nat):Bool:=ops.toList.any (wrO t)
def q2I (ops:Array Oper):Bool :=
 (List.range ops.size).all fun i=>match ops.toList[i]? with
  | none=>true
  | some o=>(o.after.toList.all fun e=>!Region.binds .any e || decide (e.on < i)) &&
   (match o.op with | .select _ _=>false | _=>true) &&
   (List.range ops.size).all fun j=>match ops.toList[j]? with
    | none=>true
    | some p=>Nat.beq i j || ((match o.dst,p.dst with | some d,some d'=>!Nat.beq d d' | _,_=>true) &&
      (match p.dst with | some d=>!q1g ops o d || q0q o j || q0q p i | none=>true))
section
variable {P:Program} {n:Nat} {R:World→World→Prop}
def q3l (P:Program) (ops:Array Oper) (R:World→World→Prop) (l:List (Nat × q1D R)) (e:Env) (w:World) (o:Oper):Prop :=
 ∀ e' w',R w w'→(∀ t,dep ops o t=true→(look l t).1 (e' t) w')→(∀ t,q1g ops o t=true→dep ops o t=false→e' t=e t) →
  WG P ops o e' w' fun v w''=>R w' w''∧∀ d,o.dst=some d→(look l d).1 v w''
def q2N (P:Program) (ops:Array Oper) (R:World→World→Prop) (l:List (Nat × q1D R)) (e:Env) (w:World):List Oper→Prop
 | []=>True
 | o :: rest=>q3l P ops R l e w o∧q2N P ops R l e w rest
def q2N.get {ops:Array Oper} {l:List (Nat × q1D R)} {e:Env} {w:World}:∀ {os:List Oper},q2N P ops R l e w os→∀ o ∈ os,q3l P ops R l e w o:=by
 intro os
 induction os with
 | nil=>intro _ o ho; cases ho
 | cons a rest ih =>
  intro h x hx
  rcases List.mem_cons.1 hx with hx | hx
  ·rw [hx]; exact h.1
  ·exact ih h.2 x hx
structure DInv (ops:Array Oper) (n:Nat) (R:World→World→Prop) (l:List (Nat × q1D R)) (e:Env) (w:World) (listed:Array Bool) (a:Act) (e':Env) (w':World):Prop where
 size:listed.size=ops.size
 rel:Rel n a e'
 world:R w w'
 done:∀ (i:Nat) (o:Oper) (d:Nat),ops[i]?=some o→listed.getD i true=true→o.dst=some d→(look l d).1 (e' d) w'
 old:∀ (t:Nat),(∀ (i:Nat) (o:Oper),ops[i]?=some o→listed.getD i true=true→o.dst≠some t)→e' t=e t
 closed:∀ (i:Nat) (o:Oper) (x:Edge),ops[i]?=some o→listed.getD i true=true→x ∈ o.after→Region.binds .any x=true→listed.getD x.on false=true
def q0c {o:Oper} {j:Nat}:q0q o j=true ↔ ∃ x ∈ o.after,Region.binds .any x=true∧x.on=j:=by
 unfold q0q;simp only [List.any_eq_true,Bool.and_eq_true,Nat.beq_eq,Array.mem_toList_iff]
def q3o {o:Oper} {t:Nat}:wrO t o=true ↔ o.dst=some t:=by
 unfold wrO; cases o.dst <;> simp
def q1l {ops:Array Oper} {t:Nat} (h:q26 ops t=false) (i:Nat) (o:Oper) (ho:ops[i]?=some o):o.dst≠some t:=by
 intro hd;have:q26 ops t=true:=by
  unfold q26; rw [List.any_eq_true];exact ⟨o,Array.mem_toList_iff.2 (Array.mem_of_getElem? ho),q3o.2 hd⟩
 rw [h] at this; cases this
def q3V {ops:Array Oper} {o:Oper} {t:Nat}:dep ops o t=true ↔ ∃ j p,ops[j]?=some p∧q0q o j=true∧p.dst=some t:=by
 unfold dep;simp only [List.any_eq_true,List.mem_range,Bool.and_eq_true]
 constructor
 ·rintro ⟨j,hj,he,hd⟩;unfold qof at hd;rw [Array.getElem?_toList] at hd;cases hp:ops[j]? with
  | none=>rw [hp] at hd; simp at hd
  | some p =>
   rw [hp] at hd;cases hx:p.dst with
   | none=>simp [hx] at hd
   | some d=>simp [hx] at hd; exact ⟨j,p,hp,he,by rw [hx,hd]⟩
 ·rintro ⟨j,p,hp,he,hd⟩;refine ⟨j,(Array.getElem?_eq_some_iff.1 hp).1,he,?_⟩;unfold qof;rw [Array.getElem?_toList,hp];simp [hd]
structure DOk (ops:Array Oper):Prop where
 down:∀ (i:Nat) (o:Oper) (x:Edge),ops[i]?=some o→x ∈ o.after→Region.binds .any x=true→x.on < i
 one:∀ (i j:Nat) (o p:Oper) (d:Nat),ops[i]?=some o→ops[j]?=some p→i≠j→o.dst=some d→p.dst≠some d
 seen:∀ (i j:Nat) (o p:Oper) (d:Nat),ops[i]?=some o→ops[j]?=some p→i≠j→p.dst=some d→q1g ops o d=true→q0q o j=true∨q0q p i=true
def DOk.of {ops:Array Oper} (h:q2I ops=true):DOk ops:=by
 unfold q2I at h;rw [List.all_eq_true] at h;have h1:∀ i o,ops[i]?=some o→_:=fun i o ho=>h i (List.mem_range.2 (Array.getElem?_eq_some_iff.1 ho).1);refine ⟨fun i o x ho hx hb=>?_,fun i j o p d ho hp hne hd hd'=>?_,fun i j o p d ho hp hne hd hl=>?_⟩
 ·have:=h1 i o ho;rw [Array.getElem?_toList,ho] at this;simp only [Bool.and_eq_true,List.all_eq_true] at this;have:=this.1.1 x (Array.mem_toList_iff.2 hx);simpa [hb] using this
 ·have:=h1 i o ho;rw [Array.getElem?_toList,ho] at this;simp only [Bool.and_eq_true,List.all_eq_true] at this;have:=this.2 j (List.mem_range.2 (Array.getElem?_eq_some_iff.1 hp).1);rw [Array.getElem?_toList,hp] at this;simp [hd,hd',hne] at this
 ·have:=h1 i o ho;rw [Array.getElem?_toList,ho] at this;simp only [Bool.and_eq_true,List.all_eq_true] at this;have:=this.2 j (List.mem_range.2 (Array.getElem?_eq_some_iff.1 hp).1);rw [Array.getElem?_toList,hp] at this;simp only [hd,hl,Bool.or_eq_true,Nat.beq_eq,Bool.and_eq_true] at this
  rcases this with this | ⟨_,this⟩
  ·exact absurd this hne
  ·simpa using this
def q0H {listed:Array Bool} {i j:Nat} (hi:i < listed.size) {b:Bool}:(listed.setIfInBounds i true).getD j b=if i=j then true else listed.getD j b:=by
 simp only [Array.getD_eq_getD_getElem?,Array.getElem?_setIfInBounds]
 by_cases h:i=j
 ·subst h; simp [hi]
 ·simp [h]
def qj4 {ops:Array Oper} {l:List (Nat × q1D R)} {e:Env} {w:World} {Q:Exit→Act→World→Prop} (hR:Pre R) (hok:DOk ops) (hd:ops.toList.all (q3z n)=true)
  (steps:∀ o ∈ ops.toList,q3l P ops R l e w o)
  (hQ:∀ a e' w',Rel n a e'→R w w'→(∀ t,q26 ops t=true→(look l t).1 (e' t) w')→(∀ t,q26 ops t=false→e' t=e t)→Q .normal a w') :
  ∀ (fuel:Nat) (listed:Array Bool) (a:Act) (e':Env) (w':World),ops.size≤fuel+(List.range ops.size).countP (fun i=>listed.getD i true)→DInv ops n R l e w listed a e' w'→wpAny P .any ops Q fuel listed a w':=by
 have hend:∀ (listed:Array Bool) (a:Act) (e':Env) (w':World),DInv ops n R l e w listed a e' w'→Region.ready .any ops listed=[]→Q .normal a w':=by
  intro listed a e' w' I hnil;have hall:∀ i,i < ops.size→listed.getD i true=true:=by
   intro i
   induction i using Nat.strongRecOn with
   | _ i ih =>
    intro hi;cases hb:listed.getD i true with
    | true=>rfl
    | false =>
     have:i ∈ Region.ready .any ops listed:=by
      unfold Region.ready;rw [List.mem_filter];refine ⟨List.mem_range.2 hi,?_⟩;simp only [hb,Bool.not_false,Bool.true_and,Array.getElem?_eq_getElem hi,Option.map_some,Option.getD_some];rw [Array.all_eq_true'];intro x hx;cases hbx:Region.binds .any x with
      | false=>rfl
      | true =>
       have hlt:=hok.down i ops[i] x (Array.getElem?_eq_getElem hi) hx hbx;have:=ih x.on hlt Oq;have hlt2:x.on < listed.size:=by rw [I.size]; omega
       simp only [Array.getD_eq_getD_getElem?,Array.getElem?_eq_getElem hlt2,Option.getD_some] at this ⊢;simp [this]
     rw [hnil] at this; cases this
  refine hQ a e' w' I.rel I.world (fun t ht=>?_) (fun t ht=>?_)
  ·unfold q26 at ht;rw [List.any_eq_true] at ht;obtain ⟨o,ho,hw⟩:=ht;obtain ⟨i,hi,hio⟩:=Array.getElem_of_mem (Array.mem_toList_iff.1 ho);exact I.done i o t (by rw [Array.getElem?_eq_getElem hi,hio]) (hall i hi) (q3o.1 hw)
  ·exact I.old t fun i o ho _=>q1l ht i o ho
 intro fuel
 induction fuel with
 | zero =>
  intro listed a e' w' hf I;have hall:∀ i,i < ops.size→listed.getD i true=true:=by
   have hle:(List.range ops.size).countP (fun i=>listed.getD i true)=(List.range ops.size).length:=by
    have:=List.countP_le_length (p:=fun i=>listed.getD i true) (l:=List.range ops.size);simp only [List.length_range] at this ⊢; omega
   rw [List.countP_eq_length] at hle;exact fun i hi=>hle i (List.mem_range.2 hi)
  have hnil:Region.ready .any ops listed=[]:=by
   unfold Region.ready;rw [List.filter_eq_nil_iff];intro i hi;simp [hall i (List.mem_range.1 hi)]
  exact ⟨hnil,hend _ _ _ _ I hnil⟩
 | succ fuel ih =>
  intro listed a e' w' hf I;refine ⟨hend _ _ _ _ I,fun i hi=>?_⟩;unfold Region.ready at hi;rw [List.mem_filter] at hi;obtain ⟨hir,hrd⟩:=hi;have hlt:=List.mem_range.1 hir;have hio:ops[i]?=some ops[i]:=Array.getElem?_eq_getElem hlt;simp only [hio,Option.map_some,Option.getD_some,Bool.and_eq_true] at hrd;obtain ⟨hnl,haf⟩:=hrd;have hnl':listed.getD i true=false:=by simpa using hnl
  rw [Array.all_eq_true'] at haf;have haf':∀ x ∈ ops[i].after,Region.binds .any x=true→listed.getD x.on false=true:=fun x hx hb=>by
   have:=haf x hx;simpa [hb] using this
  have hmem:ops[i] ∈ ops.toList:=by simp
  have hdo:q3z n ops[i]=true:=by rw [List.all_eq_true] at hd; exact hd _ hmem
  have hstep:=steps _ hmem e' w' I.world (fun t ht=>by
   obtain ⟨j,p,hp,he,hpd⟩:=q3V.1 ht;obtain ⟨x,hx,hb,rfl⟩:=q0c.1 he;have hl:=haf' x hx hb;have hxl:x.on < listed.size:=by rw [I.size]; exact (Array.getElem?_eq_some_iff.1 hp).1
   exact I.done x.on p t hp (by simp only [Array.getD_eq_getD_getElem?,Array.getElem?_eq_getElem hxl,Option.getD_some] at hl ⊢; exact hl) hpd) (fun t ht hnd=>by
   refine I.old t fun j p hp hl hpd=>?_
   by_cases hij:i=j
   ·subst hij; rw [hnl'] at hl; cases hl
   ·rcases hok.seen i j ops[i] p t hio hp hij hpd ht with h | h
    ·have:dep ops ops[i] t=true:=q3V.2 ⟨j,p,hp,h,hpd⟩;rw [hnd] at this; cases this
    ·obtain ⟨x,hx,hb,hxo⟩:=q0c.1 h;have:=I.closed j p x hp hl hx hb;rw [hxo] at this;have hxl:i < listed.size:=by rw [I.size]; exact hlt
     simp only [Array.getD_eq_getD_getElem?,Array.getElem?_eq_getElem hxl,Option.getD_some] at this hnl';rw [this] at hnl'; cases hnl')
  have hcount:ops.size≤fuel+(List.range ops.size).countP (fun j=>(listed.setIfInBounds i true).getD j true):=by
   have hli:i < listed.size:=by rw [I.size]; exact hlt
   have:(List.range ops.size).countP (fun j=>listed.getD j true)+1≤(List.range ops.size).countP (fun j=>(listed.setIfInBounds i true).getD j true):=by
    have hsplit:List.range ops.size=List.range i ++ i :: (List.range' (i+1) (ops.size-i-1)):=by
     rw [List.range_eq_range',List.range_eq_range',show ops.size=i+(1+(ops.size-i-1)) by omega,← List.range'_append_1,Nat.zero_add]
     congr 1
     rw [show i+(1+(ops.size-i-1))-i-1=ops.size-i-1 by omega,Nat.add_comm 1,List.range'_succ]
    rw [hsplit,List.countP_append,List.countP_append,List.countP_cons,List.countP_cons];have hmono:∀ (L:List Nat),L.countP (fun j=>listed.getD j true)≤L.countP (fun j=>(listed.setIfInBounds i true).getD j true):=by
     intro L;refine List.countP_mono_left (fun j _ hj=>?_);rw [q0H hli]
     split
     ·rfl
     ·exact hj
    have h1:=hmono (List.range i);have h2:=hmono (List.range' (i+1) (ops.size-i-1));simp only [hnl',q0H hli,if_true,if_false,Bool.false_eq_true] at h1 h2 ⊢;omega
   omega
  have hnext:∀ v w'',R w' w''→(∀ d,ops[i].dst=some d→(look l d).1 v w'')→wpAny P .any ops Q fuel (listed.setIfInBounds i true) (a.put ops[i].dst v) w'':=by
   intro v w'' hr hv;have hli:i < listed.size:=by rw [I.size]; exact hlt
   refine ih _ _ (put e' ops[i].dst v) w'' hcount ⟨by simpa using I.size,I.rel.put _ v (by unfold q3z at hdo; cases hx:ops[i].dst <;> simp_all),hR.trans I.world hr,?_,?_,?_⟩
   ·intro j p d hp hl hpd;rw [q0H hli] at hl
    by_cases hij:i=j
    ·subst hij;have:p=ops[i]:=Option.some.inj (hp.symm.trans hio);subst this;rw [hpd];simp only [put,upd,if_true];exact hv d hpd
    ·rw [if_neg hij] at hl;have h0:=I.done j p d hp hl hpd;have hne:ops[i].dst≠some d:=fun hx=>hok.one i j ops[i] p d hio hp hij hx hpd;have:put e' ops[i].dst v d=e' d:=by
      cases hx:ops[i].dst with
      | none=>rfl
      | some d' =>
       have:d≠d':=fun h=>hne (by rw [hx,h]);simp [put,upd,this]
     rw [this];exact (look l d).2 _ _ _ hr h0
   ·intro t ht;have h0:=ht i ops[i] hio (by rw [q0H hli]; simp);have:put e' ops[i].dst v t=e' t:=by
     cases hx:ops[i].dst with
     | none=>rfl
     | some d' =>
      have:t≠d':=fun h=>h0 (by rw [hx,h]);simp [put,upd,this]
    rw [this];exact I.old t fun j p hp hl=>ht j p hp (by
     rw [q0H hli]; split
     ·rfl
     ·exact hl)
   ·intro j p x hp hl hx hb;rw [q0H hli] at hl ⊢
    by_cases hij:i=j
    ·subst hij;have:p=ops[i]:=Option.some.inj (hp.symm.trans hio);subst this
     split
     ·rfl
     ·exact haf' x hx hb
    ·rw [if_neg hij] at hl
     split
     ·rfl
     ·exact I.closed j p x hp hl hx hb
  unfold wpOp;simp only [hio];rw [q2l I.rel hd];unfold WG at hstep
  split
  ·rename_i hw;rw [if_pos hw] at hstep;exact .inl (q2O I.rel hstep fun v w'' ⟨h1,h2⟩=>hnext v w'' h1 h2)
  ·rename_i hw;rw [if_neg hw] at hstep;exact hnext _ _ hstep.1 hstep.2
def qfx {ops:Array Oper} {l:List (Nat × q1D R)} {e:Env} {w:World} {Q:Exit→Act→World→Prop} (hR:Pre R) (hok:DOk ops) (hd:ops.toList.all (q3z n)=true)
  {m:Nat} {last:Oper} (hm:ops[m]?=some last) (hsz:ops.size=m+1) (hlast:∀ j,j < m→q0q last j=true)
  (steps:∀ i o,ops[i]?=some o→i≠m→q3l P ops R l e w o) {K:Env→World→Prop}
  (hL:∀ e' w',R w w'→(∀ i o t,ops[i]?=some o→i≠m→o.dst=some t→(look l t).1 (e' t) w')→(∀ t,(∀ i o,ops[i]?=some o→i≠m→o.dst≠some t)→e' t=e t)→WG P ops last e' w' fun v w''=>K (put e' last.dst v) w'')
  (hQ:∀ a e' w',Rel n a e'→(∀ t,q26 ops t=false→e' t=e t)→K e' w'→Q .normal a w') :
  ∀ (fuel:Nat) (listed:Array Bool) (a:Act) (e':Env) (w':World),listed.getD m true=false→ops.size≤fuel+(List.range ops.size).countP (fun i=>listed.getD i true)→DInv ops n R l e w listed a e' w'→wpAny P .any ops Q fuel listed a w':=by
 have hmin:∀ (listed:Array Bool),listed.size=ops.size→Region.ready .any ops listed=[]→∀ i,i < ops.size→listed.getD i true=true:=by
  intro listed hsize hnil i
  induction i using Nat.strongRecOn with
  | _ i ih =>
   intro hi;cases hb:listed.getD i true with
   | true=>rfl
   | false =>
    have:i ∈ Region.ready .any ops listed:=by
     unfold Region.ready;rw [List.mem_filter];refine ⟨List.mem_range.2 hi,?_⟩;simp only [hb,Bool.not_false,Bool.true_and,Array.getElem?_eq_getElem hi,Option.map_some,Option.getD_some];rw [Array.all_eq_true'];intro x hx;cases hbx:Region.binds .any x with
     | false=>rfl
     | true =>
      have hlt:=hok.down i ops[i] x (Array.getElem?_eq_getElem hi) hx hbx;have:=ih x.on hlt Oq;have hlt2:x.on < listed.size:=by omega
      simp only [Array.getD_eq_getD_getElem?,Array.getElem?_eq_getElem hlt2,Option.getD_some] at this ⊢;simp [this]
    rw [hnil] at this; cases this
 have hend:∀ (listed:Array Bool) (a:Act) (e':Env) (w':World),listed.getD m true=false→DInv ops n R l e w listed a e' w'→Region.ready .any ops listed=[]→Q .normal a w':=by
  intro listed a e' w' hml I hnil;have:=hmin listed I.size hnil m Oq;rw [hml] at this; cases this
 have hdone:∀ (fuel:Nat) (listed:Array Bool) (a:Act) (w':World),(∀ i,i < ops.size→listed.getD i true=true)→Q .normal a w'→wpAny P .any ops Q fuel listed a w':=by
  intro fuel listed a w' hall hq;have hnil:Region.ready .any ops listed=[]:=by
   unfold Region.ready;rw [List.filter_eq_nil_iff];intro i hi;simp [hall i (List.mem_range.1 hi)]
  cases fuel with
  | zero=>exact ⟨hnil,hq⟩
  | succ f=>exact ⟨fun _=>hq,fun i hi=>by rw [hnil] at hi; cases hi⟩
 intro fuel
 induction fuel with
 | zero =>
  intro listed a e' w' hml hf I;have hle:(List.range ops.size).countP (fun i=>listed.getD i true)=(List.range ops.size).length:=by
   have:=List.countP_le_length (p:=fun i=>listed.getD i true) (l:=List.range ops.size);simp only [List.length_range] at this ⊢; omega
  rw [List.countP_eq_length] at hle;have:=hle m (List.mem_range.2 Oq);rw [hml] at this; cases this
 | succ fuel ih =>
  intro listed a e' w' hml hf I;refine ⟨hend _ _ _ _ hml I,fun i hi=>?_⟩;unfold Region.ready at hi;rw [List.mem_filter] at hi;obtain ⟨hir,hrd⟩:=hi;have hlt:=List.mem_range.1 hir;have hio:ops[i]?=some ops[i]:=Array.getElem?_eq_getElem hlt;simp only [hio,Option.map_some,Option.getD_some,Bool.and_eq_true] at hrd;obtain ⟨hnl,haf⟩:=hrd;have hnl':listed.getD i true=false:=by simpa using hnl
  rw [Array.all_eq_true'] at haf;have haf':∀ x ∈ ops[i].after,Region.binds .any x=true→listed.getD x.on false=true:=fun x hx hb=>by
   have:=haf x hx;simpa [hb] using this
  have hmem:ops[i] ∈ ops.toList:=by simp
  have hdo:q3z n ops[i]=true:=by rw [List.all_eq_true] at hd; exact hd _ hmem
  by_cases him:i=m
  ·subst him;have hlo:ops[i]=last:=Option.some.inj (hio.symm.trans hm);have hli:i < listed.size:=by rw [I.size]; exact hlt
   have hall:∀ j,j < ops.size→j≠i→listed.getD j true=true:=fun j hj hji=>by
    obtain ⟨x,hx,hb,hxo⟩:=q0c.1 (hlast j Oq);have:=haf' x (by rw [hlo]; exact hx) hb;rw [hxo] at this;have hjl:j < listed.size:=by rw [I.size]; exact hj
    simp only [Array.getD_eq_getD_getElem?,Array.getElem?_eq_getElem hjl,Option.getD_some] at this ⊢;exact this
   have hstep:=hL e' w' I.world (fun j o t ho hji hot=>I.done j o t ho (hall j (Array.getElem?_eq_some_iff.1 ho).1 hji) hot) (fun t ht=>I.old t fun j o ho hl=>by
    by_cases hji:j=i
    ·subst hji; rw [hnl'] at hl; cases hl
    ·exact ht j o ho hji)
   have hfin:∀ v w'',K (put e' last.dst v) w''→wpAny P .any ops Q fuel (listed.setIfInBounds i true) (a.put ops[i].dst v) w'':=fun v w'' hk=>by
    refine hdone _ _ _ _ (fun j hj=>?_) (hQ _ (put e' last.dst v) w'' (by rw [hlo]; exact I.rel.put _ v (by unfold q3z at hdo; rw [hlo] at hdo; cases hx:last.dst <;> simp_all)) (fun t ht=>?_) hk)
    ·rw [q0H hli]
     split
     ·rfl
     ·rename_i hne; exact hall j hj (fun h=>hne h.symm)
    ·have h0:=q1l ht i last hm;have:put e' last.dst v t=e' t:=by
      cases hx:last.dst with
      | none=>rfl
      | some d' =>
       have:t≠d':=fun h=>h0 (by rw [hx,h]);simp [put,upd,this]
     rw [this];exact I.old t fun j o ho _=>q1l ht j o ho
   unfold wpOp;simp only [hio];rw [q2l I.rel hd,hlo];unfold WG at hstep
   split
   ·rename_i hw;rw [if_pos hw] at hstep;exact .inl (q2O I.rel hstep fun v w'' hk=>by rw [← hlo]; exact hfin v w'' hk)
   ·rename_i hw;rw [if_neg hw] at hstep;have:=hfin _ _ hstep
    rwa [hlo] at this
  have hstep:=steps i _ hio him e' w' I.world (fun t ht=>by
   obtain ⟨j,p,hp,he,hpd⟩:=q3V.1 ht;obtain ⟨x,hx,hb,rfl⟩:=q0c.1 he;have hl:=haf' x hx hb;have hxl:x.on < listed.size:=by rw [I.size]; exact (Array.getElem?_eq_some_iff.1 hp).1
   exact I.done x.on p t hp (by simp only [Array.getD_eq_getD_getElem?,Array.getElem?_eq_getElem hxl,Option.getD_some] at hl ⊢; exact hl) hpd) (fun t ht hnd=>by
   refine I.old t fun j p hp hl hpd=>?_
   by_cases hij:i=j
   ·subst hij; rw [hnl'] at hl; cases hl
   ·rcases hok.seen i j ops[i] p t hio hp hij hpd ht with h | h
    ·have:dep ops ops[i] t=true:=q3V.2 ⟨j,p,hp,h,hpd⟩;rw [hnd] at this; cases this
    ·obtain ⟨x,hx,hb,hxo⟩:=q0c.1 h;have:=I.closed j p x hp hl hx hb;rw [hxo] at this;have hxl:i < listed.size:=by rw [I.size]; exact hlt
     simp only [Array.getD_eq_getD_getElem?,Array.getElem?_eq_getElem hxl,Option.getD_some] at this hnl';rw [this] at hnl'; cases hnl')
  have hcount:ops.size≤fuel+(List.range ops.size).countP (fun j=>(listed.setIfInBounds i true).getD j true):=by
   have hli:i < listed.size:=by rw [I.size]; exact hlt
   have:(List.range ops.size).countP (fun j=>listed.getD j true)+1≤(List.range ops.size).countP (fun j=>(listed.setIfInBounds i true).getD j true):=by
    have hsplit:List.range ops.size=List.range i ++ i :: (List.range' (i+1) (ops.size-i-1)):=by
     rw [List.range_eq_range',List.range_eq_range',show ops.size=i+(1+(ops.size-i-1)) by omega,← List.range'_append_1,Nat.zero_add]
     congr 1
     rw [show i+(1+(ops.size-i-1))-i-1=ops.size-i-1 by omega,Nat.add_comm 1,List.range'_succ]
    rw [hsplit,List.countP_append,List.countP_append,List.countP_cons,List.countP_cons];have hmono:∀ (L:List Nat),L.countP (fun j=>listed.getD j true)≤L.countP (fun j=>(listed.setIfInBounds i true).getD j true):=by
     intro L;refine List.countP_mono_left (fun j _ hj=>?_);rw [q0H hli]
     split
     ·rfl
     ·exact hj
    have h1:=hmono (List.range i);have h2:=hmono (List.range' (i+1) (ops.size-i-1));simp only [hnl',q0H hli,if_true,if_false,Bool.false_eq_true] at h1 h2 ⊢;omega
   omega
  have hnext:∀ v w'',R w' w''→(∀ d,ops[i].dst=some d→(look l d).1 v w'')→wpAny P .any ops Q fuel (listed.setIfInBounds i true) (a.put ops[i].dst v) w'':=by
   intro v w'' hr hv;have hli:i < listed.size:=by rw [I.size]; exact hlt
   refine ih _ _ (put e' ops[i].dst v) w'' (by rw [q0H hli,if_neg him]; exact hml) hcount ⟨by simpa using I.size,I.rel.put _ v (by unfold q3z at hdo; cases hx:ops[i].dst <;> simp_all),hR.trans I.world hr,?_,?_,?_⟩
   ·intro j p d hp hl hpd;rw [q0H hli] at hl
    by_cases hij:i=j
    ·subst hij;have:p=ops[i]:=Option.some.inj (hp.symm.trans hio);subst this;rw [hpd];simp only [put,upd,if_true];exact hv d hpd
    ·rw [if_neg hij] at hl;have h0:=I.done j p d hp hl hpd;have hne:ops[i].dst≠some d:=fun hx=>hok.one i j ops[i] p d hio hp hij hx hpd;have:put e' ops[i].dst v d=e' d:=by
      cases hx:ops[i].dst with
      | none=>rfl
      | some d' =>
       have:d≠d':=fun h=>hne (by rw [hx,h]);simp [put,upd,this]
     rw [this];exact (look l d).2 _ _ _ hr h0
   ·intro t ht;have h0:=ht i ops[i] hio (by rw [q0H hli]; simp);have:put e' ops[i].dst v t=e' t:=by
     cases hx:ops[i].dst with
     | none=>rfl
     | some d' =>
      have:t≠d':=fun h=>h0 (by rw [hx,h]);simp [put,upd,this]
    rw [this];exact I.old t fun j p hp hl=>ht j p hp (by
     rw [q0H hli]; split
     ·rfl
     ·exact hl)
   ·intro j p x hp hl hx hb;rw [q0H hli] at hl ⊢
    by_cases hij:i=j
    ·subst hij;have:p=ops[i]:=Option.some.inj (hp.symm.trans hio);subst this
     split
     ·rfl
     ·exact haf' x hx hb
    ·rw [if_neg hij] at hl
     split
     ·rfl
     ·exact I.closed j p x hp hl hx hb
  unfold wpOp;simp only [hio];rw [q2l I.rel hd];unfold WG at hstep
  split
  ·rename_i hw;rw [if_pos hw] at hstep;exact .inl (q2O I.rel hstep fun v w'' ⟨h1,h2⟩=>hnext v w'' h1 h2)
  ·rename_i hw;rw [if_neg hw] at hstep;exact hnext _ _ hstep.1 hstep.2
def qvW {id:Nat} {ops:Array Oper} {Q:Exit→Env→World→Prop} {e:Env} {w:World} (hm:P.follows .mixedOrders=true) (hR:Pre R) (l:List (Nat × q1D R)) (hok:q2I ops=true)
  (steps:q2N P ops R l e w ops.toList)
  (hQ:∀ e' w',R w w'→(∀ t,q26 ops t=true→(look l t).1 (e' t) w')→(∀ t,q26 ops t=false→e' t=e t)→Q .normal e' w') :
  W P n (.region id ops true) Q e w:=by
 intro hd a hr;have hd':ops.toList.all (q3z n)=true:=hd;have hst:∀ o ∈ ops.toList,q3l P ops R l e { w with drawn:=w.drawn+1 } o:=fun o ho e' w' hw h1 h2=>steps.get o ho e' w' (hR.trans (hR.drew w _) hw) h1 h2;refine wp_region_any hm (qj4 (n:=n) (e:=e) hR (DOk.of hok) hd' hst ?_ ops.size _ a e _ Oq ⟨by simp,hr,hR.refl _,?_,fun _ _=>rfl,?_⟩)
 ·intro a' e' w' r' h1 h2 h3;exact ⟨e',r',h3,hQ e' w' (hR.trans (hR.drew w _) h1) h2 h3⟩
 ·intro i o d ho hl;have hlt:=(Array.getElem?_eq_some_iff.1 ho).1;simp [Array.getD_eq_getD_getElem?,hlt] at hl
 ·intro i o x ho hl;have hlt:=(Array.getElem?_eq_some_iff.1 ho).1;simp [Array.getD_eq_getD_getElem?,hlt] at hl
def qpw {id:Nat} {ops:Array Oper} {Q:Exit→Env→World→Prop} {e:Env} {w:World} (hm:P.follows .mixedOrders=true) (hR:Pre R) (l:List (Nat × q1D R)) (init:List Oper) (last:Oper) (hops:ops.toList=init ++ [last])
  (hok:(q2I ops && (List.range init.length).all fun j=>q0q last j)=true)
  (steps:q2N P ops R l e w init)
  (hL:∀ e' w',R w w'→(∀ t,init.any (wrO t)=true→(look l t).1 (e' t) w')→(∀ t,init.any (wrO t)=false→e' t=e t)→WG P ops last e' w' fun v w''=>Q .normal (put e' last.dst v) w'') :
  W P n (.region id ops true) Q e w:=by
 intro hd a hr;have hd':ops.toList.all (q3z n)=true:=hd;rw [Bool.and_eq_true] at hok;have hsz:ops.size=init.length+1:=by rw [← Array.length_toList,hops]; simp
 have hm':ops[init.length]?=some last:=by rw [← Array.getElem?_toList,hops]; simp
 have hin:∀ i o,ops[i]?=some o→i≠init.length→o ∈ init:=fun i o ho hi=>by
  rw [← Array.getElem?_toList,hops] at ho;have hlt:i < init.length:=by
   have:=(List.getElem?_eq_some_iff.1 ho).1;simp at this; omega
  rw [List.getElem?_append_left hlt] at ho;exact List.mem_of_getElem? ho
 have hin2:∀ o ∈ init,∃ i,ops[i]?=some o∧i≠init.length:=fun o ho=>by
  obtain ⟨i,hi,rfl⟩:=List.getElem_of_mem ho;refine ⟨i,?_,by omega⟩;rw [← Array.getElem?_toList,hops,List.getElem?_append_left hi,List.getElem?_eq_getElem hi]
 have hst:∀ i o,ops[i]?=some o→i≠init.length→q3l P ops R l e { w with drawn:=w.drawn+1 } o:=fun i o ho hi e' w' hw h1 h2=>steps.get o (hin i o ho hi) e' w' (hR.trans (hR.drew w _) hw) h1 h2;refine wp_region_any hm (qfx (n:=n) (e:=e) (K:=Q .normal) hR (DOk.of hok.1) hd' hm' hsz (fun j hj=>?_) hst ?_ ?_ ops.size _ a e _ ?_ Oq ⟨by simp,hr,hR.refl _,?_,fun _ _=>rfl,?_⟩)
 ·have:=hok.2; rw [List.all_eq_true] at this; exact this j (List.mem_range.2 hj)
 ·intro e' w' h1 h2 h3;refine hL e' w' (hR.trans (hR.drew w _) h1) (fun t ht=>?_) (fun t ht=>h3 t fun i o ho hi hot=>?_)
  ·rw [List.any_eq_true] at ht;obtain ⟨o,ho,hw⟩:=ht;obtain ⟨i,hi,hne⟩:=hin2 o ho;exact h2 i o t hi hne (q3o.1 hw)
  ·have:init.any (wrO t)=true:=by rw [List.any_eq_true]; exact ⟨o,hin i o ho hi,q3o.2 hot⟩
   rw [ht] at this; cases this
 ·intro a' e' w' r' h2 h3;exact ⟨e',r',h2,h3⟩
 ·simp [Array.getD_eq_getD_getElem?,hsz]
 ·intro i o d ho hl;have hlt:=(Array.getElem?_eq_some_iff.1 ho).1;simp [Array.getD_eq_getD_getElem?,hlt] at hl
 ·intro i o x ho hl;have hlt:=(Array.getElem?_eq_some_iff.1 ho).1;simp [Array.getD_eq_getD_getElem?,hlt] at hl
def q4Q:List Oper→Oper
 | []=>default
 | [o]=>o
 | _ :: o :: os=>q4Q (o :: os)
def qeu {o:Oper}:q4Q [o]=o:=rfl
def q6n {o p:Oper} {os:List Oper}:q4Q (o :: p :: os)=q4Q (p :: os):=rfl
def qbB:∀ {l:List Oper},l≠[]→l=l.dropLast ++ [q4Q l]
 | [],h=>absurd rfl h
 | [o],_=>rfl
 | o :: p :: os,_=>by
  have:=qbB (l:=p :: os) (by simp);rw [q6n,List.dropLast_cons_of_ne_nil (by simp),List.cons_append,← this]
def qgn {id:Nat} {ops:List Oper} {Q:Exit→Env→World→Prop} {e:Env} {w:World} (hm:P.follows .mixedOrders=true) (hR:Pre R) (l:List (Nat × q1D R))
  (hok:(!ops.isEmpty && q2I ops.toArray && (List.range ops.dropLast.length).all fun j=>q0q (q4Q ops) j)=true)
  (steps:q2N P ops.toArray R l e w ops.dropLast)
  (hL:∀ e' w',R w w'→(∀ t,ops.dropLast.any (wrO t)=true→(look l t).1 (e' t) w')→(∀ t,ops.dropLast.any (wrO t)=false→e' t=e t)→WG P ops.toArray (q4Q ops) e' w' fun v w''=>Q .normal (put e' (q4Q ops).dst v) w'') :
  W P n (.region id ops.toArray true) Q e w:=by
 simp only [Bool.and_eq_true] at hok;have h:=qbB (l:=ops) (by intro h; rw [h] at hok; simp at hok);exact qpw hm hR l ops.dropLast (q4Q ops) (by simpa using h) (by rw [Bool.and_eq_true]; exact ⟨hok.1.2,hok.2⟩) steps hL
def qpv {id:Nat} {ops:List Oper} {Q:Exit→Env→World→Prop} {e:Env} {w:World} (hm:P.follows .mixedOrders=true) (hR:Pre R) (l:List (Nat × q1D R)) (hok:q2I ops.toArray=true)
  (steps:q2N P ops.toArray R l e w ops)
  (hQ:∀ e' w',R w w'→(∀ t,q26 ops.toArray t=true→(look l t).1 (e' t) w')→(∀ t,q26 ops.toArray t=false→e' t=e t)→Q .normal e' w') :
  W P n (.region id ops.toArray true) Q e w:=qvW hm hR l hok (by simpa using steps) hQ
end
def q2r {α:Type} (o:Option α) (K:α→Prop):Prop:=match o with | some a=>K a | none=>False
def q3Q {α:Type} (a:α) (K:α→Prop):q2r (some a) K=K a:=rfl
def q0y (op:BinOp) (k:IntKind) (a b:Int):Int :=
 match op with
 | .and=>k.wrap (BitVec.ofInt k.bits a &&& BitVec.ofInt k.bits b).toNat
 | .or=>k.wrap (BitVec.ofInt k.bits a ||| BitVec.ofInt k.bits b).toNat
 | .xor=>k.wrap (BitVec.ofInt k.bits a ^^^ BitVec.ofInt k.bits b).toNat
 | _=>k.wrap (BitVec.ofInt k.bits a &&& ~~~(BitVec.ofInt k.bits b)).toNat
def q3Z (op:BinOp) (k:IntKind) (a b:Int):Option Value :=
 match op with
 | .add=>some (.int k (k.wrap (a+b)))
 | .sub=>some (.int k (k.wrap (a-b)))
 | .mul=>some (.int k (k.wrap (a*b)))
 | .quo=>if b=0 then none else some (.int k (k.wrap (a.tdiv b)))
 | .rem=>if b=0 then none else some (.int k (a.tmod b))
 | .and=>some (.int k (q0y .and k a b))
 | .or=>some (.int k (q0y .or k a b))
 | .xor=>some (.int k (q0y .xor k a b))
 | .andNot=>some (.int k (q0y .andNot k a b))
 | .eql=>some (.bool (a == b))
 | .neq=>some (.bool (a != b))
 | .lss=>some (.bool (decide (a < b)))
 | .leq=>some (.bool (decide (a≤b)))
 | .gtr=>some (.bool (decide (a > b)))
 | .geq=>some (.bool (decide (a ≥ b)))
 | _=>none
def q7n (op:BinOp) (k k':IntKind) (a b:Int):Option Value :=
 match op with
 | .shl=>if b < 0 then none else some (.int k (k.wrap (a*2 ^ (min b.toNat k.bits))))
 | .shr=>if b < 0 then none else some (.int k (a.fdiv (2 ^ (min b.toNat k.bits))))
 | op=>if k=k' then q3Z op k a b else none
def q0z (P:Program) (op:BinOp) (t:TypeId):Value→Value→Option Value
 | .int k a,.int k' b=>q7n op k k' a b
 | .bool a,.bool b=>match op,P.underlying t with
  | .eql,some .bool=>some (.bool (a == b))
  | .neq,some .bool=>some (.bool (a != b))
  | _,_=>none
 | .slice a _ _,.slice none _ _=>match op,P.underlying t with
  | .eql,some (.slice _)=>some (.bool a.isNone)
  | .neq,some (.slice _)=>some (.bool a.isSome)
  | _,_=>none
 | _,_=>none
def unV (op:UnOp):Value→Option Value
 | .bool b=>match op with | .not=>some (.bool !b) | _=>none
 | .int k n=>match op with | .neg=>some (.int k (k.wrap (0-n))) | _=>none
 | _=>none
def qcb (s d:Option TypeDesc):Value→Option Value
 | .int _ n=>match s,d with | some _,some (.int k)=>some (.int k (k.wrap n)) | _,_=>none
 | _=>none
def q0f (P:Program) (t:TypeId):Option (Option Nat) :=
 match P.underlying t,P.info? t with
 | some (.struct _),some i=>some (some i.size)
 | some (.array _ _),some i=>some (some i.size)
 | some _,some _=>some none
 | _,_=>none
def q0b (P:Program) (t:TypeId) (f:Nat):Option Nat :=
 match P.underlying t with
 | some (.struct fs)=>match fs[f]? with
  | some d=>match P.info? d.type with | some i=>if i.size=0 then none else some d.offset | none=>none
  | none=>none
 | _=>none
def q0n (P:Program) (t:TypeId):Option Nat :=
 match P.underlying t with
 | some (.slice e)=>(P.info? e).map (·.size)
 | _=>none
def q09 (P:Program) (t:TypeId):Option (TypeId × Nat × Nat × Array Value) :=
 match P.underlying t with
 | some (.slice e)=>(P.info? e).bind fun i=>i.zero.map fun z=>(e,i.size,i.bytes,z.cells)
 | _=>none
def q1x (P:Program) (t:TypeId):Option (Array Value):=match P.info? t with | some i=>i.zero.map (·.cells) | none=>none
def q03 (P:Program) (t:TypeId):Option Nat:=(P.info? t).map (·.size)
def q1C (w:World) (p:Addr):Nat→Nat→Option (List Value)
 | _,0=>some []
 | i,k+1=>match w.cell? (p.add i),q1C w p (i+1) k with | some v,some l=>some (v :: l) | _,_=>none
def ldV (w:World) (k:Option (Option Nat)):Value→Option Value
 | .pointer (some p)=>match k with
  | some none=>w.cell? p
  | some (some k)=>(q1C w p 0 k).map fun l=>.agg l.toArray
  | none=>none
 | _=>none
def stN (w:World) (p:Addr):Nat→List Value→World
 | _,[]=>w
 | i,v :: vs=>stN (w.setCell (p.add i) v) p (i+1) vs
def stOk (w:World) (p:Addr):Nat→List Value→Prop
 | _,[]=>True
 | i,v :: vs=>(w.cell? (p.add i)).isSome=true∧w.frozen? (p.add i)=false∧v.oneCell'=true∧stOk w p (i+1) vs
def qch (P:Program) (t:TypeId):Option (Nat × Nat) :=
 match P.underlying t with
 | some (.array n e)=>(P.info? e).map fun i=>(n,i.size)
 | _=>none
def qi8 (sz:Option Nat) (ar:Option (Nat × Nat)):Value→Value→Option Value
 | .slice (some a) n _,.int _ i=>match sz with | some s=>if 0≤i∧i < n then some (.pointer (some (a.add (i.toNat*s)))) else none | none=>none
 | .pointer (some a),.int _ i=>match ar with | some (n,s)=>if 0≤i∧i < n then some (.pointer (some (a.add (i.toNat*s)))) else none | none=>none
 | _,_=>none
def q3j (y:Nat):Option Value→Nat→Option Nat
 | none,d=>some d
 | some (.int _ i),_=>if 0≤i∧i≤y then some i.toNat else none
 | some _,_=>none
def q2Q (sz:Option Nat) (lo hi:Option Value):Value→Option Value
 | .slice a n c=>match sz,q3j c hi n with
  | some s,some h=>match q3j h lo 0 with
   | some l=>some (.slice (if c=l then a else a.map (·.add (l*s))) (h-l) (c-l))
   | none=>none
  | _,_=>none
 | _=>none
def qsr (sz:Option Nat):Value→Option Value
 | .slice _ n _=>match sz with | some _=>some (.int .i64 n) | none=>none
 | _=>none
def qlO (i:Nat):Value→Option Value
 | .tuple vs=>vs[i]?
 | _=>none
def bsV (P:Program) (t:TypeId) (len:Nat) (parts:List (Nat × Value)):Option (TypeId × Array Value) :=
 match q09 P t with
 | some (e,s,_,z)=>if len*s=0 then (if parts.isEmpty then some (e,#[]) else none) else if len*s > 16777216 then none else (Instr.fill (fun i=>some (i*s,s)) ((Array.range (len*s)).map (z[· % z.size]!)) parts).map fun cs=>(e,cs)
 | none=>none
def mmV (isMax:Bool):List Value→Option Value
 | [.int k a,.int k' b]=>if k=k' then some (.int k (if isMax then max a b else min a b)) else none
 | _=>none
def q0C (P : Program) (f : FuncId) : Bool := match P.funcs[f]? with | some fn => fn.body.isSome && !(fn.name == "runtime.NumGoroutine") | none => false
def wo (P:Program) (o:Oper) (e:Env) (w:World) (K:Value→World→Prop):Prop :=
 match o.op with
 | .move x=>K (ev e x) w
 | .assign x=>K (ev e x) w
 | .pick c a b=>match ev e c with | .bool true=>K (ev e a) w | .bool false=>K (ev e b) w | _=>False
 | .alloc t=>q2r (q1x P t) fun z=>K (.pointer (some ⟨w.heap.size,0,none⟩)) (w.alloc (.cells z t))
 | .box t x=>K (.pointer (some ⟨w.heap.size,0,none⟩)) (w.alloc (.cells (ev e x).cells t))
 | .build t ps=>q2r (P.built t (ps.map fun (i,x)=>(i,ev e x)).toList) fun cs=>K (.agg cs) w
 | .buildSlice t len ps=>q2r (bsV P t len (ps.map fun (i,x)=>(i,ev e x)).toList) fun (el,cs)=>K (.slice (some ⟨w.heap.size,0,none⟩) len len) (w.alloc (.cells cs el))
 | .load t a=>q2r (ldV w (q0f P t) (ev e a)) fun v=>K v w
 | .store t a x=>match ev e a with
  | .pointer (some p)=>q03 P t=some (ev e x).cells.size∧stOk w p 0 (ev e x).cells.toList∧K undef (stN w p 0 (ev e x).cells.toList)
  | _=>False
 | .binOp op t x y _=>q2r (q0z P op t (ev e x) (ev e y)) fun v=>K v w
 | .unOp op _ x=>q2r (unV op (ev e x)) fun v=>K v w
 | .convert s d x=>q2r (qcb (P.underlying s) (P.underlying d) (ev e x)) fun v=>K v w
 | .fieldAddr t x f=>match ev e x with
  | .pointer (some p)=>q2r (q0b P t f) fun off=>K (.pointer (some (p.add off))) w
  | _=>False
 | .indexAddr t x i=>q2r (qi8 (q0n P t) (qch P t) (ev e x) (ev e i)) fun v=>K v w
 | .slice t x lo hi none=>q2r (q2Q (q0n P t) (lo.map (ev e)) (hi.map (ev e)) (ev e x)) fun v=>K v w
 | .makeSlice t l c=>match ev e l,ev e c with
  | .int _ l,.int _ c=>q2r (q09 P t) fun (el,s,b,z)=>(0≤l∧l≤c∧(b:Int)*c≤281474976710656∧c≤9223372036854775807)∧K (.slice (some ⟨w.heap.size,0,none⟩) l.toNat c.toNat) (w.alloc (.cells (madeCells z (c.toNat*s)) el))
  | _,_=>False
 | .nilCheck x=>match ev e x with
  | .pointer (some p)=>K (.pointer (some p)) w
  | _=>False
 | .extract x i=>q2r (qlO i (ev e x)) fun v=>K v w
 | .call c=>match c.callee with
  | .builtin .len=>match c.args.toList,c.argTypes.toList with
   | [x],[t]=>q2r (qsr (q0n P t) (ev e x)) fun v=>K v w
   | _,_=>False
  | .builtin .max=>q2r (mmV true (c.args.toList.map (ev e))) fun v=>K v w
  | .builtin .min=>q2r (mmV false (c.args.toList.map (ev e))) fun v=>K v w
  | .value (.func f)=>q0C P f=true∧Calls P f (c.args.map (ev e)) w fun x w'=>match x with | .returned v=>K v w' | _=>False
  | _=>WO P o e w K
 | _=>WO P o e w K
section
variable {P:Program} {o:Oper} {e:Env} {w:World} {K:Value→World→Prop}
def q0W {α:Type} {o:Option α} {K:α→Prop} (h:q2r o K):∃ a,o=some a∧K a:=by
 cases o with
 | none=>exact h.elim
 | some a=>exact ⟨a,rfl,h⟩
def q5u (w:World) (p:Addr):∀ (k i:Nat) (l:List Value) (acc:Array Value),q1C w p i k=some l→(loadCellsFrom p i k acc).run P w=.ok (acc ++ l.toArray) w
 | 0,i,l,acc,h=>by simp [q1C] at h; subst h; simp [loadCellsFrom]
 | k+1,i,l,acc,h=>by
  simp only [q1C] at h;cases hc:w.cell? (p.add i) with
  | none=>simp [hc] at h
  | some v =>
   cases hr:q1C w p (i+1) k with
   | none=>simp [hc,hr] at h
   | some l' =>
    simp [hc,hr] at h;subst h;have:=q5u w p k (i+1) l' (acc.push v) hr;simp only [loadCellsFrom,Sem.run_bind,run_load,hc,Result.andThen,this];simp
def qdw (P:Program) (p:Addr):∀ (vs:List Value) (i:Nat) (w:World),stOk w p i vs→(storeCells p vs i).run P w=.ok () (stN w p i vs)
 | [],i,w,_=>by simp [storeCells,stN]
 | v :: vs,i,w,⟨h1,h2,h3,h4⟩=>by
  have hkeep:∀ (vs:List Value) (j:Nat),i < j→stOk w p j vs→stOk (w.setCell (p.add i) v) p j vs:=by
   intro vs
   induction vs with
   | nil=>intro _ _ _; exact trivial
   | cons u vs ih =>
    rintro j hj ⟨a1,a2,a3,a4⟩;have hne:p.add i≠p.add j:=fun he=>by
     unfold Addr.add at he
     split at he <;> split at he <;> first | omega | (have:=congrArg Addr.off he; simp at this; omega)
    refine ⟨?_,by rw [World.frozen?_setCell]; exact a2,a3,ih (j+1) Oq a4⟩;rw [World.cell?_setCell_other _ _ _ _ hne];exact a1
  have ih:=qdw P p vs (i+1) (w.setCell (p.add i) v) (hkeep vs (i+1) Oq h4);obtain ⟨u,hu⟩:=Option.isSome_iff_exists.1 h1;have hst:(store (p.add i) v).run P w=.ok () (w.setCell (p.add i) v):=by
   rw [run_store P w _ v _ h3];simp [hu,h2]
  simp only [storeCells,Sem.run_bind,hst,Result.andThen_ok,ih,stN]
def q6c {t:TypeId} {a b:Bool} (w:World) (hu:P.underlying t=some .bool):(Op.equal t (.bool a) (.bool b)).run P w=.ok (a == b) w:=by
 have h:∀ d:Nat,(Op.equalIn (d+1) t (.bool a) (.bool b)).run P w=.ok (a == b) w:=fun d=>by
  simp [Op.equalIn,run_underlying hu]
 exact h 9999
def q8R {t el:TypeId} {a:Option Addr} {n c n' c':Nat} (w:World) (hu:P.underlying t=some (.slice el)):(Op.equal t (.slice a n c) (.slice none n' c')).run P w=.ok a.isNone w:=by
 have h:∀ d:Nat,(Op.equalIn (d+1) t (.slice a n c) (.slice none n' c')).run P w=.ok a.isNone w:=fun d=>by
  cases a <;> simp [Op.equalIn,run_underlying hu]
 exact h 9999
def qht {op : BinOp} {t : TypeId} {x y : Operand} {vx vy v : Value} (w : World) (hv : q0z P op t vx vy = some v) :
    (do eqGuard op t x y vx vy; binOp op t vx vy : Sem Value).run P w = .ok v w := by
  unfold q0z at hv
  split at hv
  · rename_i k a k' b
    unfold q7n at hv
    have hg : (eqGuard op t x y (.int k a) (.int k' b)).run P w = .ok () w := by
      unfold eqGuard; cases op <;> simp
    rw [Sem.run_bind, hg, Result.andThen_ok]
    split at hv
    · split at hv
      · cases hv
      · rename_i hb; obtain rfl := Option.some.inj hv; simp [binOp, Op.shift, hb]
    · split at hv
      · cases hv
      · rename_i hb; obtain rfl := Option.some.inj hv; simp [binOp, Op.shift, hb]
    · rename_i hs1 hs2
      split at hv
      · rename_i hk
        subst hk
        cases op <;> simp only [q3Z] at hv <;> first
          | exact absurd rfl hs1
          | exact absurd rfl hs2
          | (split at hv
             · cases hv
             · rename_i hb; obtain rfl := Option.some.inj hv; simp [binOp, Op.intDiv, hb])
          | (obtain rfl := Option.some.inj hv; simp [binOp, Op.intArith, Op.intBits, Op.intCmp, q0y])
          | cases hv
      · cases hv
  · rename_i a b
    split at hv
    · rename_i hu
      obtain rfl := Option.some.inj hv
      have hg : (eqGuard .eql t x y (.bool a) (.bool b)).run P w = .ok () w := by unfold eqGuard; simp
      rw [Sem.run_bind, hg, Result.andThen_ok]
      have hb : binOp .eql t (.bool a) (.bool b) = (do pure (.bool (← Op.equal t (.bool a) (.bool b))) : Sem Value) := rfl
      rw [hb, Sem.run_bind, q6c w hu]
      rfl
    · rename_i hu
      obtain rfl := Option.some.inj hv
      have hg : (eqGuard .neq t x y (.bool a) (.bool b)).run P w = .ok () w := by unfold eqGuard; simp
      rw [Sem.run_bind, hg, Result.andThen_ok]
      have hb : binOp .neq t (.bool a) (.bool b) = (do pure (.bool (!(← Op.equal t (.bool a) (.bool b)))) : Sem Value) := rfl
      rw [hb, Sem.run_bind, q6c w hu]
      rfl
    · cases hv
  · rename_i a n c n' c'
    split at hv
    · rename_i hu
      obtain rfl := Option.some.inj hv
      have hg : (eqGuard .eql t x y (.slice a n c) (.slice none n' c')).run P w = .ok () w := by unfold eqGuard; simp
      rw [Sem.run_bind, hg, Result.andThen_ok]
      have hb : binOp .eql t (.slice a n c) (.slice none n' c') = (do pure (.bool (← Op.equal t (.slice a n c) (.slice none n' c'))) : Sem Value) := rfl
      rw [hb, Sem.run_bind, q8R w hu]
      rfl
    · rename_i hu
      obtain rfl := Option.some.inj hv
      have hg : (eqGuard .neq t x y (.slice a n c) (.slice none n' c')).run P w = .ok () w := by unfold eqGuard; simp
      rw [Sem.run_bind, hg, Result.andThen_ok]
      have hb : binOp .neq t (.slice a n c) (.slice none n' c') = (do pure (.bool (!(← Op.equal t (.slice a n c) (.slice none n' c')))) : Sem Value) := rfl
      rw [hb, Sem.run_bind, q8R w hu]
      cases a <;> rfl
    · cases hv
  · cases hv
def q2G {y d h:Nat} (hv:q3j y none d=some h):d=h:=Option.some.inj hv
def q17 {w:World} {y d h:Nat} {v:Value} (code:BoundsCode) (hv:q3j y (some v) d=some h):(Instr.sliceBound v y code).run P w=.ok h w:=by
 cases v <;> simp only [q3j] at hv <;> try (cases hv; done)
 split at hv
 ·rename_i hb;obtain rfl:=Option.some.inj hv;exact run_sliceBound w _ _ _ _ hb.1 hb.2
 ·cases hv
def qcH {t:TypeId} {lo hi:Option Value} {x v:Value} (w:World) (hv:q2Q (q0n P t) lo hi x=some v) :
  ∃ el,P.underlying t=some (.slice el)∧∃ i,P.info? el=some i∧(Instr.sliceAt t x lo hi none).run P w=.ok v w:=by
 unfold q2Q at hv
 split at hv
 ·rename_i a n c
  split at hv
  ·rename_i s h hs hh
   split at hv
   ·rename_i l hl;obtain rfl:=Option.some.inj hv;unfold q0n at hs
    split at hs
    ·rename_i el hu;obtain ⟨i,hi',hsz⟩:=Option.map_eq_some_iff.1 hs;refine ⟨el,hu,i,hi',?_⟩;have hsize:(sizeOf el).run P w=.ok s w:=by simp [sizeOf,typeInfo,hi',hsz]
     have hb:(Instr.sliceBounds true n c lo hi none).run P w=.ok (l,h,c) w:=by
      unfold Instr.sliceBounds;cases hi with
      | none =>
       obtain rfl:=q2G hh;cases lo with
       | none=>obtain rfl:=q2G hl; simp
       | some lv=>simp [q17 (P:=P) (w:=w) .sliceB hl]
      | some hv' =>
       cases lo with
       | none=>obtain rfl:=q2G hl; simp [q17 (P:=P) (w:=w) .sliceAcap hh]
       | some lv=>simp [q17 (P:=P) (w:=w) .sliceAcap hh,q17 (P:=P) (w:=w) .sliceB hl]
     simp [Instr.sliceAt,Instr.slice,run_underlying hu,hb,hsize]
    ·cases hs
   ·cases hv
  ·cases hv
 ·cases hv
def qcI {t:TypeId} {f off:Nat} (w:World) (p:Addr) (h:q0b P t f=some off):(Instr.fieldAt t (.pointer (some p)) f).run P w=.ok (.pointer (some (p.add off))) w:=by
 unfold q0b at h
 split at h
 ·rename_i fs hu
  split at h
  ·rename_i d hd
   split at h
   ·rename_i i hi
    split at h
    ·cases h
    ·rename_i hn;obtain rfl:=Option.some.inj h;simp [Instr.fieldAt,run_underlying hu,hd,Instr.sureAddr,fieldPlace,sizeOf,typeInfo,hi,hn]
   ·cases h
  ·cases h
 ·cases h
def qhs {t:TypeId} {x i v:Value} (w:World) (h:qi8 (q0n P t) (qch P t) x i=some v):(Instr.indexAt t x i).run P w=.ok v w:=by
 unfold qi8 at h
 split at h
 ·split at h
  ·rename_i s hs
   split at h
   ·rename_i hb;obtain rfl:=Option.some.inj h;unfold q0n at hs
    split at hs
    ·rename_i el hu;obtain ⟨i,hi,hsz⟩:=Option.map_eq_some_iff.1 hs;simp [Instr.indexAt,asIntOf,run_underlying hu,hb,sizeOf,typeInfo,hi,hsz]
    ·cases hs
   ·cases h
  ·cases h
 ·split at h
  ·rename_i n s hs
   split at h
   ·rename_i hb;obtain rfl:=Option.some.inj h;unfold qch at hs
    split at hs
    ·rename_i n' el hu;obtain ⟨i,hi,hsz⟩:=Option.map_eq_some_iff.1 hs;cases hsz;simp [Instr.indexAt,Instr.sureAddr,asIntOf,run_underlying hu,hb,sizeOf,typeInfo,hi]
    ·cases hs
   ·cases h
  ·cases h
 ·cases h
def q6x (h:wo P o e w K):WO P o e w K:=by
 unfold wo at h;unfold WO;obtain ⟨dst,op,ty,pos,af,g⟩:=o;cases op <;> try exact h
 case pick c a b =>
  simp only [] at h;simp only [execOp,Sem.run_bind]
  split at h
  ·rename_i hc; rw [hc]; exact h
  ·rename_i hc; rw [hc]; exact h
  ·exact h.elim
 case alloc t =>
  obtain ⟨z,hz,h⟩:=q0W h;unfold q1x at hz;cases hi:P.info? t with
  | none=>rw [hi] at hz; cases hz
  | some i =>
   rw [hi] at hz;cases hzz:i.zero with
   | none=>simp [hzz] at hz
   | some v =>
    simp [hzz] at hz;subst hz;simp [execOp,Instr.alloc,zeroValue,typeInfo,hi,hzz,newVar,newRow,RO];exact h
 case build t ps =>
  obtain ⟨z,hz,h⟩:=q0W h;have:=run_build (P:=P) w t (ps.map fun (i,x)=>(i,ev e x)) z hz;simp only [execOp,Sem.run_bind,this];exact h
 case buildSlice t len ps =>
  obtain ⟨z,hz,h⟩:=q0W h;unfold bsV q09 at hz;cases hu:P.underlying t with
  | none=>simp [hu] at hz
  | some d =>
   cases d with
   | slice el =>
    cases hi:P.info? el with
    | none=>simp [hu,hi] at hz
    | some i =>
     cases hzz:i.zero with
     | none=>simp [hu,hi,hzz] at hz
     | some v =>
      simp only [hu,hi,hzz,Option.bind_some,Option.map_some] at hz;have e1:(sizeOf el).run P w=.ok i.size w:=by simp [sizeOf,typeInfo,hi]
      have e2:(zeroValue el).run P w=.ok v w:=by simp [zeroValue,typeInfo,hi,hzz]
      have hrun:(Instr.buildSlice t len (ps.map fun (i,x)=>(i,ev e x))).run P w=.ok (.slice (some ⟨w.heap.size,0,none⟩) len len) (w.alloc (.cells z.2 z.1)):=by
       unfold Instr.buildSlice;rw [Sem.run_bind,run_underlying hu,Result.andThen_ok];simp only [];rw [Sem.run_bind,e1,Result.andThen_ok]
       split at hz
       ·rename_i h0
        split at hz
        ·rename_i hp;obtain rfl:=Option.some.inj hz;have hp':(ps.map fun (i,x)=>(i,ev e x)).toList=[]:=by simpa using hp
         have h2':¬ len*i.size > 2 ^ 24:=by omega
         rw [if_neg h2',if_pos h0];simp only [pure_bind];have hr0:Array.range 0=#[]:=rfl;rw [hp',h0,hr0];simp [Instr.fill,newRow]
        ·cases hz
       ·rename_i h1
        split at hz
        ·cases hz
        ·rename_i h2;have h2':¬ len*i.size > 2 ^ 24:=by simpa using h2
         obtain ⟨cs,hcs,rfl⟩:=Option.map_eq_some_iff.1 hz;rw [if_neg h2',if_neg h1];simp only [pure_bind,Sem.run_bind,e2,Result.andThen_ok];rw [hcs];simp [newRow]
      simp only [execOp,Sem.run_bind,hrun];exact h
   | _=>simp [hu] at hz
 case load t a =>
  obtain ⟨v,hv,h⟩:=q0W h;have key:(Instr.loadAt t (ev e a)).run P w=.ok v w:=by
   generalize ev e a=va at *;unfold ldV at hv
   split at hv
   ·rename_i p
    split at hv
    ·rename_i hk;unfold q0f at hk;have hagg:(isAgg t).run P w=.ok false w:=by
      unfold isAgg;cases hu:P.underlying t with
      | none=>simp [hu] at hk
      | some d =>
       rw [Sem.run_bind,run_underlying hu w];cases hi:P.info? t <;> cases d <;> simp_all
     simp [Instr.loadAt,Instr.sureAddr,loadVar,hagg,hv]
    ·rename_i k hk;unfold q0f at hk;obtain ⟨l,hl,rfl⟩:=Option.map_eq_some_iff.1 hv;have hagg:(isAgg t).run P w=.ok true w∧(sizeOf t).run P w=.ok k w:=by
      unfold isAgg sizeOf typeInfo;cases hu:P.underlying t with
      | none=>simp [hu] at hk
      | some d =>
       rw [Sem.run_bind,run_underlying hu w];cases hi:P.info? t <;> cases d <;> simp_all
     have hrun:=q5u (P:=P) w p k 0 l #[] hl;simp [Instr.loadAt,Instr.sureAddr,loadVar,hagg.1,hagg.2,loadCells,hrun]
    ·cases hv
   ·cases hv
  simp only [execOp,Sem.run_bind,key];exact h
 case store t a x =>
  simp only [] at h
  split at h
  ·rename_i p hp;obtain ⟨h1,h2,h3⟩:=h;unfold q03 at h1;obtain ⟨i,hi,hs⟩:=Option.map_eq_some_iff.1 h1;have hrun:=qdw P p (ev e x).cells.toList 0 w h2;simp [execOp,Instr.storeAt,Instr.sureAddr,storeVar,sizeOf,typeInfo,hi,hs,hp,hrun,RO];exact h3
  ·exact h.elim
 case nilCheck x =>
  simp only [] at h
  split at h
  ·rename_i p hp; simp [execOp,hp,RO]; exact h
  ·exact h.elim
 case binOp op t x y t' =>
  obtain ⟨v,hv,h⟩:=q0W h;have key:=qht (P:=P) (x:=x) (y:=y) w hv;simp only [execOp];rw [Sem.run_bind,key];exact h
 case unOp op t x =>
  obtain ⟨v,hv,h⟩:=q0W h;unfold unV at hv
  split at hv
  ·rename_i hx
   split at hv
   ·obtain rfl:=Option.some.inj hv;simp [execOp,hx,Op.unary,RO]; exact h
   ·cases hv
  ·rename_i hx
   split at hv
   ·obtain rfl:=Option.some.inj hv;simp only [execOp,hx,Op.unary,Op.intArith,Sem.run_bind]; exact h
   ·cases hv
  ·cases hv
 case convert s d x =>
  obtain ⟨v,hv,h⟩:=q0W h;unfold qcb at hv
  split at hv
  ·rename_i k0 n0 hx
   split at hv
   ·rename_i sd k hs hd;obtain rfl:=Option.some.inj hv;have key:(convert s d (ev e x)).run P w=.ok (.int k (k.wrap n0)) w:=by
     rw [hx]; simp [convert,run_underlying hs,run_underlying hd,Conv.intToInt]
    simp only [execOp,Sem.run_bind,key];exact h
   ·cases hv
  ·cases hv
 case makeSlice t l c =>
  simp only [] at h
  split at h
  ·rename_i kl l' kc c' hl hc;obtain ⟨⟨el,s,b,z⟩,hz,⟨h0,h1,h2,h3⟩,h⟩:=q0W h;unfold q09 at hz;cases hu:P.underlying t with
   | none=>simp [hu] at hz
   | some d =>
    cases d with
    | slice el' =>
     cases hi:P.info? el' with
     | none=>simp [hu,hi] at hz
     | some i =>
      cases hzz:i.zero with
      | none=>simp [hu,hi,hzz] at hz
      | some v =>
       simp [hu,hi,hzz] at hz;obtain ⟨rfl,rfl,rfl,rfl⟩:=hz;have:=run_make (P:=P) w t el' i v hu hi hzz kl kc l' c' h0 h1 h2 h3;simp only [execOp,hl,hc,Sem.run_bind,this];exact h
    | _=>simp [hu] at hz
  ·exact h.elim
 case slice t x lo hi mx =>
  cases mx with
  | some _=>exact h
  | none =>
   obtain ⟨v,hv,h⟩:=q0W h;obtain ⟨el,hu,i,hi',hrun⟩:=qcH (P:=P) w hv;simp only [execOp,Sem.run_bind,Option.map_none,hrun];exact h
 case fieldAddr t x f =>
  simp only [] at h
  split at h
  ·rename_i p hp;obtain ⟨off,ho,h⟩:=q0W h;have key:=qcI (P:=P) w p ho;simp only [execOp,Sem.run_bind,hp,key];exact h
  ·exact h.elim
 case indexAddr t x i =>
  obtain ⟨v,hv,h⟩:=q0W h;have key:=qhs (P:=P) w hv;simp only [execOp,Sem.run_bind,key];exact h
 case extract x i =>
  obtain ⟨v,hv,h⟩:=q0W h;unfold qlO at hv
  split at hv
  ·rename_i hx; simp [execOp,hx,Instr.extract,hv,RO]; exact h
  ·cases hv
 case call c =>
  simp only [] at h;obtain ⟨callee,args,tys⟩:=c;simp only [] at h
  split at h
  ·split at h
   ·rename_i x t ha ht;obtain ⟨v,hv,h⟩:=q0W h;obtain ⟨args⟩:=args;obtain ⟨tys⟩:=tys;simp only at ha ht;subst ha; subst ht;have key:(Builtin.len_ #[t] ty #[ev e x]).run P w=.ok v w:=by
     unfold qsr at hv
     split at hv
     ·rename_i hx
      split at hv
      ·rename_i hs;obtain rfl:=Option.some.inj hv;unfold q0n at hs
       split at hs
       ·rename_i el hu;simp [Builtin.len_,hx,run_underlying hu,goInt]
       ·cases hs
      ·cases hv
     ·cases hv
    simp [execOp,resolve,invoke,builtin,key,RO];exact h
   ·exact h.elim
  ·obtain ⟨v,hv,h⟩:=q0W h;have key:(Builtin.max_ tys ty (args.map (ev e))).run P w=.ok v w:=by
    unfold mmV at hv;unfold Builtin.max_;rw [Array.toList_map]
    split at hv
    ·rename_i k a k' b hl
     split at hv
     ·rename_i hk;obtain rfl:=Option.some.inj hv;simp [hl,Builtin.max2]
      split <;> omega
     ·cases hv
    ·cases hv
   simp [execOp,resolve,invoke,builtin,key,RO];exact h
  ·obtain ⟨v,hv,h⟩:=q0W h;have key:(Builtin.min_ tys ty (args.map (ev e))).run P w=.ok v w:=by
    unfold mmV at hv;unfold Builtin.min_;rw [Array.toList_map]
    split at hv
    ·rename_i k a k' b hl
     split at hv
     ·rename_i hk;obtain rfl:=Option.some.inj hv;simp [hl,Builtin.min2]
      split <;> omega
     ·cases hv
    ·cases hv
   simp [execOp,resolve,invoke,builtin,key,RO];exact h
  ·rename_i f;obtain ⟨hf,h⟩:=h;have key:(callFunc f (args.map (ev e))).run P w=.ok (.enter f (args.map (ev e))) w:=by
    unfold q0C at hf;cases hfn:P.funcs[f]? with
    | none=>simp [hfn] at hf
    | some fn =>
     simp only [hfn,Bool.and_eq_true] at hf;obtain ⟨h1,h2⟩:=hf;obtain ⟨b,hb⟩:=Option.isSome_iff_exists.1 h1;simp only [Bool.not_eq_true',beq_eq_false_iff_ne,ne_eq] at h2;simp [callFunc,hfn,hb,h2]
   have key2:(execOp (ev e) ⟨dst,.call ⟨.value (.func f),args,tys⟩,ty,pos,af,g⟩).run P w=.ok (.enter f (args.map (ev e))) w:=by
    simp only [execOp,resolve,Deferred.ofValue,ev,pure_bind,invoke];simp [key]
   rw [key2];exact h
  ·exact h
end
def wg (P:Program) (ops:Array Oper) (o:Oper) (e:Env) (w:World) (K:Value→World→Prop):Prop :=
 if q6z ops e o then wo P o e w K else K undef w
def WLo (P:Program) (ops:Array Oper) (K:Env→World→Prop):List Oper→Env→World→Prop
 | [],e,w=>K e w
 | o :: rest,e,w=>wg P ops o e w fun v w'=>WLo P ops K rest (put e o.dst v) w'
section
variable {P:Program} {n:Nat} {ops:Array Oper} {Q:Exit→Env→World→Prop} {K:Env→World→Prop} {e:Env} {w:World}
def q0w {o:Oper} {K:Value→World→Prop} (h:wg P ops o e w K):WG P ops o e w K:=by
 unfold wg at h; unfold WG
 split
 ·rename_i hw; rw [if_pos hw] at h; exact q6x h
 ·rename_i hw; rw [if_neg hw] at h; exact h
def q8z:∀ (l:List Oper) (e:Env) (w:World),WLo P ops K l e w→WL P ops K l e w
 | [],_,_,h=>h
 | _ :: rest,_,_,h=>q4w (fun _ _ h=>q8z rest _ _ h) (q0w h)
def qcl {id:Nat} {l:List Oper} (h:WLo P l.toArray (Q .normal) l e w):W P n (.region id l.toArray false) Q e w:=q5g (q8z _ _ _ (by simpa using h))
def q0Q {id:Nat} {l:List Oper} (h:∀ K:Env→World→Prop,(∀ e w,Q .normal e w→K e w)→WLo P l.toArray K l e w):W P n (.region id l.toArray false) Q e w:=qcl (h _ fun _ _ h=>h)
def q0A {id:Nat} {l:List Oper} {b:Code} (h:∀ K:Env→World→Prop,(∀ e w,W P n b Q e w→K e w)→WLo P l.toArray K l e w):W P n (.seq (.region id l.toArray false) b) Q e w :=
 qgm (qcl (h _ fun _ _ h=>h))
def Wz {id:Nat} {l:List Oper} {b:Code} {e1:Env} {w1:World}  (k:W P n b Q e1 w1) (ee:∀ K:Env→World→Prop,WLo P l.toArray K l e w=K e1 w1:=by intro K; simp -implicitDefEqProofs (disch:=omega) only [go_sem,Nat.reduceEqDiff,Nat.reduceAdd,↓reduceIte]; exact rfl):W P n (.seq (.region id l.toArray false) b) Q e w:=q0A fun K hK=>(ee K).mpr (hK _ _ k)
def Wz1 {id:Nat} {l:List Oper} {b:Code} {e1:Env} {w1:World} {F1:Prop} (f1:F1) (k:W P n b Q e1 w1) (ee:F1→∀ K:Env→World→Prop,WLo P l.toArray K l e w=K e1 w1:=by intro g1 K; simp -implicitDefEqProofs (disch:=omega) only [go_sem,Nat.reduceEqDiff,Nat.reduceAdd,↓reduceIte,g1]; exact rfl):W P n (.seq (.region id l.toArray false) b) Q e w:=q0A fun K hK=>(ee f1 K).mpr (hK _ _ k)
def Wz2 {id:Nat} {l:List Oper} {b:Code} {e1:Env} {w1:World} {F1 F2:Prop} (f1:F1) (f2:F2) (k:W P n b Q e1 w1) (ee:F1→F2→∀ K:Env→World→Prop,WLo P l.toArray K l e w=K e1 w1:=by intro g1 g2 K; simp -implicitDefEqProofs (disch:=omega) only [go_sem,Nat.reduceEqDiff,Nat.reduceAdd,↓reduceIte,g1,g2]; exact rfl):W P n (.seq (.region id l.toArray false) b) Q e w:=q0A fun K hK=>(ee f1 f2 K).mpr (hK _ _ k)
def Wz3 {id:Nat} {l:List Oper} {b:Code} {e1:Env} {w1:World} {F1 F2 F3:Prop} (f1:F1) (f2:F2) (f3:F3) (k:W P n b Q e1 w1) (ee:F1→F2→F3→∀ K:Env→World→Prop,WLo P l.toArray K l e w=K e1 w1:=by intro g1 g2 g3 K; simp -implicitDefEqProofs (disch:=omega) only [go_sem,Nat.reduceEqDiff,Nat.reduceAdd,↓reduceIte,g1,g2,g3]; exact rfl):W P n (.seq (.region id l.toArray false) b) Q e w:=q0A fun K hK=>(ee f1 f2 f3 K).mpr (hK _ _ k)
def Wz4 {id:Nat} {l:List Oper} {b:Code} {e1:Env} {w1:World} {F1 F2 F3 F4:Prop} (f1:F1) (f2:F2) (f3:F3) (f4:F4) (k:W P n b Q e1 w1) (ee:F1→F2→F3→F4→∀ K:Env→World→Prop,WLo P l.toArray K l e w=K e1 w1:=by intro g1 g2 g3 g4 K; simp -implicitDefEqProofs (disch:=omega) only [go_sem,Nat.reduceEqDiff,Nat.reduceAdd,↓reduceIte,g1,g2,g3,g4]; exact rfl):W P n (.seq (.region id l.toArray false) b) Q e w:=q0A fun K hK=>(ee f1 f2 f3 f4 K).mpr (hK _ _ k)
def Wz5 {id:Nat} {l:List Oper} {b:Code} {e1:Env} {w1:World} {F1 F2 F3 F4 F5:Prop} (f1:F1) (f2:F2) (f3:F3) (f4:F4) (f5:F5) (k:W P n b Q e1 w1) (ee:F1→F2→F3→F4→F5→∀ K:Env→World→Prop,WLo P l.toArray K l e w=K e1 w1:=by intro g1 g2 g3 g4 g5 K; simp -implicitDefEqProofs (disch:=omega) only [go_sem,Nat.reduceEqDiff,Nat.reduceAdd,↓reduceIte,g1,g2,g3,g4,g5]; exact rfl):W P n (.seq (.region id l.toArray false) b) Q e w:=q0A fun K hK=>(ee f1 f2 f3 f4 f5 K).mpr (hK _ _ k)
def Wz6 {id:Nat} {l:List Oper} {b:Code} {e1:Env} {w1:World} {F1 F2 F3 F4 F5 F6:Prop} (f1:F1) (f2:F2) (f3:F3) (f4:F4) (f5:F5) (f6:F6) (k:W P n b Q e1 w1) (ee:F1→F2→F3→F4→F5→F6→∀ K:Env→World→Prop,WLo P l.toArray K l e w=K e1 w1:=by intro g1 g2 g3 g4 g5 g6 K; simp -implicitDefEqProofs (disch:=omega) only [go_sem,Nat.reduceEqDiff,Nat.reduceAdd,↓reduceIte,g1,g2,g3,g4,g5,g6]; exact rfl):W P n (.seq (.region id l.toArray false) b) Q e w:=q0A fun K hK=>(ee f1 f2 f3 f4 f5 f6 K).mpr (hK _ _ k)
def q0N {id:Nat} {a b:Code} (h:∀ K:Env→World→Prop,(∀ e w,W P n b Q e w→K e w)→W P n a (inB id (q8H K Q)) e w):W P n (.seq (.block id a) b) Q e w :=
 qgm (q0X (h _ fun _ _ h=>h))
def qcD {R:World→World→Prop} {l:List (Nat × q1D R)} {o:Oper}
  (h:∀ e' w',R w w'→(∀ t,dep ops o t=true→(look l t).1 (e' t) w')→(∀ t,q1g ops o t=true→dep ops o t=false→e' t=e t)→wg P ops o e' w' fun v w''=>R w' w''∧∀ d,o.dst=some d→(look l d).1 v w''):q3l P ops R l e w o :=
 fun e' w' h1 h2 h3=>q0w (h e' w' h1 h2 h3)
end
def q1j {P:Program} {ops:Array Oper} {R:World→World→Prop} {l:List (Nat × q1D R)} {e:Env} {w:World} {o:Oper} {rest:List Oper}
  (h:∀ e' w',R w w'→(∀ t,dep ops o t=true→(look l t).1 (e' t) w')→(∀ t,q1g ops o t=true→dep ops o t=false→e' t=e t)→wg P ops o e' w' fun v w''=>R w' w''∧∀ d,o.dst=some d→(look l d).1 v w'')
  (h2:q2N P ops R l e w rest):q2N P ops R l e w (o :: rest):=⟨qcD h,h2⟩
def qdb {P:Program} {ops:Array Oper} {R:World→World→Prop} {l:List (Nat × q1D R)} {e:Env} {w:World}:q2N P ops R l e w []:=trivial
def qsD (e:Env):ResultVar→Sem Value
 | .tmp t=>pure (e t)
 | .cell a t=>do loadVar t (← asAddr (e a))
def qeE (fn:Func) (e:Env):Sem Value:=do
 let vs ← fn.results.mapM (qsD e)
 pure (if h:vs.size=1 then vs[0] else .tuple vs)
def q9D (P:Program) (fn:Func) (R:Ending→World→Prop) (x:Exit) (e:Env) (w:World):Prop :=
 match x with
 | .normal | .ret=>∃ v,(qeE fn e).run P w=.ok v w∧R (.returned v) w
 | _=>False
section
variable {P:Program} {n:Nat}
def q6e {fn:Func} {a:Act} {e:Env} (hr:Rel n a e):results fn a.tmps=qeE fn e:=by
 have:(fun i=>a.tmps.getD i undef)=e:=funext hr.get;unfold results qeE
 congr 1
 congr 1
 subst this
 funext r
 cases r <;> rfl
def q0J {f:FuncId} {fn:Func} {c:Code} {args:Array Value} {w:World} {R:Ending→World→Prop}
  (hf:P.funcs[f]?=some fn) (hb:fn.body=some c) (hn:fn.ntmps=n) (hd:(decide (args.size≤n) && q9E n c)=true)
  (h:W P n c (q9D P fn R) (q4Y args.toList) w):Calls P f args w R:=by
 rw [Bool.and_eq_true,decide_eq_true_eq] at hd;refine calls_of_wp hf hb (wp_mono (h hd.2 ⟨args ++ Array.replicate (fn.ntmps-args.size) undef,[]⟩ ⟨rfl,by simp; omega,fun i=>?_⟩) ?_)
 ·simp only [q4Y,Array.getD_eq_getD_getElem?,List.getD_eq_getElem?_getD,Array.getElem?_append,Array.getElem?_replicate]
  by_cases hi:i < args.size
  ·simp [hi]
  ·simp only [hi,if_false,Array.getElem?_toList,Array.getElem?_eq_none (Nat.le_of_not_lt hi),Option.getD_none]
   split <;> rfl
 ·rintro x a' w' ⟨e',hr,_,hq⟩;cases x <;> simp only [q9D] at hq <;> try exact hq.elim
  ·obtain ⟨v,hv,hR⟩:=hq;exact ⟨hr.defs,v,by rw [q6e hr]; exact hv,hR⟩
  ·obtain ⟨v,hv,hR⟩:=hq;exact ⟨hr.defs,v,by rw [q6e hr]; exact hv,hR⟩
def q1S {fn:Func} {R:Ending→World→Prop} {e:Env} {w:World} {t:Nat} (h:fn.results=#[.tmp t]) (hR:R (.returned (e t)) w):q9D P fn R .ret e w :=
 ⟨e t,by simp [qeE,h,qsD],hR⟩
def q8S {fn:Func} {R:Ending→World→Prop} {e:Env} {w:World} {t u:Nat} (h:fn.results=#[.tmp t,.tmp u]) (hR:R (.returned (.tuple #[e t,e u])) w):q9D P fn R .ret e w :=
 ⟨.tuple #[e t,e u],by simp [qeE,h,qsD],hR⟩
def ret0 {fn:Func} {R:Ending→World→Prop} {e:Env} {w:World} (h:fn.results=#[]) (hR:R (.returned (.tuple #[])) w):q9D P fn R .ret e w :=
 ⟨.tuple #[],by simp [qeE,h],hR⟩
def ret0n {fn:Func} {R:Ending→World→Prop} {e:Env} {w:World} (h:fn.results=#[]) (hR:R (.returned (.tuple #[])) w):q9D P fn R .normal e w :=
 ⟨.tuple #[],by simp [qeE,h],hR⟩
def q7R (P:Program) (w:World) (e:Env):ResultVar→Option Value
 | .tmp t=>some (e t)
 | .cell a t=>match e a with
  | .pointer (some p)=>match q0f P t with
   | some (some k)=>(q1C w p 0 k).map fun l=>.agg l.toArray
   | some none=>w.cell? p
   | none=>none
  | _=>none
def q1n {w:World} {e:Env} {r:ResultVar} {v:Value} (h:q7R P w e r=some v) :
  (qsD e r).run P w=.ok v w:=by
 cases r with
 | tmp t=>simp only [q7R] at h; obtain rfl:=Option.some.inj h; rfl
 | cell a t =>
  simp only [q7R] at h
  split at h
  ·rename_i p hp;have:ldV w (q0f P t) (.pointer (some p))=some v:=by
    unfold ldV; simp only []
    split at h <;> simp_all
   have h2 : WO P ⟨none, .load t (.const (.pointer (some p))), 0, "", #[], none⟩ e w (fun v' w' => v' = v ∧ w' = w) := q6x (by simp only [wo, ev, this, q3Q]; exact ⟨trivial, trivial⟩);unfold WO at h2;simp only [execOp,ev,Sem.run_bind] at h2;simp only [qsD,Sem.run_bind,hp,asAddr,Sem.run_pure,Result.andThen_ok];simp only [Instr.loadAt,Instr.sureAddr,Sem.run_bind,Sem.run_pure,Result.andThen_ok] at h2;cases hr:(loadVar t p).run P w with
   | ok x w'=>rw [hr] at h2; simp only [Result.andThen_ok,RO] at h2; rw [h2.1,h2.2]
   | halt=>rw [hr] at h2; simp only [Result.andThen_halt,RO] at h2
  ·cases h
def q3D {fn:Func} {R:Ending→World→Prop} {e:Env} {w:World} {r:ResultVar} {v:Value} (h:fn.results=#[r]) (h0:q7R P w e r=some v) (hR:R (.returned v) w):q9D P fn R .ret e w:=by
 have:=q1n h0;exact ⟨v,by simp [qeE,h,this],hR⟩
def qmz {fn:Func} {R:Ending→World→Prop} {e:Env} {w:World} {r s:ResultVar} {v u:Value} (h:fn.results=#[r,s]) (h0:q7R P w e r=some v) (h1:q7R P w e s=some u) (hR:R (.returned (.tuple #[v,u])) w):q9D P fn R .ret e w:=by
 have a0:=q1n h0;have a1:=q1n h1;exact ⟨.tuple #[v,u],by simp [qeE,h,a0,a1],hR⟩
def qmy {fn:Func} {R:Ending→World→Prop} {e:Env} {w:World} {r s q:ResultVar} {v u x:Value} (h:fn.results=#[r,s,q]) (h0:q7R P w e r=some v) (h1:q7R P w e s=some u) (h2:q7R P w e q=some x) (hR:R (.returned (.tuple #[v,u,x])) w):q9D P fn R .ret e w:=by
 have a0:=q1n h0;have a1:=q1n h1;have a2:=q1n h2;exact ⟨.tuple #[v,u,x],by simp [qeE,h,a0,a1,a2],hR⟩
end
def qh1 (v:Value) (K:Value→Prop):Prop:=K v
def qcP (c a b:Value) (K:Value→Prop):Prop:=match c with | .bool true=>K a | .bool false=>K b | _=>False
def q4U (o:Option Bool) (b:Bool) (A B:Prop):Prop:=if o == some b then A else B
def q3f (P:Program) (t:TypeId) (w:World) (a x:Value) (K:World→Prop):Prop:=match a with
  | .pointer (some p)=>q03 P t=some x.cells.size∧stOk w p 0 x.cells.toList∧K (stN w p 0 x.cells.toList)
  | _=>False
def qtM (off:Option Nat) (x:Value) (K:Value→Prop):Prop:=match x with
  | .pointer (some p)=>q2r off fun off=>K (.pointer (some (p.add off)))
  | _=>False
def mkW (eo:Option (TypeId × Nat × Nat × Array Value)) (l c:Value) (w:World) (K:Value→World→Prop):Prop:=match l,c with
  | .int _ l,.int _ c=>q2r eo fun (el,s,b,z)=>(0≤l∧l≤c∧(b:Int)*c≤281474976710656∧c≤9223372036854775807)∧K (.slice (some ⟨w.heap.size,0,none⟩) l.toNat c.toNat) (w.alloc (.cells (madeCells z (c.toNat*s)) el))
  | _,_=>False
def qq0 (t:TypeId) (v:Value) (w:World) (K:Value→World→Prop):Prop:=K (.pointer (some ⟨w.heap.size,0,none⟩)) (w.alloc (.cells v.cells t))
def bsW (o:Option (TypeId × Array Value)) (len:Nat) (w:World) (K:Value→World→Prop):Prop:=q2r o fun (el,cs)=>K (.slice (some ⟨w.heap.size,0,none⟩) len len) (w.alloc (.cells cs el))
def alW (o:Option (Array Value)) (t:TypeId) (w:World) (K:Value→World→Prop):Prop:=q2r o fun z=>K (.pointer (some ⟨w.heap.size,0,none⟩)) (w.alloc (.cells z t))
def q7j (P:Program) (f:FuncId) (args:List Value) (w:World) (K:Value→World→Prop):Prop:=q0C P f=true∧Calls P f args.toArray w fun x w'=>match x with | .returned v=>K v w' | _=>False
def qhI (P:Program) (tys:Array TypeId) (ty:TypeId) (args:List Value) (w:World) (K:Value→World→Prop):Prop:=∃ v w',(Builtin.append_ tys ty args.toArray).run P w=.ok v w'∧K v w'
section
variable {P:Program}
@[congr] theorem qqQ {α:Type} {o o':Option α} {K:α→Prop} (h:o=o'):q2r o K=q2r o' K:=by rw [h]
@[congr] theorem qqM {v v':Value} {K:Value→Prop} (h:v=v'):qh1 v K=qh1 v' K:=by rw [h]
@[congr] theorem qnY {c c' a b:Value} {K:Value→Prop} (h:c=c'):qcP c a b K=qcP c' a b K:=by rw [h]
@[congr] theorem qlF {o o':Option Bool} {b:Bool} {A B:Prop} (h:o=o'):q4U o b A B=q4U o' b A B:=by rw [h]
@[congr] theorem qk2 {t:TypeId} {w w':World} {a a' x x':Value} {K:World→Prop} (hw:w=w') (h:a=a') (h':x=x'):q3f P t w a x K=q3f P t w' a' x' K:=by rw [h,h',hw]
@[congr] theorem qqT {o o':Option Nat} {x x':Value} {K:Value→Prop} (h:o=o') (h':x=x'):qtM o x K=qtM o' x' K:=by rw [h,h']
@[congr] theorem qsf {o o':Option (TypeId × Nat × Nat × Array Value)} {l l' c c':Value} {w:World} {K:Value→World→Prop} (h:o=o') (h1:l=l') (h2:c=c'):mkW o l c w K=mkW o' l' c' w K:=by rw [h,h1,h2]
@[congr] theorem qqZ {t:TypeId} {v v':Value} {w:World} {K:Value→World→Prop} (h:v=v'):qq0 t v w K=qq0 t v' w K:=by rw [h]
@[congr] theorem quY {o o':Option (TypeId × Array Value)} {len:Nat} {w:World} {K:Value→World→Prop} (h:o=o'):bsW o len w K=bsW o' len w K:=by rw [h]
@[congr] theorem quy {o o':Option (Array Value)} {t:TypeId} {w:World} {K:Value→World→Prop} (h:o=o'):alW o t w K=alW o' t w K:=by rw [h]
@[congr] theorem qpC {f:FuncId} {args args':List Value} {w:World} {K:Value→World→Prop} (h:args=args'):q7j P f args w K=q7j P f args' w K:=by rw [h]
@[congr] theorem qq1 {tys:Array TypeId} {ty:TypeId} {args args':List Value} {w:World} {K:Value→World→Prop} (h:args=args'):qhI P tys ty args w K=qhI P tys ty args' w K:=by rw [h]
@[congr] theorem qvX {ops:Array Oper} {l:List Oper} {e e':Env} {w:World} {K:Env→World→Prop} (h:e=e'):WLo P ops K l e w=WLo P ops K l e' w:=by rw [h]
@[congr] theorem W_congr {n:Nat} {c:Code} {Q:Exit→Env→World→Prop} {e e':Env} {w:World} (h:e=e'):W P n c Q e w=W P n c Q e' w:=by rw [h]
@[congr] theorem wo_congr {o:Oper} {e e':Env} {w:World} {K:Value→World→Prop} (h:e=e'):wo P o e w K=wo P o e' w K:=by rw [h]
variable {d:Option Nat} {ty t s:TypeId} {pos:String} {af:Array Edge} {g:Option (Nat × Bool)} {e:Env} {w:World} {K:Value→World→Prop}
def qqk {v:Value} {K:Value→Prop}:qh1 v K=K v:=rfl
def qnW {a b:Value} {K:Value→Prop}:qcP (.bool true) a b K=qh1 a K:=rfl
def qnX {a b:Value} {K:Value→Prop}:qcP (.bool false) a b K=qh1 b K:=rfl
def qfF {A B:Prop}:q4U (some true) true A B=A:=rfl
def qfG {A B:Prop}:q4U (some true) false A B=B:=rfl
def qfH {A B:Prop}:q4U (some false) true A B=B:=rfl
def qfI {A B:Prop}:q4U (some false) false A B=A:=rfl
def qid {A B:Prop} {b:Bool}:q4U none b A B=B:=rfl
def q50 {p:Addr} {x:Value} {K:World→Prop}:q3f P t w (.pointer (some p)) x K=(q03 P t=some x.cells.size∧stOk w p 0 x.cells.toList∧K (stN w p 0 x.cells.toList)):=rfl
def qtL {off:Nat} {p:Addr} {K:Value→Prop}:qtM (some off) (.pointer (some p)) K=qh1 (.pointer (some (p.add off))) K:=rfl
def mkW_i {kl kc:IntKind} {l c:Int} {el:TypeId} {s b:Nat} {z:Array Value}:mkW (some (el,s,b,z)) (.int kl l) (.int kc c) w K=((0≤l∧l≤c∧(b:Int)*c≤281474976710656∧c≤9223372036854775807)∧K (.slice (some ⟨w.heap.size,0,none⟩) l.toNat c.toNat) (w.alloc (.cells (madeCells z (c.toNat*s)) el))):=rfl
def qan {i:Nat} {v:Value}:put e (some i) v=upd e i v:=rfl
def qmU {x}:wo P ⟨d,.move x,ty,pos,af,g⟩ e w K=qh1 (ev e x) fun v=>K v w:=rfl
def qdE {x}:wo P ⟨d,.assign x,ty,pos,af,g⟩ e w K=qh1 (ev e x) fun v=>K v w:=rfl
def qmT {c a b}:wo P ⟨d,.pick c a b,ty,pos,af,g⟩ e w K=qcP (ev e c) (ev e a) (ev e b) fun v=>K v w:=rfl
def qh0:wo P ⟨d,.alloc t,ty,pos,af,g⟩ e w K=alW (q1x P t) t w K:=rfl
def qqi {x}:wo P ⟨d,.box t x,ty,pos,af,g⟩ e w K=qq0 t (ev e x) w K:=rfl
def qhY {ps}:wo P ⟨d,.build t ps,ty,pos,af,g⟩ e w K=q2r (P.built t (ps.map fun (i,x)=>(i,ev e x)).toList) fun cs=>K (.agg cs) w:=rfl
def q4D {len ps}:wo P ⟨d,.buildSlice t len ps,ty,pos,af,g⟩ e w K=bsW (bsV P t len (ps.map fun (i,x)=>(i,ev e x)).toList) len w K:=rfl
def qmW {a}:wo P ⟨d,.load t a,ty,pos,af,g⟩ e w K=q2r (ldV w (q0f P t) (ev e a)) fun v=>K v w:=rfl
def qhU {a x}:wo P ⟨d,.store t a x,ty,pos,af,g⟩ e w K=q3f P t w (ev e a) (ev e x) fun w'=>K undef w':=rfl
def qhZ {op x y t'}:wo P ⟨d,.binOp op t x y t',ty,pos,af,g⟩ e w K=q2r (q0z P op t (ev e x) (ev e y)) fun v=>K v w:=rfl
def qmS {op x}:wo P ⟨d,.unOp op t x,ty,pos,af,g⟩ e w K=q2r (unV op (ev e x)) fun v=>K v w:=rfl
def qbw {x}:wo P ⟨d,.convert s t x,ty,pos,af,g⟩ e w K=q2r (qcb (P.underlying s) (P.underlying t) (ev e x)) fun v=>K v w:=rfl
def q8G {x f}:wo P ⟨d,.fieldAddr t x f,ty,pos,af,g⟩ e w K=qtM (q0b P t f) (ev e x) fun v=>K v w:=rfl
def q8F {x i}:wo P ⟨d,.indexAddr t x i,ty,pos,af,g⟩ e w K=q2r (qi8 (q0n P t) (qch P t) (ev e x) (ev e i)) fun v=>K v w:=rfl
def qhV {x lo hi}:wo P ⟨d,.slice t x lo hi none,ty,pos,af,g⟩ e w K=q2r (q2Q (q0n P t) (lo.map (ev e)) (hi.map (ev e)) (ev e x)) fun v=>K v w:=rfl
def q8E {l c}:wo P ⟨d,.makeSlice t l c,ty,pos,af,g⟩ e w K=mkW (q09 P t) (ev e l) (ev e c) w K:=rfl
def qbv {x i}:wo P ⟨d,.extract x i,ty,pos,af,g⟩ e w K=q2r (qlO i (ev e x)) fun v=>K v w:=rfl
def q9L {x}:wo P ⟨d,.nilCheck x,ty,pos,af,g⟩ e w K=q2r (match ev e x with | .pointer (some p)=>some (.pointer (some p)) | _=>none) fun v=>K v w:=by
 simp only [wo]
 split <;> rename_i h <;> first | rfl | (simp only [h]; done) | (simp only [h]; rfl)
def qqh {x}:wo P ⟨d,.call ⟨.builtin .len,#[x],#[t]⟩,ty,pos,af,g⟩ e w K=q2r (qsr (q0n P t) (ev e x)) fun v=>K v w:=rfl
def qqg {xs ts}:wo P ⟨d,.call ⟨.builtin .max,xs,ts⟩,ty,pos,af,g⟩ e w K=q2r (mmV true (xs.toList.map (ev e))) fun v=>K v w:=rfl
def qqf {xs ts}:wo P ⟨d,.call ⟨.builtin .min,xs,ts⟩,ty,pos,af,g⟩ e w K=q2r (mmV false (xs.toList.map (ev e))) fun v=>K v w:=rfl
def qdD {f} {xs:List Operand} {ts}:wo P ⟨d,.call ⟨.value (.func f),xs.toArray,ts⟩,ty,pos,af,g⟩ e w K=q7j P f (xs.map (ev e)) w K:=by
 simp only [wo,q7j,List.map_toArray]
 try rfl
def q0F {f:FuncId} {args:List Value} {R:Ending→World→Prop} (hc:q0C P f=true) (h:Calls P f args.toArray w R) (hk:∀ x w',R x w'→∃ v,x=.returned v∧K v w'):q7j P f args w K :=
 ⟨hc,h.mono fun x w' hx=>by obtain ⟨v,rfl,h⟩:=hk x w' hx; exact h⟩
def q5k {s x:Operand} {tys:Array TypeId}:wo P ⟨d,.call ⟨.builtin .append,#[s,x],tys⟩,ty,pos,af,g⟩ e w K=qhI P tys ty [ev e s,ev e x] w K:=by
 simp only [wo,WO,execOp,resolve,invoke,builtin,Sem.run_bind,Sem.run_pure,Result.andThen_ok,List.map_toArray,List.map_cons,List.map_nil,qhI];cases hr:(Builtin.append_ tys ty #[ev e s,ev e x]).run P w with
 | ok v w' =>
  simp only [Result.andThen_ok,Sem.run_pure,RO];exact propext ⟨fun h=>⟨v,w',rfl,h⟩,fun ⟨v',w'',h,hk⟩=>by injection h with h1 h2; subst h1; subst h2; exact hk⟩
 | halt x w' =>
  simp only [Result.andThen_halt,RO];exact propext ⟨fun h=>h.elim,fun ⟨_,_,h,_⟩=>by cases h⟩
def q7W (P:Program) (T ty:TypeId) (s x:Value) (w:World) (K:Value→Value→World→Prop):Prop :=
 bsW (bsV P T 1 [(0,x)]) 1 w fun v1 w1=>qhI P #[T,T] ty [s,v1] w1 fun v2 w2=>K v1 v2 w2
@[congr] theorem qnQ {T ty:TypeId} {s s' x x':Value} {w:World} {K:Value→Value→World→Prop} (h:s=s') (h':x=x'):q7W P T ty s x w K=q7W P T ty s' x' w K:=by rw [h,h']
def q6y {ops:Array Oper} {op:Op}:wg P ops ⟨d,op,ty,pos,af,none⟩ e w K=wo P ⟨d,op,ty,pos,af,none⟩ e w K:=rfl
def qmY {ops:Array Oper} {op:Op} {j:Nat} {b:Bool}:wg P ops ⟨d,op,ty,pos,af,some (j,b)⟩ e w K=q4U (q4B ops e j) b (wo P ⟨d,op,ty,pos,af,some (j,b)⟩ e w K) (K undef w):=rfl
def qgq {ops:Array Oper} {K:Env→World→Prop}:WLo P ops K [] e w=K e w:=rfl
def q4b {ops:Array Oper} {K:Env→World→Prop} {o:Oper} {rest:List Oper}:WLo P ops K (o :: rest) e w=wg P ops o e w fun v w'=>WLo P ops K rest (put e o.dst v) w':=rfl
def qkD {ops:Array Oper} {K:Env→World→Prop} {d1 d2 s T ty1 ty2:Nat} {x:Operand} {p1 p2:String} {a1 a2:Array Edge} {rest:List Oper} :
  WLo P ops K (⟨some d1,.buildSlice T 1 #[(0,x)],ty1,p1,a1,none⟩ :: ⟨some d2,.call ⟨.builtin .append,#[.tmp s,.tmp d1],#[T,T]⟩,ty2,p2,a2,none⟩ :: rest) e w =
   if s=d1 then wg P ops ⟨some d1,.buildSlice T 1 #[(0,x)],ty1,p1,a1,none⟩ e w (fun v w'=>WLo P ops K (⟨some d2,.call ⟨.builtin .append,#[.tmp s,.tmp d1],#[T,T]⟩,ty2,p2,a2,none⟩ :: rest) (put e (some d1) v) w')
   else q7W P T ty2 (e s) (ev e x) w fun v1 v2 w'=>WLo P ops K rest (upd (upd e d1 v1) d2 v2) w':=by
 split
 ·rfl
 rename_i hne;have h:∀ v1,ev (upd e d1 v1) (.tmp s)=e s:=fun v1=>by
  simp [ev,upd,hne]
 have h2:∀ v1,ev (upd e d1 v1) (.tmp d1)=v1:=fun v1=>by simp [ev,upd]
 rw [q4b,q6y,q4D];unfold q7W;have hp:(Array.map (fun x=>match x with | (i,x)=>(i,ev e x)) #[(0,x)]).toList=[(0,ev e x)]:=by simp
 rw [hp]
 congr 1
 funext v1 w1
 rw [q4b,q6y,qan,q5k,h,h2]
 rfl
def qiF {v:Value}:put e none v=e:=rfl
def qlP {i:Nat}:ev e (.tmp i)=e i:=rfl
def qjW {v:Value}:ev e (.const v)=v:=rfl
def q0E {i j:Nat} {v:Value}:upd e i v j=if j=i then v else e j:=rfl
def q0o {next:Env→World→Prop} {Q:Exit→Env→World→Prop}:q8H next Q .normal e w=next e w:=rfl
def q0D {next:Env→World→Prop} {Q:Exit→Env→World→Prop}:q8H next Q .ret e w=Q .ret e w:=rfl
def qns {Q:Exit→Env→World→Prop} {i:Nat}:inB i Q .normal e w=Q .normal e w:=rfl
def q0S {Q:Exit→Env→World→Prop} {i:Nat}:inB i Q .ret e w=Q .ret e w:=rfl
def env_z {v:Value} {l:List Value}:q4Y (v :: l) 0=v:=rfl
def env_s {v:Value} {l:List Value} {i:Nat}:q4Y (v :: l) (i+1)=q4Y l i:=rfl
def qaN {tys:Array TypeId} {ty':TypeId} {args:List Value} {v:Value} {w':World} (h:(Builtin.append_ tys ty' args.toArray).run P w=.ok v w') (hk:K v w'):qhI P tys ty' args w K:=⟨v,w',h,hk⟩
def bsW_s {el:TypeId} {cs:Array Value} {len:Nat}:bsW (some (el,cs)) len w K=K (.slice (some ⟨w.heap.size,0,none⟩) len len) (w.alloc (.cells cs el)):=rfl
def alW_s {z:Array Value}:alW (some z) t w K=K (.pointer (some ⟨w.heap.size,0,none⟩)) (w.alloc (.cells z t)):=rfl
def qu3 {v:Value}:qq0 t v w K=K (.pointer (some ⟨w.heap.size,0,none⟩)) (w.alloc (.cells v.cells t)):=rfl
def qiH {T:TypeId} {s x:Value} {K:Value→Value→World→Prop} (h:bsW (bsV P T 1 [(0,x)]) 1 w fun v1 w1=>qhI P #[T,T] ty [s,v1] w1 fun v2 w2=>K v1 v2 w2):q7W P T ty s x w K:=h
end
attribute [irreducible] q7W bsW qhI q7j mkW qq0 alW q3f qtM q4U qcP qh1 WLo wg
section
variable {P:Program} {t:TypeId} {k k':IntKind} {a b:Int}
def qpc:q0z P .add t (.int k a) (.int k b)=some (.int k (k.wrap (a+b))):=by simp [q0z,q7n,q3Z]
def qp3:q0z P .sub t (.int k a) (.int k b)=some (.int k (k.wrap (a-b))):=by simp [q0z,q7n,q3Z]
def qp5:q0z P .mul t (.int k a) (.int k b)=some (.int k (k.wrap (a*b))):=by simp [q0z,q7n,q3Z]
def qaJ:q0z P .quo t (.int k a) (.int k b)=if b=0 then none else some (.int k (k.wrap (a.tdiv b))):=by simp [q0z,q7n,q3Z]
def qaI:q0z P .rem t (.int k a) (.int k b)=if b=0 then none else some (.int k (a.tmod b)):=by simp [q0z,q7n,q3Z]
def qpb:q0z P .and t (.int k a) (.int k b)=some (.int k (q0y .and k a b)):=by simp [q0z,q7n,q3Z]
def qub:q0z P .or t (.int k a) (.int k b)=some (.int k (q0y .or k a b)):=by simp [q0z,q7n,q3Z]
def qp2:q0z P .xor t (.int k a) (.int k b)=some (.int k (q0y .xor k a b)):=by simp [q0z,q7n,q3Z]
def qcg:q0z P .andNot t (.int k a) (.int k b)=some (.int k (q0y .andNot k a b)):=by simp [q0z,q7n,q3Z]
def qpa:q0z P .eql t (.int k a) (.int k b)=some (.bool (a == b)):=by simp [q0z,q7n,q3Z]
def qp4:q0z P .neq t (.int k a) (.int k b)=some (.bool (a != b)):=by simp [q0z,q7n,q3Z]
def qp6:q0z P .lss t (.int k a) (.int k b)=some (.bool (decide (a < b))):=by simp [q0z,q7n,q3Z]
def qp7:q0z P .leq t (.int k a) (.int k b)=some (.bool (decide (a≤b))):=by simp [q0z,q7n,q3Z]
def qp8:q0z P .gtr t (.int k a) (.int k b)=some (.bool (decide (b < a))):=by simp [q0z,q7n,q3Z]
def qp9:q0z P .geq t (.int k a) (.int k b)=some (.bool (decide (b≤a))):=by simp [q0z,q7n,q3Z]
def qaH:q0z P .shl t (.int k a) (.int k' b)=if b < 0 then none else some (.int k (k.wrap (a*2 ^ (min b.toNat k.bits)))):=by simp [q0z,q7n]
def q2L:q0z P .shr t (.int k a) (.int k' b)=if b < 0 then none else some (.int k (a.fdiv (2 ^ (min b.toNat k.bits)))):=by simp [q0z,q7n]
def qbf {x y:Bool} (h:P.underlying t=some .bool):q0z P .eql t (.bool x) (.bool y)=some (.bool (x == y)):=by simp [q0z,h]
def qbe {x y:Bool} (h:P.underlying t=some .bool):q0z P .neq t (.bool x) (.bool y)=some (.bool (x != y)):=by simp [q0z,h]
def qaK {A:Option Addr} {n c n' c' el:Nat} (h:P.underlying t=some (.slice el)):q0z P .eql t (.slice A n c) (.slice none n' c')=some (.bool A.isNone):=by simp [q0z,h]
def q7m {A:Option Addr} {n c n' c' el:Nat} (h:P.underlying t=some (.slice el)):q0z P .neq t (.slice A n c) (.slice none n' c')=some (.bool A.isSome):=by simp [q0z,h]
def qqs {x:Bool}:unV .not (.bool x)=some (.bool !x):=rfl
def qqt:unV .neg (.int k a)=some (.int k (k.wrap (0-a))):=rfl
def qjb {s:TypeDesc}:qcb (some s) (some (.int k)) (.int k' a)=some (.int k (k.wrap a)):=rfl
def idx_s {ad:Addr} {n c s:Nat} {ar:Option (Nat × Nat)} {i:Int}:qi8 (some s) ar (.slice (some ad) n c) (.int k i)=if 0≤i∧i < n then some (.pointer (some (ad.add (i.toNat*s)))) else none:=rfl
def idx_a {ad:Addr} {n s:Nat} {sz:Option Nat} {i:Int}:qi8 sz (some (n,s)) (.pointer (some ad)) (.int k i)=if 0≤i∧i < n then some (.pointer (some (ad.add (i.toNat*s)))) else none:=rfl
def len_s {A:Option Addr} {n c s:Nat}:qsr (some s) (.slice A n c)=some (.int .i64 n):=rfl
def ext_0 {v:Value} {l:List Value}:qlO 0 (.tuple ⟨v :: l⟩)=some v:=rfl
def ext_1 {v u:Value} {l:List Value}:qlO 1 (.tuple ⟨v :: u :: l⟩)=some u:=rfl
def ext_2 {v u x:Value} {l:List Value}:qlO 2 (.tuple ⟨v :: u :: x :: l⟩)=some x:=rfl
def ext_3 {v u x y:Value} {l:List Value}:qlO 3 (.tuple ⟨v :: u :: x :: y :: l⟩)=some y:=rfl
def ld_1 {w:World} {p:Addr}:ldV w (some none) (.pointer (some p))=w.cell? p:=rfl
def ld_k {w:World} {p:Addr} {n:Nat}:ldV w (some (some n)) (.pointer (some p))=(q1C w p 0 n).map fun l=>.agg l.toArray:=rfl
def rd_z {w:World} {p:Addr} {i:Nat}:q1C w p i 0=some []:=rfl
def qop (a:Option Value) (b:Option (List Value)):Option (List Value):=match a,b with | some v,some l=>some (v :: l) | _,_=>none
def qoo {v:Value} {l:List Value}:qop (some v) (some l)=some (v :: l):=rfl
def rd_s {w:World} {p:Addr} {i n:Nat}:q1C w p i (n+1)=qop (w.cell? (p.add i)) (q1C w p (i+1) n):=rfl
def sl_hi {A:Option Addr} {n c s:Nat} {h:Int}:q2Q (some s) none (some (.int k h)) (.slice A n c)=if 0≤h∧h≤c then some (.slice (if c=0 then A else A.map (·.add (0*s))) (h.toNat-0) (c-0)) else none:=by
 simp only [q2Q,q3j]
 split <;> rename_i hh <;> split at hh <;> simp_all
def sl_lo {A:Option Addr} {n c s:Nat} {l:Int}:q2Q (some s) (some (.int k l)) none (.slice A n c)=if 0≤l∧l≤n then some (.slice (if c=l.toNat then A else A.map (·.add (l.toNat*s))) (n-l.toNat) (c-l.toNat)) else none:=by
 simp only [q2Q,q3j]
 split <;> rename_i hh <;> split at hh <;> simp_all
def sl_lh {A:Option Addr} {n c s:Nat} {l h:Int}:q2Q (some s) (some (.int k l)) (some (.int k' h)) (.slice A n c) =
  if (0≤h∧h≤c)∧0≤l∧l≤h then some (.slice (if c=l.toNat then A else A.map (·.add (l.toNat*s))) (h.toNat-l.toNat) (c-l.toNat)) else none:=by
 simp only [q2Q,q3j]
 by_cases h1:0≤h∧h≤(c:Int)
 ·have e:((h.toNat:Nat):Int)=h:=by omega
  simp only [h1,and_self,if_true,e,true_and]
  by_cases h2:0≤l∧l≤h <;> simp [h2]
 ·simp [h1]
def qgj (A:Option Addr) (s:Nat):A.map (·.add (0*s))=A:=by
 rw [Nat.zero_mul]; cases A <;> simp [Addr.add]
def qr4 {A:Option Addr} {n c s:Nat} {h:Int}:q2Q (some s) none (some (.int k h)) (.slice A n c)=if 0≤h∧h≤c then some (.slice A h.toNat c) else none:=by
 rw [sl_hi,qgj]; simp
def qbb:Value→Option Bool | .bool b=>some b | _=>none
def qjm {b:Bool}:qbb (.bool b)=some b:=rfl
def qjl:qbb undef=none:=rfl
def q66:List Oper→Nat→Env→Option Bool
 | [],_,_=>none
 | o :: _,0,e=>match o.dst with | some d=>qbb (e d) | none=>none
 | _ :: os,j+1,e=>q66 os j e
def qhP {o:Oper} {os:List Oper} {j:Nat} {e:Env}:q66 (o :: os) (j+1) e=q66 os j e:=rfl
def qhO {d:Nat} {op:Op} {ty:TypeId} {pos:String} {af:Array Edge} {g:Option (Nat × Bool)} {os:List Oper} {e:Env}:q66 (⟨some d,op,ty,pos,af,g⟩ :: os) 0 e=qbb (e d):=rfl
def qhQ {l:List Oper} {e:Env} {j:Nat}:q4B l.toArray e j=q66 l j e:=by
 unfold q4B;rw [List.getElem?_toArray]
 induction l generalizing j with
 | nil=>rfl
 | cons o os ih =>
  cases j with
  | zero =>
   simp only [List.getElem?_cons_zero,Option.bind_some,q66];cases o.dst with
   | none=>rfl
   | some d=>simp only []; cases e d <;> rfl
  | succ j=>rw [List.getElem?_cons_succ]; exact ih
end
def i64_in {n:Int} (h1 : -9223372036854775808≤n) (h2:n≤9223372036854775807):IntKind.i64.wrap n=n:=IntWalk.i64_in n ⟨h1,h2⟩
def u64_in {n:Int} (h1:0≤n) (h2:n≤18446744073709551615):IntKind.u64.wrap n=n:=IntWalk.u64_in n ⟨h1,h2⟩
def u8_in {n:Int} (h1:0≤n) (h2:n≤255):IntKind.u8.wrap n=n:=IntWalk.u8_in n ⟨h1,h2⟩
def q1O (n:Int):IntKind.u64.wrap n=n % 18446744073709551616:=by simp [IntKind.wrap,IntKind.bits,IntKind.signed]
def q2o (n:Int):IntKind.u32.wrap n=n % 4294967296:=by simp [IntKind.wrap,IntKind.bits,IntKind.signed]
def qib (n:Int):IntKind.i64.wrap n=(n+9223372036854775808) % 18446744073709551616-9223372036854775808:=IntKind.wrap_i64 n
attribute [go_sem] qpc qp3 qp5 qaJ qaI qpb qub qp2 qcg qpa qp4 qp6 qp7 qp8 qp9 qaH q2L qbf qbe qqs qqt qjb idx_s idx_a len_s ext_0 ext_1 ext_2 ext_3 ld_1 ld_k rd_z qoo rd_s qr4 sl_lo sl_lh
attribute [go_sem ↓] qmU qdE qmT qh0 qqi qhY q4D qmW qhU qhZ qmS qbw q8G q8F qhV q8E qbv q9L qqh qqg qqf q5k qdD q6y qmY qgq q4b qhQ qhP qhO
attribute [go_sem ↓ high] qkD
attribute [go_sem ↓] qeu q6n
attribute [go_sem] qqk qnW qnX qfF qfG qfH qfI qid qjl qtL qan qiF qlP qjW q0E q3Q env_z env_s qjm decide_true decide_false Bool.not_false Bool.not_true ite_true ite_false beq_self_eq_true List.map_cons List.map_nil Option.map_some Option.map_none Int.toNat_natCast Nat.mul_one and_self List.map_toArray List.toList_toArray
end Go.E
namespace Go.Sp
def B:Nat:=4294967296
def q4d:0 < B:=by decide
def qwG:1 < B:=by decide
def q4c (k:Nat):0 < B ^ k:=Nat.pow_pos q4d
def val:List Nat→Nat
 | []=>0
 | d :: l=>d+B*val l
def qiY:Nat→Nat→List Nat
 | 0,_=>[]
 | f+1,n=>if n=0 then [] else n % B :: qiY f (n / B)
def lim (n:Nat):List Nat:=qiY n n
def q1w (l:List Nat):Prop:=∀ d ∈ l,d < B
def q7f {n:Nat} (h:n≠0):n / B < n:=Nat.div_lt_self Oq qwG
def q85 : ∀ (f g n : Nat), n ≤ f → n ≤ g → qiY f n = qiY g n
  | 0, 0, _, _, _ => rfl
  | 0, g + 1, n, h, _ => by have : n = 0 := by omega
                            subst this; simp [qiY]
  | f + 1, 0, n, _, h => by have : n = 0 := by omega
                            subst this; simp [qiY]
  | f + 1, g + 1, n, h1, h2 => by
    by_cases h : n = 0
    · subst h; simp [qiY]
    · simp only [qiY, if_neg h]
      have := q7f h
      rw [q85 f g (n / B) Oq (by omega)]
def q2U:lim 0=[]:=rfl
def q3v {n:Nat} (h:n≠0):lim n=n % B :: lim (n / B):=by
 obtain ⟨m,rfl⟩:∃ m,n=m+1:=⟨n-1,by omega⟩;unfold lim;simp only [qiY,if_neg h];have:=q7f h;rw [q85 m ((m+1) / B) ((m+1) / B) Oq (Nat.le_refl _)]
def q73 {P:Nat→Prop} (h0:P 0) (hs:∀ n,n≠0→P (n / B)→P n) (n:Nat):P n:=by
 induction n using Nat.strongRecOn with
 | _ n ih =>
  by_cases h:n=0
  ·subst h; exact h0
  ·exact hs n h (ih _ (q7f h))
def q0I (n:Nat):val (lim n)=n:=by
 induction n using q73 with
 | h0=>rfl
 | hs n h ih=>rw [q3v h,val,ih]; exact Nat.mod_add_div n B
def q1b (n:Nat):q1w (lim n):=by
 induction n using q73 with
 | h0=>intro d h; cases h
 | hs n h ih =>
  rw [q3v h]; intro d hd
  rcases List.mem_cons.1 hd with rfl | hd
  ·exact Nat.mod_lt _ q4d
  ·exact ih d hd
def q0R {n:Nat}:0 < (lim n).length ↔ n≠0:=by
 constructor
 ·intro h h0; subst h0; simp [q2U] at h
 ·intro h; rw [q3v h]; simp
def q1V {l:List Nat} (h:q1w l):val l < B ^ l.length:=by
 induction l with
 | nil=>simp [val]
 | cons d l ih =>
  have h1:=ih (fun x hx=>h x (List.mem_cons_of_mem _ hx));have h2:=h d (List.mem_cons_self);simp only [val,List.length_cons,Nat.pow_succ];have h3:B*val l+B≤B*B ^ l.length:=by
   rw [← Nat.mul_succ]; exact Nat.mul_le_mul_left _ h1
  rw [Nat.mul_comm (B ^ l.length)]; omega
def q32 (a b:List Nat):val (a ++ b)=val a+B ^ a.length*val b:=by
 induction a with
 | nil=>simp [val]
 | cons d a ih =>
  simp only [List.cons_append,val,ih,List.length_cons,Nat.pow_succ,Nat.mul_add];rw [Nat.mul_comm (B ^ a.length) B,Nat.mul_assoc]; omega
def q1p (n:Nat):val (List.replicate n 0)=0:=by
 induction n with
 | zero=>rfl
 | succ n ih=>simp [List.replicate_succ,val,ih]
def q1w.nil:q1w []:=fun _ h=>by cases h
def q1w.take {l:List Nat} (h:q1w l) (n:Nat):q1w (l.take n):=fun d hd=>h d (List.mem_of_mem_take hd)
def q1w.drop {l:List Nat} (h:q1w l) (n:Nat):q1w (l.drop n):=fun d hd=>h d (List.mem_of_mem_drop hd)
def q1w.append {a b:List Nat} (h:q1w a) (k:q1w b):q1w (a ++ b):=fun d hd=>by
 rcases List.mem_append.1 hd with hd | hd
 ·exact h d hd
 ·exact k d hd
def q1w.one {d:Nat} (h:d < B):q1w [d]:=fun x hx=>by simp at hx; subst hx; exact h
def q1w.snoc {a:List Nat} {d:Nat} (h:q1w a) (k:d < B):q1w (a ++ [d]):=h.append (.one k)
def q1F {l:List Nat} {i:Nat} (h:i < l.length):l.getD i 0=l[i]:=(List.getElem_eq_getD 0).symm
def q1w.get {l:List Nat} (h:q1w l) (i:Nat):l.getD i 0 < B:=by
 rcases Nat.lt_or_ge i l.length with hi | hi
 ·rw [q1F hi]; exact h _ (List.getElem_mem hi)
 ·simp [List.getD,List.getElem?_eq_none hi,q4d]
def q1w.set {l:List Nat} (h:q1w l) (i d:Nat) (hd:d < B):q1w (l.set i d):=fun x hx=>by
 rcases List.mem_or_eq_of_mem_set hx with hx | rfl
 ·exact h x hx
 ·exact hd
def q1w.replicate (n:Nat):q1w (List.replicate n 0):=fun d hd=>by
 rw [List.mem_replicate] at hd; rw [hd.2]; exact q4d
def qdQ {α:Type} (l:List α) (i:Nat) (h:i < l.length):l.take (i+1)=l.take i ++ [l[i]]:=List.take_succ_eq_append_getElem h
def q33 (l:List Nat) (i:Nat) (h:i < l.length):l.take (i+1)=l.take i ++ [l.getD i 0]:=by
 rw [qdQ l i h,q1F h]
def qm0 (d:Nat):val [d]=d:=by simp [val]
def q2m (l:List Nat) (d:Nat):val (l ++ [d])=val l+B ^ l.length*d:=by rw [q32,qm0]
def q2A (l:List Nat) (i:Nat) (h:i < l.length):val (l.take (i+1))=val (l.take i)+B ^ i*l.getD i 0:=by
 rw [q33 l i h,q2m,List.length_take,Nat.min_eq_left (by omega)]
def q0K (l:List Nat) (i:Nat) (h:l.length≤i):val (l.take i)=val l:=by rw [List.take_of_length_le h]
def q1G (l:List Nat) (i:Nat) (h:i≤l.length):val l=val (l.take i)+B ^ i*val (l.drop i):=by
 have:=q32 (l.take i) (l.drop i);rw [List.take_append_drop,List.length_take,Nat.min_eq_left h] at this;exact this
def q2p (l:List Nat) (i d:Nat):(l.set i d).take i=l.take i:=List.take_set_of_le (Nat.le_refl i)
def q5b {n : Nat} (h : n ≠ 0) : (lim n).getD ((lim n).length - 1) 0 ≠ 0 := by
  induction n using q73 with
  | h0 => exact absurd rfl h
  | hs n h ih =>
    rw [q3v h]
    by_cases h0 : n / B = 0
    · rw [h0, q2U]
      have : n < B := by rcases Nat.lt_or_ge n B with h1 | h1
                         · exact h1
                         · have := Nat.div_pos h1 q4d; omega
      simp [Nat.mod_eq_of_lt this, h]
    · have := ih h0
      have hp := q0R.2 h0
      simp only [List.length_cons, Nat.add_sub_cancel]
      obtain ⟨k, hk⟩ : ∃ k, (lim (n / B)).length = k + 1 := ⟨(lim (n / B)).length - 1, by omega⟩
      rw [hk] at this ⊢
      simpa using this
def q9e {d m:Nat} (hd:d < B) (h:d+B*m≠0):lim (d+B*m)=d :: lim m:=by
 rw [q3v h];rw [Nat.add_mul_mod_self_left,Nat.mod_eq_of_lt hd,Nat.add_mul_div_left _ _ q4d,Nat.div_eq_of_lt hd,Nat.zero_add]
def q3J:∀ {l:List Nat},l≠[]→l.getD (l.length-1) 0≠0→val l≠0
 | [],h,_=>absurd rfl h
 | [d],_,k=>by simpa [val] using k
 | d :: e :: l,_,k=>by
  have:=q3J (l:=e :: l) (by simp) (by simpa using k);have hB:=q4d;have:0 < B*val (e :: l):=Nat.mul_pos hB Oq;rw [val]; omega
def qem:∀ {l:List Nat},q1w l→(l=[]∨l.getD (l.length-1) 0≠0)→lim (val l)=l
 | [],_,_=>rfl
 | d :: l,h,k=>by
  have hd:=h d List.mem_cons_self;have hl:q1w l:=fun x hx=>h x (List.mem_cons_of_mem _ hx);have k':(d :: l).getD ((d :: l).length-1) 0≠0:=k.resolve_left (by simp);have hv:=q3J (l:=d :: l) (by simp) k';rw [val] at hv ⊢;rw [q9e hd hv,qem hl];cases l with
  | nil=>exact .inl rfl
  | cons e l=>exact .inr (by simpa using k')
def qm1 {l:List Nat} {n:Nat} (h:q1w l) (hn:n≤l.length) (hz:∀ i,n≤i→i < l.length→l.getD i 0=0) (hl:n=0∨l.getD (n-1) 0≠0):l.take n=lim (val l):=by
 have hd:val (l.drop n)=0:=by
  have:l.drop n=List.replicate (l.length-n) 0:=by
   apply List.ext_getElem (by simp)
   intro i h1 h2;have:=hz (n+i) Oq (by simp at h1; omega);rw [q1F (by simp at h1; omega)] at this;simp [this]
  rw [this,q1p]
 have hv:val l=val (l.take n):=by rw [q1G l n hn,hd]; simp
 rw [hv,qem (h.take n)]
 rcases hl with rfl | hl
 ·exact .inl (by simp)
 ·by_cases h0:n=0
  ·exact .inl (by simp [h0])
  ·refine .inr ?_;rw [List.length_take,Nat.min_eq_left hn];rw [q1F (by omega)] at hl;rw [q1F (by simp; omega)];simpa using hl
def q1X (n:Nat):n < B ^ (lim n).length:=by
 have:=q1V (q1b n); rwa [q0I] at this
def q2a {n:Nat} (h:n≠0):B ^ ((lim n).length-1)≤n:=by
 induction n using q73 with
 | h0=>exact absurd rfl h
 | hs n h ih =>
  rw [q3v h];simp only [List.length_cons,Nat.add_sub_cancel]
  by_cases h0:n / B=0
  ·rw [h0,q2U]; simp; omega
  ·have:=ih h0;have hp:=q0R.2 h0;obtain ⟨k,hk⟩:∃ k,(lim (n / B)).length=k+1:=⟨(lim (n / B)).length-1,by omega⟩;rw [hk] at this ⊢;simp only [Nat.add_sub_cancel] at this;rw [Nat.pow_succ];exact Nat.le_trans (Nat.mul_le_mul_right B this) (Nat.div_mul_le_self n B)
def q2V {n k:Nat} (h:n < B ^ k):(lim n).length≤k:=by
 by_cases h0:n=0
 ·subst h0; simp [q2U]
 ·have h1:=q2a h0;have h2:B ^ ((lim n).length-1) < B ^ k:=Nat.lt_of_le_of_lt h1 h;have:=(Nat.pow_lt_pow_iff_right qwG).1 h2;omega
def q2t {m n:Nat} (h:m≤n):(lim m).length≤(lim n).length:=q2V (Nat.lt_of_le_of_lt h (q1X n))
def q2S {m n:Nat} (h:(lim m).length < (lim n).length):m < n:=by
 rcases Nat.lt_or_ge m n with k | k
 ·exact k
 ·have:=q2t k; omega
def q4E {a b:List Nat} {i:Nat} (ha:q1w a) (hl:a.length=b.length) (hi:i < a.length)
  (hs:a.drop (i+1)=b.drop (i+1)) (hlt:a.getD i 0 < b.getD i 0):val a < val b:=by
 rw [q1G a (i+1) Oq,q1G b (i+1) Oq,hs,q2A a i hi,q2A b i (by omega)];have h1:=q1V (ha.take i);rw [List.length_take,Nat.min_eq_left (by omega)] at h1;have h2:B ^ i*a.getD i 0+B ^ i≤B ^ i*b.getD i 0:=by rw [← Nat.mul_succ]; exact Nat.mul_le_mul_left _ hlt
 omega
end Go.Sp
namespace Go.E
open Go Go.RowKit
structure Kp (D:Nat→Prop) (w w':World):Prop where
 os:w'.os=w.os
 tape:w'.tape=w.tape
 output:w'.output=w.output
 size:w.heap.size≤w'.heap.size
 block:∀ k,k < w.heap.size→D k→w'.heap[k]?=w.heap[k]?
abbrev Ext (w w':World):Prop:=Kp (fun _=>True) w w'
def Ck {P:Program} {f:FuncId} {args:List Value} {v:Value} {w:World} {K:Value→World→Prop} (hc:q0C P f=true) (h:Calls P f args.toArray w fun e w'=>e=.returned v∧Ext w w') (k:∀ w',Ext w w'→K v w'):q7j P f args w K:=q0F hc h fun x w' ⟨h1,h2⟩=>⟨v,h1,k w' h2⟩
def Fr (D:Nat→Prop) (w:World):Prop:=∀ k,w.heap.size≤k→D k
section
variable {D D':Nat→Prop} {w w' w'':World}
def Kp.refl (D:Nat→Prop) (w:World):Kp D w w:=⟨rfl,rfl,rfl,Nat.le_refl _,fun _ _ _=>rfl⟩
def Kp.trans (h:Kp D w w') (k:Kp D w' w''):Kp D w w'' :=
 ⟨k.os.trans h.os,k.tape.trans h.tape,k.output.trans h.output,Nat.le_trans h.size k.size,fun i hi hd=>(k.block i (Nat.lt_of_lt_of_le hi h.size) hd).trans (h.block i hi hd)⟩
def Kp.mono (h:Kp D w w') (hd:∀ k,k < w.heap.size→D' k→D k):Kp D' w w':=⟨h.os,h.tape,h.output,h.size,fun k hk hk'=>h.block k hk (hd k hk hk')⟩
def Kp.of_ext (h:Ext w w'):Kp D w w':=h.mono fun _ _ _=>trivial
def Kp.drew (w:World) (k:Nat):Kp D w { w with drawn:=k }:=⟨rfl,rfl,rfl,Nat.le_refl _,fun _ _ _=>rfl⟩
def Kp.alloc (w:World) (o:Obj):Kp D w (w.alloc o):=⟨rfl,rfl,rfl,by simp,fun k hk _=>Below.heap_alloc w o k hk⟩
def Kp.setCell (w:World) {p:Addr} (hp:p.block < w.heap.size→¬ D p.block) (v:Value):Kp D w (w.setCell p v) :=
 ⟨rfl,rfl,rfl,by simp [World.setCell],fun k hk hd=>Below.heap_setCell w p v k (fun e=>by subst e; exact hp hk hd)⟩
def Kp.pre (D:Nat→Prop):Pre (Kp D):=⟨Kp.refl D,fun h k=>h.trans k,fun w k=>Kp.drew w k⟩
def Kp.cell (h:Kp D w w') {p:Addr} {v:Value} (hd:D p.block) (hc:w.cell? p=some v):w'.cell? p=some v:=by
 have hlt:=World.block_lt_of_cell? w p hc;rw [← hc];exact World.cell?_of_block (h.block p.block hlt hd)
def Kp.of_grown {row:Option Nat} (h:w.grownBy w' row) (hr:∀ k,k < w.heap.size→row=some k→¬ D k):Kp D w w' :=
 ⟨h.os,h.tape,h.output,h.size,fun k hk hd=>h.block k hk fun e=>hr k hk e.symm hd⟩
def Kp.below (h:Ext w w'):Below w.heap.size w w':=⟨h.os,h.tape,h.output,h.size,fun k hk=>h.block k hk trivial⟩
def Fr.kp (h:Fr D w) (k:Kp D' w w'):Fr D w':=fun i hi=>h i (Nat.le_trans k.size hi)
def Fr.triv (w:World):Fr (fun _=>True) w:=fun _ _=>trivial
def Fr.grow (h:Fr D w) (hs:w.heap.size≤w'.heap.size):Fr D w':=fun i hi=>h i (Nat.le_trans hs hi)
def Dx (D:Nat→Prop) (a b:Nat):Nat→Prop:=fun k=>D k∧(k < a∨b≤k)
def Dx.sub {a b:Nat} {k:Nat} (h:Dx D a b k):D k:=h.1
def Dx.fr {a b:Nat} (h:Fr D w) (hb:b≤w.heap.size):Fr (Dx D a b) w:=fun k hk=>⟨h k hk,.inr (Nat.le_trans hb hk)⟩
def Dx.not {a b k:Nat} (h1:a≤k) (h2:k < b):¬ Dx D a b k:=fun h=>by rcases h.2 with h | h <;> omega
def Dx.lt {a b k:Nat} (h:D k) (hk:k < a):Dx D a b k:=⟨h,.inl hk⟩
def Dx.ge {a b k:Nat} (h:D k) (hk:b≤k):Dx D a b k:=⟨h,.inr hk⟩
def Blk (w:World) (g:Nat) (t:TypeId) (cs:Array Value):Prop:=w.heap[g]?=some (.cells cs t (0,0))
variable {g:Nat} {t:TypeId} {cs:Array Value}
def Blk.lt (h:Blk w g t cs):g < w.heap.size:=by
 rcases Nat.lt_or_ge g w.heap.size with hlt | hge
 ·exact hlt
 ·unfold Blk at h; rw [Array.getElem?_eq_none hge] at h; cases h
def Blk.cell (h:Blk w g t cs) (i:Nat):w.cell? ⟨g,i,none⟩=cs[i]?:=cell_of_row w g i cs t (0,0) h
def Blk.frozen (h:Blk w g t cs) (i:Nat):w.frozen? ⟨g,i,none⟩=false:=by unfold Blk at h; simp [World.frozen?,h]
def Blk.new (w:World) (t:TypeId) (cs:Array Value):Blk (w.alloc (.cells cs t)) w.heap.size t cs:=heap_alloc_new w _
def Blk.kp (h:Blk w g t cs) (hk:Kp D w w') (hd:D g):Blk w' g t cs:=(hk.block g h.lt hd).trans h
def Blk.ext (h:Blk w g t cs) (hk:Ext w w'):Blk w' g t cs:=(hk.block g h.lt trivial).trans h
def Blk.alloc (h:Blk w g t cs) (o:Obj):Blk (w.alloc o) g t cs:=(Below.heap_alloc w o g h.lt).trans h
def Blk.set (h:Blk w g t cs) (i:Nat) (u:Value):Blk (w.setCell ⟨g,i,none⟩ u) g t (cs.setIfInBounds i u):=by
 unfold Blk at h ⊢;simp [World.setCell,Array.getElem?_modify,h]
def q06 {b o i:Nat}:(⟨b,o,none⟩:Addr).add i=⟨b,o+i,none⟩:=by unfold Addr.add; split <;> simp_all
def q7r (a:Addr) (i j:Nat):(a.add i).add j=a.add (i+j):=by
 unfold Addr.add
 by_cases hi:i=0 <;> by_cases hj:j=0 <;> simp [hi,hj,Nat.add_assoc]
def q1U (a:Addr) (n:Nat):(a.add n).block=a.block:=by unfold Addr.add; split <;> rfl
def add_zero (a:Addr):a.add 0=a:=by simp [Addr.add]
def Blk.rd (h:Blk w g t cs):∀ (n i:Nat),i+n≤cs.size→q1C w ⟨g,0,none⟩ i n=some ((cs.toList.drop i).take n)
 | 0,i,_=>by simp [q1C]
 | n+1,i,hi=>by
  rw [rd_s,q06,Nat.zero_add,h.cell,h.rd n (i+1) (by omega)];have hlt:i < cs.size:=by omega
  have hd:cs.toList.drop i=cs[i] :: cs.toList.drop (i+1):=by rw [List.drop_eq_getElem_cons (by simpa using hlt)]; simp
  rw [Array.getElem?_eq_getElem hlt,hd];simp [qop]
def Blk.rdAll (h:Blk w g t cs) {n:Nat} (hn:cs.size=n):q1C w ⟨g,0,none⟩ 0 n=some cs.toList:=by
 rw [h.rd n 0 Oq,List.drop_zero,List.take_of_length_le (by simp [hn])]
def qdc {p:Addr}:∀ (vs:List Value) (i:Nat) (w:World),(p.block < w.heap.size→¬ D p.block)→Kp D w (stN w p i vs)
 | [],_,w,_=>Kp.refl D w
 | v :: vs,i,w,hp=>by
  have h1:Kp D w (w.setCell (p.add i) v):=Kp.setCell w (by rw [q1U]; exact hp) v;exact h1.trans (qdc vs (i+1) _ (by simpa [World.setCell] using hp))
def Blk.stOk (h:Blk w g t cs):∀ (vs:List Value) (i:Nat),i+vs.length≤cs.size→(∀ v ∈ vs,v.oneCell'=true)→stOk w ⟨g,0,none⟩ i vs
 | [],_,_,_=>trivial
 | v :: vs,i,hl,h1=>by
  have hlt:i < cs.size:=by simp at hl; omega
  refine ⟨?_,?_,h1 v List.mem_cons_self,h.stOk vs (i+1) (by simp at hl ⊢; omega) fun u hu=>h1 u (List.mem_cons_of_mem _ hu)⟩
  ·rw [q06,Nat.zero_add,h.cell,Array.getElem?_eq_getElem hlt]; rfl
  ·rw [q06,Nat.zero_add]; exact h.frozen i
def Blk.stN:∀ (vs:List Value) (i:Nat) (w:World) (cs:Array Value),Blk w g t cs→i+vs.length≤cs.size →
  ∃ cs',Blk (E.stN w ⟨g,0,none⟩ i vs) g t cs'∧cs'.size=cs.size∧(∀ j,j < i→cs'[j]?=cs[j]?)∧(∀ j,cs'[i+j]?=if j < vs.length then vs[j]? else cs[i+j]?)
 | [],i,w,cs,hb,_=>⟨cs,hb,rfl,fun _ _=>rfl,fun j=>by simp⟩
 | v :: vs,i,w,cs,hb,hl=>by
  have hs:=hb.set i v;have hlt:i < cs.size:=by simp at hl; omega
  obtain ⟨cs',h3,h4,h5,h6⟩:=Blk.stN vs (i+1) _ _ hs (by simp at hl ⊢; omega);refine ⟨cs',?_,?_,fun j hj=>?_,fun j=>?_⟩
  ·rw [E.stN,q06,Nat.zero_add]; exact h3
  ·rw [h4]; simp
  ·rw [h5 j Oq,Array.getElem?_setIfInBounds]; simp [show i≠j by omega]
  ·cases j with
   | zero=>rw [h5 (i+0) Oq,Array.getElem?_setIfInBounds]; simp [hlt]
   | succ j =>
    have:=h6 j;rw [show i+1+j=i+(j+1) by omega] at this;rw [this,Array.getElem?_setIfInBounds];simp
def Blk.store (h:Blk w g t cs) {vs:List Value} (hl:vs.length=cs.size):Blk (E.stN w ⟨g,0,none⟩ 0 vs) g t vs.toArray:=by
 obtain ⟨cs',h3,h4,_,h6⟩:=Blk.stN vs 0 w cs h Oq;have:cs'=vs.toArray:=by
  apply Array.ext_getElem?
  intro j;have:=h6 j;rw [Nat.zero_add] at this;rw [this]
  split
  ·simp
  ·rename_i hj;rw [Array.getElem?_eq_none (by omega)];simp; omega
 rw [← this]; exact h3
end
structure Row (w:World) (D:Nat→Prop) (sz:Nat) (A:Option Addr) (n c:Nat) (xs:List Value):Prop where
 cap:n≤c
 len:xs.length=n*sz
 at_:0 < xs.length→∃ ad,A=some ad∧D ad.block∧∀ j u,xs[j]?=some u→w.cell? (ad.add j)=some u
section
variable {D D':Nat→Prop} {w w':World} {sz n c:Nat} {A:Option Addr} {xs:List Value}
def Row.nil (w:World) (D:Nat→Prop) (sz:Nat):Row w D sz none 0 0 []:=⟨Nat.le_refl _,by simp,fun h=>by simp at h⟩
def Row.kp (h:Row w D sz A n c xs) (hk:Kp D w w'):Row w' D sz A n c xs :=
 ⟨h.cap,h.len,fun hx=>by
  obtain ⟨ad,rfl,hd,hc⟩:=h.at_ hx;exact ⟨ad,rfl,hd,fun j u hu=>hk.cell (by rw [q1U]; exact hd) (hc j u hu)⟩⟩
def Row.sub (h:Row w D sz A n c xs) (hs:∀ k,k < w.heap.size→D k→D' k):Row w D' sz A n c xs :=
 ⟨h.cap,h.len,fun hx=>by
  obtain ⟨ad,rfl,hd,hc⟩:=h.at_ hx;refine ⟨ad,rfl,hs _ ?_ hd,hc⟩;have:=hc 0 xs[0] (List.getElem?_eq_getElem hx);have hlt:=World.block_lt_of_cell? w _ this
  rwa [q1U] at hlt⟩
def Row.lt (h:Row w D sz A n c xs):Row w (fun k=>D k∧k < w.heap.size) sz A n c xs:=h.sub fun _ hk hd=>⟨hd,hk⟩
def Row.take (h:Row w D sz A n c xs) {m:Nat} (hm:m≤n):Row w D sz A m c (xs.take (m*sz)) :=
 ⟨Nat.le_trans hm h.cap,by rw [List.length_take,h.len,Nat.min_eq_left (Nat.mul_le_mul_right _ hm)],fun hx=>by
  obtain ⟨ad,rfl,hd,hc⟩:=h.at_ (by rw [List.length_take] at hx; omega);refine ⟨ad,rfl,hd,fun j u hu=>hc j u ?_⟩;rw [List.getElem?_take] at hu
  split at hu
  ·exact hu
  ·cases hu⟩
def Row.drop (h:Row w D sz A n c xs) {m:Nat} (hm:m≤n):Row w D sz (if c=m then A else A.map (·.add (m*sz))) (n-m) (c-m) (xs.drop (m*sz)) :=
 ⟨Nat.sub_le_sub_right h.cap m,by rw [List.length_drop,h.len,Nat.sub_mul],fun hx=>by
  rw [List.length_drop,h.len] at hx;obtain ⟨ad,rfl,hd,hc⟩:=h.at_ (by rw [h.len]; omega);have hne:¬ c=m:=fun e=>by
   subst e;have hcn:n=c:=Nat.le_antisymm h.cap hm;subst hcn; omega
  rw [if_neg hne];refine ⟨ad.add (m*sz),rfl,by rw [q1U]; exact hd,fun j u hu=>?_⟩;rw [q7r];exact hc _ u (by rw [← hu,List.getElem?_drop])⟩
def Row.get (h:Row w D sz A n c xs) {j:Nat} (hj:j < xs.length):∃ ad,A=some ad∧w.cell? (ad.add j)=some xs[j]:=by
 obtain ⟨ad,rfl,_,hc⟩:=h.at_ Oq;exact ⟨ad,rfl,hc j _ (List.getElem?_eq_getElem hj)⟩
end
attribute [go_sem] q06 Nat.zero_add
def q5K (o:Oper):Bool:=match o.op with
 | .move _ | .assign _ | .pick _ _ _ | .build _ _ | .load _ _ | .binOp _ _ _ _ _ | .unOp _ _ _ | .convert _ _ _ | .fieldAddr _ _ _ | .indexAddr _ _ _ | .extract _ _=>true
 | .slice _ _ _ _ none=>true
 | .call c=>match c.callee with | .builtin .len | .builtin .max | .builtin .min=>true | _=>false
 | _=>false
def q6J (o:Oper):Bool:=match o.op with | .load _ _=>true | _=>false
section
variable {P:Program} {n:Nat} {R:World→World→Prop}
def qkc {w w':World} (hx:Ext w w') {p:Addr}:∀ (k i:Nat) (l:List Value),q1C w p i k=some l→q1C w' p i k=some l
 | 0,_,_,h=>h
 | k+1,i,l,h=>by
  simp only [q1C] at h ⊢
  split at h
  ·rename_i v l' h1 h2;rw [hx.cell (D:=fun _=>True) trivial h1,qkc hx k (i+1) l' h2];exact h
  ·cases h
def qst {w w':World} (hx:Ext w w') {k:Option (Option Nat)} {a v:Value} (h:ldV w k a=some v):ldV w' k a=some v:=by
 unfold ldV at h ⊢
 split at h
 ·split at h
  ·exact hx.cell (D:=fun _=>True) trivial h
  ·rw [Option.map_eq_some_iff] at h;obtain ⟨l,h1,h2⟩:=h;rw [qkc hx _ _ _ h1,← h2]; rfl
  ·cases h
 ·cases h
def qqe {o:Oper} (hp:q5K o=true) {e:Env} {w:World} {K:Value→World→Prop} (h:wo P o e w K) :
  ∃ v,K v w∧∀ (e2:Env) (w':World),(∀ x ∈ o.op.operands.toList,ev e2 x=ev e x)→(q6J o=true→Ext w w')→∀ K':Value→World→Prop,K' v w'→wo P o e2 w' K':=by
 obtain ⟨d,op,ty,pos,af,g⟩:=o;cases op <;> (try (cases hp; done)) <;> simp only [wo] at h
 case move x=>exact ⟨_,h,fun e2 w' hop _ K' hk=>by simp only [wo]; rw [hop x (by simp [Op.operands])]; exact hk⟩
 case assign x=>exact ⟨_,h,fun e2 w' hop _ K' hk=>by simp only [wo]; rw [hop x (by simp [Op.operands])]; exact hk⟩
 case pick c a b =>
  split at h
  ·rename_i hc;exact ⟨_,h,fun e2 w' hop _ K' hk=>by simp only [wo]; rw [hop c (by simp [Op.operands]),hc,hop a (by simp [Op.operands])]; exact hk⟩
  ·rename_i hc;exact ⟨_,h,fun e2 w' hop _ K' hk=>by simp only [wo]; rw [hop c (by simp [Op.operands]),hc,hop b (by simp [Op.operands])]; exact hk⟩
  ·exact h.elim
 case build t ps =>
  obtain ⟨cs,h1,h2⟩:=q0W h;refine ⟨_,h2,fun e2 w' hop _ K' hk=>?_⟩;simp only [wo];have:(ps.map fun (i,x)=>(i,ev e2 x))=ps.map fun (i,x)=>(i,ev e x):=by
   apply Array.map_congr_left
   intro a ha;obtain ⟨i,x⟩:=a;simp only [Prod.mk.injEq,true_and];exact hop x (by simp only [Op.operands,List.mem_map]; exact ⟨(i,x),by simpa using ha,rfl⟩)
  rw [this,h1]; exact hk
 case load t a =>
  obtain ⟨v,h1,h2⟩:=q0W h;refine ⟨_,h2,fun e2 w' hop hx K' hk=>?_⟩;simp only [wo];rw [hop a (by simp [Op.operands]),qst (hx rfl) h1]; exact hk
 case binOp op t x y t' =>
  obtain ⟨v,h1,h2⟩:=q0W h;refine ⟨_,h2,fun e2 w' hop hx K' hk=>?_⟩;simp only [wo];rw [hop x (by simp [Op.operands]),hop y (by simp [Op.operands]),h1]; exact hk
 case unOp op t x =>
  obtain ⟨v,h1,h2⟩:=q0W h;refine ⟨_,h2,fun e2 w' hop hx K' hk=>?_⟩;simp only [wo];rw [hop x (by simp [Op.operands]),h1]; exact hk
 case convert s t x =>
  obtain ⟨v,h1,h2⟩:=q0W h;refine ⟨_,h2,fun e2 w' hop hx K' hk=>?_⟩;simp only [wo];rw [hop x (by simp [Op.operands]),h1]; exact hk
 case fieldAddr t x f =>
  split at h
  ·rename_i p hp';obtain ⟨v,h1,h2⟩:=q0W h;refine ⟨_,h2,fun e2 w' hop hx K' hk=>?_⟩;simp only [wo];rw [hop x (by simp [Op.operands]),hp'];simp only [h1]; exact hk
  ·exact h.elim
 case indexAddr t x i =>
  obtain ⟨v,h1,h2⟩:=q0W h;refine ⟨_,h2,fun e2 w' hop hx K' hk=>?_⟩;simp only [wo];rw [hop x (by simp [Op.operands]),hop i (by simp [Op.operands]),h1]; exact hk
 case slice t x lo hi m =>
  cases m with
  | some m=>cases hp
  | none =>
   obtain ⟨v,h1,h2⟩:=q0W h;refine ⟨_,h2,fun e2 w' hop hx K' hk=>?_⟩;have hl:lo.map (ev e2)=lo.map (ev e):=by
    cases lo with
    | none=>rfl
    | some y=>simp only [Option.map_some]; rw [hop y (by simp [Op.operands])]
   have hh:hi.map (ev e2)=hi.map (ev e):=by
    cases hi with
    | none=>rfl
    | some y=>simp only [Option.map_some]; rw [hop y (by simp [Op.operands])]
   simp only [wo];rw [hop x (by simp [Op.operands]),hl,hh,h1]; exact hk
 case extract x i =>
  obtain ⟨v,h1,h2⟩:=q0W h;refine ⟨_,h2,fun e2 w' hop hx K' hk=>?_⟩;simp only [wo];rw [hop x (by simp [Op.operands]),h1]; exact hk
 case call c =>
  obtain ⟨ca,ar,ts⟩:=c;have hargs:∀ e2:Env,(∀ x ∈ (Op.call ⟨ca,ar,ts⟩).operands.toList,ev e2 x=ev e x)→ar.toList.map (ev e2)=ar.toList.map (ev e):=fun e2 hop=>by
   apply List.map_congr_left
   intro x hx;exact hop x (by simp only [Op.operands,Call.operands,Array.toList_append,List.mem_append]; exact .inr hx)
  cases ca with
  | builtin b =>
   cases b <;> (try (cases hp; done)) <;> simp only [] at h
   case len =>
    split at h
    ·rename_i x t hx ht;obtain ⟨v,h1,h2⟩:=q0W h;refine ⟨_,h2,fun e2 w' hop _ K' hk=>?_⟩;have:=hargs e2 hop;rw [hx] at this;simp only [wo,hx,ht];simp only [List.map_cons,List.map_nil,List.cons.injEq,and_true] at this;rw [this,h1]; exact hk
    ·exact h.elim
   case max =>
    obtain ⟨v,h1,h2⟩:=q0W h;refine ⟨_,h2,fun e2 w' hop _ K' hk=>?_⟩;simp only [wo];rw [hargs e2 hop,h1]; exact hk
   case min =>
    obtain ⟨v,h1,h2⟩:=q0W h;refine ⟨_,h2,fun e2 w' hop _ K' hk=>?_⟩;simp only [wo];rw [hargs e2 hop,h1]; exact hk
  | _=>cases hp
def qax {ops:Array Oper} {o:Oper} {e e2:Env} (h:∀ t,q1g ops o t=true→e2 t=e t):∀ x ∈ o.op.operands.toList,ev e2 x=ev e x:=by
 intro x hx;cases x with
 | tmp t =>
  refine h t ?_;unfold q1g Oper.looksAt;rw [List.any_eq_true];exact ⟨t,List.mem_append_left _ (List.mem_filterMap.2 ⟨_,hx,rfl⟩),by simp⟩
 | const v=>rfl
 | global v=>rfl
 | func v=>rfl
def q4o {ops:Array Oper} {o:Oper} {e e2:Env} (h:∀ t,q1g ops o t=true→e2 t=e t):q6z ops e2 o=q6z ops e o:=by
 unfold q6z;cases hg:o.guard with
 | none=>rfl
 | some g =>
  obtain ⟨j,b⟩:=g;simp only;unfold q4B;cases hd:(ops[j]?).bind (·.dst) with
  | none=>rfl
  | some d =>
   have:e2 d=e d:=h d (by
    unfold q1g Oper.looksAt;rw [List.any_eq_true];exact ⟨d,List.mem_append_right _ (by rw [hg]; simp only [hd]; simp),by simp⟩)
   simp only [this]
def qdF {ops:Array Oper} {o:Oper} (hp:q5K o=true) {e:Env} {w:World} {K:Value→World→Prop} (h:wg P ops o e w K) :
  ∃ v,K v w∧∀ (e2:Env) (w':World),(∀ t,q1g ops o t=true→e2 t=e t)→(q6J o=true→Ext w w')→∀ K':Value→World→Prop,K' v w'→wg P ops o e2 w' K':=by
 unfold wg at h
 split at h
 ·rename_i hw;obtain ⟨v,h1,h2⟩:=qqe hp h;refine ⟨v,h1,fun e2 w' hl hx K' hk=>?_⟩;unfold wg;rw [q4o hl,if_pos hw];exact h2 e2 w' (qax hl) hx K' hk
 ·rename_i hw;refine ⟨_,h,fun e2 w' hl hx K' hk=>?_⟩;unfold wg;rw [q4o hl,if_neg hw];exact hk
def WLm (P:Program) (ops:Array Oper) (K:Env→Prop):List Bool→List Oper→Env→World→Prop
 | true :: m,o :: os,e,w=>wg P ops o e w fun v _=>WLm P ops K m os (put e o.dst v) w
 | false :: m,_ :: os,e,w=>WLm P ops K m os e w
 | _,_,e,_=>K e
def q1v:List Bool→List Oper→Nat→Bool
 | false :: m,o :: os,t=>wrO t o || q1v m os t
 | true :: m,_ :: os,t=>q1v m os t
 | _,_,_=>false
def q0j:List Bool→List Oper→List Nat
 | true :: m,o :: os=>match o.dst with | some d=>d :: q0j m os | none=>q0j m os
 | false :: m,_ :: os=>q0j m os
 | _,_=>[]
def q5D (lc:Bool) (ops:List Oper) (mask:List Bool):Bool :=
 Nat.beq mask.length ops.length && (List.range ops.length).all fun i=>match ops[i]? with
  | some o=>!(mask.getD i false) || (q5K o && (lc || !q6J o) && (List.range ops.length).all fun j=>!q0q o j || mask.getD j false)
  | none=>true
def q4P (mask:List Bool) (ops:List Oper) (es:Env) (l:List (Nat × q1D R)):List (Nat × q1D R):=(q0j mask ops).map (fun t=>(t,is (es t))) ++ l
def q2T {S:List Nat} {es:Env} {l:List (Nat × q1D R)} {t:Nat}:look (S.map (fun t=>(t,(is (es t):q1D R))) ++ l) t=if t ∈ S then is (es t) else look l t:=by
 induction S with
 | nil=>simp
 | cons s S ih =>
  simp only [List.map_cons,List.cons_append,look,List.mem_cons]
  by_cases h:s=t
  ·subst h; simp
  ·rw [if_neg h,ih];have:¬ t=s:=fun e=>h e.symm;simp [this]
def q0i {t:Nat}:∀ {m:List Bool} {os:List Oper},t ∈ q0j m os ↔ ∃ (i:Nat) (o:Oper),os[i]?=some o∧m[i]?=some true∧o.dst=some t
 | [],_=>by simp [q0j]
 | b :: m,[]=>by cases b <;> simp [q0j]
 | true :: m,o :: os=>by
  have ih:=q0i (t:=t) (m:=m) (os:=os)
  constructor
  ·intro h;unfold q0j at h;cases hd:o.dst with
   | none =>
    rw [hd] at h; simp only at h;obtain ⟨i,p,h1,h2,h3⟩:=ih.1 h;exact ⟨i+1,p,by simpa using h1,by simpa using h2,h3⟩
   | some d =>
    rw [hd] at h; simp only [List.mem_cons] at h
    rcases h with rfl | h
    ·exact ⟨0,o,rfl,rfl,hd⟩
    ·obtain ⟨i,p,h1,h2,h3⟩:=ih.1 h;exact ⟨i+1,p,by simpa using h1,by simpa using h2,h3⟩
  ·rintro ⟨i,p,h1,h2,h3⟩;unfold q0j;cases i with
   | zero=>simp at h1; subst h1; rw [h3]; simp
   | succ i =>
    have:=ih.2 ⟨i,p,by simpa using h1,by simpa using h2,h3⟩;cases o.dst <;> simp [this]
 | false :: m,o :: os=>by
  have ih:=q0i (t:=t) (m:=m) (os:=os);simp only [q0j]
  constructor
  ·intro h;obtain ⟨i,p,h1,h2,h3⟩:=ih.1 h;exact ⟨i+1,p,by simpa using h1,by simpa using h2,h3⟩
  ·rintro ⟨i,p,h1,h2,h3⟩;cases i with
   | zero=>simp at h2
   | succ i=>exact ih.2 ⟨i,p,by simpa using h1,by simpa using h2,h3⟩
def q1o {t:Nat}:∀ {m:List Bool} {os:List Oper},q1v m os t=true ↔ ∃ (i:Nat) (o:Oper),os[i]?=some o∧m[i]?=some false∧o.dst=some t
 | [],_=>by simp [q1v]
 | b :: m,[]=>by cases b <;> simp [q1v]
 | false :: m,o :: os=>by
  have ih:=q1o (t:=t) (m:=m) (os:=os);simp only [q1v,Bool.or_eq_true,q3o]
  constructor
  ·rintro (h | h)
   ·exact ⟨0,o,rfl,rfl,h⟩
   ·obtain ⟨i,p,h1,h2,h3⟩:=ih.1 h;exact ⟨i+1,p,by simpa using h1,by simpa using h2,h3⟩
  ·rintro ⟨i,p,h1,h2,h3⟩;cases i with
   | zero=>simp at h1; subst h1; exact .inl h3
   | succ i=>exact .inr (ih.2 ⟨i,p,by simpa using h1,by simpa using h2,h3⟩)
 | true :: m,o :: os=>by
  have ih:=q1o (t:=t) (m:=m) (os:=os);simp only [q1v]
  constructor
  ·intro h;obtain ⟨i,p,h1,h2,h3⟩:=ih.1 h;exact ⟨i+1,p,by simpa using h1,by simpa using h2,h3⟩
  ·rintro ⟨i,p,h1,h2,h3⟩;cases i with
   | zero=>simp at h2
   | succ i=>exact ih.2 ⟨i,p,by simpa using h1,by simpa using h2,h3⟩
def q2f {ops:Array Oper} {K:Env→Prop} {w:World}:∀ (m:List Bool) (os:List Oper) (ek:Env),
  (∀ (i j:Nat) (o p:Oper) (d:Nat),os[i]?=some o→os[j]?=some p→o.dst=some d→p.dst=some d→i=j)→(∀ (i:Nat) (o:Oper),os[i]?=some o→m[i]?=some true→q5K o=true)→WLm P ops K m os ek w →
  ∃ es,K es∧(∀ t,t ∉ q0j m os→es t=ek t)∧∀ (i:Nat) (o:Oper),os[i]?=some o→m[i]?=some true→∃ (ei:Env) (v:Value),
   (∀ t,(∀ (j:Nat) (p:Oper),j < i→os[j]?=some p→m[j]?=some true→p.dst≠some t)→ei t=ek t) ∧
   (∀ t,(∃ (j:Nat) (p:Oper),j < i∧os[j]?=some p∧m[j]?=some true∧p.dst=some t)→ei t=es t) ∧
   (∀ d,o.dst=some d→es d=v) ∧
   ∀ (e2:Env) (w':World),(∀ t,q1g ops o t=true→e2 t=ei t)→(q6J o=true→Ext w w')→∀ K':Value→World→Prop,K' v w'→wg P ops o e2 w' K'
 | [],os,ek,_,_,h=>⟨ek,by cases os <;> exact h,fun _ _=>rfl,fun i o _ h=>by simp at h⟩
 | b :: m,[],ek,_,_,h=>⟨ek,by cases b <;> exact h,fun _ _=>rfl,fun i o h=>by simp at h⟩
 | false :: m,o :: os,ek,hd,hp,h=>by
  obtain ⟨es,h1,h2,h3⟩:=q2f m os ek (fun i j o p d a b c e=>by have:=hd (i+1) (j+1) o p d (by simpa using a) (by simpa using b) c e; omega) (fun i o a b=>hp (i+1) o (by simpa using a) (by simpa using b)) h;refine ⟨es,h1,h2,fun i p hi hm=>?_⟩;cases i with
  | zero=>simp at hm
  | succ i =>
   obtain ⟨ei,v,g1,g2,g3,g4⟩:=h3 i p (by simpa using hi) (by simpa using hm);refine ⟨ei,v,fun t ht=>g1 t fun j q hj hq hmj=>ht (j+1) q Oq (by simpa using hq) (by simpa using hmj),fun t ⟨j,q,hj,hq,hmj,hdq⟩=>?_,g3,g4⟩;cases j with
   | zero=>simp at hmj
   | succ j=>exact g2 t ⟨j,q,by omega,by simpa using hq,by simpa using hmj,hdq⟩
 | true :: m,o :: os,ek,hd,hp,h=>by
  obtain ⟨v,hv,hre⟩:=qdF (hp 0 o rfl rfl) h;obtain ⟨es,h1,h2,h3⟩:=q2f m os (put ek o.dst v) (fun i j o p d a b c e=>by have:=hd (i+1) (j+1) o p d (by simpa using a) (by simpa using b) c e; omega) (fun i o a b=>hp (i+1) o (by simpa using a) (by simpa using b)) hv;have hne:∀ d,o.dst=some d→d ∉ q0j m os:=fun d hod hm=>by
   obtain ⟨i,p,a,b,c⟩:=q0i.1 hm;have:=hd 0 (i+1) o p d rfl (by simpa using a) hod c;omega
  have hes:∀ d,o.dst=some d→es d=v:=fun d hod=>by rw [h2 d (hne d hod),hod]; simp [put,upd]
  refine ⟨es,h1,fun t ht=>?_,fun i p hi hm=>?_⟩
  ·have hn:t ∉ q0j m os:=fun hm=>ht (by unfold q0j; cases o.dst <;> simp [hm]);rw [h2 t hn];unfold put;cases hod:o.dst with
   | none=>rfl
   | some d =>
    have:t≠d:=fun e=>by subst e; exact ht (by unfold q0j; rw [hod]; simp)
    simp [upd,this]
  ·cases i with
   | zero =>
    simp at hi; subst hi;exact ⟨ek,v,fun _ _=>rfl,fun t ⟨j,_,hj,_⟩=>by omega,hes,hre⟩
   | succ i =>
    obtain ⟨ei,u,g1,g2,g3,g4⟩:=h3 i p (by simpa using hi) (by simpa using hm);refine ⟨ei,u,fun t ht=>?_,fun t ⟨j,q,hj,hq,hmj,hdq⟩=>?_,g3,g4⟩
    ·rw [g1 t fun j q hj hq hmj=>ht (j+1) q Oq (by simpa using hq) (by simpa using hmj)];have h0:=ht 0 o Oq rfl rfl;unfold put;cases hod:o.dst with
     | none=>rfl
     | some d =>
      have:t≠d:=fun e=>by subst e; exact h0 hod
      simp [upd,this]
    ·cases j with
     | zero =>
      simp at hq; subst hq;rw [hes t hdq];rw [g1 t fun j q' hj' hq' hmj' hdq'=>by
       have:=hd 0 (j+1) o q' t rfl (by simpa using hq') hdq hdq';omega]
      rw [hdq]; simp [put,upd]
     | succ j=>exact g2 t ⟨j,q,by omega,by simpa using hq,by simpa using hmj,hdq⟩
def qcr:List Bool→List Oper→List Oper
 | false :: m,o :: os=>o :: qcr m os
 | true :: m,_ :: os=>qcr m os
 | _,_=>[]
def qkF (P:Program) (ops:List Oper) (R:World→World→Prop) (mask:List Bool) (l:List (Nat × q1D R)) (es:Env) (w:World) (o:Oper):Prop :=
 ∀ e' w',R w w'→(∀ t,dep ops.toArray o t=true→q1v mask ops t=true→(look l t).1 (e' t) w')→(∀ t,q1g ops.toArray o t=true→q1v mask ops t=false→e' t=es t) →
  wg P ops.toArray o e' w' fun v w''=>R w' w''∧∀ d,o.dst=some d→(look l d).1 v w''
def q3k (P:Program) (ops:List Oper) (R:World→World→Prop) (mask:List Bool) (l:List (Nat × q1D R)) (es:Env) (w:World):List Oper→Prop
 | []=>True
 | o :: rest=>qkF P ops R mask l es w o∧q3k P ops R mask l es w rest
def q3k.get {ops:List Oper} {mask:List Bool} {l:List (Nat × q1D R)} {es:Env} {w:World}:∀ {os:List Oper},q3k P ops R mask l es w os→∀ o ∈ os,qkF P ops R mask l es w o:=by
 intro os
 induction os with
 | nil=>intro _ o ho; cases ho
 | cons a rest ih =>
  intro h x hx
  rcases List.mem_cons.1 hx with hx | hx
  ·rw [hx]; exact h.1
  ·exact ih h.2 x hx
def q52 {o:Oper}:∀ {m:List Bool} {os:List Oper} {i:Nat},os[i]?=some o→m[i]?=some false→o ∈ qcr m os
 | [],_,_,_,h=>by simp at h
 | b :: m,[],_,h,_=>by simp at h
 | false :: m,p :: os,0,h,_=>by simp at h; subst h; simp [qcr]
 | true :: m,p :: os,0,_,h=>by simp at h
 | false :: m,p :: os,i+1,h,k=>by
  have:=q52 (m:=m) (os:=os) (i:=i) (by simpa using h) (by simpa using k);simp [qcr,this]
 | true :: m,p :: os,i+1,h,k=>by
  have:=q52 (m:=m) (os:=os) (i:=i) (by simpa using h) (by simpa using k);simpa [qcr] using this
def q2N.of {ops:Array Oper} {l:List (Nat × q1D R)} {e:Env} {w:World}:∀ {os:List Oper},(∀ o ∈ os,q3l P ops R l e w o)→q2N P ops R l e w os
 | [],_=>trivial
 | o :: os,h=>⟨h o List.mem_cons_self,q2N.of fun p hp=>h p (List.mem_cons_of_mem _ hp)⟩
def qpz (P:Program) (ops:Array Oper) (R:World→World→Prop) (l:List (Nat × q1D R)) (e:Env) (w:World) (o:Oper):Prop :=
 ∀ e' w',R w w'→(∀ t,dep ops o t=true→(look l t).1 (e' t) w')→(∀ t,q1g ops o t=true→dep ops o t=false→e' t=e t) →
  wg P ops o e' w' fun v w''=>R w' w''∧∀ d,o.dst=some d→(look l d).1 v w''
def qpz.ok {ops:Array Oper} {l:List (Nat × q1D R)} {e:Env} {w:World} {o:Oper} (h:qpz P ops R l e w o):q3l P ops R l e w o:=fun e' w' a b c=>q0w (h e' w' a b c)
def q8k {ops:List Oper} {mask:List Bool} {l:List (Nat × q1D R)} {lc:Bool} {e:Env} {w:World} {K:Env→Prop} (hP:Pre R) (hld:lc=true→∀ w w',R w w'→Ext w w') (hok:q2I ops.toArray=true) (hm:q5D lc ops mask=true)
  (hw:WLm P ops.toArray K mask ops e w):∃ es,K es∧(∀ t,t ∉ q0j mask ops→es t=e t)∧(∀ t,t ∈ q0j mask ops→q1v mask ops t=false) ∧
   (∀ (i:Nat) (o:Oper),ops[i]?=some o→(mask[i]?=some false→qkF P ops R mask l es w o)→qpz P ops.toArray R (q4P mask ops es l) e w o):=by
 unfold q5D at hm;rw [Bool.and_eq_true] at hm;obtain ⟨hlen,hm⟩:=hm;have hlen:mask.length=ops.length:=Nat.eq_of_beq_eq_true hlen;rw [List.all_eq_true] at hm;have hm':∀ (i:Nat) (o:Oper),ops[i]?=some o→mask[i]?=some true→q5K o=true∧(lc=true∨q6J o=false)∧∀ j,q0q o j=true→j < ops.length→mask[j]?=some true:=fun i o hi hmi=>by
  have hlt:=(List.getElem?_eq_some_iff.1 hi).1;have:=hm i (List.mem_range.2 hlt);rw [hi] at this;have hg:mask.getD i false=true:=by simp [List.getD,hmi]
  simp only [hg,Bool.not_true,Bool.false_or,Bool.and_eq_true,Bool.or_eq_true,Bool.not_eq_true',List.all_eq_true,List.mem_range] at this;refine ⟨this.1.1,this.1.2,fun j hj hjl=>?_⟩;have:=this.2 j hjl;rw [hj] at this;simp only [Bool.true_eq_false,false_or] at this;rw [List.getElem?_eq_getElem (by omega)];rw [List.getD,List.getElem?_eq_getElem (by omega)] at this;simpa using this
 have dok:=DOk.of hok;unfold q2I at hok;rw [List.all_eq_true] at hok;have hpair:∀ (i j:Nat) (o p:Oper),ops[i]?=some o→ops[j]?=some p→i≠j→(∀ d,o.dst=some d→p.dst≠some d)∧∀ d,p.dst=some d→q1g ops.toArray o d=true→q0q o j=true∨q0q p i=true:=fun i j o p hi hj hij=>by
  have hlt:=(List.getElem?_eq_some_iff.1 hi).1;have hltj:=(List.getElem?_eq_some_iff.1 hj).1;have:=hok i (List.mem_range.2 (by simpa using hlt));simp only [hi,Bool.and_eq_true,List.all_eq_true] at this;have:=this.2 j (List.mem_range.2 (by simpa using hltj));simp only [hj,Bool.or_eq_true,Bool.and_eq_true] at this
  rcases this with h | ⟨h1,h2⟩
  ·exact absurd (Nat.eq_of_beq_eq_true h) hij
  ·refine ⟨fun d ho hp=>?_,fun d hp hl=>?_⟩
   ·rw [ho,hp] at h1; simp at h1
   ·rw [hp] at h2;simp only [hl,Bool.not_true,Bool.or_eq_true] at h2;simpa using h2
 have hafter:∀ (i j:Nat) (o:Oper),ops[i]?=some o→q0q o j=true→j < i:=fun i j o hi he=>by
  have hlt:=(List.getElem?_eq_some_iff.1 hi).1;have:=hok i (List.mem_range.2 (by simpa using hlt));simp only [hi,Bool.and_eq_true,List.all_eq_true] at this;obtain ⟨x,hx,hb,hon⟩:=q0c.1 he;have:=this.1.1 x (Array.mem_toList_iff.2 hx);simp only [hb,Bool.not_true,Bool.false_or,decide_eq_true_eq] at this;omega
 have hdd:∀ (i j:Nat) (o p:Oper) (d:Nat),ops[i]?=some o→ops[j]?=some p→o.dst=some d→p.dst=some d→i=j:=fun i j o p d hi hj ho hp=>by
  rcases Nat.decEq i j with h | h
  ·exact absurd hp ((hpair i j o p hi hj h).1 d ho)
  ·exact h
 have hmb:∀ (i:Nat),i < ops.length→mask[i]?=some true∨mask[i]?=some false:=fun i hi=>by
  rw [List.getElem?_eq_getElem (by omega)];cases mask[i] <;> simp
 obtain ⟨es,h1,h2,h3⟩:=q2f (P:=P) mask ops e hdd (fun i o a b=>(hm' i o a b).1) hw;have hdis:∀ t,t ∈ q0j mask ops→q1v mask ops t=false:=fun t ht=>by
  obtain ⟨i,o,a,b,c⟩:=q0i.1 ht;cases hl:q1v mask ops t with
  | false=>rfl
  | true =>
   obtain ⟨j,p,a',b',c'⟩:=q1o.1 hl;have:=hdd i j o p t a a' c c';subst this;rw [b] at b'; cases b'
 refine ⟨es,h1,h2,hdis,fun i o hi hstep e' w' hR hd ho=>?_⟩;have hlt:=(List.getElem?_eq_some_iff.1 hi).1;have hdepE:∀ t,dep ops.toArray o t=true→t ∈ q0j mask ops→e' t=es t:=fun t hdt hte=>by
  have:=hd t hdt;unfold q4P at this;rw [q2T,if_pos hte] at this;exact this
 rcases hmb i hlt with hmi | hmi
 ·obtain ⟨ei,v,g1,g2,g3,g4⟩:=h3 i o hi hmi;obtain ⟨hp,hlc,hed⟩:=hm' i o hi hmi;refine g4 e' w' (fun t ht=>?_) (fun hl=>hld (by rcases hlc with h | h; exact h; rw [hl] at h; cases h) _ _ hR) _ ⟨?_,fun d hod=>?_⟩
  ·cases hdt:dep ops.toArray o t with
   | true =>
    obtain ⟨j,p,hj,hej,hpd⟩:=q3V.1 hdt;have hj:ops[j]?=some p:=by simpa using hj
    have hjl:=(List.getElem?_eq_some_iff.1 hj).1;have hmj:=hed j hej hjl;rw [hdepE t hdt (q0i.2 ⟨j,p,hj,hmj,hpd⟩),g2 t ⟨j,p,hafter i j o hi hej,hj,hmj,hpd⟩]
   | false =>
    rw [ho t ht hdt,g1 t fun j p hji hj hmj hpd=>?_]
    rcases (hpair i j o p hi hj Oq).2 t hpd ht with h | h
    ·have:dep ops.toArray o t=true:=q3V.2 ⟨j,p,by simpa using hj,h,hpd⟩;rw [hdt] at this; cases this
    ·have:=hafter j i p hj h; omega
  ·exact hP.refl _
  ·have:d ∈ q0j mask ops:=q0i.2 ⟨i,o,hi,hmi,hod⟩;unfold q4P;rw [q2T,if_pos this];exact (g3 d hod).symm
 ·have hL:=hstep hmi e' w' hR (fun t hdt hlt'=>?_) (fun t ht hlt'=>?_)
  ·have hlk:∀ d,o.dst=some d→look (q4P mask ops es l) d=look l d:=fun d hod=>by
    have hne:d ∉ q0j mask ops:=fun hm=>by
     have:=hdis d hm;rw [q1o.2 ⟨i,o,hi,hmi,hod⟩] at this; cases this
    unfold q4P;rw [q2T,if_neg hne]
   have hpost:(fun v w''=>R w' w''∧∀ d,o.dst=some d→(look (q4P mask ops es l) d).1 v w'')=fun v w''=>R w' w''∧∀ d,o.dst=some d→(look l d).1 v w'':=by
    funext v w''
    refine propext ⟨fun ⟨a,b⟩=>⟨a,fun d hod=>by rw [← hlk d hod]; exact b d hod⟩,fun ⟨a,b⟩=>⟨a,fun d hod=>by rw [hlk d hod]; exact b d hod⟩⟩
   rw [hpost]; exact hL
  ·have:=hd t hdt;have hne:t ∉ q0j mask ops:=fun hm=>by have:=hdis t hm; rw [hlt'] at this; cases this
   unfold q4P at this;rw [q2T,if_neg hne] at this;exact this
  ·cases hdt:dep ops.toArray o t with
   | true =>
    obtain ⟨j,p,hj,hej,hpd⟩:=q3V.1 hdt;have hj:ops[j]?=some p:=by simpa using hj
    have hjl:=(List.getElem?_eq_some_iff.1 hj).1
    rcases hmb j hjl with hmj | hmj
    ·exact hdepE t hdt (q0i.2 ⟨j,p,hj,hmj,hpd⟩)
    ·rw [q1o.2 ⟨j,p,hj,hmj,hpd⟩] at hlt'; cases hlt'
   | false =>
    rw [ho t ht hdt,h2 t fun hte=>?_];obtain ⟨j,p,hj,hmj,hpd⟩:=q0i.1 hte;have hij:i≠j:=fun e=>by subst e; rw [hmi] at hmj; cases hmj
    rcases (hpair i j o p hi hj hij).2 t hpd ht with h | h
    ·have:dep ops.toArray o t=true:=q3V.2 ⟨j,p,by simpa using hj,h,hpd⟩;rw [hdt] at this; cases this
    ·have:=(hm' j p hj hmj).2.2 i h hlt;rw [hmi] at this; cases this
def q6O {ops:List Oper} {mask:List Bool} {l:List (Nat × q1D R)} {lc:Bool} {e:Env} {w:World} {K:Env→Prop} (hP:Pre R) (hld:lc=true→∀ w w',R w w'→Ext w w') (hok:q2I ops.toArray=true) (hm:q5D lc ops mask=true)
  (hw:WLm P ops.toArray K mask ops e w):∃ es,K es∧(∀ t,t ∉ q0j mask ops→es t=e t)∧(∀ t,t ∈ q0j mask ops→q1v mask ops t=false) ∧
   (∀ (i:Nat) (o:Oper),ops[i]?=some o→(mask[i]?=some false→qkF P ops R mask l es w o)→q3l P ops.toArray R (q4P mask ops es l) e w o):=by
 obtain ⟨es,h1,h2,h3,h4⟩:=q8k (l:=l) hP hld hok hm hw;exact ⟨es,h1,h2,h3,fun i o hi hs=>(h4 i o hi hs).ok⟩
def q0Z {ops:List Oper} {mask:List Bool} {l:List (Nat × q1D R)} {es:Env} {w:World} {o:Oper} {rest:List Oper}
  (h:∀ e' w',R w w'→(∀ t,dep ops.toArray o t=true→q1v mask ops t=true→(look l t).1 (e' t) w')→(∀ t,q1g ops.toArray o t=true→q1v mask ops t=false→e' t=es t) →
   wg P ops.toArray o e' w' fun v w''=>R w' w''∧∀ d,o.dst=some d→(look l d).1 v w'')
  (h2:q3k P ops R mask l es w rest):q3k P ops R mask l es w (o :: rest):=⟨h,h2⟩
def q1W {ops:List Oper} {mask:List Bool} {l:List (Nat × q1D R)} {es:Env} {w:World}:q3k P ops R mask l es w []:=trivial
def q4v {ops:List Oper} {t:Nat}:ops.any (wrO t)=true ↔ ∃ (i:Nat) (o:Oper),ops[i]?=some o∧o.dst=some t:=by
 rw [List.any_eq_true]
 constructor
 ·rintro ⟨o,ho,hw⟩;obtain ⟨i,hi⟩:=List.getElem?_of_mem ho;exact ⟨i,o,hi,q3o.1 hw⟩
 ·rintro ⟨i,o,hi,hd⟩;exact ⟨o,List.mem_of_getElem? hi,q3o.2 hd⟩
def qmE {id:Nat} {ops:List Oper} {Q:Exit→Env→World→Prop} {e:Env} {w:World} (lc:Bool) (hm:P.follows .mixedOrders=true) (hR:Pre R) (hld:lc=true→∀ w w',R w w'→Ext w w') (mask:List Bool) (l:List (Nat × q1D R))
  (hok:((!ops.isEmpty && q2I ops.toArray && (List.range ops.dropLast.length).all fun j=>q0q (q4Q ops) j) && (q5D lc ops mask && !mask.getD (ops.length-1) true))=true)
  (h:∀ K:Env→Prop,(∀ es,(q3k P ops R mask l es w (qcr mask ops.dropLast) ∧
   (∀ e' w',R w w'→(∀ t,q1v mask ops.dropLast t=true→(look l t).1 (e' t) w')→(∀ t,q1v mask ops.dropLast t=false→e' t=es t)→wg P ops.toArray (q4Q ops) e' w' fun v w''=>Q .normal (put e' (q4Q ops).dst v) w''))→K es)→WLm P ops.toArray K mask ops e w) :
  W P n (.region id ops.toArray true) Q e w:=by
 rw [Bool.and_eq_true] at hok;obtain ⟨hok1,hmk'⟩:=hok;rw [Bool.and_eq_true] at hmk';obtain ⟨hmk,hlast⟩:=hmk';have hok2:=hok1;simp only [Bool.and_eq_true] at hok2;obtain ⟨es,⟨hst,hL⟩,h2,hdis,h3⟩:=q6O (K:=fun es=>q3k P ops R mask l es w (qcr mask ops.dropLast) ∧
   (∀ e' w',R w w'→(∀ t,q1v mask ops.dropLast t=true→(look l t).1 (e' t) w')→(∀ t,q1v mask ops.dropLast t=false→e' t=es t)→wg P ops.toArray (q4Q ops) e' w' fun v w''=>Q .normal (put e' (q4Q ops).dst v) w''))
  hR hld hok2.1.2 hmk (h _ fun _ h=>h)
 have hlen:mask.length=ops.length:=by
  unfold q5D at hmk; rw [Bool.and_eq_true] at hmk; exact Nat.eq_of_beq_eq_true hmk.1
 have hdl:∀ (i:Nat) (o:Oper),ops.dropLast[i]?=some o→ops[i]?=some o∧i < ops.length-1:=fun i o hi=>by
  have:=(List.getElem?_eq_some_iff.1 hi);obtain ⟨hlt,he⟩:=this;rw [List.getElem_dropLast] at he;simp at hlt;exact ⟨by rw [List.getElem?_eq_getElem Oq,he],hlt⟩
 have hdr:∀ (i:Nat) (o:Oper),ops[i]?=some o→i < ops.length-1→ops.dropLast[i]?=some o:=fun i o hi hlt=>by
  rw [List.getElem?_dropLast,if_pos hlt]; exact hi
 have hmb:∀ (i:Nat),i < ops.length→mask[i]?=some true∨mask[i]?=some false:=fun i hi=>by
  rw [List.getElem?_eq_getElem (by omega)];cases mask[i] <;> simp
 have hmt:∀ (i:Nat),mask[i]?=some true→i < ops.length→i < ops.length-1:=fun i hi hlt=>by
  rcases Nat.lt_or_ge i (ops.length-1) with h | h
  ·exact h
  ·have he:i=ops.length-1:=by omega
   subst he;simp [List.getD,hi] at hlast
 refine qgn hm hR (q4P mask ops es l) hok1 (q2N.of fun o ho=>?_) (fun e' w' hw hs ho=>?_)
 ·obtain ⟨i,hi⟩:=List.getElem?_of_mem ho;exact h3 i o (hdl i o hi).1 fun hmi=>hst.get o (q52 hi hmi)
 ·refine q0w (hL e' w' hw (fun t ht=>?_) (fun t ht=>?_))
  ·obtain ⟨i,o,hi,hmi,hd⟩:=q1o.1 ht;have:=hs t (q4v.2 ⟨i,o,hi,hd⟩);have hne:t ∉ q0j mask ops:=fun hm=>by
    have:=hdis t hm;rw [q1o.2 ⟨i,o,(hdl i o hi).1,hmi,hd⟩] at this; cases this
   unfold q4P at this;rw [q2T,if_neg hne] at this;exact this
  ·by_cases hte:t ∈ q0j mask ops
   ·obtain ⟨i,o,hi,hmi,hd⟩:=q0i.1 hte;have:=hs t (q4v.2 ⟨i,o,hdr i o hi (hmt i hmi (List.getElem?_eq_some_iff.1 hi).1),hd⟩);unfold q4P at this;rw [q2T,if_pos hte] at this;exact this
   ·rw [h2 t hte];refine ho t ?_;cases ha:ops.dropLast.any (wrO t) with
    | false=>rfl
    | true =>
     obtain ⟨i,o,hi,hd⟩:=q4v.1 ha;obtain ⟨hi',hlt⟩:=hdl i o hi
     rcases hmb i Oq with hmi | hmi
     ·exact absurd (q0i.2 ⟨i,o,hi',hmi,hd⟩) hte
     ·rw [q1o.2 ⟨i,o,hi,hmi,hd⟩] at ht; cases ht
def W_dP {id:Nat} {ops:List Oper} {Q:Exit→Env→World→Prop} {e:Env} {w:World} (lc:Bool) (hm:P.follows .mixedOrders=true) (hR:Pre R) (hld:lc=true→∀ w w',R w w'→Ext w w') (mask:List Bool) (l:List (Nat × q1D R))
  (hok:(q2I ops.toArray && q5D lc ops mask)=true)
  (h:∀ K:Env→Prop,(∀ es,(q3k P ops R mask l es w (qcr mask ops) ∧
   (∀ e' w',R w w'→(∀ t,q1v mask ops t=true→(look l t).1 (e' t) w')→(∀ t,q1v mask ops t=false→e' t=es t)→Q .normal e' w'))→K es)→WLm P ops.toArray K mask ops e w) :
  W P n (.region id ops.toArray true) Q e w:=by
 rw [Bool.and_eq_true] at hok;obtain ⟨hok1,hmk⟩:=hok;obtain ⟨es,⟨hst,hL⟩,h2,hdis,h3⟩:=q6O (K:=fun es=>q3k P ops R mask l es w (qcr mask ops) ∧
   (∀ e' w',R w w'→(∀ t,q1v mask ops t=true→(look l t).1 (e' t) w')→(∀ t,q1v mask ops t=false→e' t=es t)→Q .normal e' w'))
  hR hld hok1 hmk (h _ fun _ h=>h)
 have hlen:mask.length=ops.length:=by
  unfold q5D at hmk; rw [Bool.and_eq_true] at hmk; exact Nat.eq_of_beq_eq_true hmk.1
 have hmb:∀ (i:Nat),i < ops.length→mask[i]?=some true∨mask[i]?=some false:=fun i hi=>by
  rw [List.getElem?_eq_getElem (by omega)];cases mask[i] <;> simp
 have hisd:∀ t,q26 ops.toArray t=ops.any (wrO t):=fun t=>rfl;refine qpv hm hR (q4P mask ops es l) hok1 (q2N.of fun o ho=>?_) (fun e' w' hw hs ho=>?_)
 ·obtain ⟨i,hi⟩:=List.getElem?_of_mem ho;exact h3 i o hi fun hmi=>hst.get o (q52 hi hmi)
 ·refine hL e' w' hw (fun t ht=>?_) (fun t ht=>?_)
  ·obtain ⟨i,o,hi,hmi,hd⟩:=q1o.1 ht;have:=hs t (q4v.2 ⟨i,o,hi,hd⟩);have hne:t ∉ q0j mask ops:=fun hm=>by
    have:=hdis t hm;rw [ht] at this; cases this
   unfold q4P at this;rw [q2T,if_neg hne] at this;exact this
  ·by_cases hte:t ∈ q0j mask ops
   ·obtain ⟨i,o,hi,hmi,hd⟩:=q0i.1 hte;have:=hs t (q4v.2 ⟨i,o,hi,hd⟩);unfold q4P at this;rw [q2T,if_pos hte] at this;exact this
   ·rw [h2 t hte];refine ho t ?_;rw [hisd];cases ha:ops.any (wrO t) with
    | false=>rfl
    | true =>
     obtain ⟨i,o,hi,hd⟩:=q4v.1 ha
     rcases hmb i (List.getElem?_eq_some_iff.1 hi).1 with hmi | hmi
     ·exact absurd (q0i.2 ⟨i,o,hi,hmi,hd⟩) hte
     ·rw [q1o.2 ⟨i,o,hi,hmi,hd⟩] at ht; cases ht
def q87 {t:Nat}:∀ {m:List Bool} {os:List Oper},m.all (fun b=>b)=true→q1v m os t=false
 | [],_,_=>by cases ‹List Oper› <;> rfl
 | true :: m,[],_=>rfl
 | true :: m,_ :: os,h=>by simp only [q1v]; exact q87 (by simpa using h)
 | false :: m,_,h=>by simp at h
def qai:∀ {m:List Bool} {os:List Oper},m.all (fun b=>b)=true→qcr m os=[]
 | [],_,_=>by cases ‹List Oper› <;> rfl
 | true :: m,[],_=>rfl
 | true :: m,_ :: os,h=>by simp only [qcr]; exact qai (by simpa using h)
 | false :: m,_,h=>by simp at h
def qcw {id:Nat} {ops:List Oper} {Q:Exit→Env→World→Prop} {e:Env} {w:World} (hm:P.follows .mixedOrders=true) (mask:List Bool)
  (hok:(mask.all (fun b=>b) && (q2I ops.toArray && q5D true ops mask))=true)
  (h:∀ K:Env→Prop,(∀ es,(∀ w',Ext w w'→Q .normal es w')→K es)→WLm P ops.toArray K mask ops e w) :
  W P n (.region id ops.toArray true) Q e w:=by
 rw [Bool.and_eq_true] at hok;have hall:mask.all (fun b=>b)=true:=hok.1;refine W_dP (R:=Kp fun _=>True) true hm (Kp.pre _) (fun _ _ _ h=>h) mask [] hok.2 fun K hK=>h K fun es hes=>hK es ⟨by rw [qai hall]; trivial,fun e' w' hw _ ho=>?_⟩;have:e'=es:=funext fun t=>ho t (q87 hall);rw [this];exact hes w' hw
end
section
variable {P:Program} {ops:Array Oper} {K:Env→Prop} {e:Env} {w:World} {d:Option Nat} {o:Oper} {os:List Oper} {m:List Bool}
def WLm_t:WLm P ops K (true :: m) (o :: os) e w=wg P ops o e w fun v _=>WLm P ops K m os (put e o.dst v) w:=rfl
def WLm_f:WLm P ops K (false :: m) (o :: os) e w=WLm P ops K m os e w:=rfl
def WLm_n:WLm P ops K [] [] e w=K e:=rfl
@[congr] theorem qvY {e':Env} (h:e=e'):WLm P ops K m os e w=WLm P ops K m os e' w:=by rw [h]
attribute [go_sem ↓] WLm_t WLm_f WLm_n
attribute [irreducible] WLm
end
inductive Anc (ops:Array Oper):Nat→Nat→Prop
 | base {i j:Nat} {o:Oper} (h:ops[i]?=some o) (he:q0q o j=true):Anc ops i j
 | step {i k j:Nat} {o:Oper} (h:ops[i]?=some o) (he:q0q o k=true) (ha:Anc ops k j):Anc ops i j
def qku (ms:List Nat) (o:Oper):Nat:=o.after.toList.foldl (fun a e=>if Region.binds .any e then a ||| 2 ^ e.on ||| ms.getD e.on 0 else a) 0
def qiU:List Oper→List Nat→List Nat
 | [],ms=>ms
 | o :: os,ms=>qiU os (ms ++ [qku ms o])
def qbI {ms:List Nat} {j:Nat}:∀ (es:List Edge) (a:Nat),(es.foldl (fun a e=>if Region.binds .any e then a ||| 2 ^ e.on ||| ms.getD e.on 0 else a) a).testBit j=true →
  a.testBit j=true∨∃ e ∈ es,Region.binds .any e=true∧(e.on=j∨(ms.getD e.on 0).testBit j=true)
 | [],a,h=>.inl h
 | e :: es,a,h=>by
  rw [List.foldl_cons] at h
  rcases qbI es _ h with h | ⟨x,hx,hb,hc⟩
  ·split at h
   ·rename_i hb;rw [Nat.testBit_or,Nat.testBit_or,Bool.or_eq_true,Bool.or_eq_true] at h
    rcases h with (h | h) | h
    ·exact .inl h
    ·rw [Nat.testBit_two_pow] at h;exact .inr ⟨e,List.mem_cons_self,hb,.inl (by simpa using h)⟩
    ·exact .inr ⟨e,List.mem_cons_self,hb,.inr h⟩
   ·exact .inl h
  ·exact .inr ⟨x,List.mem_cons_of_mem _ hx,hb,hc⟩
def q6E {ops:List Oper}:∀ (rest:List Oper) (ms:List Nat) (pre:List Oper),ops=pre ++ rest→ms.length=pre.length→(∀ i j,(ms.getD i 0).testBit j=true→Anc ops.toArray i j) →
  ∀ i j,((qiU rest ms).getD i 0).testBit j=true→Anc ops.toArray i j
 | [],ms,_,_,_,h=>h
 | o :: os,ms,pre,he,hl,h=>by
  refine q6E os (ms ++ [qku ms o]) (pre ++ [o]) (by rw [he]; simp) (by simp [hl]) fun i j hb=>?_
  rcases Nat.lt_trichotomy i ms.length with hi | hi | hi
  ·rw [List.getD_eq_getElem?_getD,List.getElem?_append_left hi,← List.getD_eq_getElem?_getD] at hb;exact h i j hb
  ·subst hi;have ho:ops.toArray[ms.length]?=some o:=by rw [List.getElem?_toArray,he,hl]; simp
   rw [List.getD_eq_getElem?_getD,List.getElem?_append_right (Nat.le_refl _)] at hb;simp only [Nat.sub_self,List.getElem?_cons_zero,Option.getD_some] at hb
   rcases qbI _ _ hb with hb | ⟨x,hx,hbd,hc⟩
   ·simp at hb
   ·have hed:q0q o x.on=true:=q0c.2 ⟨x,Array.mem_toList_iff.1 hx,hbd,rfl⟩
    rcases hc with rfl | hc
    ·exact .base ho hed
    ·exact .step ho hed (h _ _ hc)
  ·rw [List.getD_eq_getElem?_getD,List.getElem?_eq_none (by simp; omega)] at hb;simp at hb
section
variable {P:Program} {n:Nat} {R:World→World→Prop}
def qck {ops:Array Oper} {listed:Array Bool} (hs:listed.size=ops.size) (hc:∀ (i:Nat) (o:Oper) (x:Edge),ops[i]?=some o→listed.getD i true=true→x ∈ o.after→Region.binds .any x=true→listed.getD x.on false=true) {i j:Nat} (ha:Anc ops i j):listed.getD i false=true→listed.getD j false=true:=by
 have hft:∀ k,listed.getD k false=true→listed.getD k true=true:=fun k hk=>by
  rcases Nat.lt_or_ge k listed.size with h | h
  ·simp only [Array.getD_eq_getD_getElem?,Array.getElem?_eq_getElem h,Option.getD_some] at hk ⊢; exact hk
  ·simp [Array.getD_eq_getD_getElem?,Array.getElem?_eq_none h] at hk
 induction ha with
 | base h he =>
  intro hi;obtain ⟨x,hx,hb,rfl⟩:=q0c.1 he;exact hc _ _ x h (hft _ hi) hx hb
 | step h he _ ih =>
  intro hi;obtain ⟨x,hx,hb,rfl⟩:=q0c.1 he;exact ih (hc _ _ x h (hft _ hi) hx hb)
def q8x {ops:Array Oper} {listed:Array Bool} (hs:listed.size=ops.size) (hc:∀ (i:Nat) (o:Oper) (x:Edge),ops[i]?=some o→listed.getD i true=true→x ∈ o.after→Region.binds .any x=true→listed.getD x.on false=true) {i j:Nat} (ha:Anc ops i j)
  (hr:∀ o,ops[i]?=some o→∀ x ∈ o.after,Region.binds .any x=true→listed.getD x.on false=true):listed.getD j false=true:=by
 cases ha with
 | base h he =>
  obtain ⟨x,hx,hb,rfl⟩:=q0c.1 he;exact hr _ h x hx hb
 | step h he ha =>
  obtain ⟨x,hx,hb,rfl⟩:=q0c.1 he;exact qck hs hc ha (hr _ h x hx hb)
def qeF {ops:Array Oper} (hok:DOk ops) {listed:Array Bool} (hsize:listed.size=ops.size) (hnil:Region.ready .any ops listed=[]):∀ i,i < ops.size→listed.getD i true=true:=by
 intro i
 induction i using Nat.strongRecOn with
 | _ i ih =>
  intro hi;cases hb:listed.getD i true with
  | true=>rfl
  | false =>
   have:i ∈ Region.ready .any ops listed:=by
    unfold Region.ready;rw [List.mem_filter];refine ⟨List.mem_range.2 hi,?_⟩;simp only [hb,Bool.not_false,Bool.true_and,Array.getElem?_eq_getElem hi,Option.map_some,Option.getD_some];rw [Array.all_eq_true'];intro x hx;cases hbx:Region.binds .any x with
    | false=>rfl
    | true =>
     have hlt:=hok.down i ops[i] x (Array.getElem?_eq_getElem hi) hx hbx;have:=ih x.on hlt Oq;have hlt2:x.on < listed.size:=by omega
     simp only [Array.getD_eq_getD_getElem?,Array.getElem?_eq_getElem hlt2,Option.getD_some] at this ⊢;simp [this]
   rw [hnil] at this; cases this
def q5w {ops:Array Oper} {listed:Array Bool} {i:Nat} (hi:i ∈ Region.ready .any ops listed):∃ hlt:i < ops.size,listed.getD i true=false∧∀ x ∈ ops[i].after,Region.binds .any x=true→listed.getD x.on false=true:=by
 unfold Region.ready at hi;rw [List.mem_filter] at hi;obtain ⟨hir,hrd⟩:=hi;have hlt:=List.mem_range.1 hir;have hio:ops[i]?=some ops[i]:=Array.getElem?_eq_getElem hlt;simp only [hio,Option.map_some,Option.getD_some,Bool.and_eq_true] at hrd;obtain ⟨hnl,haf⟩:=hrd;rw [Array.all_eq_true'] at haf;exact ⟨hlt,by simpa using hnl,fun x hx hb=>by have:=haf x hx; simpa [hb] using this⟩
def ft {listed:Array Bool} {j:Nat} (h:j < listed.size):listed.getD j false=listed.getD j true:=by
 simp [Array.getD_eq_getD_getElem?,Array.getElem?_eq_getElem h]
end
def qcT (ops:List Oper) (o:Oper) (j:Nat):Bool:=match (ops[j]?).bind (·.dst) with | some d=>q1g ops.toArray o d | none=>false
def q6H:List Bool→Nat→Nat→Nat
 | [],_,a=>a
 | b :: m,i,a=>q6H m (i+1) (if b then a else a ||| 2 ^ i)
def dcOk (ops:List Oper) (mask:List Bool):Bool :=
 Nat.beq mask.length ops.length && q2I ops.toArray && (List.range ops.length).all fun i=>match ops[i]? with
  | none=>true
  | some o=>if mask.getD i false then q5K o && (List.range ops.length).all fun j=>mask.getD j true || !qcT ops o j || (match ops[j]? with | some p=>q0q p i | none=>false)
   else ((List.range ops.length).all fun j=>!(mask.getD j false) || !qcT ops o j || q0q o j) && Nat.beq (((qiU ops []).getD i 0) &&& q6H (mask.take i) 0 0) (q6H (mask.take i) 0 0)
def q6m {j:Nat}:∀ (m:List Bool) (i a:Nat),a.testBit j=true→(q6H m i a).testBit j=true
 | [],_,_,h=>h
 | b :: m,i,a,h=>by
  unfold q6H;refine q6m m (i+1) _ ?_
  split
  ·exact h
  ·rw [Nat.testBit_or,h,Bool.true_or]
def q6G {j:Nat}:∀ (m:List Bool) (i a:Nat),i≤j→m[j-i]?=some false→(q6H m i a).testBit j=true
 | [],_,_,_,h=>by simp at h
 | b :: m,i,a,hij,h=>by
  unfold q6H
  by_cases he:j=i
  ·subst he;simp at h; subst h;refine q6m m _ _ ?_;simp [Nat.testBit_or,Nat.testBit_two_pow_self]
  ·refine q6G m (i+1) _ Oq ?_;rw [show j-i=(j-(i+1))+1 by omega] at h;simpa using h
def qto (mask mask2:List Bool):List Bool:=(mask.zip mask2).map fun b=>!(b.1 && !b.2)
def qdG (ops:List Oper) (i:Nat) (m:List Bool):Bool:=Nat.beq (((qiU ops []).getD i 0) &&& q6H m 0 0) (q6H m 0 0)
def pmOk (ops:List Oper) (mask mask2:List Bool) (pm:List Nat):Bool:=Nat.beq pm.length ops.length && Nat.beq mask2.length ops.length && (List.range ops.length).all fun i=>match ops[i]? with
 | none=>true
 | some o=>(match pm.getD i 0 with | 0=>true | 1=>q5K o || qdG ops i (mask.map fun b=>!b) | _=>qdG ops i (qto mask mask2)) &&
  (!(mask2.getD i false) || (mask.getD i false && (List.range ops.length).all fun j=>mask2.getD j false || !(mask.getD j false) || !qcT ops o j))
def q67 {ops:List Oper} {i j:Nat} {m:List Bool} (h:qdG ops i m=true) (hj:m[j]?=some false):Anc ops.toArray i j:=by
 have h5:=Nat.eq_of_beq_eq_true h;have h6:(q6H m 0 0).testBit j=true:=q6G _ 0 0 (Nat.zero_le _) (by rw [Nat.sub_zero]; exact hj);rw [← h5,Nat.testBit_and,Bool.and_eq_true] at h6;exact q6E ops [] [] rfl rfl (fun i j h=>by simp at h) i j h6.1
structure PmOk (ops:List Oper) (mask mask2:List Bool) (pm:List Nat):Prop where
 len:pm.length=ops.length
 one:∀ (i:Nat) (o:Oper),ops[i]?=some o→pm.getD i 0=1→q5K o=true∨∀ j:Nat,mask[j]?=some true→Anc ops.toArray i j
 two:∀ (i:Nat) (o:Oper) (k:Nat),ops[i]?=some o→pm.getD i 0=k+2→∀ j:Nat,mask[j]?=some true→mask2[j]?=some false→Anc ops.toArray i j
 sub:∀ (i:Nat),i < ops.length→mask2[i]?=some true→mask[i]?=some true
 own:∀ (i j:Nat) (o p:Oper) (d:Nat),ops[i]?=some o→ops[j]?=some p→mask2[i]?=some true→mask[j]?=some true→mask2[j]?=some false→p.dst=some d→q1g ops.toArray o d=false
 len2:mask2.length=ops.length
def PmOk.of {ops:List Oper} {mask mask2:List Bool} {pm:List Nat} (h:pmOk ops mask mask2 pm=true) (hml:mask.length=ops.length):PmOk ops mask mask2 pm:=by
 unfold pmOk at h;rw [Bool.and_eq_true,Bool.and_eq_true,List.all_eq_true] at h;obtain ⟨⟨h1,h2⟩,h3⟩:=h;have hl2:=Nat.eq_of_beq_eq_true h2;have h4:∀ i o,ops[i]?=some o→_:=fun i o ho=>h3 i (List.mem_range.2 (List.getElem?_eq_some_iff.1 ho).1);have hmk:∀ i,i < ops.length→mask2[i]?=some true→mask[i]?=some true:=fun i hi hm=>by
  obtain ⟨o,ho⟩:∃ o,ops[i]?=some o:=⟨_,List.getElem?_eq_getElem hi⟩;have:=h4 i o ho;simp only [ho,Bool.and_eq_true] at this;have:=this.2;rw [show mask2.getD i false=true by simp [List.getD,hm],Bool.not_true,Bool.false_or,Bool.and_eq_true] at this;have hl:i < mask.length:=by omega
  rw [List.getElem?_eq_getElem hl];have h5:=this.1;rw [List.getD_eq_getElem?_getD,List.getElem?_eq_getElem hl] at h5;simpa using h5
 refine ⟨Nat.eq_of_beq_eq_true h1,fun i o ho hp=>?_,fun i o k ho hp j hj hj2=>?_,hmk,fun i j o p d ho hp hm hm1 hm2 hd=>?_,hl2⟩
 ·have:=h4 i o ho;simp only [ho,hp,Bool.and_eq_true,Bool.or_eq_true] at this
  rcases this.1 with h | h
  ·exact .inl h
  ·exact .inr fun j hj=>q67 h (by rw [List.getElem?_map,hj]; rfl)
 ·have:=h4 i o ho;simp only [ho,hp,Bool.and_eq_true] at this;refine q67 this.1 ?_;unfold qto;have hz:(mask.zip mask2)[j]?=some (true,false):=List.getElem?_zip_eq_some.2 ⟨hj,hj2⟩;rw [List.getElem?_map,hz]; rfl
 ·have:=h4 i o ho;simp only [ho,Bool.and_eq_true] at this;have:=this.2;rw [show mask2.getD i false=true by simp [List.getD,hm],Bool.not_true,Bool.false_or,Bool.and_eq_true,List.all_eq_true] at this;have:=this.2 j (List.mem_range.2 (List.getElem?_eq_some_iff.1 hp).1);rw [show mask2.getD j false=false by simp [List.getD,hm2],show mask.getD j false=true by simp [List.getD,hm1]] at this;unfold qcT at this;simpa [hp,hd] using this
def qdp:List Bool→List Nat→List Oper→List (Nat × Oper)
 | false :: m,b :: pm,o :: os=>(b,o) :: qdp m pm os
 | true :: m,_ :: pm,_ :: os=>qdp m pm os
 | _,_,_=>[]
structure DcOk (ops:List Oper) (mask:List Bool):Prop where
 len:mask.length=ops.length
 draw:q2I ops.toArray=true
 pure:∀ (i:Nat) (o:Oper),ops[i]?=some o→mask[i]?=some true→q5K o=true
 early:∀ (i j:Nat) (o p:Oper) (d:Nat),ops[i]?=some o→ops[j]?=some p→mask[i]?=some true→mask[j]?=some false→p.dst=some d→q1g ops.toArray o d=true→q0q p i=true
 late:∀ (i j:Nat) (o p:Oper) (d:Nat),ops[i]?=some o→ops[j]?=some p→mask[i]?=some false→mask[j]?=some true→p.dst=some d→q1g ops.toArray o d=true→q0q o j=true
 ord:∀ (i j:Nat),i < ops.length→mask[i]?=some false→mask[j]?=some false→j < i→Anc ops.toArray i j
def DcOk.of {ops:List Oper} {mask:List Bool} (h:dcOk ops mask=true):DcOk ops mask:=by
 unfold dcOk at h;rw [Bool.and_eq_true,Bool.and_eq_true] at h;obtain ⟨⟨h1,h2⟩,h3⟩:=h;have hlen:=Nat.eq_of_beq_eq_true h1;rw [List.all_eq_true] at h3;have h4:∀ i o,ops[i]?=some o→_:=fun i o ho=>h3 i (List.mem_range.2 (List.getElem?_eq_some_iff.1 ho).1);refine ⟨hlen,h2,fun i o ho hm=>?_,fun i j o p d ho hp hm hm' hd hl=>?_,fun i j o p d ho hp hm hm' hd hl=>?_,fun i j hi hm hm' hji=>?_⟩
 ·have:=h4 i o ho;simp only [ho] at this;rw [if_pos (by simp [List.getD,hm]),Bool.and_eq_true] at this;exact this.1
 ·have:=h4 i o ho;simp only [ho] at this;rw [if_pos (by simp [List.getD,hm]),Bool.and_eq_true,List.all_eq_true] at this;have:=this.2 j (List.mem_range.2 (List.getElem?_eq_some_iff.1 hp).1);rw [show mask.getD j true=false by simp [List.getD,hm'],Bool.false_or] at this;unfold qcT at this;simpa [hp,hd,hl] using this
 ·have:=h4 i o ho;simp only [ho] at this;rw [if_neg (by simp [List.getD,hm]),Bool.and_eq_true,List.all_eq_true] at this;have:=this.1 j (List.mem_range.2 (List.getElem?_eq_some_iff.1 hp).1);rw [show mask.getD j false=true by simp [List.getD,hm']] at this;unfold qcT at this;simpa [hp,hd,hl] using this
 ·obtain ⟨o,ho⟩:∃ o,ops[i]?=some o:=⟨_,List.getElem?_eq_getElem hi⟩;have:=h4 i o ho;simp only [ho] at this;rw [if_neg (by simp [List.getD,hm]),Bool.and_eq_true] at this;have h5:=Nat.eq_of_beq_eq_true this.2;have h6:(q6H (mask.take i) 0 0).testBit j=true:=q6G _ 0 0 (Nat.zero_le _) (by rw [Nat.sub_zero,List.getElem?_take,if_pos hji]; exact hm');rw [← h5,Nat.testBit_and,Bool.and_eq_true] at h6;exact q6E ops [] [] rfl rfl (fun i j h=>by simp at h) i j h6.1
section
variable {P:Program} {n:Nat} {R:World→World→Prop}
def WLc (P:Program) (ops:Array Oper) (R R2:World→Prop) (K:Env→World→Prop):List (Nat × Oper)→Env→World→Prop
 | [],e,w=>K e w
 | (0,o) :: rest,e,w=>wg P ops o e w fun v w'=>R w'∧WLc P ops R R2 K rest (put e o.dst v) w'
 | (1,o) :: rest,e,w=>wg P ops o e w fun v w'=>WLc P ops R R2 K rest (put e o.dst v) w'
 | (_+2,o) :: rest,e,w=>wg P ops o e w fun v w'=>R2 w'∧WLc P ops R R2 K rest (put e o.dst v) w'
def qkE {ops:Array Oper} {o:Oper} {e e2:Env} {w:World} {K:Value→World→Prop} (hs:∀ cs b,o.op≠.select cs b) (h:∀ t,q1g ops o t=true→e2 t=e t) (hw:WG P ops o e w K):WG P ops o e2 w K:=by
 unfold WG at *;rw [q4o h]
 split
 ·rename_i h1;rw [if_pos h1] at hw;unfold WO at *;rw [execOp_congr (ρ:=ev e2) (ρ':=ev e) o hs fun x hx=>qax h x (Array.mem_toList_iff.2 hx)];exact hw
 ·rename_i h1
  rwa [if_neg h1] at hw
def q3A:List Bool→Nat→List Nat
 | [],_=>[]
 | b :: m,i=>if b then q3A m (i+1) else i :: q3A m (i+1)
def q38 {j:Nat}:∀ {m:List Bool} {i:Nat},j ∈ q3A m i ↔ i≤j∧m[j-i]?=some false
 | [],i=>by simp [q3A]
 | b :: m,i=>by
  have ih:=q38 (j:=j) (m:=m) (i:=i+1);have key:(i+1≤j∧m[j-(i+1)]?=some false) ↔ (j≠i∧i≤j∧(b :: m)[j-i]?=some false):=by
   constructor
   ·rintro ⟨h1,h2⟩;refine ⟨by omega,by omega,?_⟩;rw [show j-i=(j-(i+1))+1 by omega]; simpa using h2
   ·rintro ⟨h1,h2,h3⟩;refine ⟨by omega,?_⟩;rw [show j-i=(j-(i+1))+1 by omega] at h3;simpa using h3
  unfold q3A;cases b with
  | true =>
   rw [if_pos rfl,ih,key]
   constructor
   ·rintro ⟨_,h2,h3⟩; exact ⟨h2,h3⟩
   ·rintro ⟨h2,h3⟩;refine ⟨fun e=>?_,h2,h3⟩;subst e; simp at h3
  | false =>
   rw [if_neg (by simp),List.mem_cons,ih,key]
   constructor
   ·rintro (rfl | ⟨_,h2,h3⟩)
    ·exact ⟨Nat.le_refl _,by simp⟩
    ·exact ⟨h2,h3⟩
   ·rintro ⟨h2,h3⟩
    by_cases e:j=i
    ·exact .inl e
    ·exact .inr ⟨e,h2,h3⟩
def q2u:∀ (m:List Bool) (i:Nat),(q3A m i).Pairwise (· < ·)
 | [],_=>by simp [q3A]
 | b :: m,i=>by
  unfold q3A
  split
  ·exact q2u m (i+1)
  ·refine List.pairwise_cons.2 ⟨fun j hj=>?_,q2u m (i+1)⟩;have:=(q38.1 hj).1; omega
def qmr (ops:List Oper) (pm:List Nat) (j:Nat):Option (Nat × Oper):=(ops[j]?).map fun o=>(pm.getD j 0,o)
def qdo {ops:List Oper} {pm:List Nat}:∀ (m:List Bool) (p:List Nat) (os:List Oper) (i:Nat),m.length=os.length→p.length=os.length→(∀ k,os[k]?=ops[i+k]?)→(∀ k,p.getD k 0=pm.getD (i+k) 0)→qdp m p os=(q3A m i).filterMap (qmr ops pm)
 | [],[],[],_,_,_,_,_=>rfl
 | [],_,_ :: _,_,h,_,_,_=>by simp at h
 | _ :: _,_,[],_,h,_,_,_=>by simp at h
 | [],_ :: _,[],_,_,h,_,_=>by simp at h
 | _ :: _,[],_ :: _,_,_,h,_,_=>by simp at h
 | b :: m,q :: p,o :: os,i,h,h',hk,hq=>by
  have ih:=qdo m p os (i+1) (by simpa using h) (by simpa using h') (fun k=>by have:=hk (k+1); rw [show i+1+k=i+(k+1) by omega,← this]; simp)
   (fun k=>by have:=hq (k+1); rw [show i+1+k=i+(k+1) by omega,← this]; simp [List.getD])
  have h0:=hk 0;simp at h0;have q0:=hq 0;rw [Nat.add_zero] at q0;have q1:q=pm.getD i 0:=by rw [← q0]; simp [List.getD]
  cases b with
  | true=>simp only [qdp,q3A]; exact ih
  | false=>simp only [qdp,q3A,Bool.false_eq_true,if_false,List.filterMap_cons,qmr,← h0,Option.map_some,ih,q1]
structure CInv (pm:List Nat) (ops:List Oper) (n:Nat) (S S2:World→Prop) (mask mask2:List Bool) (e es:Env) (K:Env→World→Prop) (P:Program) (listed:Array Bool) (a:Act) (e':Env) (w':World) (ek:Env) (rest:List Nat):Prop where
 size:listed.size=ops.length
 rel:Rel n a e'
 world:((∀ j:Nat,mask[j]?=some true→listed.getD j true=true)∨((∀ j:Nat,mask[j]?=some true→mask2[j]?=some false→listed.getD j true=true)∧S2 w')∨S w')
 run:WLc P ops.toArray S S2 K (rest.filterMap (qmr ops pm)) ek w'
 sort:rest.Pairwise (· < ·)
 late:∀ (i:Nat),i < ops.length→mask[i]?=some false→(listed.getD i true=false ↔ i ∈ rest)
 restL:∀ i ∈ rest,i < ops.length∧mask[i]?=some false
 vals:∀ (i:Nat) (o:Oper) (d:Nat),ops[i]?=some o→listed.getD i true=true→o.dst=some d→e' d=ek d
 old:∀ (t:Nat),(∀ (i:Nat) (o:Oper),ops[i]?=some o→listed.getD i true=true→o.dst≠some t)→e' t=e t
 ekE:∀ (t:Nat),(∀ (i:Nat) (o:Oper),ops[i]?=some o→mask[i]?=some false→listed.getD i true=true→o.dst≠some t)→ek t=es t
 closed:∀ (i:Nat) (o:Oper) (x:Edge),ops.toArray[i]?=some o→listed.getD i true=true→x ∈ o.after→Region.binds .any x=true→listed.getD x.on false=true
def qfw {pm:List Nat} {ops:List Oper} {mask mask2:List Bool} {e es:Env} {S S2:World→Prop} {K:Env→World→Prop} {Q:Exit→Act→World→Prop} (hc:DcOk ops mask) (hpm:PmOk ops mask mask2 pm) {w0:World} (hS0:S w0) (hd:ops.all (q3z n)=true)
  (hes:∀ w',S w'→WLm P ops.toArray (fun x=>x=es) mask ops e w') (hes2:∀ w',S2 w'→WLm P ops.toArray (fun x=>∀ t,t ∈ q0j mask2 ops→x t=es t) mask2 ops e w')
  (hQ:∀ a e' w',Rel n a e'→(∀ t,q26 ops.toArray t=false→e' t=e t)→K e' w'→Q .normal a w') :
  ∀ (fuel:Nat) (listed:Array Bool) (a:Act) (e':Env) (w':World) (ek:Env) (rest:List Nat),ops.length≤fuel+(List.range ops.length).countP (fun i=>listed.getD i true)→CInv pm ops n S S2 mask mask2 e es K P listed a e' w' ek rest→wpAny P .any ops.toArray Q fuel listed a w':=by
 have hok:=DOk.of hc.draw;have hmb:∀ (i:Nat),i < ops.length→mask[i]?=some true∨mask[i]?=some false:=fun i hi=>by
  have hl:i < mask.length:=by rw [hc.len]; exact hi
  rw [List.getElem?_eq_getElem hl];cases mask[i] <;> simp
 have hdd:∀ (i j:Nat) (o p:Oper) (d:Nat),ops[i]?=some o→ops[j]?=some p→o.dst=some d→p.dst=some d→i=j:=fun i j o p d hi hj ho hp=>by
  rcases Nat.decEq i j with h | h
  ·exact absurd hp (hok.one i j o p d (by simpa using hi) (by simpa using hj) h ho)
  ·exact h
 have hesold:∀ w',S w'→∀ t,(∀ (i:Nat) (o:Oper),ops[i]?=some o→mask[i]?=some true→o.dst≠some t)→es t=e t:=fun w' hS t ht=>by
  obtain ⟨es',h1,h2,_⟩:=q2f mask ops e hdd (fun i o a b=>hc.pure i o a b) (hes w' hS);subst h1;exact h2 t fun hm=>by
   obtain ⟨i,o,a,b,c⟩:=q0i.1 hm;exact ht i o a b c
 have hfin:∀ (listed:Array Bool) (a:Act) (e':Env) (w':World) (ek:Env) (rest:List Nat),CInv pm ops n S S2 mask mask2 e es K P listed a e' w' ek rest→(∀ i,i < ops.length→listed.getD i true=true)→Q .normal a w':=by
  intro listed a e' w' ek rest I hall;have hr:rest=[]:=by
   cases hr:rest with
   | nil=>rfl
   | cons i r =>
    obtain ⟨h1,h2⟩:=I.restL i (by rw [hr]; exact List.mem_cons_self);have:=(I.late i h1 h2).2 (by rw [hr]; exact List.mem_cons_self);rw [hall i h1] at this; cases this
  have hrun:=I.run;rw [hr] at hrun;have hee:e'=ek:=by
   funext t
   by_cases hex:∃ (i:Nat) (o:Oper),ops[i]?=some o∧o.dst=some t
   ·obtain ⟨i,o,h1,h2⟩:=hex;exact I.vals i o t h1 (hall i (List.getElem?_eq_some_iff.1 h1).1) h2
   ·have hno:∀ (i:Nat) (o:Oper),ops[i]?=some o→o.dst≠some t:=fun i o h1 h2=>hex ⟨i,o,h1,h2⟩;rw [I.old t fun i o h1 _=>hno i o h1,I.ekE t fun i o h1 _ _=>hno i o h1,hesold w0 hS0 t fun i o h1 _=>hno i o h1]
  refine hQ a e' w' I.rel (fun t ht=>I.old t fun i o h1 _=>q1l ht i o (by simpa using h1)) ?_;rw [hee];exact hrun
 intro fuel
 induction fuel with
 | zero =>
  intro listed a e' w' ek rest hf I;have hle:(List.range ops.length).countP (fun i=>listed.getD i true)=(List.range ops.length).length:=by
   have:=List.countP_le_length (p:=fun i=>listed.getD i true) (l:=List.range ops.length);simp only [List.length_range] at this ⊢; omega
  rw [List.countP_eq_length] at hle;have hall:∀ i,i < ops.length→listed.getD i true=true:=fun i hi=>hle i (List.mem_range.2 hi);refine ⟨?_,hfin _ _ _ _ _ _ I hall⟩;unfold Region.ready;rw [List.filter_eq_nil_iff];intro i hi;have:=hall i (by simpa using List.mem_range.1 hi);simp [this]
 | succ fuel ih =>
  intro listed a e' w' ek rest hf I;have hsz:listed.size=ops.toArray.size:=by rw [I.size]; simp
  refine ⟨fun hnil=>hfin _ _ _ _ _ _ I fun i hi=>qeF hok hsz hnil i (by simpa using hi),fun i hi=>?_⟩;obtain ⟨hlt,hnl',haf'⟩:=q5w hi;have hlt':i < ops.length:=by simpa using hlt
  obtain ⟨o,ho⟩:∃ o,o=ops[i]:=⟨_,rfl⟩;have hio:ops[i]?=some o:=by rw [ho]; exact List.getElem?_eq_getElem hlt'
  have hio2:ops.toArray[i]?=some o:=by simpa using hio
  have haf:∀ x ∈ o.after,Region.binds .any x=true→listed.getD x.on false=true:=fun x hx hb=>haf' x (by rw [ho] at hx; simpa using hx) hb;have hmem:o ∈ ops:=List.mem_of_getElem? hio;have hdo:q3z n o=true:=by rw [List.all_eq_true] at hd; exact hd _ hmem
  have hli:i < listed.size:=by rw [I.size]; exact hlt'
  have hcount:ops.length≤fuel+(List.range ops.length).countP (fun j=>(listed.setIfInBounds i true).getD j true):=by
   have:(List.range ops.length).countP (fun j=>listed.getD j true)+1≤(List.range ops.length).countP (fun j=>(listed.setIfInBounds i true).getD j true):=by
    have hsplit:List.range ops.length=List.range i ++ i :: (List.range' (i+1) (ops.length-i-1)):=by
     rw [List.range_eq_range',List.range_eq_range',show ops.length=i+(1+(ops.length-i-1)) by omega,← List.range'_append_1,Nat.zero_add]
     congr 1
     rw [show i+(1+(ops.length-i-1))-i-1=ops.length-i-1 by omega,Nat.add_comm 1,List.range'_succ]
    rw [hsplit,List.countP_append,List.countP_append,List.countP_cons,List.countP_cons];have hmono:∀ (L:List Nat),L.countP (fun j=>listed.getD j true)≤L.countP (fun j=>(listed.setIfInBounds i true).getD j true):=by
     intro L;refine List.countP_mono_left (fun j _ hj=>?_);rw [q0H hli]
     split
     ·rfl
     ·exact hj
    have h1:=hmono (List.range i);have h2:=hmono (List.range' (i+1) (ops.length-i-1));simp only [hnl',q0H hli,if_true,if_false,Bool.false_eq_true] at h1 h2 ⊢;omega
   omega
  have hunl:∀ j,q0q o j=true→listed.getD j false=true:=fun j he=>by
   obtain ⟨x,hx,hb,rfl⟩:=q0c.1 he;exact haf x hx hb
  have hft:∀ j,j < ops.length→listed.getD j false=true→listed.getD j true=true:=fun j hj h=>by rwa [← ft (by rw [I.size]; exact hj)]
  have hback:∀ (j:Nat) (p:Oper),ops[j]?=some p→q0q p i=true→listed.getD j true=false:=fun j p hp he=>by
   cases hb:listed.getD j true with
   | false=>rfl
   | true =>
    obtain ⟨x,hx,hbx,hxo⟩:=q0c.1 he;have:=I.closed j p x (by simpa using hp) hb hx hbx;rw [hxo,ft hli,hnl'] at this; cases this
  have hslot:∀ (j:Nat) (p:Oper) (d:Nat),ops[j]?=some p→listed.getD j true=false→p.dst=some d→e' d=e d:=fun j p d hp hl hpd=>I.old d fun j' p' hp' hl' hpd'=>by
   have:=hdd j j' p p' d hp hp' hpd hpd';subst this; rw [hl] at hl'; cases hl'
  have hput:∀ v,Rel n (a.put o.dst v) (put e' o.dst v):=fun v=>I.rel.put _ v (by unfold q3z at hdo; cases hx:o.dst <;> simp_all);have hpne:∀ v (t:Nat),o.dst≠some t→put e' o.dst v t=e' t:=fun v t h0=>by
   cases hx:o.dst with
   | none=>rfl
   | some d' =>
    have:t≠d':=fun h=>h0 (by rw [hx,h]);simp [put,upd,this]
  have hpke:∀ v (t:Nat),o.dst≠some t→put ek o.dst v t=ek t:=fun v t h0=>by
   cases hx:o.dst with
   | none=>rfl
   | some d' =>
    have:t≠d':=fun h=>h0 (by rw [hx,h]);simp [put,upd,this]
  have hpeq:∀ (f:Env) v (t:Nat),o.dst=some t→put f o.dst v t=v:=fun f v t h0=>by rw [h0]; simp [put,upd]
  have hclosed':∀ (j:Nat) (p:Oper) (x:Edge),ops.toArray[j]?=some p→(listed.setIfInBounds i true).getD j true=true→x ∈ p.after→Region.binds .any x=true→(listed.setIfInBounds i true).getD x.on false=true:=by
   intro j p x hp hl hx hb;rw [q0H hli] at hl ⊢
   by_cases hij:i=j
   ·subst hij;have:p=o:=Option.some.inj (hp.symm.trans hio2);subst this
    split
    ·rfl
    ·exact haf x hx hb
   ·rw [if_neg hij] at hl
    split
    ·rfl
    ·exact I.closed j p x hp hl hx hb
  have hold':∀ v (t:Nat),(∀ (j:Nat) (p:Oper),ops[j]?=some p→(listed.setIfInBounds i true).getD j true=true→p.dst≠some t)→put e' o.dst v t=e t:=fun v t ht=>by
   rw [hpne v t (ht i o hio (by rw [q0H hli]; simp))];exact I.old t fun j p hp hl=>ht j p hp (by
    rw [q0H hli]; split
    ·rfl
    ·exact hl)
  rcases hmb i hlt' with hmi | hmi
  ·-- an early one
   have hwg:∃ v,(∀ d,o.dst=some d→es d=v)∧wg P ops.toArray o e' w' fun v' w''=>v'=v∧w''=w':=by
    have hcore:∀ (mk:List Bool) (ei es1:Env) (v:Value),mk[i]?=some true→(∀ j:Nat,mk[j]?=some true→mask[j]?=some true)→(∀ (j:Nat) (p:Oper) (d:Nat),ops[j]?=some p→mask[j]?=some true→mk[j]?≠some true→p.dst=some d→q1g ops.toArray o d=false) →
      (∀ t,t ∈ q0j mk ops→es1 t=es t)→(∀ t,(∀ (j:Nat) (p:Oper),j < i→ops[j]?=some p→mk[j]?=some true→p.dst≠some t)→ei t=e t) →
      (∀ t,(∃ (j:Nat) (p:Oper),j < i∧ops[j]?=some p∧mk[j]?=some true∧p.dst=some t)→ei t=es1 t) →
      (∀ (e2:Env) (w':World),(∀ t,q1g ops.toArray o t=true→e2 t=ei t)→(q6J o=true→Ext w' w')→∀ K':Value→World→Prop,K' v w'→True)→∀ t,q1g ops.toArray o t=true→e' t=ei t:=by
     intro mk ei es1 v hmki hmk hmno hes1 g1 g2 _ t ht
     by_cases hex:∃ (j:Nat) (p:Oper),ops[j]?=some p∧p.dst=some t
     ·obtain ⟨j,p,hp,hpd⟩:=hex;have hjl:=(List.getElem?_eq_some_iff.1 hp).1
      by_cases hij:i=j
      ·subst hij;rw [hslot i p t hp hnl' hpd,g1 t fun k q hk hq hmq hqd=>by have:=hdd k i q p t hq hp hqd hpd; omega]
      ·rcases hmb j hjl with hmj | hmj
       ·by_cases hmj2:mk[j]?=some true
        ·rcases hok.seen i j o p t hio2 (by simpa using hp) hij hpd ht with he | he
         ·have hji:j < i:=by
           obtain ⟨x,hx,hb,rfl⟩:=q0c.1 he;exact hok.down i o x hio2 hx hb
          rw [g2 t ⟨j,p,hji,hp,hmj2,hpd⟩,hes1 t (q0i.2 ⟨j,p,hp,hmj2,hpd⟩),I.vals j p t hp (hft j hjl (hunl j he)) hpd];exact I.ekE t fun k q hq hmq _ hqd=>by
           have:=hdd k j q p t hq hp hqd hpd;subst this; rw [hmj] at hmq; cases hmq
         ·have hij':i < j:=by
           obtain ⟨x,hx,hb,hxo⟩:=q0c.1 he;have:=hok.down j p x (by simpa using hp) hx hb; omega
          rw [hslot j p t hp (hback j p hp he) hpd,g1 t fun k q hk hq hmq hqd=>by have:=hdd k j q p t hq hp hqd hpd; omega]
        ·have:=hmno j p t hp hmj hmj2 hpd;rw [ht] at this; cases this
       ·have he:=hc.early i j o p t hio hp hmi hmj hpd ht;rw [hslot j p t hp (hback j p hp he) hpd,g1 t fun k q hk hq hmq hqd=>by
         have:=hdd k j q p t hq hp hqd hpd;subst this;have:=hmk k hmq;rw [hmj] at this; cases this]
     ·have hno:∀ (j:Nat) (p:Oper),ops[j]?=some p→p.dst≠some t:=fun j p h1 h2=>hex ⟨j,p,h1,h2⟩;rw [I.old t fun j p hp _=>hno j p hp,g1 t fun k q _ hq _=>hno k q hq]
    rcases I.world with h | ⟨h,hS2⟩ | hS
    ·have:=h i hmi;rw [hnl'] at this; cases this
    ·have hm2:mask2[i]?=some true:=by
      have hl:i < mask2.length:=by rw [hpm.len2]; exact hlt'
      rw [List.getElem?_eq_getElem hl];cases hb:mask2[i] with
      | true=>rfl
      | false =>
       have:=h i hmi (by rw [List.getElem?_eq_getElem hl,hb]);rw [hnl'] at this; cases this
     obtain ⟨es1,h1,_,h3⟩:=q2f mask2 ops e hdd (fun i o a b=>hc.pure i o a (hpm.sub i (List.getElem?_eq_some_iff.1 a).1 b)) (hes2 w' hS2);obtain ⟨ei,v,g1,g2,g3,g4⟩:=h3 i o hio hm2;refine ⟨v,fun d hd=>by rw [← h1 d (q0i.2 ⟨i,o,hio,hm2,hd⟩)]; exact g3 d hd,g4 e' w' (hcore mask2 ei es1 v hm2 (fun j hj=>hpm.sub j (by have:=(List.getElem?_eq_some_iff.1 hj).1; rw [hpm.len2] at this; exact this) hj) (fun j p d hp hm1 hm2' hd=>hpm.own i j o p d hio hp hm2 hm1 (by
       have hl:j < mask2.length:=by rw [hpm.len2]; exact (List.getElem?_eq_some_iff.1 hp).1
       rw [List.getElem?_eq_getElem hl] at hm2' ⊢;cases hb:mask2[j] with
       | true=>rw [hb] at hm2'; exact absurd rfl hm2'
       | false=>rfl) hd) h1 g1 g2 (fun _ _ _ _ _ _=>trivial)) (fun _=>Kp.refl _ _) _ ⟨rfl,rfl⟩⟩
    ·obtain ⟨es1,h1,_,h3⟩:=q2f mask ops e hdd (fun i o a b=>hc.pure i o a b) (hes w' hS);subst h1;obtain ⟨ei,v,g1,g2,g3,g4⟩:=h3 i o hio hmi;exact ⟨v,g3,g4 e' w' (hcore mask ei es1 v hmi (fun _ h=>h) (fun j p d hp hm1 hm2' hd=>absurd hm1 hm2') (fun _ _=>rfl) g1 g2 (fun _ _ _ _ _ _=>trivial)) (fun _=>Kp.refl _ _) _ ⟨rfl,rfl⟩⟩
   obtain ⟨v,g3,hwg⟩:=hwg;have hstep:=q0w hwg;have hnext:wpAny P .any ops.toArray Q fuel (listed.setIfInBounds i true) (a.put o.dst v) w':=by
    refine ih _ _ (put e' o.dst v) w' ek rest hcount ⟨by simpa using I.size,hput v,I.world.imp (fun h k hk=>by
     rw [q0H hli]; split
     ·rfl
     ·exact h k hk) (Or.imp (fun h=>⟨fun k hk hk2=>by
     rw [q0H hli]; split
     ·rfl
     ·exact h.1 k hk hk2,h.2⟩) id),I.run,I.sort,?_,I.restL,?_,hold' v,?_,hclosed'⟩
    ·intro j hj hmj;rw [q0H hli,if_neg (fun h=>by subst h; rw [hmi] at hmj; cases hmj)];exact I.late j hj hmj
    ·intro j p d hp hl hpd;rw [q0H hli] at hl
     by_cases hij:i=j
     ·subst hij;have:p=o:=Option.some.inj (hp.symm.trans hio);subst this;rw [hpeq e' v d hpd,← g3 d hpd];exact (I.ekE d fun k q hq hmq _ hqd=>by
       have:=hdd k i q p d hq hio hqd hpd;subst this; rw [hmi] at hmq; cases hmq).symm
     ·rw [if_neg hij] at hl;rw [hpne v d fun hx=>hij (hdd i j o p d hio hp hx hpd)];exact I.vals j p d hp hl hpd
    ·intro t ht;exact I.ekE t fun j p hp hmj hl=>ht j p hp hmj (by
      rw [q0H hli]; split
      ·rfl
      ·exact hl)
   unfold wpOp;simp only [hio2];rw [q2l I.rel (by simpa using hd)];unfold WG at hstep
   split
   ·rename_i hw;rw [if_pos hw] at hstep;exact .inl (q2O I.rel hstep fun v' w'' ⟨h1,h2⟩=>by subst h1; subst h2; exact hnext)
   ·rename_i hw;rw [if_neg hw] at hstep;obtain ⟨h1,h2⟩:=hstep;rw [h1]; exact hnext
  ·-- the next of the late ones
   have hir:i ∈ rest:=(I.late i hlt' hmi).1 hnl';obtain ⟨j,r,hr⟩:∃ j r,rest=j :: r:=by
    cases hr:rest with
    | nil=>rw [hr] at hir; cases hir
    | cons j r=>exact ⟨j,r,rfl⟩
   have hji:j=i:=by
    rw [hr] at hir
    rcases List.mem_cons.1 hir with h | h
    ·exact h.symm
    ·have hs:=I.sort;rw [hr] at hs;have hlt2:=(List.pairwise_cons.1 hs).1 i h;obtain ⟨hj1,hj2⟩:=I.restL j (by rw [hr]; exact List.mem_cons_self);have:=q8x hsz I.closed (hc.ord i j hlt' hmi hj2 hlt2) (fun p hp x hx hb=>by
      rw [hio2] at hp; cases hp; exact haf x hx hb)
     have h2:=(I.late j hj1 hj2).2 (by rw [hr]; exact List.mem_cons_self);rw [ft (by rw [I.size]; exact hj1),h2] at this; cases this
   subst hji;have hrun:=I.run;rw [hr] at hrun;simp only [List.filterMap_cons,qmr,hio,Option.map_some] at hrun;have hWG:WG P ops.toArray o ek w' fun v w''=>((∀ j:Nat,mask[j]?=some true→listed.getD j true=true)∨((∀ j:Nat,mask[j]?=some true→mask2[j]?=some false→listed.getD j true=true)∧S2 w'')∨S w'')∧WLc P ops.toArray S S2 K (r.filterMap (qmr ops pm)) (put ek o.dst v) w'':=by
    obtain ⟨b,hb⟩:∃ b,b=pm.getD j 0:=⟨_,rfl⟩;rw [← hb] at hrun;have hanc:∀ k:Nat,mask[k]?=some true→Anc ops.toArray j k→listed.getD k true=true:=fun k hk ha=>by
     have:=q8x hsz I.closed ha (fun p hp x hx hb=>by
      rw [hio2] at hp; cases hp; exact haf x hx hb)
     have hkl:k < ops.length:=by have:=(List.getElem?_eq_some_iff.1 hk).1; have:=hc.len; omega
     exact hft k hkl this
    match b,hb,hrun with
    | 1,hb,hrun =>
     rcases hpm.one j o hio hb.symm with hp | ha
     ·obtain ⟨v,hv,hre⟩:=qdF hp hrun;exact q0w (hre ek w' (fun _ _=>rfl) (fun _=>Kp.refl _ _) _ ⟨I.world,hv⟩)
     ·exact q4w (fun v w'' h=>⟨.inl fun k hk=>hanc k hk (ha k hk),h⟩) (q0w hrun)
    | 0,hb,hrun=>exact q4w (fun v w'' h=>⟨.inr (.inr h.1),h.2⟩) (q0w hrun)
    | b+2,hb,hrun=>exact q4w (fun v w'' h=>⟨.inr (.inl ⟨fun k hk hk2=>hanc k hk (hpm.two j o b hio hb.symm k hk hk2),h.1⟩),h.2⟩) (q0w hrun)
   have hsel:∀ cs b,o.op≠.select cs b:=fun cs b hsel=>by
    have:=hc.draw;unfold q2I at this;rw [List.all_eq_true] at this;have:=this j (List.mem_range.2 hlt);simp only [hio,Bool.and_eq_true] at this;have:=this.1.2;rw [hsel] at this; simp at this
   have hstep:WG P ops.toArray o e' w' fun v w''=>((∀ j:Nat,mask[j]?=some true→listed.getD j true=true)∨((∀ j:Nat,mask[j]?=some true→mask2[j]?=some false→listed.getD j true=true)∧S2 w'')∨S w'')∧WLc P ops.toArray S S2 K (r.filterMap (qmr ops pm)) (put ek o.dst v) w'':=by
    refine qkE hsel (fun t ht=>?_) hWG
    by_cases hex:∃ (k:Nat) (p:Oper),ops[k]?=some p∧p.dst=some t
    ·obtain ⟨k,p,hp,hpd⟩:=hex;have hkl:=(List.getElem?_eq_some_iff.1 hp).1;have hun:mask[k]?=some false→listed.getD k true=false→e' t=ek t:=fun hmk hlk=>by
      rw [hslot k p t hp hlk hpd,I.ekE t fun k' q hq hmq hlq hqd=>by
       have:=hdd k' k q p t hq hp hqd hpd;subst this; rw [hlk] at hlq; cases hlq]
      exact (hesold w0 hS0 t fun k' q hq hmq hqd=>by
       have:=hdd k' k q p t hq hp hqd hpd;subst this; rw [hmk] at hmq; cases hmq).symm
     by_cases hij:j=k
     ·subst hij; exact hun hmi hnl'
     ·rcases hmb k hkl with hmk | hmk
      ·exact I.vals k p t hp (hft k hkl (hunl k (hc.late j k o p t hio hp hmi hmk hpd ht))) hpd
      ·rcases hok.seen j k o p t hio2 (by simpa using hp) hij hpd ht with he | he
       ·exact I.vals k p t hp (hft k hkl (hunl k he)) hpd
       ·exact hun hmk (hback k p hp he)
    ·have hno:∀ (k:Nat) (p:Oper),ops[k]?=some p→p.dst≠some t:=fun k p h1 h2=>hex ⟨k,p,h1,h2⟩;rw [I.old t fun k p hp _=>hno k p hp,I.ekE t fun k p hp _ _=>hno k p hp,hesold w0 hS0 t fun k p hp _=>hno k p hp]
   have hsr:=I.sort;rw [hr] at hsr;have hnext:∀ v w'',((∀ j:Nat,mask[j]?=some true→listed.getD j true=true)∨((∀ j:Nat,mask[j]?=some true→mask2[j]?=some false→listed.getD j true=true)∧S2 w'')∨S w'')∧WLc P ops.toArray S S2 K (r.filterMap (qmr ops pm)) (put ek o.dst v) w''→wpAny P .any ops.toArray Q fuel (listed.setIfInBounds j true) (a.put o.dst v) w'':=by
    rintro v w'' ⟨hS,hW⟩;refine ih _ _ (put e' o.dst v) w'' (put ek o.dst v) r hcount ⟨by simpa using I.size,hput v,hS.imp (fun h k hk=>by
     rw [q0H hli]; split
     ·rfl
     ·exact h k hk) (Or.imp (fun h=>⟨fun k hk hk2=>by
     rw [q0H hli]; split
     ·rfl
     ·exact h.1 k hk hk2,h.2⟩) id),hW,(List.pairwise_cons.1 hsr).2,?_,fun k hk=>I.restL k (by rw [hr]; exact List.mem_cons_of_mem _ hk),?_,hold' v,?_,hclosed'⟩
    ·intro k hk hmk;rw [q0H hli]
     by_cases hjk:j=k
     ·subst hjk;simp only [if_true]
      constructor
      ·intro h; cases h
      ·intro h; have:=(List.pairwise_cons.1 hsr).1 j h; omega
     ·rw [if_neg hjk,I.late k hk hmk,hr,List.mem_cons]
      constructor
      ·rintro (h | h)
       ·exact absurd h.symm hjk
       ·exact h
      ·exact fun h=>.inr h
    ·intro k p d hp hl hpd;rw [q0H hli] at hl
     by_cases hjk:j=k
     ·subst hjk;have:p=o:=Option.some.inj (hp.symm.trans hio);subst this;rw [hpeq e' v d hpd,hpeq ek v d hpd]
     ·rw [if_neg hjk] at hl;have hne:o.dst≠some d:=fun hx=>hjk (hdd j k o p d hio hp hx hpd);rw [hpne v d hne,hpke v d hne];exact I.vals k p d hp hl hpd
    ·intro t ht;have hne:o.dst≠some t:=ht j o hio hmi (by rw [q0H hli]; simp);rw [hpke v t hne];exact I.ekE t fun k p hp hmk hl=>ht k p hp hmk (by
      rw [q0H hli]; split
      ·rfl
      ·exact hl)
   unfold wpOp;simp only [hio2];rw [q2l I.rel (by simpa using hd)];unfold WG at hstep
   split
   ·rename_i hw;rw [if_pos hw] at hstep;exact .inl (q2O I.rel hstep fun v w'' hk=>hnext v w'' hk)
   ·rename_i hw;rw [if_neg hw] at hstep;exact hnext _ _ hstep
def qaR {id:Nat} {ops:List Oper} {Q:Exit→Env→World→Prop} {e:Env} {w:World} (hm:P.follows .mixedOrders=true) (R R2:World→World→Prop) (hR:Pre R) (mask mask2:List Bool) (pm:List Nat) (hok:(dcOk ops mask && pmOk ops mask mask2 pm)=true)
  (h:∃ es,(∀ w',R w w'→∀ KE:Env→Prop,KE es→WLm P ops.toArray KE mask ops e w')∧(∀ w',R2 w w'→∀ KE:Env→Prop,(∀ x,(∀ t,t ∈ q0j mask2 ops→x t=es t)→KE x)→WLm P ops.toArray KE mask2 ops e w')∧∀ w',Ext w w'→R w w'→WLc P ops.toArray (R w) (R2 w) (Q .normal) (qdp mask pm ops) es w'):W P n (.region id ops.toArray true) Q e w:=by
 obtain ⟨es,h1,h12,h2⟩:=h;intro hd a hr;have hd':ops.all (q3z n)=true:=by
  have:ops.toArray.toList.all (q3z n)=true:=hd;simpa using this
 rw [Bool.and_eq_true] at hok;have hc:=DcOk.of hok.1;have hpm:=PmOk.of hok.2 hc.len;have hw0:R w { w with drawn:=w.drawn+1 }:=hR.drew w _;have hfalse:∀ i,i < ops.length→(Array.replicate ops.toArray.size false).getD i true=false:=fun i hi=>by
  have hi':i < ops.toArray.size:=by simpa using hi
  rw [Array.getD_eq_getD_getElem?,Array.getElem?_replicate,if_pos hi']; rfl
 refine wp_region_any hm (qfw (n:=n) (e:=e) (es:=es) (S:=R w) (K:=Q .normal) (mask:=mask) (mask2:=mask2) (S2:=R2 w) (pm:=pm) hc hpm hw0 hd' (fun w' hw'=>h1 w' hw' _ rfl) (fun w' hw'=>h12 w' hw' _ fun _ h=>h) ?_ ops.toArray.size _ a e _ es (q3A mask 0) (by simp) ⟨by simp,hr,.inr (.inr hw0),?_,q2u _ _,?_,?_,?_,fun _ _=>rfl,fun _ _=>rfl,?_⟩)
 ·intro a' e' w' r' h2 h3;exact ⟨e',r',h2,h3⟩
 ·rw [← qdo mask pm ops 0 hc.len hpm.len (fun k=>by rw [Nat.zero_add]) (fun k=>by rw [Nat.zero_add])];exact h2 _ (Kp.drew w _) hw0
 ·intro i hi hmi;rw [hfalse i hi];exact ⟨fun _=>q38.2 ⟨Nat.zero_le _,by simpa using hmi⟩,fun _=>rfl⟩
 ·intro i hi;have h3:=(q38.1 hi).2;rw [Nat.sub_zero] at h3;exact ⟨by have:=(List.getElem?_eq_some_iff.1 h3).1; have:=hc.len; omega,h3⟩
 ·intro i o d ho hl;rw [hfalse i (List.getElem?_eq_some_iff.1 ho).1] at hl; cases hl
 ·intro i o x ho hl;rw [hfalse i (by simpa using (Array.getElem?_eq_some_iff.1 ho).1)] at hl; cases hl
end
section
variable {P:Program} {ops:Array Oper} {R R2:World→Prop} {K:Env→World→Prop} {e:Env} {w:World} {o:Oper} {os:List Oper} {m:List Bool} {b:Nat} {pm:List Nat} {l:List (Nat × Oper)}
def qpy:WLc P ops R R2 K [] e w=K e w:=rfl
def WLc_0:WLc P ops R R2 K ((0,o) :: l) e w=wg P ops o e w fun v w'=>R w'∧WLc P ops R R2 K l (put e o.dst v) w':=rfl
def WLc_1:WLc P ops R R2 K ((1,o) :: l) e w=wg P ops o e w fun v w'=>WLc P ops R R2 K l (put e o.dst v) w':=rfl
def WLc_2:WLc P ops R R2 K ((2,o) :: l) e w=wg P ops o e w fun v w'=>R2 w'∧WLc P ops R R2 K l (put e o.dst v) w':=rfl
def q2D:qdp (true :: m) (b :: pm) (o :: os)=qdp m pm os:=rfl
def q2F:qdp (false :: m) (b :: pm) (o :: os)=(b,o) :: qdp m pm os:=rfl
def q2E:qdp [] [] []=[]:=rfl
@[congr] theorem qvZ {e':Env} (h:e=e'):WLc P ops R R2 K l e w=WLc P ops R R2 K l e' w:=by rw [h]
attribute [go_sem ↓] qpy WLc_0 WLc_1 WLc_2
attribute [irreducible] WLc
end
section
variable {P:Program} {n:Nat} {R:World→World→Prop}
def qkg {f:Env} {x:Option Nat} {v:Value} {t:Nat} (h0:x≠some t):put f x v t=f t:=by
 cases hx:x with
 | none=>rfl
 | some d' =>
  have:t≠d':=fun h=>h0 (by rw [hx,h]);simp [put,upd,this]
end
inductive Sch where
 | fin:Sch
 | one:Nat→Sch→Sch
 | alt:Sch→Sch→Sch
def q78:Sch→List Nat
 | .fin=>[]
 | .one i _=>[i]
 | .alt s t=>q78 s ++ q78 t
def qcS:List Oper→Nat→Oper
 | o :: _,0=>o
 | _ :: l,i+1=>qcS l i
 | [], _ => ⟨none, .move (.const undef), 0, "", #[], none⟩
def q8Z {o:Oper} {l:List Oper}:qcS (o :: l) 0=o:=rfl
def qas {o:Oper} {l:List Oper} {i:Nat}:qcS (o :: l) (i+1)=qcS l i:=rfl
def q9c:∀ {l:List Oper} {i:Nat} {o:Oper},l[i]?=some o→qcS l i=o
 | o :: _,0,_,h=>by rw [q8Z]; simpa using h
 | _ :: l,i+1,_,h=>q9c (l:=l) (by simpa using h)
 | [],i,_,h=>by simp at h
def quc:List Nat→List Nat→Bool
 | [],[]=>true
 | a :: l,b :: m=>Nat.beq a b && quc l m
 | _,_=>false
def qaL:∀ {l m:List Nat},quc l m=true→l=m
 | [],[],_=>rfl
 | a :: l,b :: m,h=>by
  simp only [quc,Bool.and_eq_true] at h;rw [Nat.eq_of_beq_eq_true h.1,qaL h.2]
 | [],_ :: _,h=>by cases h
 | _ :: _,[],h=>by cases h
def qff (ops:List Oper) (l:Array Bool) (i:Nat):Bool :=
 q5K (qcS ops i) && !q6J (qcS ops i) && Region.free .any ops.toArray l i && (Region.ready .any ops.toArray l).any (Nat.beq i)
def q5s (ops:List Oper):Sch→Bool→Nat→Array Bool→Bool
 | .fin,b,_,l=>!b && (Region.ready .any ops.toArray l).isEmpty
 | .one i s,b,f+1,l=>(b || qff ops l i || quc (Region.ready .any ops.toArray l) [i]) && q5s ops s false f (l.setIfInBounds i true)
 | .one _ _,_,0,_=>false
 | .alt s t,b,f,l=>(b || quc (Region.ready .any ops.toArray l) (q78 s ++ q78 t)) && !(q78 s).isEmpty && !(Nat.beq f 0) && q5s ops s true f l && q5s ops t true f l
def WS (P:Program) (ops:List Oper) (K:Env→World→Prop):Sch→Env→World→Prop
 | .fin,e,w=>K e w
 | .one i s,e,w=>wg P ops.toArray (qcS ops i) e w fun v w'=>WS P ops K s (put e (qcS ops i).dst v) w'
 | .alt s t,e,w=>WS P ops K s e w∧WS P ops K t e w
section
variable {P:Program} {n:Nat}
def qgo {ops:List Oper} {K:Env→World→Prop} {e:Env} {w:World}:WS P ops K .fin e w=K e w:=rfl
def qbm {ops:List Oper} {K:Env→World→Prop} {e:Env} {w:World} {i:Nat} {s:Sch}:WS P ops K (.one i s) e w=wg P ops.toArray (qcS ops i) e w fun v w'=>WS P ops K s (put e (qcS ops i).dst v) w':=rfl
def qbn {ops:List Oper} {K:Env→World→Prop} {e:Env} {w:World} {s t:Sch}:WS P ops K (.alt s t) e w=(WS P ops K s e w∧WS P ops K t e w):=rfl
@[congr] theorem WS_congr {ops:List Oper} {K:Env→World→Prop} {e e':Env} {w:World} {s:Sch} (h:e=e'):WS P ops K s e w=WS P ops K s e' w:=by rw [h]
def q49 {r:Result Value} {x:Next} {w':World} (h:r.andThen (fun a w=>.ok (.value a) w)=.ok x w'):∃ v,x=.value v:=by
 cases r with
 | ok a w=>simp only [Result.andThen_ok] at h; cases h; exact ⟨_,rfl⟩
 | halt=>cases h
def qdx {o:Oper} (hp:q5K o=true) {ρ:Operand→Value} {w:World} {x:Next} {w':World} (h:(execOp ρ o).run P w=.ok x w'):∃ v,x=.value v:=by
 obtain ⟨d,op,ty,pos,af,g⟩:=o;cases op <;> (try (cases hp; done)) <;> simp only [execOp,Sem.run_bind,Sem.run_pure] at h
 case move=>cases h; exact ⟨_,rfl⟩
 case assign=>cases h; exact ⟨_,rfl⟩
 case pick c a b =>
  cases hr:(asBool (ρ c)).run P w with
  | ok b w1 =>
   rw [hr] at h;cases b <;> (simp only [Result.andThen_ok] at h; cases h; exact ⟨_,rfl⟩)
  | halt=>rw [hr] at h; cases h
 case call c =>
  unfold q5K at hp;simp only at hp;cases hc:c.callee with
  | builtin b =>
   rw [hc] at hp;simp only [resolve,hc,Sem.run_pure,Result.andThen_ok,invoke] at h;cases b <;> (try (cases hp; done)) <;> simp only [builtin,Sem.run_bind,Sem.run_pure] at h <;> exact q49 h
  | invoke=>rw [hc] at hp; cases hp
  | value f=>rw [hc] at hp; cases hp
 all_goals exact q49 h
def q7S {ops:Array Oper} {l:Array Bool} {i:Nat} (h:i ∈ Region.ready .any ops l):i < ops.size:=(q5w h).1
def qms {ops:List Oper} {Q:Exit→Act→World→Prop} {K:Env→World→Prop} {e0:Env} (hs:Region.noSelect ops.toArray=true) (hd:ops.all (q3z n)=true)
  (hQp:∀ c a a' w,Q (.panic c) a w→Q (.panic c) a' w)
  (hQ:∀ a e' w',Rel n a e'→(∀ t,q26 ops.toArray t=false→e' t=e0 t)→K e' w'→Q .normal a w') :
  ∀ (s:Sch) (b:Bool) (f:Nat) (l:Array Bool) (a:Act) (e:Env) (w:World),q5s ops s b f l=true→Rel n a e→(∀ t,q26 ops.toArray t=false→e t=e0 t)→WS P ops K s e w →
   (b=false→wpAny P .any ops.toArray Q f l a w)∧(b=true→∀ i ∈ q78 s,(∃ o,ops[i]?=some o)→∀ f',f=f'+1→wpOp P ops.toArray Q i (wpAny P .any ops.toArray Q f' (l.setIfInBounds i true)) a w):=by
 intro s;have hdo:∀ (i:Nat) (o:Oper),ops[i]?=some o→∀ {a:Act} {e:Env} (v:Value),Rel n a e→Rel n (a.put o.dst v) (put e o.dst v):=fun i o ho a e v hr=>by
  have h1:q3z n o=true:=by rw [List.all_eq_true] at hd; exact hd _ (List.mem_of_getElem? ho)
  exact hr.put _ v (by unfold q3z at h1; cases hx:o.dst <;> simp_all)
 have hold:∀ (i:Nat) (o:Oper),ops[i]?=some o→∀ {e:Env} (v:Value),(∀ t,q26 ops.toArray t=false→e t=e0 t)→∀ t,q26 ops.toArray t=false→put e o.dst v t=e0 t:=fun i o ho e v h t ht=>by
  rw [qkg (q1l ht i o (by simpa using ho))]; exact h t ht
 have hop:∀ (i:Nat) (o:Oper),ops[i]?=some o→∀ {a:Act} {e:Env} {w:World} {Kv:Value→World→Prop} {K':Act→World→Prop},Rel n a e→wg P ops.toArray o e w Kv→(∀ v w',Kv v w'→K' (a.put o.dst v) w')→wpOp P ops.toArray Q i K' a w:=fun i o ho a e w Kv K' hr h hk=>by
  have h1:=q0w h;unfold wpOp;have hio2:ops.toArray[i]?=some o:=by simpa using ho
  simp only [hio2];rw [q2l hr (by simpa using hd)];unfold WG at h1
  split
  ·rename_i hw;rw [if_pos hw] at h1;exact .inl (q2O hr h1 hk)
  ·rename_i hw;rw [if_neg hw] at h1;exact hk _ _ h1
 induction s with
 | fin =>
  intro b f l a e w hok hr hold0 h;simp only [q5s,Bool.and_eq_true,List.isEmpty_iff,Bool.not_eq_true'] at hok;exact ⟨fun _=>wpAny_done hok.2 (hQ a e w hr hold0 h) f,fun hb=>by rw [hb] at hok; cases hok.1⟩
 | one i s ih =>
  intro b f l a e w hok hr hold0 h;cases f with
  | zero=>cases b <;> simp [q5s] at hok
  | succ f =>
   simp only [q5s,Bool.and_eq_true] at hok;obtain ⟨hok1,hok2⟩:=hok;rw [qbm] at h;have step:∀ o,ops[i]?=some o→wpOp P ops.toArray Q i (wpAny P .any ops.toArray Q f (l.setIfInBounds i true)) a w:=fun o ho=>by
    rw [q9c ho] at h;exact hop i o ho hr h fun v w' hv=>(ih false f _ _ _ _ hok2 (hdo i o ho v hr) (hold i o ho v hold0) hv).1 rfl
   refine ⟨fun hb=>?_,fun hb j hj ⟨o,ho⟩ f' hf=>?_⟩
   ·subst hb;rw [Bool.false_or,Bool.or_eq_true] at hok1
    rcases hok1 with hf | hf
    ·unfold qff at hf;rw [Bool.and_eq_true,Bool.and_eq_true,Bool.and_eq_true] at hf;obtain ⟨⟨⟨h1,h2⟩,h3⟩,h4⟩:=hf;rw [List.any_eq_true] at h4;obtain ⟨j,hj,hji⟩:=h4;obtain rfl:i=j:=Nat.eq_of_beq_eq_true hji;have hlt:i < ops.length:=by simpa using q7S hj
     have ho:ops[i]?=some ops[i]:=List.getElem?_eq_getElem hlt;generalize ops[i]=o at ho;rw [q9c ho] at h h1 h2;obtain ⟨v,hv,hev⟩:=qdF h1 h;have hio2:ops.toArray[i]?=some o:=by simpa using ho
     have hstep:∀ w2,WG P ops.toArray o e w2 fun v' w3=>v'=v∧w3=w2:=fun w2=>q0w (hev e w2 (fun _ _=>rfl) (fun hl=>by rw [hl] at h2; cases h2) _ ⟨rfl,rfl⟩);have hy:Yields P ops.toArray o v a:=by
      unfold Yields;rw [q2l hr (by simpa using hd)];cases hw:q6z ops.toArray e o with
      | true =>
       refine .inl ⟨rfl,fun w2=>?_⟩;have h5:=hstep w2;unfold WG at h5;rw [if_pos hw] at h5;unfold WO at h5;rw [hr.eval];cases hx:(execOp (ev e) o).run P w2 with
       | ok x w3 =>
        obtain ⟨v3,rfl⟩:=qdx h1 hx;rw [hx] at h5;simp only [RO] at h5;rw [h5.1,h5.2]
       | halt=>rw [hx] at h5; exact h5.elim
      | false =>
       refine .inr ⟨rfl,?_⟩;have h5:=hstep w;unfold WG at h5;rw [if_neg (by rw [hw]; simp)] at h5;exact h5.1.symm
     refine wpAny_take hio2 hs h3 (by simpa using hj) (fun c a' w' hq=>hQp c _ _ w' hq) hy ?_;exact (ih false f _ _ _ _ hok2 (hdo i o ho v hr) (hold i o ho v hold0) hv).1 rfl
    ·have hrd:=qaL hf;refine wpAny_all hrd (by simp) fun j hj=>?_;simp only [List.mem_singleton] at hj;subst hj;have hlt:j < ops.length:=by simpa using q7S (show j ∈ Region.ready .any ops.toArray l by rw [hrd]; simp)
     exact step _ (List.getElem?_eq_getElem hlt)
   ·simp only [q78,List.mem_singleton] at hj;subst hj;obtain rfl:f=f':=by omega
    exact step o ho
 | alt s t ihs iht =>
  intro b f l a e w hok hr hold0 h;simp only [q5s,Bool.and_eq_true] at hok;obtain ⟨⟨⟨⟨hok1,hok2⟩,hok3⟩,hok4⟩,hok5⟩:=hok;rw [qbn] at h;have hs1:=(ihs true f l a e w hok4 hr hold0 h.1).2 rfl;have ht1:=(iht true f l a e w hok5 hr hold0 h.2).2 rfl;have key:∀ i ∈ q78 s ++ q78 t,(∃ o,ops[i]?=some o)→∀ f',f=f'+1→wpOp P ops.toArray Q i (wpAny P .any ops.toArray Q f' (l.setIfInBounds i true)) a w:=fun i hi ho f' hf=>by
   rcases List.mem_append.1 hi with hi | hi
   ·exact hs1 i hi ho f' hf
   ·exact ht1 i hi ho f' hf
  refine ⟨fun hb=>?_,fun _=>key⟩;subst hb;rw [Bool.false_or] at hok1;have hrd:=qaL hok1;cases f with
  | zero=>simp at hok3
  | succ f =>
   refine wpAny_all hrd (by intro hn; rw [List.append_eq_nil_iff] at hn; rw [hn.1] at hok2; simp at hok2) fun j hj=>?_;have hlt:j < ops.length:=by simpa using q7S (show j ∈ Region.ready .any ops.toArray l by rw [hrd]; exact hj)
   exact key j hj ⟨_,List.getElem?_eq_getElem hlt⟩ f rfl
def W_dA {id:Nat} {ops:List Oper} {Q:Exit→Env→World→Prop} {e:Env} {w:World} (hm:P.follows .mixedOrders=true) (s:Sch) (hok:(Region.noSelect ops.toArray && q5s ops s false ops.length (Array.replicate ops.length false))=true)
  (h:∀ (K:Env→World→Prop) (w1:World),(∀ e w,Q .normal e w→K e w)→Ext w w1→WS P ops K s e w1):W P n (.region id ops.toArray true) Q e w:=by
 rw [Bool.and_eq_true] at hok;intro hd a hr;have hd':ops.all (q3z n)=true:=hd;refine wp_mono (Q:=fun x a' w'=>x=.normal∧qkG n (.region id ops.toArray true) e Q .normal a' w') (wp_region_any hm ?_) fun x a' w' hq=>by rw [hq.1]; exact hq.2
 have:=(qms (n:=n) (P:=P) (e0:=e) (K:=Q .normal) (Q:=fun x a' w'=>x=.normal∧qkG n (.region id ops.toArray true) e Q .normal a' w') hok.1 hd' (fun c a a' w hq=>by cases hq.1) (fun a' e' w' r' h2 h3=>⟨rfl,e',r',h2,h3⟩) s false ops.length (Array.replicate ops.length false) a e { w with drawn:=w.drawn+1 } hok.2 hr (fun _ _=>rfl) (h _ _ (fun _ _ h=>h) (Kp.drew w _))).1 rfl;simpa using this
end
def Own (w:World) (B:Nat) (E sz:Nat) (A:Option Addr) (n c:Nat) (xs:List Value):Prop:=w.ownsRow B E sz (.slice A n c) n xs
def nb (A:Option Addr) (k:Nat):Prop:=∀ a,A=some a→a.block≠k
section
variable {w w':World} {B E sz n c:Nat} {A:Option Addr} {xs:List Value} {D D':Nat→Prop}
def Own.nil (w:World) (B E sz:Nat):Own w B E sz none 0 0 []:=World.ownsRow_nil w B E sz
def Own.form (h:Own w B E sz A n c xs):(A=none∧n=0∧c=0∧xs=[])∨∃ g cur,A=some ⟨g,0,none⟩∧B≤g∧Blk w g E cur∧n≤c∧c≤maxLen∧cur.size=c*sz∧cur.toList.take (n*sz)=xs:=by
 obtain ⟨h1,h2⟩:=h
 rcases h2 with ⟨h2,h3⟩ | ⟨g,cap,cur,hv,hb,hg,hn,hc,hs,ht⟩
 ·injection h2 with a b c
  subst h3;exact .inl ⟨a,rfl,c,List.eq_nil_of_length_eq_zero (by simpa using h1)⟩
 ·injection hv with a b c'
  subst c';exact .inr ⟨g,cur,a,hb,hg,hn,hc,hs,ht⟩
def Own.len (h:Own w B E sz A n c xs):xs.length=n*sz:=h.1
def Own.cap (h:Own w B E sz A n c xs):n≤c:=by
 rcases h.form with ⟨_,rfl,_,_⟩ | ⟨_,_,_,_,_,hn,_⟩ <;> omega
def Own.not_lt (h:Own w B E sz A n c xs) {k:Nat} (hk:k < B):nb A k:=by
 intro a ha
 rcases h.form with ⟨h0,_⟩ | ⟨g,_,h0,hb,_⟩
 ·rw [h0] at ha; cases ha
 ·rw [h0] at ha; obtain rfl:=Option.some.inj ha; simp only; omega
def Own.kp (h:Own w B E sz A n c xs) (hk:Kp D w w') (hd:∀ a,A=some a→D a.block):Own w' B E sz A n c xs:=by
 refine ⟨h.1,?_⟩
 rcases h.2 with h2 | ⟨g,cap,cur,hv,hb,hg,rest⟩
 ·exact .inl h2
 ·have hv':=hv
  injection hv with a _ _
  exact .inr ⟨g,cap,cur,hv',hb,Blk.kp hg hk (hd _ a),rest⟩
def Own.ext (h:Own w B E sz A n c xs) (hk:Ext w w'):Own w' B E sz A n c xs:=h.kp hk fun _ _=>trivial
def Own.mono (h:Own w B E sz A n c xs) {B':Nat} (hb:B'≤B):Own w B' E sz A n c xs:=by
 refine ⟨h.1,?_⟩
 rcases h.2 with h2 | ⟨g,cap,cur,hv,hb',rest⟩
 ·exact .inl h2
 ·exact .inr ⟨g,cap,cur,hv,Nat.le_trans hb hb',rest⟩
def Kp.under {w1 w2:World} (hx:Ext w w1) (hk:Kp D w1 w2) (ho:∀ k,k < w.heap.size→D k):Ext w w2 :=
 ⟨hk.os.trans hx.os,hk.tape.trans hx.tape,hk.output.trans hx.output,Nat.le_trans hx.size hk.size,fun k hk1 _=>(hk.block k (Nat.lt_of_lt_of_le hk1 hx.size) (ho k hk1)).trans (hx.block k hk1 trivial)⟩
def Own.under {w1 w2:World} (h:Own w1 w.heap.size E sz A n c xs) (hx:Ext w w1) (hk:Kp (nb A) w1 w2):Ext w w2:=hx.under hk fun _ hk=>h.not_lt hk
def Own.row (h:Own w B E sz A n c xs):Row w (fun k=>B≤k) sz A n c xs:=by
 refine ⟨h.cap,h.len,fun hx=>?_⟩
 rcases h.form with ⟨_,_,_,rfl⟩ | ⟨g,cur,rfl,hb,hg,hn,_,hs,ht⟩
 ·simp at hx
 ·refine ⟨_,rfl,hb,fun j u hu=>?_⟩;rw [q06,Nat.zero_add,hg.cell];rw [← ht,List.getElem?_take] at hu
  split at hu
  ·simpa using hu
  ·cases hu
def Own.made {cur:Array Value} (hg:Blk w w'.heap.size E cur) (hn:n≤c) (hc:c≤maxLen) (hs:cur.size=c*sz) (hb:B≤w'.heap.size):Own w B E sz (some ⟨w'.heap.size,0,none⟩) n c (cur.toList.take (n*sz)) :=
 ⟨by rw [List.length_take,Array.length_toList,hs,Nat.min_eq_left (Nat.mul_le_mul_right _ hn)],.inr ⟨_,c,cur,rfl,hb,hg,hn,hc,hs,rfl⟩⟩
def Own.cell (h:Own w B E sz A n c xs) {j:Nat} (hj:j < xs.length):∃ g,A=some ⟨g,0,none⟩∧B≤g∧w.cell? ⟨g,j,none⟩=some xs[j]∧w.frozen? ⟨g,j,none⟩=false:=by
 rcases h.form with ⟨_,_,_,rfl⟩ | ⟨g,cur,rfl,hb,hg,hn,_,hs,ht⟩
 ·simp at hj
 ·refine ⟨g,rfl,hb,?_,hg.frozen j⟩;rw [hg.cell];have:xs[j]?=some xs[j]:=List.getElem?_eq_getElem hj;rw [← this];subst ht;rw [List.getElem?_take];simp only [List.length_take] at hj;rw [if_pos (by omega)]; simp
def Own.set {g:Nat} (h:Own w B E sz (some ⟨g,0,none⟩) n c xs) (j:Nat) (u:Value):Own (w.setCell ⟨g,j,none⟩ u) B E sz (some ⟨g,0,none⟩) n c (xs.set j u):=(World.ownsRow.stored h j u).1
def qe7 {g j:Nat} {u:Value}:Kp (nb (some ⟨g,0,none⟩)) w (w.setCell ⟨g,j,none⟩ u):=Kp.setCell w (fun _ h=>h _ rfl rfl) u
end
section
variable {P:Program} {w:World} {K:Value→World→Prop}
def q7o {T ty E sz bytes:Nat} {z:Array Value} (he:q09 P T=some (E,sz,bytes,z)) (hzs:z.size=sz) (hsz:0 < sz)
  {B n c:Nat} {A:Option Addr} {xs:List Value} (hown:Own w B E sz A n c xs) {D:Nat→Prop} {A2:Option Addr} {m c2:Nat} {news:List Value} (hr:Row w D sz A2 m c2 news)
  (h1:∀ u ∈ news,u.oneCell'=true) (hlen:(n+m)*(bytes+1)≤140737488355328) (hb:B≤w.heap.size)
  (hK:∀ A' c' w',Own w' B E sz A' (n+m) c' (xs ++ news)→Kp (nb A) w w'→(A'=A∨A'=some ⟨w.heap.size,0,none⟩)→K (.slice A' (n+m) c') w') :
  qhI P #[T,T] ty [.slice A n c,.slice A2 m c2] w K:=by
 unfold q09 at he
 split at he
 case h_2=>cases he
 rename_i e hu;obtain ⟨i,hi,hx⟩:=Option.bind_eq_some_iff.1 he;obtain ⟨zv,hz,hx⟩:=Option.map_eq_some_iff.1 hx;simp only [Prod.mk.injEq] at hx;obtain ⟨rfl,rfl,rfl,rfl⟩:=hx;have hs:sizeOf e=sizeOf e:=rfl;have hmb:n+m≤maxLen:=by
  have:n+m≤(n+m)*(i.bytes+1):=Nat.le_mul_of_pos_right _ Oq;simp only [maxLen]; omega
 have hbb:(n+m)*i.bytes≤140737488355328:=Nat.le_trans (Nat.mul_le_mul_left _ Oq) hlen
 by_cases hm:m=0
 ·subst hm;have hnews:news=[]:=List.eq_nil_of_length_eq_zero (by simpa using hr.len);subst hnews;refine qaN (v:=.slice A n c) (w':=w) ?_ ?_
  ·have hz:(sizeOf e).run P w=.ok i.size w:=by simp [Go.sizeOf,typeInfo,hi]
   have hcap:n≤c:=hown.cap;cases A2 with
   | none =>
    cases A <;> simp [Builtin.append_,run_underlying hu,Go.sizeOf,typeInfo,hi,Builtin.lenOf,Builtin.firstCells,hcap,storeCells]
   | some ad =>
    cases A <;> simp [Builtin.append_,run_underlying hu,Go.sizeOf,typeInfo,hi,Builtin.lenOf,Builtin.firstCells,loadCells,loadCellsFrom,hcap,storeCells]
  ·have:=hK A c w (by simpa using hown) (Kp.refl _ _) (.inl rfl);simpa using this
 ·have hx0:0 < news.length:=by rw [hr.len]; exact Nat.mul_pos Oq hsz
  obtain ⟨ad,rfl,_,hc⟩:=hr.at_ hx0;obtain ⟨v',w',hrun,ho,hg,_,hat⟩:=run_append_own_at (P:=P) w B T ty e i zv i.size i.bytes hu hi hz rfl rfl hzs hsz (.slice A n c) n xs hown ad m c2 news hr.len hc h1 hmb hbb hb;refine qaN hrun ?_;have hv:∃ A' c',v'=.slice A' (n+m) c'∧((A'=none∧n+m=0)∨∃ g,A'=some ⟨g,0,none⟩):=by
   rcases ho.2 with ⟨h2,h3⟩ | ⟨g,cap,cur,h2,_⟩
   ·exact ⟨none,0,by rw [h2,h3],.inl ⟨rfl,h3⟩⟩
   ·exact ⟨some ⟨g,0,none⟩,cap,h2,.inr ⟨g,rfl⟩⟩
  obtain ⟨A',c',rfl,hA'⟩:=hv;refine hK A' c' w' ho (Kp.of_grown hg fun k _ hk hn=>?_) ?_
  ·cases A with
   | none=>simp [Value.ownBlock] at hk
   | some a=>simp [Value.ownBlock] at hk; exact hn a rfl hk
  ·rcases hA' with ⟨_,h0⟩ | ⟨g,rfl⟩
   ·omega
   ·rcases hat with h | h
    ·left
     rcases hown.form with ⟨rfl,_⟩ | ⟨g',_,rfl,_⟩
     ·simp [Value.ownBlock] at h
     ·simp [Value.ownBlock] at h; rw [h]
    ·right
     simp [Value.ownBlock] at h; rw [h]
def qpT {T E:Nat} {bytes:Nat} {z v:Value} (he:q09 P T=some (E,1,bytes,#[z])) (hv:v.cells=#[v]):bsV P T 1 [(0,v)]=some (E,v.cells):=by
 unfold bsV;simp only [he];have hr:Array.range 1=#[0]:=rfl;simp [Instr.fill,hv,hr]
def q3i {E len:Nat} {cs:Array Value}
  (hK:∀ w',Ext w w'→Blk w' w.heap.size E cs→w.heap.size < w'.heap.size→K (.slice (some ⟨w.heap.size,0,none⟩) len len) w'):bsW (some (E,cs)) len w K:=by
 rw [bsW_s];exact hK _ (Kp.alloc w _) (Blk.new w E cs) (by simp)
def qiG {T ty E sz bytes:Nat} {z:Array Value} {x:Value} (he:q09 P T=some (E,sz,bytes,z)) (hzs:z.size=sz) (hsz:0 < sz) (hbs:bsV P T 1 [(0,x)]=some (E,x.cells)) (hxs:x.cells.size=sz) (h1:∀ u ∈ x.cells.toList,u.oneCell'=true)
  {B n c:Nat} {A:Option Addr} {xs:List Value} (hown:Own w B E sz A n c xs) (hlen:(n+1)*(bytes+1)≤140737488355328) (hb:B≤w.heap.size) {K:Value→Value→World→Prop}
  (hK:∀ v1 A' c' w',Own w' B E sz A' (n+1) c' (xs ++ x.cells.toList)→Kp (nb A) w w'→(A'=A∨∃ g,w.heap.size≤g∧A'=some ⟨g,0,none⟩)→K v1 (.slice A' (n+1) c') w') :
  q7W P T ty (.slice A n c) x w K:=by
 refine qiH ?_;rw [hbs];refine q3i fun w1 hx hblk hlt=>?_;have hr:Row w1 (fun _=>True) sz (some ⟨w.heap.size,0,none⟩) 1 1 x.cells.toList:=by
  refine ⟨Nat.le_refl _,by simp [hxs],fun _=>⟨_,rfl,trivial,fun j u hu=>?_⟩⟩;rw [q06,Nat.zero_add,hblk.cell];simpa using hu
 refine q7o he hzs hsz (hown.ext hx) hr h1 hlen (Nat.le_trans hb hx.size) fun A' c' w' ho hk hat=>?_;refine hK _ A' c' w' ho (Kp.trans (Kp.of_ext hx) hk) ?_
 rcases hat with h | h
 ·exact .inl h
 ·exact .inr ⟨_,hx.size,h⟩
def push1 {T ty E bytes:Nat} {z x:Value} (he:q09 P T=some (E,1,bytes,#[z])) (hv:x.cells=#[x]) (h1:x.oneCell'=true)
  {B n c:Nat} {A:Option Addr} {xs:List Value} (hown:Own w B E 1 A n c xs) (hlen:(n+1)*(bytes+1)≤140737488355328) (hb:B≤w.heap.size) {K:Value→Value→World→Prop}
  (hK:∀ v1 A' c' w',Own w' B E 1 A' (n+1) c' (xs ++ [x])→Kp (nb A) w w'→(A'=A∨∃ g,w.heap.size≤g∧A'=some ⟨g,0,none⟩)→K v1 (.slice A' (n+1) c') w') :
  q7W P T ty (.slice A n c) x w K :=
 qiG he rfl Oq (qpT he hv) (by rw [hv]; rfl) (fun u hu=>by rw [hv] at hu; simp at hu; subst hu; exact h1) hown hlen hb fun v1 A' c' w' ho hk hat=>hK v1 A' c' w' (by rw [hv] at ho; exact ho) hk hat
end
end Go.E
namespace Go.Proofs.YtbcmhlhgljoolaaGreatDoor
open Go Go.E
set_option maxRecDepth 100000
def agg3:q0f Tryz.prog 3=some none:=by kernel_rfl
def agg4:q0f Tryz.prog 4=some none:=by kernel_rfl
def agg5:q0f Tryz.prog 5=some none:=by kernel_rfl
def agg23:q0f Tryz.prog 23=some none:=by kernel_rfl
def agg24:q0f Tryz.prog 24=some none:=by kernel_rfl
def agg25:q0f Tryz.prog 25=some none:=by kernel_rfl
def agg27:q0f Tryz.prog 27=some (some 4):=by kernel_rfl
def agg29:q0f Tryz.prog 29=some none:=by kernel_rfl
def agg30:q0f Tryz.prog 30=some none:=by kernel_rfl
def agg33:q0f Tryz.prog 33=some none:=by kernel_rfl
def agg52:q0f Tryz.prog 52=some (some 5):=by kernel_rfl
def agg70:q0f Tryz.prog 70=some none:=by kernel_rfl
def q1Z:q0f Tryz.prog 72=some (some 2):=by kernel_rfl
def qgi:q0f Tryz.prog 74=some (some 4):=by kernel_rfl
def qvT:q0f Tryz.prog 105=some none:=by kernel_rfl
def qvS:q0f Tryz.prog 125=some none:=by kernel_rfl
def qvR:q0f Tryz.prog 135=some none:=by kernel_rfl
def qvQ:q0f Tryz.prog 141=some (some 1):=by kernel_rfl
def qvP:q0f Tryz.prog 147=some none:=by kernel_rfl
def qvO:q0f Tryz.prog 155=some (some 5):=by kernel_rfl
def qvN:q0f Tryz.prog 224=some (some 3):=by kernel_rfl
def qoY:q0b Tryz.prog 27 0=some 0:=by kernel_rfl
def qoX:q0b Tryz.prog 27 1=some 1:=by kernel_rfl
def qoW:q0b Tryz.prog 27 2=some 2:=by kernel_rfl
def qoV:q0b Tryz.prog 27 3=some 3:=by kernel_rfl
def qoU:q0b Tryz.prog 52 0=some 0:=by kernel_rfl
def qoT:q0b Tryz.prog 52 1=some 1:=by kernel_rfl
def qoS:q0b Tryz.prog 52 2=some 2:=by kernel_rfl
def qoR:q0b Tryz.prog 52 3=some 3:=by kernel_rfl
def qoQ:q0b Tryz.prog 52 4=some 4:=by kernel_rfl
def qoP:q0b Tryz.prog 72 0=some 0:=by kernel_rfl
def qoO:q0b Tryz.prog 72 1=some 1:=by kernel_rfl
def qoN:q0b Tryz.prog 74 0=some 0:=by kernel_rfl
def qoM:q0b Tryz.prog 74 1=some 1:=by kernel_rfl
def qoL:q0b Tryz.prog 74 2=some 3:=by kernel_rfl
def qjP:q0b Tryz.prog 115 0=some 0:=by kernel_rfl
def qjO:q0b Tryz.prog 115 1=some 5:=by kernel_rfl
def qjN:q0b Tryz.prog 115 2=some 9:=by kernel_rfl
def qjM:q0b Tryz.prog 115 3=some 10:=by kernel_rfl
def qjL:q0b Tryz.prog 115 4=some 11:=by kernel_rfl
def qjK:q0b Tryz.prog 115 5=some 12:=by kernel_rfl
def qjJ:q0b Tryz.prog 115 6=some 13:=by kernel_rfl
def qjI:q0b Tryz.prog 141 0=some 0:=by kernel_rfl
def qjH:q0b Tryz.prog 155 0=some 0:=by kernel_rfl
def qjG:q0b Tryz.prog 155 1=some 1:=by kernel_rfl
def qjF:q0b Tryz.prog 155 2=some 3:=by kernel_rfl
def qjE:q0b Tryz.prog 155 3=some 4:=by kernel_rfl
def qjD:q0b Tryz.prog 220 0=some 0:=by kernel_rfl
def qjC:q0b Tryz.prog 220 1=some 1:=by kernel_rfl
def qjB:q0b Tryz.prog 224 0=some 0:=by kernel_rfl
def qjA:q0b Tryz.prog 224 1=some 1:=by kernel_rfl
def qiz:q0b Tryz.prog 224 2=some 2:=by kernel_rfl
def esz22:q0n Tryz.prog 22=some 1:=by kernel_rfl
def esz23:q0n Tryz.prog 23=some 1:=by kernel_rfl
def esz24:q0n Tryz.prog 24=some 1:=by kernel_rfl
def esz25:q0n Tryz.prog 25=some 1:=by kernel_rfl
def esz33:q0n Tryz.prog 33=some 1:=by kernel_rfl
def esz70:q0n Tryz.prog 70=some 1:=by kernel_rfl
def esz98:q0n Tryz.prog 98=some 1:=by kernel_rfl
def esz99:q0n Tryz.prog 99=some 1:=by kernel_rfl
def qt1:q0n Tryz.prog 105=some 1:=by kernel_rfl
def qt0:q0n Tryz.prog 125=some 4:=by kernel_rfl
def qtZ:q0n Tryz.prog 147=some 1:=by kernel_rfl
def qtY:q0n Tryz.prog 221=some 3:=by kernel_rfl
def elm22:q09 Tryz.prog 22=some (29,1,8,#[.int .u64 0]):=by kernel_rfl
def elm23:q09 Tryz.prog 23=some (4,1,1,#[.bool false]):=by kernel_rfl
def elm24:q09 Tryz.prog 24=some (3,1,8,#[.int .i64 0]):=by kernel_rfl
def qt5:q09 Tryz.prog 25=some (30,1,8,#[.int .u64 0]):=by kernel_rfl
def elm33:q09 Tryz.prog 33=some (24,1,24,#[.slice none 0 0]):=by kernel_rfl
def qo4:q09 Tryz.prog 70=some (135,1,4,#[.int .u32 0]):=by kernel_rfl
def elm98:q09 Tryz.prog 98=some (125,1,24,#[.slice none 0 0]):=by kernel_rfl
def elm99:q09 Tryz.prog 99=some (125,1,24,#[.slice none 0 0]):=by kernel_rfl
def qt8:q09 Tryz.prog 105=some (25,1,24,#[.slice none 0 0]):=by kernel_rfl
def qfr:q09 Tryz.prog 125=some (74,4,48,#[.bool false,.bool false,.slice none 0 0,.int .i64 0]):=by kernel_rfl
def qt7:q09 Tryz.prog 147=some (23,1,24,#[.slice none 0 0]):=by kernel_rfl
def qt6:q09 Tryz.prog 221=some (224,3,24,#[.int .i64 0,.int .i64 0,.int .u64 0]):=by kernel_rfl
def zer3:q1x Tryz.prog 3=some #[.int .i64 0]:=by kernel_rfl
def zer27:q1x Tryz.prog 27=some #[.slice none 0 0,.slice none 0 0,.slice none 0 0,.slice none 0 0]:=by kernel_rfl
def zer52:q1x Tryz.prog 52=some #[.int .i64 0,.int .i64 0,.slice none 0 0,.slice none 0 0,.slice none 0 0]:=by kernel_rfl
def zer72:q1x Tryz.prog 72=some #[.bool false,.slice none 0 0]:=by kernel_rfl
def zer74:q1x Tryz.prog 74=some #[.bool false,.bool false,.slice none 0 0,.int .i64 0]:=by kernel_rfl
def qqb:q1x Tryz.prog 115=some #[.int .i64 0,.int .i64 0,.slice none 0 0,.slice none 0 0,.slice none 0 0,.slice none 0 0,.slice none 0 0,.slice none 0 0,.slice none 0 0,.slice none 0 0,.slice none 0 0,.slice none 0 0,.slice none 0 0,.bool false,.bool false,.slice none 0 0,.int .i64 0]:=by kernel_rfl
def qqa:q1x Tryz.prog 141=some #[.slice none 0 0]:=by kernel_rfl
def qq9:q1x Tryz.prog 155=some #[.bool false,.bool false,.slice none 0 0,.int .i64 0,.bool false]:=by kernel_rfl
def qq8:q1x Tryz.prog 220=some #[.slice none 0 0,.slice none 0 0]:=by kernel_rfl
def qq7:q1x Tryz.prog 224=some #[.int .i64 0,.int .i64 0,.int .u64 0]:=by kernel_rfl
def qq6:q1x Tryz.prog 241=some #[.int .u8 0,.int .u8 0,.int .u8 0,.int .u8 0,.int .u8 0,.int .u8 0,.int .u8 0,.int .u8 0,.int .u8 0,.int .u8 0,.int .u8 0,.int .u8 0,.int .u8 0,.int .u8 0,.int .u8 0,.int .u8 0,.int .u8 0,.int .u8 0,.int .u8 0,.int .u8 0,.int .u8 0,.int .u8 0,.int .u8 0,.int .u8 0,.int .u8 0,.int .u8 0,.int .u8 0,.int .u8 0,.int .u8 0,.int .u8 0,.int .u8 0,.int .u8 0]:=by kernel_rfl
def siz3:q03 Tryz.prog 3=some 1:=by kernel_rfl
def siz4:q03 Tryz.prog 4=some 1:=by kernel_rfl
def siz24:q03 Tryz.prog 24=some 1:=by kernel_rfl
def siz25:q03 Tryz.prog 25=some 1:=by kernel_rfl
def siz27:q03 Tryz.prog 27=some 4:=by kernel_rfl
def qmj:q03 Tryz.prog 30=some 1:=by kernel_rfl
def siz33:q03 Tryz.prog 33=some 1:=by kernel_rfl
def siz52:q03 Tryz.prog 52=some 5:=by kernel_rfl
def q0s:q03 Tryz.prog 72=some 2:=by kernel_rfl
def qdd:q03 Tryz.prog 74=some 4:=by kernel_rfl
def qre:q03 Tryz.prog 105=some 1:=by kernel_rfl
def qrd:q03 Tryz.prog 115=some 17:=by kernel_rfl
def qde:q03 Tryz.prog 125=some 1:=by kernel_rfl
def qk6:q03 Tryz.prog 135=some 1:=by kernel_rfl
def qrc:q03 Tryz.prog 141=some 1:=by kernel_rfl
def qrb:q03 Tryz.prog 147=some 1:=by kernel_rfl
def qra:q03 Tryz.prog 155=some 5:=by kernel_rfl
def qr9:q03 Tryz.prog 220=some 2:=by kernel_rfl
def qr8:q03 Tryz.prog 224=some 3:=by kernel_rfl
def qr7:q03 Tryz.prog 241=some 32:=by kernel_rfl
def und3:Tryz.prog.underlying 3=some (.int .i64):=by kernel_rfl
def qqn:Tryz.prog.underlying 4=some .bool:=by kernel_rfl
def beq4 {x y:Bool}:q0z Tryz.prog .eql 4 (.bool x) (.bool y)=some (.bool (x == y)):=qbf qqn
def bne4 {x y:Bool}:q0z Tryz.prog .neq 4 (.bool x) (.bool y)=some (.bool (x != y)):=qbe qqn
def und5:Tryz.prog.underlying 5=some (.int .u8):=by kernel_rfl
def qqq:Tryz.prog.underlying 24=some (.slice 3):=by kernel_rfl
def nil24 {A:Option Addr} {n c n2 c2:Nat}:q0z Tryz.prog .eql 24 (.slice A n c) (.slice none n2 c2)=some (.bool A.isNone):=qaK qqq
def qsc {A:Option Addr} {n c n2 c2:Nat}:q0z Tryz.prog .neq 24 (.slice A n c) (.slice none n2 c2)=some (.bool A.isSome):=q7m qqq
def qqp:Tryz.prog.underlying 25=some (.slice 30):=by kernel_rfl
def nil25 {A:Option Addr} {n c n2 c2:Nat}:q0z Tryz.prog .eql 25 (.slice A n c) (.slice none n2 c2)=some (.bool A.isNone):=qaK qqp
def qsb {A:Option Addr} {n c n2 c2:Nat}:q0z Tryz.prog .neq 25 (.slice A n c) (.slice none n2 c2)=some (.bool A.isSome):=q7m qqp
def qqo:Tryz.prog.underlying 29=some (.int .u64):=by kernel_rfl
def und30:Tryz.prog.underlying 30=some (.int .u64):=by kernel_rfl
def und34:Tryz.prog.underlying 34=some (.int .i64):=by kernel_rfl
def qqm:Tryz.prog.underlying 70=some (.slice 135):=by kernel_rfl
def nil70 {A:Option Addr} {n c n2 c2:Nat}:q0z Tryz.prog .eql 70 (.slice A n c) (.slice none n2 c2)=some (.bool A.isNone):=qaK qqm
def qsa {A:Option Addr} {n c n2 c2:Nat}:q0z Tryz.prog .neq 70 (.slice A n c) (.slice none n2 c2)=some (.bool A.isSome):=q7m qqm
def und81:Tryz.prog.underlying 81=some (.int .u64):=by kernel_rfl
def qqr:Tryz.prog.underlying 135=some (.int .u32):=by kernel_rfl
def qu8  : Tryz.prog.built 27 []=some #[.slice none 0 0,.slice none 0 0,.slice none 0 0,.slice none 0 0]:=by kernel_rfl
def qga {x0A:Option Addr} {x0n x0c:Nat} {x1A:Option Addr} {x1n x1c:Nat}:Tryz.prog.built 27 [(0,(.slice x0A x0n x0c)),(1,(.slice x1A x1n x1c))]=some #[.slice x0A x0n x0c,.slice x1A x1n x1c,.slice none 0 0,.slice none 0 0]:=by kernel_rfl
def q7k {x0A:Option Addr} {x0n x0c:Nat} {x1A:Option Addr} {x1n x1c:Nat} {x2A:Option Addr} {x2n x2c:Nat} {x3A:Option Addr} {x3n x3c:Nat}:Tryz.prog.built 27 [(0,(.slice x0A x0n x0c)),(1,(.slice x1A x1n x1c)),(2,(.slice x2A x2n x2c)),(3,(.slice x3A x3n x3c))]=some #[.slice x0A x0n x0c,.slice x1A x1n x1c,.slice x2A x2n x2c,.slice x3A x3n x3c]:=by kernel_rfl
def qu7  : Tryz.prog.built 52 []=some #[.int .i64 0,.int .i64 0,.slice none 0 0,.slice none 0 0,.slice none 0 0]:=by kernel_rfl
def qaF {x0:Int} {x1:Int} {x2A:Option Addr} {x2n x2c:Nat}:Tryz.prog.built 52 [(0,(.int .i64 x0)),(1,(.int .i64 x1)),(2,(.slice x2A x2n x2c))]=some #[.int .i64 x0,.int .i64 x1,.slice x2A x2n x2c,.slice none 0 0,.slice none 0 0]:=by kernel_rfl
def q6R {x0:Int} {x1:Int} {x2A:Option Addr} {x2n x2c:Nat} {x3A:Option Addr} {x3n x3c:Nat} {x4A:Option Addr} {x4n x4c:Nat}:Tryz.prog.built 52 [(0,(.int .i64 x0)),(1,(.int .i64 x1)),(2,(.slice x2A x2n x2c)),(3,(.slice x3A x3n x3c)),(4,(.slice x4A x4n x4c))]=some #[.int .i64 x0,.int .i64 x1,.slice x2A x2n x2c,.slice x3A x3n x3c,.slice x4A x4n x4c]:=by kernel_rfl
def qu6  : Tryz.prog.built 72 []=some #[.bool false,.slice none 0 0]:=by kernel_rfl
def qg9 {x0:Bool} {x1A:Option Addr} {x1n x1c:Nat}:Tryz.prog.built 72 [(0,(.bool x0)),(1,(.slice x1A x1n x1c))]=some #[.bool x0,.slice x1A x1n x1c]:=by kernel_rfl
def qu5  : Tryz.prog.built 74 []=some #[.bool false,.bool false,.slice none 0 0,.int .i64 0]:=by kernel_rfl
def qpZ {x0:Bool}:Tryz.prog.built 74 [(0,(.bool x0))]=some #[.bool x0,.bool false,.slice none 0 0,.int .i64 0]:=by kernel_rfl
def qg8 {x10:Bool} {x11A:Option Addr} {x11n x11c:Nat} {x2:Int}:Tryz.prog.built 74 [(1,.agg #[.bool x10,.slice x11A x11n x11c]),(2,(.int .i64 x2))]=some #[.bool false,.bool x10,.slice x11A x11n x11c,.int .i64 x2]:=by kernel_rfl
def q65 {x00:Int} {x01:Int} {x02A:Option Addr} {x02n x02c:Nat} {x03A:Option Addr} {x03n x03c:Nat} {x04A:Option Addr} {x04n x04c:Nat} {x10A:Option Addr} {x10n x10c:Nat} {x11A:Option Addr} {x11n x11c:Nat} {x12A:Option Addr} {x12n x12c:Nat} {x13A:Option Addr} {x13n x13c:Nat} {x2A:Option Addr} {x2n x2c:Nat} {x3A:Option Addr} {x3n x3c:Nat}:Tryz.prog.built 115 [(0,.agg #[.int .i64 x00,.int .i64 x01,.slice x02A x02n x02c,.slice x03A x03n x03c,.slice x04A x04n x04c]),(1,.agg #[.slice x10A x10n x10c,.slice x11A x11n x11c,.slice x12A x12n x12c,.slice x13A x13n x13c]),(2,(.slice x2A x2n x2c)),(3,(.slice x3A x3n x3c))]=some #[.int .i64 x00,.int .i64 x01,.slice x02A x02n x02c,.slice x03A x03n x03c,.slice x04A x04n x04c,.slice x10A x10n x10c,.slice x11A x11n x11c,.slice x12A x12n x12c,.slice x13A x13n x13c,.slice x2A x2n x2c,.slice x3A x3n x3c,.slice none 0 0,.slice none 0 0,.bool false,.bool false,.slice none 0 0,.int .i64 0]:=by kernel_rfl
def qp0  : Tryz.prog.built 141 []=some #[.slice none 0 0]:=by kernel_rfl
def q8r {x0:Bool} {x10:Bool} {x11A:Option Addr} {x11n x11c:Nat} {x2:Int}:Tryz.prog.built 155 [(0,(.bool x0)),(1,.agg #[.bool x10,.slice x11A x11n x11c]),(2,(.int .i64 x2))]=some #[.bool x0,.bool x10,.slice x11A x11n x11c,.int .i64 x2,.bool false]:=by kernel_rfl
def q64 {x0:Bool} {x10:Bool} {x11A:Option Addr} {x11n x11c:Nat} {x2:Int} {x3:Bool}:Tryz.prog.built 155 [(0,(.bool x0)),(1,.agg #[.bool x10,.slice x11A x11n x11c]),(2,(.int .i64 x2)),(3,(.bool x3))]=some #[.bool x0,.bool x10,.slice x11A x11n x11c,.int .i64 x2,.bool x3]:=by kernel_rfl
def qcf {x0A:Option Addr} {x0n x0c:Nat} {x1A:Option Addr} {x1n x1c:Nat}:Tryz.prog.built 220 [(0,(.slice x0A x0n x0c)),(1,(.slice x1A x1n x1c))]=some #[.slice x0A x0n x0c,.slice x1A x1n x1c]:=by kernel_rfl
def q8q {x0:Int} {x1:Int} {x2:Int}:Tryz.prog.built 224 [(0,(.int .i64 x0)),(1,(.int .i64 x1)),(2,(.int .u64 x2))]=some #[.int .i64 x0,.int .i64 x1,.int .u64 x2]:=by kernel_rfl
def qpS:bsV Tryz.prog 24 0 []=some (3,#[]):=by kernel_rfl
def qpR {x0:Int}:bsV Tryz.prog 24 1 [(0,(.int .i64 x0))]=some (3,#[.int .i64 x0]):=by kernel_rfl
def qpQ {x0:Int} {x1:Int}:bsV Tryz.prog 24 2 [(0,(.int .i64 x0)),(1,(.int .i64 x1))]=some (3,#[.int .i64 x0,.int .i64 x1]):=by kernel_rfl
def qpP {x0:Int} {x1:Int} {x2:Int}:bsV Tryz.prog 24 3 [(0,(.int .i64 x0)),(1,(.int .i64 x1)),(2,(.int .i64 x2))]=some (3,#[.int .i64 x0,.int .i64 x1,.int .i64 x2]):=by kernel_rfl
def qpO:bsV Tryz.prog 25 0 []=some (30,#[]):=by kernel_rfl
def qpN {x0:Int}:bsV Tryz.prog 25 1 [(0,(.int .u64 x0))]=some (30,#[.int .u64 x0]):=by kernel_rfl
def qpM {x0:Int} {x1:Int}:bsV Tryz.prog 25 2 [(0,(.int .u64 x0)),(1,(.int .u64 x1))]=some (30,#[.int .u64 x0,.int .u64 x1]):=by kernel_rfl
def qpL {x0:Int} {x1:Int} {x2:Int}:bsV Tryz.prog 25 3 [(0,(.int .u64 x0)),(1,(.int .u64 x1)),(2,(.int .u64 x2))]=some (30,#[.int .u64 x0,.int .u64 x1,.int .u64 x2]):=by kernel_rfl
def qpK {x0A:Option Addr} {x0n x0c:Nat}:bsV Tryz.prog 33 1 [(0,(.slice x0A x0n x0c))]=some (24,#[.slice x0A x0n x0c]):=by kernel_rfl
def qpJ:bsV Tryz.prog 70 0 []=some (135,#[]):=by kernel_rfl
def qpI {x0:Int}:bsV Tryz.prog 70 1 [(0,(.int .u32 x0))]=some (135,#[.int .u32 x0]):=by kernel_rfl
def qpH {x0:Int} {x1:Int}:bsV Tryz.prog 70 2 [(0,(.int .u32 x0)),(1,(.int .u32 x1))]=some (135,#[.int .u32 x0,.int .u32 x1]):=by kernel_rfl
def qjk {x0A:Option Addr} {x0n x0c:Nat}:bsV Tryz.prog 105 1 [(0,(.slice x0A x0n x0c))]=some (25,#[.slice x0A x0n x0c]):=by kernel_rfl
def qjj {x0A:Option Addr} {x0n x0c:Nat} {x1A:Option Addr} {x1n x1c:Nat}:bsV Tryz.prog 105 2 [(0,(.slice x0A x0n x0c)),(1,(.slice x1A x1n x1c))]=some (25,#[.slice x0A x0n x0c,.slice x1A x1n x1c]):=by kernel_rfl
def qji {x00:Bool} {x010:Bool} {x011A:Option Addr} {x011n x011c:Nat} {x02:Int}:bsV Tryz.prog 125 1 [(0,.agg #[.bool x00,.bool x010,.slice x011A x011n x011c,.int .i64 x02])]=some (74,#[.bool x00,.bool x010,.slice x011A x011n x011c,.int .i64 x02]):=by kernel_rfl
def qjh {x00:Bool} {x010:Bool} {x011A:Option Addr} {x011n x011c:Nat} {x02:Int} {x10:Bool} {x110:Bool} {x111A:Option Addr} {x111n x111c:Nat} {x12:Int}:bsV Tryz.prog 125 2 [(0,.agg #[.bool x00,.bool x010,.slice x011A x011n x011c,.int .i64 x02]),(1,.agg #[.bool x10,.bool x110,.slice x111A x111n x111c,.int .i64 x12])]=some (74,#[.bool x00,.bool x010,.slice x011A x011n x011c,.int .i64 x02,.bool x10,.bool x110,.slice x111A x111n x111c,.int .i64 x12]):=by kernel_rfl
def qjg {x0A:Option Addr} {x0n x0c:Nat}:bsV Tryz.prog 147 1 [(0,(.slice x0A x0n x0c))]=some (23,#[.slice x0A x0n x0c]):=by kernel_rfl
def qjf {x00:Int} {x01:Int} {x02:Int}:bsV Tryz.prog 221 1 [(0,.agg #[.int .i64 x00,.int .i64 x01,.int .u64 x02])]=some (224,#[.int .i64 x00,.int .i64 x01,.int .u64 x02]):=by kernel_rfl
def quT:q0C Tryz.prog 31=true:=by kernel_rfl
def quS:q0C Tryz.prog 38=true:=by kernel_rfl
def quR:q0C Tryz.prog 41=true:=by kernel_rfl
def quQ:q0C Tryz.prog 42=true:=by kernel_rfl
def quP:q0C Tryz.prog 49=true:=by kernel_rfl
def qgO:q0C Tryz.prog 59=true:=by kernel_rfl
def qpG:q0C Tryz.prog 60=true:=by kernel_rfl
def qpF:q0C Tryz.prog 61=true:=by kernel_rfl
def qce:q0C Tryz.prog 62=true:=by kernel_rfl
def qpE:q0C Tryz.prog 63=true:=by kernel_rfl
def qpD:q0C Tryz.prog 64=true:=by kernel_rfl
def quO:q0C Tryz.prog 65=true:=by kernel_rfl
def quN:q0C Tryz.prog 75=true:=by kernel_rfl
def quM:q0C Tryz.prog 76=true:=by kernel_rfl
def quL:q0C Tryz.prog 80=true:=by kernel_rfl
def quK:q0C Tryz.prog 88=true:=by kernel_rfl
def quJ:q0C Tryz.prog 92=true:=by kernel_rfl
def qlu:q0C Tryz.prog 103=true:=by kernel_rfl
def qlt:q0C Tryz.prog 104=true:=by kernel_rfl
def qls:q0C Tryz.prog 112=true:=by kernel_rfl
def qlr:q0C Tryz.prog 127=true:=by kernel_rfl
def qlq:q0C Tryz.prog 128=true:=by kernel_rfl
def qlp:q0C Tryz.prog 133=true:=by kernel_rfl
def qlo:q0C Tryz.prog 134=true:=by kernel_rfl
def qg6:q0C Tryz.prog 137=true:=by kernel_rfl
def qln:q0C Tryz.prog 138=true:=by kernel_rfl
def qlm:q0C Tryz.prog 148=true:=by kernel_rfl
def qg5:q0C Tryz.prog 150=true:=by kernel_rfl
def qg4:q0C Tryz.prog 151=true:=by kernel_rfl
def qg3:q0C Tryz.prog 153=true:=by kernel_rfl
def qg2:q0C Tryz.prog 154=true:=by kernel_rfl
def qg1:q0C Tryz.prog 155=true:=by kernel_rfl
def q6s:q0C Tryz.prog 157=true:=by kernel_rfl
def qll:q0C Tryz.prog 158=true:=by kernel_rfl
def qlk:q0C Tryz.prog 159=true:=by kernel_rfl
def qlj:q0C Tryz.prog 166=true:=by kernel_rfl
def qli:q0C Tryz.prog 167=true:=by kernel_rfl
def qlh:q0C Tryz.prog 168=true:=by kernel_rfl
def qlg:q0C Tryz.prog 169=true:=by kernel_rfl
def qg0:q0C Tryz.prog 172=true:=by kernel_rfl
def qba:q0C Tryz.prog 174=true:=by kernel_rfl
def qgZ:q0C Tryz.prog 176=true:=by kernel_rfl
def qlf:q0C Tryz.prog 195=true:=by kernel_rfl
def q2X:q0C Tryz.prog 196=true:=by kernel_rfl
def q6r:q0C Tryz.prog 197=true:=by kernel_rfl
def q3C:q0C Tryz.prog 208=true:=by kernel_rfl
def q3B:q0C Tryz.prog 213=true:=by kernel_rfl
def qle:q0C Tryz.prog 214=true:=by kernel_rfl
def qgY:q0C Tryz.prog 215=true:=by kernel_rfl
def qgX:q0C Tryz.prog 216=true:=by kernel_rfl
def qb9:q0C Tryz.prog 217=true:=by kernel_rfl
def qb8:q0C Tryz.prog 218=true:=by kernel_rfl
def qgW:q0C Tryz.prog 219=true:=by kernel_rfl
def qb7:q0C Tryz.prog 220=true:=by kernel_rfl
def qgV:q0C Tryz.prog 222=true:=by kernel_rfl
def qld:q0C Tryz.prog 226=true:=by kernel_rfl
def qlc:q0C Tryz.prog 229=true:=by kernel_rfl
def q1M:q0C Tryz.prog 238=true:=by kernel_rfl
def qlb:q0C Tryz.prog 241=true:=by kernel_rfl
def qla:q0C Tryz.prog 242=true:=by kernel_rfl
def qgU:q0C Tryz.prog 243=true:=by kernel_rfl
def qgT:q0C Tryz.prog 244=true:=by kernel_rfl
def q6q:q0C Tryz.prog 246=true:=by kernel_rfl
def ql9:q0C Tryz.prog 247=true:=by kernel_rfl
def ql8:q0C Tryz.prog 256=true:=by kernel_rfl
def ql7:q0C Tryz.prog 261=true:=by kernel_rfl
def qgS:q0C Tryz.prog 262=true:=by kernel_rfl
def qb6:q0C Tryz.prog 263=true:=by kernel_rfl
def ql6:q0C Tryz.prog 264=true:=by kernel_rfl
def qgR:q0C Tryz.prog 265=true:=by kernel_rfl
def ql5:q0C Tryz.prog 266=true:=by kernel_rfl
def ql4:q0C Tryz.prog 267=true:=by kernel_rfl
def ql3:q0C Tryz.prog 268=true:=by kernel_rfl
def qgQ:q0C Tryz.prog 269=true:=by kernel_rfl
def ql2:q0C Tryz.prog 270=true:=by kernel_rfl
def ql1:q0C Tryz.prog 271=true:=by kernel_rfl
def qgP:q0C Tryz.prog 272=true:=by kernel_rfl
def ql0:q0C Tryz.prog 273=true:=by kernel_rfl
def qlZ:q0C Tryz.prog 274=true:=by kernel_rfl
def q0l:Tryz.prog.follows .mixedOrders=true:=by kernel_rfl
attribute [go_sem] agg3 agg4 agg5 agg23 agg24 agg25 agg27 agg29 agg30 agg33 agg52 agg70 q1Z qgi qvT qvS qvR qvQ qvP qvO qvN qoY qoX qoW qoV qoU qoT qoS qoR qoQ
attribute [go_sem] qoP qoO qoN qoM qoL qjP qjO qjN qjM qjL qjK qjJ qjI qjH qjG qjF qjE qjD qjC qjB qjA qiz esz22 esz23 esz24 esz25 esz33 esz70 esz98 esz99 qt1 qt0 qtZ qtY elm22
attribute [go_sem] elm23 elm24 qt5 elm33 qo4 elm98 elm99 qt8 qfr qt7 qt6 zer3 zer27 zer52 zer72 zer74 qqb qqa qq9 qq8 qq7 qq6 siz3 siz4 siz24 siz25 siz27 qmj siz33 siz52 q0s qdd qre qrd qde qk6 qrc
attribute [go_sem] qrb qra qr9 qr8 qr7 und3 qqn beq4 bne4 und5 nil24 qsc nil25 qsb qqo und30 und34 nil70 qsa und81 qqr qu8 qga q7k qu7 qaF q6R qu6 qg9 qu5 qpZ qg8 q65 qp0 q8r q64 qcf
attribute [go_sem] q8q qpS qpR qpQ qpP qpO qpN qpM qpL qpK qpJ qpI qpH qjk qjj qji qjh qjg qjf
attribute [go_sem] quT quS quR quQ quP qgO qpG qpF qce
attribute [go_sem] qpE qpD quO quN quM quL quK quJ
attribute [go_sem] qlu qlt qls qlr qlq qlp qlo qg6 qln
attribute [go_sem] qlm qg5 qg4 qg3 qg2 qg1 q6s qll qlk qlj qli qlh qlg qg0 qba qgZ
attribute [go_sem] qlf q2X q6r q3C q3B qle qgY qgX qb9 qb8 qgW qb7 qgV
attribute [go_sem] qld qlc q1M qlb qla qgU qgT q6q ql9 ql8 ql7 qgS
attribute [go_sem] qb6 ql6 qgR ql5 ql4 ql3 qgQ ql2 ql1 qgP ql0 qlZ q0l
open Go.Sp
def dg (l:List Nat) (i:Nat):Nat:=l.getD i 0
def q7z (d:Nat):Value:=.int .u32 d
def U32 (w:World) (D:Nat→Prop) (A:Option Addr) (n c:Nat) (l:List Nat):Prop:=Row w D 1 A n c (l.map q7z)∧q1w l
section
variable {w w':World} {D D':Nat→Prop} {A:Option Addr} {n c:Nat} {l:List Nat}
def U32.len (h:U32 w D A n c l):l.length=n:=by have:=h.1.len; simpa using this
def U32.cap (h:U32 w D A n c l):n≤c:=h.1.cap
def U32.cell (h:U32 w D A n c l) {j:Nat} (hj:j < n):∃ ad,A=some ad∧w.cell? (ad.add j)=some (.int .u32 ((dg l j:Nat):Int)):=by
 have hl:=h.len;obtain ⟨ad,rfl,hc⟩:=h.1.get (j:=j) (by simp; omega);refine ⟨ad,rfl,?_⟩;rw [hc]; simp [q7z,dg,show j < l.length by omega]
def U32.dg_lt (h:U32 w D A n c l) (j:Nat):dg l j < 4294967296:=h.2.get j
def U32.kp (h:U32 w D A n c l) (k:Kp D w w'):U32 w' D A n c l:=⟨h.1.kp k,h.2⟩
def U32.ext (h:U32 w D A n c l) (k:Ext w w'):U32 w' D A n c l:=h.kp (Kp.of_ext k)
def U32.sub (h:U32 w D A n c l) (hs:∀ k,k < w.heap.size→D k→D' k):U32 w D' A n c l:=⟨h.1.sub hs,h.2⟩
def U32.take (h:U32 w D A n c l) {m:Nat} (hm:m≤n):U32 w D A m c (l.take m):=by
 have:=h.1.take hm;rw [Nat.mul_one,← List.map_take] at this;exact ⟨this,h.2.take m⟩
def U32.nil:U32 w D none 0 0 []:=⟨Row.nil _ _ _,q1w.nil⟩
def U32.trim (h:U32 w D A n c l) {m:Nat} (hm:m≤n) (hz:∀ i,m≤i→i < n→dg l i=0) (hl:m=0∨dg l (m-1)≠0):U32 w D A m c (lim (val l)):=by
 have hn:=h.len;have:=h.take hm
 rwa [qm1 h.2 Oq (fun i h1 h2=>hz i h1 Oq) hl] at this
end
def qdO {D:Nat→Prop} {A:Option Addr} {n c:Nat} {l:List Nat} {w:World} (h:U32 w D A n c l) (hb:n≤1000000000) :
  Calls Tryz.prog 238 #[.slice A n c] w fun e w'=>∃ m,e=.returned (.slice A m c)∧w=w'∧U32 w D A m c (lim (val l)):=by
 refine q0J Tryz.func238 rfl Tryz.ntmps238 (by kernel_rfl) ?_;refine Wz ?_;refine Wz ?_;refine q0N fun K hK=>?_;have hx:∀ (e':Env) (m:Nat),e' 0=.slice A n c→e' 3=.int .i64 m→m≤n→(∀ i,m≤i→i < n→dg l i=0)→(m=0∨dg l (m-1)≠0)→K e' w:=by
  intro e' m h0 h3 hm hz hl;refine hK _ _ ?_; clear hK K;have e3:(0:Int)≤m∧(m:Int)≤c:=by have:=h.cap; omega
  refine q0A fun K hK=>?_;simp -implicitDefEqProofs (disch:=omega) only [go_sem,Nat.reduceEqDiff,Nat.reduceAdd,↓reduceIte,h0,h3,e3];refine hK _ _ ?_; clear hK K;exact q0O (q1S rfl ⟨m,rfl,rfl,h.trim hm hz hl⟩)
 clear hK;refine q0a (fun e' w'=>w'=w∧∃ m:Nat,e' 3=.int .i64 m∧m≤n∧∀ i,m≤i→i < n→dg l i=0) (fun e' _=>(RowKit.intOf (e' 3)).toNat) ⟨rfl,n,rfl,Nat.le_refl _,fun i h1 h2=>by omega⟩ ?_;rintro e1 w1 ⟨rfl,m,h3,hm,hz⟩ hk;have h0:e1 0=.slice A n c:=(hk 0 (by kernel_rfl)).trans rfl;clear hk;refine q0B fun K1 hK1=>?_
 by_cases hpos:0 < m
 ·have hpos':(0:Int) < m:=by omega
  obtain ⟨ad,rfl,hc⟩:=h.cell (j:=m-1) Oq;have e1':((m:Int)-1).toNat=m-1:=by omega
  have e2:(0:Int)≤m-1∧(m:Int)-1 < n:=by omega
  refine q0A fun K hK=>?_;simp -implicitDefEqProofs (disch:=omega) only [go_sem,Nat.reduceEqDiff,Nat.reduceAdd,↓reduceIte,h3,h0,hpos',i64_in,e1',e2,hc];refine hK _ _ ?_; clear hK K;refine q02 rfl (fun hc1=>q0G (hK1 _ _ ?_)) (fun hc1=>q04 ?_)
  ·clear hK1;refine q0X (qcl ?_);refine Zz2 h3 @i64_in ?_;refine ⟨⟨rfl,m-1,?_,by omega,fun i h1 h2=>?_⟩,?_⟩
   ·simp only [q0E,↓reduceIte]; congr 1; omega
   ·by_cases hi:i=m-1
    ·rw [hi]; simpa using hc1
    ·exact hz i Oq h2
   ·simp only [q0E,↓reduceIte,h3,RowKit.intOf]; omega
  ·exact hx _ m (by simp only [q0E,Nat.reduceEqDiff,↓reduceIte,h0]) (by simp only [q0E,Nat.reduceEqDiff,↓reduceIte,h3]) hm hz (.inr (by simpa using hc1))
 ·have hpos':¬ (0:Int) < m:=by omega
  refine q0A fun K hK=>?_;simp -implicitDefEqProofs (disch:=omega) only [go_sem,Nat.reduceEqDiff,Nat.reduceAdd,↓reduceIte,h3,h0,hpos'];refine hK _ _ ?_; clear hK K;refine Wf (q04 ?_);exact hx _ m (by simp only [q0E,Nat.reduceEqDiff,↓reduceIte,h0]) (by simp only [q0E,Nat.reduceEqDiff,↓reduceIte,h3]) hm hz (.inl Oq)
section
variable {w w':World} {D D':Nat→Prop} {A:Option Addr} {n c B:Nat} {l:List Nat}
def q12 (w:World) (B:Nat) (A:Option Addr) (n c:Nat) (l:List Nat):Prop:=Own w B 135 1 A n c (l.map q7z)∧q1w l
def q12.u32 (h:q12 w B A n c l) (hd:∀ k,B≤k→D k):U32 w D A n c l:=⟨h.1.row.sub fun k _ hk=>hd k hk,h.2⟩
end
def q7X {w:World} {ty B n c:Nat} {A:Option Addr} {l:List Nat} {x:Nat} (hO:q12 w B A n c l) (hx:x < 4294967296) (hn:n≤2000000000) (hb:B≤w.heap.size) {K:Value→Value→World→Prop}
  (hK:∀ v1 A' c' w',q12 w' B A' (n+1) c' (l ++ [x])→Kp (nb A) w w'→(A'=A∨∃ g,w.heap.size≤g∧A'=some ⟨g,0,none⟩)→K v1 (.slice A' (n+1) c') w') :
  q7W Tryz.prog 70 ty (.slice A n c) (.int .u32 x) w K :=
 push1 (x:=.int .u32 x) qo4 rfl rfl hO.1 Oq hb fun v1 A' c' w' ho hk hat=>hK v1 A' c' w' ⟨by simpa [q7z] using ho,hO.2.snoc hx⟩ hk hat
section
variable {P:Program} {w:World} {K:Value→World→Prop}
def q6D {el b:Nat} {z:Value} {l c:Nat} (hl:l≤c) (hc:b*c≤281474976710656) (hc2:c≤maxLen)
  (hK:∀ w',Ext w w'→Own w' w.heap.size el 1 (some ⟨w.heap.size,0,none⟩) l c (List.replicate l z)→w'.heap.size=w.heap.size+1→K (.slice (some ⟨w.heap.size,0,none⟩) l c) w') :
  mkW (some (el,1,b,#[z])) (.int .i64 l) (.int .i64 c) w K:=by
 rw [mkW_i];refine ⟨⟨by omega,by omega,?_,by unfold maxLen at hc2; omega⟩,?_⟩
 ·have:((b*c:Nat):Int)≤281474976710656:=by omega
  rwa [Int.natCast_mul] at this
 ·have h1:=hK (w.alloc (.cells (madeCells #[z] (c*1)) el)) (Kp.alloc w _) ?_ (by simp)
  ·simpa using h1
  ·have:=Own.made (w:=w.alloc (.cells (madeCells #[z] (c*1)) el)) (w':=w) (B:=w.heap.size) (sz:=1) (n:=l) (c:=c) (Blk.new w el _) hl hc2 (by simp [size_madeCells]) (Nat.le_refl _);rw [Nat.mul_one,Nat.mul_one,toList_madeCells_one,List.take_replicate,Nat.min_eq_left hl] at this;simpa using this
end
def qnB (n:Nat):(List.replicate n (Value.int .u32 0))=(List.replicate n 0).map q7z:=by simp [q7z]
def mkU {w:World} {l c:Nat} {K:Value→World→Prop} (hl:l≤c) (hc:c≤4000000000)
  (hK:∀ w',Ext w w'→q12 w' w.heap.size (some ⟨w.heap.size,0,none⟩) l c (List.replicate l 0)→K (.slice (some ⟨w.heap.size,0,none⟩) l c) w') :
  mkW (some (135,1,4,#[.int .u32 0])) (.int .i64 l) (.int .i64 c) w K :=
 q6D hl Oq (by unfold maxLen; omega) fun w' hx ho _=>hK w' hx ⟨by rw [← qnB]; exact ho,q1w.replicate l⟩
def q18 {D:Nat→Prop} {A:Option Addr} {n c:Nat} {l:List Nat} {w:World} (h:U32 w D A n c l) (hb:n≤1000000000) :
  Calls Tryz.prog 213 #[.slice A n c] w fun e w'=>∃ A' m c',e=.returned (.slice A' m c')∧Ext w w'∧q12 w' w.heap.size A' m c' (lim (val l)):=by
 refine q0J Tryz.func213 rfl Tryz.ntmps213 (by kernel_rfl) ?_;refine Wz ?_;refine Wz ?_;refine q0N fun K hK=>?_;have hx:∀ (e':Env) (m:Nat),e' 0=.slice A n c→e' 3=.int .i64 m→m≤n→U32 w D A m c (lim (val l))→K e' w:=by
  intro e' m h0 h3 hmn' hU;refine hK _ _ ?_; clear hK K h;have hml:=hU.len;refine q0A fun K hK=>?_;simp -implicitDefEqProofs (disch:=omega) only [go_sem,Nat.reduceEqDiff,Nat.reduceAdd,↓reduceIte,h0,h3];refine hK _ _ ?_; clear hK K;refine q0B fun K0 hK0=>?_;refine q0A fun K hK=>?_;simp -implicitDefEqProofs (disch:=omega) only [go_sem,Nat.reduceEqDiff,Nat.reduceAdd,↓reduceIte,h0,h3];refine hK _ _ ?_; clear hK K;refine q0X ?_;refine q0a (fun e2 w2=>∃ (k:Nat) (A':Option Addr) (c':Nat),e2 5=.int .i64 k∧e2 4=.slice A' k c'∧k≤m∧Ext w w2∧q12 w2 w.heap.size A' k c' ((lim (val l)).take k)) (fun e2 _=>m-(RowKit.intOf (e2 5)).toNat) ⟨0,none,0,rfl,rfl,Nat.zero_le _,Kp.refl _ _,Own.nil _ _ _ _,q1w.nil⟩ ?_;rintro e1 w1 ⟨k,A',c',h5,h4,hkm,hx,hO⟩ hk;have h0':e1 0=.slice A n c:=(hk 0 (by kernel_rfl)).trans (by simp only [q0E,Nat.reduceEqDiff,↓reduceIte,h0]);have h3':e1 3=.int .i64 m:=(hk 3 (by kernel_rfl)).trans (by simp only [q0E,Nat.reduceEqDiff,↓reduceIte,h3]);clear hk;refine q0B fun K1 hK1=>?_
  by_cases hlt:k < m
  ·have hlt':(k:Int) < m:=by omega
   refine Wz3 h5 h3' hlt' ?_;refine Wt (q0G (hK1 _ _ ?_));clear hK1;obtain ⟨ad,rfl,hc⟩:=(hU.ext hx).cell hlt;refine q0N fun K hK=>qcl ?_;have e2:(0:Int)≤k∧(k:Int) < n:=by omega
   refine Zz5 h0' h4 h5 e2 hc ?_;refine q7X hO (hU.2.get k) Oq hx.size ?_;intro v1 A2 c2 w2 hO2 hk2 hat;refine hK _ _ ?_; clear hK;refine qcl ?_;refine Zz2 h5 @i64_in ?_;have hx2:Ext w w2:=hO.1.under hx hk2;have hO3:q12 w2 w.heap.size A2 (k+1) c2 ((lim (val l)).take (k+1)):=by
    rw [q33 _ _ (by omega)];exact hO2
   exact ⟨⟨k+1,A2,c2,rfl,rfl,by omega,hx2,hO3⟩,by simp only [q0E,↓reduceIte,h5,RowKit.intOf]; omega⟩
  ·obtain rfl:k=m:=by omega
   have hlt':¬ (k:Int) < k:=by omega
   refine Wz3 h5 h3' hlt' ?_;refine Wf (q04 ?_);refine hK0 _ _ ?_; clear hK0 hK1;refine Wz1 h4 ?_;rw [List.take_of_length_le (by omega)] at hO;exact q0O (q1S rfl ⟨A',k,c',rfl,hx,hO⟩)
 clear hK;refine q0a (fun e' w'=>w'=w∧∃ m:Nat,e' 3=.int .i64 m∧m≤n∧∀ i,m≤i→i < n→dg l i=0) (fun e' _=>(RowKit.intOf (e' 3)).toNat) ⟨rfl,n,rfl,Nat.le_refl _,fun i h1 h2=>by omega⟩ ?_;rintro e1 w1 ⟨rfl,m,h3,hm,hz⟩ hk;have h0:e1 0=.slice A n c:=(hk 0 (by kernel_rfl)).trans rfl;clear hk;refine q0B fun K1 hK1=>?_
 by_cases hpos:0 < m
 ·have hpos':(0:Int) < m:=by omega
  obtain ⟨ad,rfl,hc⟩:=h.cell (j:=m-1) Oq;have e1':((m:Int)-1).toNat=m-1:=by omega
  have e2:(0:Int)≤m-1∧(m:Int)-1 < n:=by omega
  refine q0A fun K hK=>?_;simp -implicitDefEqProofs (disch:=omega) only [go_sem,Nat.reduceEqDiff,Nat.reduceAdd,↓reduceIte,h3,h0,hpos',i64_in,e1',e2,hc];refine hK _ _ ?_; clear hK K;refine q02 rfl (fun hc1=>q0G (hK1 _ _ ?_)) (fun hc1=>q04 ?_)
  ·clear hK1;refine q0X (qcl ?_);refine Zz2 h3 @i64_in ?_;refine ⟨⟨rfl,m-1,?_,by omega,fun i h1 h2=>?_⟩,?_⟩
   ·simp only [q0E,↓reduceIte]; congr 1; omega
   ·by_cases hi:i=m-1
    ·rw [hi]; simpa using hc1
    ·exact hz i Oq h2
   ·simp only [q0E,↓reduceIte,h3,RowKit.intOf]; omega
  ·exact hx _ m (by simp only [q0E,Nat.reduceEqDiff,↓reduceIte,h0]) (by simp only [q0E,Nat.reduceEqDiff,↓reduceIte,h3]) hm (h.trim hm hz (.inr (by simpa using hc1)))
 ·have hpos':¬ (0:Int) < m:=by omega
  refine q0A fun K hK=>?_;simp -implicitDefEqProofs (disch:=omega) only [go_sem,Nat.reduceEqDiff,Nat.reduceAdd,↓reduceIte,h3,h0,hpos'];refine hK _ _ ?_; clear hK K;refine Wf (q04 ?_);exact hx _ m (by simp only [q0E,Nat.reduceEqDiff,↓reduceIte,h0]) (by simp only [q0E,Nat.reduceEqDiff,↓reduceIte,h3]) hm (h.trim hm hz (.inl Oq))
end Go.Proofs.YtbcmhlhgljoolaaGreatDoor
namespace Go.E
def sgn (b:Bool) (m:Nat):Int:=if b then -(m:Int) else m
def q1R (b:Bool) (m:Nat):(sgn b m).natAbs=m:=by unfold sgn; split <;> omega
def q91 (b:Bool) (m:Nat):decide (sgn b m < 0)=(b && decide (0 < m)):=by
 unfold sgn; cases b <;> simp
def q51 (z:Int):sgn (decide (z < 0)) z.natAbs=z:=by
 unfold sgn; by_cases h:z < 0 <;> simp [h] <;> omega
end Go.E
namespace Go.Sp
open Go.E
def q62 {l:List Nat} {i:Nat} (h:l.length≤i):l.getD i 0=0:=by simp [List.getD,List.getElem?_eq_none h]
def vts (l:List Nat) (i:Nat):val (l.take (i+1))=val (l.take i)+B ^ i*l.getD i 0:=by
 rcases Nat.lt_or_ge i l.length with h | h
 ·exact q2A l i h
 ·rw [q0K l (i+1) Oq,q0K l i h,q62 h]; simp
def q7q {o:List Nat} {i c x y A:Nat} (hl:o.length=i) (h:val o+B ^ i*c=A):val (o ++ [(c+x+y) % B])+B ^ (i+1)*((c+x+y) / B)=A+B ^ i*x+B ^ i*y:=by
 rw [q2m,hl,← h,Nat.pow_succ];have:=Nat.mod_add_div (c+x+y) B;have h2:B ^ i*((c+x+y) % B)+B ^ i*B*((c+x+y) / B)=B ^ i*(c+x+y):=by
  rw [Nat.mul_assoc,← Nat.mul_add,this]
 rw [Nat.mul_add,Nat.mul_add] at h2;omega
def qaa {o:List Nat} {i br x y U V t:Nat} (hl:o.length=i) (h:val o+V=U+B ^ i*br) (hbr:br≤1) (hx:x < 4294967296) (hy:y < 4294967296)
  (ht:t=((x+(18446744073709551616-br)) % 18446744073709551616+(18446744073709551616-y)) % 18446744073709551616) :
  val (o ++ [t % 4294967296])+(V+B ^ i*y)=U+B ^ i*x+B ^ (i+1)*(t / 9223372036854775808)∧t / 9223372036854775808≤1:=by
 have key:x+t / 9223372036854775808*4294967296=t % 4294967296+br+y∧t / 9223372036854775808≤1:=by omega
 refine ⟨?_,key.2⟩;rw [q2m,hl,Nat.pow_succ];have h2:B ^ i*(x+t / 9223372036854775808*4294967296)=B ^ i*(t % 4294967296+br+y):=by rw [key.1]
 rw [Nat.mul_add,Nat.mul_add,Nat.mul_add] at h2;have h3:B ^ i*B*(t / 9223372036854775808)=B ^ i*(t / 9223372036854775808*4294967296):=by
  rw [Nat.mul_assoc,Nat.mul_comm B]; rfl
 omega
def q2C (x y:Nat):Int:=if x < y then -1 else if x=y then 0 else 1
def q9B:B=2 ^ 32:=rfl
def q2H {c m k:Nat} (hc:c < 2 ^ k):c ||| m*2 ^ k=c+m*2 ^ k:=by
 rw [Nat.or_comm,Nat.mul_comm,← Nat.two_pow_add_eq_or_of_lt hc];omega
def qhq {o:List Nat} {i c x k V:Nat} (hl:o.length=i) (h:val o+B ^ i*c=2 ^ k*V) :
  val (o ++ [(c+x*2 ^ k) % 4294967296])+B ^ (i+1)*((c+x*2 ^ k) / 4294967296)=2 ^ k*(V+B ^ i*x):=by
 have:=q7q (x:=x*2 ^ k) (y:=0) hl h;have e:B ^ i*(x*2 ^ k)=2 ^ k*(B ^ i*x):=by rw [Nat.mul_comm x,Nat.mul_left_comm]
 rw [Nat.add_zero,Nat.mul_zero,Nat.add_zero,e,← Nat.mul_add] at this;exact this
def qmk {X k:Nat} (hk:k≤32):(X / 2 ^ k) % 4294967296=(X % 18446744073709551616 / 2 ^ k) % 4294967296:=by
 have e:18446744073709551616=2 ^ k*(2 ^ (32-k)*4294967296):=by
  rw [← Nat.mul_assoc,← Nat.pow_add,show k+(32-k)=32 by omega]
 rw [e,Nat.mod_mul_right_div_self,Nat.mod_mul_left_mod]
def q1r (l:List Nat) (i:Nat):val (l.drop i)=l.getD i 0+B*val (l.drop (i+1)):=by
 rcases Nat.lt_or_ge i l.length with h | h
 ·rw [List.drop_eq_getElem_cons h,val,q1F h]
 ·rw [List.drop_of_length_le h,List.drop_of_length_le Oq,q62 h]; rfl
def q2n {l:List Nat} (h:q1w l) (z:Nat):val (l.drop z)=val l / B ^ z:=by
 rcases Nat.le_total z l.length with hz | hz
 ·rw [q1G l z hz];have h1:=q1V (h.take z);rw [List.length_take,Nat.min_eq_left hz] at h1;rw [Nat.add_mul_div_left _ _ (q4c z),Nat.div_eq_of_lt h1,Nat.zero_add]
 ·have h1:=q1V h;have h2:B ^ l.length≤B ^ z:=Nat.pow_le_pow_right q4d hz;rw [List.drop_of_length_le hz,Nat.div_eq_of_lt (by omega)]; rfl
def q3I {l:List Nat} (h:q1w l) (z:Nat):val (l.take z)=val l % B ^ z:=by
 rcases Nat.le_total z l.length with hz | hz
 ·have h1:=q1V (h.take z);rw [List.length_take,Nat.min_eq_left hz] at h1;have:=q1G l z hz;rw [this,Nat.add_mul_mod_self_left,Nat.mod_eq_of_lt h1]
 ·have h1:=q1V h;have h2:B ^ l.length≤B ^ z:=Nat.pow_le_pow_right q4d hz;rw [List.take_of_length_le hz,Nat.mod_eq_of_lt (by omega)]
def qae {o l:List Nat} {j i k V:Nat} (hk:k≤32) (ha:q1w l) (hl:o.length=j) (h:val o+B ^ j*(val (l.drop i) / 2 ^ k)=V) :
  val (o ++ [(l.getD i 0+l.getD (i+1) 0*4294967296) / 2 ^ k % 4294967296])+B ^ (j+1)*(val (l.drop (i+1)) / 2 ^ k)=V:=by
 have h0:=ha.get i;have h1:=ha.get (i+1);unfold B at h0 h1;have e1:=q1r l i;have e2:=q1r l (i+1);have e3:val (l.drop i) % 18446744073709551616=l.getD i 0+l.getD (i+1) 0*4294967296:=by
  unfold B at e1 e2; omega
 have e4:val (l.drop i) / 2 ^ k / 4294967296=val (l.drop (i+1)) / 2 ^ k:=by
  rw [Nat.div_div_eq_div_mul,Nat.mul_comm,← Nat.div_div_eq_div_mul]
  congr 1
  unfold B at e1; omega
 rw [q2m,hl,← e3,← qmk hk,← e4,Nat.pow_succ,Nat.add_assoc,Nat.mul_assoc,← Nat.mul_add];have:B*(val (l.drop i) / 2 ^ k / 4294967296)=4294967296*(val (l.drop i) / 2 ^ k / 4294967296):=rfl;rw [this,Nat.mod_add_div];exact h
def qaw {l:List Nat} (ha:q1w l) (z k:Nat) (hk:k≤32):val l % 2 ^ (32*z+k)=0 ↔ (val (l.take z)=0∧l.getD z 0 % 2 ^ k=0):=by
 have e1:val l / B ^ z % 2 ^ k=l.getD z 0 % 2 ^ k:=by
  rw [← q2n ha,q1r,q9B,show 2 ^ 32=2 ^ k*2 ^ (32-k) by rw [← Nat.pow_add]; congr 1; omega,Nat.mul_assoc,Nat.add_mul_mod_self_left]
 rw [Nat.pow_add,Nat.pow_mul,← q9B,Nat.mod_mul,e1,← q3I ha];have:=q4c z
 constructor
 ·intro h;have h1:val (l.take z)=0:=by omega
  refine ⟨h1,?_⟩;rw [h1,Nat.zero_add] at h
  rcases Nat.mul_eq_zero.1 h with h | h
  ·omega
  ·exact h
 ·rintro ⟨h1,h2⟩; rw [h1,h2]; simp
def qiX {l:List Nat} (ha:q1w l) (z k:Nat) (h:l.length≤z):val l % 2 ^ (32*z+k)=val l:=by
 have h1:=q1V ha;have h2:B ^ l.length≤B ^ z:=Nat.pow_le_pow_right q4d h;have h3:B ^ z≤2 ^ (32*z+k):=by rw [q9B,← Nat.pow_mul]; exact Nat.pow_le_pow_right Oq Oq
 exact Nat.mod_eq_of_lt Oq
def q3q:∀ {o:List Nat} {p:Nat} (d:Nat),p < o.length→val (o.set p d)+B ^ p*o.getD p 0=val o+B ^ p*d
 | [],p,d,h=>by simp at h
 | x :: o,0,d,_=>by simp [val]; omega
 | x :: o,p+1,d,h=>by
  have ih:=q3q (o:=o) (p:=p) d (by simpa using h);simp only [List.set_cons_succ,val,List.getD_cons_succ,Nat.pow_succ];have e1:B ^ p*B*o.getD p 0=B*(B ^ p*o.getD p 0):=by rw [Nat.mul_comm (B ^ p) B,Nat.mul_assoc]
  have e2:B ^ p*B*d=B*(B ^ p*d):=by rw [Nat.mul_comm (B ^ p) B,Nat.mul_assoc]
  rw [e1,e2,Nat.add_assoc,Nat.add_assoc,← Nat.mul_add,← Nat.mul_add,ih]
def qat {o:List Nat} {p c x y V:Nat} (hp:p < o.length) (h:val o+B ^ p*c=V) :
  val (o.set p ((c+x*y+o.getD p 0) % 4294967296))+B ^ (p+1)*((c+x*y+o.getD p 0) / 4294967296)=V+B ^ p*(x*y):=by
 have h1:=q3q (o:=o) (p:=p) ((c+x*y+o.getD p 0) % 4294967296) hp;have h2:B ^ p*((c+x*y+o.getD p 0) % 4294967296)+B ^ (p+1)*((c+x*y+o.getD p 0) / 4294967296)=B ^ p*c+B ^ p*(x*y)+B ^ p*o.getD p 0:=by
  rw [Nat.pow_succ,Nat.mul_assoc,← Nat.mul_add,← Nat.mul_add,← Nat.mul_add]
  congr 1
  exact Nat.mod_add_div _ 4294967296
 omega
def q81 {c x y z:Nat} (hc:c < 4294967296) (hx:x < 4294967296) (hy:y < 4294967296) (hz:z < 4294967296):c+x*y+z < 18446744073709551616∧x*y < 18446744065119617026:=by
 have:x*y≤4294967295*4294967295:=Nat.mul_le_mul Oq Oq;omega
def q0v {o:List Nat} {p q d:Nat} (h:q≠p):(o.set p d).getD q 0=o.getD q 0:=by
 simp only [List.getD_eq_getElem?_getD];rw [List.getElem?_set_ne (fun e=>h e.symm)]
def shI (z n:Int):Int:=if 0≤n then z*2 ^ n.toNat else z / 2 ^ (-n).toNat
def qfV (v p:Nat) (hp:0 < p):(-(v:Int)) / (p:Int) = -((v / p:Nat):Int)-(if v % p≠0 then 1 else 0):=by
 have h:=Nat.div_add_mod v p;have hr:=Nat.mod_lt v hp;have h':(p:Int)*((v / p:Nat):Int)+((v % p:Nat):Int)=(v:Int):=by
  rw [← Int.natCast_mul,← Int.natCast_add,h]
 generalize v / p=q at *;generalize hrr:v % p=r at *
 by_cases h0:r=0
 ·rw [if_neg (by simpa using h0)];refine ((Int.ediv_emod_unique (by omega:(0:Int) < p) (r:=0)).2 ⟨?_,by omega,by omega⟩).1;rw [Int.sub_zero,Int.mul_neg]; omega
 ·rw [if_pos h0];refine ((Int.ediv_emod_unique (by omega:(0:Int) < p) (r:=(p:Int)-r)).2 ⟨?_,by omega,by omega⟩).1;rw [Int.mul_sub,Int.mul_neg,Int.mul_one]; omega
def q1E (k:Nat):((2 ^ k:Nat):Int)=(2:Int) ^ k:=by simp
def q90 (v k:Nat):(-(v:Int)) / (2:Int) ^ k = -((v / 2 ^ k:Nat):Int)-(if v % 2 ^ k≠0 then 1 else 0):=by
 rw [← q1E]; exact qfV v (2 ^ k) (Nat.pow_pos Oq)
def bl (n:Nat):Nat:=if n=0 then 0 else Nat.log2 n+1
def q2w (n:Nat):n < 2 ^ bl n:=by
 unfold bl; split
 ·omega
 ·exact Nat.lt_log2_self
def q7l {n:Nat} (h:n≠0):2 ^ (bl n-1)≤n:=by
 unfold bl; rw [if_neg h]; exact Nat.log2_self_le h
def q1c:bl 0=0:=rfl
def qgb {n k:Nat} (h1:n < 2 ^ k) (h2:k=0∨2 ^ (k-1)≤n):bl n=k:=by
 by_cases h0:n=0
 ·subst h0
  rcases h2 with h2 | h2
  ·rw [h2]; rfl
  ·have:=Nat.pow_pos (n:=k-1) (show 0 < 2 by omega); omega
 ·have a:=q2w n;have b:=q7l h0;have c:bl n≠0:=by unfold bl; rw [if_neg h0]; omega
  have d:k≠0:=by intro e; subst e; simp at h1; omega
  have h2:=h2.resolve_left d;have e1:=(Nat.pow_lt_pow_iff_right (a:=2) Oq).1 (Nat.lt_of_le_of_lt b h1);have e2:=(Nat.pow_lt_pow_iff_right (a:=2) Oq).1 (Nat.lt_of_le_of_lt h2 a);omega
def qbd {n k:Nat} (h:2 ^ k≤n):bl n=k+bl (n / 2 ^ k):=by
 have hp:=Nat.pow_pos (n:=k) (show 0 < 2 by omega);have h0:n / 2 ^ k≠0:=by have:=Nat.div_pos h hp; omega
 have a:=q2w (n / 2 ^ k);have b:=q7l h0;have c:bl (n / 2 ^ k)≠0:=by unfold bl; rw [if_neg h0]; omega
 refine qgb ?_ (.inr ?_)
 ·rw [Nat.pow_add,Nat.mul_comm];exact (Nat.div_lt_iff_lt_mul hp).1 a
 ·rw [show k+bl (n / 2 ^ k)-1=k+(bl (n / 2 ^ k)-1) by omega,Nat.pow_add,Nat.mul_comm];exact (Nat.le_div_iff_mul_le hp).1 b
def q0d {m n:Nat} (h:m≤n):bl m≤bl n:=by
 by_cases h0:m=0
 ·subst h0; simp [q1c]
 ·have a:=q7l h0;have b:=q2w n;have:=(Nat.pow_lt_pow_iff_right (a:=2) Oq).1 (Nat.lt_of_le_of_lt (Nat.le_trans a h) b);omega
def q0T {n k:Nat} (h:n < 2 ^ k):bl n≤k:=by
 by_cases h0:n=0
 ·subst h0; simp [q1c]
 ·have:=(Nat.pow_lt_pow_iff_right (a:=2) Oq).1 (Nat.lt_of_le_of_lt (q7l h0) h);omega
def q6t {n:Nat} (h:n≠0):bl n=32*((lim n).length-1)+bl ((lim n).getD ((lim n).length-1) 0):=by
 have hp:=q0R.2 h;have h1:2 ^ (32*((lim n).length-1))=B ^ ((lim n).length-1):=by rw [q9B,← Nat.pow_mul]
 have h2:n / B ^ ((lim n).length-1)=(lim n).getD ((lim n).length-1) 0:=by
  have:=q2n (q1b n) ((lim n).length-1);rw [q0I] at this;rw [← this,q1r,show (lim n).length-1+1=(lim n).length by omega,List.drop_length]; simp [val]
 rw [← h2,← h1];exact qbd (by rw [h1]; exact q2a h)
end Go.Sp
namespace Go.E
open Go
section
variable {P:Program} {w:World} {K:Value→World→Prop} {D:Nat→Prop}
def q01 {t:TypeId} {v:Value} (hK:∀ g w',w.heap.size=g→Ext w w'→Blk w' g t v.cells→w'.heap.size=g+1→K (.pointer (some ⟨g,0,none⟩)) w'):qq0 t v w K:=by
 rw [qu3];exact hK _ _ rfl (Kp.alloc w _) (Blk.new w t v.cells) (by simp)
def q0r {t:TypeId} {z:Array Value} (hK:∀ g w',w.heap.size=g→Ext w w'→Blk w' g t z→w'.heap.size=g+1→K (.pointer (some ⟨g,0,none⟩)) w'):alW (some z) t w K:=by
 rw [alW_s];exact hK _ _ rfl (Kp.alloc w _) (Blk.new w t z) (by simp)
def q00 {T t g:Nat} {v:Value} {cs:Array Value} {K:World→Prop} (hb:Blk w g t cs) (hs:q03 P T=some v.cells.size) (hl:v.cells.size=cs.size) (h1:v.cells.toList.all (·.oneCell')=true)
  (hK:∀ w',Kp (fun k=>k≠g) w w'→Blk w' g t v.cells→K w'):q3f P T w (.pointer (some ⟨g,0,none⟩)) v K:=by
 rw [q50];refine ⟨hs,hb.stOk _ _ (by simp [hl]) (fun u hu=>(List.all_eq_true.1 h1) u hu),hK _ (qdc _ _ _ fun _ h=>h rfl) ?_⟩;have:=hb.store (vs:=v.cells.toList) (by simp [hl]);simpa using this
def q0p {e:Env} {a t t' k g:Nat} {cs:Array Value} (he:e a=.pointer (some ⟨g,0,none⟩)) (hk:q0f P t=some (some k)) (hb:Blk w g t' cs) (hs:cs.size=k):q7R P w e (.cell a t)=some (.agg cs):=by
 unfold q7R;simp only [he,hk,hb.rdAll hs];simp
def q25 {k g t':Nat} {cs:Array Value} (hb:Blk w g t' cs) (hs:cs.size=k):ldV w (some (some k)) (.pointer (some ⟨g,0,none⟩))=some (.agg cs):=by
 simp only [ldV,hb.rdAll hs];simp
def Dx.ne {a b k g:Nat} (h:Dx D a b k) (h1:a≤g) (h2:g < b):k≠g:=fun e=>by subst e; exact Dx.not h1 h2 h
def Blk.kpne {g g' t:Nat} {cs:Array Value} {w':World} (h:Blk w g t cs) (hk:Kp (fun k=>k≠g') w w') (hne:g≠g'):Blk w' g t cs:=h.kp hk hne
end
end Go.E
namespace Go.Proofs.YtbcmhlhgljoolaaGreatDoor
open Go Go.E Go.Sp
def Big (w:World) (D:Nat→Prop) (s:Bool) (A:Option Addr) (n c:Nat) (z:Int):Prop:=s=decide (z < 0)∧U32 w D A n c (lim z.natAbs)
section
variable {w w':World} {D D':Nat→Prop} {A:Option Addr} {n c B:Nat} {l:List Nat} {s:Bool} {z:Int}
def Big.kp (h:Big w D s A n c z) (k:Kp D w w'):Big w' D s A n c z:=⟨h.1,h.2.kp k⟩
def Big.ext (h:Big w D s A n c z) (k:Ext w w'):Big w' D s A n c z:=⟨h.1,h.2.ext k⟩
def Big.sub (h:Big w D s A n c z) (hs:∀ k,k < w.heap.size→D k→D' k):Big w D' s A n c z:=⟨h.1,h.2.sub hs⟩
def Big.len (h:Big w D s A n c z):(lim z.natAbs).length=n:=h.2.len
def Big.sgn (h:Big w D s A n c z):sgn s z.natAbs=z:=by rw [h.1,q51]
def q24 (h:U32 w D A n c l):(lim (val l)).length≤n:=by
 have h1:=q2V (q1V h.2); rw [h.len] at h1; exact h1
end
def isU (D:Nat→Prop) (l:List Nat):q1D (Kp fun _=>True):=⟨fun v w=>∃ A n c,v=.slice A n c∧U32 w D A n c l,fun v w w' hk ⟨A,n,c,h1,h2⟩=>⟨A,n,c,h1,h2.ext hk⟩⟩
def isV (D:Nat→Prop) (N m:Nat):q1D (Kp fun _=>True):=⟨fun v w=>∃ A n c l,v=.slice A n c∧U32 w D A n c l∧val l=m∧n≤N,fun v w w' hk ⟨A,n,c,l,h1,h2,h3⟩=>⟨A,n,c,l,h1,h2.ext hk,h3⟩⟩
def isB (D:Nat→Prop) (z:Int):q1D (Kp fun _=>True):=⟨fun v w=>∃ s A n c,v=.agg #[.bool s,.slice A n c]∧Big w D s A n c z,fun v w w' hk ⟨s,A,n,c,h1,h2⟩=>⟨s,A,n,c,h1,h2.ext hk⟩⟩
def q1a {D:Nat→Prop} {A:Option Addr} {n c:Nat} {l:List Nat} {s:Bool} {w:World} (h:U32 w D A n c l) (hb:n≤1000000000) (hf:Fr D w) :
  Calls Tryz.prog 208 #[.bool s,.slice A n c] w fun e w'=>∃ s' A' n' c',e=.returned (.agg #[.bool s',.slice A' n' c'])∧Ext w w'∧Big w' D s' A' n' c' (sgn s (val l)):=by
 refine q0J Tryz.func208 rfl Tryz.ntmps208 (by kernel_rfl) ?_;refine q0A fun K hK=>?_;refine Zz ?_;refine q0r ?_;intro g w1 hg hx1 hb1 hs1;refine hK _ _ ?_; clear hK;refine q0A fun K hK=>?_;refine Zz ?_;refine q0F q3B (q18 (h.ext hx1) hb) ?_;rintro _ w2 ⟨A2,m,c2,rfl,hx2,hO⟩; refine ⟨_,rfl,?_⟩;refine hK _ _ ?_; clear hK;replace hb1:=hb1.ext hx2;have hU:U32 w2 D A2 m c2 (lim (val l)):=hO.u32 fun k hk=>hf k (by have:=hx1.size; omega);have hne:∀ {w3},Kp (fun k=>k≠g) w2 w3→Ext w w3:=fun h3=>(hx1.trans hx2).under h3 fun k hk=>by omega
 have hUne:∀ {w3},Kp (fun k=>k≠g) w2 w3→U32 w3 D A2 m c2 (lim (val l)):=fun h3=>by
  have:U32 w2 (fun k=>k≠g∧D k) A2 m c2 (lim (val l)):=hO.u32 fun k hk=>⟨by omega,hf k (by have:=hx1.size; omega)⟩;exact (this.kp (h3.mono fun k _ h=>h.1)).sub fun k _ h=>h.2
 have hlm:=hU.len;have hz0:decide (0 < (m:Int))=decide (0 < val l):=by
  have h1:=@q0R (val l); rw [hlm] at h1;rw [decide_eq_decide]; omega
 refine q0A fun K hK=>?_;have fin:∀ e' w3,e' 4=.pointer (some ⟨g,0,none⟩)→Kp (fun k=>k≠g) w2 w3→Blk w3 g 72 #[.bool (s && decide (0 < (m:Int))),.slice A2 m c2]→K e' w3:=by
  intro e' w3 h4 hk3 hb3;refine hK _ _ (q0O (q3D rfl (q0p h4 q1Z hb3 rfl) ⟨_,A2,m,c2,rfl,hne hk3,?_⟩));rw [hz0];exact ⟨(q91 s _).symm,by rw [q1R]; exact hUne hk3⟩
 clear hK;cases s
 ·refine Zz ?_;refine q00 hb1 q0s rfl rfl fun w3 hk3 hb3=>?_;exact fin _ _ (by simp only [q0E,Nat.reduceEqDiff,↓reduceIte]) hk3 hb3
 ·refine Zz ?_;refine q00 hb1 q0s rfl rfl fun w3 hk3 hb3=>?_;exact fin _ _ (by simp only [q0E,Nat.reduceEqDiff,↓reduceIte]) hk3 hb3
def Dx.keep {D:Nat→Prop} {w:World} {a b:Nat} (ha:a=w.heap.size):∀ k,k < w.heap.size→D k→Dx D a b k:=fun _ hk hd=>Dx.lt hd Oq
def qnO {D:Nat→Prop} {A:Option Addr} {n c:Nat} {l:List Nat} {s:Bool} {w:World} (h:U32 w D A n c l) (hb:n≤1000000000) (hf:Fr D w) :
  Calls Tryz.prog 151 #[.agg #[.bool s,.slice A n c]] w fun e w'=>∃ s' A' n' c',e=.returned (.agg #[.bool s',.slice A' n' c'])∧Ext w w'∧Big w' D s' A' n' c' (val l):=by
 refine q0J Tryz.func151 rfl Tryz.ntmps151 (by kernel_rfl) ?_;refine q0A fun K hK=>?_;refine Zz ?_;refine q01 ?_;intro g1 w1 hg1 hx1 hb1 hs1;refine q0r ?_;intro g2 w2 hg2 hx2 hb2 hs2;refine hK _ _ ?_; clear hK;replace hb1:=hb1.ext hx2;have hc1:w2.cell? ⟨g1,1,none⟩=some (.slice A n c):=hb1.cell 1;have hD:Fr (Dx D w.heap.size w2.heap.size) w2:=Dx.fr ((hf.kp hx1).kp hx2) (Nat.le_refl _);refine q0A fun K hK=>?_;refine Zz1 hc1 ?_;refine q0F q3C (q1a (((h.sub (Dx.keep rfl)).ext hx1).ext hx2) hb hD) ?_;rintro _ w3 ⟨s3,A3,n3,c3,rfl,hx3,hB⟩; refine ⟨_,rfl,?_⟩;replace hb2:=hb2.ext hx3;refine q00 hb2 q0s rfl rfl fun w9 hk9 hb9=>?_;refine hK _ _ ?_; clear hK;refine q0O ?_
 try simp only [q0D,q0S]
 exact (q3D rfl (q0p (by first | exact rfl | assumption) q1Z hb9 rfl) ⟨_,_,_,_,rfl,(((hx1.trans hx2).trans hx3)).under hk9 (fun k hk=>by omega),(hB.kp (hk9.mono fun k _ h=>Dx.ne h Oq Oq)).sub fun k _ h=>h.1⟩)
end Go.Proofs.YtbcmhlhgljoolaaGreatDoor
namespace Go.E
open Go
section
variable {P:Program} {t:TypeId} {k':IntKind} {a b:Nat}
def q8g (a b:Nat):Int.fdiv (a:Int) (b:Int)=((a / b:Nat):Int):=by
 rw [Int.fdiv_eq_ediv_of_nonneg _ (Int.natCast_nonneg b)]; rfl
def qhm:q0z P .shr t (.int .u64 (a:Int)) (.int k' 32)=some (.int .u64 ((a / 4294967296:Nat):Int)):=by
 rw [q2L,if_neg (by omega)];exact congrArg (fun x=>some (Value.int .u64 x)) (q8g a 4294967296)
def qhk:q0z P .shr t (.int .u64 (a:Int)) (.int k' 63)=some (.int .u64 ((a / 9223372036854775808:Nat):Int)):=by
 rw [q2L,if_neg (by omega)];exact congrArg (fun x=>some (Value.int .u64 x)) (q8g a 9223372036854775808)
def qmm:q0z P .shr t (.int .u32 (a:Int)) (.int k' 8)=some (.int .u32 ((a / 256:Nat):Int)):=by
 rw [q2L,if_neg (by omega)];exact congrArg (fun x=>some (Value.int .u32 x)) (q8g a 256)
def qho:q0z P .shr t (.int .u32 (a:Int)) (.int k' 16)=some (.int .u32 ((a / 65536:Nat):Int)):=by
 rw [q2L,if_neg (by omega)];exact congrArg (fun x=>some (Value.int .u32 x)) (q8g a 65536)
def qhn:q0z P .shr t (.int .u32 (a:Int)) (.int k' 27)=some (.int .u32 ((a / 134217728:Nat):Int)):=by
 rw [q2L,if_neg (by omega)];exact congrArg (fun x=>some (Value.int .u32 x)) (q8g a 134217728)
def w32N:IntKind.u32.wrap (a:Int)=((a % 4294967296:Nat):Int):=by rw [q2o]; omega
def q8y (h:a+b < 18446744073709551616):IntKind.u64.wrap ((a:Int)+(b:Int))=((a+b:Nat):Int):=by rw [q1O]; omega
def q5q (hb:b < 18446744073709551616):IntKind.u64.wrap ((a:Int)-(b:Int))=(((a+(18446744073709551616-b)) % 18446744073709551616:Nat):Int):=by rw [q1O]; omega
def id64N (h:a < 18446744073709551616):IntKind.u64.wrap (a:Int)=(a:Int):=by rw [q1O]; omega
def qec (h:a*b < 18446744073709551616):IntKind.u64.wrap ((a:Int)*(b:Int))=((a*b:Nat):Int):=by rw [q1O,← Int.natCast_mul]; omega
def i64N (h:a < 9223372036854775808):IntKind.i64.wrap (a:Int)=(a:Int):=by rw [qib]; omega
end
def q43 {n x:Nat}:(BitVec.ofInt n (x:Int))=BitVec.ofNat n x:=by simp
def qcR {a b:Nat} (ha:a < 18446744073709551616) (hb:b < 18446744073709551616):q0y .or .u64 (a:Int) (b:Int)=((a ||| b:Nat):Int):=by
 have h:a ||| b < 2 ^ 64:=Nat.or_lt_two_pow ha hb;have h2:(BitVec.ofInt 64 (a:Int) ||| BitVec.ofInt 64 (b:Int)).toNat=a ||| b:=by
  rw [q43,q43,BitVec.toNat_or,BitVec.toNat_ofNat,BitVec.toNat_ofNat,Nat.mod_eq_of_lt ha,Nat.mod_eq_of_lt hb]
 show IntKind.u64.wrap ((BitVec.ofInt 64 (a:Int) ||| BitVec.ofInt 64 (b:Int)).toNat:Int)=_
 rw [h2,q1O]; omega
def or32N {a b:Nat} (ha:a < 4294967296) (hb:b < 4294967296):q0y .or .u32 (a:Int) (b:Int)=((a ||| b:Nat):Int):=by
 have h:a ||| b < 2 ^ 32:=Nat.or_lt_two_pow ha hb;have h2:(BitVec.ofInt 32 (a:Int) ||| BitVec.ofInt 32 (b:Int)).toNat=a ||| b:=by
  rw [q43,q43,BitVec.toNat_or,BitVec.toNat_ofNat,BitVec.toNat_ofNat,Nat.mod_eq_of_lt ha,Nat.mod_eq_of_lt hb]
 show IntKind.u32.wrap ((BitVec.ofInt 32 (a:Int) ||| BitVec.ofInt 32 (b:Int)).toNat:Int)=_
 rw [h2,q2o]; omega
def q4a {a b:Nat} (ha:a < 18446744073709551616) (hb:b < 18446744073709551616):q0y .and .u64 (a:Int) (b:Int)=((a &&& b:Nat):Int):=by
 have h:a &&& b < 2 ^ 64:=Nat.and_lt_two_pow a hb;have h2:(BitVec.ofInt 64 (a:Int) &&& BitVec.ofInt 64 (b:Int)).toNat=a &&& b:=by
  rw [q43,q43,BitVec.toNat_and,BitVec.toNat_ofNat,BitVec.toNat_ofNat,Nat.mod_eq_of_lt ha,Nat.mod_eq_of_lt hb]
 show IntKind.u64.wrap ((BitVec.ofInt 64 (a:Int) &&& BitVec.ofInt 64 (b:Int)).toNat:Int)=_
 rw [h2,q1O]; omega
def qbk {a b:Nat} (ha:a < 4294967296) (hb:b < 4294967296):q0y .and .u32 (a:Int) (b:Int)=((a &&& b:Nat):Int):=by
 have h:a &&& b < 2 ^ 32:=Nat.and_lt_two_pow a hb;have h2:(BitVec.ofInt 32 (a:Int) &&& BitVec.ofInt 32 (b:Int)).toNat=a &&& b:=by
  rw [q43,q43,BitVec.toNat_and,BitVec.toNat_ofNat,BitVec.toNat_ofNat,Nat.mod_eq_of_lt ha,Nat.mod_eq_of_lt hb]
 show IntKind.u32.wrap ((BitVec.ofInt 32 (a:Int) &&& BitVec.ofInt 32 (b:Int)).toNat:Int)=_
 rw [h2,q2o]; omega
section
variable {P:Program} {t:TypeId} {k':IntKind} {a b:Nat}
def qdh (hb:b≤64):q0z P .shl t (.int .u64 (a:Int)) (.int k' (b:Int))=some (.int .u64 ((a*2 ^ b % 18446744073709551616:Nat):Int)):=by
 rw [qaH,if_neg (by omega)];have:min (b:Int).toNat IntKind.u64.bits=b:=by simp [IntKind.bits]; omega
 rw [this,q1O]
 congr 2
def qk7 (hb:b≤32):q0z P .shl t (.int .u32 (a:Int)) (.int k' (b:Int))=some (.int .u32 ((a*2 ^ b % 4294967296:Nat):Int)):=by
 rw [qaH,if_neg (by omega)];have:min (b:Int).toNat IntKind.u32.bits=b:=by simp [IntKind.bits]; omega
 rw [this,q2o]
 congr 2
def qrh (hb:b≤64):q0z P .shr t (.int .u64 (a:Int)) (.int k' (b:Int))=some (.int .u64 ((a / 2 ^ b:Nat):Int)):=by
 rw [q2L,if_neg (by omega)];have:min (b:Int).toNat IntKind.u64.bits=b:=by simp [IntKind.bits]; omega
 rw [this];have:=q8g a (2 ^ b);rw [← this]; simp
def qsN (h:a < 9223372036854775808):q0z P .quo t (.int .i64 (a:Int)) (.int .i64 32)=some (.int .i64 ((a / 32:Nat):Int)):=by
 rw [qaJ,if_neg (by omega)];have:Int.tdiv (a:Int) 32=((a / 32:Nat):Int):=rfl;rw [this,i64_in Oq (by omega)]
def qsE:q0z P .rem t (.int .i64 (a:Int)) (.int .i64 32)=some (.int .i64 ((a % 32:Nat):Int)):=by
 rw [qaI,if_neg (by omega)]; rfl
end
section
variable {P:Program} {t:TypeId} {k':IntKind} {a b:Nat}
def qhr:q0z P .shl t (.int .u64 (a:Int)) (.int k' 32)=some (.int .u64 ((a*4294967296 % 18446744073709551616:Nat):Int)):=qdh (b:=32) Oq
def qmo (hb:b < 32):q0z P .shl t (.int .u32 1) (.int k' (b:Int))=some (.int .u32 ((2 ^ b:Nat):Int)):=by
 have:=qk7 (P:=P) (t:=t) (k':=k') (a:=1) (b:=b) Oq;rw [Nat.one_mul,Nat.mod_eq_of_lt (show 2 ^ b < 4294967296 from Nat.pow_lt_pow_right Oq hb)] at this;exact this
def qd7 (h:0 < a) (h2:a < 4294967296):IntKind.u32.wrap ((a:Int)-1)=((a-1:Nat):Int):=by rw [q2o]; omega
end
attribute [go_sem high] qhr qmo qcR or32N q4a qbk qdh qk7 qrh qsN qsE
def beqN {a b:Nat}:((a:Int) == (b:Int))=decide (a=b):=by rw [Bool.eq_iff_iff,beq_iff_eq,decide_eq_true_eq]; omega
def qu4 {a b:Nat}:((a:Int) != (b:Int))=decide (a≠b):=by rw [Bool.eq_iff_iff,bne_iff_ne,decide_eq_true_eq]; omega
def qlw {a:Nat}:((a:Int) != 0)=decide (a≠0):=qu4 (b:=0)
def q8u {a:Nat}:((a:Int) == 0)=decide (a=0):=beqN (b:=0)
def qkt {k:IntKind} {a b:Int}:mmV true [.int k a,.int k b]=some (.int k (max a b)):=by simp [mmV]
def qks {k:IntKind} {a b:Int}:mmV false [.int k a,.int k b]=some (.int k (min a b)):=by simp [mmV]
attribute [go_sem high] qkt qks
attribute [go_sem high] qmm qho qhn qhm qhk w32N q8y qec id64N
end Go.E
