/- KrylovExact. 1/6. -/
import Derived.Laws.OwnMore
import Derived.Laws.Strings
import Derived.Maps.AppendAt
import Derived.Orders
import Derived.Test.YtfmojhhokfkdaaaGreatDoorProg
import Derived.WalkKit
set_option linter.unusedSimpArgs false
set_option linter.unusedVariables false
set_option maxRecDepth 20000
set_option maxHeartbeats 2000000
set_option linter.defProp false
namespace Go
def Zz {p q : Prop} (k : q) (e : p = q := by simp -implicitDefEqProofs (disch := omega) only [go_sem, Nat.reduceEqDiff, Nat.reduceAdd, ↓reduceIte]; exact rfl) : p := e.mpr k
def Ue {p : Prop} (e : p := by (try simp only [q0z, Nat.reduceEqDiff, ↓reduceIte]); first | done | assumption | exact rfl) : p := e
def Rf {p : Prop} (e : p := by first | exact rfl | assumption | exact Ue) : p := e
theorem Oq {p : Prop} (e : p := by omega) : p := e
def Om {p : Prop} (e : p := by first | omega | (simp only [Int.natAbs_natCast, Int.natAbs_neg]; omega)) : p := e
def Lk {p : Prop} (e : p := by first | (simp -implicitDefEqProofs (disch := omega) only [go_sem, Nat.reduceEqDiff, Nat.reduceAdd, ↓reduceIte, ↓List.map_cons, ↓List.map_nil]; done) | (simp -implicitDefEqProofs (disch := omega) only [go_sem, Nat.reduceEqDiff, Nat.reduceAdd, ↓reduceIte, ↓List.map_cons, ↓List.map_nil]; rfl) | rfl) : p := e
def Lq {p : Prop} (e : p := by first | (simp -implicitDefEqProofs (disch := omega) only [go_sem, Nat.reduceEqDiff, Nat.reduceAdd, ↓reduceIte]; done) | (simp -implicitDefEqProofs (disch := omega) only [go_sem, Nat.reduceEqDiff, Nat.reduceAdd, ↓reduceIte]; rfl) | rfl) : p := e
def Cz {p : Prop} (e : p := by simp only [go_sem, Nat.reduceEqDiff, ↓reduceIte]) : p := e
def Zy {p : Prop}  (e : p := by simp -implicitDefEqProofs (disch := omega) only [go_sem, Nat.reduceEqDiff, Nat.reduceAdd, ↓reduceIte]) : p := e
def Zy1 {p F1 : Prop} (f1 : F1) (e : F1 → p := by intro g1; simp -implicitDefEqProofs (disch := omega) only [go_sem, Nat.reduceEqDiff, Nat.reduceAdd, ↓reduceIte, g1]) : p := e f1
def Zy2 {p F1 F2 : Prop} (f1 : F1) (f2 : F2) (e : F1 → F2 → p := by intro g1 g2; simp -implicitDefEqProofs (disch := omega) only [go_sem, Nat.reduceEqDiff, Nat.reduceAdd, ↓reduceIte, g1, g2]) : p := e f1 f2
def Zy3 {p F1 F2 F3 : Prop} (f1 : F1) (f2 : F2) (f3 : F3) (e : F1 → F2 → F3 → p := by intro g1 g2 g3; simp -implicitDefEqProofs (disch := omega) only [go_sem, Nat.reduceEqDiff, Nat.reduceAdd, ↓reduceIte, g1, g2, g3]) : p := e f1 f2 f3
def Zy4 {p F1 F2 F3 F4 : Prop} (f1 : F1) (f2 : F2) (f3 : F3) (f4 : F4) (e : F1 → F2 → F3 → F4 → p := by intro g1 g2 g3 g4; simp -implicitDefEqProofs (disch := omega) only [go_sem, Nat.reduceEqDiff, Nat.reduceAdd, ↓reduceIte, g1, g2, g3, g4]) : p := e f1 f2 f3 f4
def Zy5 {p F1 F2 F3 F4 F5 : Prop} (f1 : F1) (f2 : F2) (f3 : F3) (f4 : F4) (f5 : F5) (e : F1 → F2 → F3 → F4 → F5 → p := by intro g1 g2 g3 g4 g5; simp -implicitDefEqProofs (disch := omega) only [go_sem, Nat.reduceEqDiff, Nat.reduceAdd, ↓reduceIte, g1, g2, g3, g4, g5]) : p := e f1 f2 f3 f4 f5
def Zy6 {p F1 F2 F3 F4 F5 F6 : Prop} (f1 : F1) (f2 : F2) (f3 : F3) (f4 : F4) (f5 : F5) (f6 : F6) (e : F1 → F2 → F3 → F4 → F5 → F6 → p := by intro g1 g2 g3 g4 g5 g6; simp -implicitDefEqProofs (disch := omega) only [go_sem, Nat.reduceEqDiff, Nat.reduceAdd, ↓reduceIte, g1, g2, g3, g4, g5, g6]) : p := e f1 f2 f3 f4 f5 f6
def Zy7 {p F1 F2 F3 F4 F5 F6 F7 : Prop} (f1 : F1) (f2 : F2) (f3 : F3) (f4 : F4) (f5 : F5) (f6 : F6) (f7 : F7) (e : F1 → F2 → F3 → F4 → F5 → F6 → F7 → p := by intro g1 g2 g3 g4 g5 g6 g7; simp -implicitDefEqProofs (disch := omega) only [go_sem, Nat.reduceEqDiff, Nat.reduceAdd, ↓reduceIte, g1, g2, g3, g4, g5, g6, g7]) : p := e f1 f2 f3 f4 f5 f6 f7
def Zy8 {p F1 F2 F3 F4 F5 F6 F7 F8 : Prop} (f1 : F1) (f2 : F2) (f3 : F3) (f4 : F4) (f5 : F5) (f6 : F6) (f7 : F7) (f8 : F8) (e : F1 → F2 → F3 → F4 → F5 → F6 → F7 → F8 → p := by intro g1 g2 g3 g4 g5 g6 g7 g8; simp -implicitDefEqProofs (disch := omega) only [go_sem, Nat.reduceEqDiff, Nat.reduceAdd, ↓reduceIte, g1, g2, g3, g4, g5, g6, g7, g8]) : p := e f1 f2 f3 f4 f5 f6 f7 f8
def Zy9 {p F1 F2 F3 F4 F5 F6 F7 F8 F9 : Prop} (f1 : F1) (f2 : F2) (f3 : F3) (f4 : F4) (f5 : F5) (f6 : F6) (f7 : F7) (f8 : F8) (f9 : F9) (e : F1 → F2 → F3 → F4 → F5 → F6 → F7 → F8 → F9 → p := by intro g1 g2 g3 g4 g5 g6 g7 g8 g9; simp -implicitDefEqProofs (disch := omega) only [go_sem, Nat.reduceEqDiff, Nat.reduceAdd, ↓reduceIte, g1, g2, g3, g4, g5, g6, g7, g8, g9]) : p := e f1 f2 f3 f4 f5 f6 f7 f8 f9
def Zy10 {p F1 F2 F3 F4 F5 F6 F7 F8 F9 F10 : Prop} (f1 : F1) (f2 : F2) (f3 : F3) (f4 : F4) (f5 : F5) (f6 : F6) (f7 : F7) (f8 : F8) (f9 : F9) (f10 : F10) (e : F1 → F2 → F3 → F4 → F5 → F6 → F7 → F8 → F9 → F10 → p := by intro g1 g2 g3 g4 g5 g6 g7 g8 g9 g10; simp -implicitDefEqProofs (disch := omega) only [go_sem, Nat.reduceEqDiff, Nat.reduceAdd, ↓reduceIte, g1, g2, g3, g4, g5, g6, g7, g8, g9, g10]) : p := e f1 f2 f3 f4 f5 f6 f7 f8 f9 f10
def Zy11 {p F1 F2 F3 F4 F5 F6 F7 F8 F9 F10 F11 : Prop} (f1 : F1) (f2 : F2) (f3 : F3) (f4 : F4) (f5 : F5) (f6 : F6) (f7 : F7) (f8 : F8) (f9 : F9) (f10 : F10) (f11 : F11) (e : F1 → F2 → F3 → F4 → F5 → F6 → F7 → F8 → F9 → F10 → F11 → p := by intro g1 g2 g3 g4 g5 g6 g7 g8 g9 g10 g11; simp -implicitDefEqProofs (disch := omega) only [go_sem, Nat.reduceEqDiff, Nat.reduceAdd, ↓reduceIte, g1, g2, g3, g4, g5, g6, g7, g8, g9, g10, g11]) : p := e f1 f2 f3 f4 f5 f6 f7 f8 f9 f10 f11
def Zy12 {p F1 F2 F3 F4 F5 F6 F7 F8 F9 F10 F11 F12 : Prop} (f1 : F1) (f2 : F2) (f3 : F3) (f4 : F4) (f5 : F5) (f6 : F6) (f7 : F7) (f8 : F8) (f9 : F9) (f10 : F10) (f11 : F11) (f12 : F12) (e : F1 → F2 → F3 → F4 → F5 → F6 → F7 → F8 → F9 → F10 → F11 → F12 → p := by intro g1 g2 g3 g4 g5 g6 g7 g8 g9 g10 g11 g12; simp -implicitDefEqProofs (disch := omega) only [go_sem, Nat.reduceEqDiff, Nat.reduceAdd, ↓reduceIte, g1, g2, g3, g4, g5, g6, g7, g8, g9, g10, g11, g12]) : p := e f1 f2 f3 f4 f5 f6 f7 f8 f9 f10 f11 f12
def Zy13 {p F1 F2 F3 F4 F5 F6 F7 F8 F9 F10 F11 F12 F13 : Prop} (f1 : F1) (f2 : F2) (f3 : F3) (f4 : F4) (f5 : F5) (f6 : F6) (f7 : F7) (f8 : F8) (f9 : F9) (f10 : F10) (f11 : F11) (f12 : F12) (f13 : F13) (e : F1 → F2 → F3 → F4 → F5 → F6 → F7 → F8 → F9 → F10 → F11 → F12 → F13 → p := by intro g1 g2 g3 g4 g5 g6 g7 g8 g9 g10 g11 g12 g13; simp -implicitDefEqProofs (disch := omega) only [go_sem, Nat.reduceEqDiff, Nat.reduceAdd, ↓reduceIte, g1, g2, g3, g4, g5, g6, g7, g8, g9, g10, g11, g12, g13]) : p := e f1 f2 f3 f4 f5 f6 f7 f8 f9 f10 f11 f12 f13
def Zy14 {p F1 F2 F3 F4 F5 F6 F7 F8 F9 F10 F11 F12 F13 F14 : Prop} (f1 : F1) (f2 : F2) (f3 : F3) (f4 : F4) (f5 : F5) (f6 : F6) (f7 : F7) (f8 : F8) (f9 : F9) (f10 : F10) (f11 : F11) (f12 : F12) (f13 : F13) (f14 : F14) (e : F1 → F2 → F3 → F4 → F5 → F6 → F7 → F8 → F9 → F10 → F11 → F12 → F13 → F14 → p := by intro g1 g2 g3 g4 g5 g6 g7 g8 g9 g10 g11 g12 g13 g14; simp -implicitDefEqProofs (disch := omega) only [go_sem, Nat.reduceEqDiff, Nat.reduceAdd, ↓reduceIte, g1, g2, g3, g4, g5, g6, g7, g8, g9, g10, g11, g12, g13, g14]) : p := e f1 f2 f3 f4 f5 f6 f7 f8 f9 f10 f11 f12 f13 f14
def Zz1 {p q F1 : Prop} (f1 : F1) (k : q) (e : F1 → p = q := by intro g1; simp -implicitDefEqProofs (disch := omega) only [go_sem, Nat.reduceEqDiff, Nat.reduceAdd, ↓reduceIte, g1]; exact rfl) : p := (e f1).mpr k
def Zz2 {p q F1 F2 : Prop} (f1 : F1) (f2 : F2) (k : q) (e : F1 → F2 → p = q := by intro g1 g2; simp -implicitDefEqProofs (disch := omega) only [go_sem, Nat.reduceEqDiff, Nat.reduceAdd, ↓reduceIte, g1, g2]; exact rfl) : p := (e f1 f2).mpr k
def Zz3 {p q F1 F2 F3 : Prop} (f1 : F1) (f2 : F2) (f3 : F3) (k : q) (e : F1 → F2 → F3 → p = q := by intro g1 g2 g3; simp -implicitDefEqProofs (disch := omega) only [go_sem, Nat.reduceEqDiff, Nat.reduceAdd, ↓reduceIte, g1, g2, g3]; exact rfl) : p := (e f1 f2 f3).mpr k
def Zz4 {p q F1 F2 F3 F4 : Prop} (f1 : F1) (f2 : F2) (f3 : F3) (f4 : F4) (k : q) (e : F1 → F2 → F3 → F4 → p = q := by intro g1 g2 g3 g4; simp -implicitDefEqProofs (disch := omega) only [go_sem, Nat.reduceEqDiff, Nat.reduceAdd, ↓reduceIte, g1, g2, g3, g4]; exact rfl) : p := (e f1 f2 f3 f4).mpr k
def Zz5 {p q F1 F2 F3 F4 F5 : Prop} (f1 : F1) (f2 : F2) (f3 : F3) (f4 : F4) (f5 : F5) (k : q) (e : F1 → F2 → F3 → F4 → F5 → p = q := by intro g1 g2 g3 g4 g5; simp -implicitDefEqProofs (disch := omega) only [go_sem, Nat.reduceEqDiff, Nat.reduceAdd, ↓reduceIte, g1, g2, g3, g4, g5]; exact rfl) : p := (e f1 f2 f3 f4 f5).mpr k
def Zz6 {p q F1 F2 F3 F4 F5 F6 : Prop} (f1 : F1) (f2 : F2) (f3 : F3) (f4 : F4) (f5 : F5) (f6 : F6) (k : q) (e : F1 → F2 → F3 → F4 → F5 → F6 → p = q := by intro g1 g2 g3 g4 g5 g6; simp -implicitDefEqProofs (disch := omega) only [go_sem, Nat.reduceEqDiff, Nat.reduceAdd, ↓reduceIte, g1, g2, g3, g4, g5, g6]; exact rfl) : p := (e f1 f2 f3 f4 f5 f6).mpr k
def Zz7 {p q F1 F2 F3 F4 F5 F6 F7 : Prop} (f1 : F1) (f2 : F2) (f3 : F3) (f4 : F4) (f5 : F5) (f6 : F6) (f7 : F7) (k : q) (e : F1 → F2 → F3 → F4 → F5 → F6 → F7 → p = q := by intro g1 g2 g3 g4 g5 g6 g7; simp -implicitDefEqProofs (disch := omega) only [go_sem, Nat.reduceEqDiff, Nat.reduceAdd, ↓reduceIte, g1, g2, g3, g4, g5, g6, g7]; exact rfl) : p := (e f1 f2 f3 f4 f5 f6 f7).mpr k
def Zz8 {p q F1 F2 F3 F4 F5 F6 F7 F8 : Prop} (f1 : F1) (f2 : F2) (f3 : F3) (f4 : F4) (f5 : F5) (f6 : F6) (f7 : F7) (f8 : F8) (k : q) (e : F1 → F2 → F3 → F4 → F5 → F6 → F7 → F8 → p = q := by intro g1 g2 g3 g4 g5 g6 g7 g8; simp -implicitDefEqProofs (disch := omega) only [go_sem, Nat.reduceEqDiff, Nat.reduceAdd, ↓reduceIte, g1, g2, g3, g4, g5, g6, g7, g8]; exact rfl) : p := (e f1 f2 f3 f4 f5 f6 f7 f8).mpr k
def Zz9 {p q F1 F2 F3 F4 F5 F6 F7 F8 F9 : Prop} (f1 : F1) (f2 : F2) (f3 : F3) (f4 : F4) (f5 : F5) (f6 : F6) (f7 : F7) (f8 : F8) (f9 : F9) (k : q) (e : F1 → F2 → F3 → F4 → F5 → F6 → F7 → F8 → F9 → p = q := by intro g1 g2 g3 g4 g5 g6 g7 g8 g9; simp -implicitDefEqProofs (disch := omega) only [go_sem, Nat.reduceEqDiff, Nat.reduceAdd, ↓reduceIte, g1, g2, g3, g4, g5, g6, g7, g8, g9]; exact rfl) : p := (e f1 f2 f3 f4 f5 f6 f7 f8 f9).mpr k
def Zz10 {p q F1 F2 F3 F4 F5 F6 F7 F8 F9 F10 : Prop} (f1 : F1) (f2 : F2) (f3 : F3) (f4 : F4) (f5 : F5) (f6 : F6) (f7 : F7) (f8 : F8) (f9 : F9) (f10 : F10) (k : q) (e : F1 → F2 → F3 → F4 → F5 → F6 → F7 → F8 → F9 → F10 → p = q := by intro g1 g2 g3 g4 g5 g6 g7 g8 g9 g10; simp -implicitDefEqProofs (disch := omega) only [go_sem, Nat.reduceEqDiff, Nat.reduceAdd, ↓reduceIte, g1, g2, g3, g4, g5, g6, g7, g8, g9, g10]; exact rfl) : p := (e f1 f2 f3 f4 f5 f6 f7 f8 f9 f10).mpr k
def Zz11 {p q F1 F2 F3 F4 F5 F6 F7 F8 F9 F10 F11 : Prop} (f1 : F1) (f2 : F2) (f3 : F3) (f4 : F4) (f5 : F5) (f6 : F6) (f7 : F7) (f8 : F8) (f9 : F9) (f10 : F10) (f11 : F11) (k : q) (e : F1 → F2 → F3 → F4 → F5 → F6 → F7 → F8 → F9 → F10 → F11 → p = q := by intro g1 g2 g3 g4 g5 g6 g7 g8 g9 g10 g11; simp -implicitDefEqProofs (disch := omega) only [go_sem, Nat.reduceEqDiff, Nat.reduceAdd, ↓reduceIte, g1, g2, g3, g4, g5, g6, g7, g8, g9, g10, g11]; exact rfl) : p := (e f1 f2 f3 f4 f5 f6 f7 f8 f9 f10 f11).mpr k
def Zz12 {p q F1 F2 F3 F4 F5 F6 F7 F8 F9 F10 F11 F12 : Prop} (f1 : F1) (f2 : F2) (f3 : F3) (f4 : F4) (f5 : F5) (f6 : F6) (f7 : F7) (f8 : F8) (f9 : F9) (f10 : F10) (f11 : F11) (f12 : F12) (k : q) (e : F1 → F2 → F3 → F4 → F5 → F6 → F7 → F8 → F9 → F10 → F11 → F12 → p = q := by intro g1 g2 g3 g4 g5 g6 g7 g8 g9 g10 g11 g12; simp -implicitDefEqProofs (disch := omega) only [go_sem, Nat.reduceEqDiff, Nat.reduceAdd, ↓reduceIte, g1, g2, g3, g4, g5, g6, g7, g8, g9, g10, g11, g12]; exact rfl) : p := (e f1 f2 f3 f4 f5 f6 f7 f8 f9 f10 f11 f12).mpr k
def Zz13 {p q F1 F2 F3 F4 F5 F6 F7 F8 F9 F10 F11 F12 F13 : Prop} (f1 : F1) (f2 : F2) (f3 : F3) (f4 : F4) (f5 : F5) (f6 : F6) (f7 : F7) (f8 : F8) (f9 : F9) (f10 : F10) (f11 : F11) (f12 : F12) (f13 : F13) (k : q) (e : F1 → F2 → F3 → F4 → F5 → F6 → F7 → F8 → F9 → F10 → F11 → F12 → F13 → p = q := by intro g1 g2 g3 g4 g5 g6 g7 g8 g9 g10 g11 g12 g13; simp -implicitDefEqProofs (disch := omega) only [go_sem, Nat.reduceEqDiff, Nat.reduceAdd, ↓reduceIte, g1, g2, g3, g4, g5, g6, g7, g8, g9, g10, g11, g12, g13]; exact rfl) : p := (e f1 f2 f3 f4 f5 f6 f7 f8 f9 f10 f11 f12 f13).mpr k
def Zz14 {p q F1 F2 F3 F4 F5 F6 F7 F8 F9 F10 F11 F12 F13 F14 : Prop} (f1 : F1) (f2 : F2) (f3 : F3) (f4 : F4) (f5 : F5) (f6 : F6) (f7 : F7) (f8 : F8) (f9 : F9) (f10 : F10) (f11 : F11) (f12 : F12) (f13 : F13) (f14 : F14) (k : q) (e : F1 → F2 → F3 → F4 → F5 → F6 → F7 → F8 → F9 → F10 → F11 → F12 → F13 → F14 → p = q := by intro g1 g2 g3 g4 g5 g6 g7 g8 g9 g10 g11 g12 g13 g14; simp -implicitDefEqProofs (disch := omega) only [go_sem, Nat.reduceEqDiff, Nat.reduceAdd, ↓reduceIte, g1, g2, g3, g4, g5, g6, g7, g8, g9, g10, g11, g12, g13, g14]; exact rfl) : p := (e f1 f2 f3 f4 f5 f6 f7 f8 f9 f10 f11 f12 f13 f14).mpr k
end Go
namespace Go.E
open Go
abbrev Env:=Nat→Value
def upd (e:Env) (d:Nat) (v:Value):Env:=fun i=>if i=d then v else e i
def put (e:Env):Option Nat→Value→Env
 | some d,v=>upd e d v
 | none,_=>e
def ev (e:Env):Operand→Value
 | .tmp t=>e t
 | .const v=>v
 | .global g=>.pointer (some ⟨g,0,none⟩)
 | .func f=>.func (.func f) #[] #[]
def q2j (l:List Value):Env:=fun i=>l.getD i undef
structure Rel (n:Nat) (a:Act) (e:Env):Prop where
 defs:a.defers=[]
 size:a.tmps.size=n
 get:∀ i,a.tmps.getD i undef=e i
def q4v (n:Nat) (o:Oper):Bool:=match o.dst with | some d=>decide (d < n) | none=>true
def q6F (n:Nat):Code→Bool
 | .skip | .exit _ | .ret=>true
 | .region _ ops _=>ops.toList.all (q4v n)
 | .seq a b=>q6F n a && q6F n b
 | .cond _ a b=>q6F n a && q6F n b
 | .block _ c=>q6F n c
 | .loop c=>q6F n c
 | _=>false
def wrO (i:Nat) (o:Oper):Bool:=match o.dst with | some d=>Nat.beq d i | none=>false
def wr (i:Nat):Code→Bool
 | .region _ ops _=>ops.toList.any (wrO i)
 | .seq a b=>wr i a || wr i b
 | .cond _ a b=>wr i a || wr i b
 | .block _ c=>wr i c
 | .loop c=>wr i c
 | _=>false
def Rel.eval {n:Nat} {a:Act} {e:Env} (h:Rel n a e):a.eval=ev e:=by
 funext x
 cases x <;> simp only [Act.eval,ev];exact h.get _
def Rel.put {n:Nat} {a:Act} {e:Env} (h:Rel n a e) (dst:Option Nat) (v:Value) (hd:(match dst with | some d=>decide (d < n) | none=>true)=true):Rel n (a.put dst v) (E.put e dst v):=by
 cases dst with
 | none=>exact h
 | some d =>
  have hd':d < n:=by simpa using hd
  refine ⟨h.defs,by simpa [Act.put] using h.size,fun i=>?_⟩;have hg:=h.get i;have hs:=h.size;simp only [E.put,upd,Act.put,Array.getD_eq_getD_getElem?,Array.getElem?_setIfInBounds] at hg ⊢
  by_cases hi:i=d
  ·subst hi; simp [hs,hd']
  ·simp [hi,Ne.symm hi]; simpa using hg
section
variable {P:Program} {n:Nat}
def qgH (n:Nat) (c:Code) (e:Env) (Q:Exit→Env→World→Prop) (x:Exit) (a:Act) (w:World):Prop :=
 ∃ e',Rel n a e'∧(∀ i,wr i c=false→e' i=e i)∧Q x e' w
def W (P:Program) (n:Nat) (c:Code) (Q:Exit→Env→World→Prop) (e:Env) (w:World):Prop :=
 q6F n c=true→∀ a,Rel n a e→c.wp P (qgH n c e Q) a w
def q65 (next:Env→World→Prop) (Q:Exit→Env→World→Prop):Exit→Env→World→Prop
 | .normal,e,w=>next e w
 | x,e,w=>Q x e w
def inB (id:Nat) (Q:Exit→Env→World→Prop):Exit→Env→World→Prop
 | .exit id',e,w=>if id'=id then Q .normal e w else Q (.exit id') e w
 | x,e,w=>Q x e w
def q3n {c:Code} {Q Q':Exit→Env→World→Prop} {e:Env} {w:World} (hq:∀ x e w,Q x e w→Q' x e w) (h:W P n c Q e w):W P n c Q' e w :=
 fun hd a hr=>wp_mono (h hd a hr) fun _ _ _ ⟨e',r,f,q⟩=>⟨e',r,f,hq _ _ _ q⟩
def qdX {a b:Code} {Q:Exit→Env→World→Prop} {e:Env} {w:World} (h:W P n a (q65 (W P n b Q) Q) e w):W P n (.seq a b) Q e w:=by
 intro hd act hr;simp only [q6F,Bool.and_eq_true] at hd;have key:∀ (x:Exit) (a':Act) (w':World),qgH n a e (q65 (W P n b Q) Q) x a' w'→Exit.then (b.wp P (qgH n (.seq a b) e Q)) (qgH n (.seq a b) e Q) x a' w':=by
  rintro x a' w' ⟨e',r,f,q⟩;cases x with
  | normal =>
   refine wp_mono (q hd.2 a' r) fun x2 a2 w2 ⟨e2,r2,f2,q2⟩=>⟨e2,r2,fun i hi=>?_,q2⟩;simp only [wr,Bool.or_eq_false_iff] at hi;rw [f2 i hi.2,f i hi.1]
  | _=>exact ⟨e',r,fun i hi=>f i (by simp only [wr,Bool.or_eq_false_iff] at hi; exact hi.1),q⟩
 exact wp_seq (wp_mono (h hd.1 act hr) key)
def q06 {a b:Code} {Q:Exit→Env→World→Prop} {e:Env} {w:World} (h:∀ K:Env→World→Prop,(∀ e w,W P n b Q e w→K e w)→W P n a (q65 K Q) e w):W P n (.seq a b) Q e w :=
 qdX (h _ fun _ _ h=>h)
def q71 {c:Operand} {x y:Code} {Q:Exit→Env→World→Prop} {e:Env} {w:World} {t:Bool} (hc:ev e c=.bool t) (ht:t=true→W P n x Q e w) (hf:t=false→W P n y Q e w):W P n (.cond c x y) Q e w:=by
 intro hd a hr;simp only [q6F,Bool.and_eq_true] at hd;refine wp_cond_split (t:=t) (by rw [hr.eval]; exact hc) (fun h=>?_) (fun h=>?_)
 ·exact wp_mono (ht h hd.1 a hr) fun x2 a2 w2 ⟨e2,r2,f2,q2⟩=>⟨e2,r2,fun i hi=>f2 i (by simp only [wr,Bool.or_eq_false_iff] at hi; exact hi.1),q2⟩
 ·exact wp_mono (hf h hd.2 a hr) fun x2 a2 w2 ⟨e2,r2,f2,q2⟩=>⟨e2,r2,fun i hi=>f2 i (by simp only [wr,Bool.or_eq_false_iff] at hi; exact hi.2),q2⟩
def Wt {c:Operand} {x y:Code} {Q:Exit→Env→World→Prop} {e:Env} {w:World} (ht:W P n x Q e w) (hc:ev e c=.bool true:=by exact rfl):W P n (.cond c x y) Q e w:=q71 hc (fun _=>ht) (fun h=>by cases h)
def Wf {c:Operand} {x y:Code} {Q:Exit→Env→World→Prop} {e:Env} {w:World} (ht:W P n y Q e w) (hc:ev e c=.bool false:=by exact rfl):W P n (.cond c x y) Q e w:=q71 hc (fun h=>by cases h) (fun _=>ht)
def q2p {id:Nat} {c:Code} {Q:Exit→Env→World→Prop} {e:Env} {w:World} (h:W P n c (inB id Q) e w):W P n (.block id c) Q e w:=by
 intro hd a hr;refine wp_block (wp_mono (h hd a hr) ?_);rintro x a2 w2 ⟨e2,r2,f2,q2⟩;cases x with
 | exit id' =>
  simp only [inB] at q2;simp only [Exit.inBlock]
  split
  ·rename_i hid; rw [if_pos hid] at q2; exact ⟨e2,r2,f2,q2⟩
  ·rename_i hid; rw [if_neg hid] at q2; exact ⟨e2,r2,f2,q2⟩
 | _=>exact ⟨e2,r2,f2,q2⟩
def q2N {Q:Exit→Env→World→Prop} {e:Env} {w:World} (h:Q .normal e w):W P n .skip Q e w :=
 fun _ _ hr=>wp_skip ⟨e,hr,fun _ _=>rfl,h⟩
def q52 {id:Nat} {Q:Exit→Env→World→Prop} {e:Env} {w:World} (h:Q (.exit id) e w):W P n (.exit id) Q e w :=
 fun _ _ hr=>wp_exit ⟨e,hr,fun _ _=>rfl,h⟩
def q4A {Q:Exit→Env→World→Prop} {e:Env} {w:World} (h:Q .ret e w):W P n .ret Q e w :=
 fun _ _ hr=>wp_ret ⟨e,hr,fun _ _=>rfl,h⟩
def q70 {c:Code} {Q:Exit→Env→World→Prop} {e:Env} {w:World} (I:Env→World→Prop) (μ:Env→World→Nat) (h0:I e w)
  (round:∀ e' w',I e' w'→(∀ i,wr i c=false→e' i=e i)→W P n c (q65 (fun e2 w2=>I e2 w2∧μ e2 w2 < μ e' w') Q) e' w'):W P n (.loop c) Q e w:=by
 intro hd a hr;have hd':q6F n c=true:=hd;refine wp_loop (fun a' w'=>∃ e',Rel n a' e'∧(∀ i,wr i c=false→e' i=e i)∧I e' w') (fun a' w'=>μ (fun i=>a'.tmps.getD i undef) w') ⟨e,hr,fun _ _=>rfl,h0⟩ ?_;rintro a' w' ⟨e',r',f',i'⟩;have he':(fun i=>a'.tmps.getD i undef)=e':=funext r'.get;refine wp_mono (round e' w' i' f' hd' a' r') ?_;rintro x a2 w2 ⟨e2,r2,f2,q2⟩;have he2:(fun i=>a2.tmps.getD i undef)=e2:=funext r2.get;cases x with
 | normal =>
  obtain ⟨q3,q4⟩:=q2;exact ⟨⟨e2,r2,fun i hi=>(f2 i hi).trans (f' i hi),q3⟩,by rw [he2,he']; exact q4⟩
 | _=>exact ⟨e2,r2,fun i hi=>(f2 i hi).trans (f' i hi),q2⟩
def RO (P:Program) (K:Value→World→Prop):Result Next→Prop
 | .ok (.value v) w=>K v w
 | .ok .skip w=>K undef w
 | .ok (.enter f args) w=>Calls P f args w fun x w'=>match x with | .returned v=>K v w' | _=>False
 | _=>False
def WO (P:Program) (o:Oper) (e:Env) (w:World) (K:Value→World→Prop):Prop:=RO P K ((execOp (ev e) o).run P w)
def qkq {K K':Value→World→Prop} (hk:∀ v w,K v w→K' v w) {r:Result Next} (h:RO P K r):RO P K' r:=by
 cases r with
 | ok x w =>
  cases x <;> simp only [RO] at h ⊢
  ·exact hk _ _ h
  ·exact hk _ _ h
  ·exact h.mono fun x w' hx=>by cases x <;> first | exact hk _ _ hx | exact hx
 | halt=>exact h
def qd0 {o:Oper} {e:Env} {w:World} {K K':Value→World→Prop} (hk:∀ v w,K v w→K' v w) (h:WO P o e w K):WO P o e w K':=qkq hk h
def q2s (ops:Array Oper) (e:Env) (j:Nat):Option Bool :=
 match (ops[j]?).bind (·.dst) with
 | some d=>match e d with | .bool b=>some b | _=>none
 | none=>none
def q4x (ops:Array Oper) (e:Env) (o:Oper):Bool :=
 match o.guard with
 | none=>true
 | some (j,want)=>q2s ops e j == some want
def WG (P:Program) (ops:Array Oper) (o:Oper) (e:Env) (w:World) (K:Value→World→Prop):Prop :=
 if q4x ops e o then WO P o e w K else K undef w
def q3d {ops:Array Oper} {o:Oper} {e:Env} {w:World} {K K':Value→World→Prop} (hk:∀ v w,K v w→K' v w) (h:WG P ops o e w K):WG P ops o e w K':=by
 unfold WG at *; split
 ·rename_i hw; rw [if_pos hw] at h; exact qd0 hk h
 ·rename_i hw; rw [if_neg hw] at h; exact hk _ _ h
def WL (P:Program) (ops:Array Oper) (K:Env→World→Prop):List Oper→Env→World→Prop
 | [],e,w=>K e w
 | o :: rest,e,w=>WG P ops o e w fun v w'=>WL P ops K rest (put e o.dst v) w'
def qdj {ops:Array Oper} {a:Act} {e:Env} (hr:Rel n a e) (hd:ops.toList.all (q4v n)=true) (j:Nat):yielded ops a.tmps j=q2s ops e j:=by
 unfold yielded q2s;cases hj:ops[j]? with
 | none=>simp
 | some o =>
  have ho:q4v n o=true:=by
   rw [List.all_eq_true] at hd;exact hd o (Array.mem_toList_iff.2 (Array.mem_of_getElem? hj))
  simp only [Option.bind_some];unfold q4v at ho;cases hdst:o.dst with
  | none=>simp
  | some d =>
   rw [hdst] at ho;have hlt:d < a.tmps.size:=by rw [hr.size]; simpa using ho
   have hg:=hr.get d;simp only [Option.bind_some,Array.getElem?_eq_getElem hlt];have hv:a.tmps[d]=e d:=by rw [← hg,Array.getD_eq_getD_getElem?,Array.getElem?_eq_getElem hlt]; rfl
   rw [hv];cases e d <;> rfl
def q30 {ops:Array Oper} {a:Act} {e:Env} (hr:Rel n a e) (hd:ops.toList.all (q4v n)=true) (o:Oper):Region.wanted o (yielded ops a.tmps)=q4x ops e o:=by
 unfold Region.wanted q4x;cases o.guard with
 | none=>rfl
 | some g=>obtain ⟨j,want⟩:=g; simp only [qdj hr hd j]
def q2u {o:Oper} {a:Act} {e:Env} {w:World} {K:Value→World→Prop} {K':Act→World→Prop} {Q:Exit→Act→World→Prop} (hr:Rel n a e) (h:WO P o e w K) (hk:∀ v w',K v w'→K' (a.put o.dst v) w'):o.wp P a w K' Q:=by
 unfold Oper.wp;rw [hr.eval];unfold WO at h;generalize (execOp (ev e) o).run P w=r at *;cases r with
 | ok x w' =>
  cases x <;> simp only [RO] at h <;> simp only [Oper.upon]
  ·exact hk _ _ h
  ·exact hk _ _ h
  ·refine h.mono fun x w'' hx=>?_;cases x with
   | returned v=>exact hk _ _ hx
   | _=>exact hx.elim
 | halt=>exact h.elim
def q3f {ops:Array Oper} {K:Env→World→Prop} {Q:Exit→Act→World→Prop} (hd:ops.toList.all (q4v n)=true):∀ (l:List Oper),(∀ o ∈ l,q4v n o=true)→∀ (a:Act) (e:Env) (w:World),
  Rel n a e→(∀ (a':Act) (e':Env) (w':World),Rel n a' e'→(∀ i,l.any (wrO i)=false→e' i=e i)→K e' w'→Q .normal a' w')→WL P ops K l e w→wpList P ops Q l a w
 | [],_,a,e,w,hr,hq,h=>hq a e w hr (fun _ _=>rfl) h
 | o :: rest,hl,a,e,w,hr,hq,h=>by
  have hdo:=hl o List.mem_cons_self;have hput:∀ v,Rel n (a.put o.dst v) (put e o.dst v):=fun v=>hr.put o.dst v (by unfold q4v at hdo; cases hx:o.dst <;> simp_all);have hrec:∀ v w',WL P ops K rest (put e o.dst v) w'→wpList P ops Q rest (a.put o.dst v) w':=fun v w' hw=>by
   refine q3f hd rest (fun o ho=>hl o (List.mem_cons_of_mem _ ho)) _ _ _ (hput v) (fun a' e' w'' r' f' k'=>hq a' e' w'' r' (fun i hi=>?_) k') hw;simp only [List.any_cons,Bool.or_eq_false_iff] at hi;rw [f' i hi.2];unfold wrO at hi;cases hx:o.dst with
   | none=>rfl
   | some d =>
    rw [hx] at hi;have hne:i≠d:=fun he=>by subst he; simp at hi
    simp [put,upd,hne]
  simp only [WL,WG] at h;unfold wpList;rw [q30 hr hd o]
  split
  ·rename_i hw;rw [if_pos hw] at h;exact .inl (q2u hr h hrec)
  ·rename_i hw;rw [if_neg hw] at h;exact hrec _ _ h
def q3W {id:Nat} {ops:Array Oper} {Q:Exit→Env→World→Prop} {e:Env} {w:World} (h:WL P ops (Q .normal) ops.toList e w):W P n (.region id ops false) Q e w:=by
 intro hd a hr;have hd':ops.toList.all (q4v n)=true:=hd;refine wp_region_list (q3f hd' ops.toList (fun o ho=>by rw [List.all_eq_true] at hd'; exact hd' o ho) a e w hr ?_ h);intro a' e' w' r' f' k';exact ⟨e',r',f',k'⟩
end
structure Pre (R:World→World→Prop):Prop where
 refl:∀ w,R w w
 trans:∀ {a b c},R a b→R b c→R a c
 drew:∀ w k,R w { w with drawn:=k }
abbrev q21 (R:World→World→Prop):={ p:Value→World→Prop // ∀ v w w',R w w'→p v w→p v w' }
section
variable {R:World→World→Prop}
def is (v:Value):q21 R:=⟨fun x _=>x=v,fun _ _ _ _ h=>h⟩
def anyV:q21 R:=⟨fun _ _=>True,fun _ _ _ _ h=>h⟩
def look:List (Nat × q21 R)→Nat→q21 R
 | [],_=>anyV
 | (k,p) :: l,t=>if k=t then p else look l t
end
def q1N (o:Oper) (j:Nat):Bool:=o.after.toList.any fun e=>Region.binds .any e && Nat.beq e.on j
def dstIs (ops:List Oper) (j t:Nat):Bool:=match (ops[j]?).bind (·.dst) with | some d=>Nat.beq d t | none=>false
def looks (ops:Array Oper) (o:Oper) (t:Nat):Bool:=(o.looksAt ops).any (Nat.beq t)
def dep (ops:Array Oper) (o:Oper) (t:Nat):Bool:=(List.range ops.size).any fun j=>q1N o j && dstIs ops.toList j t
def q3z (ops:Array Oper) (t:Nat):Bool:=ops.toList.any (wrO t)
def q7L (ops:Array Oper):Bool :=
 (List.range ops.size).all fun i=>match ops.toList[i]? with
  | none=>true
  | some o=>(o.after.toList.all fun e=>!Region.binds .any e || decide (e.on < i)) &&
   (match o.op with | .select _ _=>false | _=>true) &&
   (List.range ops.size).all fun j=>match ops.toList[j]? with
    | none=>true
    | some p=>Nat.beq i j || ((match o.dst,p.dst with | some d,some d'=>!Nat.beq d d' | _,_=>true) &&
      (match p.dst with | some d=>!looks ops o d || q1N o j || q1N p i | none=>true))
section
variable {P:Program} {n:Nat} {R:World→World→Prop}
def q9l (P:Program) (ops:Array Oper) (R:World→World→Prop) (l:List (Nat × q21 R)) (e:Env) (w:World) (o:Oper):Prop :=
 ∀ e' w',R w w'→(∀ t,dep ops o t=true→(look l t).1 (e' t) w')→(∀ t,looks ops o t=true→dep ops o t=false→e' t=e t) →
  WG P ops o e' w' fun v w''=>R w' w''∧∀ d,o.dst=some d→(look l d).1 v w''
def q53 (P:Program) (ops:Array Oper) (R:World→World→Prop) (l:List (Nat × q21 R)) (e:Env) (w:World):List Oper→Prop
 | []=>True
 | o :: rest=>q9l P ops R l e w o∧q53 P ops R l e w rest
def q53.get {ops:Array Oper} {l:List (Nat × q21 R)} {e:Env} {w:World}:∀ {os:List Oper},q53 P ops R l e w os→∀ o ∈ os,q9l P ops R l e w o:=by
 intro os
 induction os with
 | nil=>intro _ o ho; cases ho
 | cons a rest ih =>
  intro h x hx
  rcases List.mem_cons.1 hx with hx | hx
  ·rw [hx]; exact h.1
  ·exact ih h.2 x hx
def q0l {o:Oper} {j:Nat}:q1N o j=true ↔ ∃ x ∈ o.after,Region.binds .any x=true∧x.on=j:=by
 unfold q1N;simp only [List.any_eq_true,Bool.and_eq_true,Nat.beq_eq,Array.mem_toList_iff]
def qhk {o:Oper} {t:Nat}:wrO t o=true ↔ o.dst=some t:=by
 unfold wrO; cases o.dst <;> simp
def q2f {ops:Array Oper} {t:Nat} (h:q3z ops t=false) (i:Nat) (o:Oper) (ho:ops[i]?=some o):o.dst≠some t:=by
 intro hd;have:q3z ops t=true:=by
  unfold q3z; rw [List.any_eq_true];exact ⟨o,Array.mem_toList_iff.2 (Array.mem_of_getElem? ho),qhk.2 hd⟩
 rw [h] at this; cases this
structure DOk (ops:Array Oper):Prop where
 down:∀ (i:Nat) (o:Oper) (x:Edge),ops[i]?=some o→x ∈ o.after→Region.binds .any x=true→x.on < i
 one:∀ (i j:Nat) (o p:Oper) (d:Nat),ops[i]?=some o→ops[j]?=some p→i≠j→o.dst=some d→p.dst≠some d
 seen:∀ (i j:Nat) (o p:Oper) (d:Nat),ops[i]?=some o→ops[j]?=some p→i≠j→p.dst=some d→looks ops o d=true→q1N o j=true∨q1N p i=true
def DOk.of {ops:Array Oper} (h:q7L ops=true):DOk ops:=by
 unfold q7L at h;rw [List.all_eq_true] at h;have h1:∀ i o,ops[i]?=some o→_:=fun i o ho=>h i (List.mem_range.2 (Array.getElem?_eq_some_iff.1 ho).1);refine ⟨fun i o x ho hx hb=>?_,fun i j o p d ho hp hne hd hd'=>?_,fun i j o p d ho hp hne hd hl=>?_⟩
 ·have:=h1 i o ho;rw [Array.getElem?_toList,ho] at this;simp only [Bool.and_eq_true,List.all_eq_true] at this;have:=this.1.1 x (Array.mem_toList_iff.2 hx);simpa [hb] using this
 ·have:=h1 i o ho;rw [Array.getElem?_toList,ho] at this;simp only [Bool.and_eq_true,List.all_eq_true] at this;have:=this.2 j (List.mem_range.2 (Array.getElem?_eq_some_iff.1 hp).1);rw [Array.getElem?_toList,hp] at this;simp [hd,hd',hne] at this
 ·have:=h1 i o ho;rw [Array.getElem?_toList,ho] at this;simp only [Bool.and_eq_true,List.all_eq_true] at this;have:=this.2 j (List.mem_range.2 (Array.getElem?_eq_some_iff.1 hp).1);rw [Array.getElem?_toList,hp] at this;simp only [hd,hl,Bool.or_eq_true,Nat.beq_eq,Bool.and_eq_true] at this
  rcases this with this | ⟨_,this⟩
  ·exact absurd this hne
  ·simpa using this
def q0L {listed:Array Bool} {i j:Nat} (hi:i < listed.size) {b:Bool}:(listed.setIfInBounds i true).getD j b=if i=j then true else listed.getD j b:=by
 simp only [Array.getD_eq_getD_getElem?,Array.getElem?_setIfInBounds]
 by_cases h:i=j
 ·subst h; simp [hi]
 ·simp [h]
def qek:List Oper→Oper
 | []=>default
 | [o]=>o
 | _ :: o :: os=>qek (o :: os)
def qcD {o:Oper}:qek [o]=o:=rfl
def qaJ {o p:Oper} {os:List Oper}:qek (o :: p :: os)=qek (p :: os):=rfl
end
def q1r {α:Type} (o:Option α) (K:α→Prop):Prop:=match o with | some a=>K a | none=>False
def q2G {α:Type} (a:α) (K:α→Prop):q1r (some a) K=K a:=rfl
def q0n (op:BinOp) (k:IntKind) (a b:Int):Int :=
 match op with
 | .and=>k.wrap (BitVec.ofInt k.bits a &&& BitVec.ofInt k.bits b).toNat
 | .or=>k.wrap (BitVec.ofInt k.bits a ||| BitVec.ofInt k.bits b).toNat
 | .xor=>k.wrap (BitVec.ofInt k.bits a ^^^ BitVec.ofInt k.bits b).toNat
 | _=>k.wrap (BitVec.ofInt k.bits a &&& ~~~(BitVec.ofInt k.bits b)).toNat
def q2M (op:BinOp) (k:IntKind) (a b:Int):Option Value :=
 match op with
 | .add=>some (.int k (k.wrap (a+b)))
 | .sub=>some (.int k (k.wrap (a-b)))
 | .mul=>some (.int k (k.wrap (a*b)))
 | .quo=>if b=0 then none else some (.int k (k.wrap (a.tdiv b)))
 | .rem=>if b=0 then none else some (.int k (a.tmod b))
 | .and=>some (.int k (q0n .and k a b))
 | .or=>some (.int k (q0n .or k a b))
 | .xor=>some (.int k (q0n .xor k a b))
 | .andNot=>some (.int k (q0n .andNot k a b))
 | .eql=>some (.bool (a == b))
 | .neq=>some (.bool (a != b))
 | .lss=>some (.bool (decide (a < b)))
 | .leq=>some (.bool (decide (a≤b)))
 | .gtr=>some (.bool (decide (a > b)))
 | .geq=>some (.bool (decide (a ≥ b)))
 | _=>none
def q6L (op:BinOp) (k k':IntKind) (a b:Int):Option Value :=
 match op with
 | .shl=>if b < 0 then none else some (.int k (k.wrap (a*2 ^ (min b.toNat k.bits))))
 | .shr=>if b < 0 then none else some (.int k (a.fdiv (2 ^ (min b.toNat k.bits))))
 | op=>if k=k' then q2M op k a b else none
def qcj (P:Program) (t:TypeId):Bool:=!P.stoodInHeld t && !P.eqGuardType P.depth t && match P.underlying t with
 | some (.struct fs)=>match fs.toList with
  | [f, g] => f.name != "_" && g.name != "_" && f.offset == 0 && g.offset == 1 && (match P.underlying f.type, P.underlying g.type with | some (.int _), some (.int _) => true | _, _ => false) && (match P.info? f.type, P.info? g.type with | some i, some j => i.size == 1 && j.size == 1 | _, _ => false)
  | _=>false
 | _=>false
def prV:List Value→Option (IntKind × Int × IntKind × Int)
 | [.int k a,.int l b]=>some (k,a,l,b)
 | _=>none
def q0f (P:Program) (op:BinOp) (t:TypeId):Value→Value→Option Value
 | .int k a,.int k' b=>q6L op k k' a b
 | .bool a,.bool b=>match op,P.underlying t with
  | .eql,some .bool=>some (.bool (a == b))
  | .neq,some .bool=>some (.bool (a != b))
  | _,_=>none
 | .slice a _ _,.slice none _ _=>match op,P.underlying t with
  | .eql,some (.slice _)=>some (.bool a.isNone)
  | .neq,some (.slice _)=>some (.bool a.isSome)
  | _,_=>none
 | .agg xs,.agg ys=>if qcj P t=true then match prV xs.toList,prV ys.toList with
  | some (k,a,l,b),some (k',c,l',d)=>if k=k'∧l=l' then (match op with | .eql=>some (.bool (a == c && b == d)) | .neq=>some (.bool !(a == c && b == d)) | _=>none) else none
  | _,_=>none
  else none
 | _,_=>none
def unV (op:UnOp):Value→Option Value
 | .bool b=>match op with | .not=>some (.bool !b) | _=>none
 | .int k n=>match op with | .neg=>some (.int k (k.wrap (0-n))) | _=>none
 | _=>none
def qa0 (s d:Option TypeDesc):Value→Option Value
 | .int _ n=>match s,d with | some _,some (.int k)=>some (.int k (k.wrap n)) | _,_=>none
 | _=>none
def q04 (P:Program) (t:TypeId):Option (Option Nat) :=
 match P.underlying t,P.info? t with
 | some (.struct _),some i=>some (some i.size)
 | some (.array _ _),some i=>some (some i.size)
 | some _,some _=>some none
 | _,_=>none
def q0Y (P:Program) (t:TypeId) (f:Nat):Option Nat :=
 match P.underlying t with
 | some (.struct fs)=>match fs[f]? with
  | some d=>match P.info? d.type with | some i=>if i.size=0 then none else some d.offset | none=>none
  | none=>none
 | _=>none
def q0b (P:Program) (t:TypeId):Option Nat :=
 match P.underlying t with
 | some (.slice e)=>(P.info? e).map (·.size)
 | _=>none
def q00 (P:Program) (t:TypeId):Option (TypeId × Nat × Nat × Array Value) :=
 match P.underlying t with
 | some (.slice e)=>(P.info? e).bind fun i=>i.zero.map fun z=>(e,i.size,i.bytes,z.cells)
 | _=>none
def q1c (P:Program) (t:TypeId):Option (Array Value):=match P.info? t with | some i=>i.zero.map (·.cells) | none=>none
def q0X (P:Program) (t:TypeId):Option Nat:=(P.info? t).map (·.size)
def q0c (w:World) (p:Addr):Nat→Nat→Option (List Value)
 | _,0=>some []
 | i,k+1=>match w.cell? (p.add i),q0c w p (i+1) k with | some v,some l=>some (v :: l) | _,_=>none
def ldV (w:World) (k:Option (Option Nat)):Value→Option Value
 | .pointer (some p)=>match k with
  | some none=>w.cell? p
  | some (some k)=>(q0c w p 0 k).map fun l=>.agg l.toArray
  | none=>none
 | _=>none
def stN (w:World) (p:Addr):Nat→List Value→World
 | _,[]=>w
 | i,v :: vs=>stN (w.setCell (p.add i) v) p (i+1) vs
def stOk (w:World) (p:Addr):Nat→List Value→Prop
 | _,[]=>True
 | i,v :: vs=>(w.cell? (p.add i)).isSome=true∧w.frozen? (p.add i)=false∧v.oneCell'=true∧stOk w p (i+1) vs
def qa3 (P:Program) (t:TypeId):Option (Nat × Nat) :=
 match P.underlying t with
 | some (.array n e)=>(P.info? e).map fun i=>(n,i.size)
 | _=>none
def qen (sz:Option Nat) (ar:Option (Nat × Nat)):Value→Value→Option Value
 | .slice (some a) n _,.int _ i=>match sz with | some s=>if 0≤i∧i < n then some (.pointer (some (a.add (i.toNat*s)))) else none | none=>none
 | .pointer (some a),.int _ i=>match ar with | some (n,s)=>if 0≤i∧i < n then some (.pointer (some (a.add (i.toNat*s)))) else none | none=>none
 | _,_=>none
def q26 (y:Nat):Option Value→Nat→Option Nat
 | none,d=>some d
 | some (.int _ i),_=>if 0≤i∧i≤y then some i.toNat else none
 | some _,_=>none
def q12 (sz:Option Nat) (lo hi:Option Value):Value→Option Value
 | .slice a n c=>match sz,q26 c hi n with
  | some s,some h=>match q26 h lo 0 with
   | some l=>some (.slice (if c=l then a else a.map (·.add (l*s))) (h-l) (c-l))
   | none=>none
  | _,_=>none
 | _=>none
def qni (sz:Option Nat):Value→Option Value
 | .slice _ n _=>match sz with | some _=>some (.int .i64 n) | none=>none
 | _=>none
def qgz (i:Nat):Value→Option Value
 | .tuple vs=>vs[i]?
 | _=>none
def bsV (P:Program) (t:TypeId) (len:Nat) (parts:List (Nat × Value)):Option (TypeId × Array Value) :=
 match q00 P t with
 | some (e,s,_,z)=>if len*s=0 then (if parts.isEmpty then some (e,#[]) else none) else if len*s > 16777216 then none else (Instr.fill (fun i=>some (i*s,s)) ((Array.range (len*s)).map (z[· % z.size]!)) parts).map fun cs=>(e,cs)
 | none=>none
def mmV (isMax:Bool):List Value→Option Value
 | [.int k a,.int k' b]=>if k=k' then some (.int k (if isMax then max a b else min a b)) else none
 | _=>none
def q0F (P : Program) (f : FuncId) : Bool := match P.funcs[f]? with | some fn => fn.body.isSome && !(fn.name == "runtime.NumGoroutine") | none => false
def wo (P:Program) (o:Oper) (e:Env) (w:World) (K:Value→World→Prop):Prop :=
 match o.op with
 | .move x=>K (ev e x) w
 | .assign x=>K (ev e x) w
 | .pick c a b=>match ev e c with | .bool true=>K (ev e a) w | .bool false=>K (ev e b) w | _=>False
 | .alloc t=>q1r (q1c P t) fun z=>K (.pointer (some ⟨w.heap.size,0,none⟩)) (w.alloc (.cells z t))
 | .box t x=>K (.pointer (some ⟨w.heap.size,0,none⟩)) (w.alloc (.cells (ev e x).cells t))
 | .build t ps=>q1r (P.built t (ps.map fun (i,x)=>(i,ev e x)).toList) fun cs=>K (.agg cs) w
 | .buildSlice t len ps=>q1r (bsV P t len (ps.map fun (i,x)=>(i,ev e x)).toList) fun (el,cs)=>K (.slice (some ⟨w.heap.size,0,none⟩) len len) (w.alloc (.cells cs el))
 | .load t a=>q1r (ldV w (q04 P t) (ev e a)) fun v=>K v w
 | .store t a x=>match ev e a with
  | .pointer (some p)=>q0X P t=some (ev e x).cells.size∧stOk w p 0 (ev e x).cells.toList∧K undef (stN w p 0 (ev e x).cells.toList)
  | _=>False
 | .binOp op t x y _=>q1r (q0f P op t (ev e x) (ev e y)) fun v=>K v w
 | .unOp op _ x=>q1r (unV op (ev e x)) fun v=>K v w
 | .convert s d x=>q1r (qa0 (P.underlying s) (P.underlying d) (ev e x)) fun v=>K v w
 | .fieldAddr t x f=>match ev e x with
  | .pointer (some p)=>q1r (q0Y P t f) fun off=>K (.pointer (some (p.add off))) w
  | _=>False
 | .indexAddr t x i=>q1r (qen (q0b P t) (qa3 P t) (ev e x) (ev e i)) fun v=>K v w
 | .slice t x lo hi none=>q1r (q12 (q0b P t) (lo.map (ev e)) (hi.map (ev e)) (ev e x)) fun v=>K v w
 | .makeSlice t l c=>match ev e l,ev e c with
  | .int _ l,.int _ c=>q1r (q00 P t) fun (el,s,b,z)=>(0≤l∧l≤c∧(b:Int)*c≤281474976710656∧c≤9223372036854775807)∧K (.slice (some ⟨w.heap.size,0,none⟩) l.toNat c.toNat) (w.alloc (.cells (madeCells z (c.toNat*s)) el))
  | _,_=>False
 | .nilCheck x=>match ev e x with
  | .pointer (some p)=>K (.pointer (some p)) w
  | _=>False
 | .extract x i=>q1r (qgz i (ev e x)) fun v=>K v w
 | .call c=>match c.callee with
  | .builtin .len=>match c.args.toList,c.argTypes.toList with
   | [x],[t]=>q1r (qni (q0b P t) (ev e x)) fun v=>K v w
   | _,_=>False
  | .builtin .max=>q1r (mmV true (c.args.toList.map (ev e))) fun v=>K v w
  | .builtin .min=>q1r (mmV false (c.args.toList.map (ev e))) fun v=>K v w
  | .value (.func f)=>q0F P f=true∧Calls P f (c.args.map (ev e)) w fun x w'=>match x with | .returned v=>K v w' | _=>False
  | _=>WO P o e w K
 | _=>WO P o e w K
section
variable {P:Program} {o:Oper} {e:Env} {w:World} {K:Value→World→Prop}
def q0M {α:Type} {o:Option α} {K:α→Prop} (h:q1r o K):∃ a,o=some a∧K a:=by
 cases o with
 | none=>exact h.elim
 | some a=>exact ⟨a,rfl,h⟩
def q40 (w:World) (p:Addr):∀ (k i:Nat) (l:List Value) (acc:Array Value),q0c w p i k=some l→(loadCellsFrom p i k acc).run P w=.ok (acc ++ l.toArray) w
 | 0,i,l,acc,h=>by simp [q0c] at h; subst h; simp [loadCellsFrom]
 | k+1,i,l,acc,h=>by
  simp only [q0c] at h;cases hc:w.cell? (p.add i) with
  | none=>simp [hc] at h
  | some v =>
   cases hr:q0c w p (i+1) k with
   | none=>simp [hc,hr] at h
   | some l' =>
    simp [hc,hr] at h;subst h;have:=q40 w p k (i+1) l' (acc.push v) hr;simp only [loadCellsFrom,Sem.run_bind,run_load,hc,Result.andThen,this];simp
def qbT (P:Program) (p:Addr):∀ (vs:List Value) (i:Nat) (w:World),stOk w p i vs→(storeCells p vs i).run P w=.ok () (stN w p i vs)
 | [],i,w,_=>by simp [storeCells,stN]
 | v :: vs,i,w,⟨h1,h2,h3,h4⟩=>by
  have hkeep:∀ (vs:List Value) (j:Nat),i < j→stOk w p j vs→stOk (w.setCell (p.add i) v) p j vs:=by
   intro vs
   induction vs with
   | nil=>intro _ _ _; exact trivial
   | cons u vs ih =>
    rintro j hj ⟨a1,a2,a3,a4⟩;have hne:p.add i≠p.add j:=fun he=>by
     unfold Addr.add at he
     split at he <;> split at he <;> first | omega | (have:=congrArg Addr.off he; simp at this; omega)
    refine ⟨?_,by rw [World.frozen?_setCell]; exact a2,a3,ih (j+1) Oq a4⟩;rw [World.cell?_setCell_other _ _ _ _ hne];exact a1
  have ih:=qbT P p vs (i+1) (w.setCell (p.add i) v) (hkeep vs (i+1) Oq h4);obtain ⟨u,hu⟩:=Option.isSome_iff_exists.1 h1;have hst:(store (p.add i) v).run P w=.ok () (w.setCell (p.add i) v):=by
   rw [run_store P w _ v _ h3];simp [hu,h2]
  simp only [storeCells,Sem.run_bind,hst,Result.andThen_ok,ih,stN]
def q5M {t:TypeId} {a b:Bool} (w:World) (hu:P.underlying t=some .bool):(Op.equal t (.bool a) (.bool b)).run P w=.ok (a == b) w:=by
 have h:∀ d:Nat,(Op.equalIn (d+1) t (.bool a) (.bool b)).run P w=.ok (a == b) w:=fun d=>by
  simp [Op.equalIn,run_underlying hu]
 exact h 9999
def q6j {t el:TypeId} {a:Option Addr} {n c n' c':Nat} (w:World) (hu:P.underlying t=some (.slice el)):(Op.equal t (.slice a n c) (.slice none n' c')).run P w=.ok a.isNone w:=by
 have h:∀ d:Nat,(Op.equalIn (d+1) t (.slice a n c) (.slice none n' c')).run P w=.ok a.isNone w:=fun d=>by
  cases a <;> simp [Op.equalIn,run_underlying hu]
 exact h 9999
def q6k {t:TypeId} {k0 k:IntKind} {a b:Int} (w:World) (hu:P.underlying t=some (.int k0)) (d:Nat):(Op.equalIn (d+1) t (.int k a) (.int k b)).run P w=.ok (a == b) w:=by
 simp [Op.equalIn,run_underlying hu]
def q5L {t:TypeId} {k l:IntKind} {a b c d:Int} (w:World) (h:qcj P t=true):(Op.equal t (.agg #[.int k a,.int l b]) (.agg #[.int k c,.int l d])).run P w=.ok (a == c && b == d) w:=by
 unfold qcj at h;simp only [Bool.and_eq_true] at h;obtain ⟨⟨h1,h2⟩,h3⟩:=h
 split at h3
 case h_2=>cases h3
 rename_i fs hu
 split at h3
 case h_2=>cases h3
 rename_i f g hfs;simp only [Bool.and_eq_true] at h3;obtain ⟨⟨⟨⟨⟨n1,n2⟩,o1⟩,o2⟩,u⟩,s⟩:=h3
 split at u
 case h_2=>cases u
 rename_i k1 k2 u1 u2
 split at s
 case h_2=>cases s
 rename_i i j i1 i2;have hfs2:fs=#[f,g]:=by cases fs; simp at hfs; subst hfs; rfl
 subst hfs2;have e:∀ dd:Nat,(Op.equalIn (dd+2) t (.agg #[.int k a,.int l b]) (.agg #[.int k c,.int l d])).run P w=.ok (a == c && b == d) w:=fun dd=>by
  have x1:=fun w=>q6k (k:=k) (a:=a) (b:=c) w u1 dd;have x2:=fun w=>q6k (k:=l) (a:=b) (b:=d) w u2 dd;have h1:P.stoodInHeld t=false:=by simpa using h1
  have n1 : f.name ≠ "_" := by simpa using n1
  have n2 : g.name ≠ "_" := by simpa using n2
  have o1:f.offset=0:=by simpa using o1
  have o2:g.offset=1:=by simpa using o2
  have p1:∀ (v u:Value) (w:World),(part f.type #[v,u] 0).run P w=.ok v w:=fun v u w=>by simp [part,isAgg,run_underlying u1]
  have p2:∀ (v u:Value) (w:World),(part g.type #[v,u] 1).run P w=.ok u w:=fun v u w=>by simp [part,isAgg,run_underlying u2]
  rw [Op.equalIn];simp only [Sem.run_bind,run_underlying hu,Result.andThen_ok];cases e1:(a == c) <;> cases e2:(b == d) <;> simp [h1,n1,n2,o1,o2,p1,p2,x1,x2,e1,e2]
 exact e 9998
def qf7 {op:BinOp} {t:TypeId} {x y:Operand} {xs ys:Array Value} (w:World) (h:qcj P t=true):(eqGuard op t x y (.agg xs) (.agg ys)).run P w=.ok () w:=by
 unfold qcj at h;simp only [Bool.and_eq_true] at h;obtain ⟨⟨h1,h2⟩,h3⟩:=h;have h2:P.eqGuardType P.depth t=false:=by simpa using h2
 unfold eqGuard;cases op <;> simp [h2]
def qgg {xs:Array Value} {k l:IntKind} {a b:Int} (h:prV xs.toList=some (k,a,l,b)):xs=#[.int k a,.int l b]:=by
 cases xs with
 | mk xs =>
  unfold prV at h
  split at h
  ·rename_i q;cases h;simp at q;subst q; rfl
  ·cases h
def qeR {op : BinOp} {t : TypeId} {x y : Operand} {vx vy v : Value} (w : World) (hv : q0f P op t vx vy = some v) :
    (do eqGuard op t x y vx vy; binOp op t vx vy : Sem Value).run P w = .ok v w := by
  unfold q0f at hv
  split at hv
  · rename_i k a k' b
    unfold q6L at hv
    have hg : (eqGuard op t x y (.int k a) (.int k' b)).run P w = .ok () w := by
      unfold eqGuard; cases op <;> simp
    rw [Sem.run_bind, hg, Result.andThen_ok]
    split at hv
    · split at hv
      · cases hv
      · rename_i hb; obtain rfl := Option.some.inj hv; simp [binOp, Op.shift, hb]
    · split at hv
      · cases hv
      · rename_i hb; obtain rfl := Option.some.inj hv; simp [binOp, Op.shift, hb]
    · rename_i hs1 hs2
      split at hv
      · rename_i hk
        subst hk
        cases op <;> simp only [q2M] at hv <;> first
          | exact absurd rfl hs1
          | exact absurd rfl hs2
          | (split at hv
             · cases hv
             · rename_i hb; obtain rfl := Option.some.inj hv; simp [binOp, Op.intDiv, hb])
          | (obtain rfl := Option.some.inj hv; simp [binOp, Op.intArith, Op.intBits, Op.intCmp, q0n])
          | cases hv
      · cases hv
  · rename_i a b
    split at hv
    · rename_i hu
      obtain rfl := Option.some.inj hv
      have hg : (eqGuard .eql t x y (.bool a) (.bool b)).run P w = .ok () w := by unfold eqGuard; simp
      rw [Sem.run_bind, hg, Result.andThen_ok]
      have hb : binOp .eql t (.bool a) (.bool b) = (do pure (.bool (← Op.equal t (.bool a) (.bool b))) : Sem Value) := rfl
      rw [hb, Sem.run_bind, q5M w hu]
      rfl
    · rename_i hu
      obtain rfl := Option.some.inj hv
      have hg : (eqGuard .neq t x y (.bool a) (.bool b)).run P w = .ok () w := by unfold eqGuard; simp
      rw [Sem.run_bind, hg, Result.andThen_ok]
      have hb : binOp .neq t (.bool a) (.bool b) = (do pure (.bool (!(← Op.equal t (.bool a) (.bool b)))) : Sem Value) := rfl
      rw [hb, Sem.run_bind, q5M w hu]
      rfl
    · cases hv
  · rename_i a n c n' c'
    split at hv
    · rename_i hu
      obtain rfl := Option.some.inj hv
      have hg : (eqGuard .eql t x y (.slice a n c) (.slice none n' c')).run P w = .ok () w := by unfold eqGuard; simp
      rw [Sem.run_bind, hg, Result.andThen_ok]
      have hb : binOp .eql t (.slice a n c) (.slice none n' c') = (do pure (.bool (← Op.equal t (.slice a n c) (.slice none n' c'))) : Sem Value) := rfl
      rw [hb, Sem.run_bind, q6j w hu]
      rfl
    · rename_i hu
      obtain rfl := Option.some.inj hv
      have hg : (eqGuard .neq t x y (.slice a n c) (.slice none n' c')).run P w = .ok () w := by unfold eqGuard; simp
      rw [Sem.run_bind, hg, Result.andThen_ok]
      have hb : binOp .neq t (.slice a n c) (.slice none n' c') = (do pure (.bool (!(← Op.equal t (.slice a n c) (.slice none n' c')))) : Sem Value) := rfl
      rw [hb, Sem.run_bind, q6j w hu]
      cases a <;> rfl
    · cases hv
  · rename_i xs ys
    split at hv
    case isFalse => cases hv
    rename_i hk
    split at hv
    case h_2 => cases hv
    rename_i k a l b k' c l' d hx hy
    have ex := qgg hx
    have ey := qgg hy
    subst ex; subst ey
    split at hv
    case isFalse => cases hv
    rename_i hkk
    obtain ⟨rfl, rfl⟩ := hkk
    rw [Sem.run_bind, qf7 w hk, Result.andThen_ok]
    split at hv
    · obtain rfl := Option.some.inj hv
      have hb : binOp .eql t (.agg #[.int k a, .int l b]) (.agg #[.int k c, .int l d]) = (do pure (.bool (← Op.equal t (.agg #[.int k a, .int l b]) (.agg #[.int k c, .int l d]))) : Sem Value) := rfl
      rw [hb, Sem.run_bind, q5L w hk]
      rfl
    · obtain rfl := Option.some.inj hv
      have hb : binOp .neq t (.agg #[.int k a, .int l b]) (.agg #[.int k c, .int l d]) = (do pure (.bool (!(← Op.equal t (.agg #[.int k a, .int l b]) (.agg #[.int k c, .int l d])))) : Sem Value) := rfl
      rw [hb, Sem.run_bind, q5L w hk]
      rfl
    · cases hv
  · cases hv
def q1T {y d h:Nat} (hv:q26 y none d=some h):d=h:=Option.some.inj hv
def q0w {w:World} {y d h:Nat} {v:Value} (code:BoundsCode) (hv:q26 y (some v) d=some h):(Instr.sliceBound v y code).run P w=.ok h w:=by
 cases v <;> simp only [q26] at hv <;> try (cases hv; done)
 split at hv
 ·rename_i hb;obtain rfl:=Option.some.inj hv;exact run_sliceBound w _ _ _ _ hb.1 hb.2
 ·cases hv
def q9x {t:TypeId} {lo hi:Option Value} {x v:Value} (w:World) (hv:q12 (q0b P t) lo hi x=some v) :
  ∃ el,P.underlying t=some (.slice el)∧∃ i,P.info? el=some i∧(Instr.sliceAt t x lo hi none).run P w=.ok v w:=by
 unfold q12 at hv
 split at hv
 ·rename_i a n c
  split at hv
  ·rename_i s h hs hh
   split at hv
   ·rename_i l hl;obtain rfl:=Option.some.inj hv;unfold q0b at hs
    split at hs
    ·rename_i el hu;obtain ⟨i,hi',hsz⟩:=Option.map_eq_some_iff.1 hs;refine ⟨el,hu,i,hi',?_⟩;have hsize:(sizeOf el).run P w=.ok s w:=by simp [sizeOf,typeInfo,hi',hsz]
     have hb:(Instr.sliceBounds true n c lo hi none).run P w=.ok (l,h,c) w:=by
      unfold Instr.sliceBounds;cases hi with
      | none =>
       obtain rfl:=q1T hh;cases lo with
       | none=>obtain rfl:=q1T hl; simp
       | some lv=>simp [q0w (P:=P) (w:=w) .sliceB hl]
      | some hv' =>
       cases lo with
       | none=>obtain rfl:=q1T hl; simp [q0w (P:=P) (w:=w) .sliceAcap hh]
       | some lv=>simp [q0w (P:=P) (w:=w) .sliceAcap hh,q0w (P:=P) (w:=w) .sliceB hl]
     simp [Instr.sliceAt,Instr.slice,run_underlying hu,hb,hsize]
    ·cases hs
   ·cases hv
  ·cases hv
 ·cases hv
def q9y {t:TypeId} {f off:Nat} (w:World) (p:Addr) (h:q0Y P t f=some off):(Instr.fieldAt t (.pointer (some p)) f).run P w=.ok (.pointer (some (p.add off))) w:=by
 unfold q0Y at h
 split at h
 ·rename_i fs hu
  split at h
  ·rename_i d hd
   split at h
   ·rename_i i hi
    split at h
    ·cases h
    ·rename_i hn;obtain rfl:=Option.some.inj h;simp [Instr.fieldAt,run_underlying hu,hd,Instr.sureAddr,fieldPlace,sizeOf,typeInfo,hi,hn]
   ·cases h
  ·cases h
 ·cases h
def qeQ {t:TypeId} {x i v:Value} (w:World) (h:qen (q0b P t) (qa3 P t) x i=some v):(Instr.indexAt t x i).run P w=.ok v w:=by
 unfold qen at h
 split at h
 ·split at h
  ·rename_i s hs
   split at h
   ·rename_i hb;obtain rfl:=Option.some.inj h;unfold q0b at hs
    split at hs
    ·rename_i el hu;obtain ⟨i,hi,hsz⟩:=Option.map_eq_some_iff.1 hs;simp [Instr.indexAt,asIntOf,run_underlying hu,hb,sizeOf,typeInfo,hi,hsz]
    ·cases hs
   ·cases h
  ·cases h
 ·split at h
  ·rename_i n s hs
   split at h
   ·rename_i hb;obtain rfl:=Option.some.inj h;unfold qa3 at hs
    split at hs
    ·rename_i n' el hu;obtain ⟨i,hi,hsz⟩:=Option.map_eq_some_iff.1 hs;cases hsz;simp [Instr.indexAt,Instr.sureAddr,asIntOf,run_underlying hu,hb,sizeOf,typeInfo,hi]
    ·cases hs
   ·cases h
  ·cases h
 ·cases h
def q85 (h:wo P o e w K):WO P o e w K:=by
 unfold wo at h;unfold WO;obtain ⟨dst,op,ty,pos,af,g⟩:=o;cases op <;> try exact h
 case pick c a b =>
  simp only [] at h;simp only [execOp,Sem.run_bind]
  split at h
  ·rename_i hc; rw [hc]; exact h
  ·rename_i hc; rw [hc]; exact h
  ·exact h.elim
 case alloc t =>
  obtain ⟨z,hz,h⟩:=q0M h;unfold q1c at hz;cases hi:P.info? t with
  | none=>rw [hi] at hz; cases hz
  | some i =>
   rw [hi] at hz;cases hzz:i.zero with
   | none=>simp [hzz] at hz
   | some v =>
    simp [hzz] at hz;subst hz;simp [execOp,Instr.alloc,zeroValue,typeInfo,hi,hzz,newVar,newRow,RO];exact h
 case build t ps =>
  obtain ⟨z,hz,h⟩:=q0M h;have:=run_build (P:=P) w t (ps.map fun (i,x)=>(i,ev e x)) z hz;simp only [execOp,Sem.run_bind,this];exact h
 case buildSlice t len ps =>
  obtain ⟨z,hz,h⟩:=q0M h;unfold bsV q00 at hz;cases hu:P.underlying t with
  | none=>simp [hu] at hz
  | some d =>
   cases d with
   | slice el =>
    cases hi:P.info? el with
    | none=>simp [hu,hi] at hz
    | some i =>
     cases hzz:i.zero with
     | none=>simp [hu,hi,hzz] at hz
     | some v =>
      simp only [hu,hi,hzz,Option.bind_some,Option.map_some] at hz;have e1:(sizeOf el).run P w=.ok i.size w:=by simp [sizeOf,typeInfo,hi]
      have e2:(zeroValue el).run P w=.ok v w:=by simp [zeroValue,typeInfo,hi,hzz]
      have hrun:(Instr.buildSlice t len (ps.map fun (i,x)=>(i,ev e x))).run P w=.ok (.slice (some ⟨w.heap.size,0,none⟩) len len) (w.alloc (.cells z.2 z.1)):=by
       unfold Instr.buildSlice;rw [Sem.run_bind,run_underlying hu,Result.andThen_ok];simp only [];rw [Sem.run_bind,e1,Result.andThen_ok]
       split at hz
       ·rename_i h0
        split at hz
        ·rename_i hp;obtain rfl:=Option.some.inj hz;have hp':(ps.map fun (i,x)=>(i,ev e x)).toList=[]:=by simpa using hp
         have h2':¬ len*i.size > 2 ^ 24:=by omega
         rw [if_neg h2',if_pos h0];simp only [pure_bind];have hr0:Array.range 0=#[]:=rfl;rw [hp',h0,hr0];simp [Instr.fill,newRow]
        ·cases hz
       ·rename_i h1
        split at hz
        ·cases hz
        ·rename_i h2;have h2':¬ len*i.size > 2 ^ 24:=by simpa using h2
         obtain ⟨cs,hcs,rfl⟩:=Option.map_eq_some_iff.1 hz;rw [if_neg h2',if_neg h1];simp only [pure_bind,Sem.run_bind,e2,Result.andThen_ok];rw [hcs];simp [newRow]
      simp only [execOp,Sem.run_bind,hrun];exact h
   | _=>simp [hu] at hz
 case load t a =>
  obtain ⟨v,hv,h⟩:=q0M h;have key:(Instr.loadAt t (ev e a)).run P w=.ok v w:=by
   generalize ev e a=va at *;unfold ldV at hv
   split at hv
   ·rename_i p
    split at hv
    ·rename_i hk;unfold q04 at hk;have hagg:(isAgg t).run P w=.ok false w:=by
      unfold isAgg;cases hu:P.underlying t with
      | none=>simp [hu] at hk
      | some d =>
       rw [Sem.run_bind,run_underlying hu w];cases hi:P.info? t <;> cases d <;> simp_all
     simp [Instr.loadAt,Instr.sureAddr,loadVar,hagg,hv]
    ·rename_i k hk;unfold q04 at hk;obtain ⟨l,hl,rfl⟩:=Option.map_eq_some_iff.1 hv;have hagg:(isAgg t).run P w=.ok true w∧(sizeOf t).run P w=.ok k w:=by
      unfold isAgg sizeOf typeInfo;cases hu:P.underlying t with
      | none=>simp [hu] at hk
      | some d =>
       rw [Sem.run_bind,run_underlying hu w];cases hi:P.info? t <;> cases d <;> simp_all
     have hrun:=q40 (P:=P) w p k 0 l #[] hl;simp [Instr.loadAt,Instr.sureAddr,loadVar,hagg.1,hagg.2,loadCells,hrun]
    ·cases hv
   ·cases hv
  simp only [execOp,Sem.run_bind,key];exact h
 case store t a x =>
  simp only [] at h
  split at h
  ·rename_i p hp;obtain ⟨h1,h2,h3⟩:=h;unfold q0X at h1;obtain ⟨i,hi,hs⟩:=Option.map_eq_some_iff.1 h1;have hrun:=qbT P p (ev e x).cells.toList 0 w h2;simp [execOp,Instr.storeAt,Instr.sureAddr,storeVar,sizeOf,typeInfo,hi,hs,hp,hrun,RO];exact h3
  ·exact h.elim
 case nilCheck x =>
  simp only [] at h
  split at h
  ·rename_i p hp; simp [execOp,hp,RO]; exact h
  ·exact h.elim
 case binOp op t x y t' =>
  obtain ⟨v,hv,h⟩:=q0M h;have key:=qeR (P:=P) (x:=x) (y:=y) w hv;simp only [execOp];rw [Sem.run_bind,key];exact h
 case unOp op t x =>
  obtain ⟨v,hv,h⟩:=q0M h;unfold unV at hv
  split at hv
  ·rename_i hx
   split at hv
   ·obtain rfl:=Option.some.inj hv;simp [execOp,hx,Op.unary,RO]; exact h
   ·cases hv
  ·rename_i hx
   split at hv
   ·obtain rfl:=Option.some.inj hv;simp only [execOp,hx,Op.unary,Op.intArith,Sem.run_bind]; exact h
   ·cases hv
  ·cases hv
 case convert s d x =>
  obtain ⟨v,hv,h⟩:=q0M h;unfold qa0 at hv
  split at hv
  ·rename_i k0 n0 hx
   split at hv
   ·rename_i sd k hs hd;obtain rfl:=Option.some.inj hv;have key:(convert s d (ev e x)).run P w=.ok (.int k (k.wrap n0)) w:=by
     rw [hx]; simp [convert,run_underlying hs,run_underlying hd,Conv.intToInt]
    simp only [execOp,Sem.run_bind,key];exact h
   ·cases hv
  ·cases hv
 case makeSlice t l c =>
  simp only [] at h
  split at h
  ·rename_i kl l' kc c' hl hc;obtain ⟨⟨el,s,b,z⟩,hz,⟨h0,h1,h2,h3⟩,h⟩:=q0M h;unfold q00 at hz;cases hu:P.underlying t with
   | none=>simp [hu] at hz
   | some d =>
    cases d with
    | slice el' =>
     cases hi:P.info? el' with
     | none=>simp [hu,hi] at hz
     | some i =>
      cases hzz:i.zero with
      | none=>simp [hu,hi,hzz] at hz
      | some v =>
       simp [hu,hi,hzz] at hz;obtain ⟨rfl,rfl,rfl,rfl⟩:=hz;have:=run_make (P:=P) w t el' i v hu hi hzz kl kc l' c' h0 h1 h2 h3;simp only [execOp,hl,hc,Sem.run_bind,this];exact h
    | _=>simp [hu] at hz
  ·exact h.elim
 case slice t x lo hi mx =>
  cases mx with
  | some _=>exact h
  | none =>
   obtain ⟨v,hv,h⟩:=q0M h;obtain ⟨el,hu,i,hi',hrun⟩:=q9x (P:=P) w hv;simp only [execOp,Sem.run_bind,Option.map_none,hrun];exact h
 case fieldAddr t x f =>
  simp only [] at h
  split at h
  ·rename_i p hp;obtain ⟨off,ho,h⟩:=q0M h;have key:=q9y (P:=P) w p ho;simp only [execOp,Sem.run_bind,hp,key];exact h
  ·exact h.elim
 case indexAddr t x i =>
  obtain ⟨v,hv,h⟩:=q0M h;have key:=qeQ (P:=P) w hv;simp only [execOp,Sem.run_bind,key];exact h
 case extract x i =>
  obtain ⟨v,hv,h⟩:=q0M h;unfold qgz at hv
  split at hv
  ·rename_i hx; simp [execOp,hx,Instr.extract,hv,RO]; exact h
  ·cases hv
 case call c =>
  simp only [] at h;obtain ⟨callee,args,tys⟩:=c;simp only [] at h
  split at h
  ·split at h
   ·rename_i x t ha ht;obtain ⟨v,hv,h⟩:=q0M h;obtain ⟨args⟩:=args;obtain ⟨tys⟩:=tys;simp only at ha ht;subst ha; subst ht;have key:(Builtin.len_ #[t] ty #[ev e x]).run P w=.ok v w:=by
     unfold qni at hv
     split at hv
     ·rename_i hx
      split at hv
      ·rename_i hs;obtain rfl:=Option.some.inj hv;unfold q0b at hs
       split at hs
       ·rename_i el hu;simp [Builtin.len_,hx,run_underlying hu,goInt]
       ·cases hs
      ·cases hv
     ·cases hv
    simp [execOp,resolve,invoke,builtin,key,RO];exact h
   ·exact h.elim
  ·obtain ⟨v,hv,h⟩:=q0M h;have key:(Builtin.max_ tys ty (args.map (ev e))).run P w=.ok v w:=by
    unfold mmV at hv;unfold Builtin.max_;rw [Array.toList_map]
    split at hv
    ·rename_i k a k' b hl
     split at hv
     ·rename_i hk;obtain rfl:=Option.some.inj hv;simp [hl,Builtin.max2]
      split <;> omega
     ·cases hv
    ·cases hv
   simp [execOp,resolve,invoke,builtin,key,RO];exact h
  ·obtain ⟨v,hv,h⟩:=q0M h;have key:(Builtin.min_ tys ty (args.map (ev e))).run P w=.ok v w:=by
    unfold mmV at hv;unfold Builtin.min_;rw [Array.toList_map]
    split at hv
    ·rename_i k a k' b hl
     split at hv
     ·rename_i hk;obtain rfl:=Option.some.inj hv;simp [hl,Builtin.min2]
      split <;> omega
     ·cases hv
    ·cases hv
   simp [execOp,resolve,invoke,builtin,key,RO];exact h
  ·rename_i f;obtain ⟨hf,h⟩:=h;have key:(callFunc f (args.map (ev e))).run P w=.ok (.enter f (args.map (ev e))) w:=by
    unfold q0F at hf;cases hfn:P.funcs[f]? with
    | none=>simp [hfn] at hf
    | some fn =>
     simp only [hfn,Bool.and_eq_true] at hf;obtain ⟨h1,h2⟩:=hf;obtain ⟨b,hb⟩:=Option.isSome_iff_exists.1 h1;simp only [Bool.not_eq_true',beq_eq_false_iff_ne,ne_eq] at h2;simp [callFunc,hfn,hb,h2]
   have key2:(execOp (ev e) ⟨dst,.call ⟨.value (.func f),args,tys⟩,ty,pos,af,g⟩).run P w=.ok (.enter f (args.map (ev e))) w:=by
    simp only [execOp,resolve,Deferred.ofValue,ev,pure_bind,invoke];simp [key]
   rw [key2];exact h
  ·exact h
end
def wg (P:Program) (ops:Array Oper) (o:Oper) (e:Env) (w:World) (K:Value→World→Prop):Prop :=
 if q4x ops e o then wo P o e w K else K undef w
def WLo (P:Program) (ops:Array Oper) (K:Env→World→Prop):List Oper→Env→World→Prop
 | [],e,w=>K e w
 | o :: rest,e,w=>wg P ops o e w fun v w'=>WLo P ops K rest (put e o.dst v) w'
section
variable {P:Program} {n:Nat} {ops:Array Oper} {Q:Exit→Env→World→Prop} {K:Env→World→Prop} {e:Env} {w:World}
def q0s {o:Oper} {K:Value→World→Prop} (h:wg P ops o e w K):WG P ops o e w K:=by
 unfold wg at h; unfold WG
 split
 ·rename_i hw; rw [if_pos hw] at h; exact q85 h
 ·rename_i hw; rw [if_neg hw] at h; exact h
def q72:∀ (l:List Oper) (e:Env) (w:World),WLo P ops K l e w→WL P ops K l e w
 | [],_,_,h=>h
 | _ :: rest,_,_,h=>q3d (fun _ _ h=>q72 rest _ _ h) (q0s h)
def qpx {id:Nat} {l:List Oper} (h:WLo P l.toArray (Q .normal) l e w):W P n (.region id l.toArray false) Q e w:=q3W (q72 _ _ _ (by simpa using h))
def q3m {id:Nat} {l:List Oper} (h:∀ K:Env→World→Prop,(∀ e w,Q .normal e w→K e w)→WLo P l.toArray K l e w):W P n (.region id l.toArray false) Q e w:=qpx (h _ fun _ _ h=>h)
def q0P {id:Nat} {l:List Oper} {b:Code} (h:∀ K:Env→World→Prop,(∀ e w,W P n b Q e w→K e w)→WLo P l.toArray K l e w):W P n (.seq (.region id l.toArray false) b) Q e w :=
 qdX (qpx (h _ fun _ _ h=>h))
def Wz {id:Nat} {l:List Oper} {b:Code} {e1:Env} {w1:World}  (k:W P n b Q e1 w1) (ee:∀ K:Env→World→Prop,WLo P l.toArray K l e w=K e1 w1:=by intro K; simp -implicitDefEqProofs (disch:=omega) only [go_sem,Nat.reduceEqDiff,Nat.reduceAdd,↓reduceIte]; exact rfl):W P n (.seq (.region id l.toArray false) b) Q e w:=q0P fun K hK=>(ee K).mpr (hK _ _ k)
def Wz1 {id:Nat} {l:List Oper} {b:Code} {e1:Env} {w1:World} {F1:Prop} (f1:F1) (k:W P n b Q e1 w1) (ee:F1→∀ K:Env→World→Prop,WLo P l.toArray K l e w=K e1 w1:=by intro g1 K; simp -implicitDefEqProofs (disch:=omega) only [go_sem,Nat.reduceEqDiff,Nat.reduceAdd,↓reduceIte,g1]; exact rfl):W P n (.seq (.region id l.toArray false) b) Q e w:=q0P fun K hK=>(ee f1 K).mpr (hK _ _ k)
def Wz2 {id:Nat} {l:List Oper} {b:Code} {e1:Env} {w1:World} {F1 F2:Prop} (f1:F1) (f2:F2) (k:W P n b Q e1 w1) (ee:F1→F2→∀ K:Env→World→Prop,WLo P l.toArray K l e w=K e1 w1:=by intro g1 g2 K; simp -implicitDefEqProofs (disch:=omega) only [go_sem,Nat.reduceEqDiff,Nat.reduceAdd,↓reduceIte,g1,g2]; exact rfl):W P n (.seq (.region id l.toArray false) b) Q e w:=q0P fun K hK=>(ee f1 f2 K).mpr (hK _ _ k)
def Wz3 {id:Nat} {l:List Oper} {b:Code} {e1:Env} {w1:World} {F1 F2 F3:Prop} (f1:F1) (f2:F2) (f3:F3) (k:W P n b Q e1 w1) (ee:F1→F2→F3→∀ K:Env→World→Prop,WLo P l.toArray K l e w=K e1 w1:=by intro g1 g2 g3 K; simp -implicitDefEqProofs (disch:=omega) only [go_sem,Nat.reduceEqDiff,Nat.reduceAdd,↓reduceIte,g1,g2,g3]; exact rfl):W P n (.seq (.region id l.toArray false) b) Q e w:=q0P fun K hK=>(ee f1 f2 f3 K).mpr (hK _ _ k)
def Wz4 {id:Nat} {l:List Oper} {b:Code} {e1:Env} {w1:World} {F1 F2 F3 F4:Prop} (f1:F1) (f2:F2) (f3:F3) (f4:F4) (k:W P n b Q e1 w1) (ee:F1→F2→F3→F4→∀ K:Env→World→Prop,WLo P l.toArray K l e w=K e1 w1:=by intro g1 g2 g3 g4 K; simp -implicitDefEqProofs (disch:=omega) only [go_sem,Nat.reduceEqDiff,Nat.reduceAdd,↓reduceIte,g1,g2,g3,g4]; exact rfl):W P n (.seq (.region id l.toArray false) b) Q e w:=q0P fun K hK=>(ee f1 f2 f3 f4 K).mpr (hK _ _ k)
def Wz5 {id:Nat} {l:List Oper} {b:Code} {e1:Env} {w1:World} {F1 F2 F3 F4 F5:Prop} (f1:F1) (f2:F2) (f3:F3) (f4:F4) (f5:F5) (k:W P n b Q e1 w1) (ee:F1→F2→F3→F4→F5→∀ K:Env→World→Prop,WLo P l.toArray K l e w=K e1 w1:=by intro g1 g2 g3 g4 g5 K; simp -implicitDefEqProofs (disch:=omega) only [go_sem,Nat.reduceEqDiff,Nat.reduceAdd,↓reduceIte,g1,g2,g3,g4,g5]; exact rfl):W P n (.seq (.region id l.toArray false) b) Q e w:=q0P fun K hK=>(ee f1 f2 f3 f4 f5 K).mpr (hK _ _ k)
def Wz6 {id:Nat} {l:List Oper} {b:Code} {e1:Env} {w1:World} {F1 F2 F3 F4 F5 F6:Prop} (f1:F1) (f2:F2) (f3:F3) (f4:F4) (f5:F5) (f6:F6) (k:W P n b Q e1 w1) (ee:F1→F2→F3→F4→F5→F6→∀ K:Env→World→Prop,WLo P l.toArray K l e w=K e1 w1:=by intro g1 g2 g3 g4 g5 g6 K; simp -implicitDefEqProofs (disch:=omega) only [go_sem,Nat.reduceEqDiff,Nat.reduceAdd,↓reduceIte,g1,g2,g3,g4,g5,g6]; exact rfl):W P n (.seq (.region id l.toArray false) b) Q e w:=q0P fun K hK=>(ee f1 f2 f3 f4 f5 f6 K).mpr (hK _ _ k)
def q2O {id:Nat} {a b:Code} (h:∀ K:Env→World→Prop,(∀ e w,W P n b Q e w→K e w)→W P n a (inB id (q65 K Q)) e w):W P n (.seq (.block id a) b) Q e w :=
 qdX (q2p (h _ fun _ _ h=>h))
end
def qnC (e:Env):ResultVar→Sem Value
 | .tmp t=>pure (e t)
 | .cell a t=>do loadVar t (← asAddr (e a))
def qb2 (fn:Func) (e:Env):Sem Value:=do
 let vs ← fn.results.mapM (qnC e)
 pure (if h:vs.size=1 then vs[0] else .tuple vs)
def qaA (P:Program) (fn:Func) (R:Ending→World→Prop) (x:Exit) (e:Env) (w:World):Prop :=
 match x with
 | .normal | .ret=>∃ v,(qb2 fn e).run P w=.ok v w∧R (.returned v) w
 | _=>False
section
variable {P:Program} {n:Nat}
def q5N {fn:Func} {a:Act} {e:Env} (hr:Rel n a e):results fn a.tmps=qb2 fn e:=by
 have:(fun i=>a.tmps.getD i undef)=e:=funext hr.get;unfold results qb2
 congr 1
 congr 1
 subst this
 funext r
 cases r <;> rfl
def q1J {f:FuncId} {fn:Func} {c:Code} {args:Array Value} {w:World} {R:Ending→World→Prop}
  (hf:P.funcs[f]?=some fn) (hb:fn.body=some c) (hn:fn.ntmps=n) (hd:(decide (args.size≤n) && q6F n c)=true)
  (h:W P n c (qaA P fn R) (q2j args.toList) w):Calls P f args w R:=by
 rw [Bool.and_eq_true,decide_eq_true_eq] at hd;refine calls_of_wp hf hb (wp_mono (h hd.2 ⟨args ++ Array.replicate (fn.ntmps-args.size) undef,[]⟩ ⟨rfl,by simp; omega,fun i=>?_⟩) ?_)
 ·simp only [q2j,Array.getD_eq_getD_getElem?,List.getD_eq_getElem?_getD,Array.getElem?_append,Array.getElem?_replicate]
  by_cases hi:i < args.size
  ·simp [hi]
  ·simp only [hi,if_false,Array.getElem?_toList,Array.getElem?_eq_none (Nat.le_of_not_lt hi),Option.getD_none]
   split <;> rfl
 ·rintro x a' w' ⟨e',hr,_,hq⟩;cases x <;> simp only [qaA] at hq <;> try exact hq.elim
  ·obtain ⟨v,hv,hR⟩:=hq;exact ⟨hr.defs,v,by rw [q5N hr]; exact hv,hR⟩
  ·obtain ⟨v,hv,hR⟩:=hq;exact ⟨hr.defs,v,by rw [q5N hr]; exact hv,hR⟩
def qnA {fn:Func} {R:Ending→World→Prop} {e:Env} {w:World} {t:Nat} (h:fn.results=#[.tmp t]) (hR:R (.returned (e t)) w):qaA P fn R .ret e w :=
 ⟨e t,by simp [qb2,h,qnC],hR⟩
def qmz {fn:Func} {R:Ending→World→Prop} {e:Env} {w:World} {t u:Nat} (h:fn.results=#[.tmp t,.tmp u]) (hR:R (.returned (.tuple #[e t,e u])) w):qaA P fn R .ret e w :=
 ⟨.tuple #[e t,e u],by simp [qb2,h,qnC],hR⟩
def ret0 {fn:Func} {R:Ending→World→Prop} {e:Env} {w:World} (h:fn.results=#[]) (hR:R (.returned (.tuple #[])) w):qaA P fn R .ret e w :=
 ⟨.tuple #[],by simp [qb2,h],hR⟩
def ret0n {fn:Func} {R:Ending→World→Prop} {e:Env} {w:World} (h:fn.results=#[]) (hR:R (.returned (.tuple #[])) w):qaA P fn R .normal e w :=
 ⟨.tuple #[],by simp [qb2,h],hR⟩
def q5j (P:Program) (w:World) (e:Env):ResultVar→Option Value
 | .tmp t=>some (e t)
 | .cell a t=>match e a with
  | .pointer (some p)=>match q04 P t with
   | some (some k)=>(q0c w p 0 k).map fun l=>.agg l.toArray
   | some none=>w.cell? p
   | none=>none
  | _=>none
def q1D {w:World} {e:Env} {r:ResultVar} {v:Value} (h:q5j P w e r=some v) :
  (qnC e r).run P w=.ok v w:=by
 cases r with
 | tmp t=>simp only [q5j] at h; obtain rfl:=Option.some.inj h; rfl
 | cell a t =>
  simp only [q5j] at h
  split at h
  ·rename_i p hp;have:ldV w (q04 P t) (.pointer (some p))=some v:=by
    unfold ldV; simp only []
    split at h <;> simp_all
   have h2 : WO P ⟨none, .load t (.const (.pointer (some p))), 0, "", #[], none⟩ e w (fun v' w' => v' = v ∧ w' = w) := q85 (by simp only [wo, ev, this, q2G]; exact ⟨trivial, trivial⟩);unfold WO at h2;simp only [execOp,ev,Sem.run_bind] at h2;simp only [qnC,Sem.run_bind,hp,asAddr,Sem.run_pure,Result.andThen_ok];simp only [Instr.loadAt,Instr.sureAddr,Sem.run_bind,Sem.run_pure,Result.andThen_ok] at h2;cases hr:(loadVar t p).run P w with
   | ok x w'=>rw [hr] at h2; simp only [Result.andThen_ok,RO] at h2; rw [h2.1,h2.2]
   | halt=>rw [hr] at h2; simp only [Result.andThen_halt,RO] at h2
  ·cases h
def qi0 {fn:Func} {R:Ending→World→Prop} {e:Env} {w:World} {r:ResultVar} {v:Value} (h:fn.results=#[r]) (h0:q5j P w e r=some v) (hR:R (.returned v) w):qaA P fn R .ret e w:=by
 have:=q1D h0;exact ⟨v,by simp [qb2,h,this],hR⟩
def qmy {fn:Func} {R:Ending→World→Prop} {e:Env} {w:World} {r s:ResultVar} {v u:Value} (h:fn.results=#[r,s]) (h0:q5j P w e r=some v) (h1:q5j P w e s=some u) (hR:R (.returned (.tuple #[v,u])) w):qaA P fn R .ret e w:=by
 have a0:=q1D h0;have a1:=q1D h1;exact ⟨.tuple #[v,u],by simp [qb2,h,a0,a1],hR⟩
def qmx {fn:Func} {R:Ending→World→Prop} {e:Env} {w:World} {r s q:ResultVar} {v u x:Value} (h:fn.results=#[r,s,q]) (h0:q5j P w e r=some v) (h1:q5j P w e s=some u) (h2:q5j P w e q=some x) (hR:R (.returned (.tuple #[v,u,x])) w):qaA P fn R .ret e w:=by
 have a0:=q1D h0;have a1:=q1D h1;have a2:=q1D h2;exact ⟨.tuple #[v,u,x],by simp [qb2,h,a0,a1,a2],hR⟩
end
def qdw (v:Value) (K:Value→Prop):Prop:=K v
def qaD (c a b:Value) (K:Value→Prop):Prop:=match c with | .bool true=>K a | .bool false=>K b | _=>False
def q3J (o:Option Bool) (b:Bool) (A B:Prop):Prop:=if o == some b then A else B
def q3h (P:Program) (t:TypeId) (w:World) (a x:Value) (K:World→Prop):Prop:=match a with
  | .pointer (some p)=>q0X P t=some x.cells.size∧stOk w p 0 x.cells.toList∧K (stN w p 0 x.cells.toList)
  | _=>False
def qoI (off:Option Nat) (x:Value) (K:Value→Prop):Prop:=match x with
  | .pointer (some p)=>q1r off fun off=>K (.pointer (some (p.add off)))
  | _=>False
def mkW (eo:Option (TypeId × Nat × Nat × Array Value)) (l c:Value) (w:World) (K:Value→World→Prop):Prop:=match l,c with
  | .int _ l,.int _ c=>q1r eo fun (el,s,b,z)=>(0≤l∧l≤c∧(b:Int)*c≤281474976710656∧c≤9223372036854775807)∧K (.slice (some ⟨w.heap.size,0,none⟩) l.toNat c.toNat) (w.alloc (.cells (madeCells z (c.toNat*s)) el))
  | _,_=>False
def qlW (t:TypeId) (v:Value) (w:World) (K:Value→World→Prop):Prop:=K (.pointer (some ⟨w.heap.size,0,none⟩)) (w.alloc (.cells v.cells t))
def bsW (o:Option (TypeId × Array Value)) (len:Nat) (w:World) (K:Value→World→Prop):Prop:=q1r o fun (el,cs)=>K (.slice (some ⟨w.heap.size,0,none⟩) len len) (w.alloc (.cells cs el))
def alW (o:Option (Array Value)) (t:TypeId) (w:World) (K:Value→World→Prop):Prop:=q1r o fun z=>K (.pointer (some ⟨w.heap.size,0,none⟩)) (w.alloc (.cells z t))
def q7Q (P:Program) (f:FuncId) (args:List Value) (w:World) (K:Value→World→Prop):Prop:=q0F P f=true∧Calls P f args.toArray w fun x w'=>match x with | .returned v=>K v w' | _=>False
def qfp (P:Program) (tys:Array TypeId) (ty:TypeId) (args:List Value) (w:World) (K:Value→World→Prop):Prop:=∃ v w',(Builtin.append_ tys ty args.toArray).run P w=.ok v w'∧K v w'
section
variable {P:Program}
@[congr] theorem qlM {α:Type} {o o':Option α} {K:α→Prop} (h:o=o'):q1r o K=q1r o' K:=by rw [h]
@[congr] theorem qlI {v v':Value} {K:Value→Prop} (h:v=v'):qdw v K=qdw v' K:=by rw [h]
@[congr] theorem qid {c c' a b:Value} {K:Value→Prop} (h:c=c'):qaD c a b K=qaD c' a b K:=by rw [h]
@[congr] theorem qgw {o o':Option Bool} {b:Bool} {A B:Prop} (h:o=o'):q3J o b A B=q3J o' b A B:=by rw [h]
@[congr] theorem qg0 {t:TypeId} {w w':World} {a a' x x':Value} {K:World→Prop} (hw:w=w') (h:a=a') (h':x=x'):q3h P t w a x K=q3h P t w' a' x' K:=by rw [h,h',hw]
@[congr] theorem qlQ {o o':Option Nat} {x x':Value} {K:Value→Prop} (h:o=o') (h':x=x'):qoI o x K=qoI o' x' K:=by rw [h,h']
@[congr] theorem qn9 {o o':Option (TypeId × Nat × Nat × Array Value)} {l l' c c':Value} {w:World} {K:Value→World→Prop} (h:o=o') (h1:l=l') (h2:c=c'):mkW o l c w K=mkW o' l' c' w K:=by rw [h,h1,h2]
@[congr] theorem qlV {t:TypeId} {v v':Value} {w:World} {K:Value→World→Prop} (h:v=v'):qlW t v w K=qlW t v' w K:=by rw [h]
@[congr] theorem qpH {o o':Option (TypeId × Array Value)} {len:Nat} {w:World} {K:Value→World→Prop} (h:o=o'):bsW o len w K=bsW o' len w K:=by rw [h]
@[congr] theorem qpd {o o':Option (Array Value)} {t:TypeId} {w:World} {K:Value→World→Prop} (h:o=o'):alW o t w K=alW o' t w K:=by rw [h]
@[congr] theorem qkC {f:FuncId} {args args':List Value} {w:World} {K:Value→World→Prop} (h:args=args'):q7Q P f args w K=q7Q P f args' w K:=by rw [h]
@[congr] theorem qlY {tys:Array TypeId} {ty:TypeId} {args args':List Value} {w:World} {K:Value→World→Prop} (h:args=args'):qfp P tys ty args w K=qfp P tys ty args' w K:=by rw [h]
@[congr] theorem qpz {ops:Array Oper} {l:List Oper} {e e':Env} {w:World} {K:Env→World→Prop} (h:e=e'):WLo P ops K l e w=WLo P ops K l e' w:=by rw [h]
@[congr] theorem W_congr {n:Nat} {c:Code} {Q:Exit→Env→World→Prop} {e e':Env} {w:World} (h:e=e'):W P n c Q e w=W P n c Q e' w:=by rw [h]
@[congr] theorem wo_congr {o:Oper} {e e':Env} {w:World} {K:Value→World→Prop} (h:e=e'):wo P o e w K=wo P o e' w K:=by rw [h]
variable {d:Option Nat} {ty t s:TypeId} {pos:String} {af:Array Edge} {g:Option (Nat × Bool)} {e:Env} {w:World} {K:Value→World→Prop}
def qld {v:Value} {K:Value→Prop}:qdw v K=K v:=rfl
def qib {a b:Value} {K:Value→Prop}:qaD (.bool true) a b K=qdw a K:=rfl
def qic {a b:Value} {K:Value→Prop}:qaD (.bool false) a b K=qdw b K:=rfl
def qcN {A B:Prop}:q3J (some true) true A B=A:=rfl
def qcO {A B:Prop}:q3J (some true) false A B=B:=rfl
def qcP {A B:Prop}:q3J (some false) true A B=B:=rfl
def qcQ {A B:Prop}:q3J (some false) false A B=A:=rfl
def qex {A B:Prop} {b:Bool}:q3J none b A B=B:=rfl
def q8j {p:Addr} {x:Value} {K:World→Prop}:q3h P t w (.pointer (some p)) x K=(q0X P t=some x.cells.size∧stOk w p 0 x.cells.toList∧K (stN w p 0 x.cells.toList)):=rfl
def qoH {off:Nat} {p:Addr} {K:Value→Prop}:qoI (some off) (.pointer (some p)) K=qdw (.pointer (some (p.add off))) K:=rfl
def mkW_i {kl kc:IntKind} {l c:Int} {el:TypeId} {s b:Nat} {z:Array Value}:mkW (some (el,s,b,z)) (.int kl l) (.int kc c) w K=((0≤l∧l≤c∧(b:Int)*c≤281474976710656∧c≤9223372036854775807)∧K (.slice (some ⟨w.heap.size,0,none⟩) l.toNat c.toNat) (w.alloc (.cells (madeCells z (c.toNat*s)) el))):=rfl
def q8w {i:Nat} {v:Value}:put e (some i) v=upd e i v:=rfl
def qhp {x}:wo P ⟨d,.move x,ty,pos,af,g⟩ e w K=qdw (ev e x) fun v=>K v w:=rfl
def qam {x}:wo P ⟨d,.assign x,ty,pos,af,g⟩ e w K=qdw (ev e x) fun v=>K v w:=rfl
def qho {c a b}:wo P ⟨d,.pick c a b,ty,pos,af,g⟩ e w K=qaD (ev e c) (ev e a) (ev e b) fun v=>K v w:=rfl
def qdv:wo P ⟨d,.alloc t,ty,pos,af,g⟩ e w K=alW (q1c P t) t w K:=rfl
def qlc {x}:wo P ⟨d,.box t x,ty,pos,af,g⟩ e w K=qlW t (ev e x) w K:=rfl
def qdt {ps}:wo P ⟨d,.build t ps,ty,pos,af,g⟩ e w K=q1r (P.built t (ps.map fun (i,x)=>(i,ev e x)).toList) fun cs=>K (.agg cs) w:=rfl
def q2v {len ps}:wo P ⟨d,.buildSlice t len ps,ty,pos,af,g⟩ e w K=bsW (bsV P t len (ps.map fun (i,x)=>(i,ev e x)).toList) len w K:=rfl
def qhr {a}:wo P ⟨d,.load t a,ty,pos,af,g⟩ e w K=q1r (ldV w (q04 P t) (ev e a)) fun v=>K v w:=rfl
def qdq {a x}:wo P ⟨d,.store t a x,ty,pos,af,g⟩ e w K=q3h P t w (ev e a) (ev e x) fun w'=>K undef w':=rfl
def qdu {op x y t'}:wo P ⟨d,.binOp op t x y t',ty,pos,af,g⟩ e w K=q1r (q0f P op t (ev e x) (ev e y)) fun v=>K v w:=rfl
def qhn {op x}:wo P ⟨d,.unOp op t x,ty,pos,af,g⟩ e w K=q1r (unV op (ev e x)) fun v=>K v w:=rfl
def q9t {x}:wo P ⟨d,.convert s t x,ty,pos,af,g⟩ e w K=q1r (qa0 (P.underlying s) (P.underlying t) (ev e x)) fun v=>K v w:=rfl
def q64 {x f}:wo P ⟨d,.fieldAddr t x f,ty,pos,af,g⟩ e w K=qoI (q0Y P t f) (ev e x) fun v=>K v w:=rfl
def q63 {x i}:wo P ⟨d,.indexAddr t x i,ty,pos,af,g⟩ e w K=q1r (qen (q0b P t) (qa3 P t) (ev e x) (ev e i)) fun v=>K v w:=rfl
def qdr {x lo hi}:wo P ⟨d,.slice t x lo hi none,ty,pos,af,g⟩ e w K=q1r (q12 (q0b P t) (lo.map (ev e)) (hi.map (ev e)) (ev e x)) fun v=>K v w:=rfl
def q62 {l c}:wo P ⟨d,.makeSlice t l c,ty,pos,af,g⟩ e w K=mkW (q00 P t) (ev e l) (ev e c) w K:=rfl
def q9s {x i}:wo P ⟨d,.extract x i,ty,pos,af,g⟩ e w K=q1r (qgz i (ev e x)) fun v=>K v w:=rfl
def q7b {x}:wo P ⟨d,.nilCheck x,ty,pos,af,g⟩ e w K=q1r (match ev e x with | .pointer (some p)=>some (.pointer (some p)) | _=>none) fun v=>K v w:=by
 simp only [wo]
 split <;> rename_i h <;> first | rfl | (simp only [h]; done) | (simp only [h]; rfl)
def qlb {x}:wo P ⟨d,.call ⟨.builtin .len,#[x],#[t]⟩,ty,pos,af,g⟩ e w K=q1r (qni (q0b P t) (ev e x)) fun v=>K v w:=rfl
def qla {xs ts}:wo P ⟨d,.call ⟨.builtin .max,xs,ts⟩,ty,pos,af,g⟩ e w K=q1r (mmV true (xs.toList.map (ev e))) fun v=>K v w:=rfl
def ql9 {xs ts}:wo P ⟨d,.call ⟨.builtin .min,xs,ts⟩,ty,pos,af,g⟩ e w K=q1r (mmV false (xs.toList.map (ev e))) fun v=>K v w:=rfl
def qht {f} {xs:List Operand} {ts}:wo P ⟨d,.call ⟨.value (.func f),xs.toArray,ts⟩,ty,pos,af,g⟩ e w K=q7Q P f (xs.map (ev e)) w K:=by
 simp only [wo,q7Q,List.map_toArray]
 try rfl
def q05 {f:FuncId} {args:List Value} {R:Ending→World→Prop} (hc:q0F P f=true) (h:Calls P f args.toArray w R) (hk:∀ x w',R x w'→∃ v,x=.returned v∧K v w'):q7Q P f args w K :=
 ⟨hc,h.mono fun x w' hx=>by obtain ⟨v,rfl,h⟩:=hk x w' hx; exact h⟩
def q4S {s x:Operand} {tys:Array TypeId}:wo P ⟨d,.call ⟨.builtin .append,#[s,x],tys⟩,ty,pos,af,g⟩ e w K=qfp P tys ty [ev e s,ev e x] w K:=by
 simp only [wo,WO,execOp,resolve,invoke,builtin,Sem.run_bind,Sem.run_pure,Result.andThen_ok,List.map_toArray,List.map_cons,List.map_nil,qfp];cases hr:(Builtin.append_ tys ty #[ev e s,ev e x]).run P w with
 | ok v w' =>
  simp only [Result.andThen_ok,Sem.run_pure,RO];exact propext ⟨fun h=>⟨v,w',rfl,h⟩,fun ⟨v',w'',h,hk⟩=>by injection h with h1 h2; subst h1; subst h2; exact hk⟩
 | halt x w' =>
  simp only [Result.andThen_halt,RO];exact propext ⟨fun h=>h.elim,fun ⟨_,_,h,_⟩=>by cases h⟩
def qbc (P:Program) (T ty:TypeId) (s x:Value) (w:World) (K:Value→Value→World→Prop):Prop :=
 bsW (bsV P T 1 [(0,x)]) 1 w fun v1 w1=>qfp P #[T,T] ty [s,v1] w1 fun v2 w2=>K v1 v2 w2
@[congr] theorem qi8 {T ty:TypeId} {s s' x x':Value} {w:World} {K:Value→Value→World→Prop} (h:s=s') (h':x=x'):qbc P T ty s x w K=qbc P T ty s' x' w K:=by rw [h,h']
def q56 {ops:Array Oper} {op:Op}:wg P ops ⟨d,op,ty,pos,af,none⟩ e w K=wo P ⟨d,op,ty,pos,af,none⟩ e w K:=rfl
def qhu {ops:Array Oper} {op:Op} {j:Nat} {b:Bool}:wg P ops ⟨d,op,ty,pos,af,some (j,b)⟩ e w K=q3J (q2s ops e j) b (wo P ⟨d,op,ty,pos,af,some (j,b)⟩ e w K) (K undef w):=rfl
def qko {ops:Array Oper} {K:Env→World→Prop}:WLo P ops K [] e w=K e w:=rfl
def q6Q {ops:Array Oper} {K:Env→World→Prop} {o:Oper} {rest:List Oper}:WLo P ops K (o :: rest) e w=wg P ops o e w fun v w'=>WLo P ops K rest (put e o.dst v) w':=rfl
def qgF {ops:Array Oper} {K:Env→World→Prop} {d1 d2 s T ty1 ty2:Nat} {x:Operand} {p1 p2:String} {a1 a2:Array Edge} {rest:List Oper} :
  WLo P ops K (⟨some d1,.buildSlice T 1 #[(0,x)],ty1,p1,a1,none⟩ :: ⟨some d2,.call ⟨.builtin .append,#[.tmp s,.tmp d1],#[T,T]⟩,ty2,p2,a2,none⟩ :: rest) e w =
   if s=d1 then wg P ops ⟨some d1,.buildSlice T 1 #[(0,x)],ty1,p1,a1,none⟩ e w (fun v w'=>WLo P ops K (⟨some d2,.call ⟨.builtin .append,#[.tmp s,.tmp d1],#[T,T]⟩,ty2,p2,a2,none⟩ :: rest) (put e (some d1) v) w')
   else qbc P T ty2 (e s) (ev e x) w fun v1 v2 w'=>WLo P ops K rest (upd (upd e d1 v1) d2 v2) w':=by
 split
 ·rfl
 rename_i hne;have h:∀ v1,ev (upd e d1 v1) (.tmp s)=e s:=fun v1=>by
  simp [ev,upd,hne]
 have h2:∀ v1,ev (upd e d1 v1) (.tmp d1)=v1:=fun v1=>by simp [ev,upd]
 rw [q6Q,q56,q2v];unfold qbc;have hp:(Array.map (fun x=>match x with | (i,x)=>(i,ev e x)) #[(0,x)]).toList=[(0,ev e x)]:=by simp
 rw [hp]
 congr 1
 funext v1 w1
 rw [q6Q,q56,q8w,q4S,h,h2]
 rfl
def qeZ {v:Value}:put e none v=e:=rfl
def qoV {i:Nat}:ev e (.tmp i)=e i:=rfl
def qf5 {v:Value}:ev e (.const v)=v:=rfl
def q0z {i j:Nat} {v:Value}:upd e i v j=if j=i then v else e j:=rfl
def q32 {next:Env→World→Prop} {Q:Exit→Env→World→Prop}:q65 next Q .normal e w=next e w:=rfl
def q1S {next:Env→World→Prop} {Q:Exit→Env→World→Prop}:q65 next Q .ret e w=Q .ret e w:=rfl
def qnx {Q:Exit→Env→World→Prop} {i:Nat}:inB i Q .normal e w=Q .normal e w:=rfl
def q4a {Q:Exit→Env→World→Prop} {i:Nat}:inB i Q .ret e w=Q .ret e w:=rfl
def env_z {v:Value} {l:List Value}:q2j (v :: l) 0=v:=rfl
def env_s {v:Value} {l:List Value} {i:Nat}:q2j (v :: l) (i+1)=q2j l i:=rfl
def q8Y {tys:Array TypeId} {ty':TypeId} {args:List Value} {v:Value} {w':World} (h:(Builtin.append_ tys ty' args.toArray).run P w=.ok v w') (hk:K v w'):qfp P tys ty' args w K:=⟨v,w',h,hk⟩
def bsW_s {el:TypeId} {cs:Array Value} {len:Nat}:bsW (some (el,cs)) len w K=K (.slice (some ⟨w.heap.size,0,none⟩) len len) (w.alloc (.cells cs el)):=rfl
def alW_s {z:Array Value}:alW (some z) t w K=K (.pointer (some ⟨w.heap.size,0,none⟩)) (w.alloc (.cells z t)):=rfl
def qpM {v:Value}:qlW t v w K=K (.pointer (some ⟨w.heap.size,0,none⟩)) (w.alloc (.cells v.cells t)):=rfl
end
attribute [irreducible] qbc bsW qfp q7Q mkW qlW alW q3h qoI q3J qaD qdw WLo wg
section
variable {P:Program} {t:TypeId} {k k':IntKind} {a b:Int}
def qk4:q0f P .add t (.int k a) (.int k b)=some (.int k (k.wrap (a+b))):=by simp [q0f,q6L,q2M]
def qkV:q0f P .sub t (.int k a) (.int k b)=some (.int k (k.wrap (a-b))):=by simp [q0f,q6L,q2M]
def qkX:q0f P .mul t (.int k a) (.int k b)=some (.int k (k.wrap (a*b))):=by simp [q0f,q6L,q2M]
def qdN:q0f P .quo t (.int k a) (.int k b)=if b=0 then none else some (.int k (k.wrap (a.tdiv b))):=by simp [q0f,q6L,q2M]
def qdM:q0f P .rem t (.int k a) (.int k b)=if b=0 then none else some (.int k (a.tmod b)):=by simp [q0f,q6L,q2M]
def qk3:q0f P .and t (.int k a) (.int k b)=some (.int k (q0n .and k a b)):=by simp [q0f,q6L,q2M]
def qpQ:q0f P .or t (.int k a) (.int k b)=some (.int k (q0n .or k a b)):=by simp [q0f,q6L,q2M]
def qkU:q0f P .xor t (.int k a) (.int k b)=some (.int k (q0n .xor k a b)):=by simp [q0f,q6L,q2M]
def qa2:q0f P .andNot t (.int k a) (.int k b)=some (.int k (q0n .andNot k a b)):=by simp [q0f,q6L,q2M]
def qk2:q0f P .eql t (.int k a) (.int k b)=some (.bool (a == b)):=by simp [q0f,q6L,q2M]
def qkW:q0f P .neq t (.int k a) (.int k b)=some (.bool (a != b)):=by simp [q0f,q6L,q2M]
def qkY:q0f P .lss t (.int k a) (.int k b)=some (.bool (decide (a < b))):=by simp [q0f,q6L,q2M]
def qkZ:q0f P .leq t (.int k a) (.int k b)=some (.bool (decide (a≤b))):=by simp [q0f,q6L,q2M]
def qk0:q0f P .gtr t (.int k a) (.int k b)=some (.bool (decide (b < a))):=by simp [q0f,q6L,q2M]
def qk1:q0f P .geq t (.int k a) (.int k b)=some (.bool (decide (b≤a))):=by simp [q0f,q6L,q2M]
def q8U:q0f P .shl t (.int k a) (.int k' b)=if b < 0 then none else some (.int k (k.wrap (a*2 ^ (min b.toNat k.bits)))):=by simp [q0f,q6L]
def q1X:q0f P .shr t (.int k a) (.int k' b)=if b < 0 then none else some (.int k (a.fdiv (2 ^ (min b.toNat k.bits)))):=by simp [q0f,q6L]
def q9e {x y:Bool} (h:P.underlying t=some .bool):q0f P .eql t (.bool x) (.bool y)=some (.bool (x == y)):=by simp [q0f,h]
def q9d {x y:Bool} (h:P.underlying t=some .bool):q0f P .neq t (.bool x) (.bool y)=some (.bool (x != y)):=by simp [q0f,h]
def q8V {A:Option Addr} {n c n' c' el:Nat} (h:P.underlying t=some (.slice el)):q0f P .eql t (.slice A n c) (.slice none n' c')=some (.bool A.isNone):=by simp [q0f,h]
def q9c {A:Option Addr} {n c n' c' el:Nat} (h:P.underlying t=some (.slice el)):q0f P .neq t (.slice A n c) (.slice none n' c')=some (.bool A.isSome):=by simp [q0f,h]
def qlj {x:Bool}:unV .not (.bool x)=some (.bool !x):=rfl
def qlk:unV .neg (.int k a)=some (.int k (k.wrap (0-a))):=rfl
def qfi {s:TypeDesc}:qa0 (some s) (some (.int k)) (.int k' a)=some (.int k (k.wrap a)):=rfl
def idx_s {ad:Addr} {n c s:Nat} {ar:Option (Nat × Nat)} {i:Int}:qen (some s) ar (.slice (some ad) n c) (.int k i)=if 0≤i∧i < n then some (.pointer (some (ad.add (i.toNat*s)))) else none:=rfl
def idx_a {ad:Addr} {n s:Nat} {sz:Option Nat} {i:Int}:qen sz (some (n,s)) (.pointer (some ad)) (.int k i)=if 0≤i∧i < n then some (.pointer (some (ad.add (i.toNat*s)))) else none:=rfl
def len_s {A:Option Addr} {n c s:Nat}:qni (some s) (.slice A n c)=some (.int .i64 n):=rfl
def ext_0 {v:Value} {l:List Value}:qgz 0 (.tuple ⟨v :: l⟩)=some v:=rfl
def ext_1 {v u:Value} {l:List Value}:qgz 1 (.tuple ⟨v :: u :: l⟩)=some u:=rfl
def ext_2 {v u x:Value} {l:List Value}:qgz 2 (.tuple ⟨v :: u :: x :: l⟩)=some x:=rfl
def ext_3 {v u x y:Value} {l:List Value}:qgz 3 (.tuple ⟨v :: u :: x :: y :: l⟩)=some y:=rfl
def ld_1 {w:World} {p:Addr}:ldV w (some none) (.pointer (some p))=w.cell? p:=rfl
def ld_k {w:World} {p:Addr} {n:Nat}:ldV w (some (some n)) (.pointer (some p))=(q0c w p 0 n).map fun l=>.agg l.toArray:=rfl
def rd_z {w:World} {p:Addr} {i:Nat}:q0c w p i 0=some []:=rfl
def qjr (a:Option Value) (b:Option (List Value)):Option (List Value):=match a,b with | some v,some l=>some (v :: l) | _,_=>none
def qjq {v:Value} {l:List Value}:qjr (some v) (some l)=some (v :: l):=rfl
def rd_s {w:World} {p:Addr} {i n:Nat}:q0c w p i (n+1)=qjr (w.cell? (p.add i)) (q0c w p (i+1) n):=rfl
def sl_hi {A:Option Addr} {n c s:Nat} {h:Int}:q12 (some s) none (some (.int k h)) (.slice A n c)=if 0≤h∧h≤c then some (.slice (if c=0 then A else A.map (·.add (0*s))) (h.toNat-0) (c-0)) else none:=by
 simp only [q12,q26]
 split <;> rename_i hh <;> split at hh <;> simp_all
def sl_lo {A:Option Addr} {n c s:Nat} {l:Int}:q12 (some s) (some (.int k l)) none (.slice A n c)=if 0≤l∧l≤n then some (.slice (if c=l.toNat then A else A.map (·.add (l.toNat*s))) (n-l.toNat) (c-l.toNat)) else none:=by
 simp only [q12,q26]
 split <;> rename_i hh <;> split at hh <;> simp_all
def sl_lh {A:Option Addr} {n c s:Nat} {l h:Int}:q12 (some s) (some (.int k l)) (some (.int k' h)) (.slice A n c) =
  if (0≤h∧h≤c)∧0≤l∧l≤h then some (.slice (if c=l.toNat then A else A.map (·.add (l.toNat*s))) (h.toNat-l.toNat) (c-l.toNat)) else none:=by
 simp only [q12,q26]
 by_cases h1:0≤h∧h≤(c:Int)
 ·have e:((h.toNat:Nat):Int)=h:=by omega
  simp only [h1,and_self,if_true,e,true_and]
  by_cases h2:0≤l∧l≤h <;> simp [h2]
 ·simp [h1]
def qdT (A:Option Addr) (s:Nat):A.map (·.add (0*s))=A:=by
 rw [Nat.zero_mul]; cases A <;> simp [Addr.add]
def qmX {A:Option Addr} {n c s:Nat} {h:Int}:q12 (some s) none (some (.int k h)) (.slice A n c)=if 0≤h∧h≤c then some (.slice A h.toNat c) else none:=by
 rw [sl_hi,qdT]; simp
def q97:Value→Option Bool | .bool b=>some b | _=>none
def qfo {b:Bool}:q97 (.bool b)=some b:=rfl
def qfn:q97 undef=none:=rfl
def q5J:List Oper→Nat→Env→Option Bool
 | [],_,_=>none
 | o :: _,0,e=>match o.dst with | some d=>q97 (e d) | none=>none
 | _ :: os,j+1,e=>q5J os j e
def qdl {o:Oper} {os:List Oper} {j:Nat} {e:Env}:q5J (o :: os) (j+1) e=q5J os j e:=rfl
def qdk {d:Nat} {op:Op} {ty:TypeId} {pos:String} {af:Array Edge} {g:Option (Nat × Bool)} {os:List Oper} {e:Env}:q5J (⟨some d,op,ty,pos,af,g⟩ :: os) 0 e=q97 (e d):=rfl
def qdm {l:List Oper} {e:Env} {j:Nat}:q2s l.toArray e j=q5J l j e:=by
 unfold q2s;rw [List.getElem?_toArray]
 induction l generalizing j with
 | nil=>rfl
 | cons o os ih =>
  cases j with
  | zero =>
   simp only [List.getElem?_cons_zero,Option.bind_some,q5J];cases o.dst with
   | none=>rfl
   | some d=>simp only []; cases e d <;> rfl
  | succ j=>rw [List.getElem?_cons_succ]; exact ih
end
def i64_in {n:Int} (h1 : -9223372036854775808≤n) (h2:n≤9223372036854775807):IntKind.i64.wrap n=n:=IntWalk.i64_in n ⟨h1,h2⟩
def u64_in {n:Int} (h1:0≤n) (h2:n≤18446744073709551615):IntKind.u64.wrap n=n:=IntWalk.u64_in n ⟨h1,h2⟩
def u8_in {n:Int} (h1:0≤n) (h2:n≤255):IntKind.u8.wrap n=n:=IntWalk.u8_in n ⟨h1,h2⟩
def q0j (n:Int):IntKind.u64.wrap n=n % 18446744073709551616:=by simp [IntKind.wrap,IntKind.bits,IntKind.signed]
def q1n (n:Int):IntKind.u32.wrap n=n % 4294967296:=by simp [IntKind.wrap,IntKind.bits,IntKind.signed]
def qew (n:Int):IntKind.i64.wrap n=(n+9223372036854775808) % 18446744073709551616-9223372036854775808:=IntKind.wrap_i64 n
attribute [go_sem] qk4 qkV qkX qdN qdM qk3 qpQ qkU qa2 qk2 qkW qkY qkZ qk0 qk1 q8U q1X q9e q9d qlj qlk qfi idx_s idx_a len_s ext_0 ext_1 ext_2 ext_3 ld_1 ld_k rd_z qjq rd_s qmX sl_lo sl_lh
attribute [go_sem ↓] qhp qam qho qdv qlc qdt q2v qhr qdq qdu qhn q9t q64 q63 qdr q62 q9s q7b qlb qla ql9 q4S qht q56 qhu qko q6Q qdm qdl qdk
attribute [go_sem ↓ high] qgF
attribute [go_sem ↓] qcD qaJ
attribute [go_sem] qld qib qic qcN qcO qcP qcQ qex qfn qoH q8w qeZ qoV qf5 q0z q2G env_z env_s qfo decide_true decide_false Bool.not_false Bool.not_true ite_true ite_false beq_self_eq_true List.map_cons List.map_nil Option.map_some Option.map_none Int.toNat_natCast Nat.mul_one and_self List.map_toArray List.toList_toArray
end Go.E
namespace Go.Sp
def B:Nat:=4294967296
def q0o:0 < B:=by decide
def q74:1 < B:=by decide
def q3X (k:Nat):0 < B ^ k:=Nat.pow_pos q0o
def val:List Nat→Nat
 | []=>0
 | d :: l=>d+B*val l
def qee:Nat→Nat→List Nat
 | 0,_=>[]
 | f+1,n=>if n=0 then [] else n % B :: qee f (n / B)
def lim (n:Nat):List Nat:=qee n n
def q0T (l:List Nat):Prop:=∀ d ∈ l,d < B
def q6G {n:Nat} (h:n≠0):n / B < n:=Nat.div_lt_self Oq q74
def q6u : ∀ (f g n : Nat), n ≤ f → n ≤ g → qee f n = qee g n
  | 0, 0, _, _, _ => rfl
  | 0, g + 1, n, h, _ => by have : n = 0 := by omega
                            subst this; simp [qee]
  | f + 1, 0, n, _, h => by have : n = 0 := by omega
                            subst this; simp [qee]
  | f + 1, g + 1, n, h1, h2 => by
    by_cases h : n = 0
    · subst h; simp [qee]
    · simp only [qee, if_neg h]
      have := q6G h
      rw [q6u f g (n / B) Oq (by omega)]
def q1s:lim 0=[]:=rfl
def q2e {n:Nat} (h:n≠0):lim n=n % B :: lim (n / B):=by
 obtain ⟨m,rfl⟩:∃ m,n=m+1:=⟨n-1,by omega⟩;unfold lim;simp only [qee,if_neg h];have:=q6G h;rw [q6u m ((m+1) / B) ((m+1) / B) Oq (Nat.le_refl _)]
def q5w {P:Nat→Prop} (h0:P 0) (hs:∀ n,n≠0→P (n / B)→P n) (n:Nat):P n:=by
 induction n using Nat.strongRecOn with
 | _ n ih =>
  by_cases h:n=0
  ·subst h; exact h0
  ·exact hs n h (ih _ (q6G h))
def q0B (n:Nat):val (lim n)=n:=by
 induction n using q5w with
 | h0=>rfl
 | hs n h ih=>rw [q2e h,val,ih]; exact Nat.mod_add_div n B
def q0A (n:Nat):q0T (lim n):=by
 induction n using q5w with
 | h0=>intro d h; cases h
 | hs n h ih =>
  rw [q2e h]; intro d hd
  rcases List.mem_cons.1 hd with rfl | hd
  ·exact Nat.mod_lt _ q0o
  ·exact ih d hd
def qaH {n:Nat} (h:n≠0):lim n≠[]:=by rw [q2e h]; simp
def q7y {n:Nat}:lim n=[] ↔ n=0:=by
 constructor
 ·intro h; by_cases h0:n=0
  ·exact h0
  ·exact absurd h (qaH h0)
 ·rintro rfl; rfl
def q0G {n:Nat}:0 < (lim n).length ↔ n≠0:=by
 constructor
 ·intro h h0; subst h0; simp [q1s] at h
 ·intro h; rw [q2e h]; simp
def q10 {l:List Nat} (h:q0T l):val l < B ^ l.length:=by
 induction l with
 | nil=>simp [val]
 | cons d l ih =>
  have h1:=ih (fun x hx=>h x (List.mem_cons_of_mem _ hx));have h2:=h d (List.mem_cons_self);simp only [val,List.length_cons,Nat.pow_succ];have h3:B*val l+B≤B*B ^ l.length:=by
   rw [← Nat.mul_succ]; exact Nat.mul_le_mul_left _ h1
  rw [Nat.mul_comm (B ^ l.length)]; omega
def q31 (a b:List Nat):val (a ++ b)=val a+B ^ a.length*val b:=by
 induction a with
 | nil=>simp [val]
 | cons d a ih =>
  simp only [List.cons_append,val,ih,List.length_cons,Nat.pow_succ,Nat.mul_add];rw [Nat.mul_comm (B ^ a.length) B,Nat.mul_assoc]; omega
def q1R (n:Nat):val (List.replicate n 0)=0:=by
 induction n with
 | zero=>rfl
 | succ n ih=>simp [List.replicate_succ,val,ih]
def q0T.nil:q0T []:=fun _ h=>by cases h
def q0T.take {l:List Nat} (h:q0T l) (n:Nat):q0T (l.take n):=fun d hd=>h d (List.mem_of_mem_take hd)
def q0T.drop {l:List Nat} (h:q0T l) (n:Nat):q0T (l.drop n):=fun d hd=>h d (List.mem_of_mem_drop hd)
def q0T.append {a b:List Nat} (h:q0T a) (k:q0T b):q0T (a ++ b):=fun d hd=>by
 rcases List.mem_append.1 hd with hd | hd
 ·exact h d hd
 ·exact k d hd
def q0T.one {d:Nat} (h:d < B):q0T [d]:=fun x hx=>by simp at hx; subst hx; exact h
def q0T.snoc {a:List Nat} {d:Nat} (h:q0T a) (k:d < B):q0T (a ++ [d]):=h.append (.one k)
def q09 {l:List Nat} {i:Nat} (h:i < l.length):l.getD i 0=l[i]:=(List.getElem_eq_getD 0).symm
def q0T.get {l:List Nat} (h:q0T l) (i:Nat):l.getD i 0 < B:=by
 rcases Nat.lt_or_ge i l.length with hi | hi
 ·rw [q09 hi]; exact h _ (List.getElem_mem hi)
 ·simp [List.getD,List.getElem?_eq_none hi,q0o]
def q0T.set {l:List Nat} (h:q0T l) (i d:Nat) (hd:d < B):q0T (l.set i d):=fun x hx=>by
 rcases List.mem_or_eq_of_mem_set hx with hx | rfl
 ·exact h x hx
 ·exact hd
def q0T.replicate (n:Nat):q0T (List.replicate n 0):=fun d hd=>by
 rw [List.mem_replicate] at hd; rw [hd.2]; exact q0o
def qau {α:Type} (l:List α) (i:Nat) (h:i < l.length):l.take (i+1)=l.take i ++ [l[i]]:=List.take_succ_eq_append_getElem h
def q2R (l:List Nat) (i:Nat) (h:i < l.length):l.take (i+1)=l.take i ++ [l.getD i 0]:=by
 rw [qau l i h,q09 h]
def q4U (d:Nat):val [d]=d:=by simp [val]
def q1m (l:List Nat) (d:Nat):val (l ++ [d])=val l+B ^ l.length*d:=by rw [q31,q4U]
def q1O (l:List Nat) (i:Nat) (h:i < l.length):val (l.take (i+1))=val (l.take i)+B ^ i*l.getD i 0:=by
 rw [q2R l i h,q1m,List.length_take,Nat.min_eq_left (by omega)]
def q0D (l:List Nat) (i:Nat) (h:l.length≤i):val (l.take i)=val l:=by rw [List.take_of_length_le h]
def q0p (l:List Nat) (i:Nat) (h:i≤l.length):val l=val (l.take i)+B ^ i*val (l.drop i):=by
 have:=q31 (l.take i) (l.drop i);rw [List.take_append_drop,List.length_take,Nat.min_eq_left h] at this;exact this
def q2z (l:List Nat) (i d:Nat):(l.set i d).take i=l.take i:=List.take_set_of_le (Nat.le_refl i)
def q5v {n : Nat} (h : n ≠ 0) : (lim n).getD ((lim n).length - 1) 0 ≠ 0 := by
  induction n using q5w with
  | h0 => exact absurd rfl h
  | hs n h ih =>
    rw [q2e h]
    by_cases h0 : n / B = 0
    · rw [h0, q1s]
      have : n < B := by rcases Nat.lt_or_ge n B with h1 | h1
                         · exact h1
                         · have := Nat.div_pos h1 q0o; omega
      simp [Nat.mod_eq_of_lt this, h]
    · have := ih h0
      have hp := q0G.2 h0
      simp only [List.length_cons, Nat.add_sub_cancel]
      obtain ⟨k, hk⟩ : ∃ k, (lim (n / B)).length = k + 1 := ⟨(lim (n / B)).length - 1, by omega⟩
      rw [hk] at this ⊢
      simpa using this
def q7z {d m:Nat} (hd:d < B) (h:d+B*m≠0):lim (d+B*m)=d :: lim m:=by
 rw [q2e h];rw [Nat.add_mul_mod_self_left,Nat.mod_eq_of_lt hd,Nat.add_mul_div_left _ _ q0o,Nat.div_eq_of_lt hd,Nat.zero_add]
def q1z:∀ {l:List Nat},l≠[]→l.getD (l.length-1) 0≠0→val l≠0
 | [],h,_=>absurd rfl h
 | [d],_,k=>by simpa [val] using k
 | d :: e :: l,_,k=>by
  have:=q1z (l:=e :: l) (by simp) (by simpa using k);have hB:=q0o;have:0 < B*val (e :: l):=Nat.mul_pos hB Oq;rw [val]; omega
def qbz:∀ {l:List Nat},q0T l→(l=[]∨l.getD (l.length-1) 0≠0)→lim (val l)=l
 | [],_,_=>rfl
 | d :: l,h,k=>by
  have hd:=h d List.mem_cons_self;have hl:q0T l:=fun x hx=>h x (List.mem_cons_of_mem _ hx);have k':(d :: l).getD ((d :: l).length-1) 0≠0:=k.resolve_left (by simp);have hv:=q1z (l:=d :: l) (by simp) k';rw [val] at hv ⊢;rw [q7z hd hv,qbz hl];cases l with
  | nil=>exact .inl rfl
  | cons e l=>exact .inr (by simpa using k')
def q59 {l:List Nat} {n:Nat} (h:q0T l) (hn:n≤l.length) (hz:∀ i,n≤i→i < l.length→l.getD i 0=0) (hl:n=0∨l.getD (n-1) 0≠0):l.take n=lim (val l):=by
 have hd:val (l.drop n)=0:=by
  have:l.drop n=List.replicate (l.length-n) 0:=by
   apply List.ext_getElem (by simp)
   intro i h1 h2;have:=hz (n+i) Oq (by simp at h1; omega);rw [q09 (by simp at h1; omega)] at this;simp [this]
  rw [this,q1R]
 have hv:val l=val (l.take n):=by rw [q0p l n hn,hd]; simp
 rw [hv,qbz (h.take n)]
 rcases hl with rfl | hl
 ·exact .inl (by simp)
 ·by_cases h0:n=0
  ·exact .inl (by simp [h0])
  ·refine .inr ?_;rw [List.length_take,Nat.min_eq_left hn];rw [q09 (by omega)] at hl;rw [q09 (by simp; omega)];simpa using hl
def q01 (n:Nat):n < B ^ (lim n).length:=by
 have:=q10 (q0A n); rwa [q0B] at this
def q35 {n:Nat} (h:n≠0):B ^ ((lim n).length-1)≤n:=by
 induction n using q5w with
 | h0=>exact absurd rfl h
 | hs n h ih =>
  rw [q2e h];simp only [List.length_cons,Nat.add_sub_cancel]
  by_cases h0:n / B=0
  ·rw [h0,q1s]; simp; omega
  ·have:=ih h0;have hp:=q0G.2 h0;obtain ⟨k,hk⟩:∃ k,(lim (n / B)).length=k+1:=⟨(lim (n / B)).length-1,by omega⟩;rw [hk] at this ⊢;simp only [Nat.add_sub_cancel] at this;rw [Nat.pow_succ];exact Nat.le_trans (Nat.mul_le_mul_right B this) (Nat.div_mul_le_self n B)
def q08 {n k:Nat} (h:n < B ^ k):(lim n).length≤k:=by
 by_cases h0:n=0
 ·subst h0; simp [q1s]
 ·have h1:=q35 h0;have h2:B ^ ((lim n).length-1) < B ^ k:=Nat.lt_of_le_of_lt h1 h;have:=(Nat.pow_lt_pow_iff_right q74).1 h2;omega
def q0d {m n:Nat} (h:m≤n):(lim m).length≤(lim n).length:=q08 (Nat.lt_of_le_of_lt h (q01 n))
def q14 {m n:Nat} (h:(lim m).length < (lim n).length):m < n:=by
 rcases Nat.lt_or_ge m n with k | k
 ·exact k
 ·have:=q0d k; omega
def q2w {a b:List Nat} {i:Nat} (ha:q0T a) (hl:a.length=b.length) (hi:i < a.length)
  (hs:a.drop (i+1)=b.drop (i+1)) (hlt:a.getD i 0 < b.getD i 0):val a < val b:=by
 rw [q0p a (i+1) Oq,q0p b (i+1) Oq,hs,q1O a i hi,q1O b i (by omega)];have h1:=q10 (ha.take i);rw [List.length_take,Nat.min_eq_left (by omega)] at h1;have h2:B ^ i*a.getD i 0+B ^ i≤B ^ i*b.getD i 0:=by rw [← Nat.mul_succ]; exact Nat.mul_le_mul_left _ hlt
 omega
end Go.Sp
namespace Go.E
open Go Go.RowKit
structure Kp (D:Nat→Prop) (w w':World):Prop where
 os:w'.os=w.os
 tape:w'.tape=w.tape
 output:w'.output=w.output
 size:w.heap.size≤w'.heap.size
 block:∀ k,k < w.heap.size→D k→w'.heap[k]?=w.heap[k]?
abbrev Ext (w w':World):Prop:=Kp (fun _=>True) w w'
def Ck {P:Program} {f:FuncId} {args:List Value} {v:Value} {w:World} {K:Value→World→Prop} (hc:q0F P f=true) (h:Calls P f args.toArray w fun e w'=>e=.returned v∧Ext w w') (k:∀ w',Ext w w'→K v w'):q7Q P f args w K:=q05 hc h fun x w' ⟨h1,h2⟩=>⟨v,h1,k w' h2⟩
def Fr (D:Nat→Prop) (w:World):Prop:=∀ k,w.heap.size≤k→D k
section
variable {D D':Nat→Prop} {w w' w'':World}
def Kp.refl (D:Nat→Prop) (w:World):Kp D w w:=⟨rfl,rfl,rfl,Nat.le_refl _,fun _ _ _=>rfl⟩
def Kp.trans (h:Kp D w w') (k:Kp D w' w''):Kp D w w'' :=
 ⟨k.os.trans h.os,k.tape.trans h.tape,k.output.trans h.output,Nat.le_trans h.size k.size,fun i hi hd=>(k.block i (Nat.lt_of_lt_of_le hi h.size) hd).trans (h.block i hi hd)⟩
def Kp.mono (h:Kp D w w') (hd:∀ k,k < w.heap.size→D' k→D k):Kp D' w w':=⟨h.os,h.tape,h.output,h.size,fun k hk hk'=>h.block k hk (hd k hk hk')⟩
def Kp.of_ext (h:Ext w w'):Kp D w w':=h.mono fun _ _ _=>trivial
def Kp.drew (w:World) (k:Nat):Kp D w { w with drawn:=k }:=⟨rfl,rfl,rfl,Nat.le_refl _,fun _ _ _=>rfl⟩
def Kp.alloc (w:World) (o:Obj):Kp D w (w.alloc o):=⟨rfl,rfl,rfl,by simp,fun k hk _=>Below.heap_alloc w o k hk⟩
def Kp.setCell (w:World) {p:Addr} (hp:p.block < w.heap.size→¬ D p.block) (v:Value):Kp D w (w.setCell p v) :=
 ⟨rfl,rfl,rfl,by simp [World.setCell],fun k hk hd=>Below.heap_setCell w p v k (fun e=>by subst e; exact hp hk hd)⟩
def Kp.pre (D:Nat→Prop):Pre (Kp D):=⟨Kp.refl D,fun h k=>h.trans k,fun w k=>Kp.drew w k⟩
def Kp.cell (h:Kp D w w') {p:Addr} {v:Value} (hd:D p.block) (hc:w.cell? p=some v):w'.cell? p=some v:=by
 have hlt:=World.block_lt_of_cell? w p hc;rw [← hc];exact World.cell?_of_block (h.block p.block hlt hd)
def Kp.of_grown {row:Option Nat} (h:w.grownBy w' row) (hr:∀ k,k < w.heap.size→row=some k→¬ D k):Kp D w w' :=
 ⟨h.os,h.tape,h.output,h.size,fun k hk hd=>h.block k hk fun e=>hr k hk e.symm hd⟩
def Kp.below (h:Ext w w'):Below w.heap.size w w':=⟨h.os,h.tape,h.output,h.size,fun k hk=>h.block k hk trivial⟩
def Fr.kp (h:Fr D w) (k:Kp D' w w'):Fr D w':=fun i hi=>h i (Nat.le_trans k.size hi)
def Fr.triv (w:World):Fr (fun _=>True) w:=fun _ _=>trivial
def Dx (D:Nat→Prop) (a b:Nat):Nat→Prop:=fun k=>D k∧(k < a∨b≤k)
def Dx.sub {a b:Nat} {k:Nat} (h:Dx D a b k):D k:=h.1
def Dx.fr {a b:Nat} (h:Fr D w) (hb:b≤w.heap.size):Fr (Dx D a b) w:=fun k hk=>⟨h k hk,.inr (Nat.le_trans hb hk)⟩
def Dx.not {a b k:Nat} (h1:a≤k) (h2:k < b):¬ Dx D a b k:=fun h=>by rcases h.2 with h | h <;> omega
def Dx.lt {a b k:Nat} (h:D k) (hk:k < a):Dx D a b k:=⟨h,.inl hk⟩
def Blk (w:World) (g:Nat) (t:TypeId) (cs:Array Value):Prop:=w.heap[g]?=some (.cells cs t (0,0))
variable {g:Nat} {t:TypeId} {cs:Array Value}
def Blk.lt (h:Blk w g t cs):g < w.heap.size:=by
 rcases Nat.lt_or_ge g w.heap.size with hlt | hge
 ·exact hlt
 ·unfold Blk at h; rw [Array.getElem?_eq_none hge] at h; cases h
def Blk.cell (h:Blk w g t cs) (i:Nat):w.cell? ⟨g,i,none⟩=cs[i]?:=cell_of_row w g i cs t (0,0) h
def Blk.frozen (h:Blk w g t cs) (i:Nat):w.frozen? ⟨g,i,none⟩=false:=by unfold Blk at h; simp [World.frozen?,h]
def Blk.new (w:World) (t:TypeId) (cs:Array Value):Blk (w.alloc (.cells cs t)) w.heap.size t cs:=heap_alloc_new w _
def Blk.kp (h:Blk w g t cs) (hk:Kp D w w') (hd:D g):Blk w' g t cs:=(hk.block g h.lt hd).trans h
def Blk.ext (h:Blk w g t cs) (hk:Ext w w'):Blk w' g t cs:=(hk.block g h.lt trivial).trans h
def Blk.alloc (h:Blk w g t cs) (o:Obj):Blk (w.alloc o) g t cs:=(Below.heap_alloc w o g h.lt).trans h
def Blk.set (h:Blk w g t cs) (i:Nat) (u:Value):Blk (w.setCell ⟨g,i,none⟩ u) g t (cs.setIfInBounds i u):=by
 unfold Blk at h ⊢;simp [World.setCell,Array.getElem?_modify,h]
def q03 {b o i:Nat}:(⟨b,o,none⟩:Addr).add i=⟨b,o+i,none⟩:=by unfold Addr.add; split <;> simp_all
def q6O (a:Addr) (i j:Nat):(a.add i).add j=a.add (i+j):=by
 unfold Addr.add
 by_cases hi:i=0 <;> by_cases hj:j=0 <;> simp [hi,hj,Nat.add_assoc]
def q0r (a:Addr) (n:Nat):(a.add n).block=a.block:=by unfold Addr.add; split <;> rfl
def add_zero (a:Addr):a.add 0=a:=by simp [Addr.add]
def Blk.rd (h:Blk w g t cs):∀ (n i:Nat),i+n≤cs.size→q0c w ⟨g,0,none⟩ i n=some ((cs.toList.drop i).take n)
 | 0,i,_=>by simp [q0c]
 | n+1,i,hi=>by
  rw [rd_s,q03,Nat.zero_add,h.cell,h.rd n (i+1) (by omega)];have hlt:i < cs.size:=by omega
  have hd:cs.toList.drop i=cs[i] :: cs.toList.drop (i+1):=by rw [List.drop_eq_getElem_cons (by simpa using hlt)]; simp
  rw [Array.getElem?_eq_getElem hlt,hd];simp [qjr]
def Blk.rdAll (h:Blk w g t cs) {n:Nat} (hn:cs.size=n):q0c w ⟨g,0,none⟩ 0 n=some cs.toList:=by
 rw [h.rd n 0 Oq,List.drop_zero,List.take_of_length_le (by simp [hn])]
def qbG {p:Addr}:∀ (vs:List Value) (i:Nat) (w:World),(p.block < w.heap.size→¬ D p.block)→Kp D w (stN w p i vs)
 | [],_,w,_=>Kp.refl D w
 | v :: vs,i,w,hp=>by
  have h1:Kp D w (w.setCell (p.add i) v):=Kp.setCell w (by rw [q0r]; exact hp) v;exact h1.trans (qbG vs (i+1) _ (by simpa [World.setCell] using hp))
def Blk.stOk (h:Blk w g t cs):∀ (vs:List Value) (i:Nat),i+vs.length≤cs.size→(∀ v ∈ vs,v.oneCell'=true)→stOk w ⟨g,0,none⟩ i vs
 | [],_,_,_=>trivial
 | v :: vs,i,hl,h1=>by
  have hlt:i < cs.size:=by simp at hl; omega
  refine ⟨?_,?_,h1 v List.mem_cons_self,h.stOk vs (i+1) (by simp at hl ⊢; omega) fun u hu=>h1 u (List.mem_cons_of_mem _ hu)⟩
  ·rw [q03,Nat.zero_add,h.cell,Array.getElem?_eq_getElem hlt]; rfl
  ·rw [q03,Nat.zero_add]; exact h.frozen i
def Blk.stN:∀ (vs:List Value) (i:Nat) (w:World) (cs:Array Value),Blk w g t cs→i+vs.length≤cs.size →
  ∃ cs',Blk (E.stN w ⟨g,0,none⟩ i vs) g t cs'∧cs'.size=cs.size∧(∀ j,j < i→cs'[j]?=cs[j]?)∧(∀ j,cs'[i+j]?=if j < vs.length then vs[j]? else cs[i+j]?)
 | [],i,w,cs,hb,_=>⟨cs,hb,rfl,fun _ _=>rfl,fun j=>by simp⟩
 | v :: vs,i,w,cs,hb,hl=>by
  have hs:=hb.set i v;have hlt:i < cs.size:=by simp at hl; omega
  obtain ⟨cs',h3,h4,h5,h6⟩:=Blk.stN vs (i+1) _ _ hs (by simp at hl ⊢; omega);refine ⟨cs',?_,?_,fun j hj=>?_,fun j=>?_⟩
  ·rw [E.stN,q03,Nat.zero_add]; exact h3
  ·rw [h4]; simp
  ·rw [h5 j Oq,Array.getElem?_setIfInBounds]; simp [show i≠j by omega]
  ·cases j with
   | zero=>rw [h5 (i+0) Oq,Array.getElem?_setIfInBounds]; simp [hlt]
   | succ j =>
    have:=h6 j;rw [show i+1+j=i+(j+1) by omega] at this;rw [this,Array.getElem?_setIfInBounds];simp
def Blk.store (h:Blk w g t cs) {vs:List Value} (hl:vs.length=cs.size):Blk (E.stN w ⟨g,0,none⟩ 0 vs) g t vs.toArray:=by
 obtain ⟨cs',h3,h4,_,h6⟩:=Blk.stN vs 0 w cs h Oq;have:cs'=vs.toArray:=by
  apply Array.ext_getElem?
  intro j;have:=h6 j;rw [Nat.zero_add] at this;rw [this]
  split
  ·simp
  ·rename_i hj;rw [Array.getElem?_eq_none (by omega)];simp; omega
 rw [← this]; exact h3
end
structure Row (w:World) (D:Nat→Prop) (sz:Nat) (A:Option Addr) (n c:Nat) (xs:List Value):Prop where
 cap:n≤c
 len:xs.length=n*sz
 at_:0 < xs.length→∃ ad,A=some ad∧D ad.block∧∀ j u,xs[j]?=some u→w.cell? (ad.add j)=some u
section
variable {D D':Nat→Prop} {w w':World} {sz n c:Nat} {A:Option Addr} {xs:List Value}
def Row.nil (w:World) (D:Nat→Prop) (sz:Nat):Row w D sz none 0 0 []:=⟨Nat.le_refl _,by simp,fun h=>by simp at h⟩
def Row.kp (h:Row w D sz A n c xs) (hk:Kp D w w'):Row w' D sz A n c xs :=
 ⟨h.cap,h.len,fun hx=>by
  obtain ⟨ad,rfl,hd,hc⟩:=h.at_ hx;exact ⟨ad,rfl,hd,fun j u hu=>hk.cell (by rw [q0r]; exact hd) (hc j u hu)⟩⟩
def Row.sub (h:Row w D sz A n c xs) (hs:∀ k,k < w.heap.size→D k→D' k):Row w D' sz A n c xs :=
 ⟨h.cap,h.len,fun hx=>by
  obtain ⟨ad,rfl,hd,hc⟩:=h.at_ hx;refine ⟨ad,rfl,hs _ ?_ hd,hc⟩;have:=hc 0 xs[0] (List.getElem?_eq_getElem hx);have hlt:=World.block_lt_of_cell? w _ this
  rwa [q0r] at hlt⟩
def Row.lt (h:Row w D sz A n c xs):Row w (fun k=>D k∧k < w.heap.size) sz A n c xs:=h.sub fun _ hk hd=>⟨hd,hk⟩
def Row.take (h:Row w D sz A n c xs) {m:Nat} (hm:m≤n):Row w D sz A m c (xs.take (m*sz)) :=
 ⟨Nat.le_trans hm h.cap,by rw [List.length_take,h.len,Nat.min_eq_left (Nat.mul_le_mul_right _ hm)],fun hx=>by
  obtain ⟨ad,rfl,hd,hc⟩:=h.at_ (by rw [List.length_take] at hx; omega);refine ⟨ad,rfl,hd,fun j u hu=>hc j u ?_⟩;rw [List.getElem?_take] at hu
  split at hu
  ·exact hu
  ·cases hu⟩
def Row.drop (h:Row w D sz A n c xs) {m:Nat} (hm:m≤n):Row w D sz (if c=m then A else A.map (·.add (m*sz))) (n-m) (c-m) (xs.drop (m*sz)) :=
 ⟨Nat.sub_le_sub_right h.cap m,by rw [List.length_drop,h.len,Nat.sub_mul],fun hx=>by
  rw [List.length_drop,h.len] at hx;obtain ⟨ad,rfl,hd,hc⟩:=h.at_ (by rw [h.len]; omega);have hne:¬ c=m:=fun e=>by
   subst e;have hcn:n=c:=Nat.le_antisymm h.cap hm;subst hcn; omega
  rw [if_neg hne];refine ⟨ad.add (m*sz),rfl,by rw [q0r]; exact hd,fun j u hu=>?_⟩;rw [q6O];exact hc _ u (by rw [← hu,List.getElem?_drop])⟩
def Row.get (h:Row w D sz A n c xs) {j:Nat} (hj:j < xs.length):∃ ad,A=some ad∧w.cell? (ad.add j)=some xs[j]:=by
 obtain ⟨ad,rfl,_,hc⟩:=h.at_ Oq;exact ⟨ad,rfl,hc j _ (List.getElem?_eq_getElem hj)⟩
end
attribute [go_sem] q03 Nat.zero_add
def q5A (o:Oper):Bool:=match o.op with
 | .move _ | .assign _ | .pick _ _ _ | .build _ _ | .load _ _ | .binOp _ _ _ _ _ | .unOp _ _ _ | .convert _ _ _ | .fieldAddr _ _ _ | .indexAddr _ _ _ | .extract _ _=>true
 | .slice _ _ _ _ none=>true
 | .call c=>match c.callee with | .builtin .len | .builtin .max | .builtin .min=>true | _=>false
 | _=>false
def q6x (o:Oper):Bool:=match o.op with | .load _ _=>true | _=>false
section
variable {P:Program} {n:Nat} {R:World→World→Prop}
def qgd {w w':World} (hx:Ext w w') {p:Addr}:∀ (k i:Nat) (l:List Value),q0c w p i k=some l→q0c w' p i k=some l
 | 0,_,_,h=>h
 | k+1,i,l,h=>by
  simp only [q0c] at h ⊢
  split at h
  ·rename_i v l' h1 h2;rw [hx.cell (D:=fun _=>True) trivial h1,qgd hx k (i+1) l' h2];exact h
  ·cases h
def qnj {w w':World} (hx:Ext w w') {k:Option (Option Nat)} {a v:Value} (h:ldV w k a=some v):ldV w' k a=some v:=by
 unfold ldV at h ⊢
 split at h
 ·split at h
  ·exact hx.cell (D:=fun _=>True) trivial h
  ·rw [Option.map_eq_some_iff] at h;obtain ⟨l,h1,h2⟩:=h;rw [qgd hx _ _ _ h1,← h2]; rfl
  ·cases h
 ·cases h
def ql8 {o:Oper} (hp:q5A o=true) {e:Env} {w:World} {K:Value→World→Prop} (h:wo P o e w K) :
  ∃ v,K v w∧∀ (e2:Env) (w':World),(∀ x ∈ o.op.operands.toList,ev e2 x=ev e x)→(q6x o=true→Ext w w')→∀ K':Value→World→Prop,K' v w'→wo P o e2 w' K':=by
 obtain ⟨d,op,ty,pos,af,g⟩:=o;cases op <;> (try (cases hp; done)) <;> simp only [wo] at h
 case move x=>exact ⟨_,h,fun e2 w' hop _ K' hk=>by simp only [wo]; rw [hop x (by simp [Op.operands])]; exact hk⟩
 case assign x=>exact ⟨_,h,fun e2 w' hop _ K' hk=>by simp only [wo]; rw [hop x (by simp [Op.operands])]; exact hk⟩
 case pick c a b =>
  split at h
  ·rename_i hc;exact ⟨_,h,fun e2 w' hop _ K' hk=>by simp only [wo]; rw [hop c (by simp [Op.operands]),hc,hop a (by simp [Op.operands])]; exact hk⟩
  ·rename_i hc;exact ⟨_,h,fun e2 w' hop _ K' hk=>by simp only [wo]; rw [hop c (by simp [Op.operands]),hc,hop b (by simp [Op.operands])]; exact hk⟩
  ·exact h.elim
 case build t ps =>
  obtain ⟨cs,h1,h2⟩:=q0M h;refine ⟨_,h2,fun e2 w' hop _ K' hk=>?_⟩;simp only [wo];have:(ps.map fun (i,x)=>(i,ev e2 x))=ps.map fun (i,x)=>(i,ev e x):=by
   apply Array.map_congr_left
   intro a ha;obtain ⟨i,x⟩:=a;simp only [Prod.mk.injEq,true_and];exact hop x (by simp only [Op.operands,List.mem_map]; exact ⟨(i,x),by simpa using ha,rfl⟩)
  rw [this,h1]; exact hk
 case load t a =>
  obtain ⟨v,h1,h2⟩:=q0M h;refine ⟨_,h2,fun e2 w' hop hx K' hk=>?_⟩;simp only [wo];rw [hop a (by simp [Op.operands]),qnj (hx rfl) h1]; exact hk
 case binOp op t x y t' =>
  obtain ⟨v,h1,h2⟩:=q0M h;refine ⟨_,h2,fun e2 w' hop hx K' hk=>?_⟩;simp only [wo];rw [hop x (by simp [Op.operands]),hop y (by simp [Op.operands]),h1]; exact hk
 case unOp op t x =>
  obtain ⟨v,h1,h2⟩:=q0M h;refine ⟨_,h2,fun e2 w' hop hx K' hk=>?_⟩;simp only [wo];rw [hop x (by simp [Op.operands]),h1]; exact hk
 case convert s t x =>
  obtain ⟨v,h1,h2⟩:=q0M h;refine ⟨_,h2,fun e2 w' hop hx K' hk=>?_⟩;simp only [wo];rw [hop x (by simp [Op.operands]),h1]; exact hk
 case fieldAddr t x f =>
  split at h
  ·rename_i p hp';obtain ⟨v,h1,h2⟩:=q0M h;refine ⟨_,h2,fun e2 w' hop hx K' hk=>?_⟩;simp only [wo];rw [hop x (by simp [Op.operands]),hp'];simp only [h1]; exact hk
  ·exact h.elim
 case indexAddr t x i =>
  obtain ⟨v,h1,h2⟩:=q0M h;refine ⟨_,h2,fun e2 w' hop hx K' hk=>?_⟩;simp only [wo];rw [hop x (by simp [Op.operands]),hop i (by simp [Op.operands]),h1]; exact hk
 case slice t x lo hi m =>
  cases m with
  | some m=>cases hp
  | none =>
   obtain ⟨v,h1,h2⟩:=q0M h;refine ⟨_,h2,fun e2 w' hop hx K' hk=>?_⟩;have hl:lo.map (ev e2)=lo.map (ev e):=by
    cases lo with
    | none=>rfl
    | some y=>simp only [Option.map_some]; rw [hop y (by simp [Op.operands])]
   have hh:hi.map (ev e2)=hi.map (ev e):=by
    cases hi with
    | none=>rfl
    | some y=>simp only [Option.map_some]; rw [hop y (by simp [Op.operands])]
   simp only [wo];rw [hop x (by simp [Op.operands]),hl,hh,h1]; exact hk
 case extract x i =>
  obtain ⟨v,h1,h2⟩:=q0M h;refine ⟨_,h2,fun e2 w' hop hx K' hk=>?_⟩;simp only [wo];rw [hop x (by simp [Op.operands]),h1]; exact hk
 case call c =>
  obtain ⟨ca,ar,ts⟩:=c;have hargs:∀ e2:Env,(∀ x ∈ (Op.call ⟨ca,ar,ts⟩).operands.toList,ev e2 x=ev e x)→ar.toList.map (ev e2)=ar.toList.map (ev e):=fun e2 hop=>by
   apply List.map_congr_left
   intro x hx;exact hop x (by simp only [Op.operands,Call.operands,Array.toList_append,List.mem_append]; exact .inr hx)
  cases ca with
  | builtin b =>
   cases b <;> (try (cases hp; done)) <;> simp only [] at h
   case len =>
    split at h
    ·rename_i x t hx ht;obtain ⟨v,h1,h2⟩:=q0M h;refine ⟨_,h2,fun e2 w' hop _ K' hk=>?_⟩;have:=hargs e2 hop;rw [hx] at this;simp only [wo,hx,ht];simp only [List.map_cons,List.map_nil,List.cons.injEq,and_true] at this;rw [this,h1]; exact hk
    ·exact h.elim
   case max =>
    obtain ⟨v,h1,h2⟩:=q0M h;refine ⟨_,h2,fun e2 w' hop _ K' hk=>?_⟩;simp only [wo];rw [hargs e2 hop,h1]; exact hk
   case min =>
    obtain ⟨v,h1,h2⟩:=q0M h;refine ⟨_,h2,fun e2 w' hop _ K' hk=>?_⟩;simp only [wo];rw [hargs e2 hop,h1]; exact hk
  | _=>cases hp
def q9F {ops:Array Oper} {o:Oper} {e e2:Env} (h:∀ t,looks ops o t=true→e2 t=e t):∀ x ∈ o.op.operands.toList,ev e2 x=ev e x:=by
 intro x hx;cases x with
 | tmp t =>
  refine h t ?_;unfold looks Oper.looksAt;rw [List.any_eq_true];exact ⟨t,List.mem_append_left _ (List.mem_filterMap.2 ⟨_,hx,rfl⟩),by simp⟩
 | const v=>rfl
 | global v=>rfl
 | func v=>rfl
def q37 {ops:Array Oper} {o:Oper} {e e2:Env} (h:∀ t,looks ops o t=true→e2 t=e t):q4x ops e2 o=q4x ops e o:=by
 unfold q4x;cases hg:o.guard with
 | none=>rfl
 | some g =>
  obtain ⟨j,b⟩:=g;simp only;unfold q2s;cases hd:(ops[j]?).bind (·.dst) with
  | none=>rfl
  | some d =>
   have:e2 d=e d:=h d (by
    unfold looks Oper.looksAt;rw [List.any_eq_true];exact ⟨d,List.mem_append_right _ (by rw [hg]; simp only [hd]; simp),by simp⟩)
   simp only [this]
def qan {ops:Array Oper} {o:Oper} (hp:q5A o=true) {e:Env} {w:World} {K:Value→World→Prop} (h:wg P ops o e w K) :
  ∃ v,K v w∧∀ (e2:Env) (w':World),(∀ t,looks ops o t=true→e2 t=e t)→(q6x o=true→Ext w w')→∀ K':Value→World→Prop,K' v w'→wg P ops o e2 w' K':=by
 unfold wg at h
 split at h
 ·rename_i hw;obtain ⟨v,h1,h2⟩:=ql8 hp h;refine ⟨v,h1,fun e2 w' hl hx K' hk=>?_⟩;unfold wg;rw [q37 hl,if_pos hw];exact h2 e2 w' (q9F hl) hx K' hk
 ·rename_i hw;refine ⟨_,h,fun e2 w' hl hx K' hk=>?_⟩;unfold wg;rw [q37 hl,if_neg hw];exact hk
def WLm (P:Program) (ops:Array Oper) (K:Env→Prop):List Bool→List Oper→Env→World→Prop
 | true :: m,o :: os,e,w=>wg P ops o e w fun v _=>WLm P ops K m os (put e o.dst v) w
 | false :: m,_ :: os,e,w=>WLm P ops K m os e w
 | _,_,e,_=>K e
def qei:List Bool→List Oper→Nat→Bool
 | false :: m,o :: os,t=>wrO t o || qei m os t
 | true :: m,_ :: os,t=>qei m os t
 | _,_,_=>false
def q1H:List Bool→List Oper→List Nat
 | true :: m,o :: os=>match o.dst with | some d=>d :: q1H m os | none=>q1H m os
 | false :: m,_ :: os=>q1H m os
 | _,_=>[]
def look_app {S:List Nat} {es:Env} {l:List (Nat × q21 R)} {t:Nat}:look (S.map (fun t=>(t,(is (es t):q21 R))) ++ l) t=if t ∈ S then is (es t) else look l t:=by
 induction S with
 | nil=>simp
 | cons s S ih =>
  simp only [List.map_cons,List.cons_append,look,List.mem_cons]
  by_cases h:s=t
  ·subst h; simp
  ·rw [if_neg h,ih];have:¬ t=s:=fun e=>h e.symm;simp [this]
def q1g {t:Nat}:∀ {m:List Bool} {os:List Oper},t ∈ q1H m os ↔ ∃ (i:Nat) (o:Oper),os[i]?=some o∧m[i]?=some true∧o.dst=some t
 | [],_=>by simp [q1H]
 | b :: m,[]=>by cases b <;> simp [q1H]
 | true :: m,o :: os=>by
  have ih:=q1g (t:=t) (m:=m) (os:=os)
  constructor
  ·intro h;unfold q1H at h;cases hd:o.dst with
   | none =>
    rw [hd] at h; simp only at h;obtain ⟨i,p,h1,h2,h3⟩:=ih.1 h;exact ⟨i+1,p,by simpa using h1,by simpa using h2,h3⟩
   | some d =>
    rw [hd] at h; simp only [List.mem_cons] at h
    rcases h with rfl | h
    ·exact ⟨0,o,rfl,rfl,hd⟩
    ·obtain ⟨i,p,h1,h2,h3⟩:=ih.1 h;exact ⟨i+1,p,by simpa using h1,by simpa using h2,h3⟩
  ·rintro ⟨i,p,h1,h2,h3⟩;unfold q1H;cases i with
   | zero=>simp at h1; subst h1; rw [h3]; simp
   | succ i =>
    have:=ih.2 ⟨i,p,by simpa using h1,by simpa using h2,h3⟩;cases o.dst <;> simp [this]
 | false :: m,o :: os=>by
  have ih:=q1g (t:=t) (m:=m) (os:=os);simp only [q1H]
  constructor
  ·intro h;obtain ⟨i,p,h1,h2,h3⟩:=ih.1 h;exact ⟨i+1,p,by simpa using h1,by simpa using h2,h3⟩
  ·rintro ⟨i,p,h1,h2,h3⟩;cases i with
   | zero=>simp at h2
   | succ i=>exact ih.2 ⟨i,p,by simpa using h1,by simpa using h2,h3⟩
def q2P {ops:Array Oper} {K:Env→Prop} {w:World}:∀ (m:List Bool) (os:List Oper) (ek:Env),
  (∀ (i j:Nat) (o p:Oper) (d:Nat),os[i]?=some o→os[j]?=some p→o.dst=some d→p.dst=some d→i=j)→(∀ (i:Nat) (o:Oper),os[i]?=some o→m[i]?=some true→q5A o=true)→WLm P ops K m os ek w →
  ∃ es,K es∧(∀ t,t ∉ q1H m os→es t=ek t)∧∀ (i:Nat) (o:Oper),os[i]?=some o→m[i]?=some true→∃ (ei:Env) (v:Value),
   (∀ t,(∀ (j:Nat) (p:Oper),j < i→os[j]?=some p→m[j]?=some true→p.dst≠some t)→ei t=ek t) ∧
   (∀ t,(∃ (j:Nat) (p:Oper),j < i∧os[j]?=some p∧m[j]?=some true∧p.dst=some t)→ei t=es t) ∧
   (∀ d,o.dst=some d→es d=v) ∧
   ∀ (e2:Env) (w':World),(∀ t,looks ops o t=true→e2 t=ei t)→(q6x o=true→Ext w w')→∀ K':Value→World→Prop,K' v w'→wg P ops o e2 w' K'
 | [],os,ek,_,_,h=>⟨ek,by cases os <;> exact h,fun _ _=>rfl,fun i o _ h=>by simp at h⟩
 | b :: m,[],ek,_,_,h=>⟨ek,by cases b <;> exact h,fun _ _=>rfl,fun i o h=>by simp at h⟩
 | false :: m,o :: os,ek,hd,hp,h=>by
  obtain ⟨es,h1,h2,h3⟩:=q2P m os ek (fun i j o p d a b c e=>by have:=hd (i+1) (j+1) o p d (by simpa using a) (by simpa using b) c e; omega) (fun i o a b=>hp (i+1) o (by simpa using a) (by simpa using b)) h;refine ⟨es,h1,h2,fun i p hi hm=>?_⟩;cases i with
  | zero=>simp at hm
  | succ i =>
   obtain ⟨ei,v,g1,g2,g3,g4⟩:=h3 i p (by simpa using hi) (by simpa using hm);refine ⟨ei,v,fun t ht=>g1 t fun j q hj hq hmj=>ht (j+1) q Oq (by simpa using hq) (by simpa using hmj),fun t ⟨j,q,hj,hq,hmj,hdq⟩=>?_,g3,g4⟩;cases j with
   | zero=>simp at hmj
   | succ j=>exact g2 t ⟨j,q,by omega,by simpa using hq,by simpa using hmj,hdq⟩
 | true :: m,o :: os,ek,hd,hp,h=>by
  obtain ⟨v,hv,hre⟩:=qan (hp 0 o rfl rfl) h;obtain ⟨es,h1,h2,h3⟩:=q2P m os (put ek o.dst v) (fun i j o p d a b c e=>by have:=hd (i+1) (j+1) o p d (by simpa using a) (by simpa using b) c e; omega) (fun i o a b=>hp (i+1) o (by simpa using a) (by simpa using b)) hv;have hne:∀ d,o.dst=some d→d ∉ q1H m os:=fun d hod hm=>by
   obtain ⟨i,p,a,b,c⟩:=q1g.1 hm;have:=hd 0 (i+1) o p d rfl (by simpa using a) hod c;omega
  have hes:∀ d,o.dst=some d→es d=v:=fun d hod=>by rw [h2 d (hne d hod),hod]; simp [put,upd]
  refine ⟨es,h1,fun t ht=>?_,fun i p hi hm=>?_⟩
  ·have hn:t ∉ q1H m os:=fun hm=>ht (by unfold q1H; cases o.dst <;> simp [hm]);rw [h2 t hn];unfold put;cases hod:o.dst with
   | none=>rfl
   | some d =>
    have:t≠d:=fun e=>by subst e; exact ht (by unfold q1H; rw [hod]; simp)
    simp [upd,this]
  ·cases i with
   | zero =>
    simp at hi; subst hi;exact ⟨ek,v,fun _ _=>rfl,fun t ⟨j,_,hj,_⟩=>by omega,hes,hre⟩
   | succ i =>
    obtain ⟨ei,u,g1,g2,g3,g4⟩:=h3 i p (by simpa using hi) (by simpa using hm);refine ⟨ei,u,fun t ht=>?_,fun t ⟨j,q,hj,hq,hmj,hdq⟩=>?_,g3,g4⟩
    ·rw [g1 t fun j q hj hq hmj=>ht (j+1) q Oq (by simpa using hq) (by simpa using hmj)];have h0:=ht 0 o Oq rfl rfl;unfold put;cases hod:o.dst with
     | none=>rfl
     | some d =>
      have:t≠d:=fun e=>by subst e; exact h0 hod
      simp [upd,this]
    ·cases j with
     | zero =>
      simp at hq; subst hq;rw [hes t hdq];rw [g1 t fun j q' hj' hq' hmj' hdq'=>by
       have:=hd 0 (j+1) o q' t rfl (by simpa using hq') hdq hdq';omega]
      rw [hdq]; simp [put,upd]
     | succ j=>exact g2 t ⟨j,q,by omega,by simpa using hq,by simpa using hmj,hdq⟩
def qqC (P:Program) (ops:List Oper) (R:World→World→Prop) (mask:List Bool) (l:List (Nat × q21 R)) (es:Env) (w:World) (o:Oper):Prop :=
 ∀ e' w',R w w'→(∀ t,dep ops.toArray o t=true→qei mask ops t=true→(look l t).1 (e' t) w')→(∀ t,looks ops.toArray o t=true→qei mask ops t=false→e' t=es t) →
  wg P ops.toArray o e' w' fun v w''=>R w' w''∧∀ d,o.dst=some d→(look l d).1 v w''
def qd1 (P:Program) (ops:List Oper) (R:World→World→Prop) (mask:List Bool) (l:List (Nat × q21 R)) (es:Env) (w:World):List Oper→Prop
 | []=>True
 | o :: rest=>qqC P ops R mask l es w o∧qd1 P ops R mask l es w rest
def qd1.get {ops:List Oper} {mask:List Bool} {l:List (Nat × q21 R)} {es:Env} {w:World}:∀ {os:List Oper},qd1 P ops R mask l es w os→∀ o ∈ os,qqC P ops R mask l es w o:=by
 intro os
 induction os with
 | nil=>intro _ o ho; cases ho
 | cons a rest ih =>
  intro h x hx
  rcases List.mem_cons.1 hx with hx | hx
  ·rw [hx]; exact h.1
  ·exact ih h.2 x hx
def q53.of {ops:Array Oper} {l:List (Nat × q21 R)} {e:Env} {w:World}:∀ {os:List Oper},(∀ o ∈ os,q9l P ops R l e w o)→q53 P ops R l e w os
 | [],_=>trivial
 | o :: os,h=>⟨h o List.mem_cons_self,q53.of fun p hp=>h p (List.mem_cons_of_mem _ hp)⟩
def qqD (P:Program) (ops:Array Oper) (R:World→World→Prop) (l:List (Nat × q21 R)) (e:Env) (w:World) (o:Oper):Prop :=
 ∀ e' w',R w w'→(∀ t,dep ops o t=true→(look l t).1 (e' t) w')→(∀ t,looks ops o t=true→dep ops o t=false→e' t=e t) →
  wg P ops o e' w' fun v w''=>R w' w''∧∀ d,o.dst=some d→(look l d).1 v w''
def qqD.ok {ops:Array Oper} {l:List (Nat × q21 R)} {e:Env} {w:World} {o:Oper} (h:qqD P ops R l e w o):q9l P ops R l e w o:=fun e' w' a b c=>q0s (h e' w' a b c)
end
section
variable {P:Program} {ops:Array Oper} {K:Env→Prop} {e:Env} {w:World} {d:Option Nat} {o:Oper} {os:List Oper} {m:List Bool}
def WLm_t:WLm P ops K (true :: m) (o :: os) e w=wg P ops o e w fun v _=>WLm P ops K m os (put e o.dst v) w:=rfl
def WLm_f:WLm P ops K (false :: m) (o :: os) e w=WLm P ops K m os e w:=rfl
def WLm_n:WLm P ops K [] [] e w=K e:=rfl
@[congr] theorem qqA {e':Env} (h:e=e'):WLm P ops K m os e w=WLm P ops K m os e' w:=by rw [h]
attribute [go_sem ↓] WLm_t WLm_f WLm_n
attribute [irreducible] WLm
end
inductive Anc (ops:Array Oper):Nat→Nat→Prop
 | base {i j:Nat} {o:Oper} (h:ops[i]?=some o) (he:q1N o j=true):Anc ops i j
 | step {i k j:Nat} {o:Oper} (h:ops[i]?=some o) (he:q1N o k=true) (ha:Anc ops k j):Anc ops i j
def qgo (ms:List Nat) (o:Oper):Nat:=o.after.toList.foldl (fun a e=>if Region.binds .any e then a ||| 2 ^ e.on ||| ms.getD e.on 0 else a) 0
def qeb:List Oper→List Nat→List Nat
 | [],ms=>ms
 | o :: os,ms=>qeb os (ms ++ [qgo ms o])
def q9Q {ms:List Nat} {j:Nat}:∀ (es:List Edge) (a:Nat),(es.foldl (fun a e=>if Region.binds .any e then a ||| 2 ^ e.on ||| ms.getD e.on 0 else a) a).testBit j=true →
  a.testBit j=true∨∃ e ∈ es,Region.binds .any e=true∧(e.on=j∨(ms.getD e.on 0).testBit j=true)
 | [],a,h=>.inl h
 | e :: es,a,h=>by
  rw [List.foldl_cons] at h
  rcases q9Q es _ h with h | ⟨x,hx,hb,hc⟩
  ·split at h
   ·rename_i hb;rw [Nat.testBit_or,Nat.testBit_or,Bool.or_eq_true,Bool.or_eq_true] at h
    rcases h with (h | h) | h
    ·exact .inl h
    ·rw [Nat.testBit_two_pow] at h;exact .inr ⟨e,List.mem_cons_self,hb,.inl (by simpa using h)⟩
    ·exact .inr ⟨e,List.mem_cons_self,hb,.inr h⟩
   ·exact .inl h
  ·exact .inr ⟨x,List.mem_cons_of_mem _ hx,hb,hc⟩
def q46 {ops:List Oper}:∀ (rest:List Oper) (ms:List Nat) (pre:List Oper),ops=pre ++ rest→ms.length=pre.length→(∀ i j,(ms.getD i 0).testBit j=true→Anc ops.toArray i j) →
  ∀ i j,((qeb rest ms).getD i 0).testBit j=true→Anc ops.toArray i j
 | [],ms,_,_,_,h=>h
 | o :: os,ms,pre,he,hl,h=>by
  refine q46 os (ms ++ [qgo ms o]) (pre ++ [o]) (by rw [he]; simp) (by simp [hl]) fun i j hb=>?_
  rcases Nat.lt_trichotomy i ms.length with hi | hi | hi
  ·rw [List.getD_eq_getElem?_getD,List.getElem?_append_left hi,← List.getD_eq_getElem?_getD] at hb;exact h i j hb
  ·subst hi;have ho:ops.toArray[ms.length]?=some o:=by rw [List.getElem?_toArray,he,hl]; simp
   rw [List.getD_eq_getElem?_getD,List.getElem?_append_right (Nat.le_refl _)] at hb;simp only [Nat.sub_self,List.getElem?_cons_zero,Option.getD_some] at hb
   rcases q9Q _ _ hb with hb | ⟨x,hx,hbd,hc⟩
   ·simp at hb
   ·have hed:q1N o x.on=true:=q0l.2 ⟨x,Array.mem_toList_iff.1 hx,hbd,rfl⟩
    rcases hc with rfl | hc
    ·exact .base ho hed
    ·exact .step ho hed (h _ _ hc)
  ·rw [List.getD_eq_getElem?_getD,List.getElem?_eq_none (by simp; omega)] at hb;simp at hb
section
variable {P:Program} {n:Nat} {R:World→World→Prop}
def qa6 {ops:Array Oper} {listed:Array Bool} (hs:listed.size=ops.size) (hc:∀ (i:Nat) (o:Oper) (x:Edge),ops[i]?=some o→listed.getD i true=true→x ∈ o.after→Region.binds .any x=true→listed.getD x.on false=true) {i j:Nat} (ha:Anc ops i j):listed.getD i false=true→listed.getD j false=true:=by
 have hft:∀ k,listed.getD k false=true→listed.getD k true=true:=fun k hk=>by
  rcases Nat.lt_or_ge k listed.size with h | h
  ·simp only [Array.getD_eq_getD_getElem?,Array.getElem?_eq_getElem h,Option.getD_some] at hk ⊢; exact hk
  ·simp [Array.getD_eq_getD_getElem?,Array.getElem?_eq_none h] at hk
 induction ha with
 | base h he =>
  intro hi;obtain ⟨x,hx,hb,rfl⟩:=q0l.1 he;exact hc _ _ x h (hft _ hi) hx hb
 | step h he _ ih =>
  intro hi;obtain ⟨x,hx,hb,rfl⟩:=q0l.1 he;exact ih (hc _ _ x h (hft _ hi) hx hb)
def q7Z {ops:Array Oper} {listed:Array Bool} (hs:listed.size=ops.size) (hc:∀ (i:Nat) (o:Oper) (x:Edge),ops[i]?=some o→listed.getD i true=true→x ∈ o.after→Region.binds .any x=true→listed.getD x.on false=true) {i j:Nat} (ha:Anc ops i j)
  (hr:∀ o,ops[i]?=some o→∀ x ∈ o.after,Region.binds .any x=true→listed.getD x.on false=true):listed.getD j false=true:=by
 cases ha with
 | base h he =>
  obtain ⟨x,hx,hb,rfl⟩:=q0l.1 he;exact hr _ h x hx hb
 | step h he ha =>
  obtain ⟨x,hx,hb,rfl⟩:=q0l.1 he;exact qa6 hs hc ha (hr _ h x hx hb)
def qb3 {ops:Array Oper} (hok:DOk ops) {listed:Array Bool} (hsize:listed.size=ops.size) (hnil:Region.ready .any ops listed=[]):∀ i,i < ops.size→listed.getD i true=true:=by
 intro i
 induction i using Nat.strongRecOn with
 | _ i ih =>
  intro hi;cases hb:listed.getD i true with
  | true=>rfl
  | false =>
   have:i ∈ Region.ready .any ops listed:=by
    unfold Region.ready;rw [List.mem_filter];refine ⟨List.mem_range.2 hi,?_⟩;simp only [hb,Bool.not_false,Bool.true_and,Array.getElem?_eq_getElem hi,Option.map_some,Option.getD_some];rw [Array.all_eq_true'];intro x hx;cases hbx:Region.binds .any x with
    | false=>rfl
    | true =>
     have hlt:=hok.down i ops[i] x (Array.getElem?_eq_getElem hi) hx hbx;have:=ih x.on hlt Oq;have hlt2:x.on < listed.size:=by omega
     simp only [Array.getD_eq_getD_getElem?,Array.getElem?_eq_getElem hlt2,Option.getD_some] at this ⊢;simp [this]
   rw [hnil] at this; cases this
def q42 {ops:Array Oper} {listed:Array Bool} {i:Nat} (hi:i ∈ Region.ready .any ops listed):∃ hlt:i < ops.size,listed.getD i true=false∧∀ x ∈ ops[i].after,Region.binds .any x=true→listed.getD x.on false=true:=by
 unfold Region.ready at hi;rw [List.mem_filter] at hi;obtain ⟨hir,hrd⟩:=hi;have hlt:=List.mem_range.1 hir;have hio:ops[i]?=some ops[i]:=Array.getElem?_eq_getElem hlt;simp only [hio,Option.map_some,Option.getD_some,Bool.and_eq_true] at hrd;obtain ⟨hnl,haf⟩:=hrd;rw [Array.all_eq_true'] at haf;exact ⟨hlt,by simpa using hnl,fun x hx hb=>by have:=haf x hx; simpa [hb] using this⟩
def ft {listed:Array Bool} {j:Nat} (h:j < listed.size):listed.getD j false=listed.getD j true:=by
 simp [Array.getD_eq_getD_getElem?,Array.getElem?_eq_getElem h]
end
def qaG (ops:List Oper) (o:Oper) (j:Nat):Bool:=match (ops[j]?).bind (·.dst) with | some d=>looks ops.toArray o d | none=>false
def q48:List Bool→Nat→Nat→Nat
 | [],_,a=>a
 | b :: m,i,a=>q48 m (i+1) (if b then a else a ||| 2 ^ i)
def dcOk (ops:List Oper) (mask:List Bool):Bool :=
 Nat.beq mask.length ops.length && q7L ops.toArray && (List.range ops.length).all fun i=>match ops[i]? with
  | none=>true
  | some o=>if mask.getD i false then q5A o && (List.range ops.length).all fun j=>mask.getD j true || !qaG ops o j || (match ops[j]? with | some p=>q1N p i | none=>false)
   else ((List.range ops.length).all fun j=>!(mask.getD j false) || !qaG ops o j || q1N o j) && Nat.beq (((qeb ops []).getD i 0) &&& q48 (mask.take i) 0 0) (q48 (mask.take i) 0 0)
def q5V {j:Nat}:∀ (m:List Bool) (i a:Nat),a.testBit j=true→(q48 m i a).testBit j=true
 | [],_,_,h=>h
 | b :: m,i,a,h=>by
  unfold q48;refine q5V m (i+1) _ ?_
  split
  ·exact h
  ·rw [Nat.testBit_or,h,Bool.true_or]
def q47 {j:Nat}:∀ (m:List Bool) (i a:Nat),i≤j→m[j-i]?=some false→(q48 m i a).testBit j=true
 | [],_,_,_,h=>by simp at h
 | b :: m,i,a,hij,h=>by
  unfold q48
  by_cases he:j=i
  ·subst he;simp at h; subst h;refine q5V m _ _ ?_;simp [Nat.testBit_or,Nat.testBit_two_pow_self]
  ·refine q47 m (i+1) _ Oq ?_;rw [show j-i=(j-(i+1))+1 by omega] at h;simpa using h
def qof (mask mask2:List Bool):List Bool:=(mask.zip mask2).map fun b=>!(b.1 && !b.2)
def qao (ops:List Oper) (i:Nat) (m:List Bool):Bool:=Nat.beq (((qeb ops []).getD i 0) &&& q48 m 0 0) (q48 m 0 0)
def pmOk (ops:List Oper) (mask mask2:List Bool) (pm:List Nat):Bool:=Nat.beq pm.length ops.length && Nat.beq mask2.length ops.length && (List.range ops.length).all fun i=>match ops[i]? with
 | none=>true
 | some o=>(match pm.getD i 0 with | 0=>true | 1=>q5A o || qao ops i (mask.map fun b=>!b) | _=>qao ops i (qof mask mask2)) &&
  (!(mask2.getD i false) || (mask.getD i false && (List.range ops.length).all fun j=>mask2.getD j false || !(mask.getD j false) || !qaG ops o j))
def q5K {ops:List Oper} {i j:Nat} {m:List Bool} (h:qao ops i m=true) (hj:m[j]?=some false):Anc ops.toArray i j:=by
 have h5:=Nat.eq_of_beq_eq_true h;have h6:(q48 m 0 0).testBit j=true:=q47 _ 0 0 (Nat.zero_le _) (by rw [Nat.sub_zero]; exact hj);rw [← h5,Nat.testBit_and,Bool.and_eq_true] at h6;exact q46 ops [] [] rfl rfl (fun i j h=>by simp at h) i j h6.1
structure PmOk (ops:List Oper) (mask mask2:List Bool) (pm:List Nat):Prop where
 len:pm.length=ops.length
 one:∀ (i:Nat) (o:Oper),ops[i]?=some o→pm.getD i 0=1→q5A o=true∨∀ j:Nat,mask[j]?=some true→Anc ops.toArray i j
 two:∀ (i:Nat) (o:Oper) (k:Nat),ops[i]?=some o→pm.getD i 0=k+2→∀ j:Nat,mask[j]?=some true→mask2[j]?=some false→Anc ops.toArray i j
 sub:∀ (i:Nat),i < ops.length→mask2[i]?=some true→mask[i]?=some true
 own:∀ (i j:Nat) (o p:Oper) (d:Nat),ops[i]?=some o→ops[j]?=some p→mask2[i]?=some true→mask[j]?=some true→mask2[j]?=some false→p.dst=some d→looks ops.toArray o d=false
 len2:mask2.length=ops.length
def PmOk.of {ops:List Oper} {mask mask2:List Bool} {pm:List Nat} (h:pmOk ops mask mask2 pm=true) (hml:mask.length=ops.length):PmOk ops mask mask2 pm:=by
 unfold pmOk at h;rw [Bool.and_eq_true,Bool.and_eq_true,List.all_eq_true] at h;obtain ⟨⟨h1,h2⟩,h3⟩:=h;have hl2:=Nat.eq_of_beq_eq_true h2;have h4:∀ i o,ops[i]?=some o→_:=fun i o ho=>h3 i (List.mem_range.2 (List.getElem?_eq_some_iff.1 ho).1);have hmk:∀ i,i < ops.length→mask2[i]?=some true→mask[i]?=some true:=fun i hi hm=>by
  obtain ⟨o,ho⟩:∃ o,ops[i]?=some o:=⟨_,List.getElem?_eq_getElem hi⟩;have:=h4 i o ho;simp only [ho,Bool.and_eq_true] at this;have:=this.2;rw [show mask2.getD i false=true by simp [List.getD,hm],Bool.not_true,Bool.false_or,Bool.and_eq_true] at this;have hl:i < mask.length:=by omega
  rw [List.getElem?_eq_getElem hl];have h5:=this.1;rw [List.getD_eq_getElem?_getD,List.getElem?_eq_getElem hl] at h5;simpa using h5
 refine ⟨Nat.eq_of_beq_eq_true h1,fun i o ho hp=>?_,fun i o k ho hp j hj hj2=>?_,hmk,fun i j o p d ho hp hm hm1 hm2 hd=>?_,hl2⟩
 ·have:=h4 i o ho;simp only [ho,hp,Bool.and_eq_true,Bool.or_eq_true] at this
  rcases this.1 with h | h
  ·exact .inl h
  ·exact .inr fun j hj=>q5K h (by rw [List.getElem?_map,hj]; rfl)
 ·have:=h4 i o ho;simp only [ho,hp,Bool.and_eq_true] at this;refine q5K this.1 ?_;unfold qof;have hz:(mask.zip mask2)[j]?=some (true,false):=List.getElem?_zip_eq_some.2 ⟨hj,hj2⟩;rw [List.getElem?_map,hz]; rfl
 ·have:=h4 i o ho;simp only [ho,Bool.and_eq_true] at this;have:=this.2;rw [show mask2.getD i false=true by simp [List.getD,hm],Bool.not_true,Bool.false_or,Bool.and_eq_true,List.all_eq_true] at this;have:=this.2 j (List.mem_range.2 (List.getElem?_eq_some_iff.1 hp).1);rw [show mask2.getD j false=false by simp [List.getD,hm2],show mask.getD j false=true by simp [List.getD,hm1]] at this;unfold qaG at this;simpa [hp,hd] using this
def qbM:List Bool→List Nat→List Oper→List (Nat × Oper)
 | false :: m,b :: pm,o :: os=>(b,o) :: qbM m pm os
 | true :: m,_ :: pm,_ :: os=>qbM m pm os
 | _,_,_=>[]
structure DcOk (ops:List Oper) (mask:List Bool):Prop where
 len:mask.length=ops.length
 draw:q7L ops.toArray=true
 pure:∀ (i:Nat) (o:Oper),ops[i]?=some o→mask[i]?=some true→q5A o=true
 early:∀ (i j:Nat) (o p:Oper) (d:Nat),ops[i]?=some o→ops[j]?=some p→mask[i]?=some true→mask[j]?=some false→p.dst=some d→looks ops.toArray o d=true→q1N p i=true
 late:∀ (i j:Nat) (o p:Oper) (d:Nat),ops[i]?=some o→ops[j]?=some p→mask[i]?=some false→mask[j]?=some true→p.dst=some d→looks ops.toArray o d=true→q1N o j=true
 ord:∀ (i j:Nat),i < ops.length→mask[i]?=some false→mask[j]?=some false→j < i→Anc ops.toArray i j
def DcOk.of {ops:List Oper} {mask:List Bool} (h:dcOk ops mask=true):DcOk ops mask:=by
 unfold dcOk at h;rw [Bool.and_eq_true,Bool.and_eq_true] at h;obtain ⟨⟨h1,h2⟩,h3⟩:=h;have hlen:=Nat.eq_of_beq_eq_true h1;rw [List.all_eq_true] at h3;have h4:∀ i o,ops[i]?=some o→_:=fun i o ho=>h3 i (List.mem_range.2 (List.getElem?_eq_some_iff.1 ho).1);refine ⟨hlen,h2,fun i o ho hm=>?_,fun i j o p d ho hp hm hm' hd hl=>?_,fun i j o p d ho hp hm hm' hd hl=>?_,fun i j hi hm hm' hji=>?_⟩
 ·have:=h4 i o ho;simp only [ho] at this;rw [if_pos (by simp [List.getD,hm]),Bool.and_eq_true] at this;exact this.1
 ·have:=h4 i o ho;simp only [ho] at this;rw [if_pos (by simp [List.getD,hm]),Bool.and_eq_true,List.all_eq_true] at this;have:=this.2 j (List.mem_range.2 (List.getElem?_eq_some_iff.1 hp).1);rw [show mask.getD j true=false by simp [List.getD,hm'],Bool.false_or] at this;unfold qaG at this;simpa [hp,hd,hl] using this
 ·have:=h4 i o ho;simp only [ho] at this;rw [if_neg (by simp [List.getD,hm]),Bool.and_eq_true,List.all_eq_true] at this;have:=this.1 j (List.mem_range.2 (List.getElem?_eq_some_iff.1 hp).1);rw [show mask.getD j false=true by simp [List.getD,hm']] at this;unfold qaG at this;simpa [hp,hd,hl] using this
 ·obtain ⟨o,ho⟩:∃ o,ops[i]?=some o:=⟨_,List.getElem?_eq_getElem hi⟩;have:=h4 i o ho;simp only [ho] at this;rw [if_neg (by simp [List.getD,hm]),Bool.and_eq_true] at this;have h5:=Nat.eq_of_beq_eq_true this.2;have h6:(q48 (mask.take i) 0 0).testBit j=true:=q47 _ 0 0 (Nat.zero_le _) (by rw [Nat.sub_zero,List.getElem?_take,if_pos hji]; exact hm');rw [← h5,Nat.testBit_and,Bool.and_eq_true] at h6;exact q46 ops [] [] rfl rfl (fun i j h=>by simp at h) i j h6.1
section
variable {P:Program} {n:Nat} {R:World→World→Prop}
def WLc (P:Program) (ops:Array Oper) (R R2:World→Prop) (K:Env→World→Prop):List (Nat × Oper)→Env→World→Prop
 | [],e,w=>K e w
 | (0,o) :: rest,e,w=>wg P ops o e w fun v w'=>R w'∧WLc P ops R R2 K rest (put e o.dst v) w'
 | (1,o) :: rest,e,w=>wg P ops o e w fun v w'=>WLc P ops R R2 K rest (put e o.dst v) w'
 | (_+2,o) :: rest,e,w=>wg P ops o e w fun v w'=>R2 w'∧WLc P ops R R2 K rest (put e o.dst v) w'
def qgG {ops:Array Oper} {o:Oper} {e e2:Env} {w:World} {K:Value→World→Prop} (hs:∀ cs b,o.op≠.select cs b) (h:∀ t,looks ops o t=true→e2 t=e t) (hw:WG P ops o e w K):WG P ops o e2 w K:=by
 unfold WG at *;rw [q37 h]
 split
 ·rename_i h1;rw [if_pos h1] at hw;unfold WO at *;rw [execOp_congr (ρ:=ev e2) (ρ':=ev e) o hs fun x hx=>q9F h x (Array.mem_toList_iff.2 hx)];exact hw
 ·rename_i h1
  rwa [if_neg h1] at hw
def q1v:List Bool→Nat→List Nat
 | [],_=>[]
 | b :: m,i=>if b then q1v m (i+1) else i :: q1v m (i+1)
def q2V {j:Nat}:∀ {m:List Bool} {i:Nat},j ∈ q1v m i ↔ i≤j∧m[j-i]?=some false
 | [],i=>by simp [q1v]
 | b :: m,i=>by
  have ih:=q2V (j:=j) (m:=m) (i:=i+1);have key:(i+1≤j∧m[j-(i+1)]?=some false) ↔ (j≠i∧i≤j∧(b :: m)[j-i]?=some false):=by
   constructor
   ·rintro ⟨h1,h2⟩;refine ⟨by omega,by omega,?_⟩;rw [show j-i=(j-(i+1))+1 by omega]; simpa using h2
   ·rintro ⟨h1,h2,h3⟩;refine ⟨by omega,?_⟩;rw [show j-i=(j-(i+1))+1 by omega] at h3;simpa using h3
  unfold q1v;cases b with
  | true =>
   rw [if_pos rfl,ih,key]
   constructor
   ·rintro ⟨_,h2,h3⟩; exact ⟨h2,h3⟩
   ·rintro ⟨h2,h3⟩;refine ⟨fun e=>?_,h2,h3⟩;subst e; simp at h3
  | false =>
   rw [if_neg (by simp),List.mem_cons,ih,key]
   constructor
   ·rintro (rfl | ⟨_,h2,h3⟩)
    ·exact ⟨Nat.le_refl _,by simp⟩
    ·exact ⟨h2,h3⟩
   ·rintro ⟨h2,h3⟩
    by_cases e:j=i
    ·exact .inl e
    ·exact .inr ⟨e,h2,h3⟩
def q1t:∀ (m:List Bool) (i:Nat),(q1v m i).Pairwise (· < ·)
 | [],_=>by simp [q1v]
 | b :: m,i=>by
  unfold q1v
  split
  ·exact q1t m (i+1)
  ·refine List.pairwise_cons.2 ⟨fun j hj=>?_,q1t m (i+1)⟩;have:=(q2V.1 hj).1; omega
def qiU (ops:List Oper) (pm:List Nat) (j:Nat):Option (Nat × Oper):=(ops[j]?).map fun o=>(pm.getD j 0,o)
def qbL {ops:List Oper} {pm:List Nat}:∀ (m:List Bool) (p:List Nat) (os:List Oper) (i:Nat),m.length=os.length→p.length=os.length→(∀ k,os[k]?=ops[i+k]?)→(∀ k,p.getD k 0=pm.getD (i+k) 0)→qbM m p os=(q1v m i).filterMap (qiU ops pm)
 | [],[],[],_,_,_,_,_=>rfl
 | [],_,_ :: _,_,h,_,_,_=>by simp at h
 | _ :: _,_,[],_,h,_,_,_=>by simp at h
 | [],_ :: _,[],_,_,h,_,_=>by simp at h
 | _ :: _,[],_ :: _,_,_,h,_,_=>by simp at h
 | b :: m,q :: p,o :: os,i,h,h',hk,hq=>by
  have ih:=qbL m p os (i+1) (by simpa using h) (by simpa using h') (fun k=>by have:=hk (k+1); rw [show i+1+k=i+(k+1) by omega,← this]; simp)
   (fun k=>by have:=hq (k+1); rw [show i+1+k=i+(k+1) by omega,← this]; simp [List.getD])
  have h0:=hk 0;simp at h0;have q0:=hq 0;rw [Nat.add_zero] at q0;have q1:q=pm.getD i 0:=by rw [← q0]; simp [List.getD]
  cases b with
  | true=>simp only [qbM,q1v]; exact ih
  | false=>simp only [qbM,q1v,Bool.false_eq_true,if_false,List.filterMap_cons,qiU,← h0,Option.map_some,ih,q1]
structure CInv (pm:List Nat) (ops:List Oper) (n:Nat) (S S2:World→Prop) (mask mask2:List Bool) (e es:Env) (K:Env→World→Prop) (P:Program) (listed:Array Bool) (a:Act) (e':Env) (w':World) (ek:Env) (rest:List Nat):Prop where
 size:listed.size=ops.length
 rel:Rel n a e'
 world:((∀ j:Nat,mask[j]?=some true→listed.getD j true=true)∨((∀ j:Nat,mask[j]?=some true→mask2[j]?=some false→listed.getD j true=true)∧S2 w')∨S w')
 run:WLc P ops.toArray S S2 K (rest.filterMap (qiU ops pm)) ek w'
 sort:rest.Pairwise (· < ·)
 late:∀ (i:Nat),i < ops.length→mask[i]?=some false→(listed.getD i true=false ↔ i ∈ rest)
 restL:∀ i ∈ rest,i < ops.length∧mask[i]?=some false
 vals:∀ (i:Nat) (o:Oper) (d:Nat),ops[i]?=some o→listed.getD i true=true→o.dst=some d→e' d=ek d
 old:∀ (t:Nat),(∀ (i:Nat) (o:Oper),ops[i]?=some o→listed.getD i true=true→o.dst≠some t)→e' t=e t
 ekE:∀ (t:Nat),(∀ (i:Nat) (o:Oper),ops[i]?=some o→mask[i]?=some false→listed.getD i true=true→o.dst≠some t)→ek t=es t
 closed:∀ (i:Nat) (o:Oper) (x:Edge),ops.toArray[i]?=some o→listed.getD i true=true→x ∈ o.after→Region.binds .any x=true→listed.getD x.on false=true
def qcm {pm:List Nat} {ops:List Oper} {mask mask2:List Bool} {e es:Env} {S S2:World→Prop} {K:Env→World→Prop} {Q:Exit→Act→World→Prop} (hc:DcOk ops mask) (hpm:PmOk ops mask mask2 pm) {w0:World} (hS0:S w0) (hd:ops.all (q4v n)=true)
  (hes:∀ w',S w'→WLm P ops.toArray (fun x=>x=es) mask ops e w') (hes2:∀ w',S2 w'→WLm P ops.toArray (fun x=>∀ t,t ∈ q1H mask2 ops→x t=es t) mask2 ops e w')
  (hQ:∀ a e' w',Rel n a e'→(∀ t,q3z ops.toArray t=false→e' t=e t)→K e' w'→Q .normal a w') :
  ∀ (fuel:Nat) (listed:Array Bool) (a:Act) (e':Env) (w':World) (ek:Env) (rest:List Nat),ops.length≤fuel+(List.range ops.length).countP (fun i=>listed.getD i true)→CInv pm ops n S S2 mask mask2 e es K P listed a e' w' ek rest→wpAny P .any ops.toArray Q fuel listed a w':=by
 have hok:=DOk.of hc.draw;have hmb:∀ (i:Nat),i < ops.length→mask[i]?=some true∨mask[i]?=some false:=fun i hi=>by
  have hl:i < mask.length:=by rw [hc.len]; exact hi
  rw [List.getElem?_eq_getElem hl];cases mask[i] <;> simp
 have hdd:∀ (i j:Nat) (o p:Oper) (d:Nat),ops[i]?=some o→ops[j]?=some p→o.dst=some d→p.dst=some d→i=j:=fun i j o p d hi hj ho hp=>by
  rcases Nat.decEq i j with h | h
  ·exact absurd hp (hok.one i j o p d (by simpa using hi) (by simpa using hj) h ho)
  ·exact h
 have hesold:∀ w',S w'→∀ t,(∀ (i:Nat) (o:Oper),ops[i]?=some o→mask[i]?=some true→o.dst≠some t)→es t=e t:=fun w' hS t ht=>by
  obtain ⟨es',h1,h2,_⟩:=q2P mask ops e hdd (fun i o a b=>hc.pure i o a b) (hes w' hS);subst h1;exact h2 t fun hm=>by
   obtain ⟨i,o,a,b,c⟩:=q1g.1 hm;exact ht i o a b c
 have hfin:∀ (listed:Array Bool) (a:Act) (e':Env) (w':World) (ek:Env) (rest:List Nat),CInv pm ops n S S2 mask mask2 e es K P listed a e' w' ek rest→(∀ i,i < ops.length→listed.getD i true=true)→Q .normal a w':=by
  intro listed a e' w' ek rest I hall;have hr:rest=[]:=by
   cases hr:rest with
   | nil=>rfl
   | cons i r =>
    obtain ⟨h1,h2⟩:=I.restL i (by rw [hr]; exact List.mem_cons_self);have:=(I.late i h1 h2).2 (by rw [hr]; exact List.mem_cons_self);rw [hall i h1] at this; cases this
  have hrun:=I.run;rw [hr] at hrun;have hee:e'=ek:=by
   funext t
   by_cases hex:∃ (i:Nat) (o:Oper),ops[i]?=some o∧o.dst=some t
   ·obtain ⟨i,o,h1,h2⟩:=hex;exact I.vals i o t h1 (hall i (List.getElem?_eq_some_iff.1 h1).1) h2
   ·have hno:∀ (i:Nat) (o:Oper),ops[i]?=some o→o.dst≠some t:=fun i o h1 h2=>hex ⟨i,o,h1,h2⟩;rw [I.old t fun i o h1 _=>hno i o h1,I.ekE t fun i o h1 _ _=>hno i o h1,hesold w0 hS0 t fun i o h1 _=>hno i o h1]
  refine hQ a e' w' I.rel (fun t ht=>I.old t fun i o h1 _=>q2f ht i o (by simpa using h1)) ?_;rw [hee];exact hrun
 intro fuel
 induction fuel with
 | zero =>
  intro listed a e' w' ek rest hf I;have hle:(List.range ops.length).countP (fun i=>listed.getD i true)=(List.range ops.length).length:=by
   have:=List.countP_le_length (p:=fun i=>listed.getD i true) (l:=List.range ops.length);simp only [List.length_range] at this ⊢; omega
  rw [List.countP_eq_length] at hle;have hall:∀ i,i < ops.length→listed.getD i true=true:=fun i hi=>hle i (List.mem_range.2 hi);refine ⟨?_,hfin _ _ _ _ _ _ I hall⟩;unfold Region.ready;rw [List.filter_eq_nil_iff];intro i hi;have:=hall i (by simpa using List.mem_range.1 hi);simp [this]
 | succ fuel ih =>
  intro listed a e' w' ek rest hf I;have hsz:listed.size=ops.toArray.size:=by rw [I.size]; simp
  refine ⟨fun hnil=>hfin _ _ _ _ _ _ I fun i hi=>qb3 hok hsz hnil i (by simpa using hi),fun i hi=>?_⟩;obtain ⟨hlt,hnl',haf'⟩:=q42 hi;have hlt':i < ops.length:=by simpa using hlt
  obtain ⟨o,ho⟩:∃ o,o=ops[i]:=⟨_,rfl⟩;have hio:ops[i]?=some o:=by rw [ho]; exact List.getElem?_eq_getElem hlt'
  have hio2:ops.toArray[i]?=some o:=by simpa using hio
  have haf:∀ x ∈ o.after,Region.binds .any x=true→listed.getD x.on false=true:=fun x hx hb=>haf' x (by rw [ho] at hx; simpa using hx) hb;have hmem:o ∈ ops:=List.mem_of_getElem? hio;have hdo:q4v n o=true:=by rw [List.all_eq_true] at hd; exact hd _ hmem
  have hli:i < listed.size:=by rw [I.size]; exact hlt'
  have hcount:ops.length≤fuel+(List.range ops.length).countP (fun j=>(listed.setIfInBounds i true).getD j true):=by
   have:(List.range ops.length).countP (fun j=>listed.getD j true)+1≤(List.range ops.length).countP (fun j=>(listed.setIfInBounds i true).getD j true):=by
    have hsplit:List.range ops.length=List.range i ++ i :: (List.range' (i+1) (ops.length-i-1)):=by
     rw [List.range_eq_range',List.range_eq_range',show ops.length=i+(1+(ops.length-i-1)) by omega,← List.range'_append_1,Nat.zero_add]
     congr 1
     rw [show i+(1+(ops.length-i-1))-i-1=ops.length-i-1 by omega,Nat.add_comm 1,List.range'_succ]
    rw [hsplit,List.countP_append,List.countP_append,List.countP_cons,List.countP_cons];have hmono:∀ (L:List Nat),L.countP (fun j=>listed.getD j true)≤L.countP (fun j=>(listed.setIfInBounds i true).getD j true):=by
     intro L;refine List.countP_mono_left (fun j _ hj=>?_);rw [q0L hli]
     split
     ·rfl
     ·exact hj
    have h1:=hmono (List.range i);have h2:=hmono (List.range' (i+1) (ops.length-i-1));simp only [hnl',q0L hli,if_true,if_false,Bool.false_eq_true] at h1 h2 ⊢;omega
   omega
  have hunl:∀ j,q1N o j=true→listed.getD j false=true:=fun j he=>by
   obtain ⟨x,hx,hb,rfl⟩:=q0l.1 he;exact haf x hx hb
  have hft:∀ j,j < ops.length→listed.getD j false=true→listed.getD j true=true:=fun j hj h=>by rwa [← ft (by rw [I.size]; exact hj)]
  have hback:∀ (j:Nat) (p:Oper),ops[j]?=some p→q1N p i=true→listed.getD j true=false:=fun j p hp he=>by
   cases hb:listed.getD j true with
   | false=>rfl
   | true =>
    obtain ⟨x,hx,hbx,hxo⟩:=q0l.1 he;have:=I.closed j p x (by simpa using hp) hb hx hbx;rw [hxo,ft hli,hnl'] at this; cases this
  have hslot:∀ (j:Nat) (p:Oper) (d:Nat),ops[j]?=some p→listed.getD j true=false→p.dst=some d→e' d=e d:=fun j p d hp hl hpd=>I.old d fun j' p' hp' hl' hpd'=>by
   have:=hdd j j' p p' d hp hp' hpd hpd';subst this; rw [hl] at hl'; cases hl'
  have hput:∀ v,Rel n (a.put o.dst v) (put e' o.dst v):=fun v=>I.rel.put _ v (by unfold q4v at hdo; cases hx:o.dst <;> simp_all);have hpne:∀ v (t:Nat),o.dst≠some t→put e' o.dst v t=e' t:=fun v t h0=>by
   cases hx:o.dst with
   | none=>rfl
   | some d' =>
    have:t≠d':=fun h=>h0 (by rw [hx,h]);simp [put,upd,this]
  have hpke:∀ v (t:Nat),o.dst≠some t→put ek o.dst v t=ek t:=fun v t h0=>by
   cases hx:o.dst with
   | none=>rfl
   | some d' =>
    have:t≠d':=fun h=>h0 (by rw [hx,h]);simp [put,upd,this]
  have hpeq:∀ (f:Env) v (t:Nat),o.dst=some t→put f o.dst v t=v:=fun f v t h0=>by rw [h0]; simp [put,upd]
  have hclosed':∀ (j:Nat) (p:Oper) (x:Edge),ops.toArray[j]?=some p→(listed.setIfInBounds i true).getD j true=true→x ∈ p.after→Region.binds .any x=true→(listed.setIfInBounds i true).getD x.on false=true:=by
   intro j p x hp hl hx hb;rw [q0L hli] at hl ⊢
   by_cases hij:i=j
   ·subst hij;have:p=o:=Option.some.inj (hp.symm.trans hio2);subst this
    split
    ·rfl
    ·exact haf x hx hb
   ·rw [if_neg hij] at hl
    split
    ·rfl
    ·exact I.closed j p x hp hl hx hb
  have hold':∀ v (t:Nat),(∀ (j:Nat) (p:Oper),ops[j]?=some p→(listed.setIfInBounds i true).getD j true=true→p.dst≠some t)→put e' o.dst v t=e t:=fun v t ht=>by
   rw [hpne v t (ht i o hio (by rw [q0L hli]; simp))];exact I.old t fun j p hp hl=>ht j p hp (by
    rw [q0L hli]; split
    ·rfl
    ·exact hl)
  rcases hmb i hlt' with hmi | hmi
  ·-- an early one
   have hwg:∃ v,(∀ d,o.dst=some d→es d=v)∧wg P ops.toArray o e' w' fun v' w''=>v'=v∧w''=w':=by
    have hcore:∀ (mk:List Bool) (ei es1:Env) (v:Value),mk[i]?=some true→(∀ j:Nat,mk[j]?=some true→mask[j]?=some true)→(∀ (j:Nat) (p:Oper) (d:Nat),ops[j]?=some p→mask[j]?=some true→mk[j]?≠some true→p.dst=some d→looks ops.toArray o d=false) →
      (∀ t,t ∈ q1H mk ops→es1 t=es t)→(∀ t,(∀ (j:Nat) (p:Oper),j < i→ops[j]?=some p→mk[j]?=some true→p.dst≠some t)→ei t=e t) →
      (∀ t,(∃ (j:Nat) (p:Oper),j < i∧ops[j]?=some p∧mk[j]?=some true∧p.dst=some t)→ei t=es1 t) →
      (∀ (e2:Env) (w':World),(∀ t,looks ops.toArray o t=true→e2 t=ei t)→(q6x o=true→Ext w' w')→∀ K':Value→World→Prop,K' v w'→True)→∀ t,looks ops.toArray o t=true→e' t=ei t:=by
     intro mk ei es1 v hmki hmk hmno hes1 g1 g2 _ t ht
     by_cases hex:∃ (j:Nat) (p:Oper),ops[j]?=some p∧p.dst=some t
     ·obtain ⟨j,p,hp,hpd⟩:=hex;have hjl:=(List.getElem?_eq_some_iff.1 hp).1
      by_cases hij:i=j
      ·subst hij;rw [hslot i p t hp hnl' hpd,g1 t fun k q hk hq hmq hqd=>by have:=hdd k i q p t hq hp hqd hpd; omega]
      ·rcases hmb j hjl with hmj | hmj
       ·by_cases hmj2:mk[j]?=some true
        ·rcases hok.seen i j o p t hio2 (by simpa using hp) hij hpd ht with he | he
         ·have hji:j < i:=by
           obtain ⟨x,hx,hb,rfl⟩:=q0l.1 he;exact hok.down i o x hio2 hx hb
          rw [g2 t ⟨j,p,hji,hp,hmj2,hpd⟩,hes1 t (q1g.2 ⟨j,p,hp,hmj2,hpd⟩),I.vals j p t hp (hft j hjl (hunl j he)) hpd];exact I.ekE t fun k q hq hmq _ hqd=>by
           have:=hdd k j q p t hq hp hqd hpd;subst this; rw [hmj] at hmq; cases hmq
         ·have hij':i < j:=by
           obtain ⟨x,hx,hb,hxo⟩:=q0l.1 he;have:=hok.down j p x (by simpa using hp) hx hb; omega
          rw [hslot j p t hp (hback j p hp he) hpd,g1 t fun k q hk hq hmq hqd=>by have:=hdd k j q p t hq hp hqd hpd; omega]
        ·have:=hmno j p t hp hmj hmj2 hpd;rw [ht] at this; cases this
       ·have he:=hc.early i j o p t hio hp hmi hmj hpd ht;rw [hslot j p t hp (hback j p hp he) hpd,g1 t fun k q hk hq hmq hqd=>by
         have:=hdd k j q p t hq hp hqd hpd;subst this;have:=hmk k hmq;rw [hmj] at this; cases this]
     ·have hno:∀ (j:Nat) (p:Oper),ops[j]?=some p→p.dst≠some t:=fun j p h1 h2=>hex ⟨j,p,h1,h2⟩;rw [I.old t fun j p hp _=>hno j p hp,g1 t fun k q _ hq _=>hno k q hq]
    rcases I.world with h | ⟨h,hS2⟩ | hS
    ·have:=h i hmi;rw [hnl'] at this; cases this
    ·have hm2:mask2[i]?=some true:=by
      have hl:i < mask2.length:=by rw [hpm.len2]; exact hlt'
      rw [List.getElem?_eq_getElem hl];cases hb:mask2[i] with
      | true=>rfl
      | false =>
       have:=h i hmi (by rw [List.getElem?_eq_getElem hl,hb]);rw [hnl'] at this; cases this
     obtain ⟨es1,h1,_,h3⟩:=q2P mask2 ops e hdd (fun i o a b=>hc.pure i o a (hpm.sub i (List.getElem?_eq_some_iff.1 a).1 b)) (hes2 w' hS2);obtain ⟨ei,v,g1,g2,g3,g4⟩:=h3 i o hio hm2;refine ⟨v,fun d hd=>by rw [← h1 d (q1g.2 ⟨i,o,hio,hm2,hd⟩)]; exact g3 d hd,g4 e' w' (hcore mask2 ei es1 v hm2 (fun j hj=>hpm.sub j (by have:=(List.getElem?_eq_some_iff.1 hj).1; rw [hpm.len2] at this; exact this) hj) (fun j p d hp hm1 hm2' hd=>hpm.own i j o p d hio hp hm2 hm1 (by
       have hl:j < mask2.length:=by rw [hpm.len2]; exact (List.getElem?_eq_some_iff.1 hp).1
       rw [List.getElem?_eq_getElem hl] at hm2' ⊢;cases hb:mask2[j] with
       | true=>rw [hb] at hm2'; exact absurd rfl hm2'
       | false=>rfl) hd) h1 g1 g2 (fun _ _ _ _ _ _=>trivial)) (fun _=>Kp.refl _ _) _ ⟨rfl,rfl⟩⟩
    ·obtain ⟨es1,h1,_,h3⟩:=q2P mask ops e hdd (fun i o a b=>hc.pure i o a b) (hes w' hS);subst h1;obtain ⟨ei,v,g1,g2,g3,g4⟩:=h3 i o hio hmi;exact ⟨v,g3,g4 e' w' (hcore mask ei es1 v hmi (fun _ h=>h) (fun j p d hp hm1 hm2' hd=>absurd hm1 hm2') (fun _ _=>rfl) g1 g2 (fun _ _ _ _ _ _=>trivial)) (fun _=>Kp.refl _ _) _ ⟨rfl,rfl⟩⟩
   obtain ⟨v,g3,hwg⟩:=hwg;have hstep:=q0s hwg;have hnext:wpAny P .any ops.toArray Q fuel (listed.setIfInBounds i true) (a.put o.dst v) w':=by
    refine ih _ _ (put e' o.dst v) w' ek rest hcount ⟨by simpa using I.size,hput v,I.world.imp (fun h k hk=>by
     rw [q0L hli]; split
     ·rfl
     ·exact h k hk) (Or.imp (fun h=>⟨fun k hk hk2=>by
     rw [q0L hli]; split
     ·rfl
     ·exact h.1 k hk hk2,h.2⟩) id),I.run,I.sort,?_,I.restL,?_,hold' v,?_,hclosed'⟩
    ·intro j hj hmj;rw [q0L hli,if_neg (fun h=>by subst h; rw [hmi] at hmj; cases hmj)];exact I.late j hj hmj
    ·intro j p d hp hl hpd;rw [q0L hli] at hl
     by_cases hij:i=j
     ·subst hij;have:p=o:=Option.some.inj (hp.symm.trans hio);subst this;rw [hpeq e' v d hpd,← g3 d hpd];exact (I.ekE d fun k q hq hmq _ hqd=>by
       have:=hdd k i q p d hq hio hqd hpd;subst this; rw [hmi] at hmq; cases hmq).symm
     ·rw [if_neg hij] at hl;rw [hpne v d fun hx=>hij (hdd i j o p d hio hp hx hpd)];exact I.vals j p d hp hl hpd
    ·intro t ht;exact I.ekE t fun j p hp hmj hl=>ht j p hp hmj (by
      rw [q0L hli]; split
      ·rfl
      ·exact hl)
   unfold wpOp;simp only [hio2];rw [q30 I.rel (by simpa using hd)];unfold WG at hstep
   split
   ·rename_i hw;rw [if_pos hw] at hstep;exact .inl (q2u I.rel hstep fun v' w'' ⟨h1,h2⟩=>by subst h1; subst h2; exact hnext)
   ·rename_i hw;rw [if_neg hw] at hstep;obtain ⟨h1,h2⟩:=hstep;rw [h1]; exact hnext
  ·-- the next of the late ones
   have hir:i ∈ rest:=(I.late i hlt' hmi).1 hnl';obtain ⟨j,r,hr⟩:∃ j r,rest=j :: r:=by
    cases hr:rest with
    | nil=>rw [hr] at hir; cases hir
    | cons j r=>exact ⟨j,r,rfl⟩
   have hji:j=i:=by
    rw [hr] at hir
    rcases List.mem_cons.1 hir with h | h
    ·exact h.symm
    ·have hs:=I.sort;rw [hr] at hs;have hlt2:=(List.pairwise_cons.1 hs).1 i h;obtain ⟨hj1,hj2⟩:=I.restL j (by rw [hr]; exact List.mem_cons_self);have:=q7Z hsz I.closed (hc.ord i j hlt' hmi hj2 hlt2) (fun p hp x hx hb=>by
      rw [hio2] at hp; cases hp; exact haf x hx hb)
     have h2:=(I.late j hj1 hj2).2 (by rw [hr]; exact List.mem_cons_self);rw [ft (by rw [I.size]; exact hj1),h2] at this; cases this
   subst hji;have hrun:=I.run;rw [hr] at hrun;simp only [List.filterMap_cons,qiU,hio,Option.map_some] at hrun;have hWG:WG P ops.toArray o ek w' fun v w''=>((∀ j:Nat,mask[j]?=some true→listed.getD j true=true)∨((∀ j:Nat,mask[j]?=some true→mask2[j]?=some false→listed.getD j true=true)∧S2 w'')∨S w'')∧WLc P ops.toArray S S2 K (r.filterMap (qiU ops pm)) (put ek o.dst v) w'':=by
    obtain ⟨b,hb⟩:∃ b,b=pm.getD j 0:=⟨_,rfl⟩;rw [← hb] at hrun;have hanc:∀ k:Nat,mask[k]?=some true→Anc ops.toArray j k→listed.getD k true=true:=fun k hk ha=>by
     have:=q7Z hsz I.closed ha (fun p hp x hx hb=>by
      rw [hio2] at hp; cases hp; exact haf x hx hb)
     have hkl:k < ops.length:=by have:=(List.getElem?_eq_some_iff.1 hk).1; have:=hc.len; omega
     exact hft k hkl this
    match b,hb,hrun with
    | 1,hb,hrun =>
     rcases hpm.one j o hio hb.symm with hp | ha
     ·obtain ⟨v,hv,hre⟩:=qan hp hrun;exact q0s (hre ek w' (fun _ _=>rfl) (fun _=>Kp.refl _ _) _ ⟨I.world,hv⟩)
     ·exact q3d (fun v w'' h=>⟨.inl fun k hk=>hanc k hk (ha k hk),h⟩) (q0s hrun)
    | 0,hb,hrun=>exact q3d (fun v w'' h=>⟨.inr (.inr h.1),h.2⟩) (q0s hrun)
    | b+2,hb,hrun=>exact q3d (fun v w'' h=>⟨.inr (.inl ⟨fun k hk hk2=>hanc k hk (hpm.two j o b hio hb.symm k hk hk2),h.1⟩),h.2⟩) (q0s hrun)
   have hsel:∀ cs b,o.op≠.select cs b:=fun cs b hsel=>by
    have:=hc.draw;unfold q7L at this;rw [List.all_eq_true] at this;have:=this j (List.mem_range.2 hlt);simp only [hio,Bool.and_eq_true] at this;have:=this.1.2;rw [hsel] at this; simp at this
   have hstep:WG P ops.toArray o e' w' fun v w''=>((∀ j:Nat,mask[j]?=some true→listed.getD j true=true)∨((∀ j:Nat,mask[j]?=some true→mask2[j]?=some false→listed.getD j true=true)∧S2 w'')∨S w'')∧WLc P ops.toArray S S2 K (r.filterMap (qiU ops pm)) (put ek o.dst v) w'':=by
    refine qgG hsel (fun t ht=>?_) hWG
    by_cases hex:∃ (k:Nat) (p:Oper),ops[k]?=some p∧p.dst=some t
    ·obtain ⟨k,p,hp,hpd⟩:=hex;have hkl:=(List.getElem?_eq_some_iff.1 hp).1;have hun:mask[k]?=some false→listed.getD k true=false→e' t=ek t:=fun hmk hlk=>by
      rw [hslot k p t hp hlk hpd,I.ekE t fun k' q hq hmq hlq hqd=>by
       have:=hdd k' k q p t hq hp hqd hpd;subst this; rw [hlk] at hlq; cases hlq]
      exact (hesold w0 hS0 t fun k' q hq hmq hqd=>by
       have:=hdd k' k q p t hq hp hqd hpd;subst this; rw [hmk] at hmq; cases hmq).symm
     by_cases hij:j=k
     ·subst hij; exact hun hmi hnl'
     ·rcases hmb k hkl with hmk | hmk
      ·exact I.vals k p t hp (hft k hkl (hunl k (hc.late j k o p t hio hp hmi hmk hpd ht))) hpd
      ·rcases hok.seen j k o p t hio2 (by simpa using hp) hij hpd ht with he | he
       ·exact I.vals k p t hp (hft k hkl (hunl k he)) hpd
       ·exact hun hmk (hback k p hp he)
    ·have hno:∀ (k:Nat) (p:Oper),ops[k]?=some p→p.dst≠some t:=fun k p h1 h2=>hex ⟨k,p,h1,h2⟩;rw [I.old t fun k p hp _=>hno k p hp,I.ekE t fun k p hp _ _=>hno k p hp,hesold w0 hS0 t fun k p hp _=>hno k p hp]
   have hsr:=I.sort;rw [hr] at hsr;have hnext:∀ v w'',((∀ j:Nat,mask[j]?=some true→listed.getD j true=true)∨((∀ j:Nat,mask[j]?=some true→mask2[j]?=some false→listed.getD j true=true)∧S2 w'')∨S w'')∧WLc P ops.toArray S S2 K (r.filterMap (qiU ops pm)) (put ek o.dst v) w''→wpAny P .any ops.toArray Q fuel (listed.setIfInBounds j true) (a.put o.dst v) w'':=by
    rintro v w'' ⟨hS,hW⟩;refine ih _ _ (put e' o.dst v) w'' (put ek o.dst v) r hcount ⟨by simpa using I.size,hput v,hS.imp (fun h k hk=>by
     rw [q0L hli]; split
     ·rfl
     ·exact h k hk) (Or.imp (fun h=>⟨fun k hk hk2=>by
     rw [q0L hli]; split
     ·rfl
     ·exact h.1 k hk hk2,h.2⟩) id),hW,(List.pairwise_cons.1 hsr).2,?_,fun k hk=>I.restL k (by rw [hr]; exact List.mem_cons_of_mem _ hk),?_,hold' v,?_,hclosed'⟩
    ·intro k hk hmk;rw [q0L hli]
     by_cases hjk:j=k
     ·subst hjk;simp only [if_true]
      constructor
      ·intro h; cases h
      ·intro h; have:=(List.pairwise_cons.1 hsr).1 j h; omega
     ·rw [if_neg hjk,I.late k hk hmk,hr,List.mem_cons]
      constructor
      ·rintro (h | h)
       ·exact absurd h.symm hjk
       ·exact h
      ·exact fun h=>.inr h
    ·intro k p d hp hl hpd;rw [q0L hli] at hl
     by_cases hjk:j=k
     ·subst hjk;have:p=o:=Option.some.inj (hp.symm.trans hio);subst this;rw [hpeq e' v d hpd,hpeq ek v d hpd]
     ·rw [if_neg hjk] at hl;have hne:o.dst≠some d:=fun hx=>hjk (hdd j k o p d hio hp hx hpd);rw [hpne v d hne,hpke v d hne];exact I.vals k p d hp hl hpd
    ·intro t ht;have hne:o.dst≠some t:=ht j o hio hmi (by rw [q0L hli]; simp);rw [hpke v t hne];exact I.ekE t fun k p hp hmk hl=>ht k p hp hmk (by
      rw [q0L hli]; split
      ·rfl
      ·exact hl)
   unfold wpOp;simp only [hio2];rw [q30 I.rel (by simpa using hd)];unfold WG at hstep
   split
   ·rename_i hw;rw [if_pos hw] at hstep;exact .inl (q2u I.rel hstep fun v w'' hk=>hnext v w'' hk)
   ·rename_i hw;rw [if_neg hw] at hstep;exact hnext _ _ hstep
def qpy {id:Nat} {ops:List Oper} {Q:Exit→Env→World→Prop} {e:Env} {w:World} (hm:P.follows .mixedOrders=true) (R R2:World→World→Prop) (hR:Pre R) (mask mask2:List Bool) (pm:List Nat) (hok:(dcOk ops mask && pmOk ops mask mask2 pm)=true)
  (h:∃ es,(∀ w',R w w'→∀ KE:Env→Prop,KE es→WLm P ops.toArray KE mask ops e w')∧(∀ w',R2 w w'→∀ KE:Env→Prop,(∀ x,(∀ t,t ∈ q1H mask2 ops→x t=es t)→KE x)→WLm P ops.toArray KE mask2 ops e w')∧∀ w',Ext w w'→R w w'→WLc P ops.toArray (R w) (R2 w) (Q .normal) (qbM mask pm ops) es w'):W P n (.region id ops.toArray true) Q e w:=by
 obtain ⟨es,h1,h12,h2⟩:=h;intro hd a hr;have hd':ops.all (q4v n)=true:=by
  have:ops.toArray.toList.all (q4v n)=true:=hd;simpa using this
 rw [Bool.and_eq_true] at hok;have hc:=DcOk.of hok.1;have hpm:=PmOk.of hok.2 hc.len;have hw0:R w { w with drawn:=w.drawn+1 }:=hR.drew w _;have hfalse:∀ i,i < ops.length→(Array.replicate ops.toArray.size false).getD i true=false:=fun i hi=>by
  have hi':i < ops.toArray.size:=by simpa using hi
  rw [Array.getD_eq_getD_getElem?,Array.getElem?_replicate,if_pos hi']; rfl
 refine wp_region_any hm (qcm (n:=n) (e:=e) (es:=es) (S:=R w) (K:=Q .normal) (mask:=mask) (mask2:=mask2) (S2:=R2 w) (pm:=pm) hc hpm hw0 hd' (fun w' hw'=>h1 w' hw' _ rfl) (fun w' hw'=>h12 w' hw' _ fun _ h=>h) ?_ ops.toArray.size _ a e _ es (q1v mask 0) (by simp) ⟨by simp,hr,.inr (.inr hw0),?_,q1t _ _,?_,?_,?_,fun _ _=>rfl,fun _ _=>rfl,?_⟩)
 ·intro a' e' w' r' h2 h3;exact ⟨e',r',h2,h3⟩
 ·rw [← qbL mask pm ops 0 hc.len hpm.len (fun k=>by rw [Nat.zero_add]) (fun k=>by rw [Nat.zero_add])];exact h2 _ (Kp.drew w _) hw0
 ·intro i hi hmi;rw [hfalse i hi];exact ⟨fun _=>q2V.2 ⟨Nat.zero_le _,by simpa using hmi⟩,fun _=>rfl⟩
 ·intro i hi;have h3:=(q2V.1 hi).2;rw [Nat.sub_zero] at h3;exact ⟨by have:=(List.getElem?_eq_some_iff.1 h3).1; have:=hc.len; omega,h3⟩
 ·intro i o d ho hl;rw [hfalse i (List.getElem?_eq_some_iff.1 ho).1] at hl; cases hl
 ·intro i o x ho hl;rw [hfalse i (by simpa using (Array.getElem?_eq_some_iff.1 ho).1)] at hl; cases hl
end
section
variable {P:Program} {ops:Array Oper} {R R2:World→Prop} {K:Env→World→Prop} {e:Env} {w:World} {o:Oper} {os:List Oper} {m:List Bool} {b:Nat} {pm:List Nat} {l:List (Nat × Oper)}
def qkp:WLc P ops R R2 K [] e w=K e w:=rfl
def WLc_0:WLc P ops R R2 K ((0,o) :: l) e w=wg P ops o e w fun v w'=>R w'∧WLc P ops R R2 K l (put e o.dst v) w':=rfl
def WLc_1:WLc P ops R R2 K ((1,o) :: l) e w=wg P ops o e w fun v w'=>WLc P ops R R2 K l (put e o.dst v) w':=rfl
def WLc_2:WLc P ops R R2 K ((2,o) :: l) e w=wg P ops o e w fun v w'=>R2 w'∧WLc P ops R R2 K l (put e o.dst v) w':=rfl
def q6g:qbM (true :: m) (b :: pm) (o :: os)=qbM m pm os:=rfl
def q6i:qbM (false :: m) (b :: pm) (o :: os)=(b,o) :: qbM m pm os:=rfl
def q6h:qbM [] [] []=[]:=rfl
@[congr] theorem qqB {e':Env} (h:e=e'):WLc P ops R R2 K l e w=WLc P ops R R2 K l e' w:=by rw [h]
attribute [go_sem ↓] qkp WLc_0 WLc_1 WLc_2
attribute [irreducible] WLc
end
section
variable {P:Program} {n:Nat} {R:World→World→Prop}
def qgf {f:Env} {x:Option Nat} {v:Value} {t:Nat} (h0:x≠some t):put f x v t=f t:=by
 cases hx:x with
 | none=>rfl
 | some d' =>
  have:t≠d':=fun h=>h0 (by rw [hx,h]);simp [put,upd,this]
end
inductive Sch where
 | fin:Sch
 | one:Nat→Sch→Sch
 | alt:Sch→Sch→Sch
def q5y:Sch→List Nat
 | .fin=>[]
 | .one i _=>[i]
 | .alt s t=>q5y s ++ q5y t
def qaE:List Oper→Nat→Oper
 | o :: _,0=>o
 | _ :: l,i+1=>qaE l i
 | [], _ => ⟨none, .move (.const undef), 0, "", #[], none⟩
def q9A {o:Oper} {l:List Oper}:qaE (o :: l) 0=o:=rfl
def qbl {o:Oper} {l:List Oper} {i:Nat}:qaE (o :: l) (i+1)=qaE l i:=rfl
def q7w:∀ {l:List Oper} {i:Nat} {o:Oper},l[i]?=some o→qaE l i=o
 | o :: _,0,_,h=>by rw [q9A]; simpa using h
 | _ :: l,i+1,_,h=>q7w (l:=l) (by simpa using h)
 | [],i,_,h=>by simp at h
def qpR:List Nat→List Nat→Bool
 | [],[]=>true
 | a :: l,b :: m=>Nat.beq a b && qpR l m
 | _,_=>false
def q8W:∀ {l m:List Nat},qpR l m=true→l=m
 | [],[],_=>rfl
 | a :: l,b :: m,h=>by
  simp only [qpR,Bool.and_eq_true] at h;rw [Nat.eq_of_beq_eq_true h.1,q8W h.2]
 | [],_ :: _,h=>by cases h
 | _ :: _,[],h=>by cases h
def qc8 (ops:List Oper) (l:Array Bool) (i:Nat):Bool :=
 q5A (qaE ops i) && !q6x (qaE ops i) && Region.free .any ops.toArray l i && (Region.ready .any ops.toArray l).any (Nat.beq i)
def q5g (ops:List Oper):Sch→Bool→Nat→Array Bool→Bool
 | .fin,b,_,l=>!b && (Region.ready .any ops.toArray l).isEmpty
 | .one i s,b,f+1,l=>(b || qc8 ops l i || qpR (Region.ready .any ops.toArray l) [i]) && q5g ops s false f (l.setIfInBounds i true)
 | .one _ _,_,0,_=>false
 | .alt s t,b,f,l=>(b || qpR (Region.ready .any ops.toArray l) (q5y s ++ q5y t)) && !(q5y s).isEmpty && !(Nat.beq f 0) && q5g ops s true f l && q5g ops t true f l
def WS (P:Program) (ops:List Oper) (K:Env→World→Prop):Sch→Env→World→Prop
 | .fin,e,w=>K e w
 | .one i s,e,w=>wg P ops.toArray (qaE ops i) e w fun v w'=>WS P ops K s (put e (qaE ops i).dst v) w'
 | .alt s t,e,w=>WS P ops K s e w∧WS P ops K t e w
section
variable {P:Program} {n:Nat}
def qh5 {ops:List Oper} {K:Env→World→Prop} {e:Env} {w:World}:WS P ops K .fin e w=K e w:=rfl
def qdY {ops:List Oper} {K:Env→World→Prop} {e:Env} {w:World} {i:Nat} {s:Sch}:WS P ops K (.one i s) e w=wg P ops.toArray (qaE ops i) e w fun v w'=>WS P ops K s (put e (qaE ops i).dst v) w':=rfl
def qdZ {ops:List Oper} {K:Env→World→Prop} {e:Env} {w:World} {s t:Sch}:WS P ops K (.alt s t) e w=(WS P ops K s e w∧WS P ops K t e w):=rfl
@[congr] theorem WS_congr {ops:List Oper} {K:Env→World→Prop} {e e':Env} {w:World} {s:Sch} (h:e=e'):WS P ops K s e w=WS P ops K s e' w:=by rw [h]
def q3V {r:Result Value} {x:Next} {w':World} (h:r.andThen (fun a w=>.ok (.value a) w)=.ok x w'):∃ v,x=.value v:=by
 cases r with
 | ok a w=>simp only [Result.andThen_ok] at h; cases h; exact ⟨_,rfl⟩
 | halt=>cases h
def qbU {o:Oper} (hp:q5A o=true) {ρ:Operand→Value} {w:World} {x:Next} {w':World} (h:(execOp ρ o).run P w=.ok x w'):∃ v,x=.value v:=by
 obtain ⟨d,op,ty,pos,af,g⟩:=o;cases op <;> (try (cases hp; done)) <;> simp only [execOp,Sem.run_bind,Sem.run_pure] at h
 case move=>cases h; exact ⟨_,rfl⟩
 case assign=>cases h; exact ⟨_,rfl⟩
 case pick c a b =>
  cases hr:(asBool (ρ c)).run P w with
  | ok b w1 =>
   rw [hr] at h;cases b <;> (simp only [Result.andThen_ok] at h; cases h; exact ⟨_,rfl⟩)
  | halt=>rw [hr] at h; cases h
 case call c =>
  unfold q5A at hp;simp only at hp;cases hc:c.callee with
  | builtin b =>
   rw [hc] at hp;simp only [resolve,hc,Sem.run_pure,Result.andThen_ok,invoke] at h;cases b <;> (try (cases hp; done)) <;> simp only [builtin,Sem.run_bind,Sem.run_pure] at h <;> exact q3V h
  | invoke=>rw [hc] at hp; cases hp
  | value f=>rw [hc] at hp; cases hp
 all_goals exact q3V h
def q5k {ops:Array Oper} {l:Array Bool} {i:Nat} (h:i ∈ Region.ready .any ops l):i < ops.size:=(q42 h).1
def qiV {ops:List Oper} {Q:Exit→Act→World→Prop} {K:Env→World→Prop} {e0:Env} (hs:Region.noSelect ops.toArray=true) (hd:ops.all (q4v n)=true)
  (hQp:∀ c a a' w,Q (.panic c) a w→Q (.panic c) a' w)
  (hQ:∀ a e' w',Rel n a e'→(∀ t,q3z ops.toArray t=false→e' t=e0 t)→K e' w'→Q .normal a w') :
  ∀ (s:Sch) (b:Bool) (f:Nat) (l:Array Bool) (a:Act) (e:Env) (w:World),q5g ops s b f l=true→Rel n a e→(∀ t,q3z ops.toArray t=false→e t=e0 t)→WS P ops K s e w →
   (b=false→wpAny P .any ops.toArray Q f l a w)∧(b=true→∀ i ∈ q5y s,(∃ o,ops[i]?=some o)→∀ f',f=f'+1→wpOp P ops.toArray Q i (wpAny P .any ops.toArray Q f' (l.setIfInBounds i true)) a w):=by
 intro s;have hdo:∀ (i:Nat) (o:Oper),ops[i]?=some o→∀ {a:Act} {e:Env} (v:Value),Rel n a e→Rel n (a.put o.dst v) (put e o.dst v):=fun i o ho a e v hr=>by
  have h1:q4v n o=true:=by rw [List.all_eq_true] at hd; exact hd _ (List.mem_of_getElem? ho)
  exact hr.put _ v (by unfold q4v at h1; cases hx:o.dst <;> simp_all)
 have hold:∀ (i:Nat) (o:Oper),ops[i]?=some o→∀ {e:Env} (v:Value),(∀ t,q3z ops.toArray t=false→e t=e0 t)→∀ t,q3z ops.toArray t=false→put e o.dst v t=e0 t:=fun i o ho e v h t ht=>by
  rw [qgf (q2f ht i o (by simpa using ho))]; exact h t ht
 have hop:∀ (i:Nat) (o:Oper),ops[i]?=some o→∀ {a:Act} {e:Env} {w:World} {Kv:Value→World→Prop} {K':Act→World→Prop},Rel n a e→wg P ops.toArray o e w Kv→(∀ v w',Kv v w'→K' (a.put o.dst v) w')→wpOp P ops.toArray Q i K' a w:=fun i o ho a e w Kv K' hr h hk=>by
  have h1:=q0s h;unfold wpOp;have hio2:ops.toArray[i]?=some o:=by simpa using ho
  simp only [hio2];rw [q30 hr (by simpa using hd)];unfold WG at h1
  split
  ·rename_i hw;rw [if_pos hw] at h1;exact .inl (q2u hr h1 hk)
  ·rename_i hw;rw [if_neg hw] at h1;exact hk _ _ h1
 induction s with
 | fin =>
  intro b f l a e w hok hr hold0 h;simp only [q5g,Bool.and_eq_true,List.isEmpty_iff,Bool.not_eq_true'] at hok;exact ⟨fun _=>wpAny_done hok.2 (hQ a e w hr hold0 h) f,fun hb=>by rw [hb] at hok; cases hok.1⟩
 | one i s ih =>
  intro b f l a e w hok hr hold0 h;cases f with
  | zero=>cases b <;> simp [q5g] at hok
  | succ f =>
   simp only [q5g,Bool.and_eq_true] at hok;obtain ⟨hok1,hok2⟩:=hok;rw [qdY] at h;have step:∀ o,ops[i]?=some o→wpOp P ops.toArray Q i (wpAny P .any ops.toArray Q f (l.setIfInBounds i true)) a w:=fun o ho=>by
    rw [q7w ho] at h;exact hop i o ho hr h fun v w' hv=>(ih false f _ _ _ _ hok2 (hdo i o ho v hr) (hold i o ho v hold0) hv).1 rfl
   refine ⟨fun hb=>?_,fun hb j hj ⟨o,ho⟩ f' hf=>?_⟩
   ·subst hb;rw [Bool.false_or,Bool.or_eq_true] at hok1
    rcases hok1 with hf | hf
    ·unfold qc8 at hf;rw [Bool.and_eq_true,Bool.and_eq_true,Bool.and_eq_true] at hf;obtain ⟨⟨⟨h1,h2⟩,h3⟩,h4⟩:=hf;rw [List.any_eq_true] at h4;obtain ⟨j,hj,hji⟩:=h4;obtain rfl:i=j:=Nat.eq_of_beq_eq_true hji;have hlt:i < ops.length:=by simpa using q5k hj
     have ho:ops[i]?=some ops[i]:=List.getElem?_eq_getElem hlt;generalize ops[i]=o at ho;rw [q7w ho] at h h1 h2;obtain ⟨v,hv,hev⟩:=qan h1 h;have hio2:ops.toArray[i]?=some o:=by simpa using ho
     have hstep:∀ w2,WG P ops.toArray o e w2 fun v' w3=>v'=v∧w3=w2:=fun w2=>q0s (hev e w2 (fun _ _=>rfl) (fun hl=>by rw [hl] at h2; cases h2) _ ⟨rfl,rfl⟩);have hy:Yields P ops.toArray o v a:=by
      unfold Yields;rw [q30 hr (by simpa using hd)];cases hw:q4x ops.toArray e o with
      | true =>
       refine .inl ⟨rfl,fun w2=>?_⟩;have h5:=hstep w2;unfold WG at h5;rw [if_pos hw] at h5;unfold WO at h5;rw [hr.eval];cases hx:(execOp (ev e) o).run P w2 with
       | ok x w3 =>
        obtain ⟨v3,rfl⟩:=qbU h1 hx;rw [hx] at h5;simp only [RO] at h5;rw [h5.1,h5.2]
       | halt=>rw [hx] at h5; exact h5.elim
      | false =>
       refine .inr ⟨rfl,?_⟩;have h5:=hstep w;unfold WG at h5;rw [if_neg (by rw [hw]; simp)] at h5;exact h5.1.symm
     refine wpAny_take hio2 hs h3 (by simpa using hj) (fun c a' w' hq=>hQp c _ _ w' hq) hy ?_;exact (ih false f _ _ _ _ hok2 (hdo i o ho v hr) (hold i o ho v hold0) hv).1 rfl
    ·have hrd:=q8W hf;refine wpAny_all hrd (by simp) fun j hj=>?_;simp only [List.mem_singleton] at hj;subst hj;have hlt:j < ops.length:=by simpa using q5k (show j ∈ Region.ready .any ops.toArray l by rw [hrd]; simp)
     exact step _ (List.getElem?_eq_getElem hlt)
   ·simp only [q5y,List.mem_singleton] at hj;subst hj;obtain rfl:f=f':=by omega
    exact step o ho
 | alt s t ihs iht =>
  intro b f l a e w hok hr hold0 h;simp only [q5g,Bool.and_eq_true] at hok;obtain ⟨⟨⟨⟨hok1,hok2⟩,hok3⟩,hok4⟩,hok5⟩:=hok;rw [qdZ] at h;have hs1:=(ihs true f l a e w hok4 hr hold0 h.1).2 rfl;have ht1:=(iht true f l a e w hok5 hr hold0 h.2).2 rfl;have key:∀ i ∈ q5y s ++ q5y t,(∃ o,ops[i]?=some o)→∀ f',f=f'+1→wpOp P ops.toArray Q i (wpAny P .any ops.toArray Q f' (l.setIfInBounds i true)) a w:=fun i hi ho f' hf=>by
   rcases List.mem_append.1 hi with hi | hi
   ·exact hs1 i hi ho f' hf
   ·exact ht1 i hi ho f' hf
  refine ⟨fun hb=>?_,fun _=>key⟩;subst hb;rw [Bool.false_or] at hok1;have hrd:=q8W hok1;cases f with
  | zero=>simp at hok3
  | succ f =>
   refine wpAny_all hrd (by intro hn; rw [List.append_eq_nil_iff] at hn; rw [hn.1] at hok2; simp at hok2) fun j hj=>?_;have hlt:j < ops.length:=by simpa using q5k (show j ∈ Region.ready .any ops.toArray l by rw [hrd]; exact hj)
   exact key j hj ⟨_,List.getElem?_eq_getElem hlt⟩ f rfl
def W_dA {id:Nat} {ops:List Oper} {Q:Exit→Env→World→Prop} {e:Env} {w:World} (hm:P.follows .mixedOrders=true) (s:Sch) (hok:(Region.noSelect ops.toArray && q5g ops s false ops.length (Array.replicate ops.length false))=true)
  (h:∀ (K:Env→World→Prop) (w1:World),(∀ e w,Q .normal e w→K e w)→Ext w w1→WS P ops K s e w1):W P n (.region id ops.toArray true) Q e w:=by
 rw [Bool.and_eq_true] at hok;intro hd a hr;have hd':ops.all (q4v n)=true:=hd;refine wp_mono (Q:=fun x a' w'=>x=.normal∧qgH n (.region id ops.toArray true) e Q .normal a' w') (wp_region_any hm ?_) fun x a' w' hq=>by rw [hq.1]; exact hq.2
 have:=(qiV (n:=n) (P:=P) (e0:=e) (K:=Q .normal) (Q:=fun x a' w'=>x=.normal∧qgH n (.region id ops.toArray true) e Q .normal a' w') hok.1 hd' (fun c a a' w hq=>by cases hq.1) (fun a' e' w' r' h2 h3=>⟨rfl,e',r',h2,h3⟩) s false ops.length (Array.replicate ops.length false) a e { w with drawn:=w.drawn+1 } hok.2 hr (fun _ _=>rfl) (h _ _ (fun _ _ h=>h) (Kp.drew w _))).1 rfl;simpa using this
end
def Own (w:World) (B:Nat) (E sz:Nat) (A:Option Addr) (n c:Nat) (xs:List Value):Prop:=w.ownsRow B E sz (.slice A n c) n xs
def nb (A:Option Addr) (k:Nat):Prop:=∀ a,A=some a→a.block≠k
section
variable {w w':World} {B E sz n c:Nat} {A:Option Addr} {xs:List Value} {D D':Nat→Prop}
def Own.nil (w:World) (B E sz:Nat):Own w B E sz none 0 0 []:=World.ownsRow_nil w B E sz
def Own.form (h:Own w B E sz A n c xs):(A=none∧n=0∧c=0∧xs=[])∨∃ g cur,A=some ⟨g,0,none⟩∧B≤g∧Blk w g E cur∧n≤c∧c≤maxLen∧cur.size=c*sz∧cur.toList.take (n*sz)=xs:=by
 obtain ⟨h1,h2⟩:=h
 rcases h2 with ⟨h2,h3⟩ | ⟨g,cap,cur,hv,hb,hg,hn,hc,hs,ht⟩
 ·injection h2 with a b c
  subst h3;exact .inl ⟨a,rfl,c,List.eq_nil_of_length_eq_zero (by simpa using h1)⟩
 ·injection hv with a b c'
  subst c';exact .inr ⟨g,cur,a,hb,hg,hn,hc,hs,ht⟩
def Own.len (h:Own w B E sz A n c xs):xs.length=n*sz:=h.1
def Own.cap (h:Own w B E sz A n c xs):n≤c:=by
 rcases h.form with ⟨_,rfl,_,_⟩ | ⟨_,_,_,_,_,hn,_⟩ <;> omega
def Own.not_lt (h:Own w B E sz A n c xs) {k:Nat} (hk:k < B):nb A k:=by
 intro a ha
 rcases h.form with ⟨h0,_⟩ | ⟨g,_,h0,hb,_⟩
 ·rw [h0] at ha; cases ha
 ·rw [h0] at ha; obtain rfl:=Option.some.inj ha; simp only; omega
def Own.kp (h:Own w B E sz A n c xs) (hk:Kp D w w') (hd:∀ a,A=some a→D a.block):Own w' B E sz A n c xs:=by
 refine ⟨h.1,?_⟩
 rcases h.2 with h2 | ⟨g,cap,cur,hv,hb,hg,rest⟩
 ·exact .inl h2
 ·have hv':=hv
  injection hv with a _ _
  exact .inr ⟨g,cap,cur,hv',hb,Blk.kp hg hk (hd _ a),rest⟩
def Own.ext (h:Own w B E sz A n c xs) (hk:Ext w w'):Own w' B E sz A n c xs:=h.kp hk fun _ _=>trivial
def Own.mono (h:Own w B E sz A n c xs) {B':Nat} (hb:B'≤B):Own w B' E sz A n c xs:=by
 refine ⟨h.1,?_⟩
 rcases h.2 with h2 | ⟨g,cap,cur,hv,hb',rest⟩
 ·exact .inl h2
 ·exact .inr ⟨g,cap,cur,hv,Nat.le_trans hb hb',rest⟩
def Kp.under {w1 w2:World} (hx:Ext w w1) (hk:Kp D w1 w2) (ho:∀ k,k < w.heap.size→D k):Ext w w2 :=
 ⟨hk.os.trans hx.os,hk.tape.trans hx.tape,hk.output.trans hx.output,Nat.le_trans hx.size hk.size,fun k hk1 _=>(hk.block k (Nat.lt_of_lt_of_le hk1 hx.size) (ho k hk1)).trans (hx.block k hk1 trivial)⟩
def Own.under {w1 w2:World} (h:Own w1 w.heap.size E sz A n c xs) (hx:Ext w w1) (hk:Kp (nb A) w1 w2):Ext w w2:=hx.under hk fun _ hk=>h.not_lt hk
def Own.row (h:Own w B E sz A n c xs):Row w (fun k=>B≤k) sz A n c xs:=by
 refine ⟨h.cap,h.len,fun hx=>?_⟩
 rcases h.form with ⟨_,_,_,rfl⟩ | ⟨g,cur,rfl,hb,hg,hn,_,hs,ht⟩
 ·simp at hx
 ·refine ⟨_,rfl,hb,fun j u hu=>?_⟩;rw [q03,Nat.zero_add,hg.cell];rw [← ht,List.getElem?_take] at hu
  split at hu
  ·simpa using hu
  ·cases hu
def Own.made {cur:Array Value} (hg:Blk w w'.heap.size E cur) (hn:n≤c) (hc:c≤maxLen) (hs:cur.size=c*sz) (hb:B≤w'.heap.size):Own w B E sz (some ⟨w'.heap.size,0,none⟩) n c (cur.toList.take (n*sz)) :=
 ⟨by rw [List.length_take,Array.length_toList,hs,Nat.min_eq_left (Nat.mul_le_mul_right _ hn)],.inr ⟨_,c,cur,rfl,hb,hg,hn,hc,hs,rfl⟩⟩
def Own.cell (h:Own w B E sz A n c xs) {j:Nat} (hj:j < xs.length):∃ g,A=some ⟨g,0,none⟩∧B≤g∧w.cell? ⟨g,j,none⟩=some xs[j]∧w.frozen? ⟨g,j,none⟩=false:=by
 rcases h.form with ⟨_,_,_,rfl⟩ | ⟨g,cur,rfl,hb,hg,hn,_,hs,ht⟩
 ·simp at hj
 ·refine ⟨g,rfl,hb,?_,hg.frozen j⟩;rw [hg.cell];have:xs[j]?=some xs[j]:=List.getElem?_eq_getElem hj;rw [← this];subst ht;rw [List.getElem?_take];simp only [List.length_take] at hj;rw [if_pos (by omega)]; simp
def Own.set {g:Nat} (h:Own w B E sz (some ⟨g,0,none⟩) n c xs) (j:Nat) (u:Value):Own (w.setCell ⟨g,j,none⟩ u) B E sz (some ⟨g,0,none⟩) n c (xs.set j u):=(World.ownsRow.stored h j u).1
end
section
variable {P:Program} {w:World} {K:Value→World→Prop}
def qk5 {T ty E sz bytes:Nat} {z:Array Value} (he:q00 P T=some (E,sz,bytes,z)) (hzs:z.size=sz) (hsz:0 < sz)
  {B n c:Nat} {A:Option Addr} {xs:List Value} (hown:Own w B E sz A n c xs) {D:Nat→Prop} {A2:Option Addr} {m c2:Nat} {news:List Value} (hr:Row w D sz A2 m c2 news)
  (h1:∀ u ∈ news,u.oneCell'=true) (hlen:(n+m)*(bytes+1)≤140737488355328) (hb:B≤w.heap.size)
  (hK:∀ A' c' w',Own w' B E sz A' (n+m) c' (xs ++ news)→Kp (nb A) w w'→(A'=A∨A'=some ⟨w.heap.size,0,none⟩)→K (.slice A' (n+m) c') w') :
  qfp P #[T,T] ty [.slice A n c,.slice A2 m c2] w K:=by
 unfold q00 at he
 split at he
 case h_2=>cases he
 rename_i e hu;obtain ⟨i,hi,hx⟩:=Option.bind_eq_some_iff.1 he;obtain ⟨zv,hz,hx⟩:=Option.map_eq_some_iff.1 hx;simp only [Prod.mk.injEq] at hx;obtain ⟨rfl,rfl,rfl,rfl⟩:=hx;have hs:sizeOf e=sizeOf e:=rfl;have hmb:n+m≤maxLen:=by
  have:n+m≤(n+m)*(i.bytes+1):=Nat.le_mul_of_pos_right _ Oq;simp only [maxLen]; omega
 have hbb:(n+m)*i.bytes≤140737488355328:=Nat.le_trans (Nat.mul_le_mul_left _ Oq) hlen
 by_cases hm:m=0
 ·subst hm;have hnews:news=[]:=List.eq_nil_of_length_eq_zero (by simpa using hr.len);subst hnews;refine q8Y (v:=.slice A n c) (w':=w) ?_ ?_
  ·have hz:(sizeOf e).run P w=.ok i.size w:=by simp [Go.sizeOf,typeInfo,hi]
   have hcap:n≤c:=hown.cap;cases A2 with
   | none =>
    cases A <;> simp [Builtin.append_,run_underlying hu,Go.sizeOf,typeInfo,hi,Builtin.lenOf,Builtin.firstCells,hcap,storeCells]
   | some ad =>
    cases A <;> simp [Builtin.append_,run_underlying hu,Go.sizeOf,typeInfo,hi,Builtin.lenOf,Builtin.firstCells,loadCells,loadCellsFrom,hcap,storeCells]
  ·have:=hK A c w (by simpa using hown) (Kp.refl _ _) (.inl rfl);simpa using this
 ·have hx0:0 < news.length:=by rw [hr.len]; exact Nat.mul_pos Oq hsz
  obtain ⟨ad,rfl,_,hc⟩:=hr.at_ hx0;obtain ⟨v',w',hrun,ho,hg,_,hat⟩:=run_append_own_at (P:=P) w B T ty e i zv i.size i.bytes hu hi hz rfl rfl hzs hsz (.slice A n c) n xs hown ad m c2 news hr.len hc h1 hmb hbb hb;refine q8Y hrun ?_;have hv:∃ A' c',v'=.slice A' (n+m) c'∧((A'=none∧n+m=0)∨∃ g,A'=some ⟨g,0,none⟩):=by
   rcases ho.2 with ⟨h2,h3⟩ | ⟨g,cap,cur,h2,_⟩
   ·exact ⟨none,0,by rw [h2,h3],.inl ⟨rfl,h3⟩⟩
   ·exact ⟨some ⟨g,0,none⟩,cap,h2,.inr ⟨g,rfl⟩⟩
  obtain ⟨A',c',rfl,hA'⟩:=hv;refine hK A' c' w' ho (Kp.of_grown hg fun k _ hk hn=>?_) ?_
  ·cases A with
   | none=>simp [Value.ownBlock] at hk
   | some a=>simp [Value.ownBlock] at hk; exact hn a rfl hk
  ·rcases hA' with ⟨_,h0⟩ | ⟨g,rfl⟩
   ·omega
   ·rcases hat with h | h
    ·left
     rcases hown.form with ⟨rfl,_⟩ | ⟨g',_,rfl,_⟩
     ·simp [Value.ownBlock] at h
     ·simp [Value.ownBlock] at h; rw [h]
    ·right
     simp [Value.ownBlock] at h; rw [h]
def qhY {E len:Nat} {cs:Array Value}
  (hK:∀ w',Ext w w'→Blk w' w.heap.size E cs→w.heap.size < w'.heap.size→K (.slice (some ⟨w.heap.size,0,none⟩) len len) w'):bsW (some (E,cs)) len w K:=by
 rw [bsW_s];exact hK _ (Kp.alloc w _) (Blk.new w E cs) (by simp)
end
end Go.E
namespace Go.Proofs.YtfmojhhokfkdaaaGreatDoor
open Go Go.E
set_option maxRecDepth 100000
def agg3:q04 Tryz.prog 3=some none:=by kernel_rfl
def agg4:q04 Tryz.prog 4=some none:=by kernel_rfl
def agg5:q04 Tryz.prog 5=some none:=by kernel_rfl
def agg23:q04 Tryz.prog 23=some none:=by kernel_rfl
def agg24:q04 Tryz.prog 24=some none:=by kernel_rfl
def agg26:q04 Tryz.prog 26=some (some 5):=by kernel_rfl
def agg36:q04 Tryz.prog 36=some none:=by kernel_rfl
def agg38:q04 Tryz.prog 38=some (some 2):=by kernel_rfl
def qpp:q04 Tryz.prog 40=some (some 4):=by kernel_rfl
def agg42:q04 Tryz.prog 42=some none:=by kernel_rfl
def agg43:q04 Tryz.prog 43=some none:=by kernel_rfl
def agg45:q04 Tryz.prog 45=some none:=by kernel_rfl
def agg72:q04 Tryz.prog 72=some (some 4):=by kernel_rfl
def qps:q04 Tryz.prog 117=some none:=by kernel_rfl
def qpr:q04 Tryz.prog 162=some none:=by kernel_rfl
def qpq:q04 Tryz.prog 238=some (some 5):=by kernel_rfl
def qj4:q0Y Tryz.prog 26 0=some 0:=by kernel_rfl
def qj3:q0Y Tryz.prog 26 1=some 1:=by kernel_rfl
def qj2:q0Y Tryz.prog 26 2=some 2:=by kernel_rfl
def qj1:q0Y Tryz.prog 26 3=some 3:=by kernel_rfl
def qj0:q0Y Tryz.prog 26 4=some 4:=by kernel_rfl
def qjZ:q0Y Tryz.prog 38 0=some 0:=by kernel_rfl
def qjY:q0Y Tryz.prog 38 1=some 1:=by kernel_rfl
def qjX:q0Y Tryz.prog 40 0=some 0:=by kernel_rfl
def qjW:q0Y Tryz.prog 40 1=some 1:=by kernel_rfl
def qjV:q0Y Tryz.prog 40 2=some 3:=by kernel_rfl
def qjU:q0Y Tryz.prog 72 0=some 0:=by kernel_rfl
def qjT:q0Y Tryz.prog 72 1=some 1:=by kernel_rfl
def qjS:q0Y Tryz.prog 72 2=some 2:=by kernel_rfl
def qjR:q0Y Tryz.prog 72 3=some 3:=by kernel_rfl
def qfY:q0Y Tryz.prog 138 0=some 0:=by kernel_rfl
def qfX:q0Y Tryz.prog 138 1=some 5:=by kernel_rfl
def qfW:q0Y Tryz.prog 138 2=some 9:=by kernel_rfl
def qfV:q0Y Tryz.prog 138 3=some 10:=by kernel_rfl
def qfU:q0Y Tryz.prog 138 4=some 11:=by kernel_rfl
def qfT:q0Y Tryz.prog 138 5=some 12:=by kernel_rfl
def qfS:q0Y Tryz.prog 138 6=some 13:=by kernel_rfl
def qfR:q0Y Tryz.prog 238 0=some 0:=by kernel_rfl
def qfQ:q0Y Tryz.prog 238 1=some 1:=by kernel_rfl
def qfP:q0Y Tryz.prog 238 2=some 3:=by kernel_rfl
def qfO:q0Y Tryz.prog 238 3=some 4:=by kernel_rfl
def esz22:q0b Tryz.prog 22=some 1:=by kernel_rfl
def esz23:q0b Tryz.prog 23=some 1:=by kernel_rfl
def esz24:q0b Tryz.prog 24=some 1:=by kernel_rfl
def esz36:q0b Tryz.prog 36=some 1:=by kernel_rfl
def esz45:q0b Tryz.prog 45=some 4:=by kernel_rfl
def qoY:q0b Tryz.prog 148=some 1:=by kernel_rfl
def qoX:q0b Tryz.prog 162=some 1:=by kernel_rfl
def qoW:q0b Tryz.prog 223=some 1:=by kernel_rfl
def elm22:q00 Tryz.prog 22=some (42,1,8,#[.int .u64 0]):=by kernel_rfl
def elm23:q00 Tryz.prog 23=some (3,1,8,#[.int .i64 0]):=by kernel_rfl
def elm24:q00 Tryz.prog 24=some (43,1,8,#[.int .u64 0]):=by kernel_rfl
def elm36:q00 Tryz.prog 36=some (117,1,4,#[.int .u32 0]):=by kernel_rfl
def qje:q00 Tryz.prog 45=some (40,4,48,#[.bool false,.bool false,.slice none 0 0,.int .i64 0]):=by kernel_rfl
def qo2:q00 Tryz.prog 148=some (45,1,24,#[.slice none 0 0]):=by kernel_rfl
def qo1:q00 Tryz.prog 162=some (4,1,1,#[.bool false]):=by kernel_rfl
def qo0:q00 Tryz.prog 223=some (45,1,24,#[.slice none 0 0]):=by kernel_rfl
def zer3:q1c Tryz.prog 3=some #[.int .i64 0]:=by kernel_rfl
def zer26:q1c Tryz.prog 26=some #[.int .i64 0,.int .i64 0,.slice none 0 0,.slice none 0 0,.slice none 0 0]:=by kernel_rfl
def zer38:q1c Tryz.prog 38=some #[.bool false,.slice none 0 0]:=by kernel_rfl
def zer40:q1c Tryz.prog 40=some #[.bool false,.bool false,.slice none 0 0,.int .i64 0]:=by kernel_rfl
def zer72:q1c Tryz.prog 72=some #[.slice none 0 0,.slice none 0 0,.slice none 0 0,.slice none 0 0]:=by kernel_rfl
def ql5:q1c Tryz.prog 138=some #[.int .i64 0,.int .i64 0,.slice none 0 0,.slice none 0 0,.slice none 0 0,.slice none 0 0,.slice none 0 0,.slice none 0 0,.slice none 0 0,.slice none 0 0,.slice none 0 0,.slice none 0 0,.slice none 0 0,.bool false,.bool false,.slice none 0 0,.int .i64 0]:=by kernel_rfl
def ql4:q1c Tryz.prog 238=some #[.bool false,.bool false,.slice none 0 0,.int .i64 0,.bool false]:=by kernel_rfl
def ql3:q1c Tryz.prog 259=some #[.int .u8 0,.int .u8 0,.int .u8 0,.int .u8 0,.int .u8 0,.int .u8 0,.int .u8 0,.int .u8 0,.int .u8 0,.int .u8 0,.int .u8 0,.int .u8 0,.int .u8 0,.int .u8 0,.int .u8 0,.int .u8 0,.int .u8 0,.int .u8 0,.int .u8 0,.int .u8 0,.int .u8 0,.int .u8 0,.int .u8 0,.int .u8 0,.int .u8 0,.int .u8 0,.int .u8 0,.int .u8 0,.int .u8 0,.int .u8 0,.int .u8 0,.int .u8 0]:=by kernel_rfl
def siz3:q0X Tryz.prog 3=some 1:=by kernel_rfl
def siz4:q0X Tryz.prog 4=some 1:=by kernel_rfl
def siz23:q0X Tryz.prog 23=some 1:=by kernel_rfl
def siz24:q0X Tryz.prog 24=some 1:=by kernel_rfl
def siz26:q0X Tryz.prog 26=some 5:=by kernel_rfl
def siz38:q0X Tryz.prog 38=some 2:=by kernel_rfl
def qm2:q0X Tryz.prog 40=some 4:=by kernel_rfl
def qiN:q0X Tryz.prog 43=some 1:=by kernel_rfl
def qiM:q0X Tryz.prog 45=some 1:=by kernel_rfl
def siz72:q0X Tryz.prog 72=some 4:=by kernel_rfl
def qm6:q0X Tryz.prog 117=some 1:=by kernel_rfl
def qm5:q0X Tryz.prog 138=some 17:=by kernel_rfl
def qm4:q0X Tryz.prog 238=some 5:=by kernel_rfl
def qm3:q0X Tryz.prog 259=some 32:=by kernel_rfl
def und3:Tryz.prog.underlying 3=some (.int .i64):=by kernel_rfl
def und4:Tryz.prog.underlying 4=some .bool:=by kernel_rfl
def beq4 {x y:Bool}:q0f Tryz.prog .eql 4 (.bool x) (.bool y)=some (.bool (x == y)):=q9e und4
def bne4 {x y:Bool}:q0f Tryz.prog .neq 4 (.bool x) (.bool y)=some (.bool (x != y)):=q9d und4
def und5:Tryz.prog.underlying 5=some (.int .u8):=by kernel_rfl
def qlh:Tryz.prog.underlying 24=some (.slice 43):=by kernel_rfl
def nil24 {A:Option Addr} {n c n2 c2:Nat}:q0f Tryz.prog .eql 24 (.slice A n c) (.slice none n2 c2)=some (.bool A.isNone):=q8V qlh
def qn4 {A:Option Addr} {n c n2 c2:Nat}:q0f Tryz.prog .neq 24 (.slice A n c) (.slice none n2 c2)=some (.bool A.isSome):=q9c qlh
def und31:Tryz.prog.underlying 31=some (.int .i64):=by kernel_rfl
def qlg:Tryz.prog.underlying 36=some (.slice 117):=by kernel_rfl
def nil36 {A:Option Addr} {n c n2 c2:Nat}:q0f Tryz.prog .eql 36 (.slice A n c) (.slice none n2 c2)=some (.bool A.isNone):=q8V qlg
def qn3 {A:Option Addr} {n c n2 c2:Nat}:q0f Tryz.prog .neq 36 (.slice A n c) (.slice none n2 c2)=some (.bool A.isSome):=q9c qlg
def qlf:Tryz.prog.underlying 42=some (.int .u64):=by kernel_rfl
def und43:Tryz.prog.underlying 43=some (.int .u64):=by kernel_rfl
def und85:Tryz.prog.underlying 85=some (.int .u64):=by kernel_rfl
def qli:Tryz.prog.underlying 117=some (.int .u32):=by kernel_rfl
def q8S {x0:Int} {x1:Int} {x2A:Option Addr} {x2n x2c:Nat}:Tryz.prog.built 26 [(0,(.int .i64 x0)),(1,(.int .i64 x1)),(2,(.slice x2A x2n x2c))]=some #[.int .i64 x0,.int .i64 x1,.slice x2A x2n x2c,.slice none 0 0,.slice none 0 0]:=by kernel_rfl
def q6K {x0:Int} {x1:Int} {x2A:Option Addr} {x2n x2c:Nat} {x3A:Option Addr} {x3n x3c:Nat}:Tryz.prog.built 26 [(0,(.int .i64 x0)),(1,(.int .i64 x1)),(2,(.slice x2A x2n x2c)),(3,(.slice x3A x3n x3c))]=some #[.int .i64 x0,.int .i64 x1,.slice x2A x2n x2c,.slice x3A x3n x3c,.slice none 0 0]:=by kernel_rfl
def q4k {x0:Int} {x1:Int} {x2A:Option Addr} {x2n x2c:Nat} {x3A:Option Addr} {x3n x3c:Nat} {x4A:Option Addr} {x4n x4c:Nat}:Tryz.prog.built 26 [(0,(.int .i64 x0)),(1,(.int .i64 x1)),(2,(.slice x2A x2n x2c)),(3,(.slice x3A x3n x3c)),(4,(.slice x4A x4n x4c))]=some #[.int .i64 x0,.int .i64 x1,.slice x2A x2n x2c,.slice x3A x3n x3c,.slice x4A x4n x4c]:=by kernel_rfl
def qpO  : Tryz.prog.built 38 []=some #[.bool false,.slice none 0 0]:=by kernel_rfl
def qdH {x0:Bool} {x1A:Option Addr} {x1n x1c:Nat}:Tryz.prog.built 38 [(0,(.bool x0)),(1,(.slice x1A x1n x1c))]=some #[.bool x0,.slice x1A x1n x1c]:=by kernel_rfl
def qpN  : Tryz.prog.built 40 []=some #[.bool false,.bool false,.slice none 0 0,.int .i64 0]:=by kernel_rfl
def qkT {x0:Bool}:Tryz.prog.built 40 [(0,(.bool x0))]=some #[.bool x0,.bool false,.slice none 0 0,.int .i64 0]:=by kernel_rfl
def qdG {x10:Bool} {x11A:Option Addr} {x11n x11c:Nat} {x2:Int}:Tryz.prog.built 40 [(1,.agg #[.bool x10,.slice x11A x11n x11c]),(2,(.int .i64 x2))]=some #[.bool false,.bool x10,.slice x11A x11n x11c,.int .i64 x2]:=by kernel_rfl
def qdF {x0A:Option Addr} {x0n x0c:Nat} {x1A:Option Addr} {x1n x1c:Nat}:Tryz.prog.built 72 [(0,(.slice x0A x0n x0c)),(1,(.slice x1A x1n x1c))]=some #[.slice x0A x0n x0c,.slice x1A x1n x1c,.slice none 0 0,.slice none 0 0]:=by kernel_rfl
def q6J {x0A:Option Addr} {x0n x0c:Nat} {x1A:Option Addr} {x1n x1c:Nat} {x2A:Option Addr} {x2n x2c:Nat} {x3A:Option Addr} {x3n x3c:Nat}:Tryz.prog.built 72 [(0,(.slice x0A x0n x0c)),(1,(.slice x1A x1n x1c)),(2,(.slice x2A x2n x2c)),(3,(.slice x3A x3n x3c))]=some #[.slice x0A x0n x0c,.slice x1A x1n x1c,.slice x2A x2n x2c,.slice x3A x3n x3c]:=by kernel_rfl
def q5I {x00:Int} {x01:Int} {x02A:Option Addr} {x02n x02c:Nat} {x03A:Option Addr} {x03n x03c:Nat} {x04A:Option Addr} {x04n x04c:Nat} {x10A:Option Addr} {x10n x10c:Nat} {x11A:Option Addr} {x11n x11c:Nat} {x12A:Option Addr} {x12n x12c:Nat} {x13A:Option Addr} {x13n x13c:Nat} {x2A:Option Addr} {x2n x2c:Nat} {x3A:Option Addr} {x3n x3c:Nat}:Tryz.prog.built 138 [(0,.agg #[.int .i64 x00,.int .i64 x01,.slice x02A x02n x02c,.slice x03A x03n x03c,.slice x04A x04n x04c]),(1,.agg #[.slice x10A x10n x10c,.slice x11A x11n x11c,.slice x12A x12n x12c,.slice x13A x13n x13c]),(2,(.slice x2A x2n x2c)),(3,(.slice x3A x3n x3c))]=some #[.int .i64 x00,.int .i64 x01,.slice x02A x02n x02c,.slice x03A x03n x03c,.slice x04A x04n x04c,.slice x10A x10n x10c,.slice x11A x11n x11c,.slice x12A x12n x12c,.slice x13A x13n x13c,.slice x2A x2n x2c,.slice x3A x3n x3c,.slice none 0 0,.slice none 0 0,.bool false,.bool false,.slice none 0 0,.int .i64 0]:=by kernel_rfl
def q7S {x0:Bool} {x10:Bool} {x11A:Option Addr} {x11n x11c:Nat} {x2:Int}:Tryz.prog.built 238 [(0,(.bool x0)),(1,.agg #[.bool x10,.slice x11A x11n x11c]),(2,(.int .i64 x2))]=some #[.bool x0,.bool x10,.slice x11A x11n x11c,.int .i64 x2,.bool false]:=by kernel_rfl
def q5H {x0:Bool} {x10:Bool} {x11A:Option Addr} {x11n x11c:Nat} {x2:Int} {x3:Bool}:Tryz.prog.built 238 [(0,(.bool x0)),(1,.agg #[.bool x10,.slice x11A x11n x11c]),(2,(.int .i64 x2)),(3,(.bool x3))]=some #[.bool x0,.bool x10,.slice x11A x11n x11c,.int .i64 x2,.bool x3]:=by kernel_rfl
def qkQ:bsV Tryz.prog 23 0 []=some (3,#[]):=by kernel_rfl
def qkP {x0:Int}:bsV Tryz.prog 23 1 [(0,(.int .i64 x0))]=some (3,#[.int .i64 x0]):=by kernel_rfl
def qkO {x0:Int} {x1:Int}:bsV Tryz.prog 23 2 [(0,(.int .i64 x0)),(1,(.int .i64 x1))]=some (3,#[.int .i64 x0,.int .i64 x1]):=by kernel_rfl
def qkN {x0:Int} {x1:Int} {x2:Int}:bsV Tryz.prog 23 3 [(0,(.int .i64 x0)),(1,(.int .i64 x1)),(2,(.int .i64 x2))]=some (3,#[.int .i64 x0,.int .i64 x1,.int .i64 x2]):=by kernel_rfl
def qkM:bsV Tryz.prog 24 0 []=some (43,#[]):=by kernel_rfl
def qkL {x0:Int}:bsV Tryz.prog 24 1 [(0,(.int .u64 x0))]=some (43,#[.int .u64 x0]):=by kernel_rfl
def qkK {x0:Int} {x1:Int}:bsV Tryz.prog 24 2 [(0,(.int .u64 x0)),(1,(.int .u64 x1))]=some (43,#[.int .u64 x0,.int .u64 x1]):=by kernel_rfl
def qkJ {x0:Int} {x1:Int} {x2:Int} {x3:Int}:bsV Tryz.prog 24 4 [(0,(.int .u64 x0)),(1,(.int .u64 x1)),(2,(.int .u64 x2)),(3,(.int .u64 x3))]=some (43,#[.int .u64 x0,.int .u64 x1,.int .u64 x2,.int .u64 x3]):=by kernel_rfl
def qkI:bsV Tryz.prog 36 0 []=some (117,#[]):=by kernel_rfl
def qkH {x0:Int}:bsV Tryz.prog 36 1 [(0,(.int .u32 x0))]=some (117,#[.int .u32 x0]):=by kernel_rfl
def qkG {x0:Int} {x1:Int}:bsV Tryz.prog 36 2 [(0,(.int .u32 x0)),(1,(.int .u32 x1))]=some (117,#[.int .u32 x0,.int .u32 x1]):=by kernel_rfl
def qkF {x00:Bool} {x010:Bool} {x011A:Option Addr} {x011n x011c:Nat} {x02:Int}:bsV Tryz.prog 45 1 [(0,.agg #[.bool x00,.bool x010,.slice x011A x011n x011c,.int .i64 x02])]=some (40,#[.bool x00,.bool x010,.slice x011A x011n x011c,.int .i64 x02]):=by kernel_rfl
def qkE {x00:Bool} {x010:Bool} {x011A:Option Addr} {x011n x011c:Nat} {x02:Int} {x10:Bool} {x110:Bool} {x111A:Option Addr} {x111n x111c:Nat} {x12:Int}:bsV Tryz.prog 45 2 [(0,.agg #[.bool x00,.bool x010,.slice x011A x011n x011c,.int .i64 x02]),(1,.agg #[.bool x10,.bool x110,.slice x111A x111n x111c,.int .i64 x12])]=some (40,#[.bool x00,.bool x010,.slice x011A x011n x011c,.int .i64 x02,.bool x10,.bool x110,.slice x111A x111n x111c,.int .i64 x12]):=by kernel_rfl
def qkD {x00:Bool} {x010:Bool} {x011A:Option Addr} {x011n x011c:Nat} {x02:Int} {x10:Bool} {x110:Bool} {x111A:Option Addr} {x111n x111c:Nat} {x12:Int} {x20:Bool} {x210:Bool} {x211A:Option Addr} {x211n x211c:Nat} {x22:Int}:bsV Tryz.prog 45 3 [(0,.agg #[.bool x00,.bool x010,.slice x011A x011n x011c,.int .i64 x02]),(1,.agg #[.bool x10,.bool x110,.slice x111A x111n x111c,.int .i64 x12]),(2,.agg #[.bool x20,.bool x210,.slice x211A x211n x211c,.int .i64 x22])]=some (40,#[.bool x00,.bool x010,.slice x011A x011n x011c,.int .i64 x02,.bool x10,.bool x110,.slice x111A x111n x111c,.int .i64 x12,.bool x20,.bool x210,.slice x211A x211n x211c,.int .i64 x22]):=by kernel_rfl
def qpB:q0F Tryz.prog 50=true:=by kernel_rfl
def qhW:q0F Tryz.prog 103=true:=by kernel_rfl
def qhV:q0F Tryz.prog 106=true:=by kernel_rfl
def qhU:q0F Tryz.prog 108=true:=by kernel_rfl
def q50:q0F Tryz.prog 113=true:=by kernel_rfl
def qhT:q0F Tryz.prog 114=true:=by kernel_rfl
def qdC:q0F Tryz.prog 128=true:=by kernel_rfl
def qhS:q0F Tryz.prog 165=true:=by kernel_rfl
def qhR:q0F Tryz.prog 166=true:=by kernel_rfl
def qhQ:q0F Tryz.prog 169=true:=by kernel_rfl
def qhP:q0F Tryz.prog 178=true:=by kernel_rfl
def qhO:q0F Tryz.prog 181=true:=by kernel_rfl
def qhN:q0F Tryz.prog 182=true:=by kernel_rfl
def qdB:q0F Tryz.prog 185=true:=by kernel_rfl
def q7R:q0F Tryz.prog 218=true:=by kernel_rfl
def qdA:q0F Tryz.prog 219=true:=by kernel_rfl
def qcz:q0F Tryz.prog 220=true:=by kernel_rfl
def qhM:q0F Tryz.prog 229=true:=by kernel_rfl
def q5C:Tryz.prog.follows .mixedOrders=true:=by kernel_rfl
attribute [go_sem] agg3 agg4 agg5 agg23 agg24 agg26 agg36 agg38 qpp agg42 agg43 agg45 agg72 qps qpr qpq qj4 qj3 qj2 qj1 qj0 qjZ
attribute [go_sem] qjY qjX qjW qjV qjU qjT qjS qjR qfY qfX qfW qfV qfU qfT qfS qfR qfQ qfP qfO esz22 esz23 esz24 esz36 esz45
attribute [go_sem] qoY qoX qoW elm22 elm23 elm24 elm36 qje qo2 qo1 qo0 zer3 zer26 zer38 zer40 zer72 ql5 ql4 ql3 siz3 siz4 siz23
attribute [go_sem] siz24 siz26 siz38 qm2 qiN qiM siz72 qm6 qm5 qm4 qm3 und3 und4 beq4 bne4 und5 nil24 qn4 und31 nil36 qn3 qlf und43 und85 qli q8S q6K q4k
attribute [go_sem] qpO qdH qpN qkT qdG qdF q6J q5I q7S q5H qkQ qkP qkO qkN qkM qkL qkK qkJ qkI qkH qkG qkF qkE qkD
attribute [go_sem] qpB
attribute [go_sem] qhW qhV qhU q50 qhT
attribute [go_sem] qdC
attribute [go_sem] qhS qhR qhQ qhP qhO qhN qdB
attribute [go_sem] q7R qdA qcz qhM
attribute [go_sem] q5C
open Go.Sp
def dg (l:List Nat) (i:Nat):Nat:=l.getD i 0
def u32v (d:Nat):Value:=.int .u32 d
def U32 (w:World) (D:Nat→Prop) (A:Option Addr) (n c:Nat) (l:List Nat):Prop:=Row w D 1 A n c (l.map u32v)∧q0T l
section
variable {w w':World} {D D':Nat→Prop} {A:Option Addr} {n c:Nat} {l:List Nat}
def U32.len (h:U32 w D A n c l):l.length=n:=by have:=h.1.len; simpa using this
def U32.cap (h:U32 w D A n c l):n≤c:=h.1.cap
def U32.cell (h:U32 w D A n c l) {j:Nat} (hj:j < n):∃ ad,A=some ad∧w.cell? (ad.add j)=some (.int .u32 ((dg l j:Nat):Int)):=by
 have hl:=h.len;obtain ⟨ad,rfl,hc⟩:=h.1.get (j:=j) (by simp; omega);refine ⟨ad,rfl,?_⟩;rw [hc]; simp [u32v,dg,show j < l.length by omega]
def U32.kp (h:U32 w D A n c l) (k:Kp D w w'):U32 w' D A n c l:=⟨h.1.kp k,h.2⟩
def U32.ext (h:U32 w D A n c l) (k:Ext w w'):U32 w' D A n c l:=h.kp (Kp.of_ext k)
def U32.sub (h:U32 w D A n c l) (hs:∀ k,k < w.heap.size→D k→D' k):U32 w D' A n c l:=⟨h.1.sub hs,h.2⟩
def U32.take (h:U32 w D A n c l) {m:Nat} (hm:m≤n):U32 w D A m c (l.take m):=by
 have:=h.1.take hm;rw [Nat.mul_one,← List.map_take] at this;exact ⟨this,h.2.take m⟩
def U32.nil:U32 w D none 0 0 []:=⟨Row.nil _ _ _,q0T.nil⟩
end
section
variable {w w':World} {D D':Nat→Prop} {A:Option Addr} {n c B:Nat} {l:List Nat}
def qkr (w:World) (B:Nat) (A:Option Addr) (n c:Nat) (l:List Nat):Prop:=Own w B 117 1 A n c (l.map u32v)∧q0T l
def qkr.u32 (h:qkr w B A n c l) (hd:∀ k,B≤k→D k):U32 w D A n c l:=⟨h.1.row.sub fun k _ hk=>hd k hk,h.2⟩
end
section
variable {P:Program} {w:World} {K:Value→World→Prop}
def q6s {el b:Nat} {z:Value} {l c:Nat} (hl:l≤c) (hc:b*c≤281474976710656) (hc2:c≤maxLen)
  (hK:∀ w',Ext w w'→Own w' w.heap.size el 1 (some ⟨w.heap.size,0,none⟩) l c (List.replicate l z)→w'.heap.size=w.heap.size+1→K (.slice (some ⟨w.heap.size,0,none⟩) l c) w') :
  mkW (some (el,1,b,#[z])) (.int .i64 l) (.int .i64 c) w K:=by
 rw [mkW_i];refine ⟨⟨by omega,by omega,?_,by unfold maxLen at hc2; omega⟩,?_⟩
 ·have:((b*c:Nat):Int)≤281474976710656:=by omega
  rwa [Int.natCast_mul] at this
 ·have h1:=hK (w.alloc (.cells (madeCells #[z] (c*1)) el)) (Kp.alloc w _) ?_ (by simp)
  ·simpa using h1
  ·have:=Own.made (w:=w.alloc (.cells (madeCells #[z] (c*1)) el)) (w':=w) (B:=w.heap.size) (sz:=1) (n:=l) (c:=c) (Blk.new w el _) hl hc2 (by simp [size_madeCells]) (Nat.le_refl _);rw [Nat.mul_one,Nat.mul_one,toList_madeCells_one,List.take_replicate,Nat.min_eq_left hl] at this;simpa using this
end
end Go.Proofs.YtfmojhhokfkdaaaGreatDoor
namespace Go.E
def sgn (b:Bool) (m:Nat):Int:=if b then -(m:Int) else m
def q1o (b:Bool) (m:Nat):(sgn b m).natAbs=m:=by unfold sgn; split <;> omega
def q7l (b:Bool) (m:Nat):decide (sgn b m < 0)=(b && decide (0 < m)):=by
 unfold sgn; cases b <;> simp
def q0V (z:Int):sgn (decide (z < 0)) z.natAbs=z:=by
 unfold sgn; by_cases h:z < 0 <;> simp [h] <;> omega
end Go.E
namespace Go.Sp
open Go.E
def q5E {l:List Nat} {i:Nat} (h:l.length≤i):l.getD i 0=0:=by simp [List.getD,List.getElem?_eq_none h]
def vts (l:List Nat) (i:Nat):val (l.take (i+1))=val (l.take i)+B ^ i*l.getD i 0:=by
 rcases Nat.lt_or_ge i l.length with h | h
 ·exact q1O l i h
 ·rw [q0D l (i+1) Oq,q0D l i h,q5E h]; simp
def q6N {o:List Nat} {i c x y A:Nat} (hl:o.length=i) (h:val o+B ^ i*c=A):val (o ++ [(c+x+y) % B])+B ^ (i+1)*((c+x+y) / B)=A+B ^ i*x+B ^ i*y:=by
 rw [q1m,hl,← h,Nat.pow_succ];have:=Nat.mod_add_div (c+x+y) B;have h2:B ^ i*((c+x+y) % B)+B ^ i*B*((c+x+y) / B)=B ^ i*(c+x+y):=by
  rw [Nat.mul_assoc,← Nat.mul_add,this]
 rw [Nat.mul_add,Nat.mul_add] at h2;omega
def q8h {o:List Nat} {i br x y U V t:Nat} (hl:o.length=i) (h:val o+V=U+B ^ i*br) (hbr:br≤1) (hx:x < 4294967296) (hy:y < 4294967296)
  (ht:t=((x+(18446744073709551616-br)) % 18446744073709551616+(18446744073709551616-y)) % 18446744073709551616) :
  val (o ++ [t % 4294967296])+(V+B ^ i*y)=U+B ^ i*x+B ^ (i+1)*(t / 9223372036854775808)∧t / 9223372036854775808≤1:=by
 have key:x+t / 9223372036854775808*4294967296=t % 4294967296+br+y∧t / 9223372036854775808≤1:=by omega
 refine ⟨?_,key.2⟩;rw [q1m,hl,Nat.pow_succ];have h2:B ^ i*(x+t / 9223372036854775808*4294967296)=B ^ i*(t % 4294967296+br+y):=by rw [key.1]
 rw [Nat.mul_add,Nat.mul_add,Nat.mul_add] at h2;have h3:B ^ i*B*(t / 9223372036854775808)=B ^ i*(t / 9223372036854775808*4294967296):=by
  rw [Nat.mul_assoc,Nat.mul_comm B]; rfl
 omega
def q24 (x y:Nat):Int:=if x < y then -1 else if x=y then 0 else 1
def q9p:B=2 ^ 32:=rfl
def q2F {c m k:Nat} (hc:c < 2 ^ k):c ||| m*2 ^ k=c+m*2 ^ k:=by
 rw [Nat.or_comm,Nat.mul_comm,← Nat.two_pow_add_eq_or_of_lt hc];omega
def qeK {o:List Nat} {i c x k V:Nat} (hl:o.length=i) (h:val o+B ^ i*c=2 ^ k*V) :
  val (o ++ [(c+x*2 ^ k) % 4294967296])+B ^ (i+1)*((c+x*2 ^ k) / 4294967296)=2 ^ k*(V+B ^ i*x):=by
 have:=q6N (x:=x*2 ^ k) (y:=0) hl h;have e:B ^ i*(x*2 ^ k)=2 ^ k*(B ^ i*x):=by rw [Nat.mul_comm x,Nat.mul_left_comm]
 rw [Nat.add_zero,Nat.mul_zero,Nat.add_zero,e,← Nat.mul_add] at this;exact this
def qiO {X k:Nat} (hk:k≤32):(X / 2 ^ k) % 4294967296=(X % 18446744073709551616 / 2 ^ k) % 4294967296:=by
 have e:18446744073709551616=2 ^ k*(2 ^ (32-k)*4294967296):=by
  rw [← Nat.mul_assoc,← Nat.pow_add,show k+(32-k)=32 by omega]
 rw [e,Nat.mod_mul_right_div_self,Nat.mod_mul_left_mod]
def q1I (l:List Nat) (i:Nat):val (l.drop i)=l.getD i 0+B*val (l.drop (i+1)):=by
 rcases Nat.lt_or_ge i l.length with h | h
 ·rw [List.drop_eq_getElem_cons h,val,q09 h]
 ·rw [List.drop_of_length_le h,List.drop_of_length_le Oq,q5E h]; rfl
def q2Q {l:List Nat} (h:q0T l) (z:Nat):val (l.drop z)=val l / B ^ z:=by
 rcases Nat.le_total z l.length with hz | hz
 ·rw [q0p l z hz];have h1:=q10 (h.take z);rw [List.length_take,Nat.min_eq_left hz] at h1;rw [Nat.add_mul_div_left _ _ (q3X z),Nat.div_eq_of_lt h1,Nat.zero_add]
 ·have h1:=q10 h;have h2:B ^ l.length≤B ^ z:=Nat.pow_le_pow_right q0o hz;rw [List.drop_of_length_le hz,Nat.div_eq_of_lt (by omega)]; rfl
def q1Z {l:List Nat} (h:q0T l) (z:Nat):val (l.take z)=val l % B ^ z:=by
 rcases Nat.le_total z l.length with hz | hz
 ·have h1:=q10 (h.take z);rw [List.length_take,Nat.min_eq_left hz] at h1;have:=q0p l z hz;rw [this,Nat.add_mul_mod_self_left,Nat.mod_eq_of_lt h1]
 ·have h1:=q10 h;have h2:B ^ l.length≤B ^ z:=Nat.pow_le_pow_right q0o hz;rw [List.take_of_length_le hz,Nat.mod_eq_of_lt (by omega)]
def q8n {o l:List Nat} {j i k V:Nat} (hk:k≤32) (ha:q0T l) (hl:o.length=j) (h:val o+B ^ j*(val (l.drop i) / 2 ^ k)=V) :
  val (o ++ [(l.getD i 0+l.getD (i+1) 0*4294967296) / 2 ^ k % 4294967296])+B ^ (j+1)*(val (l.drop (i+1)) / 2 ^ k)=V:=by
 have h0:=ha.get i;have h1:=ha.get (i+1);unfold B at h0 h1;have e1:=q1I l i;have e2:=q1I l (i+1);have e3:val (l.drop i) % 18446744073709551616=l.getD i 0+l.getD (i+1) 0*4294967296:=by
  unfold B at e1 e2; omega
 have e4:val (l.drop i) / 2 ^ k / 4294967296=val (l.drop (i+1)) / 2 ^ k:=by
  rw [Nat.div_div_eq_div_mul,Nat.mul_comm,← Nat.div_div_eq_div_mul]
  congr 1
  unfold B at e1; omega
 rw [q1m,hl,← e3,← qiO hk,← e4,Nat.pow_succ,Nat.add_assoc,Nat.mul_assoc,← Nat.mul_add];have:B*(val (l.drop i) / 2 ^ k / 4294967296)=4294967296*(val (l.drop i) / 2 ^ k / 4294967296):=rfl;rw [this,Nat.mod_add_div];exact h
def q9D {l:List Nat} (ha:q0T l) (z k:Nat) (hk:k≤32):val l % 2 ^ (32*z+k)=0 ↔ (val (l.take z)=0∧l.getD z 0 % 2 ^ k=0):=by
 have e1:val l / B ^ z % 2 ^ k=l.getD z 0 % 2 ^ k:=by
  rw [← q2Q ha,q1I,q9p,show 2 ^ 32=2 ^ k*2 ^ (32-k) by rw [← Nat.pow_add]; congr 1; omega,Nat.mul_assoc,Nat.add_mul_mod_self_left]
 rw [Nat.pow_add,Nat.pow_mul,← q9p,Nat.mod_mul,e1,← q1Z ha];have:=q3X z
 constructor
 ·intro h;have h1:val (l.take z)=0:=by omega
  refine ⟨h1,?_⟩;rw [h1,Nat.zero_add] at h
  rcases Nat.mul_eq_zero.1 h with h | h
  ·omega
  ·exact h
 ·rintro ⟨h1,h2⟩; rw [h1,h2]; simp
def q9E {l:List Nat} (ha:q0T l) (z k:Nat) (h:l.length≤z):val l % 2 ^ (32*z+k)=val l:=by
 have h1:=q10 ha;have h2:B ^ l.length≤B ^ z:=Nat.pow_le_pow_right q0o h;have h3:B ^ z≤2 ^ (32*z+k):=by rw [q9p,← Nat.pow_mul]; exact Nat.pow_le_pow_right Oq Oq
 exact Nat.mod_eq_of_lt Oq
def q27:∀ {o:List Nat} {p:Nat} (d:Nat),p < o.length→val (o.set p d)+B ^ p*o.getD p 0=val o+B ^ p*d
 | [],p,d,h=>by simp at h
 | x :: o,0,d,_=>by simp [val]; omega
 | x :: o,p+1,d,h=>by
  have ih:=q27 (o:=o) (p:=p) d (by simpa using h);simp only [List.set_cons_succ,val,List.getD_cons_succ,Nat.pow_succ];have e1:B ^ p*B*o.getD p 0=B*(B ^ p*o.getD p 0):=by rw [Nat.mul_comm (B ^ p) B,Nat.mul_assoc]
  have e2:B ^ p*B*d=B*(B ^ p*d):=by rw [Nat.mul_comm (B ^ p) B,Nat.mul_assoc]
  rw [e1,e2,Nat.add_assoc,Nat.add_assoc,← Nat.mul_add,← Nat.mul_add,ih]
def q9B {o:List Nat} {p c x y V:Nat} (hp:p < o.length) (h:val o+B ^ p*c=V) :
  val (o.set p ((c+x*y+o.getD p 0) % 4294967296))+B ^ (p+1)*((c+x*y+o.getD p 0) / 4294967296)=V+B ^ p*(x*y):=by
 have h1:=q27 (o:=o) (p:=p) ((c+x*y+o.getD p 0) % 4294967296) hp;have h2:B ^ p*((c+x*y+o.getD p 0) % 4294967296)+B ^ (p+1)*((c+x*y+o.getD p 0) / 4294967296)=B ^ p*c+B ^ p*(x*y)+B ^ p*o.getD p 0:=by
  rw [Nat.pow_succ,Nat.mul_assoc,← Nat.mul_add,← Nat.mul_add,← Nat.mul_add]
  congr 1
  exact Nat.mod_add_div _ 4294967296
 omega
def q6r {c x y z:Nat} (hc:c < 4294967296) (hx:x < 4294967296) (hy:y < 4294967296) (hz:z < 4294967296):c+x*y+z < 18446744073709551616∧x*y < 18446744065119617026:=by
 have:x*y≤4294967295*4294967295:=Nat.mul_le_mul Oq Oq;omega
def q0e {o:List Nat} {p q d:Nat} (h:q≠p):(o.set p d).getD q 0=o.getD q 0:=by
 simp only [List.getD_eq_getElem?_getD];rw [List.getElem?_set_ne (fun e=>h e.symm)]
def shI (z n:Int):Int:=if 0≤n then z*2 ^ n.toNat else z / 2 ^ (-n).toNat
def qcT (v p:Nat) (hp:0 < p):(-(v:Int)) / (p:Int) = -((v / p:Nat):Int)-(if v % p≠0 then 1 else 0):=by
 have h:=Nat.div_add_mod v p;have hr:=Nat.mod_lt v hp;have h':(p:Int)*((v / p:Nat):Int)+((v % p:Nat):Int)=(v:Int):=by
  rw [← Int.natCast_mul,← Int.natCast_add,h]
 generalize v / p=q at *;generalize hrr:v % p=r at *
 by_cases h0:r=0
 ·rw [if_neg (by simpa using h0)];refine ((Int.ediv_emod_unique (by omega:(0:Int) < p) (r:=0)).2 ⟨?_,by omega,by omega⟩).1;rw [Int.sub_zero,Int.mul_neg]; omega
 ·rw [if_pos h0];refine ((Int.ediv_emod_unique (by omega:(0:Int) < p) (r:=(p:Int)-r)).2 ⟨?_,by omega,by omega⟩).1;rw [Int.mul_sub,Int.mul_neg,Int.mul_one]; omega
def q02 (k:Nat):((2 ^ k:Nat):Int)=(2:Int) ^ k:=by simp
def qiT (v k:Nat):(-(v:Int)) / (2:Int) ^ k = -((v / 2 ^ k:Nat):Int)-(if v % 2 ^ k≠0 then 1 else 0):=by
 rw [← q02]; exact qcT v (2 ^ k) (Nat.pow_pos Oq)
def bl (n:Nat):Nat:=if n=0 then 0 else Nat.log2 n+1
def q2o (n:Nat):n < 2 ^ bl n:=by
 unfold bl; split
 ·omega
 ·exact Nat.lt_log2_self
def q7V {n:Nat} (h:n≠0):2 ^ (bl n-1)≤n:=by
 unfold bl; rw [if_neg h]; exact Nat.log2_self_le h
def q1W:bl 0=0:=rfl
def qdI {n k:Nat} (h1:n < 2 ^ k) (h2:k=0∨2 ^ (k-1)≤n):bl n=k:=by
 by_cases h0:n=0
 ·subst h0
  rcases h2 with h2 | h2
  ·rw [h2]; rfl
  ·have:=Nat.pow_pos (n:=k-1) (show 0 < 2 by omega); omega
 ·have a:=q2o n;have b:=q7V h0;have c:bl n≠0:=by unfold bl; rw [if_neg h0]; omega
  have d:k≠0:=by intro e; subst e; simp at h1; omega
  have h2:=h2.resolve_left d;have e1:=(Nat.pow_lt_pow_iff_right (a:=2) Oq).1 (Nat.lt_of_le_of_lt b h1);have e2:=(Nat.pow_lt_pow_iff_right (a:=2) Oq).1 (Nat.lt_of_le_of_lt h2 a);omega
def q9b {n k:Nat} (h:2 ^ k≤n):bl n=k+bl (n / 2 ^ k):=by
 have hp:=Nat.pow_pos (n:=k) (show 0 < 2 by omega);have h0:n / 2 ^ k≠0:=by have:=Nat.div_pos h hp; omega
 have a:=q2o (n / 2 ^ k);have b:=q7V h0;have c:bl (n / 2 ^ k)≠0:=by unfold bl; rw [if_neg h0]; omega
 refine qdI ?_ (.inr ?_)
 ·rw [Nat.pow_add,Nat.mul_comm];exact (Nat.div_lt_iff_lt_mul hp).1 a
 ·rw [show k+bl (n / 2 ^ k)-1=k+(bl (n / 2 ^ k)-1) by omega,Nat.pow_add,Nat.mul_comm];exact (Nat.le_div_iff_mul_le hp).1 b
def q1K {m n:Nat} (h:m≤n):bl m≤bl n:=by
 by_cases h0:m=0
 ·subst h0; simp [q1W]
 ·have a:=q7V h0;have b:=q2o n;have:=(Nat.pow_lt_pow_iff_right (a:=2) Oq).1 (Nat.lt_of_le_of_lt (Nat.le_trans a h) b);omega
def q0O {n k:Nat} (h:n < 2 ^ k):bl n≤k:=by
 by_cases h0:n=0
 ·subst h0; simp [q1W]
 ·have:=(Nat.pow_lt_pow_iff_right (a:=2) Oq).1 (Nat.lt_of_le_of_lt (q7V h0) h);omega
def q7U {n:Nat} (h:n≠0):bl n=32*((lim n).length-1)+bl ((lim n).getD ((lim n).length-1) 0):=by
 have hp:=q0G.2 h;have h1:2 ^ (32*((lim n).length-1))=B ^ ((lim n).length-1):=by rw [q9p,← Nat.pow_mul]
 have h2:n / B ^ ((lim n).length-1)=(lim n).getD ((lim n).length-1) 0:=by
  have:=q2Q (q0A n) ((lim n).length-1);rw [q0B] at this;rw [← this,q1I,show (lim n).length-1+1=(lim n).length by omega,List.drop_length]; simp [val]
 rw [← h2,← h1];exact q9b (by rw [h1]; exact q35 h)
end Go.Sp
namespace Go.E
open Go
section
variable {P:Program} {w:World} {K:Value→World→Prop} {D:Nat→Prop}
def qdE {t:TypeId} {v:Value} (hK:∀ g w',w.heap.size=g→Ext w w'→Blk w' g t v.cells→w'.heap.size=g+1→K (.pointer (some ⟨g,0,none⟩)) w'):qlW t v w K:=by
 rw [qpM];exact hK _ _ rfl (Kp.alloc w _) (Blk.new w t v.cells) (by simp)
def qpc {t:TypeId} {z:Array Value} (hK:∀ g w',w.heap.size=g→Ext w w'→Blk w' g t z→w'.heap.size=g+1→K (.pointer (some ⟨g,0,none⟩)) w'):alW (some z) t w K:=by
 rw [alW_s];exact hK _ _ rfl (Kp.alloc w _) (Blk.new w t z) (by simp)
def qbF {T t g:Nat} {v:Value} {cs:Array Value} {K:World→Prop} (hb:Blk w g t cs) (hs:q0X P T=some v.cells.size) (hl:v.cells.size=cs.size) (h1:v.cells.toList.all (·.oneCell')=true)
  (hK:∀ w',Kp (fun k=>k≠g) w w'→Blk w' g t v.cells→K w'):q3h P T w (.pointer (some ⟨g,0,none⟩)) v K:=by
 rw [q8j];refine ⟨hs,hb.stOk _ _ (by simp [hl]) (fun u hu=>(List.all_eq_true.1 h1) u hu),hK _ (qbG _ _ _ fun _ h=>h rfl) ?_⟩;have:=hb.store (vs:=v.cells.toList) (by simp [hl]);simpa using this
def qeS {e:Env} {a t t' k g:Nat} {cs:Array Value} (he:e a=.pointer (some ⟨g,0,none⟩)) (hk:q04 P t=some (some k)) (hb:Blk w g t' cs) (hs:cs.size=k):q5j P w e (.cell a t)=some (.agg cs):=by
 unfold q5j;simp only [he,hk,hb.rdAll hs];simp
def q8A {k g t':Nat} {cs:Array Value} (hb:Blk w g t' cs) (hs:cs.size=k):ldV w (some (some k)) (.pointer (some ⟨g,0,none⟩))=some (.agg cs):=by
 simp only [ldV,hb.rdAll hs];simp
def Dx.ne {a b k g:Nat} (h:Dx D a b k) (h1:a≤g) (h2:g < b):k≠g:=fun e=>by subst e; exact Dx.not h1 h2 h
def Blk.kpne {g g' t:Nat} {cs:Array Value} {w':World} (h:Blk w g t cs) (hk:Kp (fun k=>k≠g') w w') (hne:g≠g'):Blk w' g t cs:=h.kp hk hne
end
end Go.E
namespace Go.Proofs.YtfmojhhokfkdaaaGreatDoor
open Go Go.E Go.Sp
def Big (w:World) (D:Nat→Prop) (s:Bool) (A:Option Addr) (n c:Nat) (z:Int):Prop:=s=decide (z < 0)∧U32 w D A n c (lim z.natAbs)
section
variable {w w':World} {D D':Nat→Prop} {A:Option Addr} {n c B:Nat} {l:List Nat} {s:Bool} {z:Int}
def Big.kp (h:Big w D s A n c z) (k:Kp D w w'):Big w' D s A n c z:=⟨h.1,h.2.kp k⟩
def Big.ext (h:Big w D s A n c z) (k:Ext w w'):Big w' D s A n c z:=⟨h.1,h.2.ext k⟩
def Big.sub (h:Big w D s A n c z) (hs:∀ k,k < w.heap.size→D k→D' k):Big w D' s A n c z:=⟨h.1,h.2.sub hs⟩
def Big.len (h:Big w D s A n c z):(lim z.natAbs).length=n:=h.2.len
def Big.sgn (h:Big w D s A n c z):sgn s z.natAbs=z:=by rw [h.1,q0V]
end
def Dx.keep {D:Nat→Prop} {w:World} {a b:Nat} (ha:a=w.heap.size):∀ k,k < w.heap.size→D k→Dx D a b k:=fun _ hk hd=>Dx.lt hd Oq
end Go.Proofs.YtfmojhhokfkdaaaGreatDoor
namespace Go.E
open Go
section
variable {P:Program} {t:TypeId} {k':IntKind} {a b:Nat}
def q7D (a b:Nat):Int.fdiv (a:Int) (b:Int)=((a / b:Nat):Int):=by
 rw [Int.fdiv_eq_ediv_of_nonneg _ (Int.natCast_nonneg b)]; rfl
def qeG:q0f P .shr t (.int .u64 (a:Int)) (.int k' 32)=some (.int .u64 ((a / 4294967296:Nat):Int)):=by
 rw [q1X,if_neg (by omega)];exact congrArg (fun x=>some (Value.int .u64 x)) (q7D a 4294967296)
def qeE:q0f P .shr t (.int .u64 (a:Int)) (.int k' 63)=some (.int .u64 ((a / 9223372036854775808:Nat):Int)):=by
 rw [q1X,if_neg (by omega)];exact congrArg (fun x=>some (Value.int .u64 x)) (q7D a 9223372036854775808)
def qiQ:q0f P .shr t (.int .u32 (a:Int)) (.int k' 8)=some (.int .u32 ((a / 256:Nat):Int)):=by
 rw [q1X,if_neg (by omega)];exact congrArg (fun x=>some (Value.int .u32 x)) (q7D a 256)
def qeI:q0f P .shr t (.int .u32 (a:Int)) (.int k' 16)=some (.int .u32 ((a / 65536:Nat):Int)):=by
 rw [q1X,if_neg (by omega)];exact congrArg (fun x=>some (Value.int .u32 x)) (q7D a 65536)
def qeH:q0f P .shr t (.int .u32 (a:Int)) (.int k' 27)=some (.int .u32 ((a / 134217728:Nat):Int)):=by
 rw [q1X,if_neg (by omega)];exact congrArg (fun x=>some (Value.int .u32 x)) (q7D a 134217728)
def w32N:IntKind.u32.wrap (a:Int)=((a % 4294967296:Nat):Int):=by rw [q1n]; omega
def qpt (h:a+b < 18446744073709551616):IntKind.u64.wrap ((a:Int)+(b:Int))=((a+b:Nat):Int):=by rw [q0j]; omega
def q4X (hb:b < 18446744073709551616):IntKind.u64.wrap ((a:Int)-(b:Int))=(((a+(18446744073709551616-b)) % 18446744073709551616:Nat):Int):=by rw [q0j]; omega
def id64N (h:a < 18446744073709551616):IntKind.u64.wrap (a:Int)=(a:Int):=by rw [q0j]; omega
def qn8 (h:a*b < 18446744073709551616):IntKind.u64.wrap ((a:Int)*(b:Int))=((a*b:Nat):Int):=by rw [q0j,← Int.natCast_mul]; omega
def i64N (h:a < 9223372036854775808):IntKind.i64.wrap (a:Int)=(a:Int):=by rw [qew]; omega
end
def q3R {n x:Nat}:(BitVec.ofInt n (x:Int))=BitVec.ofNat n x:=by simp
def qe5 {a b:Nat} (ha:a < 18446744073709551616) (hb:b < 18446744073709551616):q0n .or .u64 (a:Int) (b:Int)=((a ||| b:Nat):Int):=by
 have h:a ||| b < 2 ^ 64:=Nat.or_lt_two_pow ha hb;have h2:(BitVec.ofInt 64 (a:Int) ||| BitVec.ofInt 64 (b:Int)).toNat=a ||| b:=by
  rw [q3R,q3R,BitVec.toNat_or,BitVec.toNat_ofNat,BitVec.toNat_ofNat,Nat.mod_eq_of_lt ha,Nat.mod_eq_of_lt hb]
 show IntKind.u64.wrap ((BitVec.ofInt 64 (a:Int) ||| BitVec.ofInt 64 (b:Int)).toNat:Int)=_
 rw [h2,q0j]; omega
def or32N {a b:Nat} (ha:a < 4294967296) (hb:b < 4294967296):q0n .or .u32 (a:Int) (b:Int)=((a ||| b:Nat):Int):=by
 have h:a ||| b < 2 ^ 32:=Nat.or_lt_two_pow ha hb;have h2:(BitVec.ofInt 32 (a:Int) ||| BitVec.ofInt 32 (b:Int)).toNat=a ||| b:=by
  rw [q3R,q3R,BitVec.toNat_or,BitVec.toNat_ofNat,BitVec.toNat_ofNat,Nat.mod_eq_of_lt ha,Nat.mod_eq_of_lt hb]
 show IntKind.u32.wrap ((BitVec.ofInt 32 (a:Int) ||| BitVec.ofInt 32 (b:Int)).toNat:Int)=_
 rw [h2,q1n]; omega
def q51 {a b:Nat} (ha:a < 18446744073709551616) (hb:b < 18446744073709551616):q0n .and .u64 (a:Int) (b:Int)=((a &&& b:Nat):Int):=by
 have h:a &&& b < 2 ^ 64:=Nat.and_lt_two_pow a hb;have h2:(BitVec.ofInt 64 (a:Int) &&& BitVec.ofInt 64 (b:Int)).toNat=a &&& b:=by
  rw [q3R,q3R,BitVec.toNat_and,BitVec.toNat_ofNat,BitVec.toNat_ofNat,Nat.mod_eq_of_lt ha,Nat.mod_eq_of_lt hb]
 show IntKind.u64.wrap ((BitVec.ofInt 64 (a:Int) &&& BitVec.ofInt 64 (b:Int)).toNat:Int)=_
 rw [h2,q0j]; omega
def q9i {a b:Nat} (ha:a < 4294967296) (hb:b < 4294967296):q0n .and .u32 (a:Int) (b:Int)=((a &&& b:Nat):Int):=by
 have h:a &&& b < 2 ^ 32:=Nat.and_lt_two_pow a hb;have h2:(BitVec.ofInt 32 (a:Int) &&& BitVec.ofInt 32 (b:Int)).toNat=a &&& b:=by
  rw [q3R,q3R,BitVec.toNat_and,BitVec.toNat_ofNat,BitVec.toNat_ofNat,Nat.mod_eq_of_lt ha,Nat.mod_eq_of_lt hb]
 show IntKind.u32.wrap ((BitVec.ofInt 32 (a:Int) &&& BitVec.ofInt 32 (b:Int)).toNat:Int)=_
 rw [h2,q1n]; omega
section
variable {P:Program} {t:TypeId} {k':IntKind} {a b:Nat}
def qbH (hb:b≤64):q0f P .shl t (.int .u64 (a:Int)) (.int k' (b:Int))=some (.int .u64 ((a*2 ^ b % 18446744073709551616:Nat):Int)):=by
 rw [q8U,if_neg (by omega)];have:min (b:Int).toNat IntKind.u64.bits=b:=by simp [IntKind.bits]; omega
 rw [this,q0j]
 congr 2
def qg5 (hb:b≤32):q0f P .shl t (.int .u32 (a:Int)) (.int k' (b:Int))=some (.int .u32 ((a*2 ^ b % 4294967296:Nat):Int)):=by
 rw [q8U,if_neg (by omega)];have:min (b:Int).toNat IntKind.u32.bits=b:=by simp [IntKind.bits]; omega
 rw [this,q1n]
 congr 2
def qm8 (hb:b≤64):q0f P .shr t (.int .u64 (a:Int)) (.int k' (b:Int))=some (.int .u64 ((a / 2 ^ b:Nat):Int)):=by
 rw [q1X,if_neg (by omega)];have:min (b:Int).toNat IntKind.u64.bits=b:=by simp [IntKind.bits]; omega
 rw [this];have:=q7D a (2 ^ b);rw [← this]; simp
def qnL (h:a < 9223372036854775808):q0f P .quo t (.int .i64 (a:Int)) (.int .i64 32)=some (.int .i64 ((a / 32:Nat):Int)):=by
 rw [qdN,if_neg (by omega)];have:Int.tdiv (a:Int) 32=((a / 32:Nat):Int):=rfl;rw [this,i64_in Oq (by omega)]
def qnE:q0f P .rem t (.int .i64 (a:Int)) (.int .i64 32)=some (.int .i64 ((a % 32:Nat):Int)):=by
 rw [qdM,if_neg (by omega)]; rfl
end
section
variable {P:Program} {t:TypeId} {k':IntKind} {a b:Nat}
def qeL:q0f P .shl t (.int .u64 (a:Int)) (.int k' 32)=some (.int .u64 ((a*4294967296 % 18446744073709551616:Nat):Int)):=qbH (b:=32) Oq
def qiR (hb:b < 32):q0f P .shl t (.int .u32 1) (.int k' (b:Int))=some (.int .u32 ((2 ^ b:Nat):Int)):=by
 have:=qg5 (P:=P) (t:=t) (k':=k') (a:=1) (b:=b) Oq;rw [Nat.one_mul,Nat.mod_eq_of_lt (show 2 ^ b < 4294967296 from Nat.pow_lt_pow_right Oq hb)] at this;exact this
def qbB (h:0 < a) (h2:a < 4294967296):IntKind.u32.wrap ((a:Int)-1)=((a-1:Nat):Int):=by rw [q1n]; omega
end
attribute [go_sem high] qeL qiR qe5 or32N q51 q9i qbH qg5 qm8 qnL qnE
def beqN {a b:Nat}:((a:Int) == (b:Int))=decide (a=b):=by rw [Bool.eq_iff_iff,beq_iff_eq,decide_eq_true_eq]; omega
def bneN {a b:Nat}:((a:Int) != (b:Int))=decide (a≠b):=by rw [Bool.eq_iff_iff,bne_iff_ne,decide_eq_true_eq]; omega
def bne0 {a:Nat}:((a:Int) != 0)=decide (a≠0):=bneN (b:=0)
def beq0 {a:Nat}:((a:Int) == 0)=decide (a=0):=beqN (b:=0)
def qgm {k:IntKind} {a b:Int}:mmV true [.int k a,.int k b]=some (.int k (max a b)):=by simp [mmV]
def qgl {k:IntKind} {a b:Int}:mmV false [.int k a,.int k b]=some (.int k (min a b)):=by simp [mmV]
attribute [go_sem high] qgm qgl
attribute [go_sem high] qiQ qeI qeH qeG qeE w32N qpt qn8 id64N
end Go.E
namespace Go.Proofs.YtfmojhhokfkdaaaGreatDoor
open Go Go.E Go.Sp




def qbJ (s s':Bool) (a b:Nat):sgn s a*sgn s' b=sgn (s != s') (a*b):=by
 cases s <;> cases s' <;> simp [sgn,Int.neg_mul,Int.mul_neg]
end Go.Proofs.YtfmojhhokfkdaaaGreatDoor
namespace Go.E
open Go
def q9r {P:Program} {d:Option Nat} {t ty:TypeId} {x i:Operand} {pos:String} {af:Array Edge} {g:Option (Nat × Bool)} {e:Env} {w:World} {K:Value→World→Prop} {s:ByteArray} {k:IntKind} {n:Nat}
  (ht:P.underlying t=some .string) (hx:ev e x=.string s) (hi:ev e i=.int k n) (hn:n < s.size) (hK:K (.int .u8 s[n].toNat) w):wo P ⟨d,.index t x i,ty,pos,af,g⟩ e w K:=by
 show WO P ⟨d,.index t x i,ty,pos,af,g⟩ e w K
 unfold WO;have:(execOp (ev e) ⟨d,.index t x i,ty,pos,af,g⟩).run P w=(.ok (.value (.int .u8 s[n].toNat)) w):=by
  simp only [execOp,hx,hi];simp [go_sem,run_index_string,ht,hn]
 rw [this];exact hK
end Go.E
namespace Go.Proofs.YtfmojhhokfkdaaaGreatDoor
open Go Go.E Go.Sp
def qlP:ByteArray:=⟨(((List.range 256).map fun i=>UInt8.ofNat (bl i))).toArray⟩
def q6v:qlP.size=256:=by kernel_rfl
def qeg:((List.range 256).all fun i=>Nat.beq ((qlP.data.toList.getD i 0).toNat) (bl i))=true:=by kernel_rfl
def qef {y:Nat} (h:y < qlP.size):qlP[y].toNat=bl y:=by
 have h1:=qeg;rw [List.all_eq_true] at h1;have h2:=Nat.eq_of_beq_eq_true (h1 y (List.mem_range.2 (by rw [q6v] at h; exact h)));rw [← h2]
 congr 1
 have:y < qlP.data.toList.length:=by simpa using h
 rw [List.getD_eq_getElem?_getD,List.getElem?_eq_getElem this];simp
 rfl
def q9I {x:Nat} {w:World} (hx:x < 4294967296) :
  Calls Tryz.prog 229 #[.int .u32 x] w fun e w'=>e=.returned (.int .i64 (bl x:Nat))∧w=w':=by
 refine q1J Tryz.func229 rfl Tryz.ntmps229 (by kernel_rfl) ?_;refine Wz ?_;refine q06 fun K1 hK1=>?_;have st1:∀ (e1:Env) (a y:Nat),y < 65536→a+bl y=bl x→a≤16→e1 0=.int .u32 y→e1 2=.int .i64 a→K1 e1 w:=by
  intro e1 a y hy hab ha h0 h2;refine hK1 _ _ ?_; clear hK1;refine q06 fun K1 hK1=>?_;have st2:∀ (e1:Env) (a y:Nat),y < 256→a+bl y=bl x→a≤24→e1 0=.int .u32 y→e1 2=.int .i64 a→K1 e1 w:=by
   intro e1 a y hy hab ha h0 h2;refine hK1 _ _ ?_; clear hK1;have hw:IntKind.u8.wrap (y:Int)=(y:Int):=u8_in Oq Oq;refine q0P fun K hK=>?_
   set_option maxRecDepth 4000 in
   refine Zz3 h0 h2 hw ?_;refine q9r (s:=qlP) (by kernel_rfl) (by kernel_rfl) rfl (by rw [q6v]; exact hy) ?_;rw [qef];have hby:bl y≤8:=q0O Oq;have hs:IntKind.i64.wrap ((a:Int)+(bl y:Int))=(bl x:Int):=by rw [i64_in Oq (by omega)]; omega
   simp -implicitDefEqProofs (disch:=omega) only [go_sem,Nat.reduceEqDiff,Nat.reduceAdd,↓reduceIte,i64N,hs];refine hK _ _ ?_; clear hK;refine q4A ?_
   try simp only [q1S,q4a]
   refine qnA rfl ⟨rfl,rfl⟩
  by_cases hb:256≤y
  ·have hb':((y:Int) ≥ 256):=by omega
   refine Wz2 h0 hb' ?_;refine Wt ?_;refine Wz1 h0 ?_;refine q3m fun K9 hK9=>?_;refine Zz2 h2 @i64_in ?_;refine hK9 _ _ ?_; clear hK9 K9;have h8:bl y=8+bl (y / 256):=q9b (n:=y) (k:=8) hb;exact st2 _ (a+8) (y / 256) Oq Oq Oq Ue Ue
  ·have hb':¬ ((y:Int) ≥ 256):=by omega
   refine Wz2 h0 hb' ?_;refine Wf (q2N ?_);exact st2 _ a y Oq hab Oq Ue Ue
 by_cases hb:65536≤x
 ·have hb':((x:Int) ≥ 65536):=by omega
  refine Wz1 hb' ?_;refine Wt ?_;refine Wz ?_;refine q3m fun K9 hK9=>?_;refine Zz ?_;refine hK9 _ _ ?_; clear hK9 K9;have h8:bl x=16+bl (x / 65536):=q9b (n:=x) (k:=16) hb;exact st1 _ 16 (x / 65536) Oq Oq Oq Ue Ue
 ·have hb':¬ ((x:Int) ≥ 65536):=by omega
  refine Wz1 hb' ?_;refine Wf (q2N ?_);exact st1 _ 0 x Oq Oq Oq Ue Ue


end Go.Proofs.YtfmojhhokfkdaaaGreatDoor
namespace Go.Sp
open Go.E
def q0I (k:Nat):0 < 2 ^ k:=Nat.pow_pos Oq
def tzF:Nat→Nat→Nat
 | 0,_=>0
 | f+1,n=>if n % 2=1 then 0 else tzF f (n / 2)+1
def tz (n:Nat):Nat:=if n=0 then 0 else tzF n n
def q88:∀ (f n:Nat),n≠0→n≤f→∃ q,q % 2=1∧n=q*2 ^ tzF f n
 | 0,n,h,hf=>by omega
 | f+1,n,h,hf=>by
  unfold tzF
  by_cases ho:n % 2=1
  ·rw [if_pos ho]; exact ⟨n,ho,by simp⟩
  ·rw [if_neg ho];obtain ⟨q,hq,he⟩:=q88 f (n / 2) Oq Oq;refine ⟨q,hq,?_⟩;rw [Nat.pow_succ,← Nat.mul_assoc,← he]; omega
def q2B {n:Nat} (h:n≠0):∃ q,q % 2=1∧n=q*2 ^ tz n:=by
 unfold tz; rw [if_neg h]; exact q88 n n h (Nat.le_refl _)
def q8z:∀ {a b q r:Nat},q % 2=1→r % 2=1→q*2 ^ a=r*2 ^ b→a=b
 | 0,0,_,_,_,_,_=>rfl
 | 0,b+1,q,r,hq,hr,h=>by
  rw [Nat.pow_succ,← Nat.mul_assoc,Nat.pow_zero,Nat.mul_one] at h;generalize r*2 ^ b=x at h; omega
 | a+1,0,q,r,hq,hr,h=>by
  rw [Nat.pow_succ,← Nat.mul_assoc,Nat.pow_zero,Nat.mul_one] at h;generalize q*2 ^ a=x at h; omega
 | a+1,b+1,q,r,hq,hr,h=>by
  rw [Nat.pow_succ,Nat.pow_succ,← Nat.mul_assoc,← Nat.mul_assoc] at h;have:=q8z hq hr (Nat.eq_of_mul_eq_mul_right Oq h);omega
def q57 {n q k:Nat} (hq:q % 2=1) (h:n=q*2 ^ k):tz n=k:=by
 have h0:n≠0:=by
  rintro rfl;have:=q0I k
  rcases Nat.mul_eq_zero.1 h.symm with h | h <;> omega
 obtain ⟨r,hr,he⟩:=q2B h0;exact q8z hr hq (he.symm.trans h)
def q87 {n:Nat} (h:n % 2=1):tz n=0:=q57 h (by simp)
def qgU {n:Nat} (h:n≠0) (k:Nat):tz (n*2 ^ k)=tz n+k:=by
 obtain ⟨q,hq,he⟩:=q2B h;refine q57 hq ?_;rw [Nat.pow_add,← Nat.mul_assoc,← he]
def q4l {n:Nat} (h:n≠0):0 < bl n:=by unfold bl; rw [if_neg h]; omega
def q1h {n:Nat} (h:n≠0) (k:Nat):bl (n*2 ^ k)=bl n+k:=by
 have a:=q2o n;have b:=q7V h;have c:=q4l h;refine qdI ?_ (.inr ?_)
 ·rw [Nat.pow_add]; exact Nat.mul_lt_mul_of_pos_right a (q0I k)
 ·rw [show bl n+k-1=(bl n-1)+k by omega,Nat.pow_add]; exact Nat.mul_le_mul_right _ b
def q3S (a b:Nat):bl (a*b)≤bl a+bl b:=by
 refine q0O ?_;rw [Nat.pow_add];exact Nat.mul_lt_mul_of_lt_of_le (q2o a) (Nat.le_of_lt (q2o b)) (q0I _)
def q7W {a b k:Nat} (ha:bl a≤k) (hb:bl b≤k):bl (a+b)≤k+1:=by
 refine q0O ?_;have h1:=q2o a;have h2:=q2o b;have h3:2 ^ bl a≤2 ^ k:=Nat.pow_le_pow_right Oq ha;have h4:2 ^ bl b≤2 ^ k:=Nat.pow_le_pow_right Oq hb;rw [Nat.pow_succ]; omega
def q1i {n k:Nat} (h:bl n≤k):n < 2 ^ k:=Nat.lt_of_lt_of_le (q2o n) (Nat.pow_le_pow_right Oq h)
def qdJ {n k:Nat}:bl n≤k ↔ n < 2 ^ k:=⟨q1i,q0O⟩
def qdy {n:Nat} (h:n≠0):tz n < bl n:=by
 obtain ⟨q,hq,he⟩:=q2B h;have h1:bl n=bl q+tz n:=by
  have:=q1h (n:=q) Oq (tz n)
  rwa [← he] at this
 have:=q4l (n:=q) Oq;omega
def q9H (n:Nat):(lim n).length=(bl n+31) / 32:=by
 by_cases h:n=0
 ·subst h; rfl
 ·have h1:=q7U h;have h2:=q5v h;have h3:=(q0A n).get ((lim n).length-1);have h4:=q4l h2;have h5:bl ((lim n).getD ((lim n).length-1) 0)≤32:=q0O h3;have h6:=q0G.2 h;omega
def q58 {x:Nat} (h:x≠0) (hx:x < 4294967296):tz x < 32:=by
 have:=qdy h;have:bl x≤32:=q0O hx;omega
def qgT {l:List Nat} {i:Nat} (ha:q0T l) (hi:i < l.length) (h0:val (l.take i)=0) (hd:l.getD i 0≠0):tz (val l)=32*i+tz (l.getD i 0):=by
 have h1:=q0p l i Oq;rw [h0,Nat.zero_add,q1I] at h1;obtain ⟨q,hq,he⟩:=q2B hd;have hk:=q58 hd (ha.get i);refine q57 (q:=q+2 ^ (32-tz (l.getD i 0))*val (l.drop (i+1))) ?_ ?_
 ·rw [show 32-tz (l.getD i 0)=(31-tz (l.getD i 0))+1 by omega,Nat.pow_succ,Nat.mul_comm (2 ^ _) 2,Nat.mul_assoc];omega
 ·rw [h1];have e1:B ^ i=2 ^ (32*i):=by rw [q9p,← Nat.pow_mul]
  have e2:B=2 ^ (32-tz (l.getD i 0))*2 ^ tz (l.getD i 0):=by rw [← Nat.pow_add,q9p]; congr 1; omega
  rw [e1,Nat.pow_add,Nat.add_mul];generalize val (l.drop (i+1))=X;generalize hk':tz (l.getD i 0)=k at *;rw [he,e2];generalize 2 ^ (32-k)=Y;generalize 2 ^ k=Z;generalize 2 ^ (32*i)=U;simp only [Nat.mul_add,Nat.mul_left_comm,Nat.mul_comm]
def q3g {l:List Nat} {i:Nat}:(val (l.take (i+1))=0) ↔ (val (l.take i)=0∧l.getD i 0=0):=by
 have hB:=q3X i;have hv:val (l.take (i+1))=val (l.take i)+B ^ i*l.getD i 0:=by
  rcases Nat.lt_or_ge i l.length with h | h
  ·exact q1O l i h
  ·rw [q0D l (i+1) Oq,q0D l i h,q5E h]; simp
 rw [hv,Nat.add_eq_zero_iff,Nat.mul_eq_zero]
 constructor
 ·rintro ⟨a,b⟩; exact ⟨a,by omega⟩
 ·rintro ⟨a,b⟩; exact ⟨a,.inr b⟩
def od (m:Int):Int:=m / (2:Int) ^ tz m.natAbs
def q0H (k:Nat):0 < (2:Int) ^ k:=by rw [← q02]; exact_mod_cast q0I k
def q5S (k:Nat):((2:Int) ^ k).natAbs=2 ^ k:=by rw [← q02]; rfl
def q0J (m:Int) (k:Nat):(m*(2:Int) ^ k).natAbs=m.natAbs*2 ^ k:=by rw [Int.natAbs_mul,q5S]
def q1e (m:Int):od m*(2:Int) ^ tz m.natAbs=m:=by
 unfold od
 by_cases h:m=0
 ·subst h; simp
 ·obtain ⟨q,hq,he⟩:=q2B (n:=m.natAbs) Oq;refine Int.ediv_mul_cancel ?_;rw [← q02];exact Int.ofNat_dvd_left.2 ⟨q,by rw [Nat.mul_comm]; exact he⟩
def q1U:od 0=0:=by simp [od]
def q3y {m:Int} (h:m≠0):od m≠0:=fun h0=>h (by rw [← q1e m,h0]; simp)
def q5R (m:Int):(od m).natAbs*2 ^ tz m.natAbs=m.natAbs:=by
 rw [← q0J,q1e]
def qbk {m:Int} (h:m≠0):(od m).natAbs % 2=1:=by
 obtain ⟨q,hq,he⟩:=q2B (n:=m.natAbs) Oq;have:=Nat.eq_of_mul_eq_mul_right (q0I _) ((q5R m).trans he);rw [this]; exact hq
def qbj {m o:Int} {k:Nat} (ho:o.natAbs % 2=1) (h:m=o*(2:Int) ^ k):od m=o∧tz m.natAbs=k:=by
 have h1:tz m.natAbs=k:=q57 ho (by rw [h,q0J]);refine ⟨?_,h1⟩;unfold od;rw [h1,h,Int.mul_ediv_cancel _ (Int.ne_of_gt (q0H k))]
def qe6 {m:Int} (k:Nat):od (m*(2:Int) ^ k)=od m:=by
 by_cases h:m=0
 ·subst h; simp
 ·refine (qbj (k:=tz m.natAbs+k) (qbk h) ?_).1;rw [Int.pow_add,← Int.mul_assoc,q1e]
def q2c (m:Int):decide (od m < 0)=decide (m < 0):=by
 have h1:=q1e m;have h2:=q0H (tz m.natAbs);rw [decide_eq_decide]
 constructor
 ·intro h; rw [← h1]; exact Int.mul_neg_of_neg_of_pos h h2
 ·intro h
  rcases Int.lt_or_le (od m) 0 with h3 | h3
  ·exact h3
  ·have:=Int.mul_nonneg h3 (Int.le_of_lt h2);omega
def q8T {m:Int} (h:m≠0):bl (od m).natAbs+tz m.natAbs=bl m.natAbs:=by
 have:=q1h (n:=(od m).natAbs) (by have:=q3y h; omega) (tz m.natAbs);rw [q5R] at this;exact this.symm
def q6e (a:Int) (k:Nat):shI (a*(2:Int) ^ k) (-(k:Int))=a:=by
 unfold shI
 split
 ·rename_i h0;have:k=0:=by omega
  subst this; simp
 ·rw [show (- -(k:Int)).toNat=k by omega];exact Int.mul_ediv_cancel _ (Int.ne_of_gt (q0H k))
def qma (m:Int):shI (m.natAbs:Int) (-((tz m.natAbs:Nat):Int))=((od m).natAbs:Nat):=by
 have h1:=q5R m;generalize tz m.natAbs=k at *;rw [← h1,Int.natCast_mul,q02,q6e]
def qiS (m:Int):shI m (-((tz m.natAbs:Nat):Int))=od m:=by
 have h1:=q1e m;generalize tz m.natAbs=k at *;generalize od m=q at *;rw [← h1,q6e]
def dyE (V:Int):Int:=if V=0 then 0 else (tz V.natAbs:Int)-65536
def q07 (V:Int):Prop:=bl V.natAbs≤131072
def mkV (m e:Int):Option Int:=if m=0 then some 0 else if -65536≤e+tz m.natAbs∧e+bl m.natAbs≤65536 then some (od m*(2:Int) ^ (e+tz m.natAbs+65536).toNat) else none
def q1E (e:Int):mkV 0 e=some 0:=by simp [mkV]
def q5s {m e V:Int} (hm:m≠0) (h:mkV m e=some V) : -65536≤e+tz m.natAbs∧e+bl m.natAbs≤65536∧V=od m*(2:Int) ^ (e+tz m.natAbs+65536).toNat:=by
 unfold mkV at h;rw [if_neg hm] at h
 split at h
 ·rename_i hc; exact ⟨hc.1,hc.2,(Option.some.inj h).symm⟩
 ·cases h
def q2J {m e V:Int} (h:mkV m e=some V):od V=od m∧(m≠0→V≠0∧dyE V=e+tz m.natAbs)∧(m=0→V=0)∧q07 V:=by
 by_cases hm:m=0
 ·subst hm;rw [q1E] at h;obtain rfl:=Option.some.inj h;exact ⟨rfl,fun h=>absurd rfl h,fun _=>rfl,by simp [q07,q1W]⟩
 ·obtain ⟨h1,h2,h3⟩:=q5s hm h;obtain ⟨h4,h5⟩:=qbj (qbk hm) h3;have h6:V≠0:=fun h0=>by
   rw [h0,q1U] at h4; exact q3y hm h4.symm
  refine ⟨h4,fun _=>⟨h6,?_⟩,fun h=>absurd h hm,?_⟩
  ·unfold dyE; rw [if_neg h6,h5]; omega
  ·unfold q07;have h7:=q8T h6;have h8:=q8T hm;rw [h4,h5] at h7;omega
def q1G {m e:Int} (k:Nat):mkV (m*(2:Int) ^ k) e=mkV m (e+k):=by
 by_cases hm:m=0
 ·subst hm; simp [mkV]
 ·have hm':m*(2:Int) ^ k≠0:=Int.mul_ne_zero hm (Int.ne_of_gt (q0H k));unfold mkV;rw [if_neg hm,if_neg hm',q0J,qgU Oq,q1h Oq,qe6];have e1:e+((tz m.natAbs+k:Nat):Int)=e+k+tz m.natAbs:=by omega
  have e2:e+((bl m.natAbs+k:Nat):Int)=e+k+bl m.natAbs:=by omega
  rw [e1,e2]
def q3F {V:Int} (h:q07 V):mkV V (-65536)=some V:=by
 by_cases h0:V=0
 ·subst h0; exact q1E _
 ·unfold mkV q07 at *;rw [if_neg h0,if_pos (by omega)];rw [show (-65536+(tz V.natAbs:Int)+65536).toNat=tz V.natAbs by omega,q1e]
def qgn {V:Int} (h:q07 V):mkV (od V) (dyE V)=some V:=by
 by_cases h0:V=0
 ·subst h0; rw [q1U]; exact q1E _
 ·have h1:=q1G (m:=od V) (e := -65536) (tz V.natAbs);rw [q1e,q3F h] at h1;unfold dyE;rw [if_neg h0,h1,Int.add_comm]; rfl
def q7v {V E:Int} (hE : -65536≤E) (hv:E≤dyE V):od V*(2:Int) ^ (dyE V-E).toNat*(2:Int) ^ (E+65536).toNat=V:=by
 by_cases h0:V=0
 ·subst h0; rw [q1U]; simp
 ·unfold dyE at *;rw [if_neg h0] at *;rw [Int.mul_assoc,← Int.pow_add,show ((tz V.natAbs:Int)-65536-E).toNat+(E+65536).toNat=tz V.natAbs by omega,q1e]
def q5t {m V E:Int} (hE : -65536≤E) (h:m*(2:Int) ^ (E+65536).toNat=V):mkV m E=mkV V (-65536):=by
 rw [← h,q1G]; congr 1; omega
def qoc {V:Int} : -65536≤dyE V:=by unfold dyE; split <;> omega
def qob {V:Int} (h:q07 V):dyE V+bl (od V).natAbs≤65536:=by
 unfold dyE q07 at *
 split
 ·rename_i h0; subst h0; rw [q1U]; simp [q1W]
 ·rename_i h0; have:=q8T h0; omega
def q9a {V:Int} (h:q07 V):bl (od V).natAbs≤131072:=by
 by_cases h0:V=0
 ·subst h0; rw [q1U]; simp [q1W]
 ·have:=q8T h0; unfold q07 at h; omega
def qn0 (V:Int):od (-V) = -od V:=by
 by_cases h0:V=0
 ·subst h0; simp [q1U]
 ·refine (qbj (k:=tz V.natAbs) (by rw [Int.natAbs_neg]; exact qbk h0) ?_).1;rw [Int.neg_mul,q1e]
def qjj (V:Int):dyE (-V)=dyE V:=by unfold dyE; simp [Int.neg_eq_zero]
def qfb {V:Int} (h:q07 V):q07 (-V):=by unfold q07 at *; rwa [Int.natAbs_neg]
def qbr (a b:Int):mkV (od a*od b) (dyE a+dyE b)=mkV (a*b) (-131072):=by
 by_cases ha:a=0
 ·subst ha; rw [q1U]; simp [mkV]
 ·by_cases hb:b=0
  ·subst hb; rw [q1U]; simp [mkV]
  ·have:a*b=od a*od b*(2:Int) ^ (tz a.natAbs+tz b.natAbs):=by
    rw [Int.pow_add];have h1:=q1e a;have h2:=q1e b;generalize (2:Int) ^ tz a.natAbs=x at *;generalize (2:Int) ^ tz b.natAbs=y at *;generalize od a=p at *;generalize od b=q at *;rw [← h1,← h2];simp only [Int.mul_assoc,Int.mul_left_comm,Int.mul_comm]
   rw [this,q1G];unfold dyE;rw [if_neg ha,if_neg hb]; congr 1; omega
def rq (mode:Int) (neg:Bool) (N D:Nat):Nat :=
 if N % D=0 then N / D
 else if mode=1 then (if neg then N / D+1 else N / D)
 else if mode=2 then (if neg then N / D else N / D+1)
 else if mode=3 then N / D
 else if D < 2*(N % D)∨(2*(N % D)=D∧N / D % 2=1) then N / D+1 else N / D
def lgq (N D:Nat):Int:=(bl (N*2 ^ bl D / D):Int)-1-bl D
def rat (mode:Int) (neg:Bool) (N D:Nat) (q:Int):Nat:=rq mode neg (N*2 ^ (-q).toNat) (D*2 ^ q.toNat)
def sb (neg:Bool) (x:Nat):Nat:=if neg then x+9223372036854775808 else x
def qdd (mode:Int) (neg:Bool):Nat:=if mode=3∨(mode=1∧neg=false)∨(mode=2∧neg=true) then sb neg 9218868437227405311 else sb neg 9218868437227405312
def q8M (mode:Int) (neg:Bool) (n:Nat) (q:Int):Nat :=
 if n < 4503599627370496 then sb neg n else if 2047≤q+1075 then qdd mode neg else sb neg ((q+1075).toNat*4503599627370496+(n-4503599627370496))
def fin (mode:Int) (neg:Bool) (n:Nat) (q:Int):Nat:=if n=9007199254740992 then q8M mode neg 4503599627370496 (q+1) else q8M mode neg n q
def qej (N D:Nat):Int:=max (lgq N D-52) (-1074)
def rF (mode:Int) (neg:Bool) (N D:Nat):Nat:=fin mode neg (rat mode neg N D (qej N D)) (qej N D)
def ofF (f:Nat):Option Int :=
 if f / 4503599627370496 % 2048=2047 then none
 else if f / 4503599627370496 % 2048=0 then some (sgn (decide (9223372036854775808≤f)) (f % 4503599627370496)*(2:Int) ^ 64462)
 else some (sgn (decide (9223372036854775808≤f)) (4503599627370496+f % 4503599627370496)*(2:Int) ^ (64461+f / 4503599627370496 % 2048))
def qpP {q b:Nat} (hq:q≠0) (hb:b < 2):bl (2*q+b)=bl q+1:=by
 have:=q9b (n:=2*q+b) (k:=1) Oq;rw [this,show (2*q+b) / 2 ^ 1=q by omega]; omega
def qir {N D:Nat} (hD:0 < D) (h:D≤N):bl (N*2 / D)=bl (N / D)+1:=by
 have h1:=Nat.div_add_mod N D;have h2:=Nat.mod_lt N hD;have h3:N / D≠0:=by have:=Nat.div_pos h hD; omega
 have h4:N*2 / D=2*(N / D)+2*(N % D) / D:=by
  have e:N*2=2*(N % D)+D*(2*(N / D)):=by
   have:D*(2*(N / D))=2*(D*(N / D)):=by rw [Nat.mul_left_comm]
   omega
  rw [e,Nat.add_mul_div_left _ _ hD]; omega
 rw [h4];refine qpP h3 ?_;rw [Nat.div_lt_iff_lt_mul hD]; omega
def qaI {N D:Nat} (hD:0 < D) (h:D≤N):∀ k,bl (N*2 ^ k / D)=bl (N / D)+k
 | 0=>by simp
 | k+1=>by
  have h2:D≤N*2 ^ k:=Nat.le_trans h (Nat.le_mul_of_pos_right _ (q0I k));rw [Nat.pow_succ,← Nat.mul_assoc,qir hD h2,qaI hD h k]; omega
def qcC {N D k:Nat} (hD:0 < D) (h:D≤N*2 ^ k):lgq N D=(bl (N*2 ^ k / D):Int)-1-k:=by
 have hN:N≠0:=by rintro rfl; simp at h; omega
 have h1:D≤N*2 ^ bl D:=Nat.le_trans (Nat.le_of_lt (q2o D)) (Nat.le_mul_of_pos_left _ Oq);have a:=qaI hD h (bl D);have b:=qaI hD h1 k;rw [Nat.mul_assoc,← Nat.pow_add] at a b;rw [Nat.add_comm k] at a;unfold lgq; omega
def qcB {N D c:Nat} (hN:0 < N) (hD:0 < D) (hc:0 < c):lgq (N*c) (D*c)=lgq N D:=by
 have h1:D≤N*2 ^ bl D:=Nat.le_trans (Nat.le_of_lt (q2o D)) (Nat.le_mul_of_pos_left _ hN);have h2:D*c≤N*c*2 ^ bl D:=by rw [Nat.mul_right_comm]; exact Nat.mul_le_mul_right _ h1
 rw [qcC (Nat.mul_pos hD hc) h2,qcC hD h1,Nat.mul_right_comm,Nat.mul_div_mul_right _ _ hc]
def q5h {mode:Int} {neg:Bool} {N D c:Nat} (hc:0 < c):rq mode neg (N*c) (D*c)=rq mode neg N D:=by
 have e1:(N*c % (D*c)=0)=(N % D=0):=by
  rw [Nat.mul_mod_mul_right,Nat.mul_eq_zero]; simp only [eq_iff_iff]; constructor
  ·rintro (h | h) <;> omega
  ·exact fun h=>.inl h
 have e2:(D*c < 2*(N*c % (D*c)))=(D < 2*(N % D)):=by
  rw [Nat.mul_mod_mul_right,← Nat.mul_assoc]; simp only [eq_iff_iff];exact Nat.mul_lt_mul_right hc
 have e3:(2*(N*c % (D*c))=D*c)=(2*(N % D)=D):=by
  rw [Nat.mul_mod_mul_right,← Nat.mul_assoc]; simp only [eq_iff_iff];exact Nat.mul_left_inj Oq
 unfold rq;simp only [e1,e2,e3,Nat.mul_div_mul_right _ _ hc]
def q4G {mode:Int} {neg:Bool} {N D c:Nat} (hN:0 < N) (hD:0 < D) (hc:0 < c):rF mode neg (N*c) (D*c)=rF mode neg N D:=by
 unfold rF rat qej;rw [qcB hN hD hc,Nat.mul_right_comm N c,Nat.mul_right_comm D c,q5h hc]
def q3E {mode:Int} {neg:Bool} {N D N' D':Nat} (hN:0 < N) (hD:0 < D) (hN':0 < N') (hD':0 < D') (h:N*D'=N'*D):rF mode neg N D=rF mode neg N' D':=by
 rw [← q4G (c:=D') hN hD hD',h,Nat.mul_comm D D',q4G hN' hD' hD]
def qne {N D:Nat} (e:Int) (hD:0 < D) (h:D≤N):lgq (N*2 ^ e.toNat) (D*2 ^ (-e).toNat)=e+bl (N / D)-1:=by
 have h1:D*2 ^ (-e).toNat≤N*2 ^ e.toNat*2 ^ (-e).toNat:=Nat.mul_le_mul_right _ (Nat.le_trans h (Nat.le_mul_of_pos_right _ (q0I _)));rw [qcC (Nat.mul_pos hD (q0I _)) h1,Nat.mul_div_mul_right _ _ (q0I _),qaI hD h];omega
def qi4 {mode:Int} {neg:Bool} {N D:Nat} (e q:Int):rat mode neg (N*2 ^ e.toNat) (D*2 ^ (-e).toNat) q=rq mode neg (N*2 ^ (e-q).toNat) (D*2 ^ (q-e).toNat):=by
 unfold rat;rw [Nat.mul_assoc,Nat.mul_assoc,← Nat.pow_add,← Nat.pow_add]
 rcases Int.le_total q e with h | h
 ·have e1:e.toNat+(-q).toNat=(e-q).toNat+((-e).toNat+q.toNat):=by omega
  have e2:(q-e).toNat=0:=by omega
  rw [e1,e2,Nat.pow_zero,Nat.mul_one,Nat.pow_add 2 (e-q).toNat,← Nat.mul_assoc];exact q5h (q0I _)
 ·have e1:(-e).toNat+q.toNat=(q-e).toNat+(e.toNat+(-q).toNat):=by omega
  have e2:(e-q).toNat=0:=by omega
  rw [e1,e2,Nat.pow_zero,Nat.mul_one,Nat.pow_add 2 (q-e).toNat,← Nat.mul_assoc];exact q5h (q0I _)
def q4E {mode:Int} {neg:Bool} {N D:Nat} (h:N % D=0):rq mode neg N D=N / D:=by unfold rq; rw [if_pos h]
def qmp {mode:Int} {neg:Bool} {N:Nat}:rq mode neg N 1=N:=by rw [q4E (Nat.mod_one N),Nat.div_one]
def rq_le {mode:Int} {neg:Bool} {N D:Nat}:rq mode neg N D≤N / D+1:=by unfold rq; (repeat' split) <;> omega
def rE (mode:Int) (neg:Bool) (N D:Nat) (e:Int):Nat:=rF mode neg (N*2 ^ e.toNat) (D*2 ^ (-e).toNat)
def qb9 {mode:Int} {neg:Bool} {N D:Nat} {e:Int} (hD:0 < D) (h:D≤N) :
  rE mode neg N D e=fin mode neg (rq mode neg (N*2 ^ (e-max (e+bl (N / D)-53) (-1074)).toNat) (D*2 ^ (max (e+bl (N / D)-53) (-1074)-e).toNat)) (max (e+bl (N / D)-53) (-1074)):=by
 unfold rE rF qej;rw [qne e hD h,qi4,show e+(bl (N / D):Int)-1-52=e+bl (N / D)-53 by omega]
def q8P (N D k:Nat):N / (D*2 ^ k)=N / D / 2 ^ k:=(Nat.div_div_eq_div_mul N D (2 ^ k)).symm
def qjo (N D k:Nat):N % (D*2 ^ k)=D*(N / D % 2 ^ k)+N % D:=by rw [Nat.mod_mul]; omega
def qaR (N D k:Nat):Int:=if 0 < k∧N / D / 2 ^ (k-1) % 2=1 then (if N % D≠0∨N / D % 2 ^ (k-1)≠0 then 1 else 0) else -1
def upS (mode:Int) (neg:Bool) (half:Int) (odd:Bool):Bool:=if mode=1 then neg else if mode=2 then !neg else if mode=3 then false else (decide (0 < half) || (decide (half=0) && odd))
def qmo {mode:Int} {neg:Bool} {N D k:Nat} (hD:0 < D) (hk:N % D≠0→0 < k):rq mode neg N (D*2 ^ k) =
  N / D / 2 ^ k+(if (N / D % 2 ^ k≠0∨N % D≠0)∧upS mode neg (qaR N D k) (decide (N / D / 2 ^ k % 2=1))=true then 1 else 0):=by
 have h2:=Nat.mod_lt N hD
 rcases Nat.eq_zero_or_pos k with h0 | h0
 ·subst h0;have hr:N % D=0:=by
   rcases Nat.eq_zero_or_pos (N % D) with h | h
   ·exact h
   ·have:=hk (by omega); omega
  rw [Nat.pow_zero,Nat.mul_one,q4E hr,Nat.mod_one,hr]; simp
 have hp:2 ^ k=2 ^ (k-1)*2:=by rw [← Nat.pow_succ]; congr 1; omega
 have hp0:=q0I (k-1);have hs:=Nat.mod_mul (x:=N / D) (a:=2 ^ (k-1)) (b:=2);rw [← hp] at hs;have hs':=Nat.mod_lt (N / D) hp0;have hb2:N / D / 2 ^ (k-1) % 2 < 2:=Nat.mod_lt _ Oq;unfold rq qaR;rw [q8P,qjo];generalize N / D / 2 ^ k=Q;simp only [h0,true_and];generalize N / D % 2 ^ k=s at *;generalize N / D % 2 ^ (k-1)=s' at *;generalize N / D / 2 ^ (k-1) % 2=b at *;generalize N % D=r at *;rw [hp];generalize 2 ^ (k-1)=h at *;have e0:(D*s+r=0)=(s=0∧r=0):=by
  rw [eq_iff_iff,Nat.add_eq_zero_iff,Nat.mul_eq_zero]
  constructor
  ·rintro ⟨a | a,c⟩
   ·omega
   ·exact ⟨a,c⟩
  ·rintro ⟨a,c⟩; exact ⟨.inr a,c⟩
 have e1:D*(h*2)=2*(D*h):=by rw [Nat.mul_comm h 2,Nat.mul_left_comm]
 have key:∀ a b:Nat,a < b→D*a+D≤D*b:=fun a b hab=>by rw [← Nat.mul_succ]; exact Nat.mul_le_mul_left _ hab
 simp only [e0,e1]
 by_cases hz:s=0∧r=0
 ·obtain ⟨rfl,rfl⟩:=hz;simp
 ·have hz':s≠0∨r≠0:=by omega
  simp only [hz,hz',if_false,true_and];unfold upS
  by_cases m1:mode=1
  ·simp only [m1,if_true]; cases neg <;> rfl
  by_cases m2:mode=2
  ·simp only [m1,m2,if_false,if_true]; cases neg <;> rfl
  by_cases m3:mode=3
  ·simp only [m1,m2,m3,if_false,if_true]; rfl
  simp only [m1,m2,m3,if_false]
  by_cases hb:b=1
  ·subst hb;have hss:D*s=D*h+D*s':=by rw [hs,Nat.mul_one,Nat.add_comm,Nat.mul_add]
   simp only [if_true]
   by_cases hc:r≠0∨s'≠0
   ·have:0 < D*s'+r:=by
     rcases hc with hc | hc
     ·omega
     ·have:=Nat.mul_pos hD (show 0 < s' by omega); omega
    rw [if_pos (.inl Oq),if_pos hc]; simp
   ·have hr0:r=0:=by omega
    have hs0:s'=0:=by omega
    subst hr0; subst hs0;rw [Nat.mul_zero,Nat.add_zero] at hss;rw [hss]
    by_cases ho:Q % 2=1 <;> simp [ho]
  ·have hsl:s=s':=by
    have:b=0:=by omega
    rw [hs,this]; simp
   have:=key s h Oq;have c1:¬ (2*(D*h) < 2*(D*s+r)):=by omega
   have c2:¬ (2*(D*s+r)=2*(D*h)):=by omega
   simp [c1,c2,hb]
def qi7 {mode:Int} {neg:Bool} {N D:Nat} {e q:Int} (hD:0 < D) (h:D≤N) (hq:e+bl (N / D)-53≤q):rq mode neg (N*2 ^ (e-q).toNat) (D*2 ^ (q-e).toNat)≤9007199254740992:=by
 have h53:(2:Nat) ^ 53=9007199254740992:=by decide
 refine Nat.le_trans rq_le ?_;rw [q8P];have h1:=qaI hD h (e-q).toNat;have h2:=q2o (N*2 ^ (e-q).toNat / D);rw [h1] at h2
 rcases Int.le_total q e with hqe | hqe
 ·rw [show (q-e).toNat=0 by omega,Nat.pow_zero,Nat.div_one];have:2 ^ (bl (N / D)+(e-q).toNat)≤2 ^ 53:=Nat.pow_le_pow_right Oq Oq;omega
 ·have:N*2 ^ (e-q).toNat / D / 2 ^ (q-e).toNat < 2 ^ 53:=by
   rw [Nat.div_lt_iff_lt_mul (q0I _),← Nat.pow_add];exact Nat.lt_of_lt_of_le h2 (Nat.pow_le_pow_right Oq Oq)
  omega
def qiW {neg:Bool} {x:Nat} (h:x < 9223372036854775808):sb neg x < 18446744073709551616:=by unfold sb; split <;> omega
def qih {mode:Int} {neg:Bool}:qdd mode neg < 18446744073709551616:=by unfold qdd; split <;> exact qiW Oq
def qc9 {mode:Int} {neg:Bool} {n:Nat} {q:Int} (hn:n < 9007199254740992):q8M mode neg n q < 18446744073709551616:=by
 unfold q8M
 split
 ·exact qiW Oq
 ·split
  ·exact qih
  ·refine qiW ?_;have:(q+1075).toNat≤2046:=by omega
   omega
def qoR {mode:Int} {neg:Bool} {n:Nat} {q:Int} (hn:n≤9007199254740992):fin mode neg n q < 18446744073709551616:=by
 unfold fin
 split
 ·exact qc9 Oq
 ·exact qc9 Oq
def qnK {mode:Int} {neg:Bool} {N D:Nat} {e:Int} (hD:0 < D) (h:D≤N):rE mode neg N D e < 18446744073709551616:=by
 rw [qb9 hD h]; exact qoR (qi7 hD h Oq)
def qf2 {mode:Int} {neg:Bool} {n:Nat} {q:Int} (hn:n < 9007199254740992) (hq : -1074≤q) (hq2:q+1075 < 2047) (h:q = -1074∨4503599627370496≤n) :
  ofF (q8M mode neg n q)=some (sgn neg n*(2:Int) ^ (q+65536).toNat):=by
 unfold q8M
 by_cases h1:n < 4503599627370496
 ·rw [if_pos h1];have hq':q = -1074:=by omega
  subst hq';unfold ofF sb;cases neg
  ·rw [if_neg (by simp; omega),if_pos (by simp; omega)];simp only [Bool.false_eq_true,if_false];rw [decide_eq_false Oq,Nat.mod_eq_of_lt h1]; rfl
  ·rw [if_neg (by simp; omega),if_pos (by simp; omega)];simp only [if_true];rw [decide_eq_true Oq,show (n+9223372036854775808) % 4503599627370496=n by omega]; rfl
 ·rw [if_neg h1,if_neg (by omega)];obtain ⟨x,hx⟩:∃ x:Nat,x=(q+1075).toNat:=⟨_,rfl⟩;rw [← hx];have hx1:1≤x:=by omega
  have hx2:x≤2046:=by omega
  have hqx:(q+65536).toNat=64461+x:=by omega
  rw [hqx];unfold ofF sb;cases neg
  ·simp only [Bool.false_eq_true,if_false];have e1:(x*4503599627370496+(n-4503599627370496)) / 4503599627370496 % 2048=x:=by omega
   rw [e1,if_neg Oq,if_neg Oq,decide_eq_false Oq,show 4503599627370496+(x*4503599627370496+(n-4503599627370496)) % 4503599627370496=n by omega]
  ·simp only [if_true];have e1:(x*4503599627370496+(n-4503599627370496)+9223372036854775808) / 4503599627370496 % 2048=x:=by omega
   rw [e1,if_neg Oq,if_neg Oq,decide_eq_true Oq,show 4503599627370496+(x*4503599627370496+(n-4503599627370496)+9223372036854775808) % 4503599627370496=n by omega]
def q8t {mode:Int} {neg:Bool} {N D M:Nat} {f:Int} (hD:0 < D) (hM:0 < M) (hb:bl M≤53) (h1 : -1074≤f) (h2:f+bl M≤1024) (h:N*2 ^ (-f).toNat=D*M*2 ^ f.toNat) :
  ofF (rF mode neg N D)=some (sgn neg M*(2:Int) ^ (f+65536).toNat)∧rF mode neg N D < 18446744073709551616:=by
 have hN:0 < N:=by
  rcases Nat.eq_zero_or_pos N with h0 | h0
  ·subst h0;have a:=Nat.mul_pos (Nat.mul_pos hD hM) (q0I f.toNat);omega
  ·exact h0
 have e0:rF mode neg N D=rE mode neg M 1 f:=by
  unfold rE;refine q3E hN hD (Nat.mul_pos hM (q0I _)) (Nat.mul_pos Oq (q0I _)) ?_;rw [Nat.one_mul,h,Nat.mul_comm D M,Nat.mul_right_comm]
 refine ⟨?_,by rw [e0]; exact qnK Oq Oq⟩;rw [e0,qb9 Oq Oq,Nat.div_one];obtain ⟨q,hq⟩:∃ q:Int,q=max (f+bl M-53) (-1074):=⟨_,rfl⟩;rw [← hq,show (q-f).toNat=0 by omega,Nat.pow_zero,Nat.mul_one,qmp];have hbn:=q1h (n:=M) Oq (f-q).toNat;obtain ⟨n,hn⟩:∃ n,n=M*2 ^ (f-q).toNat:=⟨_,rfl⟩;rw [← hn] at hbn ⊢;have hn53:n < 2 ^ 53:=q1i Oq;have h53:(2:Nat) ^ 53=9007199254740992:=by decide
 unfold fin;rw [if_neg Oq,qf2 Oq Oq Oq ?_]
 ·rw [hn]
  congr 1
  have:sgn neg (M*2 ^ (f-q).toNat)=sgn neg M*(2:Int) ^ (f-q).toNat:=by
   rw [← q02]; cases neg <;> simp [sgn,Int.neg_mul]
  rw [this,Int.mul_assoc,← Int.pow_add]
  congr 2; omega
 ·rcases Int.le_total (f+bl M-53) (-1074) with hc | hc
  ·left; omega
  ·right
   have hne:n≠0:=by rw [hn]; exact Nat.ne_of_gt (Nat.mul_pos hM (q0I _))
   have:=q7V hne;have h52:(2:Nat) ^ 52=4503599627370496:=by decide
   rw [show bl n-1=52 by omega] at this;omega
end Go.Sp
namespace Go.E
open Go
structure Fam where
 p:(Nat→Prop)→Value→World→Prop
 kp:∀ {D:Nat→Prop} {w w':World} {v:Value},Kp D w w'→p D v w→p D v w'
 sub:∀ {D D':Nat→Prop} {w:World} {v:Value},(∀ k,k < w.heap.size→D k→D' k)→p D v w→p D' v w
def In (G:Fam) (D:Nat→Prop) (v:Value) (w:World):Prop:=G.p D v w
section
variable {G:Fam} {D D':Nat→Prop} {v:Value} {w w':World}
def In.kp (h:In G D v w) (k:Kp D w w'):In G D v w':=G.kp k h
def In.ext (h:In G D v w) (k:Ext w w'):In G D v w':=G.kp (Kp.of_ext k) h
def In.sub (h:In G D v w) (k:∀ k,k < w.heap.size→D k→D' k):In G D' v w:=G.sub k h
def In.all (h:In G D v w):In G (fun _=>True) v w:=G.sub (fun _ _ _=>trivial) h
def In.dx (h:In G D v w) {a b:Nat} (ha:w.heap.size≤a):In G (Dx D a b) v w:=G.sub (fun _ hk hd=>Dx.lt hd Oq) h
def In.st (h:In G (Dx D w.heap.size w'.heap.size) v w) (k:Ext w w'):In G (Dx D w.heap.size w'.heap.size) v w':=h.ext k
def Fam.S (G:Fam) (D:Nat→Prop):q21 (Kp fun _=>True):=⟨In G D,fun _ _ _ k h=>h.ext k⟩
def fc (v:Value):Fam:=⟨fun _ x _=>x=v,fun _ h=>h,fun _ h=>h⟩
def fP (G H:Fam):Fam:=⟨fun D v w=>∃ a b,v=.tuple #[a,b]∧G.p D a w∧H.p D b w,fun k ⟨a,b,e,h1,h2⟩=>⟨a,b,e,G.kp k h1,H.kp k h2⟩,fun k ⟨a,b,e,h1,h2⟩=>⟨a,b,e,G.sub k h1,H.sub k h2⟩⟩
def Rt (G:Fam) (D:Nat→Prop) (w:World):Ending→World→Prop:=fun e w'=>∃ v,e=.returned v∧Ext w w'∧In G D v w'
def Cr {P:Program} {f:FuncId} {args:List Value} {G:Fam} {D:Nat→Prop} {w:World} {K:Value→World→Prop} (hc:q0F P f=true) (h:Calls P f args.toArray w (Rt G D w)) (k:∀ v w',Ext w w'→In G D v w'→K v w'):q7Q P f args w K:=q05 hc h fun x w' ⟨v,h1,h2,h3⟩=>⟨v,h1,k v w' h2 h3⟩
def In.own {w1 w2:World} {g a b:Nat} (h:In G (Dx D a b) v w1) (k:Kp (fun k=>k≠g) w1 w2) (h1:a≤g) (h2:g < b):In G (Dx D a b) v w2:=h.kp (k.mono fun _ _ h=>Dx.ne h h1 h2)
def In.un {a b:Nat} (h:In G (Dx D a b) v w):In G D v w:=h.sub fun _ _ h=>h.1
end
def Dl (D:Nat→Prop) (L:List Nat):Nat→Prop:=fun k=>D k∧k ∉ L
section
variable {G:Fam} {D:Nat→Prop} {L:List Nat} {v:Value} {w w0 w1 w2:World} {g:Nat}
def In.nL (h:In G D v w) (hL:∀ g ∈ L,w.heap.size≤g):In G (Dl D L) v w:=h.sub fun k hk hd=>⟨hd,fun hm=>by have:=hL k hm; omega⟩
def In.nw (h:In G (Dl D L) v w) (hg:w.heap.size≤g):In G (Dl D (g :: L)) v w:=h.sub fun k hk hd=>⟨hd.1,fun hm=>by
 rcases List.mem_cons.1 hm with e | hm
 ·omega
 ·exact hd.2 hm⟩
def In.ow (h:In G (Dl D L) v w1) (k:Kp (fun k=>k≠g) w1 w2) (hg:g ∈ L):In G (Dl D L) v w2:=h.kp (k.mono fun j _ hj e=>hj.2 (e ▸ hg))
def In.ul (h:In G (Dl D L) v w):In G D v w:=h.sub fun _ _ h=>h.1
def Fr.nL (h:Fr D w) (hx:Ext w w1) (hL:∀ g ∈ L,g < w1.heap.size):Fr (Dl D L) w1:=fun k hk=>⟨h k (Nat.le_trans hx.size hk),fun hm=>by have:=hL k hm; omega⟩
def Fr.nw (h:Fr (Dl D L) w) (hx:Ext w w1) (hg:g < w1.heap.size):Fr (Dl D (g :: L)) w1:=fun k hk=>⟨(h k (Nat.le_trans hx.size hk)).1,fun hm=>by
 rcases List.mem_cons.1 hm with e | hm
 ·omega
 ·exact (h k (Nat.le_trans hx.size hk)).2 hm⟩
def Fr.ow (h:Fr D w1) (k:Kp (fun k=>k≠g) w1 w2):Fr D w2:=h.kp k
def Kp.all (h:Kp (fun k=>k ∉ ([]:List Nat)) w w1):Ext w w1:=h.mono fun _ _ _=>by simp
def In.wk (h:In G (Dl D (g :: L)) v w):In G (Dl D L) v w:=h.sub fun _ _ h=>⟨h.1,fun hm=>h.2 (List.mem_cons_of_mem _ hm)⟩
def Fr.wk (h:Fr (Dl D (g :: L)) w):Fr (Dl D L) w:=fun k hk=>⟨(h k hk).1,fun hm=>(h k hk).2 (List.mem_cons_of_mem _ hm)⟩
def Rt.fin (hx:Ext w w0) (h:In G (Dl D L) v w0) (k:Kp (fun k=>k≠g) w0 w1) (hg:g ∈ L) (hw:w.heap.size≤g):Rt G D w (.returned v) w1 :=
 ⟨v,rfl,hx.under k fun k hk=>by omega,(h.ow k hg).ul⟩
def Rt.fin1 (hx:Ext w w0) (h:In G D v w0):Rt G D w (.returned v) w0:=⟨v,rfl,hx,h⟩
end
section
variable {w:World} {g t:Nat} {a b c d e f h i:Value} {l:List Value}
def Blk.c0 (hb:Blk w g t ⟨a :: l⟩):w.cell? ⟨g,0,none⟩=some a:=hb.cell 0
def Blk.c1 (hb:Blk w g t ⟨a :: b :: l⟩):w.cell? ⟨g,1,none⟩=some b:=hb.cell 1
def Blk.c2 (hb:Blk w g t ⟨a :: b :: c :: l⟩):w.cell? ⟨g,2,none⟩=some c:=hb.cell 2
def Blk.c3 (hb:Blk w g t ⟨a :: b :: c :: d :: l⟩):w.cell? ⟨g,3,none⟩=some d:=hb.cell 3
def Blk.c4 (hb:Blk w g t ⟨a :: b :: c :: d :: e :: l⟩):w.cell? ⟨g,4,none⟩=some e:=hb.cell 4
def Blk.c5 (hb:Blk w g t ⟨a :: b :: c :: d :: e :: f :: l⟩):w.cell? ⟨g,5,none⟩=some f:=hb.cell 5
def Blk.c6 (hb:Blk w g t ⟨a :: b :: c :: d :: e :: f :: h :: l⟩):w.cell? ⟨g,6,none⟩=some h:=hb.cell 6
def Blk.l2 (hb:Blk w g t ⟨[a,b]⟩):ldV w (some (some 2)) (.pointer (some ⟨g,0,none⟩))=some (.agg #[a,b]):=q8A hb rfl
def Blk.l3 (hb:Blk w g t ⟨[a,b,c]⟩):ldV w (some (some 3)) (.pointer (some ⟨g,0,none⟩))=some (.agg #[a,b,c]):=q8A hb rfl
def Blk.l4 (hb:Blk w g t ⟨[a,b,c,d]⟩):ldV w (some (some 4)) (.pointer (some ⟨g,0,none⟩))=some (.agg #[a,b,c,d]):=q8A hb rfl
end
def Shp (k:Nat) (v:Value):Prop:=∃ cs:Array Value,v=.agg cs∧cs.size=k∧cs.toList.all (·.oneCell')=true
def qmJ {P:Program} {w:World} {T t g k:Nat} {v:Value} {cs:Array Value} {K:World→Prop} (hb:Blk w g t cs) (hs:q0X P T=some k) (hc:cs.size=k) (hv:Shp k v)
  (hK:∀ w',Kp (fun k=>k≠g) w w'→Blk w' g t v.cells→K w'):q3h P T w (.pointer (some ⟨g,0,none⟩)) v K:=by
 obtain ⟨c2,rfl,h1,h2⟩:=hv;exact qbF hb (by rw [hs,← h1]; rfl) (by show c2.size=_; omega) h2 hK
def qnB {P:Program} {w:World} {e:Env} {a T t g k:Nat} {v:Value} (he:e a=.pointer (some ⟨g,0,none⟩)) (hk:q04 P T=some (some k)) (hb:Blk w g t v.cells) (hv:Shp k v):q5j P w e (.cell a T)=some v:=by
 obtain ⟨c2,rfl,h1,h2⟩:=hv;exact qeS he hk hb h1
def retS {P:Program} {fn:Func} {R:Ending→World→Prop} {e:Env} {w:World} {a T t g k:Nat} {v:Value} (h:fn.results=#[.cell a T]) (he:e a=.pointer (some ⟨g,0,none⟩)) (hk:q04 P T=some (some k)) (hb:Blk w g t v.cells) (hv:Shp k v) (hR:R (.returned v) w):qaA P fn R .ret e w :=
 qi0 h (qnB he hk hb hv) hR
def Rt.own {G:Fam} {D:Nat→Prop} {v:Value} {w w0 w1:World} {g a b:Nat} (hx:Ext w w0) (h:In G (Dx D a b) v w0) (k:Kp (fun k=>k≠g) w0 w1) (h1:a≤g) (h2:g < b) (hw:w.heap.size≤g):Rt G D w (.returned v) w1 :=
 ⟨v,rfl,hx.under k fun k hk=>by omega,(h.own k h1 h2).un⟩
end Go.E
namespace Go.Proofs.YtfmojhhokfkdaaaGreatDoor
open Go Go.E Go.Sp
def fB (z:Int):Fam:=⟨fun D v w=>∃ s A n c,v=.agg #[.bool s,.slice A n c]∧Big w D s A n c z,fun k ⟨s,A,n,c,e,h⟩=>⟨s,A,n,c,e,h.kp k⟩,fun k ⟨s,A,n,c,e,h⟩=>⟨s,A,n,c,e,h.sub k⟩⟩
def fU (l:List Nat):Fam:=⟨fun D v w=>∃ A n c,v=.slice A n c∧U32 w D A n c l,fun k ⟨A,n,c,e,h⟩=>⟨A,n,c,e,h.kp k⟩,fun k ⟨A,n,c,e,h⟩=>⟨A,n,c,e,h.sub k⟩⟩
def fV (V:Int):Fam:=⟨fun D v w=>∃ s A n c,v=.agg #[.bool false,.bool s,.slice A n c,.int .i64 (dyE V)]∧Big w D s A n c (od V)∧q07 V,fun k ⟨s,A,n,c,e,h,o⟩=>⟨s,A,n,c,e,h.kp k,o⟩,fun k ⟨s,A,n,c,e,h,o⟩=>⟨s,A,n,c,e,h.sub k,o⟩⟩
section
variable {D:Nat→Prop} {v:Value} {w w':World} {z V m e:Int} {l:List Nat} {s:Bool} {A:Option Addr} {n c:Nat}
def Big.in (h:Big w D s A n c z):In (fB z) D (.agg #[.bool s,.slice A n c]) w:=⟨s,A,n,c,rfl,h⟩
def U32.in (h:U32 w D A n c l):In (fU l) D (.slice A n c) w:=⟨A,n,c,rfl,h⟩
def Big.own {w1 w2:World} {g a b:Nat} (h:Big w1 (Dx D a b) s A n c z) (k:Kp (fun k=>k≠g) w1 w2) (h1:a≤g) (h2:g < b):Big w2 (Dx D a b) s A n c z:=h.kp (k.mono fun _ _ h=>Dx.ne h h1 h2)
def Big.un {a b:Nat} (h:Big w (Dx D a b) s A n c z):Big w D s A n c z:=h.sub fun _ _ h=>h.1
def U32.own {w1 w2:World} {g a b:Nat} (h:U32 w1 (Dx D a b) A n c l) (k:Kp (fun k=>k≠g) w1 w2) (h1:a≤g) (h2:g < b):U32 w2 (Dx D a b) A n c l:=h.kp (k.mono fun _ _ h=>Dx.ne h h1 h2)
def Big.dx (h:Big w D s A n c z) {a b:Nat} (ha:w.heap.size≤a):Big w (Dx D a b) s A n c z:=h.sub fun _ hk hd=>Dx.lt hd Oq
def U32.dx (h:U32 w D A n c l) {a b:Nat} (ha:w.heap.size≤a):U32 w (Dx D a b) A n c l:=h.sub fun _ hk hd=>Dx.lt hd Oq
def fV_s (h:In (fV V) D v w):Shp 4 v:=by obtain ⟨s,A,n,c,rfl,_⟩:=h; exact ⟨_,rfl,rfl,rfl⟩
end
end Go.Proofs.YtfmojhhokfkdaaaGreatDoor
namespace Go.E
open Go.Proofs.YtfmojhhokfkdaaaGreatDoor Go.Sp
section
variable {D:Nat→Prop} {v:Value} {w w':World} {z V m e:Int} {l:List Nat} {s:Bool} {A:Option Addr} {n c:Nat}
def In.big (h:In (fB z) D (.agg #[.bool s,.slice A n c]) w):Big w D s A n c z:=by
 obtain ⟨_,_,_,_,e,h⟩:=h; cases e; exact h
def In.u32 (h:In (fU l) D (.slice A n c) w):U32 w D A n c l:=by
 obtain ⟨_,_,_,e,h⟩:=h; cases e; exact h
def In.sg (h:In (fB z) D (.agg #[.bool s,.slice A n c]) w):s=decide (z < 0):=h.big.1
def In.ok (h:In (fV V) D v w):q07 V:=by obtain ⟨_,_,_,_,_,_,h⟩:=h; exact h
end
end Go.E
namespace Go.Proofs.YtfmojhhokfkdaaaGreatDoor
open Go Go.E Go.Sp
section
variable {D:Nat→Prop} {v:Value} {w w':World} {z V m e:Int} {l:List Nat} {s:Bool} {A:Option Addr} {n c:Nat}
end
section
variable {D:Nat→Prop} {v v':Value} {w:World} {a b:Int}
end
end Go.Proofs.YtfmojhhokfkdaaaGreatDoor
namespace Go.E
open Go Go.RowKit
def q0U (vs:List Value):List Value:=vs.flatMap fun v=>v.cells.toList
def Cel (sz:Nat) (v:Value):Prop:=v.cells.size=sz∧v.cells.toList.all (·.oneCell')=true
def Shp.cel {k:Nat} {v:Value} (h:Shp k v):Cel k v:=by
 obtain ⟨cs,rfl,h1,h2⟩:=h; exact ⟨h1,h2⟩
structure Els {α:Type} (G:α→Fam) (D:Nat→Prop) (sz:Nat) (w:World) (l:List α) (vs:List Value):Prop where
 len:vs.length=l.length
 get:∀ (i:Nat) (x:α),l[i]?=some x→∃ v,vs[i]?=some v∧In (G x) D v w∧Cel sz v
section
variable {α:Type} {G:α→Fam} {D D':Nat→Prop} {sz:Nat} {w w':World} {l:List α} {vs:List Value}
def Els.kp (h:Els G D sz w l vs) (k:Kp D w w'):Els G D sz w' l vs:=⟨h.len,fun i x hx=>by obtain ⟨v,a,b,c⟩:=h.get i x hx; exact ⟨v,a,b.kp k,c⟩⟩
def Els.sub (h:Els G D sz w l vs) (k:∀ k,k < w.heap.size→D k→D' k):Els G D' sz w l vs:=⟨h.len,fun i x hx=>by obtain ⟨v,a,b,c⟩:=h.get i x hx; exact ⟨v,a,b.sub k,c⟩⟩
def Els.nil:Els G D sz w [] []:=⟨rfl,fun i x hx=>by simp at hx⟩
def Els.snoc (h:Els G D sz w l vs) {x:α} {v:Value} (hv:In (G x) D v w) (hc:Cel sz v):Els G D sz w (l ++ [x]) (vs ++ [v]):=by
 refine ⟨by simp [h.len],fun i y hy=>?_⟩
 rcases Nat.lt_or_ge i l.length with hi | hi
 ·rw [List.getElem?_append_left hi] at hy;obtain ⟨u,a,b⟩:=h.get i y hy;exact ⟨u,by rw [List.getElem?_append_left (by rw [h.len]; exact hi)]; exact a,b⟩
 ·rw [List.getElem?_append_right hi] at hy;have h0:i-l.length=0:=by
   rcases Nat.eq_zero_or_pos (i-l.length) with h0 | h0
   ·exact h0
   ·rw [List.getElem?_eq_none (by simp; omega)] at hy; cases hy
  rw [h0] at hy;simp only [List.getElem?_cons_zero,Option.some.injEq] at hy;subst hy;refine ⟨v,?_,hv,hc⟩;rw [List.getElem?_append_right (by rw [h.len]; exact hi),h.len,h0]; rfl
def q4J {vs:List Value} {sz:Nat} (hv:∀ v ∈ vs,v.cells.size=sz) {i j:Nat} {v:Value} (hi:vs[i]?=some v) (hj:j < sz):(q0U vs)[i*sz+j]?=v.cells[j]?:=by
 induction vs generalizing i with
 | nil=>simp at hi
 | cons u vs ih =>
  have h1:=hv u List.mem_cons_self;unfold q0U at *;rw [List.flatMap_cons];cases i with
  | zero =>
   simp at hi; subst hi;rw [List.getElem?_append_left (by simp; omega)]; simp
  | succ i =>
   rw [List.getElem?_append_right (by rw [Array.length_toList,h1,Nat.succ_mul]; omega),Array.length_toList,h1];have:=ih (fun x hx=>hv x (List.mem_cons_of_mem _ hx)) (i:=i) (by simpa using hi);rw [← this]; congr 1; rw [Nat.succ_mul]; omega
def qc5 (vs:List Value) (v:Value):q0U (vs ++ [v])=q0U vs ++ v.cells.toList:=by simp [q0U]
end
def fSl {α : Type} (sz : Nat) (G : α → Fam) (l : List α) : Fam :=
  ⟨fun D v w => ∃ A n c vs, v = .slice A n c ∧ Row w D sz A n c (q0U vs) ∧ Els G D sz w l vs ∧ l.length = n,
   fun k ⟨A, n, c, vs, e, h1, h2, h3⟩ => ⟨A, n, c, vs, e, h1.kp k, h2.kp k, h3⟩,
   fun k ⟨A, n, c, vs, e, h1, h2, h3⟩ => ⟨A, n, c, vs, e, h1.sub k, h2.sub k, h3⟩⟩
def fSc {α:Type} (f:α→Value) (l:List α):Fam :=
 ⟨fun D v w=>∃ A n c,v=.slice A n c∧Row w D 1 A n c (l.map f),fun k ⟨A,n,c,e,h⟩=>⟨A,n,c,e,h.kp k⟩,fun k ⟨A,n,c,e,h⟩=>⟨A,n,c,e,h.sub k⟩⟩
section
variable {α:Type} {G:α→Fam} {f:α→Value} {D D':Nat→Prop} {sz:Nat} {w w':World} {l:List α} {vs:List Value} {A:Option Addr} {n c:Nat} {v:Value}
def In.sc_row (h:In (fSc f l) D (.slice A n c) w):Row w D 1 A n c (l.map f):=by
 obtain ⟨_,_,_,e,h⟩:=h; cases e; exact h
def In.sc_len (h:In (fSc f l) D (.slice A n c) w):l.length=n:=by have:=h.sc_row.len; simpa using this
def In.sc_get (h:In (fSc f l) D (.slice A n c) w) {i:Nat} (hi:i < l.length):∃ ad,A=some ad∧w.cell? (ad.add i)=some (f l[i]):=by
 obtain ⟨ad,h1,h2⟩:=h.sc_row.get (j:=i) (by simpa using hi);exact ⟨ad,h1,by rw [h2]; simp⟩
def In.sc_nil:In (fSc f ([]:List α)) D (.slice none 0 0) w:=⟨none,0,0,rfl,Row.nil _ _ _⟩
def In.sl_len (h:In (fSl sz G l) D (.slice A n c) w):l.length=n:=by obtain ⟨_,_,_,_,e,_,_,h⟩:=h; cases e; exact h
def qge {w:World} {p:Addr}:∀ (cs:List Value) (i:Nat),(∀ j u,cs[j]?=some u→w.cell? (p.add (i+j))=some u)→q0c w p i cs.length=some cs
 | [],_,_=>rfl
 | c :: cs,i,h=>by
  rw [List.length_cons,rd_s,show w.cell? (p.add i)=some c from h 0 c rfl,qge cs (i+1) (fun j u hu=>by rw [show i+1+j=i+(j+1) by omega]; exact h (j+1) u (by simpa using hu))]; rfl
def q2q {α:Type} (G:α→Fam) (T sz:Nat) (w:World) (D:Nat→Prop) (B:Nat) (A:Option Addr) (n c:Nat) (l:List α):Prop :=
 ∃ vs,Own w B T sz A n c (q0U vs)∧Els G (fun k=>D k∧nb A k) sz w l vs∧l.length=n
variable {T B:Nat}
def q2q.nil:q2q G T sz w D B none 0 0 []:=⟨[],Own.nil _ _ _ _,Els.nil,rfl⟩
def Own.blk_lt {xs:List Value} (h:Own w B T sz A n c xs):∀ a,A=some a→a.block < w.heap.size∧B≤a.block:=by
 intro a ha
 rcases h.form with ⟨h0,_⟩ | ⟨g,_,h0,hb,hg,_⟩
 ·rw [h0] at ha; cases ha
 ·rw [h0] at ha; obtain rfl:=Option.some.inj ha; exact ⟨hg.lt,hb⟩
def q2q.in (h:q2q G T sz w D B A n c l) (hd:∀ k,B≤k→D k):In (fSl sz G l) D (.slice A n c) w:=by
 obtain ⟨vs,h1,h2,h3⟩:=h;exact ⟨A,n,c,vs,rfl,h1.row.sub fun k _ hk=>hd k hk,h2.sub fun k _ hk=>hk.1,h3⟩
def q2q.len (h:q2q G T sz w D B A n c l):l.length=n:=by obtain ⟨_,_,_,h⟩:=h; exact h
def q2q.ext (h:q2q G T sz w D B A n c l) (k:Ext w w'):q2q G T sz w' D B A n c l:=by
 obtain ⟨vs,h1,h2,h3⟩:=h;exact ⟨vs,h1.ext k,h2.kp (Kp.of_ext k),h3⟩
def q2q.kp (h:q2q G T sz w D B A n c l) {D':Nat→Prop} (k:Kp D' w w') (hd:∀ k,D k→D' k) (ha:∀ a,A=some a→D' a.block):q2q G T sz w' D B A n c l:=by
 obtain ⟨vs,h1,h2,h3⟩:=h;exact ⟨vs,h1.kp k ha,h2.kp (k.mono fun j _ hj=>hd j hj.1),h3⟩
def In.grew {H:Fam} {u:Value} {A':Option Addr} (h:In H (fun k=>D k∧nb A k) u w) (k:Kp (nb A) w w') (ha:A'=A∨∃ g,w.heap.size≤g∧A'=some ⟨g,0,none⟩):In H (fun k=>D k∧nb A' k) u w':=by
 have h1:In H (fun k=>(D k∧nb A k)∧k < w.heap.size) u w:=h.sub fun j hj hd=>⟨hd,hj⟩;refine (h1.kp (k.mono fun j _ hj=>hj.1.2)).sub fun j _ hj=>⟨hj.1.1,?_⟩
 rcases ha with rfl | ⟨g,hg,rfl⟩
 ·exact hj.1.2
 ·intro a ha; cases ha; simp only; have:=hj.2; omega
def Fr.nb (h:Fr D w) (ha:∀ a,A=some a→a.block < w.heap.size):Fr (fun k=>D k∧nb A k) w:=fun k hk=>⟨h k hk,fun a h0=>by have:=ha a h0; omega⟩
end
section
variable {P:Program} {w:World} {α:Type} {G:α→Fam}
end
end Go.E
namespace Go.Sp
def q9h (q r a b:Nat) (ha:a < 2) (hb:b < 2):(2*q+a) &&& (2*r+b)=2*(q &&& r)+(a*b):=by
 have hab:a*b < 2:=by
  rcases Nat.lt_or_ge a 1 with h | h
  ·rw [show a=0 by omega]; simp
  ·rw [show a=1 by omega]; omega
 apply Nat.eq_of_testBit_eq
 intro i;cases i with
 | zero =>
  rw [Nat.testBit_and,Nat.testBit_zero,Nat.testBit_zero,Nat.testBit_zero];have e1:(2*q+a) % 2=a:=by omega
  have e2:(2*r+b) % 2=b:=by omega
  have e3:(2*(q &&& r)+a*b) % 2=a*b:=by omega
  rw [e1,e2,e3]
  rcases Nat.lt_or_ge a 1 with h | h
  ·rw [show a=0 by omega]; simp
  ·rw [show a=1 by omega]; simp
 | succ i =>
  rw [Nat.testBit_and,Nat.testBit_succ,Nat.testBit_succ,Nat.testBit_succ];have e1:(2*q+a) / 2=q:=by omega
  have e2:(2*r+b) / 2=r:=by omega
  have e3:(2*(q &&& r)+a*b) / 2=q &&& r:=by omega
  rw [e1,e2,e3,Nat.testBit_and]
def qfy {q n:Nat} (h:q < 2 ^ n):q &&& (2 ^ n-(q+1))=0:=by
 apply Nat.eq_of_testBit_eq
 intro i;rw [Nat.testBit_and,Nat.testBit_two_pow_sub_succ h,Nat.zero_testBit];cases q.testBit i <;> simp
def iso:∀ {n x:Nat},0 < x→x < 2 ^ n→x &&& (2 ^ n-x)=2 ^ tz x
 | 0,x,h1,h2=>by simp at h2; omega
 | n+1,x,h1,h2=>by
  rw [Nat.pow_succ] at h2
  by_cases ho:x % 2=1
  ·rw [q87 ho];have hq:x / 2 < 2 ^ n:=by omega
   have e1:x=2*(x / 2)+1:=by omega
   have e2:2 ^ (n+1)-x=2*(2 ^ n-(x / 2+1))+1:=by rw [Nat.pow_succ]; omega
   rw [e2];generalize hy:x / 2=y at *;rw [e1,q9h _ _ 1 1 Oq Oq,qfy hq]
  ·have hq:x / 2 < 2 ^ n:=by omega
   have e1:x=2*(x / 2)+0:=by omega
   have e2:2 ^ (n+1)-x=2*(2 ^ n-x / 2)+0:=by rw [Nat.pow_succ]; omega
   have ht:tz x=tz (x / 2)+1:=by
    have:=qgU (n:=x / 2) Oq 1
    rwa [show x / 2*2 ^ 1=x by omega] at this
   have ih:=iso (n:=n) (x:=x / 2) Oq hq;rw [ht,e2,Nat.pow_succ,← ih];generalize hy:x / 2=y at *;rw [e1,q9h _ _ 0 0 Oq (by omega)]; omega
def qav:List Nat:=[0,1,28,2,29,14,24,3,30,22,20,15,25,17,4,8,31,27,13,23,21,19,16,7,26,12,18,6,11,5,10,9]
def qiE:((List.range 32).all fun k=>Nat.beq (qav.getD (2 ^ k*125613361 % 4294967296 / 134217728) 99) k)=true:=by decide
def qiD {k:Nat} (h:k < 32):qav.getD (2 ^ k*125613361 % 4294967296 / 134217728) 99=k:=by
 have:=qiE;rw [List.all_eq_true] at this;exact Nat.eq_of_beq_eq_true (this k (List.mem_range.2 h))
end Go.Sp
namespace Go.Proofs.YtfmojhhokfkdaaaGreatDoor
open Go Go.E Go.Sp
def q1y (w:World):Prop:=∀ k,k < 32→w.cell? ⟨0,k,none⟩=some (.int .u8 ((qav.getD k 99:Nat):Int))
def q1y.ext {w w':World} (h:q1y w) (k:Ext w w'):q1y w':=fun i hi=>k.cell (D:=fun _=>True) trivial (h i hi)
def qpT:qa3 Tryz.prog 259=some (32,1):=by kernel_rfl
def qhx {x:Nat} {w:World} (hT:q1y w) (hx0:0 < x) (hx:x < 4294967296) :
  Calls Tryz.prog 228 #[.int .u32 x] w fun e w'=>e=.returned (.int .i64 (tz x:Nat))∧w=w':=by
 refine q1J Tryz.func228 rfl Tryz.ntmps228 (by kernel_rfl) ?_;refine Wz ?_;refine q06 fun K0 hK0=>?_;have h0:((x:Int) == 0)=false:=by rw [beq0]; exact decide_eq_false Oq
 refine Wz ?_;refine q71 rfl (fun hc=>by rw [h0] at hc; cases hc) (fun hc=>q2N (hK0 _ _ ?_));clear hK0;have ht:=q58 Oq hx;have hp:2 ^ tz x < 4294967296:=Nat.pow_lt_pow_right Oq ht;have e1:IntKind.u32.wrap (0-(x:Int))=((4294967296-x:Nat):Int):=by rw [q1n]; omega
 have e2:q0n .and .u32 (x:Int) ((4294967296-x:Nat):Int)=((2 ^ tz x:Nat):Int):=by
  rw [q9i hx (by omega)];exact congrArg Nat.cast (iso (n:=32) hx0 hx)
 have e3:IntKind.u32.wrap (((2 ^ tz x:Nat):Int)*125613361)=((2 ^ tz x*125613361 % 4294967296:Nat):Int):=by rw [q1n]; omega
 have hi:2 ^ tz x*125613361 % 4294967296 / 134217728 < 32:=by omega
 have e4:(0:Int)≤((2 ^ tz x*125613361 % 4294967296 / 134217728:Nat):Int)∧((2 ^ tz x*125613361 % 4294967296 / 134217728:Nat):Int) < (32:Nat):=by omega
 have hg:=hT _ hi;rw [qiD ht] at hg;have e5:IntKind.i64.wrap ((tz x:Nat):Int)=((tz x:Nat):Int):=i64_in Oq Oq;refine q0P fun K hK=>?_;simp -implicitDefEqProofs (disch:=omega) only [go_sem,Nat.reduceEqDiff,Nat.reduceAdd,↓reduceIte,e1,e2,e3,e4,qpT,hg,e5,ev];refine hK _ _ ?_; clear hK K;refine q4A ?_
 try simp only [q1S,q4a]
 refine qnA rfl ⟨rfl,rfl⟩


def q0m {V:Int} (h:q07 V) : -65536≤dyE V∧dyE V≤65536∧bl (od V).natAbs≤131072:=⟨qoc,by have:=qob h; omega,q9a h⟩
end Go.Proofs.YtfmojhhokfkdaaaGreatDoor
namespace Go.Sp
def qbI (a k:Nat):shI (a:Int) (-(k:Int))=((a / 2 ^ k:Nat):Int):=by
 unfold shI
 split
 ·rename_i h;have:k=0:=by omega
  subst this; simp
 ·rw [show (- -(k:Int)).toNat=k by omega,← q02]; rfl
def q28 {a:Nat}:(tz a=0∧a≠0) ↔ a % 2=1:=by
 constructor
 ·rintro ⟨h1,h2⟩;obtain ⟨q,hq,he⟩:=q2B h2;rw [h1] at he; omega
 ·intro h; exact ⟨q87 h,by omega⟩
def q1A (l:List Int):Int:=l.foldl (·+·) 0
def q0i (l:List Int) (x:Int):q1A (l ++ [x])=q1A l+x:=by simp [q1A,List.foldl_append]
def q8g:q1A []=0:=rfl
def q6a (l:List Int) (i:Nat) (x:Int) (h:l[i]?=some x):q1A (l.take (i+1))=q1A (l.take i)+x:=by
 obtain ⟨hlt,he⟩:=List.getElem?_eq_some_iff.1 h;rw [List.take_succ_eq_append_getElem hlt,q0i,he]
def qaz {K:Nat}:∀ (i:Nat) (l:List Int),(∀ x ∈ l,bl x.natAbs≤K)→(q1A (l.take i)).natAbs≤i*2 ^ K
 | 0,l,_=>by rw [List.take_zero]; exact Nat.zero_le _
 | i+1,l,h=>by
  have ih:=qaz i l h;cases hx:l[i]? with
  | none =>
   have:l.take (i+1)=l.take i:=by rw [List.take_of_length_le (by have:=List.getElem?_eq_none_iff.1 hx; omega),List.take_of_length_le (List.getElem?_eq_none_iff.1 hx)]
   rw [this,Nat.add_mul,Nat.one_mul]; exact Nat.le_trans ih (Nat.le_add_right _ _)
  | some x =>
   rw [q6a l i x hx,Nat.add_mul,Nat.one_mul];have h1:=q1i (h x (List.mem_of_getElem? hx));refine Nat.le_trans (Int.natAbs_add_le _ _) ?_;exact Nat.add_le_add ih (Nat.le_of_lt h1)
def q7h {K i:Nat} {l:List Int} (h:∀ x ∈ l,bl x.natAbs≤K) (hi:i≤1024):bl (q1A (l.take i)).natAbs≤K+11:=by
 refine q0O (Nat.lt_of_le_of_lt (qaz i l h) ?_);have h2:i*2 ^ K≤1024*2 ^ K:=Nat.mul_le_mul_right _ hi;have h3:2 ^ (K+11)=2 ^ K*2048:=by rw [Nat.pow_add]
 have:=q0I K;omega
def qmH {i:Nat} {l:List Int} (h:∀ x ∈ l,q07 x) (hi:i≤1024):bl (q1A (l.take i)).natAbs≤131083:=q7h h hi
def q99 {m S:Int} {k:Nat} (h:m*(2:Int) ^ k=S):bl m.natAbs≤bl S.natAbs:=by
 rw [← h,q0J];exact q1K (Nat.le_mul_of_pos_right _ (q0I k))
end Go.Sp
namespace Go.E
open Go Go.Sp
section
variable {P:Program} {t:TypeId} {k':IntKind} {a b:Nat}
def qeF:q0f P .shr t (.int .u64 (a:Int)) (.int k' 52)=some (.int .u64 ((a / 4503599627370496:Nat):Int)):=by
 rw [q1X,if_neg (by omega)];exact congrArg (fun x=>some (Value.int .u64 x)) (q7D a 4503599627370496)
def qiP:q0f P .shr t (.int .u64 (a:Int)) (.int k' 1)=some (.int .u64 ((a / 2:Nat):Int)):=by
 rw [q1X,if_neg (by omega)];exact congrArg (fun x=>some (Value.int .u64 x)) (q7D a 2)
def q3U (ha:a < 18446744073709551616):q0n .and .u64 (a:Int) 2047=((a % 2048:Nat):Int):=by
 have:=q51 ha (show 2047 < 18446744073709551616 by omega);rw [Nat.and_two_pow_sub_one_eq_mod a 11] at this;exact this
def q4O (ha:a < 18446744073709551616):q0n .and .u64 (a:Int) 4503599627370495=((a % 4503599627370496:Nat):Int):=by
 have:=q51 ha (show 4503599627370495 < 18446744073709551616 by omega);rw [Nat.and_two_pow_sub_one_eq_mod a 52] at this;exact this
def q1L (ha:a < 18446744073709551616):q0n .and .u64 (a:Int) 4294967295=((a % 4294967296:Nat):Int):=by
 have:=q51 ha (show 4294967295 < 18446744073709551616 by omega);rw [Nat.and_two_pow_sub_one_eq_mod a 32] at this;exact this
def q6M (ha:a < 18446744073709551616):q0n .and .u64 (a:Int) 1=((a % 2:Nat):Int):=by
 have:=q51 ha (show 1 < 18446744073709551616 by omega);rw [Nat.and_two_pow_sub_one_eq_mod a 1] at this;exact this
def qkg (a k:Nat):a &&& 2 ^ k=if a.testBit k=true then 2 ^ k else 0:=by
 apply Nat.eq_of_testBit_eq; intro i
 rw [Nat.testBit_and,Nat.testBit_two_pow]
 by_cases h:k=i
 ·subst h; cases ht:a.testBit k <;> simp [Nat.testBit_two_pow]
 ·simp only [h,decide_false,Bool.and_false]
  split <;> simp [Nat.testBit_two_pow,h]
def qfx (ha:a < 18446744073709551616):q0n .and .u64 (a:Int) 9223372036854775808=if 9223372036854775808≤a then 9223372036854775808 else 0:=by
 have:=q51 ha (show 9223372036854775808 < 18446744073709551616 by omega);have h2:a &&& 9223372036854775808=if 9223372036854775808≤a then 9223372036854775808 else 0:=by
  have key:=qkg a 63;rw [Nat.testBit_eq_decide_div_mod_eq] at key;rw [show (9223372036854775808:Nat)=2 ^ 63 by rfl,key]
  by_cases h:9223372036854775808≤a
  ·rw [if_pos (decide_eq_true Oq),if_pos (by omega)]
  ·rw [if_neg (by rw [decide_eq_true_eq]; omega),if_neg (by omega)]
 rw [h2] at this;rw [show (9223372036854775808:Int)=((9223372036854775808:Nat):Int) by rfl,this]
 split <;> rfl
def qbm (ha:a < 18446744073709551616):(q0n .and .u64 (a:Int) 9223372036854775808 != 0)=decide (9223372036854775808≤a):=by
 rw [qfx ha]
 split
 ·rename_i h; rw [decide_eq_true h]; rfl
 ·rename_i h; rw [decide_eq_false h]; rfl
def qgi (ha:a < 4503599627370496):q0n .or .u64 (a:Int) 4503599627370496=((4503599627370496+a:Nat):Int):=by
 have:=qe5 (a:=a) (b:=4503599627370496) Oq Oq;have h2:=q2F (c:=a) (m:=1) (k:=52) Oq;rw [Nat.one_mul] at h2;rw [show a ||| 4503599627370496=a+4503599627370496 from h2] at this;rw [show (4503599627370496:Int)=((4503599627370496:Nat):Int) by rfl,this,Nat.add_comm]
def qbi (ha:a < 9223372036854775808):q0n .or .u64 (a:Int) 9223372036854775808=((a+9223372036854775808:Nat):Int):=by
 have:=qe5 (a:=a) (b:=9223372036854775808) Oq Oq;have h2:=q2F (c:=a) (m:=1) (k:=63) Oq;rw [Nat.one_mul] at h2;rw [show a ||| 9223372036854775808=a+9223372036854775808 from h2] at this;rw [show (9223372036854775808:Int)=((9223372036854775808:Nat):Int) by rfl,this]
def q8o (h:a < 4096):q0f P .shl t (.int .u64 (a:Int)) (.int k' 52)=some (.int .u64 ((a*4503599627370496:Nat):Int)):=by
 have:=qbH (P:=P) (t:=t) (k':=k') (a:=a) (b:=52) Oq;rw [show a*2 ^ 52 % 18446744073709551616=a*4503599627370496 by omega] at this;exact this
def qgj (ha:a < 2048) (hb:b < 4503599627370496):q0n .or .u64 ((a*4503599627370496:Nat):Int) (b:Int)=((a*4503599627370496+b:Nat):Int):=by
 have:=qe5 (a:=a*4503599627370496) (b:=b) Oq Oq;have h2:=q2F (c:=b) (m:=a) (k:=52) Oq;rw [this,Nat.or_comm,show b ||| a*4503599627370496=b+a*4503599627370496 from h2,Nat.add_comm]
end
attribute [go_sem high] qeF qiP
end Go.E
namespace Go.Sp
open Go.E
def q0N (f:Nat):Prop:=f / 4503599627370496 % 2048≠2047
instance (f:Nat):Decidable (q0N f):=by unfold q0N; infer_instance
def q5T {m E:Int} (hE : -65536≤E) (hb:bl m.natAbs+(E+65536).toNat≤131072):mkV m E=some (m*(2:Int) ^ (E+65536).toNat):=by
 rw [q5t hE rfl];refine q3F ?_;unfold q07
 by_cases h:m=0
 ·subst h; rw [Int.zero_mul]; exact Nat.zero_le _
 ·rw [q0J,q1h (by omega)]; exact hb
def q5o {f:Nat} (hf:q0N f):∃ V,ofF f=some V∧mkV (sgn (decide (9223372036854775808≤f)) (if f / 4503599627370496 % 2048=0 then f % 4503599627370496 else 4503599627370496+f % 4503599627370496)) (if f / 4503599627370496 % 2048=0 then -1074 else (f / 4503599627370496 % 2048:Nat)-1075)=some V:=by
 unfold q0N at hf;have hx:=Nat.mod_lt (f / 4503599627370496) (show 0 < 2048 by omega);have hm:=Nat.mod_lt f (show 0 < 4503599627370496 by omega);unfold ofF;rw [if_neg hf];generalize f / 4503599627370496 % 2048=x at *;generalize f % 4503599627370496=m at *
 split
 ·refine ⟨_,rfl,?_⟩;have hb:bl m≤52:=q0O hm;rw [q5T Oq (by rw [q1o]; omega)]; rfl
 ·refine ⟨_,rfl,?_⟩;have hb:bl (4503599627370496+m)≤53:=q0O (Nat.lt_of_lt_of_le (show 4503599627370496+m < 9007199254740992 by omega) (Nat.le_refl _));rw [q5T Oq (by rw [q1o]; omega)];rw [show ((x:Int)-1075+65536).toNat=64461+x by omega]
def fR (mode V:Int):Nat:=if V=0 then 0 else rF mode (decide (V < 0)) V.natAbs (2 ^ 65536)
def fQ (mode a b:Int):Nat:=if a=0 then 0 else rF mode (decide (a < 0) != decide (b < 0)) a.natAbs b.natAbs
def rE_VK {mode V:Int} {neg:Bool} {K:Nat} (hK:K=65536) (h:V≠0):rE mode neg (od V).natAbs 1 (dyE V)=rF mode neg V.natAbs (2 ^ K):=by
 have h1:=q5R V;have h2:=q3y h;have ho:0 < (od V).natAbs:=by omega
 have hd:dyE V=(tz V.natAbs:Int)-65536:=by unfold dyE; rw [if_neg h]
 have hV:0 < V.natAbs:=by omega
 unfold rE;refine q3E (Nat.mul_pos ho (q0I _)) (Nat.mul_pos Nat.one_pos (q0I _)) hV (q0I _) ?_;generalize dyE V=e at *;generalize tz V.natAbs=k at *;rw [← h1,Nat.one_mul,Nat.mul_assoc,Nat.mul_assoc,← Nat.pow_add,← Nat.pow_add]
 congr 2; omega
def rE_V {mode V:Int} {neg:Bool} (h:V≠0):rE mode neg (od V).natAbs 1 (dyE V)=rF mode neg V.natAbs (2 ^ 65536):=rE_VK (K:=65536) rfl h
def rq_ge {mode:Int} {neg:Bool} {N D:Nat}:N / D≤rq mode neg N D:=by unfold rq; (repeat' split) <;> omega
def n_ge {mode:Int} {neg:Bool} {N D:Nat} {e q:Int} (hD:0 < D) (h:D≤N) (hq:q=e+bl (N / D)-53):4503599627370496≤rq mode neg (N*2 ^ (e-q).toNat) (D*2 ^ (q-e).toNat):=by
 refine Nat.le_trans ?_ rq_ge;rw [q8P];have h1:=qaI hD h (e-q).toNat;have hp:=Nat.div_pos h hD;have hb:=q4l (n:=N / D) Oq;have h52:(2:Nat) ^ 52=4503599627370496:=by decide
 rw [← h52,Nat.le_div_iff_mul_le (q0I _),← Nat.pow_add];have hne:N*2 ^ (e-q).toNat / D≠0:=fun h0=>by
  rw [h0,q1W] at h1; omega
 have h2:=q7V hne;rw [h1] at h2;rw [show 52+(q-e).toNat=bl (N / D)+(e-q).toNat-1 by omega];exact h2
def qi6 {mode:Int} {neg:Bool} {N D:Nat} {e:Int} (hD:0 < D) (h:D≤N) (ht:1024≤e+bl (N / D)-1):rE mode neg N D e=qdd mode neg:=by
 rw [qb9 hD h];have hq:max (e+(bl (N / D):Int)-53) (-1074)=e+bl (N / D)-53:=by omega
 rw [hq];have hn:=n_ge (mode:=mode) (neg:=neg) hD h (q:=e+bl (N / D)-53) rfl;unfold fin q8M
 split
 ·rw [if_neg Oq,if_pos (by omega)]
 ·rw [if_neg Oq,if_pos (by omega)]
end Go.Sp
namespace Go.Proofs.YtfmojhhokfkdaaaGreatDoor
open Go Go.E Go.Sp
def qkr.len {w:World} {Bd n c:Nat} {A:Option Addr} {o:List Nat} (h:qkr w Bd A n c o):o.length=n:=by have:=h.1.len; simpa using this
def qkr.ext {w w':World} {Bd n c:Nat} {A:Option Addr} {o:List Nat} (h:qkr w Bd A n c o) (k:Ext w w'):qkr w' Bd A n c o:=⟨h.1.ext k,h.2⟩
end Go.Proofs.YtfmojhhokfkdaaaGreatDoor
namespace Go.E
open Go
end Go.E
namespace Go.Proofs.YtfmojhhokfkdaaaGreatDoor
open Go Go.E Go.Sp


section
variable {D:Nat→Prop} {v v':Value} {w:World} {x y:Nat} {l:List Nat}
end
section
variable {D:Nat→Prop} {v v':Value} {w:World} {x y:Nat} {a b:Int}
end
def q7T:bl 1=1:=rfl
section
variable {D:Nat→Prop} {v v':Value} {w:World} {x y d:Nat} {a b:Int}
end
end Go.Proofs.YtfmojhhokfkdaaaGreatDoor
namespace Go.E
open Go
end Go.E
namespace Go.Proofs.YtfmojhhokfkdaaaGreatDoor
open Go Go.E Go.Sp
section
variable {D:Nat→Prop} {v v':Value} {w:World} {x y d:Nat} {a b:Int}
end
end Go.Proofs.YtfmojhhokfkdaaaGreatDoor
