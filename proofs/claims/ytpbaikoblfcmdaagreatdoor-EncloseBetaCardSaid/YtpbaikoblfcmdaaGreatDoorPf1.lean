/- EncloseBeta. 1/7. -/
import Derived.Carry
import Derived.LaidMore
import Derived.Laws.CopyRow
import Derived.Laws.OwnMore
import Derived.Laws.Strings
import Derived.Maps.AppendAt
import Derived.OpenShut
import Derived.Orders
import Derived.ProofKit
import Derived.Stop.Joined
import Derived.Test.YtpbaikoblfcmdaaGreatDoorProg
import Derived.Test.YtpbaikoblfcmdaaGreatDoorRows
import Derived.WalkKit
set_option linter.unusedSimpArgs false
set_option linter.unusedVariables false
set_option maxRecDepth 20000
set_option maxHeartbeats 2000000
set_option linter.defProp false
namespace Go
def Zz {p q : Prop} (k : q) (e : p = q := by simp -implicitDefEqProofs (disch := omega) only [go_sem, Nat.reduceEqDiff, Nat.reduceAdd, ↓reduceIte]; exact rfl) : p := e.mpr k
def Ue {p : Prop} (e : p := by (try simp only [qjn, Nat.reduceEqDiff, ↓reduceIte]); first | done | assumption | exact rfl) : p := e
def Rf {p : Prop} (e : p := by first | exact rfl | assumption | exact Ue) : p := e
theorem Oq {p : Prop} (e : p := by omega) : p := e
def Om {p : Prop} (e : p := by first | omega | (simp only [Int.natAbs_natCast, Int.natAbs_neg]; omega)) : p := e
def Lk {p : Prop} (e : p := by first | (simp -implicitDefEqProofs (disch := omega) only [go_sem, Nat.reduceEqDiff, Nat.reduceAdd, ↓reduceIte, ↓List.map_cons, ↓List.map_nil]; done) | (simp -implicitDefEqProofs (disch := omega) only [go_sem, Nat.reduceEqDiff, Nat.reduceAdd, ↓reduceIte, ↓List.map_cons, ↓List.map_nil]; rfl) | rfl) : p := e
def Lq {p : Prop} (e : p := by first | (simp -implicitDefEqProofs (disch := omega) only [go_sem, Nat.reduceEqDiff, Nat.reduceAdd, ↓reduceIte]; done) | (simp -implicitDefEqProofs (disch := omega) only [go_sem, Nat.reduceEqDiff, Nat.reduceAdd, ↓reduceIte]; rfl) | rfl) : p := e
def Cz {p : Prop} (e : p := by simp only [go_sem, Nat.reduceEqDiff, ↓reduceIte]) : p := e
def Zy {p : Prop}  (e : p := by simp -implicitDefEqProofs (disch := omega) only [go_sem, Nat.reduceEqDiff, Nat.reduceAdd, ↓reduceIte]) : p := e
def Zy1 {p F1 : Prop} (f1 : F1) (e : F1 → p := by intro g1; simp -implicitDefEqProofs (disch := omega) only [go_sem, Nat.reduceEqDiff, Nat.reduceAdd, ↓reduceIte, g1]) : p := e f1
def Zy2 {p F1 F2 : Prop} (f1 : F1) (f2 : F2) (e : F1 → F2 → p := by intro g1 g2; simp -implicitDefEqProofs (disch := omega) only [go_sem, Nat.reduceEqDiff, Nat.reduceAdd, ↓reduceIte, g1, g2]) : p := e f1 f2
def Zy3 {p F1 F2 F3 : Prop} (f1 : F1) (f2 : F2) (f3 : F3) (e : F1 → F2 → F3 → p := by intro g1 g2 g3; simp -implicitDefEqProofs (disch := omega) only [go_sem, Nat.reduceEqDiff, Nat.reduceAdd, ↓reduceIte, g1, g2, g3]) : p := e f1 f2 f3
def Zy4 {p F1 F2 F3 F4 : Prop} (f1 : F1) (f2 : F2) (f3 : F3) (f4 : F4) (e : F1 → F2 → F3 → F4 → p := by intro g1 g2 g3 g4; simp -implicitDefEqProofs (disch := omega) only [go_sem, Nat.reduceEqDiff, Nat.reduceAdd, ↓reduceIte, g1, g2, g3, g4]) : p := e f1 f2 f3 f4
def Zy5 {p F1 F2 F3 F4 F5 : Prop} (f1 : F1) (f2 : F2) (f3 : F3) (f4 : F4) (f5 : F5) (e : F1 → F2 → F3 → F4 → F5 → p := by intro g1 g2 g3 g4 g5; simp -implicitDefEqProofs (disch := omega) only [go_sem, Nat.reduceEqDiff, Nat.reduceAdd, ↓reduceIte, g1, g2, g3, g4, g5]) : p := e f1 f2 f3 f4 f5
def Zy6 {p F1 F2 F3 F4 F5 F6 : Prop} (f1 : F1) (f2 : F2) (f3 : F3) (f4 : F4) (f5 : F5) (f6 : F6) (e : F1 → F2 → F3 → F4 → F5 → F6 → p := by intro g1 g2 g3 g4 g5 g6; simp -implicitDefEqProofs (disch := omega) only [go_sem, Nat.reduceEqDiff, Nat.reduceAdd, ↓reduceIte, g1, g2, g3, g4, g5, g6]) : p := e f1 f2 f3 f4 f5 f6
def Zy7 {p F1 F2 F3 F4 F5 F6 F7 : Prop} (f1 : F1) (f2 : F2) (f3 : F3) (f4 : F4) (f5 : F5) (f6 : F6) (f7 : F7) (e : F1 → F2 → F3 → F4 → F5 → F6 → F7 → p := by intro g1 g2 g3 g4 g5 g6 g7; simp -implicitDefEqProofs (disch := omega) only [go_sem, Nat.reduceEqDiff, Nat.reduceAdd, ↓reduceIte, g1, g2, g3, g4, g5, g6, g7]) : p := e f1 f2 f3 f4 f5 f6 f7
def Zy8 {p F1 F2 F3 F4 F5 F6 F7 F8 : Prop} (f1 : F1) (f2 : F2) (f3 : F3) (f4 : F4) (f5 : F5) (f6 : F6) (f7 : F7) (f8 : F8) (e : F1 → F2 → F3 → F4 → F5 → F6 → F7 → F8 → p := by intro g1 g2 g3 g4 g5 g6 g7 g8; simp -implicitDefEqProofs (disch := omega) only [go_sem, Nat.reduceEqDiff, Nat.reduceAdd, ↓reduceIte, g1, g2, g3, g4, g5, g6, g7, g8]) : p := e f1 f2 f3 f4 f5 f6 f7 f8
def Zy9 {p F1 F2 F3 F4 F5 F6 F7 F8 F9 : Prop} (f1 : F1) (f2 : F2) (f3 : F3) (f4 : F4) (f5 : F5) (f6 : F6) (f7 : F7) (f8 : F8) (f9 : F9) (e : F1 → F2 → F3 → F4 → F5 → F6 → F7 → F8 → F9 → p := by intro g1 g2 g3 g4 g5 g6 g7 g8 g9; simp -implicitDefEqProofs (disch := omega) only [go_sem, Nat.reduceEqDiff, Nat.reduceAdd, ↓reduceIte, g1, g2, g3, g4, g5, g6, g7, g8, g9]) : p := e f1 f2 f3 f4 f5 f6 f7 f8 f9
def Zy10 {p F1 F2 F3 F4 F5 F6 F7 F8 F9 F10 : Prop} (f1 : F1) (f2 : F2) (f3 : F3) (f4 : F4) (f5 : F5) (f6 : F6) (f7 : F7) (f8 : F8) (f9 : F9) (f10 : F10) (e : F1 → F2 → F3 → F4 → F5 → F6 → F7 → F8 → F9 → F10 → p := by intro g1 g2 g3 g4 g5 g6 g7 g8 g9 g10; simp -implicitDefEqProofs (disch := omega) only [go_sem, Nat.reduceEqDiff, Nat.reduceAdd, ↓reduceIte, g1, g2, g3, g4, g5, g6, g7, g8, g9, g10]) : p := e f1 f2 f3 f4 f5 f6 f7 f8 f9 f10
def Zy11 {p F1 F2 F3 F4 F5 F6 F7 F8 F9 F10 F11 : Prop} (f1 : F1) (f2 : F2) (f3 : F3) (f4 : F4) (f5 : F5) (f6 : F6) (f7 : F7) (f8 : F8) (f9 : F9) (f10 : F10) (f11 : F11) (e : F1 → F2 → F3 → F4 → F5 → F6 → F7 → F8 → F9 → F10 → F11 → p := by intro g1 g2 g3 g4 g5 g6 g7 g8 g9 g10 g11; simp -implicitDefEqProofs (disch := omega) only [go_sem, Nat.reduceEqDiff, Nat.reduceAdd, ↓reduceIte, g1, g2, g3, g4, g5, g6, g7, g8, g9, g10, g11]) : p := e f1 f2 f3 f4 f5 f6 f7 f8 f9 f10 f11
def Zy12 {p F1 F2 F3 F4 F5 F6 F7 F8 F9 F10 F11 F12 : Prop} (f1 : F1) (f2 : F2) (f3 : F3) (f4 : F4) (f5 : F5) (f6 : F6) (f7 : F7) (f8 : F8) (f9 : F9) (f10 : F10) (f11 : F11) (f12 : F12) (e : F1 → F2 → F3 → F4 → F5 → F6 → F7 → F8 → F9 → F10 → F11 → F12 → p := by intro g1 g2 g3 g4 g5 g6 g7 g8 g9 g10 g11 g12; simp -implicitDefEqProofs (disch := omega) only [go_sem, Nat.reduceEqDiff, Nat.reduceAdd, ↓reduceIte, g1, g2, g3, g4, g5, g6, g7, g8, g9, g10, g11, g12]) : p := e f1 f2 f3 f4 f5 f6 f7 f8 f9 f10 f11 f12
def Zy13 {p F1 F2 F3 F4 F5 F6 F7 F8 F9 F10 F11 F12 F13 : Prop} (f1 : F1) (f2 : F2) (f3 : F3) (f4 : F4) (f5 : F5) (f6 : F6) (f7 : F7) (f8 : F8) (f9 : F9) (f10 : F10) (f11 : F11) (f12 : F12) (f13 : F13) (e : F1 → F2 → F3 → F4 → F5 → F6 → F7 → F8 → F9 → F10 → F11 → F12 → F13 → p := by intro g1 g2 g3 g4 g5 g6 g7 g8 g9 g10 g11 g12 g13; simp -implicitDefEqProofs (disch := omega) only [go_sem, Nat.reduceEqDiff, Nat.reduceAdd, ↓reduceIte, g1, g2, g3, g4, g5, g6, g7, g8, g9, g10, g11, g12, g13]) : p := e f1 f2 f3 f4 f5 f6 f7 f8 f9 f10 f11 f12 f13
def Zy14 {p F1 F2 F3 F4 F5 F6 F7 F8 F9 F10 F11 F12 F13 F14 : Prop} (f1 : F1) (f2 : F2) (f3 : F3) (f4 : F4) (f5 : F5) (f6 : F6) (f7 : F7) (f8 : F8) (f9 : F9) (f10 : F10) (f11 : F11) (f12 : F12) (f13 : F13) (f14 : F14) (e : F1 → F2 → F3 → F4 → F5 → F6 → F7 → F8 → F9 → F10 → F11 → F12 → F13 → F14 → p := by intro g1 g2 g3 g4 g5 g6 g7 g8 g9 g10 g11 g12 g13 g14; simp -implicitDefEqProofs (disch := omega) only [go_sem, Nat.reduceEqDiff, Nat.reduceAdd, ↓reduceIte, g1, g2, g3, g4, g5, g6, g7, g8, g9, g10, g11, g12, g13, g14]) : p := e f1 f2 f3 f4 f5 f6 f7 f8 f9 f10 f11 f12 f13 f14
def Zz1 {p q F1 : Prop} (f1 : F1) (k : q) (e : F1 → p = q := by intro g1; simp -implicitDefEqProofs (disch := omega) only [go_sem, Nat.reduceEqDiff, Nat.reduceAdd, ↓reduceIte, g1]; exact rfl) : p := (e f1).mpr k
def Zz2 {p q F1 F2 : Prop} (f1 : F1) (f2 : F2) (k : q) (e : F1 → F2 → p = q := by intro g1 g2; simp -implicitDefEqProofs (disch := omega) only [go_sem, Nat.reduceEqDiff, Nat.reduceAdd, ↓reduceIte, g1, g2]; exact rfl) : p := (e f1 f2).mpr k
def Zz3 {p q F1 F2 F3 : Prop} (f1 : F1) (f2 : F2) (f3 : F3) (k : q) (e : F1 → F2 → F3 → p = q := by intro g1 g2 g3; simp -implicitDefEqProofs (disch := omega) only [go_sem, Nat.reduceEqDiff, Nat.reduceAdd, ↓reduceIte, g1, g2, g3]; exact rfl) : p := (e f1 f2 f3).mpr k
def Zz4 {p q F1 F2 F3 F4 : Prop} (f1 : F1) (f2 : F2) (f3 : F3) (f4 : F4) (k : q) (e : F1 → F2 → F3 → F4 → p = q := by intro g1 g2 g3 g4; simp -implicitDefEqProofs (disch := omega) only [go_sem, Nat.reduceEqDiff, Nat.reduceAdd, ↓reduceIte, g1, g2, g3, g4]; exact rfl) : p := (e f1 f2 f3 f4).mpr k
def Zz5 {p q F1 F2 F3 F4 F5 : Prop} (f1 : F1) (f2 : F2) (f3 : F3) (f4 : F4) (f5 : F5) (k : q) (e : F1 → F2 → F3 → F4 → F5 → p = q := by intro g1 g2 g3 g4 g5; simp -implicitDefEqProofs (disch := omega) only [go_sem, Nat.reduceEqDiff, Nat.reduceAdd, ↓reduceIte, g1, g2, g3, g4, g5]; exact rfl) : p := (e f1 f2 f3 f4 f5).mpr k
def Zz6 {p q F1 F2 F3 F4 F5 F6 : Prop} (f1 : F1) (f2 : F2) (f3 : F3) (f4 : F4) (f5 : F5) (f6 : F6) (k : q) (e : F1 → F2 → F3 → F4 → F5 → F6 → p = q := by intro g1 g2 g3 g4 g5 g6; simp -implicitDefEqProofs (disch := omega) only [go_sem, Nat.reduceEqDiff, Nat.reduceAdd, ↓reduceIte, g1, g2, g3, g4, g5, g6]; exact rfl) : p := (e f1 f2 f3 f4 f5 f6).mpr k
def Zz7 {p q F1 F2 F3 F4 F5 F6 F7 : Prop} (f1 : F1) (f2 : F2) (f3 : F3) (f4 : F4) (f5 : F5) (f6 : F6) (f7 : F7) (k : q) (e : F1 → F2 → F3 → F4 → F5 → F6 → F7 → p = q := by intro g1 g2 g3 g4 g5 g6 g7; simp -implicitDefEqProofs (disch := omega) only [go_sem, Nat.reduceEqDiff, Nat.reduceAdd, ↓reduceIte, g1, g2, g3, g4, g5, g6, g7]; exact rfl) : p := (e f1 f2 f3 f4 f5 f6 f7).mpr k
def Zz8 {p q F1 F2 F3 F4 F5 F6 F7 F8 : Prop} (f1 : F1) (f2 : F2) (f3 : F3) (f4 : F4) (f5 : F5) (f6 : F6) (f7 : F7) (f8 : F8) (k : q) (e : F1 → F2 → F3 → F4 → F5 → F6 → F7 → F8 → p = q := by intro g1 g2 g3 g4 g5 g6 g7 g8; simp -implicitDefEqProofs (disch := omega) only [go_sem, Nat.reduceEqDiff, Nat.reduceAdd, ↓reduceIte, g1, g2, g3, g4, g5, g6, g7, g8]; exact rfl) : p := (e f1 f2 f3 f4 f5 f6 f7 f8).mpr k
def Zz9 {p q F1 F2 F3 F4 F5 F6 F7 F8 F9 : Prop} (f1 : F1) (f2 : F2) (f3 : F3) (f4 : F4) (f5 : F5) (f6 : F6) (f7 : F7) (f8 : F8) (f9 : F9) (k : q) (e : F1 → F2 → F3 → F4 → F5 → F6 → F7 → F8 → F9 → p = q := by intro g1 g2 g3 g4 g5 g6 g7 g8 g9; simp -implicitDefEqProofs (disch := omega) only [go_sem, Nat.reduceEqDiff, Nat.reduceAdd, ↓reduceIte, g1, g2, g3, g4, g5, g6, g7, g8, g9]; exact rfl) : p := (e f1 f2 f3 f4 f5 f6 f7 f8 f9).mpr k
def Zz10 {p q F1 F2 F3 F4 F5 F6 F7 F8 F9 F10 : Prop} (f1 : F1) (f2 : F2) (f3 : F3) (f4 : F4) (f5 : F5) (f6 : F6) (f7 : F7) (f8 : F8) (f9 : F9) (f10 : F10) (k : q) (e : F1 → F2 → F3 → F4 → F5 → F6 → F7 → F8 → F9 → F10 → p = q := by intro g1 g2 g3 g4 g5 g6 g7 g8 g9 g10; simp -implicitDefEqProofs (disch := omega) only [go_sem, Nat.reduceEqDiff, Nat.reduceAdd, ↓reduceIte, g1, g2, g3, g4, g5, g6, g7, g8, g9, g10]; exact rfl) : p := (e f1 f2 f3 f4 f5 f6 f7 f8 f9 f10).mpr k
def Zz11 {p q F1 F2 F3 F4 F5 F6 F7 F8 F9 F10 F11 : Prop} (f1 : F1) (f2 : F2) (f3 : F3) (f4 : F4) (f5 : F5) (f6 : F6) (f7 : F7) (f8 : F8) (f9 : F9) (f10 : F10) (f11 : F11) (k : q) (e : F1 → F2 → F3 → F4 → F5 → F6 → F7 → F8 → F9 → F10 → F11 → p = q := by intro g1 g2 g3 g4 g5 g6 g7 g8 g9 g10 g11; simp -implicitDefEqProofs (disch := omega) only [go_sem, Nat.reduceEqDiff, Nat.reduceAdd, ↓reduceIte, g1, g2, g3, g4, g5, g6, g7, g8, g9, g10, g11]; exact rfl) : p := (e f1 f2 f3 f4 f5 f6 f7 f8 f9 f10 f11).mpr k
def Zz12 {p q F1 F2 F3 F4 F5 F6 F7 F8 F9 F10 F11 F12 : Prop} (f1 : F1) (f2 : F2) (f3 : F3) (f4 : F4) (f5 : F5) (f6 : F6) (f7 : F7) (f8 : F8) (f9 : F9) (f10 : F10) (f11 : F11) (f12 : F12) (k : q) (e : F1 → F2 → F3 → F4 → F5 → F6 → F7 → F8 → F9 → F10 → F11 → F12 → p = q := by intro g1 g2 g3 g4 g5 g6 g7 g8 g9 g10 g11 g12; simp -implicitDefEqProofs (disch := omega) only [go_sem, Nat.reduceEqDiff, Nat.reduceAdd, ↓reduceIte, g1, g2, g3, g4, g5, g6, g7, g8, g9, g10, g11, g12]; exact rfl) : p := (e f1 f2 f3 f4 f5 f6 f7 f8 f9 f10 f11 f12).mpr k
def Zz13 {p q F1 F2 F3 F4 F5 F6 F7 F8 F9 F10 F11 F12 F13 : Prop} (f1 : F1) (f2 : F2) (f3 : F3) (f4 : F4) (f5 : F5) (f6 : F6) (f7 : F7) (f8 : F8) (f9 : F9) (f10 : F10) (f11 : F11) (f12 : F12) (f13 : F13) (k : q) (e : F1 → F2 → F3 → F4 → F5 → F6 → F7 → F8 → F9 → F10 → F11 → F12 → F13 → p = q := by intro g1 g2 g3 g4 g5 g6 g7 g8 g9 g10 g11 g12 g13; simp -implicitDefEqProofs (disch := omega) only [go_sem, Nat.reduceEqDiff, Nat.reduceAdd, ↓reduceIte, g1, g2, g3, g4, g5, g6, g7, g8, g9, g10, g11, g12, g13]; exact rfl) : p := (e f1 f2 f3 f4 f5 f6 f7 f8 f9 f10 f11 f12 f13).mpr k
def Zz14 {p q F1 F2 F3 F4 F5 F6 F7 F8 F9 F10 F11 F12 F13 F14 : Prop} (f1 : F1) (f2 : F2) (f3 : F3) (f4 : F4) (f5 : F5) (f6 : F6) (f7 : F7) (f8 : F8) (f9 : F9) (f10 : F10) (f11 : F11) (f12 : F12) (f13 : F13) (f14 : F14) (k : q) (e : F1 → F2 → F3 → F4 → F5 → F6 → F7 → F8 → F9 → F10 → F11 → F12 → F13 → F14 → p = q := by intro g1 g2 g3 g4 g5 g6 g7 g8 g9 g10 g11 g12 g13 g14; simp -implicitDefEqProofs (disch := omega) only [go_sem, Nat.reduceEqDiff, Nat.reduceAdd, ↓reduceIte, g1, g2, g3, g4, g5, g6, g7, g8, g9, g10, g11, g12, g13, g14]; exact rfl) : p := (e f1 f2 f3 f4 f5 f6 f7 f8 f9 f10 f11 f12 f13 f14).mpr k
end Go
namespace Go.E
open Go
abbrev Env:=Nat→Value
def upd (e:Env) (d:Nat) (v:Value):Env:=fun i=>if i=d then v else e i
def put (e:Env):Option Nat→Value→Env
 | some d,v=>upd e d v
 | none,_=>e
def ev (e:Env):Operand→Value
 | .tmp t=>e t
 | .const v=>v
 | .global g=>.pointer (some ⟨g,0,none⟩)
 | .func f=>.func (.func f) #[] #[]
def q4U (l:List Value):Env:=fun i=>l.getD i undef
structure Rel (n:Nat) (a:Act) (e:Env):Prop where
 defs:a.defers=[]
 size:a.tmps.size=n
 get:∀ i,a.tmps.getD i undef=e i
def q8c (n:Nat) (o:Oper):Bool:=match o.dst with | some d=>decide (d < n) | none=>true
def q7V (n:Nat):Code→Bool
 | .skip | .exit _ | .ret=>true
 | .region _ ops _=>ops.toList.all (q8c n)
 | .seq a b=>q7V n a && q7V n b
 | .cond _ a b=>q7V n a && q7V n b
 | .block _ c=>q7V n c
 | .loop c=>q7V n c
 | _=>false
def wrO (i:Nat) (o:Oper):Bool:=match o.dst with | some d=>Nat.beq d i | none=>false
def wr (i:Nat):Code→Bool
 | .region _ ops _=>ops.toList.any (wrO i)
 | .seq a b=>wr i a || wr i b
 | .cond _ a b=>wr i a || wr i b
 | .block _ c=>wr i c
 | .loop c=>wr i c
 | _=>false
def Rel.eval {n:Nat} {a:Act} {e:Env} (h:Rel n a e):a.eval=ev e:=by
 funext x
 cases x <;> simp only [Act.eval,ev];exact h.get _
def Rel.put {n:Nat} {a:Act} {e:Env} (h:Rel n a e) (dst:Option Nat) (v:Value) (hd:(match dst with | some d=>decide (d < n) | none=>true)=true):Rel n (a.put dst v) (E.put e dst v):=by
 cases dst with
 | none=>exact h
 | some d =>
  have hd':d < n:=by simpa using hd
  refine ⟨h.defs,by simpa [Act.put] using h.size,fun i=>?_⟩;have hg:=h.get i;have hs:=h.size;simp only [E.put,upd,Act.put,Array.getD_eq_getD_getElem?,Array.getElem?_setIfInBounds] at hg ⊢
  by_cases hi:i=d
  ·subst hi; simp [hs,hd']
  ·simp [hi,Ne.symm hi]; simpa using hg
section
variable {P:Program} {n:Nat}
def qjb (n:Nat) (c:Code) (e:Env) (Q:Exit→Env→World→Prop) (x:Exit) (a:Act) (w:World):Prop :=
 ∃ e',Rel n a e'∧(∀ i,wr i c=false→e' i=e i)∧Q x e' w
def W (P:Program) (n:Nat) (c:Code) (Q:Exit→Env→World→Prop) (e:Env) (w:World):Prop :=
 q7V n c=true→∀ a,Rel n a e→c.wp P (qjb n c e Q) a w
def qgw (next:Env→World→Prop) (Q:Exit→Env→World→Prop):Exit→Env→World→Prop
 | .normal,e,w=>next e w
 | x,e,w=>Q x e w
def inB (id:Nat) (Q:Exit→Env→World→Prop):Exit→Env→World→Prop
 | .exit id',e,w=>if id'=id then Q .normal e w else Q (.exit id') e w
 | x,e,w=>Q x e w
def q5q {c:Code} {Q Q':Exit→Env→World→Prop} {e:Env} {w:World} (hq:∀ x e w,Q x e w→Q' x e w) (h:W P n c Q e w):W P n c Q' e w :=
 fun hd a hr=>wp_mono (h hd a hr) fun _ _ _ ⟨e',r,f,q⟩=>⟨e',r,f,hq _ _ _ q⟩
def qpe {a b:Code} {Q:Exit→Env→World→Prop} {e:Env} {w:World} (h:W P n a (qgw (W P n b Q) Q) e w):W P n (.seq a b) Q e w:=by
 intro hd act hr;simp only [q7V,Bool.and_eq_true] at hd;have key:∀ (x:Exit) (a':Act) (w':World),qjb n a e (qgw (W P n b Q) Q) x a' w'→Exit.then (b.wp P (qjb n (.seq a b) e Q)) (qjb n (.seq a b) e Q) x a' w':=by
  rintro x a' w' ⟨e',r,f,q⟩;cases x with
  | normal =>
   refine wp_mono (q hd.2 a' r) fun x2 a2 w2 ⟨e2,r2,f2,q2⟩=>⟨e2,r2,fun i hi=>?_,q2⟩;simp only [wr,Bool.or_eq_false_iff] at hi;rw [f2 i hi.2,f i hi.1]
  | _=>exact ⟨e',r,fun i hi=>f i (by simp only [wr,Bool.or_eq_false_iff] at hi; exact hi.1),q⟩
 exact wp_seq (wp_mono (h hd.1 act hr) key)
def q9z {a b:Code} {Q:Exit→Env→World→Prop} {e:Env} {w:World} (h:∀ K:Env→World→Prop,(∀ e w,W P n b Q e w→K e w)→W P n a (qgw K Q) e w):W P n (.seq a b) Q e w :=
 qpe (h _ fun _ _ h=>h)
def q8p {c:Operand} {x y:Code} {Q:Exit→Env→World→Prop} {e:Env} {w:World} {t:Bool} (hc:ev e c=.bool t) (ht:t=true→W P n x Q e w) (hf:t=false→W P n y Q e w):W P n (.cond c x y) Q e w:=by
 intro hd a hr;simp only [q7V,Bool.and_eq_true] at hd;refine wp_cond_split (t:=t) (by rw [hr.eval]; exact hc) (fun h=>?_) (fun h=>?_)
 ·exact wp_mono (ht h hd.1 a hr) fun x2 a2 w2 ⟨e2,r2,f2,q2⟩=>⟨e2,r2,fun i hi=>f2 i (by simp only [wr,Bool.or_eq_false_iff] at hi; exact hi.1),q2⟩
 ·exact wp_mono (hf h hd.2 a hr) fun x2 a2 w2 ⟨e2,r2,f2,q2⟩=>⟨e2,r2,fun i hi=>f2 i (by simp only [wr,Bool.or_eq_false_iff] at hi; exact hi.2),q2⟩
def Wt {c:Operand} {x y:Code} {Q:Exit→Env→World→Prop} {e:Env} {w:World} (ht:W P n x Q e w) (hc:ev e c=.bool true:=by exact rfl):W P n (.cond c x y) Q e w:=q8p hc (fun _=>ht) (fun h=>by cases h)
def Wf {c:Operand} {x y:Code} {Q:Exit→Env→World→Prop} {e:Env} {w:World} (ht:W P n y Q e w) (hc:ev e c=.bool false:=by exact rfl):W P n (.cond c x y) Q e w:=q8p hc (fun h=>by cases h) (fun _=>ht)
def qpf {id:Nat} {c:Code} {Q:Exit→Env→World→Prop} {e:Env} {w:World} (h:W P n c (inB id Q) e w):W P n (.block id c) Q e w:=by
 intro hd a hr;refine wp_block (wp_mono (h hd a hr) ?_);rintro x a2 w2 ⟨e2,r2,f2,q2⟩;cases x with
 | exit id' =>
  simp only [inB] at q2;simp only [Exit.inBlock]
  split
  ·rename_i hid; rw [if_pos hid] at q2; exact ⟨e2,r2,f2,q2⟩
  ·rename_i hid; rw [if_neg hid] at q2; exact ⟨e2,r2,f2,q2⟩
 | _=>exact ⟨e2,r2,f2,q2⟩
def qb3 {Q:Exit→Env→World→Prop} {e:Env} {w:World} (h:Q .normal e w):W P n .skip Q e w :=
 fun _ _ hr=>wp_skip ⟨e,hr,fun _ _=>rfl,h⟩
def qvb {id:Nat} {Q:Exit→Env→World→Prop} {e:Env} {w:World} (h:Q (.exit id) e w):W P n (.exit id) Q e w :=
 fun _ _ hr=>wp_exit ⟨e,hr,fun _ _=>rfl,h⟩
def qj9 {Q:Exit→Env→World→Prop} {e:Env} {w:World} (h:Q .ret e w):W P n .ret Q e w :=
 fun _ _ hr=>wp_ret ⟨e,hr,fun _ _=>rfl,h⟩
def RO (P:Program) (K:Value→World→Prop):Result Next→Prop
 | .ok (.value v) w=>K v w
 | .ok .skip w=>K undef w
 | .ok (.enter f args) w=>Calls P f args w fun x w'=>match x with | .returned v=>K v w' | _=>False
 | _=>False
def WO (P:Program) (o:Oper) (e:Env) (w:World) (K:Value→World→Prop):Prop:=RO P K ((execOp (ev e) o).run P w)
def qpj {K K':Value→World→Prop} (hk:∀ v w,K v w→K' v w) {r:Result Next} (h:RO P K r):RO P K' r:=by
 cases r with
 | ok x w =>
  cases x <;> simp only [RO] at h ⊢
  ·exact hk _ _ h
  ·exact hk _ _ h
  ·exact h.mono fun x w' hx=>by cases x <;> first | exact hk _ _ hx | exact hx
 | halt=>exact h
def qgS {o:Oper} {e:Env} {w:World} {K K':Value→World→Prop} (hk:∀ v w,K v w→K' v w) (h:WO P o e w K):WO P o e w K':=qpj hk h
def q30 (ops:Array Oper) (e:Env) (j:Nat):Option Bool :=
 match (ops[j]?).bind (·.dst) with
 | some d=>match e d with | .bool b=>some b | _=>none
 | none=>none
def q5u (ops:Array Oper) (e:Env) (o:Oper):Bool :=
 match o.guard with
 | none=>true
 | some (j,want)=>q30 ops e j == some want
def WG (P:Program) (ops:Array Oper) (o:Oper) (e:Env) (w:World) (K:Value→World→Prop):Prop :=
 if q5u ops e o then WO P o e w K else K undef w
def qaB {ops:Array Oper} {o:Oper} {e:Env} {w:World} {K K':Value→World→Prop} (hk:∀ v w,K v w→K' v w) (h:WG P ops o e w K):WG P ops o e w K':=by
 unfold WG at *; split
 ·rename_i hw; rw [if_pos hw] at h; exact qgS hk h
 ·rename_i hw; rw [if_neg hw] at h; exact hk _ _ h
def WL (P:Program) (ops:Array Oper) (K:Env→World→Prop):List Oper→Env→World→Prop
 | [],e,w=>K e w
 | o :: rest,e,w=>WG P ops o e w fun v w'=>WL P ops K rest (put e o.dst v) w'
def qgg {ops:Array Oper} {a:Act} {e:Env} (hr:Rel n a e) (hd:ops.toList.all (q8c n)=true) (j:Nat):yielded ops a.tmps j=q30 ops e j:=by
 unfold yielded q30;cases hj:ops[j]? with
 | none=>simp
 | some o =>
  have ho:q8c n o=true:=by
   rw [List.all_eq_true] at hd;exact hd o (Array.mem_toList_iff.2 (Array.mem_of_getElem? hj))
  simp only [Option.bind_some];unfold q8c at ho;cases hdst:o.dst with
  | none=>simp
  | some d =>
   rw [hdst] at ho;have hlt:d < a.tmps.size:=by rw [hr.size]; simpa using ho
   have hg:=hr.get d;simp only [Option.bind_some,Array.getElem?_eq_getElem hlt];have hv:a.tmps[d]=e d:=by rw [← hg,Array.getD_eq_getD_getElem?,Array.getElem?_eq_getElem hlt]; rfl
   rw [hv];cases e d <;> rfl
def q6d {ops:Array Oper} {a:Act} {e:Env} (hr:Rel n a e) (hd:ops.toList.all (q8c n)=true) (o:Oper):Region.wanted o (yielded ops a.tmps)=q5u ops e o:=by
 unfold Region.wanted q5u;cases o.guard with
 | none=>rfl
 | some g=>obtain ⟨j,want⟩:=g; simp only [qgg hr hd j]
def q6a {o:Oper} {a:Act} {e:Env} {w:World} {K:Value→World→Prop} {K':Act→World→Prop} {Q:Exit→Act→World→Prop} (hr:Rel n a e) (h:WO P o e w K) (hk:∀ v w',K v w'→K' (a.put o.dst v) w'):o.wp P a w K' Q:=by
 unfold Oper.wp;rw [hr.eval];unfold WO at h;generalize (execOp (ev e) o).run P w=r at *;cases r with
 | ok x w' =>
  cases x <;> simp only [RO] at h <;> simp only [Oper.upon]
  ·exact hk _ _ h
  ·exact hk _ _ h
  ·refine h.mono fun x w'' hx=>?_;cases x with
   | returned v=>exact hk _ _ hx
   | _=>exact hx.elim
 | halt=>exact h.elim
def q42 {ops:Array Oper} {K:Env→World→Prop} {Q:Exit→Act→World→Prop} (hd:ops.toList.all (q8c n)=true):∀ (l:List Oper),(∀ o ∈ l,q8c n o=true)→∀ (a:Act) (e:Env) (w:World),
  Rel n a e→(∀ (a':Act) (e':Env) (w':World),Rel n a' e'→(∀ i,l.any (wrO i)=false→e' i=e i)→K e' w'→Q .normal a' w')→WL P ops K l e w→wpList P ops Q l a w
 | [],_,a,e,w,hr,hq,h=>hq a e w hr (fun _ _=>rfl) h
 | o :: rest,hl,a,e,w,hr,hq,h=>by
  have hdo:=hl o List.mem_cons_self;have hput:∀ v,Rel n (a.put o.dst v) (put e o.dst v):=fun v=>hr.put o.dst v (by unfold q8c at hdo; cases hx:o.dst <;> simp_all);have hrec:∀ v w',WL P ops K rest (put e o.dst v) w'→wpList P ops Q rest (a.put o.dst v) w':=fun v w' hw=>by
   refine q42 hd rest (fun o ho=>hl o (List.mem_cons_of_mem _ ho)) _ _ _ (hput v) (fun a' e' w'' r' f' k'=>hq a' e' w'' r' (fun i hi=>?_) k') hw;simp only [List.any_cons,Bool.or_eq_false_iff] at hi;rw [f' i hi.2];unfold wrO at hi;cases hx:o.dst with
   | none=>rfl
   | some d =>
    rw [hx] at hi;have hne:i≠d:=fun he=>by subst he; simp at hi
    simp [put,upd,hne]
  simp only [WL,WG] at h;unfold wpList;rw [q6d hr hd o]
  split
  ·rename_i hw;rw [if_pos hw] at h;exact .inl (q6a hr h hrec)
  ·rename_i hw;rw [if_neg hw] at h;exact hrec _ _ h
def q4A {id:Nat} {ops:Array Oper} {Q:Exit→Env→World→Prop} {e:Env} {w:World} (h:WL P ops (Q .normal) ops.toList e w):W P n (.region id ops false) Q e w:=by
 intro hd a hr;have hd':ops.toList.all (q8c n)=true:=hd;refine wp_region_list (q42 hd' ops.toList (fun o ho=>by rw [List.all_eq_true] at hd'; exact hd' o ho) a e w hr ?_ h);intro a' e' w' r' f' k';exact ⟨e',r',f',k'⟩
end
structure Pre (R:World→World→Prop):Prop where
 refl:∀ w,R w w
 trans:∀ {a b c},R a b→R b c→R a c
 drew:∀ w k,R w { w with drawn:=k }
abbrev q4B (R:World→World→Prop):={ p:Value→World→Prop // ∀ v w w',R w w'→p v w→p v w' }
section
variable {R:World→World→Prop}
def is (v:Value):q4B R:=⟨fun x _=>x=v,fun _ _ _ _ h=>h⟩
def anyV:q4B R:=⟨fun _ _=>True,fun _ _ _ _ h=>h⟩
def look:List (Nat × q4B R)→Nat→q4B R
 | [],_=>anyV
 | (k,p) :: l,t=>if k=t then p else look l t
end
def q2F (o:Oper) (j:Nat):Bool:=o.after.toList.any fun e=>Region.binds .any e && Nat.beq e.on j
def dstIs (ops:List Oper) (j t:Nat):Bool:=match (ops[j]?).bind (·.dst) with | some d=>Nat.beq d t | none=>false
def looks (ops:Array Oper) (o:Oper) (t:Nat):Bool:=(o.looksAt ops).any (Nat.beq t)
def dep (ops:Array Oper) (o:Oper) (t:Nat):Bool:=(List.range ops.size).any fun j=>q2F o j && dstIs ops.toList j t
def q59 (ops:Array Oper) (t:Nat):Bool:=ops.toList.any (wrO t)
def qbH (ops:Array Oper):Bool :=
 (List.range ops.size).all fun i=>match ops.toList[i]? with
  | none=>true
  | some o=>(o.after.toList.all fun e=>!Region.binds .any e || decide (e.on < i)) &&
   (match o.op with | .select _ _=>false | _=>true) &&
   (List.range ops.size).all fun j=>match ops.toList[j]? with
    | none=>true
    | some p=>Nat.beq i j || ((match o.dst,p.dst with | some d,some d'=>!Nat.beq d d' | _,_=>true) &&
      (match p.dst with | some d=>!looks ops o d || q2F o j || q2F p i | none=>true))
section
variable {P:Program} {n:Nat} {R:World→World→Prop}
def qb4 (P:Program) (ops:Array Oper) (R:World→World→Prop) (l:List (Nat × q4B R)) (e:Env) (w:World) (o:Oper):Prop :=
 ∀ e' w',R w w'→(∀ t,dep ops o t=true→(look l t).1 (e' t) w')→(∀ t,looks ops o t=true→dep ops o t=false→e' t=e t) →
  WG P ops o e' w' fun v w''=>R w' w''∧∀ d,o.dst=some d→(look l d).1 v w''
def q6Z (P:Program) (ops:Array Oper) (R:World→World→Prop) (l:List (Nat × q4B R)) (e:Env) (w:World):List Oper→Prop
 | []=>True
 | o :: rest=>qb4 P ops R l e w o∧q6Z P ops R l e w rest
def q6Z.get {ops:Array Oper} {l:List (Nat × q4B R)} {e:Env} {w:World}:∀ {os:List Oper},q6Z P ops R l e w os→∀ o ∈ os,qb4 P ops R l e w o:=by
 intro os
 induction os with
 | nil=>intro _ o ho; cases ho
 | cons a rest ih =>
  intro h x hx
  rcases List.mem_cons.1 hx with hx | hx
  ·rw [hx]; exact h.1
  ·exact ih h.2 x hx
def qcR {o:Oper} {j:Nat}:q2F o j=true ↔ ∃ x ∈ o.after,Region.binds .any x=true∧x.on=j:=by
 unfold q2F;simp only [List.any_eq_true,Bool.and_eq_true,Nat.beq_eq,Array.mem_toList_iff]
def qlp {o:Oper} {t:Nat}:wrO t o=true ↔ o.dst=some t:=by
 unfold wrO; cases o.dst <;> simp
def q58 {ops:Array Oper} {t:Nat} (h:q59 ops t=false) (i:Nat) (o:Oper) (ho:ops[i]?=some o):o.dst≠some t:=by
 intro hd;have:q59 ops t=true:=by
  unfold q59; rw [List.any_eq_true];exact ⟨o,Array.mem_toList_iff.2 (Array.mem_of_getElem? ho),qlp.2 hd⟩
 rw [h] at this; cases this
structure DOk (ops:Array Oper):Prop where
 down:∀ (i:Nat) (o:Oper) (x:Edge),ops[i]?=some o→x ∈ o.after→Region.binds .any x=true→x.on < i
 one:∀ (i j:Nat) (o p:Oper) (d:Nat),ops[i]?=some o→ops[j]?=some p→i≠j→o.dst=some d→p.dst≠some d
 seen:∀ (i j:Nat) (o p:Oper) (d:Nat),ops[i]?=some o→ops[j]?=some p→i≠j→p.dst=some d→looks ops o d=true→q2F o j=true∨q2F p i=true
def DOk.of {ops:Array Oper} (h:qbH ops=true):DOk ops:=by
 unfold qbH at h;rw [List.all_eq_true] at h;have h1:∀ i o,ops[i]?=some o→_:=fun i o ho=>h i (List.mem_range.2 (Array.getElem?_eq_some_iff.1 ho).1);refine ⟨fun i o x ho hx hb=>?_,fun i j o p d ho hp hne hd hd'=>?_,fun i j o p d ho hp hne hd hl=>?_⟩
 ·have:=h1 i o ho;rw [Array.getElem?_toList,ho] at this;simp only [Bool.and_eq_true,List.all_eq_true] at this;have:=this.1.1 x (Array.mem_toList_iff.2 hx);simpa [hb] using this
 ·have:=h1 i o ho;rw [Array.getElem?_toList,ho] at this;simp only [Bool.and_eq_true,List.all_eq_true] at this;have:=this.2 j (List.mem_range.2 (Array.getElem?_eq_some_iff.1 hp).1);rw [Array.getElem?_toList,hp] at this;simp [hd,hd',hne] at this
 ·have:=h1 i o ho;rw [Array.getElem?_toList,ho] at this;simp only [Bool.and_eq_true,List.all_eq_true] at this;have:=this.2 j (List.mem_range.2 (Array.getElem?_eq_some_iff.1 hp).1);rw [Array.getElem?_toList,hp] at this;simp only [hd,hl,Bool.or_eq_true,Nat.beq_eq,Bool.and_eq_true] at this
  rcases this with this | ⟨_,this⟩
  ·exact absurd this hne
  ·simpa using this
def q3l {listed:Array Bool} {i j:Nat} (hi:i < listed.size) {b:Bool}:(listed.setIfInBounds i true).getD j b=if i=j then true else listed.getD j b:=by
 simp only [Array.getD_eq_getD_getElem?,Array.getElem?_setIfInBounds]
 by_cases h:i=j
 ·subst h; simp [hi]
 ·simp [h]
def qhm:List Oper→Oper
 | []=>default
 | [o]=>o
 | _ :: o :: os=>qhm (o :: os)
def qee {o:Oper}:qhm [o]=o:=rfl
def qcG {o p:Oper} {os:List Oper}:qhm (o :: p :: os)=qhm (p :: os):=rfl
end
def q20 {α:Type} (o:Option α) (K:α→Prop):Prop:=match o with | some a=>K a | none=>False
def q2h {α:Type} (a:α) (K:α→Prop):q20 (some a) K=K a:=rfl
def q0i (op:BinOp) (k:IntKind) (a b:Int):Int :=
 match op with
 | .and=>k.wrap (BitVec.ofInt k.bits a &&& BitVec.ofInt k.bits b).toNat
 | .or=>k.wrap (BitVec.ofInt k.bits a ||| BitVec.ofInt k.bits b).toNat
 | .xor=>k.wrap (BitVec.ofInt k.bits a ^^^ BitVec.ofInt k.bits b).toNat
 | _=>k.wrap (BitVec.ofInt k.bits a &&& ~~~(BitVec.ofInt k.bits b)).toNat
def q2k (op:BinOp) (k:IntKind) (a b:Int):Option Value :=
 match op with
 | .add=>some (.int k (k.wrap (a+b)))
 | .sub=>some (.int k (k.wrap (a-b)))
 | .mul=>some (.int k (k.wrap (a*b)))
 | .quo=>if b=0 then none else some (.int k (k.wrap (a.tdiv b)))
 | .rem=>if b=0 then none else some (.int k (a.tmod b))
 | .and=>some (.int k (q0i .and k a b))
 | .or=>some (.int k (q0i .or k a b))
 | .xor=>some (.int k (q0i .xor k a b))
 | .andNot=>some (.int k (q0i .andNot k a b))
 | .eql=>some (.bool (a == b))
 | .neq=>some (.bool (a != b))
 | .lss=>some (.bool (decide (a < b)))
 | .leq=>some (.bool (decide (a≤b)))
 | .gtr=>some (.bool (decide (a > b)))
 | .geq=>some (.bool (decide (a ≥ b)))
 | _=>none
def q73 (op:BinOp) (k k':IntKind) (a b:Int):Option Value :=
 match op with
 | .shl=>if b < 0 then none else some (.int k (k.wrap (a*2 ^ (min b.toNat k.bits))))
 | .shr=>if b < 0 then none else some (.int k (a.fdiv (2 ^ (min b.toNat k.bits))))
 | op=>if k=k' then q2k op k a b else none
def q9h (P:Program) (t:TypeId):Bool:=!P.stoodInHeld t && !P.eqGuardType P.depth t && match P.underlying t with
 | some (.struct fs)=>match fs.toList with
  | [f, g] => f.name != "_" && g.name != "_" && f.offset == 0 && g.offset == 1 && (match P.underlying f.type, P.underlying g.type with | some (.int _), some (.int _) => true | _, _ => false) && (match P.info? f.type, P.info? g.type with | some i, some j => i.size == 1 && j.size == 1 | _, _ => false)
  | _=>false
 | _=>false
def prV:List Value→Option (IntKind × Int × IntKind × Int)
 | [.int k a,.int l b]=>some (k,a,l,b)
 | _=>none
def q0w (P:Program) (op:BinOp) (t:TypeId):Value→Value→Option Value
 | .int k a,.int k' b=>q73 op k k' a b
 | .bool a,.bool b=>match op,P.underlying t with
  | .eql,some .bool=>some (.bool (a == b))
  | .neq,some .bool=>some (.bool (a != b))
  | _,_=>none
 | .slice a _ _,.slice none _ _=>match op,P.underlying t with
  | .eql,some (.slice _)=>some (.bool a.isNone)
  | .neq,some (.slice _)=>some (.bool a.isSome)
  | _,_=>none
 | .agg xs,.agg ys=>if q9h P t=true then match prV xs.toList,prV ys.toList with
  | some (k,a,l,b),some (k',c,l',d)=>if k=k'∧l=l' then (match op with | .eql=>some (.bool (a == c && b == d)) | .neq=>some (.bool !(a == c && b == d)) | _=>none) else none
  | _,_=>none
  else none
 | _,_=>none
def unV (op:UnOp):Value→Option Value
 | .bool b=>match op with | .not=>some (.bool !b) | _=>none
 | .int k n=>match op with | .neg=>some (.int k (k.wrap (0-n))) | _=>none
 | _=>none
def qcV (s d:Option TypeDesc):Value→Option Value
 | .int _ n=>match s,d with | some _,some (.int k)=>some (.int k (k.wrap n)) | _,_=>none
 | _=>none
def q09 (P:Program) (t:TypeId):Option (Option Nat) :=
 match P.underlying t,P.info? t with
 | some (.struct _),some i=>some (some i.size)
 | some (.array _ _),some i=>some (some i.size)
 | some _,some _=>some none
 | _,_=>none
def q0V (P:Program) (t:TypeId) (f:Nat):Option Nat :=
 match P.underlying t with
 | some (.struct fs)=>match fs[f]? with
  | some d=>match P.info? d.type with | some i=>if i.size=0 then none else some d.offset | none=>none
  | none=>none
 | _=>none
def q0d (P:Program) (t:TypeId):Option Nat :=
 match P.underlying t with
 | some (.slice e)=>(P.info? e).map (·.size)
 | _=>none
def q0a (P:Program) (t:TypeId):Option (TypeId × Nat × Nat × Array Value) :=
 match P.underlying t with
 | some (.slice e)=>(P.info? e).bind fun i=>i.zero.map fun z=>(e,i.size,i.bytes,z.cells)
 | _=>none
def q12 (P:Program) (t:TypeId):Option (Array Value):=match P.info? t with | some i=>i.zero.map (·.cells) | none=>none
def q0Z (P:Program) (t:TypeId):Option Nat:=(P.info? t).map (·.size)
def q0s (w:World) (p:Addr):Nat→Nat→Option (List Value)
 | _,0=>some []
 | i,k+1=>match w.cell? (p.add i),q0s w p (i+1) k with | some v,some l=>some (v :: l) | _,_=>none
def ldV (w:World) (k:Option (Option Nat)):Value→Option Value
 | .pointer (some p)=>match k with
  | some none=>w.cell? p
  | some (some k)=>(q0s w p 0 k).map fun l=>.agg l.toArray
  | none=>none
 | _=>none
def stN (w:World) (p:Addr):Nat→List Value→World
 | _,[]=>w
 | i,v :: vs=>stN (w.setCell (p.add i) v) p (i+1) vs
def stOk (w:World) (p:Addr):Nat→List Value→Prop
 | _,[]=>True
 | i,v :: vs=>(w.cell? (p.add i)).isSome=true∧w.frozen? (p.add i)=false∧v.oneCell'=true∧stOk w p (i+1) vs
def qc1 (P:Program) (t:TypeId):Option (Nat × Nat) :=
 match P.underlying t with
 | some (.array n e)=>(P.info? e).map fun i=>(n,i.size)
 | _=>none
def qhr (sz:Option Nat) (ar:Option (Nat × Nat)):Value→Value→Option Value
 | .slice (some a) n _,.int _ i=>match sz with | some s=>if 0≤i∧i < n then some (.pointer (some (a.add (i.toNat*s)))) else none | none=>none
 | .pointer (some a),.int _ i=>match ar with | some (n,s)=>if 0≤i∧i < n then some (.pointer (some (a.add (i.toNat*s)))) else none | none=>none
 | _,_=>none
def q3E (y:Nat):Option Value→Nat→Option Nat
 | none,d=>some d
 | some (.int _ i),_=>if 0≤i∧i≤y then some i.toNat else none
 | some _,_=>none
def q1z (sz:Option Nat) (lo hi:Option Value):Value→Option Value
 | .slice a n c=>match sz,q3E c hi n with
  | some s,some h=>match q3E h lo 0 with
   | some l=>some (.slice (if c=l then a else a.map (·.add (l*s))) (h-l) (c-l))
   | none=>none
  | _,_=>none
 | _=>none
def qso (sz:Option Nat):Value→Option Value
 | .slice _ n _=>match sz with | some _=>some (.int .i64 n) | none=>none
 | _=>none
def qkx (i:Nat):Value→Option Value
 | .tuple vs=>vs[i]?
 | _=>none
def bsV (P:Program) (t:TypeId) (len:Nat) (parts:List (Nat × Value)):Option (TypeId × Array Value) :=
 match q0a P t with
 | some (e,s,_,z)=>if len*s=0 then (if parts.isEmpty then some (e,#[]) else none) else if len*s > 16777216 then none else (Instr.fill (fun i=>some (i*s,s)) ((Array.range (len*s)).map (z[· % z.size]!)) parts).map fun cs=>(e,cs)
 | none=>none
def mmV (isMax:Bool):List Value→Option Value
 | [.int k a,.int k' b]=>if k=k' then some (.int k (if isMax then max a b else min a b)) else none
 | _=>none
def q0G (P : Program) (f : FuncId) : Bool := match P.funcs[f]? with | some fn => fn.body.isSome && !(fn.name == "runtime.NumGoroutine") | none => false
def wo (P:Program) (o:Oper) (e:Env) (w:World) (K:Value→World→Prop):Prop :=
 match o.op with
 | .move x=>K (ev e x) w
 | .assign x=>K (ev e x) w
 | .pick c a b=>match ev e c with | .bool true=>K (ev e a) w | .bool false=>K (ev e b) w | _=>False
 | .alloc t=>q20 (q12 P t) fun z=>K (.pointer (some ⟨w.heap.size,0,none⟩)) (w.alloc (.cells z t))
 | .box t x=>K (.pointer (some ⟨w.heap.size,0,none⟩)) (w.alloc (.cells (ev e x).cells t))
 | .build t ps=>q20 (P.built t (ps.map fun (i,x)=>(i,ev e x)).toList) fun cs=>K (.agg cs) w
 | .buildSlice t len ps=>q20 (bsV P t len (ps.map fun (i,x)=>(i,ev e x)).toList) fun (el,cs)=>K (.slice (some ⟨w.heap.size,0,none⟩) len len) (w.alloc (.cells cs el))
 | .load t a=>q20 (ldV w (q09 P t) (ev e a)) fun v=>K v w
 | .store t a x=>match ev e a with
  | .pointer (some p)=>q0Z P t=some (ev e x).cells.size∧stOk w p 0 (ev e x).cells.toList∧K undef (stN w p 0 (ev e x).cells.toList)
  | _=>False
 | .binOp op t x y _=>q20 (q0w P op t (ev e x) (ev e y)) fun v=>K v w
 | .unOp op _ x=>q20 (unV op (ev e x)) fun v=>K v w
 | .convert s d x=>q20 (qcV (P.underlying s) (P.underlying d) (ev e x)) fun v=>K v w
 | .fieldAddr t x f=>match ev e x with
  | .pointer (some p)=>q20 (q0V P t f) fun off=>K (.pointer (some (p.add off))) w
  | _=>False
 | .indexAddr t x i=>q20 (qhr (q0d P t) (qc1 P t) (ev e x) (ev e i)) fun v=>K v w
 | .slice t x lo hi none=>q20 (q1z (q0d P t) (lo.map (ev e)) (hi.map (ev e)) (ev e x)) fun v=>K v w
 | .makeSlice t l c=>match ev e l,ev e c with
  | .int _ l,.int _ c=>q20 (q0a P t) fun (el,s,b,z)=>(0≤l∧l≤c∧(b:Int)*c≤281474976710656∧c≤9223372036854775807)∧K (.slice (some ⟨w.heap.size,0,none⟩) l.toNat c.toNat) (w.alloc (.cells (madeCells z (c.toNat*s)) el))
  | _,_=>False
 | .nilCheck x=>match ev e x with
  | .pointer (some p)=>K (.pointer (some p)) w
  | _=>False
 | .extract x i=>q20 (qkx i (ev e x)) fun v=>K v w
 | .call c=>match c.callee with
  | .builtin .len=>match c.args.toList,c.argTypes.toList with
   | [x],[t]=>q20 (qso (q0d P t) (ev e x)) fun v=>K v w
   | _,_=>False
  | .builtin .max=>q20 (mmV true (c.args.toList.map (ev e))) fun v=>K v w
  | .builtin .min=>q20 (mmV false (c.args.toList.map (ev e))) fun v=>K v w
  | .value (.func f)=>q0G P f=true∧Calls P f (c.args.map (ev e)) w fun x w'=>match x with | .returned v=>K v w' | _=>False
  | _=>WO P o e w K
 | _=>WO P o e w K
section
variable {P:Program} {o:Oper} {e:Env} {w:World} {K:Value→World→Prop}
def q0R {α:Type} {o:Option α} {K:α→Prop} (h:q20 o K):∃ a,o=some a∧K a:=by
 cases o with
 | none=>exact h.elim
 | some a=>exact ⟨a,rfl,h⟩
def q5Z (w:World) (p:Addr):∀ (k i:Nat) (l:List Value) (acc:Array Value),q0s w p i k=some l→(loadCellsFrom p i k acc).run P w=.ok (acc ++ l.toArray) w
 | 0,i,l,acc,h=>by simp [q0s] at h; subst h; simp [loadCellsFrom]
 | k+1,i,l,acc,h=>by
  simp only [q0s] at h;cases hc:w.cell? (p.add i) with
  | none=>simp [hc] at h
  | some v =>
   cases hr:q0s w p (i+1) k with
   | none=>simp [hc,hr] at h
   | some l' =>
    simp [hc,hr] at h;subst h;have:=q5Z w p k (i+1) l' (acc.push v) hr;simp only [loadCellsFrom,Sem.run_bind,run_load,hc,Result.andThen,this];simp
def qdf (P:Program) (p:Addr):∀ (vs:List Value) (i:Nat) (w:World),stOk w p i vs→(storeCells p vs i).run P w=.ok () (stN w p i vs)
 | [],i,w,_=>by simp [storeCells,stN]
 | v :: vs,i,w,⟨h1,h2,h3,h4⟩=>by
  have hkeep:∀ (vs:List Value) (j:Nat),i < j→stOk w p j vs→stOk (w.setCell (p.add i) v) p j vs:=by
   intro vs
   induction vs with
   | nil=>intro _ _ _; exact trivial
   | cons u vs ih =>
    rintro j hj ⟨a1,a2,a3,a4⟩;have hne:p.add i≠p.add j:=fun he=>by
     unfold Addr.add at he
     split at he <;> split at he <;> first | omega | (have:=congrArg Addr.off he; simp at this; omega)
    refine ⟨?_,by rw [World.frozen?_setCell]; exact a2,a3,ih (j+1) Oq a4⟩;rw [World.cell?_setCell_other _ _ _ _ hne];exact a1
  have ih:=qdf P p vs (i+1) (w.setCell (p.add i) v) (hkeep vs (i+1) Oq h4);obtain ⟨u,hu⟩:=Option.isSome_iff_exists.1 h1;have hst:(store (p.add i) v).run P w=.ok () (w.setCell (p.add i) v):=by
   rw [run_store P w _ v _ h3];simp [hu,h2]
  simp only [storeCells,Sem.run_bind,hst,Result.andThen_ok,ih,stN]
def q6G {t:TypeId} {a b:Bool} (w:World) (hu:P.underlying t=some .bool):(Op.equal t (.bool a) (.bool b)).run P w=.ok (a == b) w:=by
 have h:∀ d:Nat,(Op.equalIn (d+1) t (.bool a) (.bool b)).run P w=.ok (a == b) w:=fun d=>by
  simp [Op.equalIn,run_underlying hu]
 exact h 9999
def q8J {t el:TypeId} {a:Option Addr} {n c n' c':Nat} (w:World) (hu:P.underlying t=some (.slice el)):(Op.equal t (.slice a n c) (.slice none n' c')).run P w=.ok a.isNone w:=by
 have h:∀ d:Nat,(Op.equalIn (d+1) t (.slice a n c) (.slice none n' c')).run P w=.ok a.isNone w:=fun d=>by
  cases a <;> simp [Op.equalIn,run_underlying hu]
 exact h 9999
def q8K {t:TypeId} {k0 k:IntKind} {a b:Int} (w:World) (hu:P.underlying t=some (.int k0)) (d:Nat):(Op.equalIn (d+1) t (.int k a) (.int k b)).run P w=.ok (a == b) w:=by
 simp [Op.equalIn,run_underlying hu]
def q6F {t:TypeId} {k l:IntKind} {a b c d:Int} (w:World) (h:q9h P t=true):(Op.equal t (.agg #[.int k a,.int l b]) (.agg #[.int k c,.int l d])).run P w=.ok (a == c && b == d) w:=by
 unfold q9h at h;simp only [Bool.and_eq_true] at h;obtain ⟨⟨h1,h2⟩,h3⟩:=h
 split at h3
 case h_2=>cases h3
 rename_i fs hu
 split at h3
 case h_2=>cases h3
 rename_i f g hfs;simp only [Bool.and_eq_true] at h3;obtain ⟨⟨⟨⟨⟨n1,n2⟩,o1⟩,o2⟩,u⟩,s⟩:=h3
 split at u
 case h_2=>cases u
 rename_i k1 k2 u1 u2
 split at s
 case h_2=>cases s
 rename_i i j i1 i2;have hfs2:fs=#[f,g]:=by cases fs; simp at hfs; subst hfs; rfl
 subst hfs2;have e:∀ dd:Nat,(Op.equalIn (dd+2) t (.agg #[.int k a,.int l b]) (.agg #[.int k c,.int l d])).run P w=.ok (a == c && b == d) w:=fun dd=>by
  have x1:=fun w=>q8K (k:=k) (a:=a) (b:=c) w u1 dd;have x2:=fun w=>q8K (k:=l) (a:=b) (b:=d) w u2 dd;have h1:P.stoodInHeld t=false:=by simpa using h1
  have n1 : f.name ≠ "_" := by simpa using n1
  have n2 : g.name ≠ "_" := by simpa using n2
  have o1:f.offset=0:=by simpa using o1
  have o2:g.offset=1:=by simpa using o2
  have p1:∀ (v u:Value) (w:World),(part f.type #[v,u] 0).run P w=.ok v w:=fun v u w=>by simp [part,isAgg,run_underlying u1]
  have p2:∀ (v u:Value) (w:World),(part g.type #[v,u] 1).run P w=.ok u w:=fun v u w=>by simp [part,isAgg,run_underlying u2]
  rw [Op.equalIn];simp only [Sem.run_bind,run_underlying hu,Result.andThen_ok];cases e1:(a == c) <;> cases e2:(b == d) <;> simp [h1,n1,n2,o1,o2,p1,p2,x1,x2,e1,e2]
 exact e 9998
def qit {op:BinOp} {t:TypeId} {x y:Operand} {xs ys:Array Value} (w:World) (h:q9h P t=true):(eqGuard op t x y (.agg xs) (.agg ys)).run P w=.ok () w:=by
 unfold q9h at h;simp only [Bool.and_eq_true] at h;obtain ⟨⟨h1,h2⟩,h3⟩:=h;have h2:P.eqGuardType P.depth t=false:=by simpa using h2
 unfold eqGuard;cases op <;> simp [h2]
def qk5 {xs:Array Value} {k l:IntKind} {a b:Int} (h:prV xs.toList=some (k,a,l,b)):xs=#[.int k a,.int l b]:=by
 cases xs with
 | mk xs =>
  unfold prV at h
  split at h
  ·rename_i q;cases h;simp at q;subst q; rfl
  ·cases h
def qhN {op : BinOp} {t : TypeId} {x y : Operand} {vx vy v : Value} (w : World) (hv : q0w P op t vx vy = some v) :
    (do eqGuard op t x y vx vy; binOp op t vx vy : Sem Value).run P w = .ok v w := by
  unfold q0w at hv
  split at hv
  · rename_i k a k' b
    unfold q73 at hv
    have hg : (eqGuard op t x y (.int k a) (.int k' b)).run P w = .ok () w := by
      unfold eqGuard; cases op <;> simp
    rw [Sem.run_bind, hg, Result.andThen_ok]
    split at hv
    · split at hv
      · cases hv
      · rename_i hb; obtain rfl := Option.some.inj hv; simp [binOp, Op.shift, hb]
    · split at hv
      · cases hv
      · rename_i hb; obtain rfl := Option.some.inj hv; simp [binOp, Op.shift, hb]
    · rename_i hs1 hs2
      split at hv
      · rename_i hk
        subst hk
        cases op <;> simp only [q2k] at hv <;> first
          | exact absurd rfl hs1
          | exact absurd rfl hs2
          | (split at hv
             · cases hv
             · rename_i hb; obtain rfl := Option.some.inj hv; simp [binOp, Op.intDiv, hb])
          | (obtain rfl := Option.some.inj hv; simp [binOp, Op.intArith, Op.intBits, Op.intCmp, q0i])
          | cases hv
      · cases hv
  · rename_i a b
    split at hv
    · rename_i hu
      obtain rfl := Option.some.inj hv
      have hg : (eqGuard .eql t x y (.bool a) (.bool b)).run P w = .ok () w := by unfold eqGuard; simp
      rw [Sem.run_bind, hg, Result.andThen_ok]
      have hb : binOp .eql t (.bool a) (.bool b) = (do pure (.bool (← Op.equal t (.bool a) (.bool b))) : Sem Value) := rfl
      rw [hb, Sem.run_bind, q6G w hu]
      rfl
    · rename_i hu
      obtain rfl := Option.some.inj hv
      have hg : (eqGuard .neq t x y (.bool a) (.bool b)).run P w = .ok () w := by unfold eqGuard; simp
      rw [Sem.run_bind, hg, Result.andThen_ok]
      have hb : binOp .neq t (.bool a) (.bool b) = (do pure (.bool (!(← Op.equal t (.bool a) (.bool b)))) : Sem Value) := rfl
      rw [hb, Sem.run_bind, q6G w hu]
      rfl
    · cases hv
  · rename_i a n c n' c'
    split at hv
    · rename_i hu
      obtain rfl := Option.some.inj hv
      have hg : (eqGuard .eql t x y (.slice a n c) (.slice none n' c')).run P w = .ok () w := by unfold eqGuard; simp
      rw [Sem.run_bind, hg, Result.andThen_ok]
      have hb : binOp .eql t (.slice a n c) (.slice none n' c') = (do pure (.bool (← Op.equal t (.slice a n c) (.slice none n' c'))) : Sem Value) := rfl
      rw [hb, Sem.run_bind, q8J w hu]
      rfl
    · rename_i hu
      obtain rfl := Option.some.inj hv
      have hg : (eqGuard .neq t x y (.slice a n c) (.slice none n' c')).run P w = .ok () w := by unfold eqGuard; simp
      rw [Sem.run_bind, hg, Result.andThen_ok]
      have hb : binOp .neq t (.slice a n c) (.slice none n' c') = (do pure (.bool (!(← Op.equal t (.slice a n c) (.slice none n' c')))) : Sem Value) := rfl
      rw [hb, Sem.run_bind, q8J w hu]
      cases a <;> rfl
    · cases hv
  · rename_i xs ys
    split at hv
    case isFalse => cases hv
    rename_i hk
    split at hv
    case h_2 => cases hv
    rename_i k a l b k' c l' d hx hy
    have ex := qk5 hx
    have ey := qk5 hy
    subst ex; subst ey
    split at hv
    case isFalse => cases hv
    rename_i hkk
    obtain ⟨rfl, rfl⟩ := hkk
    rw [Sem.run_bind, qit w hk, Result.andThen_ok]
    split at hv
    · obtain rfl := Option.some.inj hv
      have hb : binOp .eql t (.agg #[.int k a, .int l b]) (.agg #[.int k c, .int l d]) = (do pure (.bool (← Op.equal t (.agg #[.int k a, .int l b]) (.agg #[.int k c, .int l d]))) : Sem Value) := rfl
      rw [hb, Sem.run_bind, q6F w hk]
      rfl
    · obtain rfl := Option.some.inj hv
      have hb : binOp .neq t (.agg #[.int k a, .int l b]) (.agg #[.int k c, .int l d]) = (do pure (.bool (!(← Op.equal t (.agg #[.int k a, .int l b]) (.agg #[.int k c, .int l d])))) : Sem Value) := rfl
      rw [hb, Sem.run_bind, q6F w hk]
      rfl
    · cases hv
  · cases hv
def q1l {y d h:Nat} (hv:q3E y none d=some h):d=h:=Option.some.inj hv
def q1Q {w:World} {y d h:Nat} {v:Value} (code:BoundsCode) (hv:q3E y (some v) d=some h):(Instr.sliceBound v y code).run P w=.ok h w:=by
 cases v <;> simp only [q3E] at hv <;> try (cases hv; done)
 split at hv
 ·rename_i hb;obtain rfl:=Option.some.inj hv;exact run_sliceBound w _ _ _ _ hb.1 hb.2
 ·cases hv
def qbq {t:TypeId} {lo hi:Option Value} {x v:Value} (w:World) (hv:q1z (q0d P t) lo hi x=some v) :
  ∃ el,P.underlying t=some (.slice el)∧∃ i,P.info? el=some i∧(Instr.sliceAt t x lo hi none).run P w=.ok v w:=by
 unfold q1z at hv
 split at hv
 ·rename_i a n c
  split at hv
  ·rename_i s h hs hh
   split at hv
   ·rename_i l hl;obtain rfl:=Option.some.inj hv;unfold q0d at hs
    split at hs
    ·rename_i el hu;obtain ⟨i,hi',hsz⟩:=Option.map_eq_some_iff.1 hs;refine ⟨el,hu,i,hi',?_⟩;have hsize:(sizeOf el).run P w=.ok s w:=by simp [sizeOf,typeInfo,hi',hsz]
     have hb:(Instr.sliceBounds true n c lo hi none).run P w=.ok (l,h,c) w:=by
      unfold Instr.sliceBounds;cases hi with
      | none =>
       obtain rfl:=q1l hh;cases lo with
       | none=>obtain rfl:=q1l hl; simp
       | some lv=>simp [q1Q (P:=P) (w:=w) .sliceB hl]
      | some hv' =>
       cases lo with
       | none=>obtain rfl:=q1l hl; simp [q1Q (P:=P) (w:=w) .sliceAcap hh]
       | some lv=>simp [q1Q (P:=P) (w:=w) .sliceAcap hh,q1Q (P:=P) (w:=w) .sliceB hl]
     simp [Instr.sliceAt,Instr.slice,run_underlying hu,hb,hsize]
    ·cases hs
   ·cases hv
  ·cases hv
 ·cases hv
def qbr {t:TypeId} {f off:Nat} (w:World) (p:Addr) (h:q0V P t f=some off):(Instr.fieldAt t (.pointer (some p)) f).run P w=.ok (.pointer (some (p.add off))) w:=by
 unfold q0V at h
 split at h
 ·rename_i fs hu
  split at h
  ·rename_i d hd
   split at h
   ·rename_i i hi
    split at h
    ·cases h
    ·rename_i hn;obtain rfl:=Option.some.inj h;simp [Instr.fieldAt,run_underlying hu,hd,Instr.sureAddr,fieldPlace,sizeOf,typeInfo,hi,hn]
   ·cases h
  ·cases h
 ·cases h
def qhM {t:TypeId} {x i v:Value} (w:World) (h:qhr (q0d P t) (qc1 P t) x i=some v):(Instr.indexAt t x i).run P w=.ok v w:=by
 unfold qhr at h
 split at h
 ·split at h
  ·rename_i s hs
   split at h
   ·rename_i hb;obtain rfl:=Option.some.inj h;unfold q0d at hs
    split at hs
    ·rename_i el hu;obtain ⟨i,hi,hsz⟩:=Option.map_eq_some_iff.1 hs;simp [Instr.indexAt,asIntOf,run_underlying hu,hb,sizeOf,typeInfo,hi,hsz]
    ·cases hs
   ·cases h
  ·cases h
 ·split at h
  ·rename_i n s hs
   split at h
   ·rename_i hb;obtain rfl:=Option.some.inj h;unfold qc1 at hs
    split at hs
    ·rename_i n' el hu;obtain ⟨i,hi,hsz⟩:=Option.map_eq_some_iff.1 hs;cases hsz;simp [Instr.indexAt,Instr.sureAddr,asIntOf,run_underlying hu,hb,sizeOf,typeInfo,hi]
    ·cases hs
   ·cases h
  ·cases h
 ·cases h
def qaL (h:wo P o e w K):WO P o e w K:=by
 unfold wo at h;unfold WO;obtain ⟨dst,op,ty,pos,af,g⟩:=o;cases op <;> try exact h
 case pick c a b =>
  simp only [] at h;simp only [execOp,Sem.run_bind]
  split at h
  ·rename_i hc; rw [hc]; exact h
  ·rename_i hc; rw [hc]; exact h
  ·exact h.elim
 case alloc t =>
  obtain ⟨z,hz,h⟩:=q0R h;unfold q12 at hz;cases hi:P.info? t with
  | none=>rw [hi] at hz; cases hz
  | some i =>
   rw [hi] at hz;cases hzz:i.zero with
   | none=>simp [hzz] at hz
   | some v =>
    simp [hzz] at hz;subst hz;simp [execOp,Instr.alloc,zeroValue,typeInfo,hi,hzz,newVar,newRow,RO];exact h
 case build t ps =>
  obtain ⟨z,hz,h⟩:=q0R h;have:=run_build (P:=P) w t (ps.map fun (i,x)=>(i,ev e x)) z hz;simp only [execOp,Sem.run_bind,this];exact h
 case buildSlice t len ps =>
  obtain ⟨z,hz,h⟩:=q0R h;unfold bsV q0a at hz;cases hu:P.underlying t with
  | none=>simp [hu] at hz
  | some d =>
   cases d with
   | slice el =>
    cases hi:P.info? el with
    | none=>simp [hu,hi] at hz
    | some i =>
     cases hzz:i.zero with
     | none=>simp [hu,hi,hzz] at hz
     | some v =>
      simp only [hu,hi,hzz,Option.bind_some,Option.map_some] at hz;have e1:(sizeOf el).run P w=.ok i.size w:=by simp [sizeOf,typeInfo,hi]
      have e2:(zeroValue el).run P w=.ok v w:=by simp [zeroValue,typeInfo,hi,hzz]
      have hrun:(Instr.buildSlice t len (ps.map fun (i,x)=>(i,ev e x))).run P w=.ok (.slice (some ⟨w.heap.size,0,none⟩) len len) (w.alloc (.cells z.2 z.1)):=by
       unfold Instr.buildSlice;rw [Sem.run_bind,run_underlying hu,Result.andThen_ok];simp only [];rw [Sem.run_bind,e1,Result.andThen_ok]
       split at hz
       ·rename_i h0
        split at hz
        ·rename_i hp;obtain rfl:=Option.some.inj hz;have hp':(ps.map fun (i,x)=>(i,ev e x)).toList=[]:=by simpa using hp
         have h2':¬ len*i.size > 2 ^ 24:=by omega
         rw [if_neg h2',if_pos h0];simp only [pure_bind];have hr0:Array.range 0=#[]:=rfl;rw [hp',h0,hr0];simp [Instr.fill,newRow]
        ·cases hz
       ·rename_i h1
        split at hz
        ·cases hz
        ·rename_i h2;have h2':¬ len*i.size > 2 ^ 24:=by simpa using h2
         obtain ⟨cs,hcs,rfl⟩:=Option.map_eq_some_iff.1 hz;rw [if_neg h2',if_neg h1];simp only [pure_bind,Sem.run_bind,e2,Result.andThen_ok];rw [hcs];simp [newRow]
      simp only [execOp,Sem.run_bind,hrun];exact h
   | _=>simp [hu] at hz
 case load t a =>
  obtain ⟨v,hv,h⟩:=q0R h;have key:(Instr.loadAt t (ev e a)).run P w=.ok v w:=by
   generalize ev e a=va at *;unfold ldV at hv
   split at hv
   ·rename_i p
    split at hv
    ·rename_i hk;unfold q09 at hk;have hagg:(isAgg t).run P w=.ok false w:=by
      unfold isAgg;cases hu:P.underlying t with
      | none=>simp [hu] at hk
      | some d =>
       rw [Sem.run_bind,run_underlying hu w];cases hi:P.info? t <;> cases d <;> simp_all
     simp [Instr.loadAt,Instr.sureAddr,loadVar,hagg,hv]
    ·rename_i k hk;unfold q09 at hk;obtain ⟨l,hl,rfl⟩:=Option.map_eq_some_iff.1 hv;have hagg:(isAgg t).run P w=.ok true w∧(sizeOf t).run P w=.ok k w:=by
      unfold isAgg sizeOf typeInfo;cases hu:P.underlying t with
      | none=>simp [hu] at hk
      | some d =>
       rw [Sem.run_bind,run_underlying hu w];cases hi:P.info? t <;> cases d <;> simp_all
     have hrun:=q5Z (P:=P) w p k 0 l #[] hl;simp [Instr.loadAt,Instr.sureAddr,loadVar,hagg.1,hagg.2,loadCells,hrun]
    ·cases hv
   ·cases hv
  simp only [execOp,Sem.run_bind,key];exact h
 case store t a x =>
  simp only [] at h
  split at h
  ·rename_i p hp;obtain ⟨h1,h2,h3⟩:=h;unfold q0Z at h1;obtain ⟨i,hi,hs⟩:=Option.map_eq_some_iff.1 h1;have hrun:=qdf P p (ev e x).cells.toList 0 w h2;simp [execOp,Instr.storeAt,Instr.sureAddr,storeVar,sizeOf,typeInfo,hi,hs,hp,hrun,RO];exact h3
  ·exact h.elim
 case nilCheck x =>
  simp only [] at h
  split at h
  ·rename_i p hp; simp [execOp,hp,RO]; exact h
  ·exact h.elim
 case binOp op t x y t' =>
  obtain ⟨v,hv,h⟩:=q0R h;have key:=qhN (P:=P) (x:=x) (y:=y) w hv;simp only [execOp];rw [Sem.run_bind,key];exact h
 case unOp op t x =>
  obtain ⟨v,hv,h⟩:=q0R h;unfold unV at hv
  split at hv
  ·rename_i hx
   split at hv
   ·obtain rfl:=Option.some.inj hv;simp [execOp,hx,Op.unary,RO]; exact h
   ·cases hv
  ·rename_i hx
   split at hv
   ·obtain rfl:=Option.some.inj hv;simp only [execOp,hx,Op.unary,Op.intArith,Sem.run_bind]; exact h
   ·cases hv
  ·cases hv
 case convert s d x =>
  obtain ⟨v,hv,h⟩:=q0R h;unfold qcV at hv
  split at hv
  ·rename_i k0 n0 hx
   split at hv
   ·rename_i sd k hs hd;obtain rfl:=Option.some.inj hv;have key:(convert s d (ev e x)).run P w=.ok (.int k (k.wrap n0)) w:=by
     rw [hx]; simp [convert,run_underlying hs,run_underlying hd,Conv.intToInt]
    simp only [execOp,Sem.run_bind,key];exact h
   ·cases hv
  ·cases hv
 case makeSlice t l c =>
  simp only [] at h
  split at h
  ·rename_i kl l' kc c' hl hc;obtain ⟨⟨el,s,b,z⟩,hz,⟨h0,h1,h2,h3⟩,h⟩:=q0R h;unfold q0a at hz;cases hu:P.underlying t with
   | none=>simp [hu] at hz
   | some d =>
    cases d with
    | slice el' =>
     cases hi:P.info? el' with
     | none=>simp [hu,hi] at hz
     | some i =>
      cases hzz:i.zero with
      | none=>simp [hu,hi,hzz] at hz
      | some v =>
       simp [hu,hi,hzz] at hz;obtain ⟨rfl,rfl,rfl,rfl⟩:=hz;have:=run_make (P:=P) w t el' i v hu hi hzz kl kc l' c' h0 h1 h2 h3;simp only [execOp,hl,hc,Sem.run_bind,this];exact h
    | _=>simp [hu] at hz
  ·exact h.elim
 case slice t x lo hi mx =>
  cases mx with
  | some _=>exact h
  | none =>
   obtain ⟨v,hv,h⟩:=q0R h;obtain ⟨el,hu,i,hi',hrun⟩:=qbq (P:=P) w hv;simp only [execOp,Sem.run_bind,Option.map_none,hrun];exact h
 case fieldAddr t x f =>
  simp only [] at h
  split at h
  ·rename_i p hp;obtain ⟨off,ho,h⟩:=q0R h;have key:=qbr (P:=P) w p ho;simp only [execOp,Sem.run_bind,hp,key];exact h
  ·exact h.elim
 case indexAddr t x i =>
  obtain ⟨v,hv,h⟩:=q0R h;have key:=qhM (P:=P) w hv;simp only [execOp,Sem.run_bind,key];exact h
 case extract x i =>
  obtain ⟨v,hv,h⟩:=q0R h;unfold qkx at hv
  split at hv
  ·rename_i hx; simp [execOp,hx,Instr.extract,hv,RO]; exact h
  ·cases hv
 case call c =>
  simp only [] at h;obtain ⟨callee,args,tys⟩:=c;simp only [] at h
  split at h
  ·split at h
   ·rename_i x t ha ht;obtain ⟨v,hv,h⟩:=q0R h;obtain ⟨args⟩:=args;obtain ⟨tys⟩:=tys;simp only at ha ht;subst ha; subst ht;have key:(Builtin.len_ #[t] ty #[ev e x]).run P w=.ok v w:=by
     unfold qso at hv
     split at hv
     ·rename_i hx
      split at hv
      ·rename_i hs;obtain rfl:=Option.some.inj hv;unfold q0d at hs
       split at hs
       ·rename_i el hu;simp [Builtin.len_,hx,run_underlying hu,goInt]
       ·cases hs
      ·cases hv
     ·cases hv
    simp [execOp,resolve,invoke,builtin,key,RO];exact h
   ·exact h.elim
  ·obtain ⟨v,hv,h⟩:=q0R h;have key:(Builtin.max_ tys ty (args.map (ev e))).run P w=.ok v w:=by
    unfold mmV at hv;unfold Builtin.max_;rw [Array.toList_map]
    split at hv
    ·rename_i k a k' b hl
     split at hv
     ·rename_i hk;obtain rfl:=Option.some.inj hv;simp [hl,Builtin.max2]
      split <;> omega
     ·cases hv
    ·cases hv
   simp [execOp,resolve,invoke,builtin,key,RO];exact h
  ·obtain ⟨v,hv,h⟩:=q0R h;have key:(Builtin.min_ tys ty (args.map (ev e))).run P w=.ok v w:=by
    unfold mmV at hv;unfold Builtin.min_;rw [Array.toList_map]
    split at hv
    ·rename_i k a k' b hl
     split at hv
     ·rename_i hk;obtain rfl:=Option.some.inj hv;simp [hl,Builtin.min2]
      split <;> omega
     ·cases hv
    ·cases hv
   simp [execOp,resolve,invoke,builtin,key,RO];exact h
  ·rename_i f;obtain ⟨hf,h⟩:=h;have key:(callFunc f (args.map (ev e))).run P w=.ok (.enter f (args.map (ev e))) w:=by
    unfold q0G at hf;cases hfn:P.funcs[f]? with
    | none=>simp [hfn] at hf
    | some fn =>
     simp only [hfn,Bool.and_eq_true] at hf;obtain ⟨h1,h2⟩:=hf;obtain ⟨b,hb⟩:=Option.isSome_iff_exists.1 h1;simp only [Bool.not_eq_true',beq_eq_false_iff_ne,ne_eq] at h2;simp [callFunc,hfn,hb,h2]
   have key2:(execOp (ev e) ⟨dst,.call ⟨.value (.func f),args,tys⟩,ty,pos,af,g⟩).run P w=.ok (.enter f (args.map (ev e))) w:=by
    simp only [execOp,resolve,Deferred.ofValue,ev,pure_bind,invoke];simp [key]
   rw [key2];exact h
  ·exact h
end
def wg (P:Program) (ops:Array Oper) (o:Oper) (e:Env) (w:World) (K:Value→World→Prop):Prop :=
 if q5u ops e o then wo P o e w K else K undef w
def WLo (P:Program) (ops:Array Oper) (K:Env→World→Prop):List Oper→Env→World→Prop
 | [],e,w=>K e w
 | o :: rest,e,w=>wg P ops o e w fun v w'=>WLo P ops K rest (put e o.dst v) w'
section
variable {P:Program} {n:Nat} {ops:Array Oper} {Q:Exit→Env→World→Prop} {K:Env→World→Prop} {e:Env} {w:World}
def q25 {o:Oper} {K:Value→World→Prop} (h:wg P ops o e w K):WG P ops o e w K:=by
 unfold wg at h; unfold WG
 split
 ·rename_i hw; rw [if_pos hw] at h; exact qaL h
 ·rename_i hw; rw [if_neg hw] at h; exact h
def q8q:∀ (l:List Oper) (e:Env) (w:World),WLo P ops K l e w→WL P ops K l e w
 | [],_,_,h=>h
 | _ :: rest,_,_,h=>qaB (fun _ _ h=>q8q rest _ _ h) (q25 h)
def qva {id:Nat} {l:List Oper} (h:WLo P l.toArray (Q .normal) l e w):W P n (.region id l.toArray false) Q e w:=q4A (q8q _ _ _ (by simpa using h))
def ql3 {id:Nat} {l:List Oper} (h:∀ K:Env→World→Prop,(∀ e w,Q .normal e w→K e w)→WLo P l.toArray K l e w):W P n (.region id l.toArray false) Q e w:=qva (h _ fun _ _ h=>h)
def q1I {id:Nat} {l:List Oper} {b:Code} (h:∀ K:Env→World→Prop,(∀ e w,W P n b Q e w→K e w)→WLo P l.toArray K l e w):W P n (.seq (.region id l.toArray false) b) Q e w :=
 qpe (qva (h _ fun _ _ h=>h))
def Wz {id:Nat} {l:List Oper} {b:Code} {e1:Env} {w1:World}  (k:W P n b Q e1 w1) (ee:∀ K:Env→World→Prop,WLo P l.toArray K l e w=K e1 w1:=by intro K; simp -implicitDefEqProofs (disch:=omega) only [go_sem,Nat.reduceEqDiff,Nat.reduceAdd,↓reduceIte]; exact rfl):W P n (.seq (.region id l.toArray false) b) Q e w:=q1I fun K hK=>(ee K).mpr (hK _ _ k)
def Wz1 {id:Nat} {l:List Oper} {b:Code} {e1:Env} {w1:World} {F1:Prop} (f1:F1) (k:W P n b Q e1 w1) (ee:F1→∀ K:Env→World→Prop,WLo P l.toArray K l e w=K e1 w1:=by intro g1 K; simp -implicitDefEqProofs (disch:=omega) only [go_sem,Nat.reduceEqDiff,Nat.reduceAdd,↓reduceIte,g1]; exact rfl):W P n (.seq (.region id l.toArray false) b) Q e w:=q1I fun K hK=>(ee f1 K).mpr (hK _ _ k)
def Wz2 {id:Nat} {l:List Oper} {b:Code} {e1:Env} {w1:World} {F1 F2:Prop} (f1:F1) (f2:F2) (k:W P n b Q e1 w1) (ee:F1→F2→∀ K:Env→World→Prop,WLo P l.toArray K l e w=K e1 w1:=by intro g1 g2 K; simp -implicitDefEqProofs (disch:=omega) only [go_sem,Nat.reduceEqDiff,Nat.reduceAdd,↓reduceIte,g1,g2]; exact rfl):W P n (.seq (.region id l.toArray false) b) Q e w:=q1I fun K hK=>(ee f1 f2 K).mpr (hK _ _ k)
def Wz3 {id:Nat} {l:List Oper} {b:Code} {e1:Env} {w1:World} {F1 F2 F3:Prop} (f1:F1) (f2:F2) (f3:F3) (k:W P n b Q e1 w1) (ee:F1→F2→F3→∀ K:Env→World→Prop,WLo P l.toArray K l e w=K e1 w1:=by intro g1 g2 g3 K; simp -implicitDefEqProofs (disch:=omega) only [go_sem,Nat.reduceEqDiff,Nat.reduceAdd,↓reduceIte,g1,g2,g3]; exact rfl):W P n (.seq (.region id l.toArray false) b) Q e w:=q1I fun K hK=>(ee f1 f2 f3 K).mpr (hK _ _ k)
def Wz4 {id:Nat} {l:List Oper} {b:Code} {e1:Env} {w1:World} {F1 F2 F3 F4:Prop} (f1:F1) (f2:F2) (f3:F3) (f4:F4) (k:W P n b Q e1 w1) (ee:F1→F2→F3→F4→∀ K:Env→World→Prop,WLo P l.toArray K l e w=K e1 w1:=by intro g1 g2 g3 g4 K; simp -implicitDefEqProofs (disch:=omega) only [go_sem,Nat.reduceEqDiff,Nat.reduceAdd,↓reduceIte,g1,g2,g3,g4]; exact rfl):W P n (.seq (.region id l.toArray false) b) Q e w:=q1I fun K hK=>(ee f1 f2 f3 f4 K).mpr (hK _ _ k)
def Wz5 {id:Nat} {l:List Oper} {b:Code} {e1:Env} {w1:World} {F1 F2 F3 F4 F5:Prop} (f1:F1) (f2:F2) (f3:F3) (f4:F4) (f5:F5) (k:W P n b Q e1 w1) (ee:F1→F2→F3→F4→F5→∀ K:Env→World→Prop,WLo P l.toArray K l e w=K e1 w1:=by intro g1 g2 g3 g4 g5 K; simp -implicitDefEqProofs (disch:=omega) only [go_sem,Nat.reduceEqDiff,Nat.reduceAdd,↓reduceIte,g1,g2,g3,g4,g5]; exact rfl):W P n (.seq (.region id l.toArray false) b) Q e w:=q1I fun K hK=>(ee f1 f2 f3 f4 f5 K).mpr (hK _ _ k)
def Wz6 {id:Nat} {l:List Oper} {b:Code} {e1:Env} {w1:World} {F1 F2 F3 F4 F5 F6:Prop} (f1:F1) (f2:F2) (f3:F3) (f4:F4) (f5:F5) (f6:F6) (k:W P n b Q e1 w1) (ee:F1→F2→F3→F4→F5→F6→∀ K:Env→World→Prop,WLo P l.toArray K l e w=K e1 w1:=by intro g1 g2 g3 g4 g5 g6 K; simp -implicitDefEqProofs (disch:=omega) only [go_sem,Nat.reduceEqDiff,Nat.reduceAdd,↓reduceIte,g1,g2,g3,g4,g5,g6]; exact rfl):W P n (.seq (.region id l.toArray false) b) Q e w:=q1I fun K hK=>(ee f1 f2 f3 f4 f5 f6 K).mpr (hK _ _ k)
end
def resF (e:Env):ResultVar→Sem Value
 | .tmp t=>pure (e t)
 | .cell a t=>do loadVar t (← asAddr (e a))
def qhQ (fn:Func) (e:Env):Sem Value:=do
 let vs ← fn.results.mapM (resF e)
 pure (if h:vs.size=1 then vs[0] else .tuple vs)
def qg7 (P:Program) (fn:Func) (R:Ending→World→Prop) (x:Exit) (e:Env) (w:World):Prop :=
 match x with
 | .normal | .ret=>∃ v,(qhQ fn e).run P w=.ok v w∧R (.returned v) w
 | _=>False
section
variable {P:Program} {n:Nat}
def q6I {fn:Func} {a:Act} {e:Env} (hr:Rel n a e):results fn a.tmps=qhQ fn e:=by
 have:(fun i=>a.tmps.getD i undef)=e:=funext hr.get;unfold results qhQ
 congr 1
 congr 1
 subst this
 funext r
 cases r <;> rfl
def q5j {f:FuncId} {fn:Func} {c:Code} {args:Array Value} {w:World} {R:Ending→World→Prop}
  (hf:P.funcs[f]?=some fn) (hb:fn.body=some c) (hn:fn.ntmps=n) (hd:(decide (args.size≤n) && q7V n c)=true)
  (h:W P n c (qg7 P fn R) (q4U args.toList) w):Calls P f args w R:=by
 rw [Bool.and_eq_true,decide_eq_true_eq] at hd;refine calls_of_wp hf hb (wp_mono (h hd.2 ⟨args ++ Array.replicate (fn.ntmps-args.size) undef,[]⟩ ⟨rfl,by simp; omega,fun i=>?_⟩) ?_)
 ·simp only [q4U,Array.getD_eq_getD_getElem?,List.getD_eq_getElem?_getD,Array.getElem?_append,Array.getElem?_replicate]
  by_cases hi:i < args.size
  ·simp [hi]
  ·simp only [hi,if_false,Array.getElem?_toList,Array.getElem?_eq_none (Nat.le_of_not_lt hi),Option.getD_none]
   split <;> rfl
 ·rintro x a' w' ⟨e',hr,_,hq⟩;cases x <;> simp only [qg7] at hq <;> try exact hq.elim
  ·obtain ⟨v,hv,hR⟩:=hq;exact ⟨hr.defs,v,by rw [q6I hr]; exact hv,hR⟩
  ·obtain ⟨v,hv,hR⟩:=hq;exact ⟨hr.defs,v,by rw [q6I hr]; exact hv,hR⟩
def ret1 {fn:Func} {R:Ending→World→Prop} {e:Env} {w:World} {t:Nat} (h:fn.results=#[.tmp t]) (hR:R (.returned (e t)) w):qg7 P fn R .ret e w :=
 ⟨e t,by simp [qhQ,h,resF],hR⟩
def ret0 {fn:Func} {R:Ending→World→Prop} {e:Env} {w:World} (h:fn.results=#[]) (hR:R (.returned (.tuple #[])) w):qg7 P fn R .ret e w :=
 ⟨.tuple #[],by simp [qhQ,h],hR⟩
def q8v (P:Program) (w:World) (e:Env):ResultVar→Option Value
 | .tmp t=>some (e t)
 | .cell a t=>match e a with
  | .pointer (some p)=>match q09 P t with
   | some (some k)=>(q0s w p 0 k).map fun l=>.agg l.toArray
   | some none=>w.cell? p
   | none=>none
  | _=>none
def q11 {w:World} {e:Env} {r:ResultVar} {v:Value} (h:q8v P w e r=some v) :
  (resF e r).run P w=.ok v w:=by
 cases r with
 | tmp t=>simp only [q8v] at h; obtain rfl:=Option.some.inj h; rfl
 | cell a t =>
  simp only [q8v] at h
  split at h
  ·rename_i p hp;have:ldV w (q09 P t) (.pointer (some p))=some v:=by
    unfold ldV; simp only []
    split at h <;> simp_all
   have h2 : WO P ⟨none, .load t (.const (.pointer (some p))), 0, "", #[], none⟩ e w (fun v' w' => v' = v ∧ w' = w) := qaL (by simp only [wo, ev, this, q2h]; exact ⟨trivial, trivial⟩);unfold WO at h2;simp only [execOp,ev,Sem.run_bind] at h2;simp only [resF,Sem.run_bind,hp,asAddr,Sem.run_pure,Result.andThen_ok];simp only [Instr.loadAt,Instr.sureAddr,Sem.run_bind,Sem.run_pure,Result.andThen_ok] at h2;cases hr:(loadVar t p).run P w with
   | ok x w'=>rw [hr] at h2; simp only [Result.andThen_ok,RO] at h2; rw [h2.1,h2.2]
   | halt=>rw [hr] at h2; simp only [Result.andThen_halt,RO] at h2
  ·cases h
def qsI {fn:Func} {R:Ending→World→Prop} {e:Env} {w:World} {r:ResultVar} {v:Value} (h:fn.results=#[r]) (h0:q8v P w e r=some v) (hR:R (.returned v) w):qg7 P fn R .ret e w:=by
 have:=q11 h0;exact ⟨v,by simp [qhQ,h,this],hR⟩
def qsH {fn:Func} {R:Ending→World→Prop} {e:Env} {w:World} {r s:ResultVar} {v u:Value} (h:fn.results=#[r,s]) (h0:q8v P w e r=some v) (h1:q8v P w e s=some u) (hR:R (.returned (.tuple #[v,u])) w):qg7 P fn R .ret e w:=by
 have a0:=q11 h0;have a1:=q11 h1;exact ⟨.tuple #[v,u],by simp [qhQ,h,a0,a1],hR⟩
def qsG {fn:Func} {R:Ending→World→Prop} {e:Env} {w:World} {r s q:ResultVar} {v u x:Value} (h:fn.results=#[r,s,q]) (h0:q8v P w e r=some v) (h1:q8v P w e s=some u) (h2:q8v P w e q=some x) (hR:R (.returned (.tuple #[v,u,x])) w):qg7 P fn R .ret e w:=by
 have a0:=q11 h0;have a1:=q11 h1;have a2:=q11 h2;exact ⟨.tuple #[v,u,x],by simp [qhQ,h,a0,a1,a2],hR⟩
end
def qgs (v:Value) (K:Value→Prop):Prop:=K v
def qbx (c a b:Value) (K:Value→Prop):Prop:=match c with | .bool true=>K a | .bool false=>K b | _=>False
def q3k (o:Option Bool) (b:Bool) (A B:Prop):Prop:=if o == some b then A else B
def qaU (P:Program) (t:TypeId) (w:World) (a x:Value) (K:World→Prop):Prop:=match a with
  | .pointer (some p)=>q0Z P t=some x.cells.size∧stOk w p 0 x.cells.toList∧K (stN w p 0 x.cells.toList)
  | _=>False
def qtC (off:Option Nat) (x:Value) (K:Value→Prop):Prop:=match x with
  | .pointer (some p)=>q20 off fun off=>K (.pointer (some (p.add off)))
  | _=>False
def mkW (eo:Option (TypeId × Nat × Nat × Array Value)) (l c:Value) (w:World) (K:Value→World→Prop):Prop:=match l,c with
  | .int _ l,.int _ c=>q20 eo fun (el,s,b,z)=>(0≤l∧l≤c∧(b:Int)*c≤281474976710656∧c≤9223372036854775807)∧K (.slice (some ⟨w.heap.size,0,none⟩) l.toNat c.toNat) (w.alloc (.cells (madeCells z (c.toNat*s)) el))
  | _,_=>False
def boxW (t:TypeId) (v:Value) (w:World) (K:Value→World→Prop):Prop:=K (.pointer (some ⟨w.heap.size,0,none⟩)) (w.alloc (.cells v.cells t))
def bsW (o:Option (TypeId × Array Value)) (len:Nat) (w:World) (K:Value→World→Prop):Prop:=q20 o fun (el,cs)=>K (.slice (some ⟨w.heap.size,0,none⟩) len len) (w.alloc (.cells cs el))
def alW (o:Option (Array Value)) (t:TypeId) (w:World) (K:Value→World→Prop):Prop:=q20 o fun z=>K (.pointer (some ⟨w.heap.size,0,none⟩)) (w.alloc (.cells z t))
def q8i (P:Program) (f:FuncId) (args:List Value) (w:World) (K:Value→World→Prop):Prop:=q0G P f=true∧Calls P f args.toArray w fun x w'=>match x with | .returned v=>K v w' | _=>False
def qpW (P:Program) (tys:Array TypeId) (ty:TypeId) (args:List Value) (w:World) (K:Value→World→Prop):Prop:=∃ v w',(Builtin.append_ tys ty args.toArray).run P w=.ok v w'∧K v w'
section
variable {P:Program}
@[congr] theorem qqN {α:Type} {o o':Option α} {K:α→Prop} (h:o=o'):q20 o K=q20 o' K:=by rw [h]
@[congr] theorem qqE {v v':Value} {K:Value→Prop} (h:v=v'):qgs v K=qgs v' K:=by rw [h]
@[congr] theorem qnF {c c' a b:Value} {K:Value→Prop} (h:c=c'):qbx c a b K=qbx c' a b K:=by rw [h]
@[congr] theorem qkp {o o':Option Bool} {b:Bool} {A B:Prop} (h:o=o'):q3k o b A B=q3k o' b A B:=by rw [h]
@[congr] theorem qkC {t:TypeId} {w w':World} {a a' x x':Value} {K:World→Prop} (hw:w=w') (h:a=a') (h':x=x'):qaU P t w a x K=qaU P t w' a' x' K:=by rw [h,h',hw]
@[congr] theorem qqQ {o o':Option Nat} {x x':Value} {K:Value→Prop} (h:o=o') (h':x=x'):qtC o x K=qtC o' x' K:=by rw [h,h']
@[congr] theorem qsc {o o':Option (TypeId × Nat × Nat × Array Value)} {l l' c c':Value} {w:World} {K:Value→World→Prop} (h:o=o') (h1:l=l') (h2:c=c'):mkW o l c w K=mkW o' l' c' w K:=by rw [h,h1,h2]
@[congr] theorem qqX {t:TypeId} {v v':Value} {w:World} {K:Value→World→Prop} (h:v=v'):boxW t v w K=boxW t v' w K:=by rw [h]
@[congr] theorem qu9 {o o':Option (TypeId × Array Value)} {len:Nat} {w:World} {K:Value→World→Prop} (h:o=o'):bsW o len w K=bsW o' len w K:=by rw [h]
@[congr] theorem qvM {o o':Option (Array Value)} {t:TypeId} {w:World} {K:Value→World→Prop} (h:o=o'):alW o t w K=alW o' t w K:=by rw [h]
@[congr] theorem qol {f:FuncId} {args args':List Value} {w:World} {K:Value→World→Prop} (h:args=args'):q8i P f args w K=q8i P f args' w K:=by rw [h]
@[congr] theorem qqY {tys:Array TypeId} {ty:TypeId} {args args':List Value} {w:World} {K:Value→World→Prop} (h:args=args'):qpW P tys ty args w K=qpW P tys ty args' w K:=by rw [h]
@[congr] theorem qve {ops:Array Oper} {l:List Oper} {e e':Env} {w:World} {K:Env→World→Prop} (h:e=e'):WLo P ops K l e w=WLo P ops K l e' w:=by rw [h]
@[congr] theorem W_congr {n:Nat} {c:Code} {Q:Exit→Env→World→Prop} {e e':Env} {w:World} (h:e=e'):W P n c Q e w=W P n c Q e' w:=by rw [h]
@[congr] theorem wo_congr {o:Oper} {e e':Env} {w:World} {K:Value→World→Prop} (h:e=e'):wo P o e w K=wo P o e' w K:=by rw [h]
variable {d:Option Nat} {ty t s:TypeId} {pos:String} {af:Array Edge} {g:Option (Nat × Bool)} {e:Env} {w:World} {K:Value→World→Prop}
def qql {v:Value} {K:Value→Prop}:qgs v K=K v:=rfl
def qnD {a b:Value} {K:Value→Prop}:qbx (.bool true) a b K=qgs a K:=rfl
def qnE {a b:Value} {K:Value→Prop}:qbx (.bool false) a b K=qgs b K:=rfl
def qer {A B:Prop}:q3k (some true) true A B=A:=rfl
def qes {A B:Prop}:q3k (some true) false A B=B:=rfl
def qet {A B:Prop}:q3k (some false) true A B=B:=rfl
def qeu {A B:Prop}:q3k (some false) false A B=A:=rfl
def qiC {A B:Prop} {b:Bool}:q3k none b A B=B:=rfl
def qtB {off:Nat} {p:Addr} {K:Value→Prop}:qtC (some off) (.pointer (some p)) K=qgs (.pointer (some (p.add off))) K:=rfl
def qad {i:Nat} {v:Value}:put e (some i) v=upd e i v:=rfl
def qlu {x}:wo P ⟨d,.move x,ty,pos,af,g⟩ e w K=qgs (ev e x) fun v=>K v w:=rfl
def qcw {x}:wo P ⟨d,.assign x,ty,pos,af,g⟩ e w K=qgs (ev e x) fun v=>K v w:=rfl
def qlt {c a b}:wo P ⟨d,.pick c a b,ty,pos,af,g⟩ e w K=qbx (ev e c) (ev e a) (ev e b) fun v=>K v w:=rfl
def qgr:wo P ⟨d,.alloc t,ty,pos,af,g⟩ e w K=alW (q12 P t) t w K:=rfl
def qqf {x}:wo P ⟨d,.box t x,ty,pos,af,g⟩ e w K=boxW t (ev e x) w K:=rfl
def qgp {ps}:wo P ⟨d,.build t ps,ty,pos,af,g⟩ e w K=q20 (P.built t (ps.map fun (i,x)=>(i,ev e x)).toList) fun cs=>K (.agg cs) w:=rfl
def q33 {len ps}:wo P ⟨d,.buildSlice t len ps,ty,pos,af,g⟩ e w K=bsW (bsV P t len (ps.map fun (i,x)=>(i,ev e x)).toList) len w K:=rfl
def qlw {a}:wo P ⟨d,.load t a,ty,pos,af,g⟩ e w K=q20 (ldV w (q09 P t) (ev e a)) fun v=>K v w:=rfl
def qgm {a x}:wo P ⟨d,.store t a x,ty,pos,af,g⟩ e w K=qaU P t w (ev e a) (ev e x) fun w'=>K undef w':=rfl
def qgq {op x y t'}:wo P ⟨d,.binOp op t x y t',ty,pos,af,g⟩ e w K=q20 (q0w P op t (ev e x) (ev e y)) fun v=>K v w:=rfl
def qls {op x}:wo P ⟨d,.unOp op t x,ty,pos,af,g⟩ e w K=q20 (unV op (ev e x)) fun v=>K v w:=rfl
def qbh {x}:wo P ⟨d,.convert s t x,ty,pos,af,g⟩ e w K=q20 (qcV (P.underlying s) (P.underlying t) (ev e x)) fun v=>K v w:=rfl
def q7r {x f}:wo P ⟨d,.fieldAddr t x f,ty,pos,af,g⟩ e w K=qtC (q0V P t f) (ev e x) fun v=>K v w:=rfl
def q7q {x i}:wo P ⟨d,.indexAddr t x i,ty,pos,af,g⟩ e w K=q20 (qhr (q0d P t) (qc1 P t) (ev e x) (ev e i)) fun v=>K v w:=rfl
def qgn {x lo hi}:wo P ⟨d,.slice t x lo hi none,ty,pos,af,g⟩ e w K=q20 (q1z (q0d P t) (lo.map (ev e)) (hi.map (ev e)) (ev e x)) fun v=>K v w:=rfl
def q7p {l c}:wo P ⟨d,.makeSlice t l c,ty,pos,af,g⟩ e w K=mkW (q0a P t) (ev e l) (ev e c) w K:=rfl
def qbg {x i}:wo P ⟨d,.extract x i,ty,pos,af,g⟩ e w K=q20 (qkx i (ev e x)) fun v=>K v w:=rfl
def q9H {x}:wo P ⟨d,.nilCheck x,ty,pos,af,g⟩ e w K=q20 (match ev e x with | .pointer (some p)=>some (.pointer (some p)) | _=>none) fun v=>K v w:=by
 simp only [wo]
 split <;> rename_i h <;> first | rfl | (simp only [h]; done) | (simp only [h]; rfl)
def qqe {x}:wo P ⟨d,.call ⟨.builtin .len,#[x],#[t]⟩,ty,pos,af,g⟩ e w K=q20 (qso (q0d P t) (ev e x)) fun v=>K v w:=rfl
def qqd {xs ts}:wo P ⟨d,.call ⟨.builtin .max,xs,ts⟩,ty,pos,af,g⟩ e w K=q20 (mmV true (xs.toList.map (ev e))) fun v=>K v w:=rfl
def qqc {xs ts}:wo P ⟨d,.call ⟨.builtin .min,xs,ts⟩,ty,pos,af,g⟩ e w K=q20 (mmV false (xs.toList.map (ev e))) fun v=>K v w:=rfl
def qly {f} {xs:List Operand} {ts}:wo P ⟨d,.call ⟨.value (.func f),xs.toArray,ts⟩,ty,pos,af,g⟩ e w K=q8i P f (xs.map (ev e)) w K:=by
 simp only [wo,q8i,List.map_toArray]
 try rfl
def q7Z {f:FuncId} {args:List Value} {R:Ending→World→Prop} (hc:q0G P f=true) (h:Calls P f args.toArray w R) (hk:∀ x w',R x w'→∃ v,x=.returned v∧K v w'):q8i P f args w K :=
 ⟨hc,h.mono fun x w' hx=>by obtain ⟨v,rfl,h⟩:=hk x w' hx; exact h⟩
def q5M {s x:Operand} {tys:Array TypeId}:wo P ⟨d,.call ⟨.builtin .append,#[s,x],tys⟩,ty,pos,af,g⟩ e w K=qpW P tys ty [ev e s,ev e x] w K:=by
 simp only [wo,WO,execOp,resolve,invoke,builtin,Sem.run_bind,Sem.run_pure,Result.andThen_ok,List.map_toArray,List.map_cons,List.map_nil,qpW];cases hr:(Builtin.append_ tys ty #[ev e s,ev e x]).run P w with
 | ok v w' =>
  simp only [Result.andThen_ok,Sem.run_pure,RO];exact propext ⟨fun h=>⟨v,w',rfl,h⟩,fun ⟨v',w'',h,hk⟩=>by injection h with h1 h2; subst h1; subst h2; exact hk⟩
 | halt x w' =>
  simp only [Result.andThen_halt,RO];exact propext ⟨fun h=>h.elim,fun ⟨_,_,h,_⟩=>by cases h⟩
def qeD (P:Program) (T ty:TypeId) (s x:Value) (w:World) (K:Value→Value→World→Prop):Prop :=
 bsW (bsV P T 1 [(0,x)]) 1 w fun v1 w1=>qpW P #[T,T] ty [s,v1] w1 fun v2 w2=>K v1 v2 w2
@[congr] theorem qmx {T ty:TypeId} {s s' x x':Value} {w:World} {K:Value→Value→World→Prop} (h:s=s') (h':x=x'):qeD P T ty s x w K=qeD P T ty s' x' w K:=by rw [h,h']
def q6c {ops:Array Oper} {op:Op}:wg P ops ⟨d,op,ty,pos,af,none⟩ e w K=wo P ⟨d,op,ty,pos,af,none⟩ e w K:=rfl
def qlz {ops:Array Oper} {op:Op} {j:Nat} {b:Bool}:wg P ops ⟨d,op,ty,pos,af,some (j,b)⟩ e w K=q3k (q30 ops e j) b (wo P ⟨d,op,ty,pos,af,some (j,b)⟩ e w K) (K undef w):=rfl
def qpg {ops:Array Oper} {K:Env→World→Prop}:WLo P ops K [] e w=K e w:=rfl
def q78 {ops:Array Oper} {K:Env→World→Prop} {o:Oper} {rest:List Oper}:WLo P ops K (o :: rest) e w=wg P ops o e w fun v w'=>WLo P ops K rest (put e o.dst v) w':=rfl
def qja {ops:Array Oper} {K:Env→World→Prop} {d1 d2 s T ty1 ty2:Nat} {x:Operand} {p1 p2:String} {a1 a2:Array Edge} {rest:List Oper} :
  WLo P ops K (⟨some d1,.buildSlice T 1 #[(0,x)],ty1,p1,a1,none⟩ :: ⟨some d2,.call ⟨.builtin .append,#[.tmp s,.tmp d1],#[T,T]⟩,ty2,p2,a2,none⟩ :: rest) e w =
   if s=d1 then wg P ops ⟨some d1,.buildSlice T 1 #[(0,x)],ty1,p1,a1,none⟩ e w (fun v w'=>WLo P ops K (⟨some d2,.call ⟨.builtin .append,#[.tmp s,.tmp d1],#[T,T]⟩,ty2,p2,a2,none⟩ :: rest) (put e (some d1) v) w')
   else qeD P T ty2 (e s) (ev e x) w fun v1 v2 w'=>WLo P ops K rest (upd (upd e d1 v1) d2 v2) w':=by
 split
 ·rfl
 rename_i hne;have h:∀ v1,ev (upd e d1 v1) (.tmp s)=e s:=fun v1=>by
  simp [ev,upd,hne]
 have h2:∀ v1,ev (upd e d1 v1) (.tmp d1)=v1:=fun v1=>by simp [ev,upd]
 rw [q78,q6c,q33];unfold qeD;have hp:(Array.map (fun x=>match x with | (i,x)=>(i,ev e x)) #[(0,x)]).toList=[(0,ev e x)]:=by simp
 rw [hp]
 congr 1
 funext v1 w1
 rw [q78,q6c,qad,q5M,h,h2]
 rfl
def qh1 {v:Value}:put e none v=e:=rfl
def qtQ {i:Nat}:ev e (.tmp i)=e i:=rfl
def qir {v:Value}:ev e (.const v)=v:=rfl
def qjn {i j:Nat} {v:Value}:upd e i v j=if j=i then v else e j:=rfl
def q9K {next:Env→World→Prop} {Q:Exit→Env→World→Prop}:qgw next Q .ret e w=Q .ret e w:=rfl
def qn5 {Q:Exit→Env→World→Prop} {i:Nat}:inB i Q .ret e w=Q .ret e w:=rfl
def env_z {v:Value} {l:List Value}:q4U (v :: l) 0=v:=rfl
def env_s {v:Value} {l:List Value} {i:Nat}:q4U (v :: l) (i+1)=q4U l i:=rfl
def qpV {tys:Array TypeId} {ty':TypeId} {args:List Value} {v:Value} {w':World} (h:(Builtin.append_ tys ty' args.toArray).run P w=.ok v w') (hk:K v w'):qpW P tys ty' args w K:=⟨v,w',h,hk⟩
end
attribute [irreducible] qeD bsW qpW q8i mkW boxW alW qaU qtC q3k qbx qgs WLo wg
section
variable {P:Program} {t:TypeId} {k k':IntKind} {a b:Int}
def qpU:q0w P .add t (.int k a) (.int k b)=some (.int k (k.wrap (a+b))):=by simp [q0w,q73,q2k]
def qpL:q0w P .sub t (.int k a) (.int k b)=some (.int k (k.wrap (a-b))):=by simp [q0w,q73,q2k]
def qpN:q0w P .mul t (.int k a) (.int k b)=some (.int k (k.wrap (a*b))):=by simp [q0w,q73,q2k]
def qgF:q0w P .quo t (.int k a) (.int k b)=if b=0 then none else some (.int k (k.wrap (a.tdiv b))):=by simp [q0w,q73,q2k]
def qgE:q0w P .rem t (.int k a) (.int k b)=if b=0 then none else some (.int k (a.tmod b)):=by simp [q0w,q73,q2k]
def qpT:q0w P .and t (.int k a) (.int k b)=some (.int k (q0i .and k a b)):=by simp [q0w,q73,q2k]
def qur:q0w P .or t (.int k a) (.int k b)=some (.int k (q0i .or k a b)):=by simp [q0w,q73,q2k]
def qpK:q0w P .xor t (.int k a) (.int k b)=some (.int k (q0i .xor k a b)):=by simp [q0w,q73,q2k]
def qcZ:q0w P .andNot t (.int k a) (.int k b)=some (.int k (q0i .andNot k a b)):=by simp [q0w,q73,q2k]
def qpS:q0w P .eql t (.int k a) (.int k b)=some (.bool (a == b)):=by simp [q0w,q73,q2k]
def qpM:q0w P .neq t (.int k a) (.int k b)=some (.bool (a != b)):=by simp [q0w,q73,q2k]
def qpO:q0w P .lss t (.int k a) (.int k b)=some (.bool (decide (a < b))):=by simp [q0w,q73,q2k]
def qpP:q0w P .leq t (.int k a) (.int k b)=some (.bool (decide (a≤b))):=by simp [q0w,q73,q2k]
def qpQ:q0w P .gtr t (.int k a) (.int k b)=some (.bool (decide (b < a))):=by simp [q0w,q73,q2k]
def qpR:q0w P .geq t (.int k a) (.int k b)=some (.bool (decide (b≤a))):=by simp [q0w,q73,q2k]
def q9v:q0w P .shl t (.int k a) (.int k' b)=if b < 0 then none else some (.int k (k.wrap (a*2 ^ (min b.toNat k.bits)))):=by simp [q0w,q73]
def q1x:q0w P .shr t (.int k a) (.int k' b)=if b < 0 then none else some (.int k (a.fdiv (2 ^ (min b.toNat k.bits)))):=by simp [q0w,q73]
def qbX {x y:Bool} (h:P.underlying t=some .bool):q0w P .eql t (.bool x) (.bool y)=some (.bool (x == y)):=by simp [q0w,h]
def qbW {x y:Bool} (h:P.underlying t=some .bool):q0w P .neq t (.bool x) (.bool y)=some (.bool (x != y)):=by simp [q0w,h]
def qgG {A:Option Addr} {n c n' c' el:Nat} (h:P.underlying t=some (.slice el)):q0w P .eql t (.slice A n c) (.slice none n' c')=some (.bool A.isNone):=by simp [q0w,h]
def qjU {A:Option Addr} {n c n' c' el:Nat} (h:P.underlying t=some (.slice el)):q0w P .neq t (.slice A n c) (.slice none n' c')=some (.bool A.isSome):=by simp [q0w,h]
def qqp {x:Bool}:unV .not (.bool x)=some (.bool !x):=rfl
def qqq:unV .neg (.int k a)=some (.int k (k.wrap (0-a))):=rfl
def qjG {s:TypeDesc}:qcV (some s) (some (.int k)) (.int k' a)=some (.int k (k.wrap a)):=rfl
def idx_s {ad:Addr} {n c s:Nat} {ar:Option (Nat × Nat)} {i:Int}:qhr (some s) ar (.slice (some ad) n c) (.int k i)=if 0≤i∧i < n then some (.pointer (some (ad.add (i.toNat*s)))) else none:=rfl
def idx_a {ad:Addr} {n s:Nat} {sz:Option Nat} {i:Int}:qhr sz (some (n,s)) (.pointer (some ad)) (.int k i)=if 0≤i∧i < n then some (.pointer (some (ad.add (i.toNat*s)))) else none:=rfl
def len_s {A:Option Addr} {n c s:Nat}:qso (some s) (.slice A n c)=some (.int .i64 n):=rfl
def ext_0 {v:Value} {l:List Value}:qkx 0 (.tuple ⟨v :: l⟩)=some v:=rfl
def ext_1 {v u:Value} {l:List Value}:qkx 1 (.tuple ⟨v :: u :: l⟩)=some u:=rfl
def ext_2 {v u x:Value} {l:List Value}:qkx 2 (.tuple ⟨v :: u :: x :: l⟩)=some x:=rfl
def ext_3 {v u x y:Value} {l:List Value}:qkx 3 (.tuple ⟨v :: u :: x :: y :: l⟩)=some y:=rfl
def ld_1 {w:World} {p:Addr}:ldV w (some none) (.pointer (some p))=w.cell? p:=rfl
def ld_k {w:World} {p:Addr} {n:Nat}:ldV w (some (some n)) (.pointer (some p))=(q0s w p 0 n).map fun l=>.agg l.toArray:=rfl
def rd_z {w:World} {p:Addr} {i:Nat}:q0s w p i 0=some []:=rfl
def qo7 (a:Option Value) (b:Option (List Value)):Option (List Value):=match a,b with | some v,some l=>some (v :: l) | _,_=>none
def qo6 {v:Value} {l:List Value}:qo7 (some v) (some l)=some (v :: l):=rfl
def rd_s {w:World} {p:Addr} {i n:Nat}:q0s w p i (n+1)=qo7 (w.cell? (p.add i)) (q0s w p (i+1) n):=rfl
def sl_hi {A:Option Addr} {n c s:Nat} {h:Int}:q1z (some s) none (some (.int k h)) (.slice A n c)=if 0≤h∧h≤c then some (.slice (if c=0 then A else A.map (·.add (0*s))) (h.toNat-0) (c-0)) else none:=by
 simp only [q1z,q3E]
 split <;> rename_i hh <;> split at hh <;> simp_all
def sl_lo {A:Option Addr} {n c s:Nat} {l:Int}:q1z (some s) (some (.int k l)) none (.slice A n c)=if 0≤l∧l≤n then some (.slice (if c=l.toNat then A else A.map (·.add (l.toNat*s))) (n-l.toNat) (c-l.toNat)) else none:=by
 simp only [q1z,q3E]
 split <;> rename_i hh <;> split at hh <;> simp_all
def sl_lh {A:Option Addr} {n c s:Nat} {l h:Int}:q1z (some s) (some (.int k l)) (some (.int k' h)) (.slice A n c) =
  if (0≤h∧h≤c)∧0≤l∧l≤h then some (.slice (if c=l.toNat then A else A.map (·.add (l.toNat*s))) (h.toNat-l.toNat) (c-l.toNat)) else none:=by
 simp only [q1z,q3E]
 by_cases h1:0≤h∧h≤(c:Int)
 ·have e:((h.toNat:Nat):Int)=h:=by omega
  simp only [h1,and_self,if_true,e,true_and]
  by_cases h2:0≤l∧l≤h <;> simp [h2]
 ·simp [h1]
def qgN (A:Option Addr) (s:Nat):A.map (·.add (0*s))=A:=by
 rw [Nat.zero_mul]; cases A <;> simp [Addr.add]
def qr6 {A:Option Addr} {n c s:Nat} {h:Int}:q1z (some s) none (some (.int k h)) (.slice A n c)=if 0≤h∧h≤c then some (.slice A h.toNat c) else none:=by
 rw [sl_hi,qgN]; simp
def qbT:Value→Option Bool | .bool b=>some b | _=>none
def qjS {b:Bool}:qbT (.bool b)=some b:=rfl
def qjR:qbT undef=none:=rfl
def q6A:List Oper→Nat→Env→Option Bool
 | [],_,_=>none
 | o :: _,0,e=>match o.dst with | some d=>qbT (e d) | none=>none
 | _ :: os,j+1,e=>q6A os j e
def qgi {o:Oper} {os:List Oper} {j:Nat} {e:Env}:q6A (o :: os) (j+1) e=q6A os j e:=rfl
def qgh {d:Nat} {op:Op} {ty:TypeId} {pos:String} {af:Array Edge} {g:Option (Nat × Bool)} {os:List Oper} {e:Env}:q6A (⟨some d,op,ty,pos,af,g⟩ :: os) 0 e=qbT (e d):=rfl
def qgj {l:List Oper} {e:Env} {j:Nat}:q30 l.toArray e j=q6A l j e:=by
 unfold q30;rw [List.getElem?_toArray]
 induction l generalizing j with
 | nil=>rfl
 | cons o os ih =>
  cases j with
  | zero =>
   simp only [List.getElem?_cons_zero,Option.bind_some,q6A];cases o.dst with
   | none=>rfl
   | some d=>simp only []; cases e d <;> rfl
  | succ j=>rw [List.getElem?_cons_succ]; exact ih
end
def i64_in {n:Int} (h1 : -9223372036854775808≤n) (h2:n≤9223372036854775807):IntKind.i64.wrap n=n:=IntWalk.i64_in n ⟨h1,h2⟩
def u64_in {n:Int} (h1:0≤n) (h2:n≤18446744073709551615):IntKind.u64.wrap n=n:=IntWalk.u64_in n ⟨h1,h2⟩
def u8_in {n:Int} (h1:0≤n) (h2:n≤255):IntKind.u8.wrap n=n:=IntWalk.u8_in n ⟨h1,h2⟩
def q0k (n:Int):IntKind.u64.wrap n=n % 18446744073709551616:=by simp [IntKind.wrap,IntKind.bits,IntKind.signed]
def q2V (n:Int):IntKind.u32.wrap n=n % 4294967296:=by simp [IntKind.wrap,IntKind.bits,IntKind.signed]
def qiA (n:Int):IntKind.i64.wrap n=(n+9223372036854775808) % 18446744073709551616-9223372036854775808:=IntKind.wrap_i64 n
attribute [go_sem] qpU qpL qpN qgF qgE qpT qur qpK qcZ qpS qpM qpO qpP qpQ qpR q9v q1x qbX qbW qqp qqq qjG idx_s idx_a len_s ext_0 ext_1 ext_2 ext_3 ld_1 ld_k rd_z qo6 rd_s qr6 sl_lo sl_lh
attribute [go_sem ↓] qlu qcw qlt qgr qqf qgp q33 qlw qgm qgq qls qbh q7r q7q qgn q7p qbg q9H qqe qqd qqc q5M qly q6c qlz qpg q78 qgj qgi qgh
attribute [go_sem ↓ high] qja
attribute [go_sem ↓] qee qcG
attribute [go_sem] qql qnD qnE qer qes qet qeu qiC qjR qtB qad qh1 qtQ qir qjn q2h env_z env_s qjS decide_true decide_false Bool.not_false Bool.not_true ite_true ite_false beq_self_eq_true List.map_cons List.map_nil Option.map_some Option.map_none Int.toNat_natCast Nat.mul_one and_self List.map_toArray List.toList_toArray
end Go.E
namespace Go.Sp
def B:Nat:=4294967296
def q1A:0 < B:=by decide
def q8s:1 < B:=by decide
def q4D (k:Nat):0 < B ^ k:=Nat.pow_pos q1A
def val:List Nat→Nat
 | []=>0
 | d :: l=>d+B*val l
def qhh:Nat→Nat→List Nat
 | 0,_=>[]
 | f+1,n=>if n=0 then [] else n % B :: qhh f (n / B)
def lim (n:Nat):List Nat:=qhh n n
def q0Y (l:List Nat):Prop:=∀ d ∈ l,d < B
def q7W {n:Nat} (h:n≠0):n / B < n:=Nat.div_lt_self Oq q8s
def q8U : ∀ (f g n : Nat), n ≤ f → n ≤ g → qhh f n = qhh g n
  | 0, 0, _, _, _ => rfl
  | 0, g + 1, n, h, _ => by have : n = 0 := by omega
                            subst this; simp [qhh]
  | f + 1, 0, n, _, h => by have : n = 0 := by omega
                            subst this; simp [qhh]
  | f + 1, g + 1, n, h1, h2 => by
    by_cases h : n = 0
    · subst h; simp [qhh]
    · simp only [qhh, if_neg h]
      have := q7W h
      rw [q8U f g (n / B) Oq (by omega)]
def q2E:lim 0=[]:=rfl
def q3P {n:Nat} (h:n≠0):lim n=n % B :: lim (n / B):=by
 obtain ⟨m,rfl⟩:∃ m,n=m+1:=⟨n-1,by omega⟩;unfold lim;simp only [qhh,if_neg h];have:=q7W h;rw [q8U m ((m+1) / B) ((m+1) / B) Oq (Nat.le_refl _)]
def q7L {P:Nat→Prop} (h0:P 0) (hs:∀ n,n≠0→P (n / B)→P n) (n:Nat):P n:=by
 induction n using Nat.strongRecOn with
 | _ n ih =>
  by_cases h:n=0
  ·subst h; exact h0
  ·exact hs n h (ih _ (q7W h))
def q0D (n:Nat):val (lim n)=n:=by
 induction n using q7L with
 | h0=>rfl
 | hs n h ih=>rw [q3P h,val,ih]; exact Nat.mod_add_div n B
def q0C (n:Nat):q0Y (lim n):=by
 induction n using q7L with
 | h0=>intro d h; cases h
 | hs n h ih =>
  rw [q3P h]; intro d hd
  rcases List.mem_cons.1 hd with rfl | hd
  ·exact Nat.mod_lt _ q1A
  ·exact ih d hd
def qcE {n:Nat} (h:n≠0):lim n≠[]:=by rw [q3P h]; simp
def q93 {n:Nat}:lim n=[] ↔ n=0:=by
 constructor
 ·intro h; by_cases h0:n=0
  ·exact h0
  ·exact absurd h (qcE h0)
 ·rintro rfl; rfl
def q0K {n:Nat}:0 < (lim n).length ↔ n≠0:=by
 constructor
 ·intro h h0; subst h0; simp [q2E] at h
 ·intro h; rw [q3P h]; simp
def q14 {l:List Nat} (h:q0Y l):val l < B ^ l.length:=by
 induction l with
 | nil=>simp [val]
 | cons d l ih =>
  have h1:=ih (fun x hx=>h x (List.mem_cons_of_mem _ hx));have h2:=h d (List.mem_cons_self);simp only [val,List.length_cons,Nat.pow_succ];have h3:B*val l+B≤B*B ^ l.length:=by
   rw [← Nat.mul_succ]; exact Nat.mul_le_mul_left _ h1
  rw [Nat.mul_comm (B ^ l.length)]; omega
def q4H (a b:List Nat):val (a ++ b)=val a+B ^ a.length*val b:=by
 induction a with
 | nil=>simp [val]
 | cons d a ih =>
  simp only [List.cons_append,val,ih,List.length_cons,Nat.pow_succ,Nat.mul_add];rw [Nat.mul_comm (B ^ a.length) B,Nat.mul_assoc]; omega
def q13 (n:Nat):val (List.replicate n 0)=0:=by
 induction n with
 | zero=>rfl
 | succ n ih=>simp [List.replicate_succ,val,ih]
def q0Y.nil:q0Y []:=fun _ h=>by cases h
def q0Y.take {l:List Nat} (h:q0Y l) (n:Nat):q0Y (l.take n):=fun d hd=>h d (List.mem_of_mem_take hd)
def q0Y.drop {l:List Nat} (h:q0Y l) (n:Nat):q0Y (l.drop n):=fun d hd=>h d (List.mem_of_mem_drop hd)
def q0Y.append {a b:List Nat} (h:q0Y a) (k:q0Y b):q0Y (a ++ b):=fun d hd=>by
 rcases List.mem_append.1 hd with hd | hd
 ·exact h d hd
 ·exact k d hd
def q0Y.one {d:Nat} (h:d < B):q0Y [d]:=fun x hx=>by simp at hx; subst hx; exact h
def q0Y.snoc {a:List Nat} {d:Nat} (h:q0Y a) (k:d < B):q0Y (a ++ [d]):=h.append (.one k)
def q0m {l:List Nat} {i:Nat} (h:i < l.length):l.getD i 0=l[i]:=(List.getElem_eq_getD 0).symm
def q0Y.get {l:List Nat} (h:q0Y l) (i:Nat):l.getD i 0 < B:=by
 rcases Nat.lt_or_ge i l.length with hi | hi
 ·rw [q0m hi]; exact h _ (List.getElem_mem hi)
 ·simp [List.getD,List.getElem?_eq_none hi,q1A]
def q0Y.set {l:List Nat} (h:q0Y l) (i d:Nat) (hd:d < B):q0Y (l.set i d):=fun x hx=>by
 rcases List.mem_or_eq_of_mem_set hx with hx | rfl
 ·exact h x hx
 ·exact hd
def q0Y.replicate (n:Nat):q0Y (List.replicate n 0):=fun d hd=>by
 rw [List.mem_replicate] at hd; rw [hd.2]; exact q1A
def qdK {α:Type} (l:List α) (i:Nat) (h:i < l.length):l.take (i+1)=l.take i ++ [l[i]]:=List.take_succ_eq_append_getElem h
def q2N (l:List Nat) (i:Nat) (h:i < l.length):l.take (i+1)=l.take i ++ [l.getD i 0]:=by
 rw [qdK l i h,q0m h]
def q5O (d:Nat):val [d]=d:=by simp [val]
def q2T (l:List Nat) (d:Nat):val (l ++ [d])=val l+B ^ l.length*d:=by rw [q4H,q5O]
def q1d (l:List Nat) (i:Nat) (h:i < l.length):val (l.take (i+1))=val (l.take i)+B ^ i*l.getD i 0:=by
 rw [q2N l i h,q2T,List.length_take,Nat.min_eq_left (by omega)]
def q0E (l:List Nat) (i:Nat) (h:l.length≤i):val (l.take i)=val l:=by rw [List.take_of_length_le h]
def q1D (l:List Nat) (i:Nat) (h:i≤l.length):val l=val (l.take i)+B ^ i*val (l.drop i):=by
 have:=q4H (l.take i) (l.drop i);rw [List.take_append_drop,List.length_take,Nat.min_eq_left h] at this;exact this
def q2W (l:List Nat) (i d:Nat):(l.set i d).take i=l.take i:=List.take_set_of_le (Nat.le_refl i)
def q3f {n : Nat} (h : n ≠ 0) : (lim n).getD ((lim n).length - 1) 0 ≠ 0 := by
  induction n using q7L with
  | h0 => exact absurd rfl h
  | hs n h ih =>
    rw [q3P h]
    by_cases h0 : n / B = 0
    · rw [h0, q2E]
      have : n < B := by rcases Nat.lt_or_ge n B with h1 | h1
                         · exact h1
                         · have := Nat.div_pos h1 q1A; omega
      simp [Nat.mod_eq_of_lt this, h]
    · have := ih h0
      have hp := q0K.2 h0
      simp only [List.length_cons, Nat.add_sub_cancel]
      obtain ⟨k, hk⟩ : ∃ k, (lim (n / B)).length = k + 1 := ⟨(lim (n / B)).length - 1, by omega⟩
      rw [hk] at this ⊢
      simpa using this
def q94 {d m:Nat} (hd:d < B) (h:d+B*m≠0):lim (d+B*m)=d :: lim m:=by
 rw [q3P h];rw [Nat.add_mul_mod_self_left,Nat.mod_eq_of_lt hd,Nat.add_mul_div_left _ _ q1A,Nat.div_eq_of_lt hd,Nat.zero_add]
def q2a:∀ {l:List Nat},l≠[]→l.getD (l.length-1) 0≠0→val l≠0
 | [],h,_=>absurd rfl h
 | [d],_,k=>by simpa [val] using k
 | d :: e :: l,_,k=>by
  have:=q2a (l:=e :: l) (by simp) (by simpa using k);have hB:=q1A;have:0 < B*val (e :: l):=Nat.mul_pos hB Oq;rw [val]; omega
def qe9:∀ {l:List Nat},q0Y l→(l=[]∨l.getD (l.length-1) 0≠0)→lim (val l)=l
 | [],_,_=>rfl
 | d :: l,h,k=>by
  have hd:=h d List.mem_cons_self;have hl:q0Y l:=fun x hx=>h x (List.mem_cons_of_mem _ hx);have k':(d :: l).getD ((d :: l).length-1) 0≠0:=k.resolve_left (by simp);have hv:=q2a (l:=d :: l) (by simp) k';rw [val] at hv ⊢;rw [q94 hd hv,qe9 hl];cases l with
  | nil=>exact .inl rfl
  | cons e l=>exact .inr (by simpa using k')
def q6h {l:List Nat} {n:Nat} (h:q0Y l) (hn:n≤l.length) (hz:∀ i,n≤i→i < l.length→l.getD i 0=0) (hl:n=0∨l.getD (n-1) 0≠0):l.take n=lim (val l):=by
 have hd:val (l.drop n)=0:=by
  have:l.drop n=List.replicate (l.length-n) 0:=by
   apply List.ext_getElem (by simp)
   intro i h1 h2;have:=hz (n+i) Oq (by simp at h1; omega);rw [q0m (by simp at h1; omega)] at this;simp [this]
  rw [this,q13]
 have hv:val l=val (l.take n):=by rw [q1D l n hn,hd]; simp
 rw [hv,qe9 (h.take n)]
 rcases hl with rfl | hl
 ·exact .inl (by simp)
 ·by_cases h0:n=0
  ·exact .inl (by simp [h0])
  ·refine .inr ?_;rw [List.length_take,Nat.min_eq_left hn];rw [q0m (by omega)] at hl;rw [q0m (by simp; omega)];simpa using hl
def q02 (n:Nat):n < B ^ (lim n).length:=by
 have:=q14 (q0C n); rwa [q0D] at this
def q2t {n:Nat} (h:n≠0):B ^ ((lim n).length-1)≤n:=by
 induction n using q7L with
 | h0=>exact absurd rfl h
 | hs n h ih =>
  rw [q3P h];simp only [List.length_cons,Nat.add_sub_cancel]
  by_cases h0:n / B=0
  ·rw [h0,q2E]; simp; omega
  ·have:=ih h0;have hp:=q0K.2 h0;obtain ⟨k,hk⟩:∃ k,(lim (n / B)).length=k+1:=⟨(lim (n / B)).length-1,by omega⟩;rw [hk] at this ⊢;simp only [Nat.add_sub_cancel] at this;rw [Nat.pow_succ];exact Nat.le_trans (Nat.mul_le_mul_right B this) (Nat.div_mul_le_self n B)
def q0j {n k:Nat} (h:n < B ^ k):(lim n).length≤k:=by
 by_cases h0:n=0
 ·subst h0; simp [q2E]
 ·have h1:=q2t h0;have h2:B ^ ((lim n).length-1) < B ^ k:=Nat.lt_of_le_of_lt h1 h;have:=(Nat.pow_lt_pow_iff_right q8s).1 h2;omega
def q0f {m n:Nat} (h:m≤n):(lim m).length≤(lim n).length:=q0j (Nat.lt_of_le_of_lt h (q02 n))
def q2D {m n:Nat} (h:(lim m).length < (lim n).length):m < n:=by
 rcases Nat.lt_or_ge m n with k | k
 ·exact k
 ·have:=q0f k; omega
def q34 {a b:List Nat} {i:Nat} (ha:q0Y a) (hl:a.length=b.length) (hi:i < a.length)
  (hs:a.drop (i+1)=b.drop (i+1)) (hlt:a.getD i 0 < b.getD i 0):val a < val b:=by
 rw [q1D a (i+1) Oq,q1D b (i+1) Oq,hs,q1d a i hi,q1d b i (by omega)];have h1:=q14 (ha.take i);rw [List.length_take,Nat.min_eq_left (by omega)] at h1;have h2:B ^ i*a.getD i 0+B ^ i≤B ^ i*b.getD i 0:=by rw [← Nat.mul_succ]; exact Nat.mul_le_mul_left _ hlt
 omega
end Go.Sp
namespace Go.E
open Go Go.RowKit
structure Kp (D:Nat→Prop) (w w':World):Prop where
 os:w'.os=w.os
 tape:w'.tape=w.tape
 output:w'.output=w.output
 size:w.heap.size≤w'.heap.size
 block:∀ k,k < w.heap.size→D k→w'.heap[k]?=w.heap[k]?
abbrev Ext (w w':World):Prop:=Kp (fun _=>True) w w'
def Ck {P:Program} {f:FuncId} {args:List Value} {v:Value} {w:World} {K:Value→World→Prop} (hc:q0G P f=true) (h:Calls P f args.toArray w fun e w'=>e=.returned v∧Ext w w') (k:∀ w',Ext w w'→K v w'):q8i P f args w K:=q7Z hc h fun x w' ⟨h1,h2⟩=>⟨v,h1,k w' h2⟩
def Fr (D:Nat→Prop) (w:World):Prop:=∀ k,w.heap.size≤k→D k
section
variable {D D':Nat→Prop} {w w' w'':World}
def Kp.refl (D:Nat→Prop) (w:World):Kp D w w:=⟨rfl,rfl,rfl,Nat.le_refl _,fun _ _ _=>rfl⟩
def Kp.trans (h:Kp D w w') (k:Kp D w' w''):Kp D w w'' :=
 ⟨k.os.trans h.os,k.tape.trans h.tape,k.output.trans h.output,Nat.le_trans h.size k.size,fun i hi hd=>(k.block i (Nat.lt_of_lt_of_le hi h.size) hd).trans (h.block i hi hd)⟩
def Kp.mono (h:Kp D w w') (hd:∀ k,k < w.heap.size→D' k→D k):Kp D' w w':=⟨h.os,h.tape,h.output,h.size,fun k hk hk'=>h.block k hk (hd k hk hk')⟩
def Kp.of_ext (h:Ext w w'):Kp D w w':=h.mono fun _ _ _=>trivial
def Kp.drew (w:World) (k:Nat):Kp D w { w with drawn:=k }:=⟨rfl,rfl,rfl,Nat.le_refl _,fun _ _ _=>rfl⟩
def Kp.alloc (w:World) (o:Obj):Kp D w (w.alloc o):=⟨rfl,rfl,rfl,by simp,fun k hk _=>Below.heap_alloc w o k hk⟩
def Kp.setCell (w:World) {p:Addr} (hp:p.block < w.heap.size→¬ D p.block) (v:Value):Kp D w (w.setCell p v) :=
 ⟨rfl,rfl,rfl,by simp [World.setCell],fun k hk hd=>Below.heap_setCell w p v k (fun e=>by subst e; exact hp hk hd)⟩
def Kp.pre (D:Nat→Prop):Pre (Kp D):=⟨Kp.refl D,fun h k=>h.trans k,fun w k=>Kp.drew w k⟩
def Kp.cell (h:Kp D w w') {p:Addr} {v:Value} (hd:D p.block) (hc:w.cell? p=some v):w'.cell? p=some v:=by
 have hlt:=World.block_lt_of_cell? w p hc;rw [← hc];exact World.cell?_of_block (h.block p.block hlt hd)
def Kp.below (h:Ext w w'):Below w.heap.size w w':=⟨h.os,h.tape,h.output,h.size,fun k hk=>h.block k hk trivial⟩
def Fr.kp (h:Fr D w) (k:Kp D' w w'):Fr D w':=fun i hi=>h i (Nat.le_trans k.size hi)
def Fr.triv (w:World):Fr (fun _=>True) w:=fun _ _=>trivial
def Dx (D:Nat→Prop) (a b:Nat):Nat→Prop:=fun k=>D k∧(k < a∨b≤k)
def Dx.sub {a b:Nat} {k:Nat} (h:Dx D a b k):D k:=h.1
def Dx.fr {a b:Nat} (h:Fr D w) (hb:b≤w.heap.size):Fr (Dx D a b) w:=fun k hk=>⟨h k hk,.inr (Nat.le_trans hb hk)⟩
def Dx.not {a b k:Nat} (h1:a≤k) (h2:k < b):¬ Dx D a b k:=fun h=>by rcases h.2 with h | h <;> omega
def Dx.lt {a b k:Nat} (h:D k) (hk:k < a):Dx D a b k:=⟨h,.inl hk⟩
def Blk (w:World) (g:Nat) (t:TypeId) (cs:Array Value):Prop:=w.heap[g]?=some (.cells cs t (0,0))
variable {g:Nat} {t:TypeId} {cs:Array Value}
def Blk.lt (h:Blk w g t cs):g < w.heap.size:=by
 rcases Nat.lt_or_ge g w.heap.size with hlt | hge
 ·exact hlt
 ·unfold Blk at h; rw [Array.getElem?_eq_none hge] at h; cases h
def Blk.cell (h:Blk w g t cs) (i:Nat):w.cell? ⟨g,i,none⟩=cs[i]?:=cell_of_row w g i cs t (0,0) h
def Blk.frozen (h:Blk w g t cs) (i:Nat):w.frozen? ⟨g,i,none⟩=false:=by unfold Blk at h; simp [World.frozen?,h]
def Blk.new (w:World) (t:TypeId) (cs:Array Value):Blk (w.alloc (.cells cs t)) w.heap.size t cs:=heap_alloc_new w _
def Blk.kp (h:Blk w g t cs) (hk:Kp D w w') (hd:D g):Blk w' g t cs:=(hk.block g h.lt hd).trans h
def Blk.ext (h:Blk w g t cs) (hk:Ext w w'):Blk w' g t cs:=(hk.block g h.lt trivial).trans h
def Blk.alloc (h:Blk w g t cs) (o:Obj):Blk (w.alloc o) g t cs:=(Below.heap_alloc w o g h.lt).trans h
def Blk.set (h:Blk w g t cs) (i:Nat) (u:Value):Blk (w.setCell ⟨g,i,none⟩ u) g t (cs.setIfInBounds i u):=by
 unfold Blk at h ⊢;simp [World.setCell,Array.getElem?_modify,h]
def q1C {b o i:Nat}:(⟨b,o,none⟩:Addr).add i=⟨b,o+i,none⟩:=by unfold Addr.add; split <;> simp_all
def q77 (a:Addr) (i j:Nat):(a.add i).add j=a.add (i+j):=by
 unfold Addr.add
 by_cases hi:i=0 <;> by_cases hj:j=0 <;> simp [hi,hj,Nat.add_assoc]
def q1H (a:Addr) (n:Nat):(a.add n).block=a.block:=by unfold Addr.add; split <;> rfl
def add_zero (a:Addr):a.add 0=a:=by simp [Addr.add]
def Blk.rd (h:Blk w g t cs):∀ (n i:Nat),i+n≤cs.size→q0s w ⟨g,0,none⟩ i n=some ((cs.toList.drop i).take n)
 | 0,i,_=>by simp [q0s]
 | n+1,i,hi=>by
  rw [rd_s,q1C,Nat.zero_add,h.cell,h.rd n (i+1) (by omega)];have hlt:i < cs.size:=by omega
  have hd:cs.toList.drop i=cs[i] :: cs.toList.drop (i+1):=by rw [List.drop_eq_getElem_cons (by simpa using hlt)]; simp
  rw [Array.getElem?_eq_getElem hlt,hd];simp [qo7]
def Blk.rdAll (h:Blk w g t cs) {n:Nat} (hn:cs.size=n):q0s w ⟨g,0,none⟩ 0 n=some cs.toList:=by
 rw [h.rd n 0 Oq,List.drop_zero,List.take_of_length_le (by simp [hn])]
def qkP {p:Addr}:∀ (vs:List Value) (i:Nat) (w:World),(p.block < w.heap.size→¬ D p.block)→Kp D w (stN w p i vs)
 | [],_,w,_=>Kp.refl D w
 | v :: vs,i,w,hp=>by
  have h1:Kp D w (w.setCell (p.add i) v):=Kp.setCell w (by rw [q1H]; exact hp) v;exact h1.trans (qkP vs (i+1) _ (by simpa [World.setCell] using hp))
def Blk.stOk (h:Blk w g t cs):∀ (vs:List Value) (i:Nat),i+vs.length≤cs.size→(∀ v ∈ vs,v.oneCell'=true)→stOk w ⟨g,0,none⟩ i vs
 | [],_,_,_=>trivial
 | v :: vs,i,hl,h1=>by
  have hlt:i < cs.size:=by simp at hl; omega
  refine ⟨?_,?_,h1 v List.mem_cons_self,h.stOk vs (i+1) (by simp at hl ⊢; omega) fun u hu=>h1 u (List.mem_cons_of_mem _ hu)⟩
  ·rw [q1C,Nat.zero_add,h.cell,Array.getElem?_eq_getElem hlt]; rfl
  ·rw [q1C,Nat.zero_add]; exact h.frozen i
def Blk.stN:∀ (vs:List Value) (i:Nat) (w:World) (cs:Array Value),Blk w g t cs→i+vs.length≤cs.size →
  ∃ cs',Blk (E.stN w ⟨g,0,none⟩ i vs) g t cs'∧cs'.size=cs.size∧(∀ j,j < i→cs'[j]?=cs[j]?)∧(∀ j,cs'[i+j]?=if j < vs.length then vs[j]? else cs[i+j]?)
 | [],i,w,cs,hb,_=>⟨cs,hb,rfl,fun _ _=>rfl,fun j=>by simp⟩
 | v :: vs,i,w,cs,hb,hl=>by
  have hs:=hb.set i v;have hlt:i < cs.size:=by simp at hl; omega
  obtain ⟨cs',h3,h4,h5,h6⟩:=Blk.stN vs (i+1) _ _ hs (by simp at hl ⊢; omega);refine ⟨cs',?_,?_,fun j hj=>?_,fun j=>?_⟩
  ·rw [E.stN,q1C,Nat.zero_add]; exact h3
  ·rw [h4]; simp
  ·rw [h5 j Oq,Array.getElem?_setIfInBounds]; simp [show i≠j by omega]
  ·cases j with
   | zero=>rw [h5 (i+0) Oq,Array.getElem?_setIfInBounds]; simp [hlt]
   | succ j =>
    have:=h6 j;rw [show i+1+j=i+(j+1) by omega] at this;rw [this,Array.getElem?_setIfInBounds];simp
def Blk.store (h:Blk w g t cs) {vs:List Value} (hl:vs.length=cs.size):Blk (E.stN w ⟨g,0,none⟩ 0 vs) g t vs.toArray:=by
 obtain ⟨cs',h3,h4,_,h6⟩:=Blk.stN vs 0 w cs h Oq;have:cs'=vs.toArray:=by
  apply Array.ext_getElem?
  intro j;have:=h6 j;rw [Nat.zero_add] at this;rw [this]
  split
  ·simp
  ·rename_i hj;rw [Array.getElem?_eq_none (by omega)];simp; omega
 rw [← this]; exact h3
end
structure Row (w:World) (D:Nat→Prop) (sz:Nat) (A:Option Addr) (n c:Nat) (xs:List Value):Prop where
 cap:n≤c
 len:xs.length=n*sz
 at_:0 < xs.length→∃ ad,A=some ad∧D ad.block∧∀ j u,xs[j]?=some u→w.cell? (ad.add j)=some u
section
variable {D D':Nat→Prop} {w w':World} {sz n c:Nat} {A:Option Addr} {xs:List Value}
def Row.nil (w:World) (D:Nat→Prop) (sz:Nat):Row w D sz none 0 0 []:=⟨Nat.le_refl _,by simp,fun h=>by simp at h⟩
def Row.kp (h:Row w D sz A n c xs) (hk:Kp D w w'):Row w' D sz A n c xs :=
 ⟨h.cap,h.len,fun hx=>by
  obtain ⟨ad,rfl,hd,hc⟩:=h.at_ hx;exact ⟨ad,rfl,hd,fun j u hu=>hk.cell (by rw [q1H]; exact hd) (hc j u hu)⟩⟩
def Row.sub (h:Row w D sz A n c xs) (hs:∀ k,k < w.heap.size→D k→D' k):Row w D' sz A n c xs :=
 ⟨h.cap,h.len,fun hx=>by
  obtain ⟨ad,rfl,hd,hc⟩:=h.at_ hx;refine ⟨ad,rfl,hs _ ?_ hd,hc⟩;have:=hc 0 xs[0] (List.getElem?_eq_getElem hx);have hlt:=World.block_lt_of_cell? w _ this
  rwa [q1H] at hlt⟩
def Row.lt (h:Row w D sz A n c xs):Row w (fun k=>D k∧k < w.heap.size) sz A n c xs:=h.sub fun _ hk hd=>⟨hd,hk⟩
def Row.take (h:Row w D sz A n c xs) {m:Nat} (hm:m≤n):Row w D sz A m c (xs.take (m*sz)) :=
 ⟨Nat.le_trans hm h.cap,by rw [List.length_take,h.len,Nat.min_eq_left (Nat.mul_le_mul_right _ hm)],fun hx=>by
  obtain ⟨ad,rfl,hd,hc⟩:=h.at_ (by rw [List.length_take] at hx; omega);refine ⟨ad,rfl,hd,fun j u hu=>hc j u ?_⟩;rw [List.getElem?_take] at hu
  split at hu
  ·exact hu
  ·cases hu⟩
def Row.drop (h:Row w D sz A n c xs) {m:Nat} (hm:m≤n):Row w D sz (if c=m then A else A.map (·.add (m*sz))) (n-m) (c-m) (xs.drop (m*sz)) :=
 ⟨Nat.sub_le_sub_right h.cap m,by rw [List.length_drop,h.len,Nat.sub_mul],fun hx=>by
  rw [List.length_drop,h.len] at hx;obtain ⟨ad,rfl,hd,hc⟩:=h.at_ (by rw [h.len]; omega);have hne:¬ c=m:=fun e=>by
   subst e;have hcn:n=c:=Nat.le_antisymm h.cap hm;subst hcn; omega
  rw [if_neg hne];refine ⟨ad.add (m*sz),rfl,by rw [q1H]; exact hd,fun j u hu=>?_⟩;rw [q77];exact hc _ u (by rw [← hu,List.getElem?_drop])⟩
def Row.get (h:Row w D sz A n c xs) {j:Nat} (hj:j < xs.length):∃ ad,A=some ad∧w.cell? (ad.add j)=some xs[j]:=by
 obtain ⟨ad,rfl,_,hc⟩:=h.at_ Oq;exact ⟨ad,rfl,hc j _ (List.getElem?_eq_getElem hj)⟩
end
attribute [go_sem] q1C Nat.zero_add
def q7D (o:Oper):Bool:=match o.op with
 | .move _ | .assign _ | .pick _ _ _ | .build _ _ | .load _ _ | .binOp _ _ _ _ _ | .unOp _ _ _ | .convert _ _ _ | .fieldAddr _ _ _ | .indexAddr _ _ _ | .extract _ _=>true
 | .slice _ _ _ _ none=>true
 | .call c=>match c.callee with | .builtin .len | .builtin .max | .builtin .min=>true | _=>false
 | _=>false
def qek (o:Oper):Bool:=match o.op with | .load _ _=>true | _=>false
section
variable {P:Program} {n:Nat} {R:World→World→Prop}
def qk0 {w w':World} (hx:Ext w w') {p:Addr}:∀ (k i:Nat) (l:List Value),q0s w p i k=some l→q0s w' p i k=some l
 | 0,_,_,h=>h
 | k+1,i,l,h=>by
  simp only [q0s] at h ⊢
  split at h
  ·rename_i v l' h1 h2;rw [hx.cell (D:=fun _=>True) trivial h1,qk0 hx k (i+1) l' h2];exact h
  ·cases h
def qsp {w w':World} (hx:Ext w w') {k:Option (Option Nat)} {a v:Value} (h:ldV w k a=some v):ldV w' k a=some v:=by
 unfold ldV at h ⊢
 split at h
 ·split at h
  ·exact hx.cell (D:=fun _=>True) trivial h
  ·rw [Option.map_eq_some_iff] at h;obtain ⟨l,h1,h2⟩:=h;rw [qk0 hx _ _ _ h1,← h2]; rfl
  ·cases h
 ·cases h
def qqb {o:Oper} (hp:q7D o=true) {e:Env} {w:World} {K:Value→World→Prop} (h:wo P o e w K) :
  ∃ v,K v w∧∀ (e2:Env) (w':World),(∀ x ∈ o.op.operands.toList,ev e2 x=ev e x)→(qek o=true→Ext w w')→∀ K':Value→World→Prop,K' v w'→wo P o e2 w' K':=by
 obtain ⟨d,op,ty,pos,af,g⟩:=o;cases op <;> (try (cases hp; done)) <;> simp only [wo] at h
 case move x=>exact ⟨_,h,fun e2 w' hop _ K' hk=>by simp only [wo]; rw [hop x (by simp [Op.operands])]; exact hk⟩
 case assign x=>exact ⟨_,h,fun e2 w' hop _ K' hk=>by simp only [wo]; rw [hop x (by simp [Op.operands])]; exact hk⟩
 case pick c a b =>
  split at h
  ·rename_i hc;exact ⟨_,h,fun e2 w' hop _ K' hk=>by simp only [wo]; rw [hop c (by simp [Op.operands]),hc,hop a (by simp [Op.operands])]; exact hk⟩
  ·rename_i hc;exact ⟨_,h,fun e2 w' hop _ K' hk=>by simp only [wo]; rw [hop c (by simp [Op.operands]),hc,hop b (by simp [Op.operands])]; exact hk⟩
  ·exact h.elim
 case build t ps =>
  obtain ⟨cs,h1,h2⟩:=q0R h;refine ⟨_,h2,fun e2 w' hop _ K' hk=>?_⟩;simp only [wo];have:(ps.map fun (i,x)=>(i,ev e2 x))=ps.map fun (i,x)=>(i,ev e x):=by
   apply Array.map_congr_left
   intro a ha;obtain ⟨i,x⟩:=a;simp only [Prod.mk.injEq,true_and];exact hop x (by simp only [Op.operands,List.mem_map]; exact ⟨(i,x),by simpa using ha,rfl⟩)
  rw [this,h1]; exact hk
 case load t a =>
  obtain ⟨v,h1,h2⟩:=q0R h;refine ⟨_,h2,fun e2 w' hop hx K' hk=>?_⟩;simp only [wo];rw [hop a (by simp [Op.operands]),qsp (hx rfl) h1]; exact hk
 case binOp op t x y t' =>
  obtain ⟨v,h1,h2⟩:=q0R h;refine ⟨_,h2,fun e2 w' hop hx K' hk=>?_⟩;simp only [wo];rw [hop x (by simp [Op.operands]),hop y (by simp [Op.operands]),h1]; exact hk
 case unOp op t x =>
  obtain ⟨v,h1,h2⟩:=q0R h;refine ⟨_,h2,fun e2 w' hop hx K' hk=>?_⟩;simp only [wo];rw [hop x (by simp [Op.operands]),h1]; exact hk
 case convert s t x =>
  obtain ⟨v,h1,h2⟩:=q0R h;refine ⟨_,h2,fun e2 w' hop hx K' hk=>?_⟩;simp only [wo];rw [hop x (by simp [Op.operands]),h1]; exact hk
 case fieldAddr t x f =>
  split at h
  ·rename_i p hp';obtain ⟨v,h1,h2⟩:=q0R h;refine ⟨_,h2,fun e2 w' hop hx K' hk=>?_⟩;simp only [wo];rw [hop x (by simp [Op.operands]),hp'];simp only [h1]; exact hk
  ·exact h.elim
 case indexAddr t x i =>
  obtain ⟨v,h1,h2⟩:=q0R h;refine ⟨_,h2,fun e2 w' hop hx K' hk=>?_⟩;simp only [wo];rw [hop x (by simp [Op.operands]),hop i (by simp [Op.operands]),h1]; exact hk
 case slice t x lo hi m =>
  cases m with
  | some m=>cases hp
  | none =>
   obtain ⟨v,h1,h2⟩:=q0R h;refine ⟨_,h2,fun e2 w' hop hx K' hk=>?_⟩;have hl:lo.map (ev e2)=lo.map (ev e):=by
    cases lo with
    | none=>rfl
    | some y=>simp only [Option.map_some]; rw [hop y (by simp [Op.operands])]
   have hh:hi.map (ev e2)=hi.map (ev e):=by
    cases hi with
    | none=>rfl
    | some y=>simp only [Option.map_some]; rw [hop y (by simp [Op.operands])]
   simp only [wo];rw [hop x (by simp [Op.operands]),hl,hh,h1]; exact hk
 case extract x i =>
  obtain ⟨v,h1,h2⟩:=q0R h;refine ⟨_,h2,fun e2 w' hop hx K' hk=>?_⟩;simp only [wo];rw [hop x (by simp [Op.operands]),h1]; exact hk
 case call c =>
  obtain ⟨ca,ar,ts⟩:=c;have hargs:∀ e2:Env,(∀ x ∈ (Op.call ⟨ca,ar,ts⟩).operands.toList,ev e2 x=ev e x)→ar.toList.map (ev e2)=ar.toList.map (ev e):=fun e2 hop=>by
   apply List.map_congr_left
   intro x hx;exact hop x (by simp only [Op.operands,Call.operands,Array.toList_append,List.mem_append]; exact .inr hx)
  cases ca with
  | builtin b =>
   cases b <;> (try (cases hp; done)) <;> simp only [] at h
   case len =>
    split at h
    ·rename_i x t hx ht;obtain ⟨v,h1,h2⟩:=q0R h;refine ⟨_,h2,fun e2 w' hop _ K' hk=>?_⟩;have:=hargs e2 hop;rw [hx] at this;simp only [wo,hx,ht];simp only [List.map_cons,List.map_nil,List.cons.injEq,and_true] at this;rw [this,h1]; exact hk
    ·exact h.elim
   case max =>
    obtain ⟨v,h1,h2⟩:=q0R h;refine ⟨_,h2,fun e2 w' hop _ K' hk=>?_⟩;simp only [wo];rw [hargs e2 hop,h1]; exact hk
   case min =>
    obtain ⟨v,h1,h2⟩:=q0R h;refine ⟨_,h2,fun e2 w' hop _ K' hk=>?_⟩;simp only [wo];rw [hargs e2 hop,h1]; exact hk
  | _=>cases hp
def qhg {ops:Array Oper} {o:Oper} {e e2:Env} (h:∀ t,looks ops o t=true→e2 t=e t):∀ x ∈ o.op.operands.toList,ev e2 x=ev e x:=by
 intro x hx;cases x with
 | tmp t =>
  refine h t ?_;unfold looks Oper.looksAt;rw [List.any_eq_true];exact ⟨t,List.mem_append_left _ (List.mem_filterMap.2 ⟨_,hx,rfl⟩),by simp⟩
 | const v=>rfl
 | global v=>rfl
 | func v=>rfl
def q6P {ops:Array Oper} {o:Oper} {e e2:Env} (h:∀ t,looks ops o t=true→e2 t=e t):q5u ops e2 o=q5u ops e o:=by
 unfold q5u;cases hg:o.guard with
 | none=>rfl
 | some g =>
  obtain ⟨j,b⟩:=g;simp only;unfold q30;cases hd:(ops[j]?).bind (·.dst) with
  | none=>rfl
  | some d =>
   have:e2 d=e d:=h d (by
    unfold looks Oper.looksAt;rw [List.any_eq_true];exact ⟨d,List.mem_append_right _ (by rw [hg]; simp only [hd]; simp),by simp⟩)
   simp only [this]
def qqg {ops:Array Oper} {o:Oper} (hp:q7D o=true) {e:Env} {w:World} {K:Value→World→Prop} (h:wg P ops o e w K) :
  ∃ v,K v w∧∀ (e2:Env) (w':World),(∀ t,looks ops o t=true→e2 t=e t)→(qek o=true→Ext w w')→∀ K':Value→World→Prop,K' v w'→wg P ops o e2 w' K':=by
 unfold wg at h
 split at h
 ·rename_i hw;obtain ⟨v,h1,h2⟩:=qqb hp h;refine ⟨v,h1,fun e2 w' hl hx K' hk=>?_⟩;unfold wg;rw [q6P hl,if_pos hw];exact h2 e2 w' (qhg hl) hx K' hk
 ·rename_i hw;refine ⟨_,h,fun e2 w' hl hx K' hk=>?_⟩;unfold wg;rw [q6P hl,if_neg hw];exact hk
def WLm (P:Program) (ops:Array Oper) (K:Env→Prop):List Bool→List Oper→Env→World→Prop
 | true :: m,o :: os,e,w=>wg P ops o e w fun v _=>WLm P ops K m os (put e o.dst v) w
 | false :: m,_ :: os,e,w=>WLm P ops K m os e w
 | _,_,e,_=>K e
def qhl:List Bool→List Oper→Nat→Bool
 | false :: m,o :: os,t=>wrO t o || qhl m os t
 | true :: m,_ :: os,t=>qhl m os t
 | _,_,_=>false
def qvh (P:Program) (ops:List Oper) (R:World→World→Prop) (mask:List Bool) (l:List (Nat × q4B R)) (es:Env) (w:World) (o:Oper):Prop :=
 ∀ e' w',R w w'→(∀ t,dep ops.toArray o t=true→qhl mask ops t=true→(look l t).1 (e' t) w')→(∀ t,looks ops.toArray o t=true→qhl mask ops t=false→e' t=es t) →
  wg P ops.toArray o e' w' fun v w''=>R w' w''∧∀ d,o.dst=some d→(look l d).1 v w''
def qgT (P:Program) (ops:List Oper) (R:World→World→Prop) (mask:List Bool) (l:List (Nat × q4B R)) (es:Env) (w:World):List Oper→Prop
 | []=>True
 | o :: rest=>qvh P ops R mask l es w o∧qgT P ops R mask l es w rest
def qgT.get {ops:List Oper} {mask:List Bool} {l:List (Nat × q4B R)} {es:Env} {w:World}:∀ {os:List Oper},qgT P ops R mask l es w os→∀ o ∈ os,qvh P ops R mask l es w o:=by
 intro os
 induction os with
 | nil=>intro _ o ho; cases ho
 | cons a rest ih =>
  intro h x hx
  rcases List.mem_cons.1 hx with hx | hx
  ·rw [hx]; exact h.1
  ·exact ih h.2 x hx
def q6Z.of {ops:Array Oper} {l:List (Nat × q4B R)} {e:Env} {w:World}:∀ {os:List Oper},(∀ o ∈ os,qb4 P ops R l e w o)→q6Z P ops R l e w os
 | [],_=>trivial
 | o :: os,h=>⟨h o List.mem_cons_self,q6Z.of fun p hp=>h p (List.mem_cons_of_mem _ hp)⟩
def qvi (P:Program) (ops:Array Oper) (R:World→World→Prop) (l:List (Nat × q4B R)) (e:Env) (w:World) (o:Oper):Prop :=
 ∀ e' w',R w w'→(∀ t,dep ops o t=true→(look l t).1 (e' t) w')→(∀ t,looks ops o t=true→dep ops o t=false→e' t=e t) →
  wg P ops o e' w' fun v w''=>R w' w''∧∀ d,o.dst=some d→(look l d).1 v w''
def qvi.ok {ops:Array Oper} {l:List (Nat × q4B R)} {e:Env} {w:World} {o:Oper} (h:qvi P ops R l e w o):qb4 P ops R l e w o:=fun e' w' a b c=>q25 (h e' w' a b c)
end
section
variable {P:Program} {ops:Array Oper} {K:Env→Prop} {e:Env} {w:World} {d:Option Nat} {o:Oper} {os:List Oper} {m:List Bool}
def WLm_t:WLm P ops K (true :: m) (o :: os) e w=wg P ops o e w fun v _=>WLm P ops K m os (put e o.dst v) w:=rfl
def WLm_f:WLm P ops K (false :: m) (o :: os) e w=WLm P ops K m os e w:=rfl
def WLm_n:WLm P ops K [] [] e w=K e:=rfl
@[congr] theorem qvf {e':Env} (h:e=e'):WLm P ops K m os e w=WLm P ops K m os e' w:=by rw [h]
attribute [go_sem ↓] WLm_t WLm_f WLm_n
attribute [irreducible] WLm
end
inductive Anc (ops:Array Oper):Nat→Nat→Prop
 | base {i j:Nat} {o:Oper} (h:ops[i]?=some o) (he:q2F o j=true):Anc ops i j
 | step {i k j:Nat} {o:Oper} (h:ops[i]?=some o) (he:q2F o k=true) (ha:Anc ops k j):Anc ops i j
def qkf (ms:List Nat) (o:Oper):Nat:=o.after.toList.foldl (fun a e=>if Region.binds .any e then a ||| 2 ^ e.on ||| ms.getD e.on 0 else a) 0
def qha:List Oper→List Nat→List Nat
 | [],ms=>ms
 | o :: os,ms=>qha os (ms ++ [qkf ms o])
def qav {ms:List Nat} {j:Nat}:∀ (es:List Edge) (a:Nat),(es.foldl (fun a e=>if Region.binds .any e then a ||| 2 ^ e.on ||| ms.getD e.on 0 else a) a).testBit j=true →
  a.testBit j=true∨∃ e ∈ es,Region.binds .any e=true∧(e.on=j∨(ms.getD e.on 0).testBit j=true)
 | [],a,h=>.inl h
 | e :: es,a,h=>by
  rw [List.foldl_cons] at h
  rcases qav es _ h with h | ⟨x,hx,hb,hc⟩
  ·split at h
   ·rename_i hb;rw [Nat.testBit_or,Nat.testBit_or,Bool.or_eq_true,Bool.or_eq_true] at h
    rcases h with (h | h) | h
    ·exact .inl h
    ·rw [Nat.testBit_two_pow] at h;exact .inr ⟨e,List.mem_cons_self,hb,.inl (by simpa using h)⟩
    ·exact .inr ⟨e,List.mem_cons_self,hb,.inr h⟩
   ·exact .inl h
  ·exact .inr ⟨x,List.mem_cons_of_mem _ hx,hb,hc⟩
def q55 {ops:List Oper}:∀ (rest:List Oper) (ms:List Nat) (pre:List Oper),ops=pre ++ rest→ms.length=pre.length→(∀ i j,(ms.getD i 0).testBit j=true→Anc ops.toArray i j) →
  ∀ i j,((qha rest ms).getD i 0).testBit j=true→Anc ops.toArray i j
 | [],ms,_,_,_,h=>h
 | o :: os,ms,pre,he,hl,h=>by
  refine q55 os (ms ++ [qkf ms o]) (pre ++ [o]) (by rw [he]; simp) (by simp [hl]) fun i j hb=>?_
  rcases Nat.lt_trichotomy i ms.length with hi | hi | hi
  ·rw [List.getD_eq_getElem?_getD,List.getElem?_append_left hi,← List.getD_eq_getElem?_getD] at hb;exact h i j hb
  ·subst hi;have ho:ops.toArray[ms.length]?=some o:=by rw [List.getElem?_toArray,he,hl]; simp
   rw [List.getD_eq_getElem?_getD,List.getElem?_append_right (Nat.le_refl _)] at hb;simp only [Nat.sub_self,List.getElem?_cons_zero,Option.getD_some] at hb
   rcases qav _ _ hb with hb | ⟨x,hx,hbd,hc⟩
   ·simp at hb
   ·have hed:q2F o x.on=true:=qcR.2 ⟨x,Array.mem_toList_iff.1 hx,hbd,rfl⟩
    rcases hc with rfl | hc
    ·exact .base ho hed
    ·exact .step ho hed (h _ _ hc)
  ·rw [List.getD_eq_getElem?_getD,List.getElem?_eq_none (by simp; omega)] at hb;simp at hb
section
variable {P:Program} {n:Nat} {R:World→World→Prop}
def q8M {ops:Array Oper} {listed:Array Bool} {i:Nat} (hi:i ∈ Region.ready .any ops listed):∃ hlt:i < ops.size,listed.getD i true=false∧∀ x ∈ ops[i].after,Region.binds .any x=true→listed.getD x.on false=true:=by
 unfold Region.ready at hi;rw [List.mem_filter] at hi;obtain ⟨hir,hrd⟩:=hi;have hlt:=List.mem_range.1 hir;have hio:ops[i]?=some ops[i]:=Array.getElem?_eq_getElem hlt;simp only [hio,Option.map_some,Option.getD_some,Bool.and_eq_true] at hrd;obtain ⟨hnl,haf⟩:=hrd;rw [Array.all_eq_true'] at haf;exact ⟨hlt,by simpa using hnl,fun x hx hb=>by have:=haf x hx; simpa [hb] using this⟩
end
def qcD (ops:List Oper) (o:Oper) (j:Nat):Bool:=match (ops[j]?).bind (·.dst) with | some d=>looks ops.toArray o d | none=>false
def q57:List Bool→Nat→Nat→Nat
 | [],_,a=>a
 | b :: m,i,a=>q57 m (i+1) (if b then a else a ||| 2 ^ i)
def dcOk (ops:List Oper) (mask:List Bool):Bool :=
 Nat.beq mask.length ops.length && qbH ops.toArray && (List.range ops.length).all fun i=>match ops[i]? with
  | none=>true
  | some o=>if mask.getD i false then q7D o && (List.range ops.length).all fun j=>mask.getD j true || !qcD ops o j || (match ops[j]? with | some p=>q2F p i | none=>false)
   else ((List.range ops.length).all fun j=>!(mask.getD j false) || !qcD ops o j || q2F o j) && Nat.beq (((qha ops []).getD i 0) &&& q57 (mask.take i) 0 0) (q57 (mask.take i) 0 0)
def q6S {j:Nat}:∀ (m:List Bool) (i a:Nat),a.testBit j=true→(q57 m i a).testBit j=true
 | [],_,_,h=>h
 | b :: m,i,a,h=>by
  unfold q57;refine q6S m (i+1) _ ?_
  split
  ·exact h
  ·rw [Nat.testBit_or,h,Bool.true_or]
def q56 {j:Nat}:∀ (m:List Bool) (i a:Nat),i≤j→m[j-i]?=some false→(q57 m i a).testBit j=true
 | [],_,_,_,h=>by simp at h
 | b :: m,i,a,hij,h=>by
  unfold q57
  by_cases he:j=i
  ·subst he;simp at h; subst h;refine q6S m _ _ ?_;simp [Nat.testBit_or,Nat.testBit_two_pow_self]
  ·refine q56 m (i+1) _ Oq ?_;rw [show j-i=(j-(i+1))+1 by omega] at h;simpa using h
def qtt (mask mask2:List Bool):List Bool:=(mask.zip mask2).map fun b=>!(b.1 && !b.2)
def qcx (ops:List Oper) (i:Nat) (m:List Bool):Bool:=Nat.beq (((qha ops []).getD i 0) &&& q57 m 0 0) (q57 m 0 0)
def pmOk (ops:List Oper) (mask mask2:List Bool) (pm:List Nat):Bool:=Nat.beq pm.length ops.length && Nat.beq mask2.length ops.length && (List.range ops.length).all fun i=>match ops[i]? with
 | none=>true
 | some o=>(match pm.getD i 0 with | 0=>true | 1=>q7D o || qcx ops i (mask.map fun b=>!b) | _=>qcx ops i (qtt mask mask2)) &&
  (!(mask2.getD i false) || (mask.getD i false && (List.range ops.length).all fun j=>mask2.getD j false || !(mask.getD j false) || !qcD ops o j))
def q6B {ops:List Oper} {i j:Nat} {m:List Bool} (h:qcx ops i m=true) (hj:m[j]?=some false):Anc ops.toArray i j:=by
 have h5:=Nat.eq_of_beq_eq_true h;have h6:(q57 m 0 0).testBit j=true:=q56 _ 0 0 (Nat.zero_le _) (by rw [Nat.sub_zero]; exact hj);rw [← h5,Nat.testBit_and,Bool.and_eq_true] at h6;exact q55 ops [] [] rfl rfl (fun i j h=>by simp at h) i j h6.1
structure PmOk (ops:List Oper) (mask mask2:List Bool) (pm:List Nat):Prop where
 len:pm.length=ops.length
 one:∀ (i:Nat) (o:Oper),ops[i]?=some o→pm.getD i 0=1→q7D o=true∨∀ j:Nat,mask[j]?=some true→Anc ops.toArray i j
 two:∀ (i:Nat) (o:Oper) (k:Nat),ops[i]?=some o→pm.getD i 0=k+2→∀ j:Nat,mask[j]?=some true→mask2[j]?=some false→Anc ops.toArray i j
 sub:∀ (i:Nat),i < ops.length→mask2[i]?=some true→mask[i]?=some true
 own:∀ (i j:Nat) (o p:Oper) (d:Nat),ops[i]?=some o→ops[j]?=some p→mask2[i]?=some true→mask[j]?=some true→mask2[j]?=some false→p.dst=some d→looks ops.toArray o d=false
 len2:mask2.length=ops.length
def PmOk.of {ops:List Oper} {mask mask2:List Bool} {pm:List Nat} (h:pmOk ops mask mask2 pm=true) (hml:mask.length=ops.length):PmOk ops mask mask2 pm:=by
 unfold pmOk at h;rw [Bool.and_eq_true,Bool.and_eq_true,List.all_eq_true] at h;obtain ⟨⟨h1,h2⟩,h3⟩:=h;have hl2:=Nat.eq_of_beq_eq_true h2;have h4:∀ i o,ops[i]?=some o→_:=fun i o ho=>h3 i (List.mem_range.2 (List.getElem?_eq_some_iff.1 ho).1);have hmk:∀ i,i < ops.length→mask2[i]?=some true→mask[i]?=some true:=fun i hi hm=>by
  obtain ⟨o,ho⟩:∃ o,ops[i]?=some o:=⟨_,List.getElem?_eq_getElem hi⟩;have:=h4 i o ho;simp only [ho,Bool.and_eq_true] at this;have:=this.2;rw [show mask2.getD i false=true by simp [List.getD,hm],Bool.not_true,Bool.false_or,Bool.and_eq_true] at this;have hl:i < mask.length:=by omega
  rw [List.getElem?_eq_getElem hl];have h5:=this.1;rw [List.getD_eq_getElem?_getD,List.getElem?_eq_getElem hl] at h5;simpa using h5
 refine ⟨Nat.eq_of_beq_eq_true h1,fun i o ho hp=>?_,fun i o k ho hp j hj hj2=>?_,hmk,fun i j o p d ho hp hm hm1 hm2 hd=>?_,hl2⟩
 ·have:=h4 i o ho;simp only [ho,hp,Bool.and_eq_true,Bool.or_eq_true] at this
  rcases this.1 with h | h
  ·exact .inl h
  ·exact .inr fun j hj=>q6B h (by rw [List.getElem?_map,hj]; rfl)
 ·have:=h4 i o ho;simp only [ho,hp,Bool.and_eq_true] at this;refine q6B this.1 ?_;unfold qtt;have hz:(mask.zip mask2)[j]?=some (true,false):=List.getElem?_zip_eq_some.2 ⟨hj,hj2⟩;rw [List.getElem?_map,hz]; rfl
 ·have:=h4 i o ho;simp only [ho,Bool.and_eq_true] at this;have:=this.2;rw [show mask2.getD i false=true by simp [List.getD,hm],Bool.not_true,Bool.false_or,Bool.and_eq_true,List.all_eq_true] at this;have:=this.2 j (List.mem_range.2 (List.getElem?_eq_some_iff.1 hp).1);rw [show mask2.getD j false=false by simp [List.getD,hm2],show mask.getD j false=true by simp [List.getD,hm1]] at this;unfold qcD at this;simpa [hp,hd] using this
structure DcOk (ops:List Oper) (mask:List Bool):Prop where
 len:mask.length=ops.length
 draw:qbH ops.toArray=true
 pure:∀ (i:Nat) (o:Oper),ops[i]?=some o→mask[i]?=some true→q7D o=true
 early:∀ (i j:Nat) (o p:Oper) (d:Nat),ops[i]?=some o→ops[j]?=some p→mask[i]?=some true→mask[j]?=some false→p.dst=some d→looks ops.toArray o d=true→q2F p i=true
 late:∀ (i j:Nat) (o p:Oper) (d:Nat),ops[i]?=some o→ops[j]?=some p→mask[i]?=some false→mask[j]?=some true→p.dst=some d→looks ops.toArray o d=true→q2F o j=true
 ord:∀ (i j:Nat),i < ops.length→mask[i]?=some false→mask[j]?=some false→j < i→Anc ops.toArray i j
def DcOk.of {ops:List Oper} {mask:List Bool} (h:dcOk ops mask=true):DcOk ops mask:=by
 unfold dcOk at h;rw [Bool.and_eq_true,Bool.and_eq_true] at h;obtain ⟨⟨h1,h2⟩,h3⟩:=h;have hlen:=Nat.eq_of_beq_eq_true h1;rw [List.all_eq_true] at h3;have h4:∀ i o,ops[i]?=some o→_:=fun i o ho=>h3 i (List.mem_range.2 (List.getElem?_eq_some_iff.1 ho).1);refine ⟨hlen,h2,fun i o ho hm=>?_,fun i j o p d ho hp hm hm' hd hl=>?_,fun i j o p d ho hp hm hm' hd hl=>?_,fun i j hi hm hm' hji=>?_⟩
 ·have:=h4 i o ho;simp only [ho] at this;rw [if_pos (by simp [List.getD,hm]),Bool.and_eq_true] at this;exact this.1
 ·have:=h4 i o ho;simp only [ho] at this;rw [if_pos (by simp [List.getD,hm]),Bool.and_eq_true,List.all_eq_true] at this;have:=this.2 j (List.mem_range.2 (List.getElem?_eq_some_iff.1 hp).1);rw [show mask.getD j true=false by simp [List.getD,hm'],Bool.false_or] at this;unfold qcD at this;simpa [hp,hd,hl] using this
 ·have:=h4 i o ho;simp only [ho] at this;rw [if_neg (by simp [List.getD,hm]),Bool.and_eq_true,List.all_eq_true] at this;have:=this.1 j (List.mem_range.2 (List.getElem?_eq_some_iff.1 hp).1);rw [show mask.getD j false=true by simp [List.getD,hm']] at this;unfold qcD at this;simpa [hp,hd,hl] using this
 ·obtain ⟨o,ho⟩:∃ o,ops[i]?=some o:=⟨_,List.getElem?_eq_getElem hi⟩;have:=h4 i o ho;simp only [ho] at this;rw [if_neg (by simp [List.getD,hm]),Bool.and_eq_true] at this;have h5:=Nat.eq_of_beq_eq_true this.2;have h6:(q57 (mask.take i) 0 0).testBit j=true:=q56 _ 0 0 (Nat.zero_le _) (by rw [Nat.sub_zero,List.getElem?_take,if_pos hji]; exact hm');rw [← h5,Nat.testBit_and,Bool.and_eq_true] at h6;exact q55 ops [] [] rfl rfl (fun i j h=>by simp at h) i j h6.1
section
variable {P:Program} {n:Nat} {R:World→World→Prop}
def WLc (P:Program) (ops:Array Oper) (R R2:World→Prop) (K:Env→World→Prop):List (Nat × Oper)→Env→World→Prop
 | [],e,w=>K e w
 | (0,o) :: rest,e,w=>wg P ops o e w fun v w'=>R w'∧WLc P ops R R2 K rest (put e o.dst v) w'
 | (1,o) :: rest,e,w=>wg P ops o e w fun v w'=>WLc P ops R R2 K rest (put e o.dst v) w'
 | (_+2,o) :: rest,e,w=>wg P ops o e w fun v w'=>R2 w'∧WLc P ops R R2 K rest (put e o.dst v) w'
end
section
variable {P:Program} {ops:Array Oper} {R R2:World→Prop} {K:Env→World→Prop} {e:Env} {w:World} {o:Oper} {os:List Oper} {m:List Bool} {b:Nat} {pm:List Nat} {l:List (Nat × Oper)}
def qph:WLc P ops R R2 K [] e w=K e w:=rfl
def WLc_0:WLc P ops R R2 K ((0,o) :: l) e w=wg P ops o e w fun v w'=>R w'∧WLc P ops R R2 K l (put e o.dst v) w':=rfl
def WLc_1:WLc P ops R R2 K ((1,o) :: l) e w=wg P ops o e w fun v w'=>WLc P ops R R2 K l (put e o.dst v) w':=rfl
def WLc_2:WLc P ops R R2 K ((2,o) :: l) e w=wg P ops o e w fun v w'=>R2 w'∧WLc P ops R R2 K l (put e o.dst v) w':=rfl
@[congr] theorem qvg {e':Env} (h:e=e'):WLc P ops R R2 K l e w=WLc P ops R R2 K l e' w:=by rw [h]
attribute [go_sem ↓] qph WLc_0 WLc_1 WLc_2
attribute [irreducible] WLc
end
section
variable {P:Program} {n:Nat} {R:World→World→Prop}
def qk3 {f:Env} {x:Option Nat} {v:Value} {t:Nat} (h0:x≠some t):put f x v t=f t:=by
 cases hx:x with
 | none=>rfl
 | some d' =>
  have:t≠d':=fun h=>h0 (by rw [hx,h]);simp [put,upd,this]
end
inductive Sch where
 | fin:Sch
 | one:Nat→Sch→Sch
 | alt:Sch→Sch→Sch
def q7P:Sch→List Nat
 | .fin=>[]
 | .one i _=>[i]
 | .alt s t=>q7P s ++ q7P t
def qcC:List Oper→Nat→Oper
 | o :: _,0=>o
 | _ :: l,i+1=>qcC l i
 | [], _ => ⟨none, .move (.const undef), 0, "", #[], none⟩
def qk8 {o:Oper} {l:List Oper}:qcC (o :: l) 0=o:=rfl
def qs3 {o:Oper} {l:List Oper} {i:Nat}:qcC (o :: l) (i+1)=qcC l i:=rfl
def q90:∀ {l:List Oper} {i:Nat} {o:Oper},l[i]?=some o→qcC l i=o
 | o :: _,0,_,h=>by rw [qk8]; simpa using h
 | _ :: l,i+1,_,h=>q90 (l:=l) (by simpa using h)
 | [],i,_,h=>by simp at h
def qus:List Nat→List Nat→Bool
 | [],[]=>true
 | a :: l,b :: m=>Nat.beq a b && qus l m
 | _,_=>false
def q9w:∀ {l m:List Nat},qus l m=true→l=m
 | [],[],_=>rfl
 | a :: l,b :: m,h=>by
  simp only [qus,Bool.and_eq_true] at h;rw [Nat.eq_of_beq_eq_true h.1,q9w h.2]
 | [],_ :: _,h=>by cases h
 | _ :: _,[],h=>by cases h
def qfQ (ops:List Oper) (l:Array Bool) (i:Nat):Bool :=
 q7D (qcC ops i) && !qek (qcC ops i) && Region.free .any ops.toArray l i && (Region.ready .any ops.toArray l).any (Nat.beq i)
def q5W (ops:List Oper):Sch→Bool→Nat→Array Bool→Bool
 | .fin,b,_,l=>!b && (Region.ready .any ops.toArray l).isEmpty
 | .one i s,b,f+1,l=>(b || qfQ ops l i || qus (Region.ready .any ops.toArray l) [i]) && q5W ops s false f (l.setIfInBounds i true)
 | .one _ _,_,0,_=>false
 | .alt s t,b,f,l=>(b || qus (Region.ready .any ops.toArray l) (q7P s ++ q7P t)) && !(q7P s).isEmpty && !(Nat.beq f 0) && q5W ops s true f l && q5W ops t true f l
def WS (P:Program) (ops:List Oper) (K:Env→World→Prop):Sch→Env→World→Prop
 | .fin,e,w=>K e w
 | .one i s,e,w=>wg P ops.toArray (qcC ops i) e w fun v w'=>WS P ops K s (put e (qcC ops i).dst v) w'
 | .alt s t,e,w=>WS P ops K s e w∧WS P ops K t e w
section
variable {P:Program} {n:Nat}
def qvc {ops:List Oper} {K:Env→World→Prop} {e:Env} {w:World} {i:Nat} {s:Sch}:WS P ops K (.one i s) e w=wg P ops.toArray (qcC ops i) e w fun v w'=>WS P ops K s (put e (qcC ops i).dst v) w':=rfl
def qvd {ops:List Oper} {K:Env→World→Prop} {e:Env} {w:World} {s t:Sch}:WS P ops K (.alt s t) e w=(WS P ops K s e w∧WS P ops K t e w):=rfl
@[congr] theorem WS_congr {ops:List Oper} {K:Env→World→Prop} {e e':Env} {w:World} {s:Sch} (h:e=e'):WS P ops K s e w=WS P ops K s e' w:=by rw [h]
def q3y {r:Result Value} {x:Next} {w':World} (h:r.andThen (fun a w=>.ok (.value a) w)=.ok x w'):∃ v,x=.value v:=by
 cases r with
 | ok a w=>simp only [Result.andThen_ok] at h; cases h; exact ⟨_,rfl⟩
 | halt=>cases h
def qdg {o:Oper} (hp:q7D o=true) {ρ:Operand→Value} {w:World} {x:Next} {w':World} (h:(execOp ρ o).run P w=.ok x w'):∃ v,x=.value v:=by
 obtain ⟨d,op,ty,pos,af,g⟩:=o;cases op <;> (try (cases hp; done)) <;> simp only [execOp,Sem.run_bind,Sem.run_pure] at h
 case move=>cases h; exact ⟨_,rfl⟩
 case assign=>cases h; exact ⟨_,rfl⟩
 case pick c a b =>
  cases hr:(asBool (ρ c)).run P w with
  | ok b w1 =>
   rw [hr] at h;cases b <;> (simp only [Result.andThen_ok] at h; cases h; exact ⟨_,rfl⟩)
  | halt=>rw [hr] at h; cases h
 case call c =>
  unfold q7D at hp;simp only at hp;cases hc:c.callee with
  | builtin b =>
   rw [hc] at hp;simp only [resolve,hc,Sem.run_pure,Result.andThen_ok,invoke] at h;cases b <;> (try (cases hp; done)) <;> simp only [builtin,Sem.run_bind,Sem.run_pure] at h <;> exact q3y h
  | invoke=>rw [hc] at hp; cases hp
  | value f=>rw [hc] at hp; cases hp
 all_goals exact q3y h
def q6u {ops:Array Oper} {l:Array Bool} {i:Nat} (h:i ∈ Region.ready .any ops l):i < ops.size:=(q8M h).1
def qmc {ops:List Oper} {Q:Exit→Act→World→Prop} {K:Env→World→Prop} {e0:Env} (hs:Region.noSelect ops.toArray=true) (hd:ops.all (q8c n)=true)
  (hQp:∀ c a a' w,Q (.panic c) a w→Q (.panic c) a' w)
  (hQ:∀ a e' w',Rel n a e'→(∀ t,q59 ops.toArray t=false→e' t=e0 t)→K e' w'→Q .normal a w') :
  ∀ (s:Sch) (b:Bool) (f:Nat) (l:Array Bool) (a:Act) (e:Env) (w:World),q5W ops s b f l=true→Rel n a e→(∀ t,q59 ops.toArray t=false→e t=e0 t)→WS P ops K s e w →
   (b=false→wpAny P .any ops.toArray Q f l a w)∧(b=true→∀ i ∈ q7P s,(∃ o,ops[i]?=some o)→∀ f',f=f'+1→wpOp P ops.toArray Q i (wpAny P .any ops.toArray Q f' (l.setIfInBounds i true)) a w):=by
 intro s;have hdo:∀ (i:Nat) (o:Oper),ops[i]?=some o→∀ {a:Act} {e:Env} (v:Value),Rel n a e→Rel n (a.put o.dst v) (put e o.dst v):=fun i o ho a e v hr=>by
  have h1:q8c n o=true:=by rw [List.all_eq_true] at hd; exact hd _ (List.mem_of_getElem? ho)
  exact hr.put _ v (by unfold q8c at h1; cases hx:o.dst <;> simp_all)
 have hold:∀ (i:Nat) (o:Oper),ops[i]?=some o→∀ {e:Env} (v:Value),(∀ t,q59 ops.toArray t=false→e t=e0 t)→∀ t,q59 ops.toArray t=false→put e o.dst v t=e0 t:=fun i o ho e v h t ht=>by
  rw [qk3 (q58 ht i o (by simpa using ho))]; exact h t ht
 have hop:∀ (i:Nat) (o:Oper),ops[i]?=some o→∀ {a:Act} {e:Env} {w:World} {Kv:Value→World→Prop} {K':Act→World→Prop},Rel n a e→wg P ops.toArray o e w Kv→(∀ v w',Kv v w'→K' (a.put o.dst v) w')→wpOp P ops.toArray Q i K' a w:=fun i o ho a e w Kv K' hr h hk=>by
  have h1:=q25 h;unfold wpOp;have hio2:ops.toArray[i]?=some o:=by simpa using ho
  simp only [hio2];rw [q6d hr (by simpa using hd)];unfold WG at h1
  split
  ·rename_i hw;rw [if_pos hw] at h1;exact .inl (q6a hr h1 hk)
  ·rename_i hw;rw [if_neg hw] at h1;exact hk _ _ h1
 induction s with
 | fin =>
  intro b f l a e w hok hr hold0 h;simp only [q5W,Bool.and_eq_true,List.isEmpty_iff,Bool.not_eq_true'] at hok;exact ⟨fun _=>wpAny_done hok.2 (hQ a e w hr hold0 h) f,fun hb=>by rw [hb] at hok; cases hok.1⟩
 | one i s ih =>
  intro b f l a e w hok hr hold0 h;cases f with
  | zero=>cases b <;> simp [q5W] at hok
  | succ f =>
   simp only [q5W,Bool.and_eq_true] at hok;obtain ⟨hok1,hok2⟩:=hok;rw [qvc] at h;have step:∀ o,ops[i]?=some o→wpOp P ops.toArray Q i (wpAny P .any ops.toArray Q f (l.setIfInBounds i true)) a w:=fun o ho=>by
    rw [q90 ho] at h;exact hop i o ho hr h fun v w' hv=>(ih false f _ _ _ _ hok2 (hdo i o ho v hr) (hold i o ho v hold0) hv).1 rfl
   refine ⟨fun hb=>?_,fun hb j hj ⟨o,ho⟩ f' hf=>?_⟩
   ·subst hb;rw [Bool.false_or,Bool.or_eq_true] at hok1
    rcases hok1 with hf | hf
    ·unfold qfQ at hf;rw [Bool.and_eq_true,Bool.and_eq_true,Bool.and_eq_true] at hf;obtain ⟨⟨⟨h1,h2⟩,h3⟩,h4⟩:=hf;rw [List.any_eq_true] at h4;obtain ⟨j,hj,hji⟩:=h4;obtain rfl:i=j:=Nat.eq_of_beq_eq_true hji;have hlt:i < ops.length:=by simpa using q6u hj
     have ho:ops[i]?=some ops[i]:=List.getElem?_eq_getElem hlt;generalize ops[i]=o at ho;rw [q90 ho] at h h1 h2;obtain ⟨v,hv,hev⟩:=qqg h1 h;have hio2:ops.toArray[i]?=some o:=by simpa using ho
     have hstep:∀ w2,WG P ops.toArray o e w2 fun v' w3=>v'=v∧w3=w2:=fun w2=>q25 (hev e w2 (fun _ _=>rfl) (fun hl=>by rw [hl] at h2; cases h2) _ ⟨rfl,rfl⟩);have hy:Yields P ops.toArray o v a:=by
      unfold Yields;rw [q6d hr (by simpa using hd)];cases hw:q5u ops.toArray e o with
      | true =>
       refine .inl ⟨rfl,fun w2=>?_⟩;have h5:=hstep w2;unfold WG at h5;rw [if_pos hw] at h5;unfold WO at h5;rw [hr.eval];cases hx:(execOp (ev e) o).run P w2 with
       | ok x w3 =>
        obtain ⟨v3,rfl⟩:=qdg h1 hx;rw [hx] at h5;simp only [RO] at h5;rw [h5.1,h5.2]
       | halt=>rw [hx] at h5; exact h5.elim
      | false =>
       refine .inr ⟨rfl,?_⟩;have h5:=hstep w;unfold WG at h5;rw [if_neg (by rw [hw]; simp)] at h5;exact h5.1.symm
     refine wpAny_take hio2 hs h3 (by simpa using hj) (fun c a' w' hq=>hQp c _ _ w' hq) hy ?_;exact (ih false f _ _ _ _ hok2 (hdo i o ho v hr) (hold i o ho v hold0) hv).1 rfl
    ·have hrd:=q9w hf;refine wpAny_all hrd (by simp) fun j hj=>?_;simp only [List.mem_singleton] at hj;subst hj;have hlt:j < ops.length:=by simpa using q6u (show j ∈ Region.ready .any ops.toArray l by rw [hrd]; simp)
     exact step _ (List.getElem?_eq_getElem hlt)
   ·simp only [q7P,List.mem_singleton] at hj;subst hj;obtain rfl:f=f':=by omega
    exact step o ho
 | alt s t ihs iht =>
  intro b f l a e w hok hr hold0 h;simp only [q5W,Bool.and_eq_true] at hok;obtain ⟨⟨⟨⟨hok1,hok2⟩,hok3⟩,hok4⟩,hok5⟩:=hok;rw [qvd] at h;have hs1:=(ihs true f l a e w hok4 hr hold0 h.1).2 rfl;have ht1:=(iht true f l a e w hok5 hr hold0 h.2).2 rfl;have key:∀ i ∈ q7P s ++ q7P t,(∃ o,ops[i]?=some o)→∀ f',f=f'+1→wpOp P ops.toArray Q i (wpAny P .any ops.toArray Q f' (l.setIfInBounds i true)) a w:=fun i hi ho f' hf=>by
   rcases List.mem_append.1 hi with hi | hi
   ·exact hs1 i hi ho f' hf
   ·exact ht1 i hi ho f' hf
  refine ⟨fun hb=>?_,fun _=>key⟩;subst hb;rw [Bool.false_or] at hok1;have hrd:=q9w hok1;cases f with
  | zero=>simp at hok3
  | succ f =>
   refine wpAny_all hrd (by intro hn; rw [List.append_eq_nil_iff] at hn; rw [hn.1] at hok2; simp at hok2) fun j hj=>?_;have hlt:j < ops.length:=by simpa using q6u (show j ∈ Region.ready .any ops.toArray l by rw [hrd]; exact hj)
   exact key j hj ⟨_,List.getElem?_eq_getElem hlt⟩ f rfl
def W_dA {id:Nat} {ops:List Oper} {Q:Exit→Env→World→Prop} {e:Env} {w:World} (hm:P.follows .mixedOrders=true) (s:Sch) (hok:(Region.noSelect ops.toArray && q5W ops s false ops.length (Array.replicate ops.length false))=true)
  (h:∀ (K:Env→World→Prop) (w1:World),(∀ e w,Q .normal e w→K e w)→Ext w w1→WS P ops K s e w1):W P n (.region id ops.toArray true) Q e w:=by
 rw [Bool.and_eq_true] at hok;intro hd a hr;have hd':ops.all (q8c n)=true:=hd;refine wp_mono (Q:=fun x a' w'=>x=.normal∧qjb n (.region id ops.toArray true) e Q .normal a' w') (wp_region_any hm ?_) fun x a' w' hq=>by rw [hq.1]; exact hq.2
 have:=(qmc (n:=n) (P:=P) (e0:=e) (K:=Q .normal) (Q:=fun x a' w'=>x=.normal∧qjb n (.region id ops.toArray true) e Q .normal a' w') hok.1 hd' (fun c a a' w hq=>by cases hq.1) (fun a' e' w' r' h2 h3=>⟨rfl,e',r',h2,h3⟩) s false ops.length (Array.replicate ops.length false) a e { w with drawn:=w.drawn+1 } hok.2 hr (fun _ _=>rfl) (h _ _ (fun _ _ h=>h) (Kp.drew w _))).1 rfl;simpa using this
end
def Own (w:World) (B:Nat) (E sz:Nat) (A:Option Addr) (n c:Nat) (xs:List Value):Prop:=w.ownsRow B E sz (.slice A n c) n xs
def nb (A:Option Addr) (k:Nat):Prop:=∀ a,A=some a→a.block≠k
section
variable {w w':World} {B E sz n c:Nat} {A:Option Addr} {xs:List Value} {D D':Nat→Prop}
def Own.nil (w:World) (B E sz:Nat):Own w B E sz none 0 0 []:=World.ownsRow_nil w B E sz
def Own.form (h:Own w B E sz A n c xs):(A=none∧n=0∧c=0∧xs=[])∨∃ g cur,A=some ⟨g,0,none⟩∧B≤g∧Blk w g E cur∧n≤c∧c≤maxLen∧cur.size=c*sz∧cur.toList.take (n*sz)=xs:=by
 obtain ⟨h1,h2⟩:=h
 rcases h2 with ⟨h2,h3⟩ | ⟨g,cap,cur,hv,hb,hg,hn,hc,hs,ht⟩
 ·injection h2 with a b c
  subst h3;exact .inl ⟨a,rfl,c,List.eq_nil_of_length_eq_zero (by simpa using h1)⟩
 ·injection hv with a b c'
  subst c';exact .inr ⟨g,cur,a,hb,hg,hn,hc,hs,ht⟩
def Own.len (h:Own w B E sz A n c xs):xs.length=n*sz:=h.1
def Own.cap (h:Own w B E sz A n c xs):n≤c:=by
 rcases h.form with ⟨_,rfl,_,_⟩ | ⟨_,_,_,_,_,hn,_⟩ <;> omega
def Own.not_lt (h:Own w B E sz A n c xs) {k:Nat} (hk:k < B):nb A k:=by
 intro a ha
 rcases h.form with ⟨h0,_⟩ | ⟨g,_,h0,hb,_⟩
 ·rw [h0] at ha; cases ha
 ·rw [h0] at ha; obtain rfl:=Option.some.inj ha; simp only; omega
def Own.kp (h:Own w B E sz A n c xs) (hk:Kp D w w') (hd:∀ a,A=some a→D a.block):Own w' B E sz A n c xs:=by
 refine ⟨h.1,?_⟩
 rcases h.2 with h2 | ⟨g,cap,cur,hv,hb,hg,rest⟩
 ·exact .inl h2
 ·have hv':=hv
  injection hv with a _ _
  exact .inr ⟨g,cap,cur,hv',hb,Blk.kp hg hk (hd _ a),rest⟩
def Own.ext (h:Own w B E sz A n c xs) (hk:Ext w w'):Own w' B E sz A n c xs:=h.kp hk fun _ _=>trivial
def Own.mono (h:Own w B E sz A n c xs) {B':Nat} (hb:B'≤B):Own w B' E sz A n c xs:=by
 refine ⟨h.1,?_⟩
 rcases h.2 with h2 | ⟨g,cap,cur,hv,hb',rest⟩
 ·exact .inl h2
 ·exact .inr ⟨g,cap,cur,hv,Nat.le_trans hb hb',rest⟩
def Kp.under {w1 w2:World} (hx:Ext w w1) (hk:Kp D w1 w2) (ho:∀ k,k < w.heap.size→D k):Ext w w2 :=
 ⟨hk.os.trans hx.os,hk.tape.trans hx.tape,hk.output.trans hx.output,Nat.le_trans hx.size hk.size,fun k hk1 _=>(hk.block k (Nat.lt_of_lt_of_le hk1 hx.size) (ho k hk1)).trans (hx.block k hk1 trivial)⟩
def Own.under {w1 w2:World} (h:Own w1 w.heap.size E sz A n c xs) (hx:Ext w w1) (hk:Kp (nb A) w1 w2):Ext w w2:=hx.under hk fun _ hk=>h.not_lt hk
def Own.row (h:Own w B E sz A n c xs):Row w (fun k=>B≤k) sz A n c xs:=by
 refine ⟨h.cap,h.len,fun hx=>?_⟩
 rcases h.form with ⟨_,_,_,rfl⟩ | ⟨g,cur,rfl,hb,hg,hn,_,hs,ht⟩
 ·simp at hx
 ·refine ⟨_,rfl,hb,fun j u hu=>?_⟩;rw [q1C,Nat.zero_add,hg.cell];rw [← ht,List.getElem?_take] at hu
  split at hu
  ·simpa using hu
  ·cases hu
def Own.cell (h:Own w B E sz A n c xs) {j:Nat} (hj:j < xs.length):∃ g,A=some ⟨g,0,none⟩∧B≤g∧w.cell? ⟨g,j,none⟩=some xs[j]∧w.frozen? ⟨g,j,none⟩=false:=by
 rcases h.form with ⟨_,_,_,rfl⟩ | ⟨g,cur,rfl,hb,hg,hn,_,hs,ht⟩
 ·simp at hj
 ·refine ⟨g,rfl,hb,?_,hg.frozen j⟩;rw [hg.cell];have:xs[j]?=some xs[j]:=List.getElem?_eq_getElem hj;rw [← this];subst ht;rw [List.getElem?_take];simp only [List.length_take] at hj;rw [if_pos (by omega)]; simp
def Own.set {g:Nat} (h:Own w B E sz (some ⟨g,0,none⟩) n c xs) (j:Nat) (u:Value):Own (w.setCell ⟨g,j,none⟩ u) B E sz (some ⟨g,0,none⟩) n c (xs.set j u):=(World.ownsRow.stored h j u).1
end
section
variable {P:Program} {w:World} {K:Value→World→Prop}
end
end Go.E
namespace Go.Proofs.YtpbaikoblfcmdaaGreatDoor
open Go Go.E
set_option maxRecDepth 100000
def agg3:q09 Tryz.prog 3=some none:=by kernel_rfl
def agg4:q09 Tryz.prog 4=some none:=by kernel_rfl
def agg5:q09 Tryz.prog 5=some none:=by kernel_rfl
def agg23:q09 Tryz.prog 23=some none:=by kernel_rfl
def agg24:q09 Tryz.prog 24=some none:=by kernel_rfl
def agg25:q09 Tryz.prog 25=some none:=by kernel_rfl
def agg27:q09 Tryz.prog 27=some (some 5):=by kernel_rfl
def agg31:q09 Tryz.prog 31=some (some 3):=by kernel_rfl
def agg33:q09 Tryz.prog 33=some none:=by kernel_rfl
def agg37:q09 Tryz.prog 37=some (some 4):=by kernel_rfl
def agg39:q09 Tryz.prog 39=some none:=by kernel_rfl
def agg44:q09 Tryz.prog 44=some none:=by kernel_rfl
def agg46:q09 Tryz.prog 46=some (some 2):=by kernel_rfl
def agg48:q09 Tryz.prog 48=some (some 4):=by kernel_rfl
def agg52:q09 Tryz.prog 52=some none:=by kernel_rfl
def agg58:q09 Tryz.prog 58=some (some 2):=by kernel_rfl
def agg69:q09 Tryz.prog 69=some none:=by kernel_rfl
def agg99:q09 Tryz.prog 99=some (some 8):=by kernel_rfl
def qv4:q09 Tryz.prog 150=some none:=by kernel_rfl
def qv3:q09 Tryz.prog 168=some none:=by kernel_rfl
def qv2:q09 Tryz.prog 191=some none:=by kernel_rfl
def qv1:q09 Tryz.prog 193=some (some 5):=by kernel_rfl
def qv0:q09 Tryz.prog 199=some none:=by kernel_rfl
def qvZ:q09 Tryz.prog 213=some (some 5):=by kernel_rfl
def qoM:q0V Tryz.prog 27 0=some 0:=by kernel_rfl
def qoL:q0V Tryz.prog 27 1=some 1:=by kernel_rfl
def qoK:q0V Tryz.prog 27 2=some 2:=by kernel_rfl
def qoJ:q0V Tryz.prog 27 3=some 3:=by kernel_rfl
def qoI:q0V Tryz.prog 27 4=some 4:=by kernel_rfl
def qoH:q0V Tryz.prog 31 0=some 0:=by kernel_rfl
def qoG:q0V Tryz.prog 31 1=some 1:=by kernel_rfl
def qoF:q0V Tryz.prog 31 2=some 2:=by kernel_rfl
def qoE:q0V Tryz.prog 37 0=some 0:=by kernel_rfl
def qoD:q0V Tryz.prog 37 1=some 3:=by kernel_rfl
def qoC:q0V Tryz.prog 46 0=some 0:=by kernel_rfl
def qoB:q0V Tryz.prog 46 1=some 1:=by kernel_rfl
def qoA:q0V Tryz.prog 48 0=some 0:=by kernel_rfl
def qnz:q0V Tryz.prog 48 1=some 1:=by kernel_rfl
def qny:q0V Tryz.prog 48 2=some 3:=by kernel_rfl
def qnx:q0V Tryz.prog 58 0=some 0:=by kernel_rfl
def qnw:q0V Tryz.prog 58 1=some 1:=by kernel_rfl
def qnv:q0V Tryz.prog 99 0=some 0:=by kernel_rfl
def qnu:q0V Tryz.prog 99 1=some 1:=by kernel_rfl
def qnt:q0V Tryz.prog 99 2=some 2:=by kernel_rfl
def qns:q0V Tryz.prog 99 3=some 3:=by kernel_rfl
def qnr:q0V Tryz.prog 99 4=some 4:=by kernel_rfl
def qnq:q0V Tryz.prog 99 5=some 5:=by kernel_rfl
def qnp:q0V Tryz.prog 99 6=some 6:=by kernel_rfl
def qno:q0V Tryz.prog 99 7=some 7:=by kernel_rfl
def qii:q0V Tryz.prog 193 0=some 0:=by kernel_rfl
def qih:q0V Tryz.prog 193 1=some 1:=by kernel_rfl
def qig:q0V Tryz.prog 193 2=some 2:=by kernel_rfl
def qif:q0V Tryz.prog 193 3=some 3:=by kernel_rfl
def qie:q0V Tryz.prog 193 4=some 4:=by kernel_rfl
def qid:q0V Tryz.prog 213 0=some 0:=by kernel_rfl
def qic:q0V Tryz.prog 213 1=some 1:=by kernel_rfl
def qib:q0V Tryz.prog 213 2=some 3:=by kernel_rfl
def qia:q0V Tryz.prog 213 3=some 4:=by kernel_rfl
def qi9:q0V Tryz.prog 272 0=some 0:=by kernel_rfl
def qi8:q0V Tryz.prog 272 1=some 1:=by kernel_rfl
def esz22:q0d Tryz.prog 22=some 1:=by kernel_rfl
def esz24:q0d Tryz.prog 24=some 1:=by kernel_rfl
def esz25:q0d Tryz.prog 25=some 1:=by kernel_rfl
def esz39:q0d Tryz.prog 39=some 4:=by kernel_rfl
def esz44:q0d Tryz.prog 44=some 1:=by kernel_rfl
def esz52:q0d Tryz.prog 52=some 2:=by kernel_rfl
def esz69:q0d Tryz.prog 69=some 1:=by kernel_rfl
def qtU:q0d Tryz.prog 150=some 1:=by kernel_rfl
def qtT:q0d Tryz.prog 168=some 1:=by kernel_rfl
def qtS:q0d Tryz.prog 191=some 1:=by kernel_rfl
def qtR:q0d Tryz.prog 268=some 2:=by kernel_rfl
def elm22:q0a Tryz.prog 22=some (23,1,8,#[.int .u64 0]):=by kernel_rfl
def elm24:q0a Tryz.prog 24=some (3,1,8,#[.int .i64 0]):=by kernel_rfl
def elm25:q0a Tryz.prog 25=some (33,1,8,#[.int .u64 0]):=by kernel_rfl
def elm39:q0a Tryz.prog 39=some (48,4,48,#[.bool false,.bool false,.slice none 0 0,.int .i64 0]):=by kernel_rfl
def elm44:q0a Tryz.prog 44=some (199,1,4,#[.int .u32 0]):=by kernel_rfl
def elm52:q0a Tryz.prog 52=some (58,2,16,#[.int .u64 0,.int .u64 0]):=by kernel_rfl
def elm69:q0a Tryz.prog 69=some (4,1,1,#[.bool false]):=by kernel_rfl
def qt0:q0a Tryz.prog 150=some (39,1,24,#[.slice none 0 0]):=by kernel_rfl
def qtZ:q0a Tryz.prog 168=some (25,1,24,#[.slice none 0 0]):=by kernel_rfl
def qtY:q0a Tryz.prog 191=some (69,1,24,#[.slice none 0 0]):=by kernel_rfl
def qtX:q0a Tryz.prog 268=some (272,2,16,#[.int .u64 0,.int .u64 0]):=by kernel_rfl
def zer3:q12 Tryz.prog 3=some #[.int .i64 0]:=by kernel_rfl
def zer27:q12 Tryz.prog 27=some #[.int .i64 0,.int .i64 0,.slice none 0 0,.slice none 0 0,.slice none 0 0]:=by kernel_rfl
def zer31:q12 Tryz.prog 31=some #[.int .i64 0,.int .i64 0,.slice none 0 0]:=by kernel_rfl
def zer37:q12 Tryz.prog 37=some #[.int .i64 0,.int .i64 0,.slice none 0 0,.slice none 0 0]:=by kernel_rfl
def zer46:q12 Tryz.prog 46=some #[.bool false,.slice none 0 0]:=by kernel_rfl
def zer48:q12 Tryz.prog 48=some #[.bool false,.bool false,.slice none 0 0,.int .i64 0]:=by kernel_rfl
def zer58:q12 Tryz.prog 58=some #[.int .u64 0,.int .u64 0]:=by kernel_rfl
def zer99:q12 Tryz.prog 99=some #[.slice none 0 0,.slice none 0 0,.slice none 0 0,.slice none 0 0,.slice none 0 0,.slice none 0 0,.slice none 0 0,.slice none 0 0]:=by kernel_rfl
def qq6:q12 Tryz.prog 193=some #[.slice none 0 0,.slice none 0 0,.slice none 0 0,.slice none 0 0,.slice none 0 0]:=by kernel_rfl
def qq5:q12 Tryz.prog 213=some #[.bool false,.bool false,.slice none 0 0,.int .i64 0,.bool false]:=by kernel_rfl
def qq4:q12 Tryz.prog 272=some #[.int .u64 0,.int .u64 0]:=by kernel_rfl
def qq3:q12 Tryz.prog 349=some #[.int .u8 0,.int .u8 0,.int .u8 0,.int .u8 0,.int .u8 0,.int .u8 0,.int .u8 0,.int .u8 0,.int .u8 0,.int .u8 0,.int .u8 0,.int .u8 0,.int .u8 0,.int .u8 0,.int .u8 0,.int .u8 0,.int .u8 0,.int .u8 0,.int .u8 0,.int .u8 0,.int .u8 0,.int .u8 0,.int .u8 0,.int .u8 0,.int .u8 0,.int .u8 0,.int .u8 0,.int .u8 0,.int .u8 0,.int .u8 0,.int .u8 0,.int .u8 0]:=by kernel_rfl
def siz3:q0Z Tryz.prog 3=some 1:=by kernel_rfl
def siz4:q0Z Tryz.prog 4=some 1:=by kernel_rfl
def siz24:q0Z Tryz.prog 24=some 1:=by kernel_rfl
def siz25:q0Z Tryz.prog 25=some 1:=by kernel_rfl
def siz27:q0Z Tryz.prog 27=some 5:=by kernel_rfl
def siz31:q0Z Tryz.prog 31=some 3:=by kernel_rfl
def siz33:q0Z Tryz.prog 33=some 1:=by kernel_rfl
def siz37:q0Z Tryz.prog 37=some 4:=by kernel_rfl
def siz39:q0Z Tryz.prog 39=some 1:=by kernel_rfl
def siz46:q0Z Tryz.prog 46=some 2:=by kernel_rfl
def siz48:q0Z Tryz.prog 48=some 4:=by kernel_rfl
def siz58:q0Z Tryz.prog 58=some 2:=by kernel_rfl
def siz99:q0Z Tryz.prog 99=some 8:=by kernel_rfl
def qre:q0Z Tryz.prog 150=some 1:=by kernel_rfl
def qrd:q0Z Tryz.prog 168=some 1:=by kernel_rfl
def qrc:q0Z Tryz.prog 191=some 1:=by kernel_rfl
def qrb:q0Z Tryz.prog 193=some 5:=by kernel_rfl
def qra:q0Z Tryz.prog 199=some 1:=by kernel_rfl
def qr9:q0Z Tryz.prog 213=some 5:=by kernel_rfl
def qr8:q0Z Tryz.prog 272=some 2:=by kernel_rfl
def qr7:q0Z Tryz.prog 349=some 32:=by kernel_rfl
def qqF:Tryz.prog.underlying 3=some (.int .i64):=by kernel_rfl
def und4:Tryz.prog.underlying 4=some .bool:=by kernel_rfl
def beq4 {x y:Bool}:q0w Tryz.prog .eql 4 (.bool x) (.bool y)=some (.bool (x == y)):=qbX und4
def bne4 {x y:Bool}:q0w Tryz.prog .neq 4 (.bool x) (.bool y)=some (.bool (x != y)):=qbW und4
def und5:Tryz.prog.underlying 5=some (.int .u8):=by kernel_rfl
def qmD:Tryz.prog.underlying 23=some (.int .u64):=by kernel_rfl
def und33:Tryz.prog.underlying 33=some (.int .u64):=by kernel_rfl
def und40:Tryz.prog.underlying 40=some (.int .i64):=by kernel_rfl
def qqn:Tryz.prog.underlying 44=some (.slice 199):=by kernel_rfl
def nil44 {A:Option Addr} {n c n2 c2:Nat}:q0w Tryz.prog .eql 44 (.slice A n c) (.slice none n2 c2)=some (.bool A.isNone):=qgG qqn
def qs4 {A:Option Addr} {n c n2 c2:Nat}:q0w Tryz.prog .neq 44 (.slice A n c) (.slice none n2 c2)=some (.bool A.isSome):=qjU qqn
def und83:Tryz.prog.underlying 83=some (.int .u64):=by kernel_rfl
def qqo:Tryz.prog.underlying 199=some (.int .u32):=by kernel_rfl
def qup  : Tryz.prog.built 27 []=some #[.int .i64 0,.int .i64 0,.slice none 0 0,.slice none 0 0,.slice none 0 0]:=by kernel_rfl
def q9t {x0:Int} {x1:Int} {x2A:Option Addr} {x2n x2c:Nat}:Tryz.prog.built 27 [(0,(.int .i64 x0)),(1,(.int .i64 x1)),(2,(.slice x2A x2n x2c))]=some #[.int .i64 x0,.int .i64 x1,.slice x2A x2n x2c,.slice none 0 0,.slice none 0 0]:=by kernel_rfl
def q71 {x0:Int} {x1:Int} {x2A:Option Addr} {x2n x2c:Nat} {x3A:Option Addr} {x3n x3c:Nat}:Tryz.prog.built 27 [(0,(.int .i64 x0)),(1,(.int .i64 x1)),(2,(.slice x2A x2n x2c)),(3,(.slice x3A x3n x3c))]=some #[.int .i64 x0,.int .i64 x1,.slice x2A x2n x2c,.slice x3A x3n x3c,.slice none 0 0]:=by kernel_rfl
def q5k {x0:Int} {x1:Int} {x2A:Option Addr} {x2n x2c:Nat} {x3A:Option Addr} {x3n x3c:Nat} {x4A:Option Addr} {x4n x4c:Nat}:Tryz.prog.built 27 [(0,(.int .i64 x0)),(1,(.int .i64 x1)),(2,(.slice x2A x2n x2c)),(3,(.slice x3A x3n x3c)),(4,(.slice x4A x4n x4c))]=some #[.int .i64 x0,.int .i64 x1,.slice x2A x2n x2c,.slice x3A x3n x3c,.slice x4A x4n x4c]:=by kernel_rfl
def qun  : Tryz.prog.built 31 []=some #[.int .i64 0,.int .i64 0,.slice none 0 0]:=by kernel_rfl
def qgC {x0:Int} {x1:Int}:Tryz.prog.built 31 [(0,(.int .i64 x0)),(1,(.int .i64 x1))]=some #[.int .i64 x0,.int .i64 x1,.slice none 0 0]:=by kernel_rfl
def q9s {x0:Int} {x1:Int} {x2A:Option Addr} {x2n x2c:Nat}:Tryz.prog.built 31 [(0,(.int .i64 x0)),(1,(.int .i64 x1)),(2,(.slice x2A x2n x2c))]=some #[.int .i64 x0,.int .i64 x1,.slice x2A x2n x2c]:=by kernel_rfl
def qum  : Tryz.prog.built 37 []=some #[.int .i64 0,.int .i64 0,.slice none 0 0,.slice none 0 0]:=by kernel_rfl
def qgB {x00:Int} {x01:Int} {x02A:Option Addr} {x02n x02c:Nat} {x1A:Option Addr} {x1n x1c:Nat}:Tryz.prog.built 37 [(0,.agg #[.int .i64 x00,.int .i64 x01,.slice x02A x02n x02c]),(1,(.slice x1A x1n x1c))]=some #[.int .i64 x00,.int .i64 x01,.slice x02A x02n x02c,.slice x1A x1n x1c]:=by kernel_rfl
def qul  : Tryz.prog.built 46 []=some #[.bool false,.slice none 0 0]:=by kernel_rfl
def qgA {x0:Bool} {x1A:Option Addr} {x1n x1c:Nat}:Tryz.prog.built 46 [(0,(.bool x0)),(1,(.slice x1A x1n x1c))]=some #[.bool x0,.slice x1A x1n x1c]:=by kernel_rfl
def quk  : Tryz.prog.built 48 []=some #[.bool false,.bool false,.slice none 0 0,.int .i64 0]:=by kernel_rfl
def qpI {x0:Bool}:Tryz.prog.built 48 [(0,(.bool x0))]=some #[.bool x0,.bool false,.slice none 0 0,.int .i64 0]:=by kernel_rfl
def qfz {x10:Bool} {x11A:Option Addr} {x11n x11c:Nat} {x2:Int}:Tryz.prog.built 48 [(1,.agg #[.bool x10,.slice x11A x11n x11c]),(2,(.int .i64 x2))]=some #[.bool false,.bool x10,.slice x11A x11n x11c,.int .i64 x2]:=by kernel_rfl
def quj  : Tryz.prog.built 58 []=some #[.int .u64 0,.int .u64 0]:=by kernel_rfl
def qfy {x0:Int} {x1:Int}:Tryz.prog.built 58 [(0,(.int .u64 x0)),(1,(.int .u64 x1))]=some #[.int .u64 x0,.int .u64 x1]:=by kernel_rfl
def qui  : Tryz.prog.built 99 []=some #[.slice none 0 0,.slice none 0 0,.slice none 0 0,.slice none 0 0,.slice none 0 0,.slice none 0 0,.slice none 0 0,.slice none 0 0]:=by kernel_rfl
def q70 {x0A:Option Addr} {x0n x0c:Nat} {x1A:Option Addr} {x1n x1c:Nat} {x2A:Option Addr} {x2n x2c:Nat} {x5A:Option Addr} {x5n x5c:Nat}:Tryz.prog.built 99 [(0,(.slice x0A x0n x0c)),(1,(.slice x1A x1n x1c)),(2,(.slice x2A x2n x2c)),(5,(.slice x5A x5n x5c))]=some #[.slice x0A x0n x0c,.slice x1A x1n x1c,.slice x2A x2n x2c,.slice none 0 0,.slice none 0 0,.slice x5A x5n x5c,.slice none 0 0,.slice none 0 0]:=by kernel_rfl
def q8j {x0:Bool} {x10:Bool} {x11A:Option Addr} {x11n x11c:Nat} {x2:Int}:Tryz.prog.built 213 [(0,(.bool x0)),(1,.agg #[.bool x10,.slice x11A x11n x11c]),(2,(.int .i64 x2))]=some #[.bool x0,.bool x10,.slice x11A x11n x11c,.int .i64 x2,.bool false]:=by kernel_rfl
def q5z {x0:Bool} {x10:Bool} {x11A:Option Addr} {x11n x11c:Nat} {x2:Int} {x3:Bool}:Tryz.prog.built 213 [(0,(.bool x0)),(1,.agg #[.bool x10,.slice x11A x11n x11c]),(2,(.int .i64 x2)),(3,(.bool x3))]=some #[.bool x0,.bool x10,.slice x11A x11n x11c,.int .i64 x2,.bool x3]:=by kernel_rfl
def qcY {x0:Int} {x1:Int}:Tryz.prog.built 272 [(0,(.int .u64 x0)),(1,(.int .u64 x1))]=some #[.int .u64 x0,.int .u64 x1]:=by kernel_rfl
def qpF:bsV Tryz.prog 24 0 []=some (3,#[]):=by kernel_rfl
def qpE {x0:Int}:bsV Tryz.prog 24 1 [(0,(.int .i64 x0))]=some (3,#[.int .i64 x0]):=by kernel_rfl
def qpD {x0:Int} {x1:Int}:bsV Tryz.prog 24 2 [(0,(.int .i64 x0)),(1,(.int .i64 x1))]=some (3,#[.int .i64 x0,.int .i64 x1]):=by kernel_rfl
def qpC {x0:Int} {x1:Int} {x2:Int}:bsV Tryz.prog 24 3 [(0,(.int .i64 x0)),(1,(.int .i64 x1)),(2,(.int .i64 x2))]=some (3,#[.int .i64 x0,.int .i64 x1,.int .i64 x2]):=by kernel_rfl
def qpB:bsV Tryz.prog 25 0 []=some (33,#[]):=by kernel_rfl
def qpA {x0:Int}:bsV Tryz.prog 25 1 [(0,(.int .u64 x0))]=some (33,#[.int .u64 x0]):=by kernel_rfl
def qoz {x0:Int} {x1:Int}:bsV Tryz.prog 25 2 [(0,(.int .u64 x0)),(1,(.int .u64 x1))]=some (33,#[.int .u64 x0,.int .u64 x1]):=by kernel_rfl
def qoy {x0:Int} {x1:Int} {x2:Int}:bsV Tryz.prog 25 3 [(0,(.int .u64 x0)),(1,(.int .u64 x1)),(2,(.int .u64 x2))]=some (33,#[.int .u64 x0,.int .u64 x1,.int .u64 x2]):=by kernel_rfl
def qox {x0:Int} {x1:Int} {x2:Int} {x3:Int}:bsV Tryz.prog 25 4 [(0,(.int .u64 x0)),(1,(.int .u64 x1)),(2,(.int .u64 x2)),(3,(.int .u64 x3))]=some (33,#[.int .u64 x0,.int .u64 x1,.int .u64 x2,.int .u64 x3]):=by kernel_rfl
def qow {x00:Bool} {x010:Bool} {x011A:Option Addr} {x011n x011c:Nat} {x02:Int}:bsV Tryz.prog 39 1 [(0,.agg #[.bool x00,.bool x010,.slice x011A x011n x011c,.int .i64 x02])]=some (48,#[.bool x00,.bool x010,.slice x011A x011n x011c,.int .i64 x02]):=by kernel_rfl
def qov {x00:Bool} {x010:Bool} {x011A:Option Addr} {x011n x011c:Nat} {x02:Int} {x10:Bool} {x110:Bool} {x111A:Option Addr} {x111n x111c:Nat} {x12:Int}:bsV Tryz.prog 39 2 [(0,.agg #[.bool x00,.bool x010,.slice x011A x011n x011c,.int .i64 x02]),(1,.agg #[.bool x10,.bool x110,.slice x111A x111n x111c,.int .i64 x12])]=some (48,#[.bool x00,.bool x010,.slice x011A x011n x011c,.int .i64 x02,.bool x10,.bool x110,.slice x111A x111n x111c,.int .i64 x12]):=by kernel_rfl
def qou {x00:Bool} {x010:Bool} {x011A:Option Addr} {x011n x011c:Nat} {x02:Int} {x10:Bool} {x110:Bool} {x111A:Option Addr} {x111n x111c:Nat} {x12:Int} {x20:Bool} {x210:Bool} {x211A:Option Addr} {x211n x211c:Nat} {x22:Int} {x30:Bool} {x310:Bool} {x311A:Option Addr} {x311n x311c:Nat} {x32:Int}:bsV Tryz.prog 39 4 [(0,.agg #[.bool x00,.bool x010,.slice x011A x011n x011c,.int .i64 x02]),(1,.agg #[.bool x10,.bool x110,.slice x111A x111n x111c,.int .i64 x12]),(2,.agg #[.bool x20,.bool x210,.slice x211A x211n x211c,.int .i64 x22]),(3,.agg #[.bool x30,.bool x310,.slice x311A x311n x311c,.int .i64 x32])]=some (48,#[.bool x00,.bool x010,.slice x011A x011n x011c,.int .i64 x02,.bool x10,.bool x110,.slice x111A x111n x111c,.int .i64 x12,.bool x20,.bool x210,.slice x211A x211n x211c,.int .i64 x22,.bool x30,.bool x310,.slice x311A x311n x311c,.int .i64 x32]):=by kernel_rfl
def qot:bsV Tryz.prog 44 0 []=some (199,#[]):=by kernel_rfl
def qos {x0:Int}:bsV Tryz.prog 44 1 [(0,(.int .u32 x0))]=some (199,#[.int .u32 x0]):=by kernel_rfl
def qor {x0:Int} {x1:Int}:bsV Tryz.prog 44 2 [(0,(.int .u32 x0)),(1,(.int .u32 x1))]=some (199,#[.int .u32 x0,.int .u32 x1]):=by kernel_rfl
def qoq {x00:Int} {x01:Int}:bsV Tryz.prog 52 1 [(0,.agg #[.int .u64 x00,.int .u64 x01])]=some (58,#[.int .u64 x00,.int .u64 x01]):=by kernel_rfl
def qjQ {x0A:Option Addr} {x0n x0c:Nat}:bsV Tryz.prog 150 1 [(0,(.slice x0A x0n x0c))]=some (39,#[.slice x0A x0n x0c]):=by kernel_rfl
def qjP {x0A:Option Addr} {x0n x0c:Nat}:bsV Tryz.prog 168 1 [(0,(.slice x0A x0n x0c))]=some (25,#[.slice x0A x0n x0c]):=by kernel_rfl
def qjO {x0A:Option Addr} {x0n x0c:Nat} {x1A:Option Addr} {x1n x1c:Nat}:bsV Tryz.prog 168 2 [(0,(.slice x0A x0n x0c)),(1,(.slice x1A x1n x1c))]=some (25,#[.slice x0A x0n x0c,.slice x1A x1n x1c]):=by kernel_rfl
def qjN {x0A:Option Addr} {x0n x0c:Nat}:bsV Tryz.prog 191 1 [(0,(.slice x0A x0n x0c))]=some (69,#[.slice x0A x0n x0c]):=by kernel_rfl
def qjM {x00:Int} {x01:Int}:bsV Tryz.prog 268 1 [(0,.agg #[.int .u64 x00,.int .u64 x01])]=some (272,#[.int .u64 x00,.int .u64 x01]):=by kernel_rfl
def qu1:q0G Tryz.prog 13=true:=by kernel_rfl
def qu0:q0G Tryz.prog 15=true:=by kernel_rfl
def quZ:q0G Tryz.prog 18=true:=by kernel_rfl
def quY:q0G Tryz.prog 48=true:=by kernel_rfl
def quX:q0G Tryz.prog 59=true:=by kernel_rfl
def quW:q0G Tryz.prog 65=true:=by kernel_rfl
def quV:q0G Tryz.prog 68=true:=by kernel_rfl
def quU:q0G Tryz.prog 69=true:=by kernel_rfl
def quT:q0G Tryz.prog 82=true:=by kernel_rfl
def qlP:q0G Tryz.prog 119=true:=by kernel_rfl
def qlO:q0G Tryz.prog 123=true:=by kernel_rfl
def qlN:q0G Tryz.prog 131=true:=by kernel_rfl
def qlM:q0G Tryz.prog 133=true:=by kernel_rfl
def qlL:q0G Tryz.prog 149=true:=by kernel_rfl
def qlK:q0G Tryz.prog 154=true:=by kernel_rfl
def qbP:q0G Tryz.prog 163=true:=by kernel_rfl
def qfr:q0G Tryz.prog 165=true:=by kernel_rfl
def qlJ:q0G Tryz.prog 176=true:=by kernel_rfl
def qfq:q0G Tryz.prog 177=true:=by kernel_rfl
def qlI:q0G Tryz.prog 178=true:=by kernel_rfl
def qlH:q0G Tryz.prog 182=true:=by kernel_rfl
def qlG:q0G Tryz.prog 191=true:=by kernel_rfl
def qfp:q0G Tryz.prog 216=true:=by kernel_rfl
def qlF:q0G Tryz.prog 221=true:=by kernel_rfl
def qlE:q0G Tryz.prog 307=true:=by kernel_rfl
def q4k:Tryz.prog.follows .mixedOrders=true:=by kernel_rfl
attribute [go_sem] agg3 agg4 agg5 agg23 agg24 agg25 agg27 agg31 agg33 agg37 agg39 agg44 agg46 agg48 agg52 agg58 agg69 agg99 qv4 qv3 qv2 qv1 qv0 qvZ qoM qoL qoK qoJ
attribute [go_sem] qoI qoH qoG qoF qoE qoD qoC qoB qoA qnz qny qnx qnw qnv qnu qnt qns qnr qnq qnp qno qii qih qig qif
attribute [go_sem] qie qid qic qib qia qi9 qi8 esz22 esz24 esz25 esz39 esz44 esz52 esz69 qtU
attribute [go_sem] qtT qtS qtR elm22 elm24 elm25 elm39 elm44 elm52 elm69 qt0 qtZ qtY qtX zer3 zer27 zer31 zer37 zer46 zer48
attribute [go_sem] zer58 zer99 qq6 qq5 qq4 qq3 siz3 siz4 siz24 siz25 siz27 siz31 siz33 siz37 siz39 siz46 siz48 siz58 siz99 qre qrd qrc qrb qra qr9
attribute [go_sem] qr8 qr7 qqF und4 beq4 bne4 und5 qmD und33 und40 nil44 qs4 und83 qqo qup q9t q71 q5k qun qgC q9s qum qgB qul qgA quk qpI qfz quj qfy
attribute [go_sem] qui q70 q8j q5z qcY qpF qpE qpD qpC qpB qpA qoz qoy qox qow qov qou qot qos qor qoq qjQ qjP qjO
attribute [go_sem] qjN qjM qu1 qu0 quZ
attribute [go_sem] quY quX quW quV quU
attribute [go_sem] quT
attribute [go_sem] qlP qlO qlN qlM qlL
attribute [go_sem] qlK qbP qfr qlJ qfq qlI qlH qlG
attribute [go_sem] qfp qlF
attribute [go_sem] qlE
attribute [go_sem] q4k
open Go.Sp
def dg (l:List Nat) (i:Nat):Nat:=l.getD i 0
def u32v (d:Nat):Value:=.int .u32 d
def U32 (w:World) (D:Nat→Prop) (A:Option Addr) (n c:Nat) (l:List Nat):Prop:=Row w D 1 A n c (l.map u32v)∧q0Y l
section
variable {w w':World} {D D':Nat→Prop} {A:Option Addr} {n c:Nat} {l:List Nat}
def U32.len (h:U32 w D A n c l):l.length=n:=by have:=h.1.len; simpa using this
def U32.cap (h:U32 w D A n c l):n≤c:=h.1.cap
def U32.cell (h:U32 w D A n c l) {j:Nat} (hj:j < n):∃ ad,A=some ad∧w.cell? (ad.add j)=some (.int .u32 ((dg l j:Nat):Int)):=by
 have hl:=h.len;obtain ⟨ad,rfl,hc⟩:=h.1.get (j:=j) (by simp; omega);refine ⟨ad,rfl,?_⟩;rw [hc]; simp [u32v,dg,show j < l.length by omega]
def U32.kp (h:U32 w D A n c l) (k:Kp D w w'):U32 w' D A n c l:=⟨h.1.kp k,h.2⟩
def U32.ext (h:U32 w D A n c l) (k:Ext w w'):U32 w' D A n c l:=h.kp (Kp.of_ext k)
def U32.sub (h:U32 w D A n c l) (hs:∀ k,k < w.heap.size→D k→D' k):U32 w D' A n c l:=⟨h.1.sub hs,h.2⟩
def U32.take (h:U32 w D A n c l) {m:Nat} (hm:m≤n):U32 w D A m c (l.take m):=by
 have:=h.1.take hm;rw [Nat.mul_one,← List.map_take] at this;exact ⟨this,h.2.take m⟩
def U32.nil:U32 w D none 0 0 []:=⟨Row.nil _ _ _,q0Y.nil⟩
end
section
variable {w w':World} {D D':Nat→Prop} {A:Option Addr} {n c B:Nat} {l:List Nat}
def qpk (w:World) (B:Nat) (A:Option Addr) (n c:Nat) (l:List Nat):Prop:=Own w B 199 1 A n c (l.map u32v)∧q0Y l
def qpk.u32 (h:qpk w B A n c l) (hd:∀ k,B≤k→D k):U32 w D A n c l:=⟨h.1.row.sub fun k _ hk=>hd k hk,h.2⟩
end
section
variable {P:Program} {w:World} {K:Value→World→Prop}
end
end Go.Proofs.YtpbaikoblfcmdaaGreatDoor
namespace Go.E
def sgn (b:Bool) (m:Nat):Int:=if b then -(m:Int) else m
def q1V (b:Bool) (m:Nat):(sgn b m).natAbs=m:=by unfold sgn; split <;> omega
def q9S (b:Bool) (m:Nat):decide (sgn b m < 0)=(b && decide (0 < m)):=by
 unfold sgn; cases b <;> simp
def q07 (z:Int):sgn (decide (z < 0)) z.natAbs=z:=by
 unfold sgn; by_cases h:z < 0 <;> simp [h] <;> omega
end Go.E
namespace Go.Sp
open Go.E
def q4m {l:List Nat} {i:Nat} (h:l.length≤i):l.getD i 0=0:=by simp [List.getD,List.getElem?_eq_none h]
def vts (l:List Nat) (i:Nat):val (l.take (i+1))=val (l.take i)+B ^ i*l.getD i 0:=by
 rcases Nat.lt_or_ge i l.length with h | h
 ·exact q1d l i h
 ·rw [q0E l (i+1) Oq,q0E l i h,q4m h]; simp
def q76 {o:List Nat} {i c x y A:Nat} (hl:o.length=i) (h:val o+B ^ i*c=A):val (o ++ [(c+x+y) % B])+B ^ (i+1)*((c+x+y) / B)=A+B ^ i*x+B ^ i*y:=by
 rw [q2T,hl,← h,Nat.pow_succ];have:=Nat.mod_add_div (c+x+y) B;have h2:B ^ i*((c+x+y) % B)+B ^ i*B*((c+x+y) / B)=B ^ i*(c+x+y):=by
  rw [Nat.mul_assoc,← Nat.mul_add,this]
 rw [Nat.mul_add,Nat.mul_add] at h2;omega
def qaT {o:List Nat} {i br x y U V t:Nat} (hl:o.length=i) (h:val o+V=U+B ^ i*br) (hbr:br≤1) (hx:x < 4294967296) (hy:y < 4294967296)
  (ht:t=((x+(18446744073709551616-br)) % 18446744073709551616+(18446744073709551616-y)) % 18446744073709551616) :
  val (o ++ [t % 4294967296])+(V+B ^ i*y)=U+B ^ i*x+B ^ (i+1)*(t / 9223372036854775808)∧t / 9223372036854775808≤1:=by
 have key:x+t / 9223372036854775808*4294967296=t % 4294967296+br+y∧t / 9223372036854775808≤1:=by omega
 refine ⟨?_,key.2⟩;rw [q2T,hl,Nat.pow_succ];have h2:B ^ i*(x+t / 9223372036854775808*4294967296)=B ^ i*(t % 4294967296+br+y):=by rw [key.1]
 rw [Nat.mul_add,Nat.mul_add,Nat.mul_add] at h2;have h3:B ^ i*B*(t / 9223372036854775808)=B ^ i*(t / 9223372036854775808*4294967296):=by
  rw [Nat.mul_assoc,Nat.mul_comm B]; rfl
 omega
def q28 (x y:Nat):Int:=if x < y then -1 else if x=y then 0 else 1
def qaF:B=2 ^ 32:=rfl
def q2A {c m k:Nat} (hc:c < 2 ^ k):c ||| m*2 ^ k=c+m*2 ^ k:=by
 rw [Nat.or_comm,Nat.mul_comm,← Nat.two_pow_add_eq_or_of_lt hc];omega
def qhJ {o:List Nat} {i c x k V:Nat} (hl:o.length=i) (h:val o+B ^ i*c=2 ^ k*V) :
  val (o ++ [(c+x*2 ^ k) % 4294967296])+B ^ (i+1)*((c+x*2 ^ k) / 4294967296)=2 ^ k*(V+B ^ i*x):=by
 have:=q76 (x:=x*2 ^ k) (y:=0) hl h;have e:B ^ i*(x*2 ^ k)=2 ^ k*(B ^ i*x):=by rw [Nat.mul_comm x,Nat.mul_left_comm]
 rw [Nat.add_zero,Nat.mul_zero,Nat.add_zero,e,← Nat.mul_add] at this;exact this
def qm6 {X k:Nat} (hk:k≤32):(X / 2 ^ k) % 4294967296=(X % 18446744073709551616 / 2 ^ k) % 4294967296:=by
 have e:18446744073709551616=2 ^ k*(2 ^ (32-k)*4294967296):=by
  rw [← Nat.mul_assoc,← Nat.pow_add,show k+(32-k)=32 by omega]
 rw [e,Nat.mod_mul_right_div_self,Nat.mod_mul_left_mod]
def q19 (l:List Nat) (i:Nat):val (l.drop i)=l.getD i 0+B*val (l.drop (i+1)):=by
 rcases Nat.lt_or_ge i l.length with h | h
 ·rw [List.drop_eq_getElem_cons h,val,q0m h]
 ·rw [List.drop_of_length_le h,List.drop_of_length_le Oq,q4m h]; rfl
def q2U {l:List Nat} (h:q0Y l) (z:Nat):val (l.drop z)=val l / B ^ z:=by
 rcases Nat.le_total z l.length with hz | hz
 ·rw [q1D l z hz];have h1:=q14 (h.take z);rw [List.length_take,Nat.min_eq_left hz] at h1;rw [Nat.add_mul_div_left _ _ (q4D z),Nat.div_eq_of_lt h1,Nat.zero_add]
 ·have h1:=q14 h;have h2:B ^ l.length≤B ^ z:=Nat.pow_le_pow_right q1A hz;rw [List.drop_of_length_le hz,Nat.div_eq_of_lt (by omega)]; rfl
def q1y {l:List Nat} (h:q0Y l) (z:Nat):val (l.take z)=val l % B ^ z:=by
 rcases Nat.le_total z l.length with hz | hz
 ·have h1:=q14 (h.take z);rw [List.length_take,Nat.min_eq_left hz] at h1;have:=q1D l z hz;rw [this,Nat.add_mul_mod_self_left,Nat.mod_eq_of_lt h1]
 ·have h1:=q14 h;have h2:B ^ l.length≤B ^ z:=Nat.pow_le_pow_right q1A hz;rw [List.take_of_length_le hz,Nat.mod_eq_of_lt (by omega)]
def qaZ {o l:List Nat} {j i k V:Nat} (hk:k≤32) (ha:q0Y l) (hl:o.length=j) (h:val o+B ^ j*(val (l.drop i) / 2 ^ k)=V) :
  val (o ++ [(l.getD i 0+l.getD (i+1) 0*4294967296) / 2 ^ k % 4294967296])+B ^ (j+1)*(val (l.drop (i+1)) / 2 ^ k)=V:=by
 have h0:=ha.get i;have h1:=ha.get (i+1);unfold B at h0 h1;have e1:=q19 l i;have e2:=q19 l (i+1);have e3:val (l.drop i) % 18446744073709551616=l.getD i 0+l.getD (i+1) 0*4294967296:=by
  unfold B at e1 e2; omega
 have e4:val (l.drop i) / 2 ^ k / 4294967296=val (l.drop (i+1)) / 2 ^ k:=by
  rw [Nat.div_div_eq_div_mul,Nat.mul_comm,← Nat.div_div_eq_div_mul]
  congr 1
  unfold B at e1; omega
 rw [q2T,hl,← e3,← qm6 hk,← e4,Nat.pow_succ,Nat.add_assoc,Nat.mul_assoc,← Nat.mul_add];have:B*(val (l.drop i) / 2 ^ k / 4294967296)=4294967296*(val (l.drop i) / 2 ^ k / 4294967296):=rfl;rw [this,Nat.mod_add_div];exact h
def qam {l:List Nat} (ha:q0Y l) (z k:Nat) (hk:k≤32):val l % 2 ^ (32*z+k)=0 ↔ (val (l.take z)=0∧l.getD z 0 % 2 ^ k=0):=by
 have e1:val l / B ^ z % 2 ^ k=l.getD z 0 % 2 ^ k:=by
  rw [← q2U ha,q19,qaF,show 2 ^ 32=2 ^ k*2 ^ (32-k) by rw [← Nat.pow_add]; congr 1; omega,Nat.mul_assoc,Nat.add_mul_mod_self_left]
 rw [Nat.pow_add,Nat.pow_mul,← qaF,Nat.mod_mul,e1,← q1y ha];have:=q4D z
 constructor
 ·intro h;have h1:val (l.take z)=0:=by omega
  refine ⟨h1,?_⟩;rw [h1,Nat.zero_add] at h
  rcases Nat.mul_eq_zero.1 h with h | h
  ·omega
  ·exact h
 ·rintro ⟨h1,h2⟩; rw [h1,h2]; simp
def qan {l:List Nat} (ha:q0Y l) (z k:Nat) (h:l.length≤z):val l % 2 ^ (32*z+k)=val l:=by
 have h1:=q14 ha;have h2:B ^ l.length≤B ^ z:=Nat.pow_le_pow_right q1A h;have h3:B ^ z≤2 ^ (32*z+k):=by rw [qaF,← Nat.pow_mul]; exact Nat.pow_le_pow_right Oq Oq
 exact Nat.mod_eq_of_lt Oq
def q3I:∀ {o:List Nat} {p:Nat} (d:Nat),p < o.length→val (o.set p d)+B ^ p*o.getD p 0=val o+B ^ p*d
 | [],p,d,h=>by simp at h
 | x :: o,0,d,_=>by simp [val]; omega
 | x :: o,p+1,d,h=>by
  have ih:=q3I (o:=o) (p:=p) d (by simpa using h);simp only [List.set_cons_succ,val,List.getD_cons_succ,Nat.pow_succ];have e1:B ^ p*B*o.getD p 0=B*(B ^ p*o.getD p 0):=by rw [Nat.mul_comm (B ^ p) B,Nat.mul_assoc]
  have e2:B ^ p*B*d=B*(B ^ p*d):=by rw [Nat.mul_comm (B ^ p) B,Nat.mul_assoc]
  rw [e1,e2,Nat.add_assoc,Nat.add_assoc,← Nat.mul_add,← Nat.mul_add,ih]
def qag {o:List Nat} {p c x y V:Nat} (hp:p < o.length) (h:val o+B ^ p*c=V) :
  val (o.set p ((c+x*y+o.getD p 0) % 4294967296))+B ^ (p+1)*((c+x*y+o.getD p 0) / 4294967296)=V+B ^ p*(x*y):=by
 have h1:=q3I (o:=o) (p:=p) ((c+x*y+o.getD p 0) % 4294967296) hp;have h2:B ^ p*((c+x*y+o.getD p 0) % 4294967296)+B ^ (p+1)*((c+x*y+o.getD p 0) / 4294967296)=B ^ p*c+B ^ p*(x*y)+B ^ p*o.getD p 0:=by
  rw [Nat.pow_succ,Nat.mul_assoc,← Nat.mul_add,← Nat.mul_add,← Nat.mul_add]
  congr 1
  exact Nat.mod_add_div _ 4294967296
 omega
def q8Q {c x y z:Nat} (hc:c < 4294967296) (hx:x < 4294967296) (hy:y < 4294967296) (hz:z < 4294967296):c+x*y+z < 18446744073709551616∧x*y < 18446744065119617026:=by
 have:x*y≤4294967295*4294967295:=Nat.mul_le_mul Oq Oq;omega
def q0l {o:List Nat} {p q d:Nat} (h:q≠p):(o.set p d).getD q 0=o.getD q 0:=by
 simp only [List.getD_eq_getElem?_getD];rw [List.getElem?_set_ne (fun e=>h e.symm)]
def shI (z n:Int):Int:=if 0≤n then z*2 ^ n.toNat else z / 2 ^ (-n).toNat
def qfC (v p:Nat) (hp:0 < p):(-(v:Int)) / (p:Int) = -((v / p:Nat):Int)-(if v % p≠0 then 1 else 0):=by
 have h:=Nat.div_add_mod v p;have hr:=Nat.mod_lt v hp;have h':(p:Int)*((v / p:Nat):Int)+((v % p:Nat):Int)=(v:Int):=by
  rw [← Int.natCast_mul,← Int.natCast_add,h]
 generalize v / p=q at *;generalize hrr:v % p=r at *
 by_cases h0:r=0
 ·rw [if_neg (by simpa using h0)];refine ((Int.ediv_emod_unique (by omega:(0:Int) < p) (r:=0)).2 ⟨?_,by omega,by omega⟩).1;rw [Int.sub_zero,Int.mul_neg]; omega
 ·rw [if_pos h0];refine ((Int.ediv_emod_unique (by omega:(0:Int) < p) (r:=(p:Int)-r)).2 ⟨?_,by omega,by omega⟩).1;rw [Int.mul_sub,Int.mul_neg,Int.mul_one]; omega
def q03 (k:Nat):((2 ^ k:Nat):Int)=(2:Int) ^ k:=by simp
def qmb (v k:Nat):(-(v:Int)) / (2:Int) ^ k = -((v / 2 ^ k:Nat):Int)-(if v % 2 ^ k≠0 then 1 else 0):=by
 rw [← q03]; exact qfC v (2 ^ k) (Nat.pow_pos Oq)
def bl (n:Nat):Nat:=if n=0 then 0 else Nat.log2 n+1
def q23 (n:Nat):n < 2 ^ bl n:=by
 unfold bl; split
 ·omega
 ·exact Nat.lt_log2_self
def q72 {n:Nat} (h:n≠0):2 ^ (bl n-1)≤n:=by
 unfold bl; rw [if_neg h]; exact Nat.log2_self_le h
def q0h:bl 0=0:=rfl
def qgD {n k:Nat} (h1:n < 2 ^ k) (h2:k=0∨2 ^ (k-1)≤n):bl n=k:=by
 by_cases h0:n=0
 ·subst h0
  rcases h2 with h2 | h2
  ·rw [h2]; rfl
  ·have:=Nat.pow_pos (n:=k-1) (show 0 < 2 by omega); omega
 ·have a:=q23 n;have b:=q72 h0;have c:bl n≠0:=by unfold bl; rw [if_neg h0]; omega
  have d:k≠0:=by intro e; subst e; simp at h1; omega
  have h2:=h2.resolve_left d;have e1:=(Nat.pow_lt_pow_iff_right (a:=2) Oq).1 (Nat.lt_of_le_of_lt b h1);have e2:=(Nat.pow_lt_pow_iff_right (a:=2) Oq).1 (Nat.lt_of_le_of_lt h2 a);omega
def qbV {n k:Nat} (h:2 ^ k≤n):bl n=k+bl (n / 2 ^ k):=by
 have hp:=Nat.pow_pos (n:=k) (show 0 < 2 by omega);have h0:n / 2 ^ k≠0:=by have:=Nat.div_pos h hp; omega
 have a:=q23 (n / 2 ^ k);have b:=q72 h0;have c:bl (n / 2 ^ k)≠0:=by unfold bl; rw [if_neg h0]; omega
 refine qgD ?_ (.inr ?_)
 ·rw [Nat.pow_add,Nat.mul_comm];exact (Nat.div_lt_iff_lt_mul hp).1 a
 ·rw [show k+bl (n / 2 ^ k)-1=k+(bl (n / 2 ^ k)-1) by omega,Nat.pow_add,Nat.mul_comm];exact (Nat.le_div_iff_mul_le hp).1 b
def q0t {m n:Nat} (h:m≤n):bl m≤bl n:=by
 by_cases h0:m=0
 ·subst h0; simp [q0h]
 ·have a:=q72 h0;have b:=q23 n;have:=(Nat.pow_lt_pow_iff_right (a:=2) Oq).1 (Nat.lt_of_le_of_lt (Nat.le_trans a h) b);omega
def q0O {n k:Nat} (h:n < 2 ^ k):bl n≤k:=by
 by_cases h0:n=0
 ·subst h0; simp [q0h]
 ·have:=(Nat.pow_lt_pow_iff_right (a:=2) Oq).1 (Nat.lt_of_le_of_lt (q72 h0) h);omega
def q6X {n:Nat} (h:n≠0):bl n=32*((lim n).length-1)+bl ((lim n).getD ((lim n).length-1) 0):=by
 have hp:=q0K.2 h;have h1:2 ^ (32*((lim n).length-1))=B ^ ((lim n).length-1):=by rw [qaF,← Nat.pow_mul]
 have h2:n / B ^ ((lim n).length-1)=(lim n).getD ((lim n).length-1) 0:=by
  have:=q2U (q0C n) ((lim n).length-1);rw [q0D] at this;rw [← this,q19,show (lim n).length-1+1=(lim n).length by omega,List.drop_length]; simp [val]
 rw [← h2,← h1];exact qbV (by rw [h1]; exact q2t h)
end Go.Sp
namespace Go.E
open Go
section
variable {P:Program} {w:World} {K:Value→World→Prop} {D:Nat→Prop}
def q7M {k g t':Nat} {cs:Array Value} (hb:Blk w g t' cs) (hs:cs.size=k):ldV w (some (some k)) (.pointer (some ⟨g,0,none⟩))=some (.agg cs):=by
 simp only [ldV,hb.rdAll hs];simp
def Dx.ne {a b k g:Nat} (h:Dx D a b k) (h1:a≤g) (h2:g < b):k≠g:=fun e=>by subst e; exact Dx.not h1 h2 h
end
end Go.E
namespace Go.Proofs.YtpbaikoblfcmdaaGreatDoor
open Go Go.E Go.Sp
def Big (w:World) (D:Nat→Prop) (s:Bool) (A:Option Addr) (n c:Nat) (z:Int):Prop:=s=decide (z < 0)∧U32 w D A n c (lim z.natAbs)
section
variable {w w':World} {D D':Nat→Prop} {A:Option Addr} {n c B:Nat} {l:List Nat} {s:Bool} {z:Int}
def Big.kp (h:Big w D s A n c z) (k:Kp D w w'):Big w' D s A n c z:=⟨h.1,h.2.kp k⟩
def Big.ext (h:Big w D s A n c z) (k:Ext w w'):Big w' D s A n c z:=⟨h.1,h.2.ext k⟩
def Big.sub (h:Big w D s A n c z) (hs:∀ k,k < w.heap.size→D k→D' k):Big w D' s A n c z:=⟨h.1,h.2.sub hs⟩
def Big.len (h:Big w D s A n c z):(lim z.natAbs).length=n:=h.2.len
def Big.sgn (h:Big w D s A n c z):sgn s z.natAbs=z:=by rw [h.1,q07]
end
def Dx.keep {D:Nat→Prop} {w:World} {a b:Nat} (ha:a=w.heap.size):∀ k,k < w.heap.size→D k→Dx D a b k:=fun _ hk hd=>Dx.lt hd Oq
end Go.Proofs.YtpbaikoblfcmdaaGreatDoor
namespace Go.E
open Go
section
variable {P:Program} {t:TypeId} {k':IntKind} {a b:Nat}
def q88 (a b:Nat):Int.fdiv (a:Int) (b:Int)=((a / b:Nat):Int):=by
 rw [Int.fdiv_eq_ediv_of_nonneg _ (Int.natCast_nonneg b)]; rfl
def qhF:q0w P .shr t (.int .u64 (a:Int)) (.int k' 32)=some (.int .u64 ((a / 4294967296:Nat):Int)):=by
 rw [q1x,if_neg (by omega)];exact congrArg (fun x=>some (Value.int .u64 x)) (q88 a 4294967296)
def qhD:q0w P .shr t (.int .u64 (a:Int)) (.int k' 63)=some (.int .u64 ((a / 9223372036854775808:Nat):Int)):=by
 rw [q1x,if_neg (by omega)];exact congrArg (fun x=>some (Value.int .u64 x)) (q88 a 9223372036854775808)
def qm8:q0w P .shr t (.int .u32 (a:Int)) (.int k' 8)=some (.int .u32 ((a / 256:Nat):Int)):=by
 rw [q1x,if_neg (by omega)];exact congrArg (fun x=>some (Value.int .u32 x)) (q88 a 256)
def qhH:q0w P .shr t (.int .u32 (a:Int)) (.int k' 16)=some (.int .u32 ((a / 65536:Nat):Int)):=by
 rw [q1x,if_neg (by omega)];exact congrArg (fun x=>some (Value.int .u32 x)) (q88 a 65536)
def qhG:q0w P .shr t (.int .u32 (a:Int)) (.int k' 27)=some (.int .u32 ((a / 134217728:Nat):Int)):=by
 rw [q1x,if_neg (by omega)];exact congrArg (fun x=>some (Value.int .u32 x)) (q88 a 134217728)
def w32N:IntKind.u32.wrap (a:Int)=((a % 4294967296:Nat):Int):=by rw [q2V]; omega
def qv5 (h:a+b < 18446744073709551616):IntKind.u64.wrap ((a:Int)+(b:Int))=((a+b:Nat):Int):=by rw [q0k]; omega
def q44 (hb:b < 18446744073709551616):IntKind.u64.wrap ((a:Int)-(b:Int))=(((a+(18446744073709551616-b)) % 18446744073709551616:Nat):Int):=by rw [q0k]; omega
def id64N (h:a < 18446744073709551616):IntKind.u64.wrap (a:Int)=(a:Int):=by rw [q0k]; omega
def qsb (h:a*b < 18446744073709551616):IntKind.u64.wrap ((a:Int)*(b:Int))=((a*b:Nat):Int):=by rw [q0k,← Int.natCast_mul]; omega
def i64N (h:a < 9223372036854775808):IntKind.i64.wrap (a:Int)=(a:Int):=by rw [qiA]; omega
end
def q3D {n x:Nat}:(BitVec.ofInt n (x:Int))=BitVec.ofNat n x:=by simp
def qbz {a b:Nat} (ha:a < 18446744073709551616) (hb:b < 18446744073709551616):q0i .or .u64 (a:Int) (b:Int)=((a ||| b:Nat):Int):=by
 have h:a ||| b < 2 ^ 64:=Nat.or_lt_two_pow ha hb;have h2:(BitVec.ofInt 64 (a:Int) ||| BitVec.ofInt 64 (b:Int)).toNat=a ||| b:=by
  rw [q3D,q3D,BitVec.toNat_or,BitVec.toNat_ofNat,BitVec.toNat_ofNat,Nat.mod_eq_of_lt ha,Nat.mod_eq_of_lt hb]
 show IntKind.u64.wrap ((BitVec.ofInt 64 (a:Int) ||| BitVec.ofInt 64 (b:Int)).toNat:Int)=_
 rw [h2,q0k]; omega
def or32N {a b:Nat} (ha:a < 4294967296) (hb:b < 4294967296):q0i .or .u32 (a:Int) (b:Int)=((a ||| b:Nat):Int):=by
 have h:a ||| b < 2 ^ 32:=Nat.or_lt_two_pow ha hb;have h2:(BitVec.ofInt 32 (a:Int) ||| BitVec.ofInt 32 (b:Int)).toNat=a ||| b:=by
  rw [q3D,q3D,BitVec.toNat_or,BitVec.toNat_ofNat,BitVec.toNat_ofNat,Nat.mod_eq_of_lt ha,Nat.mod_eq_of_lt hb]
 show IntKind.u32.wrap ((BitVec.ofInt 32 (a:Int) ||| BitVec.ofInt 32 (b:Int)).toNat:Int)=_
 rw [h2,q2V]; omega
def q3z {a b:Nat} (ha:a < 18446744073709551616) (hb:b < 18446744073709551616):q0i .and .u64 (a:Int) (b:Int)=((a &&& b:Nat):Int):=by
 have h:a &&& b < 2 ^ 64:=Nat.and_lt_two_pow a hb;have h2:(BitVec.ofInt 64 (a:Int) &&& BitVec.ofInt 64 (b:Int)).toNat=a &&& b:=by
  rw [q3D,q3D,BitVec.toNat_and,BitVec.toNat_ofNat,BitVec.toNat_ofNat,Nat.mod_eq_of_lt ha,Nat.mod_eq_of_lt hb]
 show IntKind.u64.wrap ((BitVec.ofInt 64 (a:Int) &&& BitVec.ofInt 64 (b:Int)).toNat:Int)=_
 rw [h2,q0k]; omega
def qb1 {a b:Nat} (ha:a < 4294967296) (hb:b < 4294967296):q0i .and .u32 (a:Int) (b:Int)=((a &&& b:Nat):Int):=by
 have h:a &&& b < 2 ^ 32:=Nat.and_lt_two_pow a hb;have h2:(BitVec.ofInt 32 (a:Int) &&& BitVec.ofInt 32 (b:Int)).toNat=a &&& b:=by
  rw [q3D,q3D,BitVec.toNat_and,BitVec.toNat_ofNat,BitVec.toNat_ofNat,Nat.mod_eq_of_lt ha,Nat.mod_eq_of_lt hb]
 show IntKind.u32.wrap ((BitVec.ofInt 32 (a:Int) &&& BitVec.ofInt 32 (b:Int)).toNat:Int)=_
 rw [h2,q2V]; omega
section
variable {P:Program} {t:TypeId} {k':IntKind} {a b:Nat}
def qd7 (hb:b≤64):q0w P .shl t (.int .u64 (a:Int)) (.int k' (b:Int))=some (.int .u64 ((a*2 ^ b % 18446744073709551616:Nat):Int)):=by
 rw [q9v,if_neg (by omega)];have:min (b:Int).toNat IntKind.u64.bits=b:=by simp [IntKind.bits]; omega
 rw [this,q0k]
 congr 2
def qkS (hb:b≤32):q0w P .shl t (.int .u32 (a:Int)) (.int k' (b:Int))=some (.int .u32 ((a*2 ^ b % 4294967296:Nat):Int)):=by
 rw [q9v,if_neg (by omega)];have:min (b:Int).toNat IntKind.u32.bits=b:=by simp [IntKind.bits]; omega
 rw [this,q2V]
 congr 2
def qrg (hb:b≤64):q0w P .shr t (.int .u64 (a:Int)) (.int k' (b:Int))=some (.int .u64 ((a / 2 ^ b:Nat):Int)):=by
 rw [q1x,if_neg (by omega)];have:min (b:Int).toNat IntKind.u64.bits=b:=by simp [IntKind.bits]; omega
 rw [this];have:=q88 a (2 ^ b);rw [← this]; simp
def qsP (h:a < 9223372036854775808):q0w P .quo t (.int .i64 (a:Int)) (.int .i64 32)=some (.int .i64 ((a / 32:Nat):Int)):=by
 rw [qgF,if_neg (by omega)];have:Int.tdiv (a:Int) 32=((a / 32:Nat):Int):=rfl;rw [this,i64_in Oq (by omega)]
def qsK:q0w P .rem t (.int .i64 (a:Int)) (.int .i64 32)=some (.int .i64 ((a % 32:Nat):Int)):=by
 rw [qgE,if_neg (by omega)]; rfl
end
section
variable {P:Program} {t:TypeId} {k':IntKind} {a b:Nat}
def qhK:q0w P .shl t (.int .u64 (a:Int)) (.int k' 32)=some (.int .u64 ((a*4294967296 % 18446744073709551616:Nat):Int)):=qd7 (b:=32) Oq
def qm9 (hb:b < 32):q0w P .shl t (.int .u32 1) (.int k' (b:Int))=some (.int .u32 ((2 ^ b:Nat):Int)):=by
 have:=qkS (P:=P) (t:=t) (k':=k') (a:=1) (b:=b) Oq;rw [Nat.one_mul,Nat.mod_eq_of_lt (show 2 ^ b < 4294967296 from Nat.pow_lt_pow_right Oq hb)] at this;exact this
def qdX (h:0 < a) (h2:a < 4294967296):IntKind.u32.wrap ((a:Int)-1)=((a-1:Nat):Int):=by rw [q2V]; omega
end
attribute [go_sem high] qhK qm9 qbz or32N q3z qb1 qd7 qkS qrg qsP qsK
def beqN {a b:Nat}:((a:Int) == (b:Int))=decide (a=b):=by rw [Bool.eq_iff_iff,beq_iff_eq,decide_eq_true_eq]; omega
def bneN {a b:Nat}:((a:Int) != (b:Int))=decide (a≠b):=by rw [Bool.eq_iff_iff,bne_iff_ne,decide_eq_true_eq]; omega
def bne0 {a:Nat}:((a:Int) != 0)=decide (a≠0):=bneN (b:=0)
def beq0 {a:Nat}:((a:Int) == 0)=decide (a=0):=beqN (b:=0)
def qke {k:IntKind} {a b:Int}:mmV true [.int k a,.int k b]=some (.int k (max a b)):=by simp [mmV]
def qkd {k:IntKind} {a b:Int}:mmV false [.int k a,.int k b]=some (.int k (min a b)):=by simp [mmV]
attribute [go_sem high] qke qkd
attribute [go_sem high] qm8 qhH qhG qhF qhD w32N qv5 qsb id64N
end Go.E
namespace Go.Proofs.YtpbaikoblfcmdaaGreatDoor
open Go Go.E Go.Sp




def qd9 (s s':Bool) (a b:Nat):sgn s a*sgn s' b=sgn (s != s') (a*b):=by
 cases s <;> cases s' <;> simp [sgn,Int.neg_mul,Int.mul_neg]
end Go.Proofs.YtpbaikoblfcmdaaGreatDoor
namespace Go.E
open Go
def qbf {P:Program} {d:Option Nat} {t ty:TypeId} {x i:Operand} {pos:String} {af:Array Edge} {g:Option (Nat × Bool)} {e:Env} {w:World} {K:Value→World→Prop} {s:ByteArray} {k:IntKind} {n:Nat}
  (ht:P.underlying t=some .string) (hx:ev e x=.string s) (hi:ev e i=.int k n) (hn:n < s.size) (hK:K (.int .u8 s[n].toNat) w):wo P ⟨d,.index t x i,ty,pos,af,g⟩ e w K:=by
 show WO P ⟨d,.index t x i,ty,pos,af,g⟩ e w K
 unfold WO;have:(execOp (ev e) ⟨d,.index t x i,ty,pos,af,g⟩).run P w=(.ok (.value (.int .u8 s[n].toNat)) w):=by
  simp only [execOp,hx,hi];simp [go_sem,run_index_string,ht,hn]
 rw [this];exact hK
end Go.E
namespace Go.Proofs.YtpbaikoblfcmdaaGreatDoor
open Go Go.E Go.Sp
def qqP:ByteArray:=⟨(((List.range 256).map fun i=>UInt8.ofNat (bl i))).toArray⟩
def q8W:qqP.size=256:=by kernel_rfl
def qhj:((List.range 256).all fun i=>Nat.beq ((qqP.data.toList.getD i 0).toNat) (bl i))=true:=by kernel_rfl
def qhi {y:Nat} (h:y < qqP.size):qqP[y].toNat=bl y:=by
 have h1:=qhj;rw [List.all_eq_true] at h1;have h2:=Nat.eq_of_beq_eq_true (h1 y (List.mem_range.2 (by rw [q8W] at h; exact h)));rw [← h2]
 congr 1
 have:y < qqP.data.toList.length:=by simpa using h
 rw [List.getD_eq_getElem?_getD,List.getElem?_eq_getElem this];simp
 rfl
def qap {x:Nat} {w:World} (hx:x < 4294967296) :
  Calls Tryz.prog 307 #[.int .u32 x] w fun e w'=>e=.returned (.int .i64 (bl x:Nat))∧w=w':=by
 refine q5j Tryz.func307 rfl Tryz.ntmps307 (by kernel_rfl) ?_;refine Wz ?_;refine q9z fun K1 hK1=>?_;have st1:∀ (e1:Env) (a y:Nat),y < 65536→a+bl y=bl x→a≤16→e1 0=.int .u32 y→e1 2=.int .i64 a→K1 e1 w:=by
  intro e1 a y hy hab ha h0 h2;refine hK1 _ _ ?_; clear hK1;refine q9z fun K1 hK1=>?_;have st2:∀ (e1:Env) (a y:Nat),y < 256→a+bl y=bl x→a≤24→e1 0=.int .u32 y→e1 2=.int .i64 a→K1 e1 w:=by
   intro e1 a y hy hab ha h0 h2;refine hK1 _ _ ?_; clear hK1;have hw:IntKind.u8.wrap (y:Int)=(y:Int):=u8_in Oq Oq;refine q1I fun K hK=>?_
   set_option maxRecDepth 4000 in
   refine Zz3 h0 h2 hw ?_;refine qbf (s:=qqP) (by kernel_rfl) (by kernel_rfl) rfl (by rw [q8W]; exact hy) ?_;rw [qhi];have hby:bl y≤8:=q0O Oq;have hs:IntKind.i64.wrap ((a:Int)+(bl y:Int))=(bl x:Int):=by rw [i64_in Oq (by omega)]; omega
   simp -implicitDefEqProofs (disch:=omega) only [go_sem,Nat.reduceEqDiff,Nat.reduceAdd,↓reduceIte,i64N,hs];refine hK _ _ ?_; clear hK;refine qj9 ?_
   try simp only [q9K,qn5]
   refine ret1 rfl ⟨rfl,rfl⟩
  by_cases hb:256≤y
  ·have hb':((y:Int) ≥ 256):=by omega
   refine Wz2 h0 hb' ?_;refine Wt ?_;refine Wz1 h0 ?_;refine ql3 fun K9 hK9=>?_;refine Zz2 h2 @i64_in ?_;refine hK9 _ _ ?_; clear hK9 K9;have h8:bl y=8+bl (y / 256):=qbV (n:=y) (k:=8) hb;exact st2 _ (a+8) (y / 256) Oq Oq Oq Ue Ue
  ·have hb':¬ ((y:Int) ≥ 256):=by omega
   refine Wz2 h0 hb' ?_;refine Wf (qb3 ?_);exact st2 _ a y Oq hab Oq Ue Ue
 by_cases hb:65536≤x
 ·have hb':((x:Int) ≥ 65536):=by omega
  refine Wz1 hb' ?_;refine Wt ?_;refine Wz ?_;refine ql3 fun K9 hK9=>?_;refine Zz ?_;refine hK9 _ _ ?_; clear hK9 K9;have h8:bl x=16+bl (x / 65536):=qbV (n:=x) (k:=16) hb;exact st1 _ 16 (x / 65536) Oq Oq Oq Ue Ue
 ·have hb':¬ ((x:Int) ≥ 65536):=by omega
  refine Wz1 hb' ?_;refine Wf (qb3 ?_);exact st1 _ 0 x Oq Oq Oq Ue Ue


end Go.Proofs.YtpbaikoblfcmdaaGreatDoor
namespace Go.Sp
open Go.E
def q0H (k:Nat):0 < 2 ^ k:=Nat.pow_pos Oq
def tzF:Nat→Nat→Nat
 | 0,_=>0
 | f+1,n=>if n % 2=1 then 0 else tzF f (n / 2)+1
def tz (n:Nat):Nat:=if n=0 then 0 else tzF n n
def qaO:∀ (f n:Nat),n≠0→n≤f→∃ q,q % 2=1∧n=q*2 ^ tzF f n
 | 0,n,h,hf=>by omega
 | f+1,n,h,hf=>by
  unfold tzF
  by_cases ho:n % 2=1
  ·rw [if_pos ho]; exact ⟨n,ho,by simp⟩
  ·rw [if_neg ho];obtain ⟨q,hq,he⟩:=qaO f (n / 2) Oq Oq;refine ⟨q,hq,?_⟩;rw [Nat.pow_succ,← Nat.mul_assoc,← he]; omega
def q2b {n:Nat} (h:n≠0):∃ q,q % 2=1∧n=q*2 ^ tz n:=by
 unfold tz; rw [if_neg h]; exact qaO n n h (Nat.le_refl _)
def qaf:∀ {a b q r:Nat},q % 2=1→r % 2=1→q*2 ^ a=r*2 ^ b→a=b
 | 0,0,_,_,_,_,_=>rfl
 | 0,b+1,q,r,hq,hr,h=>by
  rw [Nat.pow_succ,← Nat.mul_assoc,Nat.pow_zero,Nat.mul_one] at h;generalize r*2 ^ b=x at h; omega
 | a+1,0,q,r,hq,hr,h=>by
  rw [Nat.pow_succ,← Nat.mul_assoc,Nat.pow_zero,Nat.mul_one] at h;generalize q*2 ^ a=x at h; omega
 | a+1,b+1,q,r,hq,hr,h=>by
  rw [Nat.pow_succ,Nat.pow_succ,← Nat.mul_assoc,← Nat.mul_assoc] at h;have:=qaf hq hr (Nat.eq_of_mul_eq_mul_right Oq h);omega
def q6f {n q k:Nat} (hq:q % 2=1) (h:n=q*2 ^ k):tz n=k:=by
 have h0:n≠0:=by
  rintro rfl;have:=q0H k
  rcases Nat.mul_eq_zero.1 h.symm with h | h <;> omega
 obtain ⟨r,hr,he⟩:=q2b h0;exact qaf hr hq (he.symm.trans h)
def qaN {n:Nat} (h:n % 2=1):tz n=0:=q6f h (by simp)
def qjq {n:Nat} (h:n≠0) (k:Nat):tz (n*2 ^ k)=tz n+k:=by
 obtain ⟨q,hq,he⟩:=q2b h;refine q6f hq ?_;rw [Nat.pow_add,← Nat.mul_assoc,← he]
def q3v {n:Nat} (h:n≠0):0 < bl n:=by unfold bl; rw [if_neg h]; omega
def q1G {n:Nat} (h:n≠0) (k:Nat):bl (n*2 ^ k)=bl n+k:=by
 have a:=q23 n;have b:=q72 h;have c:=q3v h;refine qgD ?_ (.inr ?_)
 ·rw [Nat.pow_add]; exact Nat.mul_lt_mul_of_pos_right a (q0H k)
 ·rw [show bl n+k-1=(bl n-1)+k by omega,Nat.pow_add]; exact Nat.mul_le_mul_right _ b
def q1w (a b:Nat):bl (a*b)≤bl a+bl b:=by
 refine q0O ?_;rw [Nat.pow_add];exact Nat.mul_lt_mul_of_lt_of_le (q23 a) (Nat.le_of_lt (q23 b)) (q0H _)
def q5m {a b k:Nat} (ha:bl a≤k) (hb:bl b≤k):bl (a+b)≤k+1:=by
 refine q0O ?_;have h1:=q23 a;have h2:=q23 b;have h3:2 ^ bl a≤2 ^ k:=Nat.pow_le_pow_right Oq ha;have h4:2 ^ bl b≤2 ^ k:=Nat.pow_le_pow_right Oq hb;rw [Nat.pow_succ]; omega
def q1a {n k:Nat} (h:bl n≤k):n < 2 ^ k:=Nat.lt_of_lt_of_le (q23 n) (Nat.pow_le_pow_right Oq h)
def q8l {n k:Nat}:bl n≤k ↔ n < 2 ^ k:=⟨q1a,q0O⟩
def qgt {n:Nat} (h:n≠0):tz n < bl n:=by
 obtain ⟨q,hq,he⟩:=q2b h;have h1:bl n=bl q+tz n:=by
  have:=q1G (n:=q) Oq (tz n)
  rwa [← he] at this
 have:=q3v (n:=q) Oq;omega
def q8V (n:Nat):(lim n).length=(bl n+31) / 32:=by
 by_cases h:n=0
 ·subst h; rfl
 ·have h1:=q6X h;have h2:=q3f h;have h3:=(q0C n).get ((lim n).length-1);have h4:=q3v h2;have h5:bl ((lim n).getD ((lim n).length-1) 0)≤32:=q0O h3;have h6:=q0K.2 h;omega
def q6g {x:Nat} (h:x≠0) (hx:x < 4294967296):tz x < 32:=by
 have:=qgt h;have:bl x≤32:=q0O hx;omega
def qjp {l:List Nat} {i:Nat} (ha:q0Y l) (hi:i < l.length) (h0:val (l.take i)=0) (hd:l.getD i 0≠0):tz (val l)=32*i+tz (l.getD i 0):=by
 have h1:=q1D l i Oq;rw [h0,Nat.zero_add,q19] at h1;obtain ⟨q,hq,he⟩:=q2b hd;have hk:=q6g hd (ha.get i);refine q6f (q:=q+2 ^ (32-tz (l.getD i 0))*val (l.drop (i+1))) ?_ ?_
 ·rw [show 32-tz (l.getD i 0)=(31-tz (l.getD i 0))+1 by omega,Nat.pow_succ,Nat.mul_comm (2 ^ _) 2,Nat.mul_assoc];omega
 ·rw [h1];have e1:B ^ i=2 ^ (32*i):=by rw [qaF,← Nat.pow_mul]
  have e2:B=2 ^ (32-tz (l.getD i 0))*2 ^ tz (l.getD i 0):=by rw [← Nat.pow_add,qaF]; congr 1; omega
  rw [e1,Nat.pow_add,Nat.add_mul];generalize val (l.drop (i+1))=X;generalize hk':tz (l.getD i 0)=k at *;rw [he,e2];generalize 2 ^ (32-k)=Y;generalize 2 ^ k=Z;generalize 2 ^ (32*i)=U;simp only [Nat.mul_add,Nat.mul_left_comm,Nat.mul_comm]
def q43 {l:List Nat} {i:Nat}:(val (l.take (i+1))=0) ↔ (val (l.take i)=0∧l.getD i 0=0):=by
 have hB:=q4D i;have hv:val (l.take (i+1))=val (l.take i)+B ^ i*l.getD i 0:=by
  rcases Nat.lt_or_ge i l.length with h | h
  ·exact q1d l i h
  ·rw [q0E l (i+1) Oq,q0E l i h,q4m h]; simp
 rw [hv,Nat.add_eq_zero_iff,Nat.mul_eq_zero]
 constructor
 ·rintro ⟨a,b⟩; exact ⟨a,by omega⟩
 ·rintro ⟨a,b⟩; exact ⟨a,.inr b⟩
def od (m:Int):Int:=m / (2:Int) ^ tz m.natAbs
def q0N (k:Nat):0 < (2:Int) ^ k:=by rw [← q03]; exact_mod_cast q0H k
def q6N (k:Nat):((2:Int) ^ k).natAbs=2 ^ k:=by rw [← q03]; rfl
def q0M (m:Int) (k:Nat):(m*(2:Int) ^ k).natAbs=m.natAbs*2 ^ k:=by rw [Int.natAbs_mul,q6N]
def q1S (m:Int):od m*(2:Int) ^ tz m.natAbs=m:=by
 unfold od
 by_cases h:m=0
 ·subst h; simp
 ·obtain ⟨q,hq,he⟩:=q2b (n:=m.natAbs) Oq;refine Int.ediv_mul_cancel ?_;rw [← q03];exact Int.ofNat_dvd_left.2 ⟨q,by rw [Nat.mul_comm]; exact he⟩
def q1n:od 0=0:=by simp [od]
def q3O {m:Int} (h:m≠0):od m≠0:=fun h0=>h (by rw [← q1S m,h0]; simp)
def q6L (m:Int):(od m).natAbs*2 ^ tz m.natAbs=m.natAbs:=by
 rw [← q0M,q1S]
def qeL {m:Int} (h:m≠0):(od m).natAbs % 2=1:=by
 obtain ⟨q,hq,he⟩:=q2b (n:=m.natAbs) Oq;have:=Nat.eq_of_mul_eq_mul_right (q0H _) ((q6L m).trans he);rw [this]; exact hq
def qnL {m o:Int} {k:Nat} (ho:o.natAbs % 2=1) (h:m=o*(2:Int) ^ k):od m=o∧tz m.natAbs=k:=by
 have h1:tz m.natAbs=k:=q6f ho (by rw [h,q0M]);refine ⟨?_,h1⟩;unfold od;rw [h1,h,Int.mul_ediv_cancel _ (Int.ne_of_gt (q0N k))]
def qh6 {m:Int} (k:Nat):od (m*(2:Int) ^ k)=od m:=by
 by_cases h:m=0
 ·subst h; simp
 ·refine (qnL (k:=tz m.natAbs+k) (qeL h) ?_).1;rw [Int.pow_add,← Int.mul_assoc,q1S]
def q1o (m:Int):decide (od m < 0)=decide (m < 0):=by
 have h1:=q1S m;have h2:=q0N (tz m.natAbs);rw [decide_eq_decide]
 constructor
 ·intro h; rw [← h1]; exact Int.mul_neg_of_neg_of_pos h h2
 ·intro h
  rcases Int.lt_or_le (od m) 0 with h3 | h3
  ·exact h3
  ·have:=Int.mul_nonneg h3 (Int.le_of_lt h2);omega
def q9u {m:Int} (h:m≠0):bl (od m).natAbs+tz m.natAbs=bl m.natAbs:=by
 have:=q1G (n:=(od m).natAbs) (by have:=q3O h; omega) (tz m.natAbs);rw [q6L] at this;exact this.symm
def q8F (a:Int) (k:Nat):shI (a*(2:Int) ^ k) (-(k:Int))=a:=by
 unfold shI
 split
 ·rename_i h0;have:k=0:=by omega
  subst this; simp
 ·rw [show (- -(k:Int)).toNat=k by omega];exact Int.mul_ediv_cancel _ (Int.ne_of_gt (q0N k))
def qri (m:Int):shI (m.natAbs:Int) (-((tz m.natAbs:Nat):Int))=((od m).natAbs:Nat):=by
 have h1:=q6L m;generalize tz m.natAbs=k at *;rw [← h1,Int.natCast_mul,q03,q8F]
def qma (m:Int):shI m (-((tz m.natAbs:Nat):Int))=od m:=by
 have h1:=q1S m;generalize tz m.natAbs=k at *;generalize od m=q at *;rw [← h1,q8F]
def dyE (V:Int):Int:=if V=0 then 0 else (tz V.natAbs:Int)-65536
def q0T (V:Int):Prop:=bl V.natAbs≤131072
def mkV (m e:Int):Option Int:=if m=0 then some 0 else if -65536≤e+tz m.natAbs∧e+bl m.natAbs≤65536 then some (od m*(2:Int) ^ (e+tz m.natAbs+65536).toNat) else none
def q1T (e:Int):mkV 0 e=some 0:=by simp [mkV]
def q4w {m e V:Int} (hm:m≠0) (h:mkV m e=some V) : -65536≤e+tz m.natAbs∧e+bl m.natAbs≤65536∧V=od m*(2:Int) ^ (e+tz m.natAbs+65536).toNat:=by
 unfold mkV at h;rw [if_neg hm] at h
 split at h
 ·rename_i hc; exact ⟨hc.1,hc.2,(Option.some.inj h).symm⟩
 ·cases h
def q3d {m e V:Int} (h:mkV m e=some V):od V=od m∧(m≠0→V≠0∧dyE V=e+tz m.natAbs)∧(m=0→V=0)∧q0T V:=by
 by_cases hm:m=0
 ·subst hm;rw [q1T] at h;obtain rfl:=Option.some.inj h;exact ⟨rfl,fun h=>absurd rfl h,fun _=>rfl,by simp [q0T,q0h]⟩
 ·obtain ⟨h1,h2,h3⟩:=q4w hm h;obtain ⟨h4,h5⟩:=qnL (qeL hm) h3;have h6:V≠0:=fun h0=>by
   rw [h0,q1n] at h4; exact q3O hm h4.symm
  refine ⟨h4,fun _=>⟨h6,?_⟩,fun h=>absurd h hm,?_⟩
  ·unfold dyE; rw [if_neg h6,h5]; omega
  ·unfold q0T;have h7:=q9u h6;have h8:=q9u hm;rw [h4,h5] at h7;omega
def q1p {m e:Int} (k:Nat):mkV (m*(2:Int) ^ k) e=mkV m (e+k):=by
 by_cases hm:m=0
 ·subst hm; simp [mkV]
 ·have hm':m*(2:Int) ^ k≠0:=Int.mul_ne_zero hm (Int.ne_of_gt (q0N k));unfold mkV;rw [if_neg hm,if_neg hm',q0M,qjq Oq,q1G Oq,qh6];have e1:e+((tz m.natAbs+k:Nat):Int)=e+k+tz m.natAbs:=by omega
  have e2:e+((bl m.natAbs+k:Nat):Int)=e+k+bl m.natAbs:=by omega
  rw [e1,e2]
def q2C {V:Int} (h:q0T V):mkV V (-65536)=some V:=by
 by_cases h0:V=0
 ·subst h0; exact q1T _
 ·unfold mkV q0T at *;rw [if_neg h0,if_pos (by omega)];rw [show (-65536+(tz V.natAbs:Int)+65536).toNat=tz V.natAbs by omega,q1S]
def qak {V:Int} (h:q0T V):mkV (od V) (dyE V)=some V:=by
 by_cases h0:V=0
 ·subst h0; rw [q1n]; exact q1T _
 ·have h1:=q1p (m:=od V) (e := -65536) (tz V.natAbs);rw [q1S,q2C h] at h1;unfold dyE;rw [if_neg h0,h1,Int.add_comm]; rfl
def q2J {V E:Int} (hE : -65536≤E) (hv:E≤dyE V):od V*(2:Int) ^ (dyE V-E).toNat*(2:Int) ^ (E+65536).toNat=V:=by
 by_cases h0:V=0
 ·subst h0; rw [q1n]; simp
 ·unfold dyE at *;rw [if_neg h0] at *;rw [Int.mul_assoc,← Int.pow_add,show ((tz V.natAbs:Int)-65536-E).toNat+(E+65536).toNat=tz V.natAbs by omega,q1S]
def q3e {m V E:Int} (hE : -65536≤E) (h:m*(2:Int) ^ (E+65536).toNat=V):mkV m E=mkV V (-65536):=by
 rw [← h,q1p]; congr 1; omega
def q6U {V:Int} : -65536≤dyE V:=by unfold dyE; split <;> omega
def q6T {V:Int} (h:q0T V):dyE V+bl (od V).natAbs≤65536:=by
 unfold dyE q0T at *
 split
 ·rename_i h0; subst h0; rw [q1n]; simp [q0h]
 ·rename_i h0; have:=q9u h0; omega
def q22 {V:Int} (h:q0T V):bl (od V).natAbs≤131072:=by
 by_cases h0:V=0
 ·subst h0; rw [q1n]; simp [q0h]
 ·have:=q9u h0; unfold q0T at h; omega
def qeM (V:Int):od (-V) = -od V:=by
 by_cases h0:V=0
 ·subst h0; simp [q1n]
 ·refine (qnL (k:=tz V.natAbs) (by rw [Int.natAbs_neg]; exact qeL h0) ?_).1;rw [Int.neg_mul,q1S]
def q9j (V:Int):dyE (-V)=dyE V:=by unfold dyE; simp [Int.neg_eq_zero]
def qiy {V:Int} (h:q0T V):q0T (-V):=by unfold q0T at *; rwa [Int.natAbs_neg]
def qe2 (a b:Int):mkV (od a*od b) (dyE a+dyE b)=mkV (a*b) (-131072):=by
 by_cases ha:a=0
 ·subst ha; rw [q1n]; simp [mkV]
 ·by_cases hb:b=0
  ·subst hb; rw [q1n]; simp [mkV]
  ·have:a*b=od a*od b*(2:Int) ^ (tz a.natAbs+tz b.natAbs):=by
    rw [Int.pow_add];have h1:=q1S a;have h2:=q1S b;generalize (2:Int) ^ tz a.natAbs=x at *;generalize (2:Int) ^ tz b.natAbs=y at *;generalize od a=p at *;generalize od b=q at *;rw [← h1,← h2];simp only [Int.mul_assoc,Int.mul_left_comm,Int.mul_comm]
   rw [this,q1p];unfold dyE;rw [if_neg ha,if_neg hb]; congr 1; omega
def rq (mode:Int) (neg:Bool) (N D:Nat):Nat :=
 if N % D=0 then N / D
 else if mode=1 then (if neg then N / D+1 else N / D)
 else if mode=2 then (if neg then N / D else N / D+1)
 else if mode=3 then N / D
 else if D < 2*(N % D)∨(2*(N % D)=D∧N / D % 2=1) then N / D+1 else N / D
def lgq (N D:Nat):Int:=(bl (N*2 ^ bl D / D):Int)-1-bl D
def rat (mode:Int) (neg:Bool) (N D:Nat) (q:Int):Nat:=rq mode neg (N*2 ^ (-q).toNat) (D*2 ^ q.toNat)
def sb (neg:Bool) (x:Nat):Nat:=if neg then x+9223372036854775808 else x
def q9Y (mode:Int) (neg:Bool):Nat:=if mode=3∨(mode=1∧neg=false)∨(mode=2∧neg=true) then sb neg 9218868437227405311 else sb neg 9218868437227405312
def q47 (mode:Int) (neg:Bool) (n:Nat) (q:Int):Nat :=
 if n < 4503599627370496 then sb neg n else if 2047≤q+1075 then q9Y mode neg else sb neg ((q+1075).toNat*4503599627370496+(n-4503599627370496))
def fin (mode:Int) (neg:Bool) (n:Nat) (q:Int):Nat:=if n=9007199254740992 then q47 mode neg 4503599627370496 (q+1) else q47 mode neg n q
def qed (N D:Nat):Int:=max (lgq N D-52) (-1074)
def rF (mode:Int) (neg:Bool) (N D:Nat):Nat:=fin mode neg (rat mode neg N D (qed N D)) (qed N D)
def ofF (f:Nat):Option Int :=
 if f / 4503599627370496 % 2048=2047 then none
 else if f / 4503599627370496 % 2048=0 then some (sgn (decide (9223372036854775808≤f)) (f % 4503599627370496)*(2:Int) ^ 64462)
 else some (sgn (decide (9223372036854775808≤f)) (4503599627370496+f % 4503599627370496)*(2:Int) ^ (64461+f / 4503599627370496 % 2048))
def quq {q b:Nat} (hq:q≠0) (hb:b < 2):bl (2*q+b)=bl q+1:=by
 have:=qbV (n:=2*q+b) (k:=1) Oq;rw [this,show (2*q+b) / 2 ^ 1=q by omega]; omega
def qnX {N D:Nat} (hD:0 < D) (h:D≤N):bl (N*2 / D)=bl (N / D)+1:=by
 have h1:=Nat.div_add_mod N D;have h2:=Nat.mod_lt N hD;have h3:N / D≠0:=by have:=Nat.div_pos h hD; omega
 have h4:N*2 / D=2*(N / D)+2*(N % D) / D:=by
  have e:N*2=2*(N % D)+D*(2*(N / D)):=by
   have:D*(2*(N / D))=2*(D*(N / D)):=by rw [Nat.mul_left_comm]
   omega
  rw [e,Nat.add_mul_div_left _ _ hD]; omega
 rw [h4];refine quq h3 ?_;rw [Nat.div_lt_iff_lt_mul hD]; omega
def qcF {N D:Nat} (hD:0 < D) (h:D≤N):∀ k,bl (N*2 ^ k / D)=bl (N / D)+k
 | 0=>by simp
 | k+1=>by
  have h2:D≤N*2 ^ k:=Nat.le_trans h (Nat.le_mul_of_pos_right _ (q0H k));rw [Nat.pow_succ,← Nat.mul_assoc,qnX hD h2,qcF hD h k]; omega
def qec {N D k:Nat} (hD:0 < D) (h:D≤N*2 ^ k):lgq N D=(bl (N*2 ^ k / D):Int)-1-k:=by
 have hN:N≠0:=by rintro rfl; simp at h; omega
 have h1:D≤N*2 ^ bl D:=Nat.le_trans (Nat.le_of_lt (q23 D)) (Nat.le_mul_of_pos_left _ Oq);have a:=qcF hD h (bl D);have b:=qcF hD h1 k;rw [Nat.mul_assoc,← Nat.pow_add] at a b;rw [Nat.add_comm k] at a;unfold lgq; omega
def qeb {N D c:Nat} (hN:0 < N) (hD:0 < D) (hc:0 < c):lgq (N*c) (D*c)=lgq N D:=by
 have h1:D≤N*2 ^ bl D:=Nat.le_trans (Nat.le_of_lt (q23 D)) (Nat.le_mul_of_pos_left _ hN);have h2:D*c≤N*c*2 ^ bl D:=by rw [Nat.mul_right_comm]; exact Nat.mul_le_mul_right _ h1
 rw [qec (Nat.mul_pos hD hc) h2,qec hD h1,Nat.mul_right_comm,Nat.mul_div_mul_right _ _ hc]
def q36 {mode:Int} {neg:Bool} {N D c:Nat} (hc:0 < c):rq mode neg (N*c) (D*c)=rq mode neg N D:=by
 have e1:(N*c % (D*c)=0)=(N % D=0):=by
  rw [Nat.mul_mod_mul_right,Nat.mul_eq_zero]; simp only [eq_iff_iff]; constructor
  ·rintro (h | h) <;> omega
  ·exact fun h=>.inl h
 have e2:(D*c < 2*(N*c % (D*c)))=(D < 2*(N % D)):=by
  rw [Nat.mul_mod_mul_right,← Nat.mul_assoc]; simp only [eq_iff_iff];exact Nat.mul_lt_mul_right hc
 have e3:(2*(N*c % (D*c))=D*c)=(2*(N % D)=D):=by
  rw [Nat.mul_mod_mul_right,← Nat.mul_assoc]; simp only [eq_iff_iff];exact Nat.mul_left_inj Oq
 unfold rq;simp only [e1,e2,e3,Nat.mul_div_mul_right _ _ hc]
def q3b {mode:Int} {neg:Bool} {N D c:Nat} (hN:0 < N) (hD:0 < D) (hc:0 < c):rF mode neg (N*c) (D*c)=rF mode neg N D:=by
 unfold rF rat qed;rw [qeb hN hD hc,Nat.mul_right_comm N c,Nat.mul_right_comm D c,q36 hc]
def q7A {mode:Int} {neg:Bool} {N D N' D':Nat} (hN:0 < N) (hD:0 < D) (hN':0 < N') (hD':0 < D') (h:N*D'=N'*D):rF mode neg N D=rF mode neg N' D':=by
 rw [← q3b (c:=D') hN hD hD',h,Nat.mul_comm D D',q3b hN' hD' hD]
def qsk {N D:Nat} (e:Int) (hD:0 < D) (h:D≤N):lgq (N*2 ^ e.toNat) (D*2 ^ (-e).toNat)=e+bl (N / D)-1:=by
 have h1:D*2 ^ (-e).toNat≤N*2 ^ e.toNat*2 ^ (-e).toNat:=Nat.mul_le_mul_right _ (Nat.le_trans h (Nat.le_mul_of_pos_right _ (q0H _)));rw [qec (Nat.mul_pos hD (q0H _)) h1,Nat.mul_div_mul_right _ _ (q0H _),qcF hD h];omega
def qms {mode:Int} {neg:Bool} {N D:Nat} (e q:Int):rat mode neg (N*2 ^ e.toNat) (D*2 ^ (-e).toNat) q=rq mode neg (N*2 ^ (e-q).toNat) (D*2 ^ (q-e).toNat):=by
 unfold rat;rw [Nat.mul_assoc,Nat.mul_assoc,← Nat.pow_add,← Nat.pow_add]
 rcases Int.le_total q e with h | h
 ·have e1:e.toNat+(-q).toNat=(e-q).toNat+((-e).toNat+q.toNat):=by omega
  have e2:(q-e).toNat=0:=by omega
  rw [e1,e2,Nat.pow_zero,Nat.mul_one,Nat.pow_add 2 (e-q).toNat,← Nat.mul_assoc];exact q36 (q0H _)
 ·have e1:(-e).toNat+q.toNat=(q-e).toNat+(e.toNat+(-q).toNat):=by omega
  have e2:(e-q).toNat=0:=by omega
  rw [e1,e2,Nat.pow_zero,Nat.mul_one,Nat.pow_add 2 (q-e).toNat,← Nat.mul_assoc];exact q36 (q0H _)
def q37 {mode:Int} {neg:Bool} {N D:Nat} (h:N % D=0):rq mode neg N D=N / D:=by unfold rq; rw [if_pos h]
def qru {mode:Int} {neg:Bool} {N:Nat}:rq mode neg N 1=N:=by rw [q37 (Nat.mod_one N),Nat.div_one]
def qrv {mode:Int} {neg:Bool} {N D:Nat}:rq mode neg N D≤N / D+1:=by unfold rq; (repeat' split) <;> omega
def rE (mode:Int) (neg:Bool) (N D:Nat) (e:Int):Nat:=rF mode neg (N*2 ^ e.toNat) (D*2 ^ (-e).toNat)
def qbw {mode:Int} {neg:Bool} {N D:Nat} {e:Int} (hD:0 < D) (h:D≤N) :
  rE mode neg N D e=fin mode neg (rq mode neg (N*2 ^ (e-max (e+bl (N / D)-53) (-1074)).toNat) (D*2 ^ (max (e+bl (N / D)-53) (-1074)-e).toNat)) (max (e+bl (N / D)-53) (-1074)):=by
 unfold rE rF qed;rw [qsk e hD h,qms,show e+(bl (N / D):Int)-1-52=e+bl (N / D)-53 by omega]
def q9m (N D k:Nat):N / (D*2 ^ k)=N / D / 2 ^ k:=(Nat.div_div_eq_div_mul N D (2 ^ k)).symm
def qo4 (N D k:Nat):N % (D*2 ^ k)=D*(N / D % 2 ^ k)+N % D:=by rw [Nat.mod_mul]; omega
def q98 (N D k:Nat):Int:=if 0 < k∧N / D / 2 ^ (k-1) % 2=1 then (if N % D≠0∨N / D % 2 ^ (k-1)≠0 then 1 else 0) else -1
def upS (mode:Int) (neg:Bool) (half:Int) (odd:Bool):Bool:=if mode=1 then neg else if mode=2 then !neg else if mode=3 then false else (decide (0 < half) || (decide (half=0) && odd))
def qml {mode:Int} {neg:Bool} {N D k:Nat} (hD:0 < D) (hk:N % D≠0→0 < k):rq mode neg N (D*2 ^ k) =
  N / D / 2 ^ k+(if (N / D % 2 ^ k≠0∨N % D≠0)∧upS mode neg (q98 N D k) (decide (N / D / 2 ^ k % 2=1))=true then 1 else 0):=by
 have h2:=Nat.mod_lt N hD
 rcases Nat.eq_zero_or_pos k with h0 | h0
 ·subst h0;have hr:N % D=0:=by
   rcases Nat.eq_zero_or_pos (N % D) with h | h
   ·exact h
   ·have:=hk (by omega); omega
  rw [Nat.pow_zero,Nat.mul_one,q37 hr,Nat.mod_one,hr]; simp
 have hp:2 ^ k=2 ^ (k-1)*2:=by rw [← Nat.pow_succ]; congr 1; omega
 have hp0:=q0H (k-1);have hs:=Nat.mod_mul (x:=N / D) (a:=2 ^ (k-1)) (b:=2);rw [← hp] at hs;have hs':=Nat.mod_lt (N / D) hp0;have hb2:N / D / 2 ^ (k-1) % 2 < 2:=Nat.mod_lt _ Oq;unfold rq q98;rw [q9m,qo4];generalize N / D / 2 ^ k=Q;simp only [h0,true_and];generalize N / D % 2 ^ k=s at *;generalize N / D % 2 ^ (k-1)=s' at *;generalize N / D / 2 ^ (k-1) % 2=b at *;generalize N % D=r at *;rw [hp];generalize 2 ^ (k-1)=h at *;have e0:(D*s+r=0)=(s=0∧r=0):=by
  rw [eq_iff_iff,Nat.add_eq_zero_iff,Nat.mul_eq_zero]
  constructor
  ·rintro ⟨a | a,c⟩
   ·omega
   ·exact ⟨a,c⟩
  ·rintro ⟨a,c⟩; exact ⟨.inr a,c⟩
 have e1:D*(h*2)=2*(D*h):=by rw [Nat.mul_comm h 2,Nat.mul_left_comm]
 have key:∀ a b:Nat,a < b→D*a+D≤D*b:=fun a b hab=>by rw [← Nat.mul_succ]; exact Nat.mul_le_mul_left _ hab
 simp only [e0,e1]
 by_cases hz:s=0∧r=0
 ·obtain ⟨rfl,rfl⟩:=hz;simp
 ·have hz':s≠0∨r≠0:=by omega
  simp only [hz,hz',if_false,true_and];unfold upS
  by_cases m1:mode=1
  ·simp only [m1,if_true]; cases neg <;> rfl
  by_cases m2:mode=2
  ·simp only [m1,m2,if_false,if_true]; cases neg <;> rfl
  by_cases m3:mode=3
  ·simp only [m1,m2,m3,if_false,if_true]; rfl
  simp only [m1,m2,m3,if_false]
  by_cases hb:b=1
  ·subst hb;have hss:D*s=D*h+D*s':=by rw [hs,Nat.mul_one,Nat.add_comm,Nat.mul_add]
   simp only [if_true]
   by_cases hc:r≠0∨s'≠0
   ·have:0 < D*s'+r:=by
     rcases hc with hc | hc
     ·omega
     ·have:=Nat.mul_pos hD (show 0 < s' by omega); omega
    rw [if_pos (.inl Oq),if_pos hc]; simp
   ·have hr0:r=0:=by omega
    have hs0:s'=0:=by omega
    subst hr0; subst hs0;rw [Nat.mul_zero,Nat.add_zero] at hss;rw [hss]
    by_cases ho:Q % 2=1 <;> simp [ho]
  ·have hsl:s=s':=by
    have:b=0:=by omega
    rw [hs,this]; simp
   have:=key s h Oq;have c1:¬ (2*(D*h) < 2*(D*s+r)):=by omega
   have c2:¬ (2*(D*s+r)=2*(D*h)):=by omega
   simp [c1,c2,hb]
def qh0 {mode:Int} {neg:Bool} {N D:Nat} {e q:Int} (hD:0 < D) (h:D≤N) (hq:e+bl (N / D)-53≤q):rq mode neg (N*2 ^ (e-q).toNat) (D*2 ^ (q-e).toNat)≤9007199254740992:=by
 have h53:(2:Nat) ^ 53=9007199254740992:=by decide
 refine Nat.le_trans qrv ?_;rw [q9m];have h1:=qcF hD h (e-q).toNat;have h2:=q23 (N*2 ^ (e-q).toNat / D);rw [h1] at h2
 rcases Int.le_total q e with hqe | hqe
 ·rw [show (q-e).toNat=0 by omega,Nat.pow_zero,Nat.div_one];have:2 ^ (bl (N / D)+(e-q).toNat)≤2 ^ 53:=Nat.pow_le_pow_right Oq Oq;omega
 ·have:N*2 ^ (e-q).toNat / D / 2 ^ (q-e).toNat < 2 ^ 53:=by
   rw [Nat.div_lt_iff_lt_mul (q0H _),← Nat.pow_add];exact Nat.lt_of_lt_of_le h2 (Nat.pow_le_pow_right Oq Oq)
  omega
def qmd {neg:Bool} {x:Nat} (h:x < 9223372036854775808):sb neg x < 18446744073709551616:=by unfold sb; split <;> omega
def qnJ {mode:Int} {neg:Bool}:q9Y mode neg < 18446744073709551616:=by unfold q9Y; split <;> exact qmd Oq
def qfS {mode:Int} {neg:Bool} {n:Nat} {q:Int} (hn:n < 9007199254740992):q47 mode neg n q < 18446744073709551616:=by
 unfold q47
 split
 ·exact qmd Oq
 ·split
  ·exact qnJ
  ·refine qmd ?_;have:(q+1075).toNat≤2046:=by omega
   omega
def qtL {mode:Int} {neg:Bool} {n:Nat} {q:Int} (hn:n≤9007199254740992):fin mode neg n q < 18446744073709551616:=by
 unfold fin
 split
 ·exact qfS Oq
 ·exact qfS Oq
def qsN {mode:Int} {neg:Bool} {N D:Nat} {e:Int} (hD:0 < D) (h:D≤N):rE mode neg N D e < 18446744073709551616:=by
 rw [qbw hD h]; exact qtL (qh0 hD h Oq)
def q5B {mode:Int} {neg:Bool} {n:Nat} {q:Int} (hn:n < 9007199254740992) (hq : -1074≤q) (hq2:q+1075 < 2047) (h:q = -1074∨4503599627370496≤n) :
  ofF (q47 mode neg n q)=some (sgn neg n*(2:Int) ^ (q+65536).toNat):=by
 unfold q47
 by_cases h1:n < 4503599627370496
 ·rw [if_pos h1];have hq':q = -1074:=by omega
  subst hq';unfold ofF sb;cases neg
  ·rw [if_neg (by simp; omega),if_pos (by simp; omega)];simp only [Bool.false_eq_true,if_false];rw [decide_eq_false Oq,Nat.mod_eq_of_lt h1]; rfl
  ·rw [if_neg (by simp; omega),if_pos (by simp; omega)];simp only [if_true];rw [decide_eq_true Oq,show (n+9223372036854775808) % 4503599627370496=n by omega]; rfl
 ·rw [if_neg h1,if_neg (by omega)];obtain ⟨x,hx⟩:∃ x:Nat,x=(q+1075).toNat:=⟨_,rfl⟩;rw [← hx];have hx1:1≤x:=by omega
  have hx2:x≤2046:=by omega
  have hqx:(q+65536).toNat=64461+x:=by omega
  rw [hqx];unfold ofF sb;cases neg
  ·simp only [Bool.false_eq_true,if_false];have e1:(x*4503599627370496+(n-4503599627370496)) / 4503599627370496 % 2048=x:=by omega
   rw [e1,if_neg Oq,if_neg Oq,decide_eq_false Oq,show 4503599627370496+(x*4503599627370496+(n-4503599627370496)) % 4503599627370496=n by omega]
  ·simp only [if_true];have e1:(x*4503599627370496+(n-4503599627370496)+9223372036854775808) / 4503599627370496 % 2048=x:=by omega
   rw [e1,if_neg Oq,if_neg Oq,decide_eq_true Oq,show 4503599627370496+(x*4503599627370496+(n-4503599627370496)+9223372036854775808) % 4503599627370496=n by omega]
def qhZ {mode:Int} {neg:Bool} {N D M:Nat} {f:Int} (hD:0 < D) (hM:0 < M) (hb:bl M≤53) (h1 : -1074≤f) (h2:f+bl M≤1024) (h:N*2 ^ (-f).toNat=D*M*2 ^ f.toNat) :
  ofF (rF mode neg N D)=some (sgn neg M*(2:Int) ^ (f+65536).toNat)∧rF mode neg N D < 18446744073709551616:=by
 have hN:0 < N:=by
  rcases Nat.eq_zero_or_pos N with h0 | h0
  ·subst h0;have a:=Nat.mul_pos (Nat.mul_pos hD hM) (q0H f.toNat);omega
  ·exact h0
 have e0:rF mode neg N D=rE mode neg M 1 f:=by
  unfold rE;refine q7A hN hD (Nat.mul_pos hM (q0H _)) (Nat.mul_pos Oq (q0H _)) ?_;rw [Nat.one_mul,h,Nat.mul_comm D M,Nat.mul_right_comm]
 refine ⟨?_,by rw [e0]; exact qsN Oq Oq⟩;rw [e0,qbw Oq Oq,Nat.div_one];obtain ⟨q,hq⟩:∃ q:Int,q=max (f+bl M-53) (-1074):=⟨_,rfl⟩;rw [← hq,show (q-f).toNat=0 by omega,Nat.pow_zero,Nat.mul_one,qru];have hbn:=q1G (n:=M) Oq (f-q).toNat;obtain ⟨n,hn⟩:∃ n,n=M*2 ^ (f-q).toNat:=⟨_,rfl⟩;rw [← hn] at hbn ⊢;have hn53:n < 2 ^ 53:=q1a Oq;have h53:(2:Nat) ^ 53=9007199254740992:=by decide
 unfold fin;rw [if_neg Oq,q5B Oq Oq Oq ?_]
 ·rw [hn]
  congr 1
  have:sgn neg (M*2 ^ (f-q).toNat)=sgn neg M*(2:Int) ^ (f-q).toNat:=by
   rw [← q03]; cases neg <;> simp [sgn,Int.neg_mul]
  rw [this,Int.mul_assoc,← Int.pow_add]
  congr 2; omega
 ·rcases Int.le_total (f+bl M-53) (-1074) with hc | hc
  ·left; omega
  ·right
   have hne:n≠0:=by rw [hn]; exact Nat.ne_of_gt (Nat.mul_pos hM (q0H _))
   have:=q72 hne;have h52:(2:Nat) ^ 52=4503599627370496:=by decide
   rw [show bl n-1=52 by omega] at this;omega
end Go.Sp
namespace Go.E
open Go
structure Fam where
 p:(Nat→Prop)→Value→World→Prop
 kp:∀ {D:Nat→Prop} {w w':World} {v:Value},Kp D w w'→p D v w→p D v w'
 sub:∀ {D D':Nat→Prop} {w:World} {v:Value},(∀ k,k < w.heap.size→D k→D' k)→p D v w→p D' v w
def In (G:Fam) (D:Nat→Prop) (v:Value) (w:World):Prop:=G.p D v w
section
variable {G:Fam} {D D':Nat→Prop} {v:Value} {w w':World}
def In.kp (h:In G D v w) (k:Kp D w w'):In G D v w':=G.kp k h
def In.ext (h:In G D v w) (k:Ext w w'):In G D v w':=G.kp (Kp.of_ext k) h
def In.sub (h:In G D v w) (k:∀ k,k < w.heap.size→D k→D' k):In G D' v w:=G.sub k h
def In.all (h:In G D v w):In G (fun _=>True) v w:=G.sub (fun _ _ _=>trivial) h
def In.st (h:In G (Dx D w.heap.size w'.heap.size) v w) (k:Ext w w'):In G (Dx D w.heap.size w'.heap.size) v w':=h.ext k
def Fam.S (G:Fam) (D:Nat→Prop):q4B (Kp fun _=>True):=⟨In G D,fun _ _ _ k h=>h.ext k⟩
def Rt (G:Fam) (D:Nat→Prop) (w:World):Ending→World→Prop:=fun e w'=>∃ v,e=.returned v∧Ext w w'∧In G D v w'
def Cr {P:Program} {f:FuncId} {args:List Value} {G:Fam} {D:Nat→Prop} {w:World} {K:Value→World→Prop} (hc:q0G P f=true) (h:Calls P f args.toArray w (Rt G D w)) (k:∀ v w',Ext w w'→In G D v w'→K v w'):q8i P f args w K:=q7Z hc h fun x w' ⟨v,h1,h2,h3⟩=>⟨v,h1,k v w' h2 h3⟩
def In.own {w1 w2:World} {g a b:Nat} (h:In G (Dx D a b) v w1) (k:Kp (fun k=>k≠g) w1 w2) (h1:a≤g) (h2:g < b):In G (Dx D a b) v w2:=h.kp (k.mono fun _ _ h=>Dx.ne h h1 h2)
def In.un {a b:Nat} (h:In G (Dx D a b) v w):In G D v w:=h.sub fun _ _ h=>h.1
end
def Dl (D:Nat→Prop) (L:List Nat):Nat→Prop:=fun k=>D k∧k ∉ L
section
variable {G:Fam} {D:Nat→Prop} {L:List Nat} {v:Value} {w w0 w1 w2:World} {g:Nat}
def In.ow (h:In G (Dl D L) v w1) (k:Kp (fun k=>k≠g) w1 w2) (hg:g ∈ L):In G (Dl D L) v w2:=h.kp (k.mono fun j _ hj e=>hj.2 (e ▸ hg))
def In.ul (h:In G (Dl D L) v w):In G D v w:=h.sub fun _ _ h=>h.1
def Fr.ow (h:Fr D w1) (k:Kp (fun k=>k≠g) w1 w2):Fr D w2:=h.kp k
def Kp.all (h:Kp (fun k=>k ∉ ([]:List Nat)) w w1):Ext w w1:=h.mono fun _ _ _=>by simp
def In.wk (h:In G (Dl D (g :: L)) v w):In G (Dl D L) v w:=h.sub fun _ _ h=>⟨h.1,fun hm=>h.2 (List.mem_cons_of_mem _ hm)⟩
def Fr.wk (h:Fr (Dl D (g :: L)) w):Fr (Dl D L) w:=fun k hk=>⟨(h k hk).1,fun hm=>(h k hk).2 (List.mem_cons_of_mem _ hm)⟩
def Rt.fin (hx:Ext w w0) (h:In G (Dl D L) v w0) (k:Kp (fun k=>k≠g) w0 w1) (hg:g ∈ L) (hw:w.heap.size≤g):Rt G D w (.returned v) w1 :=
 ⟨v,rfl,hx.under k fun k hk=>by omega,(h.ow k hg).ul⟩
def Rt.fin1 (hx:Ext w w0) (h:In G D v w0):Rt G D w (.returned v) w0:=⟨v,rfl,hx,h⟩
end
section
variable {w:World} {g t:Nat} {a b c d e f h i:Value} {l:List Value}
def Blk.c0 (hb:Blk w g t ⟨a :: l⟩):w.cell? ⟨g,0,none⟩=some a:=hb.cell 0
def Blk.c1 (hb:Blk w g t ⟨a :: b :: l⟩):w.cell? ⟨g,1,none⟩=some b:=hb.cell 1
def Blk.c2 (hb:Blk w g t ⟨a :: b :: c :: l⟩):w.cell? ⟨g,2,none⟩=some c:=hb.cell 2
def Blk.c3 (hb:Blk w g t ⟨a :: b :: c :: d :: l⟩):w.cell? ⟨g,3,none⟩=some d:=hb.cell 3
def Blk.c4 (hb:Blk w g t ⟨a :: b :: c :: d :: e :: l⟩):w.cell? ⟨g,4,none⟩=some e:=hb.cell 4
def Blk.c5 (hb:Blk w g t ⟨a :: b :: c :: d :: e :: f :: l⟩):w.cell? ⟨g,5,none⟩=some f:=hb.cell 5
def Blk.c6 (hb:Blk w g t ⟨a :: b :: c :: d :: e :: f :: h :: l⟩):w.cell? ⟨g,6,none⟩=some h:=hb.cell 6
def Blk.c7 (hb:Blk w g t ⟨a :: b :: c :: d :: e :: f :: h :: i :: l⟩):w.cell? ⟨g,7,none⟩=some i:=hb.cell 7
def Blk.l2 (hb:Blk w g t ⟨[a,b]⟩):ldV w (some (some 2)) (.pointer (some ⟨g,0,none⟩))=some (.agg #[a,b]):=q7M hb rfl
def Blk.l3 (hb:Blk w g t ⟨[a,b,c]⟩):ldV w (some (some 3)) (.pointer (some ⟨g,0,none⟩))=some (.agg #[a,b,c]):=q7M hb rfl
def Blk.l4 (hb:Blk w g t ⟨[a,b,c,d]⟩):ldV w (some (some 4)) (.pointer (some ⟨g,0,none⟩))=some (.agg #[a,b,c,d]):=q7M hb rfl
def Blk.l6 (hb:Blk w g t ⟨[a,b,c,d,e,f]⟩):ldV w (some (some 6)) (.pointer (some ⟨g,0,none⟩))=some (.agg #[a,b,c,d,e,f]):=q7M hb rfl
end
def Rt.own {G:Fam} {D:Nat→Prop} {v:Value} {w w0 w1:World} {g a b:Nat} (hx:Ext w w0) (h:In G (Dx D a b) v w0) (k:Kp (fun k=>k≠g) w0 w1) (h1:a≤g) (h2:g < b) (hw:w.heap.size≤g):Rt G D w (.returned v) w1 :=
 ⟨v,rfl,hx.under k fun k hk=>by omega,(h.own k h1 h2).un⟩
end Go.E
namespace Go.Proofs.YtpbaikoblfcmdaaGreatDoor
open Go Go.E Go.Sp
def fB (z:Int):Fam:=⟨fun D v w=>∃ s A n c,v=.agg #[.bool s,.slice A n c]∧Big w D s A n c z,fun k ⟨s,A,n,c,e,h⟩=>⟨s,A,n,c,e,h.kp k⟩,fun k ⟨s,A,n,c,e,h⟩=>⟨s,A,n,c,e,h.sub k⟩⟩
def fU (l:List Nat):Fam:=⟨fun D v w=>∃ A n c,v=.slice A n c∧U32 w D A n c l,fun k ⟨A,n,c,e,h⟩=>⟨A,n,c,e,h.kp k⟩,fun k ⟨A,n,c,e,h⟩=>⟨A,n,c,e,h.sub k⟩⟩
def fV (V:Int):Fam:=⟨fun D v w=>∃ s A n c,v=.agg #[.bool false,.bool s,.slice A n c,.int .i64 (dyE V)]∧Big w D s A n c (od V)∧q0T V,fun k ⟨s,A,n,c,e,h,o⟩=>⟨s,A,n,c,e,h.kp k,o⟩,fun k ⟨s,A,n,c,e,h,o⟩=>⟨s,A,n,c,e,h.sub k,o⟩⟩
section
variable {D:Nat→Prop} {v:Value} {w w':World} {z V m e:Int} {l:List Nat} {s:Bool} {A:Option Addr} {n c:Nat}
def Big.in (h:Big w D s A n c z):In (fB z) D (.agg #[.bool s,.slice A n c]) w:=⟨s,A,n,c,rfl,h⟩
def U32.in (h:U32 w D A n c l):In (fU l) D (.slice A n c) w:=⟨A,n,c,rfl,h⟩
def Big.own {w1 w2:World} {g a b:Nat} (h:Big w1 (Dx D a b) s A n c z) (k:Kp (fun k=>k≠g) w1 w2) (h1:a≤g) (h2:g < b):Big w2 (Dx D a b) s A n c z:=h.kp (k.mono fun _ _ h=>Dx.ne h h1 h2)
def Big.un {a b:Nat} (h:Big w (Dx D a b) s A n c z):Big w D s A n c z:=h.sub fun _ _ h=>h.1
def U32.own {w1 w2:World} {g a b:Nat} (h:U32 w1 (Dx D a b) A n c l) (k:Kp (fun k=>k≠g) w1 w2) (h1:a≤g) (h2:g < b):U32 w2 (Dx D a b) A n c l:=h.kp (k.mono fun _ _ h=>Dx.ne h h1 h2)
end
end Go.Proofs.YtpbaikoblfcmdaaGreatDoor
namespace Go.E
open Go.Proofs.YtpbaikoblfcmdaaGreatDoor Go.Sp
section
variable {D:Nat→Prop} {v:Value} {w w':World} {z V m e:Int} {l:List Nat} {s:Bool} {A:Option Addr} {n c:Nat}
def In.big (h:In (fB z) D (.agg #[.bool s,.slice A n c]) w):Big w D s A n c z:=by
 obtain ⟨_,_,_,_,e,h⟩:=h; cases e; exact h
def In.u32 (h:In (fU l) D (.slice A n c) w):U32 w D A n c l:=by
 obtain ⟨_,_,_,e,h⟩:=h; cases e; exact h
def In.sg (h:In (fB z) D (.agg #[.bool s,.slice A n c]) w):s=decide (z < 0):=h.big.1
def In.ok (h:In (fV V) D v w):q0T V:=by obtain ⟨_,_,_,_,_,_,h⟩:=h; exact h
end
end Go.E
namespace Go.Proofs.YtpbaikoblfcmdaaGreatDoor
open Go Go.E Go.Sp
section
variable {D:Nat→Prop} {v:Value} {w w':World} {z V m e:Int} {l:List Nat} {s:Bool} {A:Option Addr} {n c:Nat}
end
section
variable {D:Nat→Prop} {v v':Value} {w:World} {a b:Int}
end
end Go.Proofs.YtpbaikoblfcmdaaGreatDoor
namespace Go.E
open Go Go.RowKit
def q06 (vs:List Value):List Value:=vs.flatMap fun v=>v.cells.toList
def Cel (sz:Nat) (v:Value):Prop:=v.cells.size=sz∧v.cells.toList.all (·.oneCell')=true
structure Els {α:Type} (G:α→Fam) (D:Nat→Prop) (sz:Nat) (w:World) (l:List α) (vs:List Value):Prop where
 len:vs.length=l.length
 get:∀ (i:Nat) (x:α),l[i]?=some x→∃ v,vs[i]?=some v∧In (G x) D v w∧Cel sz v
section
variable {α:Type} {G:α→Fam} {D D':Nat→Prop} {sz:Nat} {w w':World} {l:List α} {vs:List Value}
def Els.kp (h:Els G D sz w l vs) (k:Kp D w w'):Els G D sz w' l vs:=⟨h.len,fun i x hx=>by obtain ⟨v,a,b,c⟩:=h.get i x hx; exact ⟨v,a,b.kp k,c⟩⟩
def Els.sub (h:Els G D sz w l vs) (k:∀ k,k < w.heap.size→D k→D' k):Els G D' sz w l vs:=⟨h.len,fun i x hx=>by obtain ⟨v,a,b,c⟩:=h.get i x hx; exact ⟨v,a,b.sub k,c⟩⟩
def Els.nil:Els G D sz w [] []:=⟨rfl,fun i x hx=>by simp at hx⟩
def Els.snoc (h:Els G D sz w l vs) {x:α} {v:Value} (hv:In (G x) D v w) (hc:Cel sz v):Els G D sz w (l ++ [x]) (vs ++ [v]):=by
 refine ⟨by simp [h.len],fun i y hy=>?_⟩
 rcases Nat.lt_or_ge i l.length with hi | hi
 ·rw [List.getElem?_append_left hi] at hy;obtain ⟨u,a,b⟩:=h.get i y hy;exact ⟨u,by rw [List.getElem?_append_left (by rw [h.len]; exact hi)]; exact a,b⟩
 ·rw [List.getElem?_append_right hi] at hy;have h0:i-l.length=0:=by
   rcases Nat.eq_zero_or_pos (i-l.length) with h0 | h0
   ·exact h0
   ·rw [List.getElem?_eq_none (by simp; omega)] at hy; cases hy
  rw [h0] at hy;simp only [List.getElem?_cons_zero,Option.some.injEq] at hy;subst hy;refine ⟨v,?_,hv,hc⟩;rw [List.getElem?_append_right (by rw [h.len]; exact hi),h.len,h0]; rfl
def q4z {vs:List Value} {sz:Nat} (hv:∀ v ∈ vs,v.cells.size=sz) {i j:Nat} {v:Value} (hi:vs[i]?=some v) (hj:j < sz):(q06 vs)[i*sz+j]?=v.cells[j]?:=by
 induction vs generalizing i with
 | nil=>simp at hi
 | cons u vs ih =>
  have h1:=hv u List.mem_cons_self;unfold q06 at *;rw [List.flatMap_cons];cases i with
  | zero =>
   simp at hi; subst hi;rw [List.getElem?_append_left (by simp; omega)]; simp
  | succ i =>
   rw [List.getElem?_append_right (by rw [Array.length_toList,h1,Nat.succ_mul]; omega),Array.length_toList,h1];have:=ih (fun x hx=>hv x (List.mem_cons_of_mem _ hx)) (i:=i) (by simpa using hi);rw [← this]; congr 1; rw [Nat.succ_mul]; omega
end
def fSl {α : Type} (sz : Nat) (G : α → Fam) (l : List α) : Fam :=
  ⟨fun D v w => ∃ A n c vs, v = .slice A n c ∧ Row w D sz A n c (q06 vs) ∧ Els G D sz w l vs ∧ l.length = n,
   fun k ⟨A, n, c, vs, e, h1, h2, h3⟩ => ⟨A, n, c, vs, e, h1.kp k, h2.kp k, h3⟩,
   fun k ⟨A, n, c, vs, e, h1, h2, h3⟩ => ⟨A, n, c, vs, e, h1.sub k, h2.sub k, h3⟩⟩
def fSc {α:Type} (f:α→Value) (l:List α):Fam :=
 ⟨fun D v w=>∃ A n c,v=.slice A n c∧Row w D 1 A n c (l.map f),fun k ⟨A,n,c,e,h⟩=>⟨A,n,c,e,h.kp k⟩,fun k ⟨A,n,c,e,h⟩=>⟨A,n,c,e,h.sub k⟩⟩
section
variable {α:Type} {G:α→Fam} {f:α→Value} {D D':Nat→Prop} {sz:Nat} {w w':World} {l:List α} {vs:List Value} {A:Option Addr} {n c:Nat} {v:Value}
def In.sc_row (h:In (fSc f l) D (.slice A n c) w):Row w D 1 A n c (l.map f):=by
 obtain ⟨_,_,_,e,h⟩:=h; cases e; exact h
def In.sc_len (h:In (fSc f l) D (.slice A n c) w):l.length=n:=by have:=h.sc_row.len; simpa using this
def Row.sc (h:Row w D 1 A n c (l.map f)):In (fSc f l) D (.slice A n c) w:=⟨A,n,c,rfl,h⟩
def In.sc_nil:In (fSc f ([]:List α)) D (.slice none 0 0) w:=⟨none,0,0,rfl,Row.nil _ _ _⟩
def qk1 {w:World} {p:Addr}:∀ (cs:List Value) (i:Nat),(∀ j u,cs[j]?=some u→w.cell? (p.add (i+j))=some u)→q0s w p i cs.length=some cs
 | [],_,_=>rfl
 | c :: cs,i,h=>by
  rw [List.length_cons,rd_s,show w.cell? (p.add i)=some c from h 0 c rfl,qk1 cs (i+1) (fun j u hu=>by rw [show i+1+j=i+(j+1) by omega]; exact h (j+1) u (by simpa using hu))]; rfl
def qb5 {α:Type} (G:α→Fam) (T sz:Nat) (w:World) (D:Nat→Prop) (B:Nat) (A:Option Addr) (n c:Nat) (l:List α):Prop :=
 ∃ vs,Own w B T sz A n c (q06 vs)∧Els G (fun k=>D k∧nb A k) sz w l vs∧l.length=n
variable {T B:Nat}
def qb5.nil:qb5 G T sz w D B none 0 0 []:=⟨[],Own.nil _ _ _ _,Els.nil,rfl⟩
def qb5.in (h:qb5 G T sz w D B A n c l) (hd:∀ k,B≤k→D k):In (fSl sz G l) D (.slice A n c) w:=by
 obtain ⟨vs,h1,h2,h3⟩:=h;exact ⟨A,n,c,vs,rfl,h1.row.sub fun k _ hk=>hd k hk,h2.sub fun k _ hk=>hk.1,h3⟩
def qb5.len (h:qb5 G T sz w D B A n c l):l.length=n:=by obtain ⟨_,_,_,h⟩:=h; exact h
def qb5.ext (h:qb5 G T sz w D B A n c l) (k:Ext w w'):qb5 G T sz w' D B A n c l:=by
 obtain ⟨vs,h1,h2,h3⟩:=h;exact ⟨vs,h1.ext k,h2.kp (Kp.of_ext k),h3⟩
def qb5.kp (h:qb5 G T sz w D B A n c l) {D':Nat→Prop} (k:Kp D' w w') (hd:∀ k,D k→D' k) (ha:∀ a,A=some a→D' a.block):qb5 G T sz w' D B A n c l:=by
 obtain ⟨vs,h1,h2,h3⟩:=h;exact ⟨vs,h1.kp k ha,h2.kp (k.mono fun j _ hj=>hd j hj.1),h3⟩
end
section
variable {P:Program} {w:World} {α:Type} {G:α→Fam}
end
end Go.E
namespace Go.Sp
def qb0 (q r a b:Nat) (ha:a < 2) (hb:b < 2):(2*q+a) &&& (2*r+b)=2*(q &&& r)+(a*b):=by
 have hab:a*b < 2:=by
  rcases Nat.lt_or_ge a 1 with h | h
  ·rw [show a=0 by omega]; simp
  ·rw [show a=1 by omega]; omega
 apply Nat.eq_of_testBit_eq
 intro i;cases i with
 | zero =>
  rw [Nat.testBit_and,Nat.testBit_zero,Nat.testBit_zero,Nat.testBit_zero];have e1:(2*q+a) % 2=a:=by omega
  have e2:(2*r+b) % 2=b:=by omega
  have e3:(2*(q &&& r)+a*b) % 2=a*b:=by omega
  rw [e1,e2,e3]
  rcases Nat.lt_or_ge a 1 with h | h
  ·rw [show a=0 by omega]; simp
  ·rw [show a=1 by omega]; simp
 | succ i =>
  rw [Nat.testBit_and,Nat.testBit_succ,Nat.testBit_succ,Nat.testBit_succ];have e1:(2*q+a) / 2=q:=by omega
  have e2:(2*r+b) / 2=r:=by omega
  have e3:(2*(q &&& r)+a*b) / 2=q &&& r:=by omega
  rw [e1,e2,e3,Nat.testBit_and]
def qj2 {q n:Nat} (h:q < 2 ^ n):q &&& (2 ^ n-(q+1))=0:=by
 apply Nat.eq_of_testBit_eq
 intro i;rw [Nat.testBit_and,Nat.testBit_two_pow_sub_succ h,Nat.zero_testBit];cases q.testBit i <;> simp
def iso:∀ {n x:Nat},0 < x→x < 2 ^ n→x &&& (2 ^ n-x)=2 ^ tz x
 | 0,x,h1,h2=>by simp at h2; omega
 | n+1,x,h1,h2=>by
  rw [Nat.pow_succ] at h2
  by_cases ho:x % 2=1
  ·rw [qaN ho];have hq:x / 2 < 2 ^ n:=by omega
   have e1:x=2*(x / 2)+1:=by omega
   have e2:2 ^ (n+1)-x=2*(2 ^ n-(x / 2+1))+1:=by rw [Nat.pow_succ]; omega
   rw [e2];generalize hy:x / 2=y at *;rw [e1,qb0 _ _ 1 1 Oq Oq,qj2 hq]
  ·have hq:x / 2 < 2 ^ n:=by omega
   have e1:x=2*(x / 2)+0:=by omega
   have e2:2 ^ (n+1)-x=2*(2 ^ n-x / 2)+0:=by rw [Nat.pow_succ]; omega
   have ht:tz x=tz (x / 2)+1:=by
    have:=qjq (n:=x / 2) Oq 1
    rwa [show x / 2*2 ^ 1=x by omega] at this
   have ih:=iso (n:=n) (x:=x / 2) Oq hq;rw [ht,e2,Nat.pow_succ,← ih];generalize hy:x / 2=y at *;rw [e1,qb0 _ _ 0 0 Oq (by omega)]; omega
def qdN:List Nat:=[0,1,28,2,29,14,24,3,30,22,20,15,25,17,4,8,31,27,13,23,21,19,16,7,26,12,18,6,11,5,10,9]
def qmN:((List.range 32).all fun k=>Nat.beq (qdN.getD (2 ^ k*125613361 % 4294967296 / 134217728) 99) k)=true:=by decide
def qmM {k:Nat} (h:k < 32):qdN.getD (2 ^ k*125613361 % 4294967296 / 134217728) 99=k:=by
 have:=qmN;rw [List.all_eq_true] at this;exact Nat.eq_of_beq_eq_true (this k (List.mem_range.2 h))
end Go.Sp
namespace Go.Proofs.YtpbaikoblfcmdaaGreatDoor
open Go Go.E Go.Sp
def q5t (w:World):Prop:=∀ k,k < 32→w.cell? ⟨0,k,none⟩=some (.int .u8 ((qdN.getD k 99:Nat):Int))
def q5t.ext {w w':World} (h:q5t w) (k:Ext w w'):q5t w':=fun i hi=>k.cell (D:=fun _=>True) trivial (h i hi)
def qut:qc1 Tryz.prog 349=some (32,1):=by kernel_rfl
def qmF {x:Nat} {w:World} (hT:q5t w) (hx0:0 < x) (hx:x < 4294967296) :
  Calls Tryz.prog 306 #[.int .u32 x] w fun e w'=>e=.returned (.int .i64 (tz x:Nat))∧w=w':=by
 refine q5j Tryz.func306 rfl Tryz.ntmps306 (by kernel_rfl) ?_;refine Wz ?_;refine q9z fun K0 hK0=>?_;have h0:((x:Int) == 0)=false:=by rw [beq0]; exact decide_eq_false Oq
 refine Wz ?_;refine q8p rfl (fun hc=>by rw [h0] at hc; cases hc) (fun hc=>qb3 (hK0 _ _ ?_));clear hK0;have ht:=q6g Oq hx;have hp:2 ^ tz x < 4294967296:=Nat.pow_lt_pow_right Oq ht;have e1:IntKind.u32.wrap (0-(x:Int))=((4294967296-x:Nat):Int):=by rw [q2V]; omega
 have e2:q0i .and .u32 (x:Int) ((4294967296-x:Nat):Int)=((2 ^ tz x:Nat):Int):=by
  rw [qb1 hx (by omega)];exact congrArg Nat.cast (iso (n:=32) hx0 hx)
 have e3:IntKind.u32.wrap (((2 ^ tz x:Nat):Int)*125613361)=((2 ^ tz x*125613361 % 4294967296:Nat):Int):=by rw [q2V]; omega
 have hi:2 ^ tz x*125613361 % 4294967296 / 134217728 < 32:=by omega
 have e4:(0:Int)≤((2 ^ tz x*125613361 % 4294967296 / 134217728:Nat):Int)∧((2 ^ tz x*125613361 % 4294967296 / 134217728:Nat):Int) < (32:Nat):=by omega
 have hg:=hT _ hi;rw [qmM ht] at hg;have e5:IntKind.i64.wrap ((tz x:Nat):Int)=((tz x:Nat):Int):=i64_in Oq Oq;refine q1I fun K hK=>?_;simp -implicitDefEqProofs (disch:=omega) only [go_sem,Nat.reduceEqDiff,Nat.reduceAdd,↓reduceIte,e1,e2,e3,e4,qut,hg,e5,ev];refine hK _ _ ?_; clear hK K;refine qj9 ?_
 try simp only [q9K,qn5]
 refine ret1 rfl ⟨rfl,rfl⟩


def q0r {V:Int} (h:q0T V) : -65536≤dyE V∧dyE V≤65536∧bl (od V).natAbs≤131072:=⟨q6U,by have:=q6T h; omega,q22 h⟩
end Go.Proofs.YtpbaikoblfcmdaaGreatDoor
namespace Go.Sp
def qd8 (a k:Nat):shI (a:Int) (-(k:Int))=((a / 2 ^ k:Nat):Int):=by
 unfold shI
 split
 ·rename_i h;have:k=0:=by omega
  subst this; simp
 ·rw [show (- -(k:Int)).toNat=k by omega,← q03]; rfl
def q3J {a:Nat}:(tz a=0∧a≠0) ↔ a % 2=1:=by
 constructor
 ·rintro ⟨h1,h2⟩;obtain ⟨q,hq,he⟩:=q2b h2;rw [h1] at he; omega
 ·intro h; exact ⟨qaN h,by omega⟩
def q1B (l:List Int):Int:=l.foldl (·+·) 0
def q0q (l:List Int) (x:Int):q1B (l ++ [x])=q1B l+x:=by simp [q1B,List.foldl_append]
def q2Y:q1B []=0:=rfl
def q5S (l:List Int) (i:Nat) (x:Int) (h:l[i]?=some x):q1B (l.take (i+1))=q1B (l.take i)+x:=by
 obtain ⟨hlt,he⟩:=List.getElem?_eq_some_iff.1 h;rw [List.take_succ_eq_append_getElem hlt,q0q,he]
def qdW {K:Nat}:∀ (i:Nat) (l:List Int),(∀ x ∈ l,bl x.natAbs≤K)→(q1B (l.take i)).natAbs≤i*2 ^ K
 | 0,l,_=>by rw [List.take_zero]; exact Nat.zero_le _
 | i+1,l,h=>by
  have ih:=qdW i l h;cases hx:l[i]? with
  | none =>
   have:l.take (i+1)=l.take i:=by rw [List.take_of_length_le (by have:=List.getElem?_eq_none_iff.1 hx; omega),List.take_of_length_le (List.getElem?_eq_none_iff.1 hx)]
   rw [this,Nat.add_mul,Nat.one_mul]; exact Nat.le_trans ih (Nat.le_add_right _ _)
  | some x =>
   rw [q5S l i x hx,Nat.add_mul,Nat.one_mul];have h1:=q1a (h x (List.mem_of_getElem? hx));refine Nat.le_trans (Int.natAbs_add_le _ _) ?_;exact Nat.add_le_add ih (Nat.le_of_lt h1)
def q5R {K i:Nat} {l:List Int} (h:∀ x ∈ l,bl x.natAbs≤K) (hi:i≤1024):bl (q1B (l.take i)).natAbs≤K+11:=by
 refine q0O (Nat.lt_of_le_of_lt (qdW i l h) ?_);have h2:i*2 ^ K≤1024*2 ^ K:=Nat.mul_le_mul_right _ hi;have h3:2 ^ (K+11)=2 ^ K*2048:=by rw [Nat.pow_add]
 have:=q0H K;omega
def qkA {i:Nat} {l:List Int} (h:∀ x ∈ l,q0T x) (hi:i≤1024):bl (q1B (l.take i)).natAbs≤131083:=q5R h hi
def q3u {m S:Int} {k:Nat} (h:m*(2:Int) ^ k=S):bl m.natAbs≤bl S.natAbs:=by
 rw [← h,q0M];exact q0t (Nat.le_mul_of_pos_right _ (q0H k))
end Go.Sp
namespace Go.E
open Go Go.Sp
section
variable {P:Program} {t:TypeId} {k':IntKind} {a b:Nat}
def qhE:q0w P .shr t (.int .u64 (a:Int)) (.int k' 52)=some (.int .u64 ((a / 4503599627370496:Nat):Int)):=by
 rw [q1x,if_neg (by omega)];exact congrArg (fun x=>some (Value.int .u64 x)) (q88 a 4503599627370496)
def qm7:q0w P .shr t (.int .u64 (a:Int)) (.int k' 1)=some (.int .u64 ((a / 2:Nat):Int)):=by
 rw [q1x,if_neg (by omega)];exact congrArg (fun x=>some (Value.int .u64 x)) (q88 a 2)
def q3x (ha:a < 18446744073709551616):q0i .and .u64 (a:Int) 2047=((a % 2048:Nat):Int):=by
 have:=q3z ha (show 2047 < 18446744073709551616 by omega);rw [Nat.and_two_pow_sub_one_eq_mod a 11] at this;exact this
def q75 (ha:a < 18446744073709551616):q0i .and .u64 (a:Int) 4503599627370495=((a % 4503599627370496:Nat):Int):=by
 have:=q3z ha (show 4503599627370495 < 18446744073709551616 by omega);rw [Nat.and_two_pow_sub_one_eq_mod a 52] at this;exact this
def q1Z (ha:a < 18446744073709551616):q0i .and .u64 (a:Int) 4294967295=((a % 4294967296:Nat):Int):=by
 have:=q3z ha (show 4294967295 < 18446744073709551616 by omega);rw [Nat.and_two_pow_sub_one_eq_mod a 32] at this;exact this
def q74 (ha:a < 18446744073709551616):q0i .and .u64 (a:Int) 1=((a % 2:Nat):Int):=by
 have:=q3z ha (show 1 < 18446744073709551616 by omega);rw [Nat.and_two_pow_sub_one_eq_mod a 1] at this;exact this
def qp6 (a k:Nat):a &&& 2 ^ k=if a.testBit k=true then 2 ^ k else 0:=by
 apply Nat.eq_of_testBit_eq; intro i
 rw [Nat.testBit_and,Nat.testBit_two_pow]
 by_cases h:k=i
 ·subst h; cases ht:a.testBit k <;> simp [Nat.testBit_two_pow]
 ·simp only [h,decide_false,Bool.and_false]
  split <;> simp [Nat.testBit_two_pow,h]
def qj1 (ha:a < 18446744073709551616):q0i .and .u64 (a:Int) 9223372036854775808=if 9223372036854775808≤a then 9223372036854775808 else 0:=by
 have:=q3z ha (show 9223372036854775808 < 18446744073709551616 by omega);have h2:a &&& 9223372036854775808=if 9223372036854775808≤a then 9223372036854775808 else 0:=by
  have key:=qp6 a 63;rw [Nat.testBit_eq_decide_div_mod_eq] at key;rw [show (9223372036854775808:Nat)=2 ^ 63 by rfl,key]
  by_cases h:9223372036854775808≤a
  ·rw [if_pos (decide_eq_true Oq),if_pos (by omega)]
  ·rw [if_neg (by rw [decide_eq_true_eq]; omega),if_neg (by omega)]
 rw [h2] at this;rw [show (9223372036854775808:Int)=((9223372036854775808:Nat):Int) by rfl,this]
 split <;> rfl
def q91 (ha:a < 18446744073709551616):(q0i .and .u64 (a:Int) 9223372036854775808 != 0)=decide (9223372036854775808≤a):=by
 rw [qj1 ha]
 split
 ·rename_i h; rw [decide_eq_true h]; rfl
 ·rename_i h; rw [decide_eq_false h]; rfl
def qk6 (ha:a < 4503599627370496):q0i .or .u64 (a:Int) 4503599627370496=((4503599627370496+a:Nat):Int):=by
 have:=qbz (a:=a) (b:=4503599627370496) Oq Oq;have h2:=q2A (c:=a) (m:=1) (k:=52) Oq;rw [Nat.one_mul] at h2;rw [show a ||| 4503599627370496=a+4503599627370496 from h2] at this;rw [show (4503599627370496:Int)=((4503599627370496:Nat):Int) by rfl,this,Nat.add_comm]
def qeI (ha:a < 9223372036854775808):q0i .or .u64 (a:Int) 9223372036854775808=((a+9223372036854775808:Nat):Int):=by
 have:=qbz (a:=a) (b:=9223372036854775808) Oq Oq;have h2:=q2A (c:=a) (m:=1) (k:=63) Oq;rw [Nat.one_mul] at h2;rw [show a ||| 9223372036854775808=a+9223372036854775808 from h2] at this;rw [show (9223372036854775808:Int)=((9223372036854775808:Nat):Int) by rfl,this]
def q6r (h:a < 4096):q0w P .shl t (.int .u64 (a:Int)) (.int k' 52)=some (.int .u64 ((a*4503599627370496:Nat):Int)):=by
 have:=qd7 (P:=P) (t:=t) (k':=k') (a:=a) (b:=52) Oq;rw [show a*2 ^ 52 % 18446744073709551616=a*4503599627370496 by omega] at this;exact this
def qeJ (ha:a < 2048) (hb:b < 4503599627370496):q0i .or .u64 ((a*4503599627370496:Nat):Int) (b:Int)=((a*4503599627370496+b:Nat):Int):=by
 have:=qbz (a:=a*4503599627370496) (b:=b) Oq Oq;have h2:=q2A (c:=b) (m:=a) (k:=52) Oq;rw [this,Nat.or_comm,show b ||| a*4503599627370496=b+a*4503599627370496 from h2,Nat.add_comm]
end
attribute [go_sem high] qhE qm7
end Go.E
namespace Go.Sp
open Go.E
def q0J (f:Nat):Prop:=f / 4503599627370496 % 2048≠2047
instance (f:Nat):Decidable (q0J f):=by unfold q0J; infer_instance
def q6O {m E:Int} (hE : -65536≤E) (hb:bl m.natAbs+(E+65536).toNat≤131072):mkV m E=some (m*(2:Int) ^ (E+65536).toNat):=by
 rw [q3e hE rfl];refine q2C ?_;unfold q0T
 by_cases h:m=0
 ·subst h; rw [Int.zero_mul]; exact Nat.zero_le _
 ·rw [q0M,q1G (by omega)]; exact hb
def q9Z {f:Nat} (hf:q0J f):∃ V,ofF f=some V∧mkV (sgn (decide (9223372036854775808≤f)) (if f / 4503599627370496 % 2048=0 then f % 4503599627370496 else 4503599627370496+f % 4503599627370496)) (if f / 4503599627370496 % 2048=0 then -1074 else (f / 4503599627370496 % 2048:Nat)-1075)=some V:=by
 unfold q0J at hf;have hx:=Nat.mod_lt (f / 4503599627370496) (show 0 < 2048 by omega);have hm:=Nat.mod_lt f (show 0 < 4503599627370496 by omega);unfold ofF;rw [if_neg hf];generalize f / 4503599627370496 % 2048=x at *;generalize f % 4503599627370496=m at *
 split
 ·refine ⟨_,rfl,?_⟩;have hb:bl m≤52:=q0O hm;rw [q6O Oq (by rw [q1V]; omega)]; rfl
 ·refine ⟨_,rfl,?_⟩;have hb:bl (4503599627370496+m)≤53:=q0O (Nat.lt_of_lt_of_le (show 4503599627370496+m < 9007199254740992 by omega) (Nat.le_refl _));rw [q6O Oq (by rw [q1V]; omega)];rw [show ((x:Int)-1075+65536).toNat=64461+x by omega]
def fR (mode V:Int):Nat:=if V=0 then 0 else rF mode (decide (V < 0)) V.natAbs (2 ^ 65536)
def fQ (mode a b:Int):Nat:=if a=0 then 0 else rF mode (decide (a < 0) != decide (b < 0)) a.natAbs b.natAbs
def rE_VK {mode V:Int} {neg:Bool} {K:Nat} (hK:K=65536) (h:V≠0):rE mode neg (od V).natAbs 1 (dyE V)=rF mode neg V.natAbs (2 ^ K):=by
 have h1:=q6L V;have h2:=q3O h;have ho:0 < (od V).natAbs:=by omega
 have hd:dyE V=(tz V.natAbs:Int)-65536:=by unfold dyE; rw [if_neg h]
 have hV:0 < V.natAbs:=by omega
 unfold rE;refine q7A (Nat.mul_pos ho (q0H _)) (Nat.mul_pos Nat.one_pos (q0H _)) hV (q0H _) ?_;generalize dyE V=e at *;generalize tz V.natAbs=k at *;rw [← h1,Nat.one_mul,Nat.mul_assoc,Nat.mul_assoc,← Nat.pow_add,← Nat.pow_add]
 congr 2; omega
def rE_V {mode V:Int} {neg:Bool} (h:V≠0):rE mode neg (od V).natAbs 1 (dyE V)=rF mode neg V.natAbs (2 ^ 65536):=rE_VK (K:=65536) rfl h
def qmm {mode:Int} {neg:Bool} {N D:Nat}:N / D≤rq mode neg N D:=by unfold rq; (repeat' split) <;> omega
def n_ge {mode:Int} {neg:Bool} {N D:Nat} {e q:Int} (hD:0 < D) (h:D≤N) (hq:q=e+bl (N / D)-53):4503599627370496≤rq mode neg (N*2 ^ (e-q).toNat) (D*2 ^ (q-e).toNat):=by
 refine Nat.le_trans ?_ qmm;rw [q9m];have h1:=qcF hD h (e-q).toNat;have hp:=Nat.div_pos h hD;have hb:=q3v (n:=N / D) Oq;have h52:(2:Nat) ^ 52=4503599627370496:=by decide
 rw [← h52,Nat.le_div_iff_mul_le (q0H _),← Nat.pow_add];have hne:N*2 ^ (e-q).toNat / D≠0:=fun h0=>by
  rw [h0,q0h] at h1; omega
 have h2:=q72 hne;rw [h1] at h2;rw [show 52+(q-e).toNat=bl (N / D)+(e-q).toNat-1 by omega];exact h2
def qmu {mode:Int} {neg:Bool} {N D:Nat} {e:Int} (hD:0 < D) (h:D≤N) (ht:1024≤e+bl (N / D)-1):rE mode neg N D e=q9Y mode neg:=by
 rw [qbw hD h];have hq:max (e+(bl (N / D):Int)-53) (-1074)=e+bl (N / D)-53:=by omega
 rw [hq];have hn:=n_ge (mode:=mode) (neg:=neg) hD h (q:=e+bl (N / D)-53) rfl;unfold fin q47
 split
 ·rw [if_neg Oq,if_pos (by omega)]
 ·rw [if_neg Oq,if_pos (by omega)]
end Go.Sp
namespace Go.Proofs.YtpbaikoblfcmdaaGreatDoor
open Go Go.E Go.Sp
def qpk.len {w:World} {Bd n c:Nat} {A:Option Addr} {o:List Nat} (h:qpk w Bd A n c o):o.length=n:=by have:=h.1.len; simpa using this
def qpk.ext {w w':World} {Bd n c:Nat} {A:Option Addr} {o:List Nat} (h:qpk w Bd A n c o) (k:Ext w w'):qpk w' Bd A n c o:=⟨h.1.ext k,h.2⟩
end Go.Proofs.YtpbaikoblfcmdaaGreatDoor
namespace Go.E
open Go
end Go.E
namespace Go.Proofs.YtpbaikoblfcmdaaGreatDoor
open Go Go.E Go.Sp


section
variable {D:Nat→Prop} {v v':Value} {w:World} {x y:Nat} {l:List Nat}
end
section
variable {D:Nat→Prop} {v v':Value} {w:World} {x y:Nat} {a b:Int}
end
def q5l:bl 1=1:=rfl
section
variable {D:Nat→Prop} {v v':Value} {w:World} {x y d:Nat} {a b:Int}
end
end Go.Proofs.YtpbaikoblfcmdaaGreatDoor
namespace Go.E
open Go
end Go.E
namespace Go.Proofs.YtpbaikoblfcmdaaGreatDoor
open Go Go.E Go.Sp
section
variable {D:Nat→Prop} {v v':Value} {w:World} {x y d:Nat} {a b:Int}
end
end Go.Proofs.YtpbaikoblfcmdaaGreatDoor
namespace Go.Sp
open Go.E
section
variable {p T U V v1 v0 q rest top u0:Nat}
def qoU (hU:U < (T+1)*p) (hV:(v1*B+v0)*p≤V) (hT:T=top*B+u0) (hr:rest+q*v1=top) (hc:rest*B+u0 < q*v0):U < q*V:=by
 have h1:T+1≤q*(v1*B+v0):=by
  rw [hT,← hr,Nat.add_mul,Nat.mul_add,← Nat.mul_assoc];generalize q*v1*B=x at *;generalize rest*B=y at *;omega
 refine Nat.lt_of_lt_of_le hU (Nat.le_trans (Nat.mul_le_mul_right p h1) ?_);rw [Nat.mul_assoc];exact Nat.mul_le_mul_left q hV
def qf0 (hU:T*p≤U) (hV:V≤(v1*B+v0+1)*p) (hT:T=top*B+u0) (hr:rest+q*v1=top) (hc:q*v0≤rest*B+u0) (hq:q≤v1*B+v0+1):(q-1)*V≤U:=by
 rcases Nat.eq_zero_or_pos q with h0 | h0
 ·subst h0; simp
 have h1:q*(v1*B+v0)≤T:=by
  rw [hT,← hr,Nat.add_mul,Nat.mul_add,← Nat.mul_assoc];generalize q*v1*B=x at *;generalize rest*B=y at *;omega
 have h2:(q-1)*(v1*B+v0+1)≤q*(v1*B+v0):=by
  generalize v1*B+v0=W at *;obtain ⟨k,rfl⟩:∃ k,q=k+1:=⟨q-1,by omega⟩;rw [Nat.add_sub_cancel,Nat.mul_add,Nat.add_mul,Nat.mul_one,Nat.one_mul];omega
 refine Nat.le_trans (Nat.mul_le_mul_left (q-1) hV) (Nat.le_trans ?_ hU);rw [← Nat.mul_assoc];exact Nat.mul_le_mul_right p (Nat.le_trans h2 h1)
end
def qeT {u P b t:Nat} (hu:u < 4294967296) (hb:b≤1) (ht:t=(u+18446744073709551616-P % 4294967296-b) % 18446744073709551616) :
  P % 4294967296+b+t % 4294967296=u+4294967296*(t / 4294967296 % 2)∧t / 4294967296 % 2≤1:=by
 have:=Nat.mod_lt P (show 0 < 4294967296 by omega);omega
def q8R {W i c b x u q Ui Vi t:Nat} (h:W+q*Vi=Ui+B ^ i*(c+b)) (hu:u < 4294967296) (hb:b≤1) (ht:t=(u+18446744073709551616-(q*x+c) % 4294967296-b) % 18446744073709551616) :
  W+B ^ i*(t % 4294967296)+q*(Vi+B ^ i*x)=Ui+B ^ i*u+B ^ (i+1)*((q*x+c) / 4294967296+t / 4294967296 % 2):=by
 obtain ⟨h1,_⟩:=qeT hu hb ht;have h2:=Nat.div_add_mod (q*x+c) 4294967296;have hB:B=4294967296:=rfl;rw [Nat.pow_succ,Nat.mul_add q,Nat.mul_left_comm q];generalize (q*x+c) / 4294967296=d at *;generalize (q*x+c) % 4294967296=m at *;generalize hy:q*x=y at *;generalize t / 4294967296 % 2=b' at *;generalize t % 4294967296=r at *;generalize B ^ i=X at *;have e1:X*B*(d+b')=X*(4294967296*d)+X*(4294967296*b'):=by rw [hB,Nat.mul_assoc,← Nat.mul_add,Nat.mul_add]
 have e2:X*(c+b)+X*r+X*y=X*u+X*(4294967296*d)+X*(4294967296*b'):=by
  rw [← Nat.mul_add,← Nat.mul_add,← Nat.mul_add,← Nat.mul_add]
  congr 1
  omega
 rw [e1];omega
def qh9 {W n c b u q Un V t:Nat} (h:W+q*V=Un+B ^ n*(c+b)) (hu:u < 4294967296) (hc:c+b≤4294967296) (ht:t=(u+18446744073709551616-c-b) % 18446744073709551616) :
  W+B ^ n*(t % 4294967296)+q*V=Un+B ^ n*u+B ^ (n+1)*(t / 4294967296 % 2)∧t / 4294967296 % 2≤1:=by
 have h1:c+b+t % 4294967296=u+4294967296*(t / 4294967296 % 2)∧t / 4294967296 % 2≤1:=by omega
 refine ⟨?_,h1.2⟩;have hB:B=4294967296:=rfl;rw [Nat.pow_succ];generalize t / 4294967296 % 2=b' at *;generalize t % 4294967296=r at *;generalize B ^ n=X at *;have e1:X*B*b'=X*(4294967296*b'):=by rw [hB,Nat.mul_assoc]
 have e2:X*(c+b)+X*r=X*u+X*(4294967296*b'):=by
  rw [← Nat.mul_add,← Nat.mul_add]
  congr 1
  omega
 rw [e1];omega
def qfa {U V q M W ng:Nat} (hV:0 < V) (hle:(q-1)*V≤U) (hlt:U < (q+1)*V) (hW:W < M) (hVM:V≤M) (h:W+q*V=U+M*ng) (hn:ng≤1) :
  (ng=0→U / V=q∧U % V=W)∧(ng=1→0 < q∧U / V=q-1∧(W+V) % M=U % V∧U % V < V):=by
 refine ⟨fun h0=>?_,fun h1=>?_⟩
 ·subst h0;rw [Nat.mul_zero,Nat.add_zero] at h;have hWV:W < V:=by
   rw [Nat.add_mul,Nat.one_mul] at hlt;omega
  have e:U=V*q+W:=by rw [Nat.mul_comm]; omega
  rw [e];exact ⟨by rw [Nat.mul_add_div hV,Nat.div_eq_of_lt hWV,Nat.add_zero],by rw [Nat.mul_add_mod,Nat.mod_eq_of_lt hWV]⟩
 ·subst h1;rw [Nat.mul_one] at h;have hq:0 < q:=by
   rcases Nat.eq_zero_or_pos q with h0 | h0
   ·subst h0; rw [Nat.zero_mul] at h; omega
   ·exact h0
  obtain ⟨k,rfl⟩:∃ k,q=k+1:=⟨q-1,by omega⟩;rw [Nat.add_sub_cancel] at hle ⊢;rw [Nat.add_mul,Nat.one_mul] at h;have hr:U-k*V < V:=by omega
  have e:U=V*k+(U-k*V):=by rw [Nat.mul_comm]; omega
  have e1:U / V=k:=by rw [e,Nat.mul_add_div hV,Nat.div_eq_of_lt hr,Nat.add_zero]
  have e2:U % V=U-k*V:=by
   have:=Nat.div_add_mod U V;rw [e1,Nat.mul_comm] at this;omega
  refine ⟨hq,e1,?_,Nat.mod_lt _ hV⟩;rw [e2,show W+V=U-k*V+M*1 by omega,Nat.add_mul_mod_self_left,Nat.mod_eq_of_lt (by omega)]
def q2H (o:List Nat) (j i:Nat):val ((o.drop j).take (i+1))=val ((o.drop j).take i)+B ^ i*o.getD (j+i) 0:=by
 rw [vts,List.getD_eq_getElem?_getD,List.getElem?_drop,← List.getD_eq_getElem?_getD]
def qa1 (o:List Nat) (j i d:Nat):((o.set (j+i) d).drop j).take i=(o.drop j).take i:=by
 apply List.ext_getElem?
 intro k;rw [List.getElem?_take,List.getElem?_take]
 split
 ·rw [List.getElem?_drop,List.getElem?_drop,List.getElem?_set_ne (by omega)]
 ·rfl
def top2 {l:List Nat} {n:Nat} (ha:q0Y l) (hn:2≤n):∃ low,low < B ^ (n-2)∧val (l.take n)=low+B ^ (n-2)*(l.getD (n-2) 0+B*l.getD (n-1) 0):=by
 refine ⟨val (l.take (n-2)),?_,?_⟩
 ·have h1:=q14 (ha.take (n-2));refine Nat.lt_of_lt_of_le h1 (Nat.pow_le_pow_right q1A ?_);rw [List.length_take]; omega
 ·have h1:=vts l (n-2);have h2:=vts l (n-2+1);rw [show n-2+1+1=n by omega,h1,show n-2+1=n-1 by omega] at h2;rw [h2,show n-1=(n-2)+1 by omega,Nat.pow_succ,Nat.mul_add,← Nat.mul_assoc,Nat.add_assoc]
def qfZ {p T U V v1 v0 top u0:Nat} (hU:U < (T+1)*p) (hV:(v1*B+v0)*p≤V) (hT:T=top*B+u0) (hu:u0 < B) (hv:0 < v1):U < (top / v1+1)*V:=by
 have h1:T+1≤(top / v1+1)*(v1*B+v0):=by
  have h2:top+1≤(top / v1+1)*v1:=by
   have:=Nat.div_add_mod top v1;have h3:=Nat.mod_lt top hv;rw [Nat.add_mul,Nat.one_mul,Nat.mul_comm]; omega
  have h4:(top+1)*B≤(top / v1+1)*v1*B:=Nat.mul_le_mul_right B h2;rw [Nat.mul_add,← Nat.mul_assoc];rw [Nat.add_mul,Nat.one_mul] at h4;omega
 refine Nat.lt_of_lt_of_le hU (Nat.le_trans (Nat.mul_le_mul_right p h1) ?_);rw [Nat.mul_assoc];exact Nat.mul_le_mul_left _ hV
def qis {v1 v0 top q rest u0:Nat} (hr:rest+q*v1=top) (ht:top < v1*B+B) (hb:B≤rest) (hv0:v0 < B):q < B∧q*v0≤rest*B+u0:=by
 have h1:q*v1 < v1*B:=by omega
 have hq:q < B:=by
  rcases Nat.lt_or_ge q B with h | h
  ·exact h
  ·have:=Nat.mul_le_mul_left v1 h;rw [Nat.mul_comm q v1] at h1; omega
 have h2:q*v0≤B*B:=Nat.mul_le_mul (Nat.le_of_lt hq) (Nat.le_of_lt hv0);have h3:B*B≤rest*B:=Nat.mul_le_mul_right B hb;exact ⟨hq,by omega⟩
def qpd {Z S i cr a x:Nat} (h:Z+B ^ i*cr=S):Z+B ^ i*((a+x+cr) % 4294967296)+B ^ (i+1)*((a+x+cr) / 4294967296)=S+B ^ i*a+B ^ i*x:=by
 have h2:=Nat.div_add_mod (a+x+cr) 4294967296;have hB:B=4294967296:=rfl;rw [Nat.pow_succ];generalize (a+x+cr) / 4294967296=d at *;generalize (a+x+cr) % 4294967296=r at *;generalize B ^ i=X at *;have e1:X*B*d=X*(4294967296*d):=by rw [hB,Nat.mul_assoc]
 have e2:X*r+X*(4294967296*d)=X*a+X*x+X*cr:=by
  rw [← Nat.mul_add,← Nat.mul_add,← Nat.mul_add]
  congr 1
  omega
 rw [e1];omega
def qgl {Z n a cr S:Nat} (hZ:Z < B ^ n) (h:Z+B ^ n*(a+cr)=S):Z+B ^ n*((a+cr) % 4294967296)=S % B ^ (n+1):=by
 have hB:B=4294967296:=rfl;rw [← h,Nat.pow_succ,Nat.mod_mul,Nat.add_mul_mod_self_left,Nat.mod_eq_of_lt hZ,Nat.add_mul_div_left _ _ Oq,Nat.div_eq_of_lt hZ,Nat.zero_add,hB]
end Go.Sp
namespace Go.E
open Go
end Go.E
namespace Go.Proofs.YtpbaikoblfcmdaaGreatDoor
open Go Go.E Go.Sp
end Go.Proofs.YtpbaikoblfcmdaaGreatDoor
namespace Go.E
open Go
def qfg (P:Program) (tys:Array TypeId) (ty:TypeId) (args:List Value) (w:World) (K:Value→World→Prop):Prop:=∃ v w',(Builtin.copy_ tys ty args.toArray).run P w=.ok v w'∧K v w'
section
variable {P:Program} {e:Env} {w:World} {K:Value→World→Prop} {d:Option Nat} {ty:TypeId} {pos:String} {af:Array Edge} {g:Option (Nat × Bool)}
@[congr] theorem qo5 {tys:Array TypeId} {ty:TypeId} {args args':List Value} {w:World} {K:Value→World→Prop} (h:args=args'):qfg P tys ty args w K=qfg P tys ty args' w K:=by rw [h]
def qlx {s x:Operand} {tys:Array TypeId}:wo P ⟨d,.call ⟨.builtin .copy,#[s,x],tys⟩,ty,pos,af,g⟩ e w K=qfg P tys ty [ev e s,ev e x] w K:=by
 simp only [wo,WO,execOp,resolve,invoke,builtin,Sem.run_bind,Sem.run_pure,Result.andThen_ok,List.map_toArray,List.map_cons,List.map_nil,qfg];cases hr:(Builtin.copy_ tys ty #[ev e s,ev e x]).run P w with
 | ok v w' =>
  simp only [Result.andThen_ok,Sem.run_pure,RO];exact propext ⟨fun h=>⟨v,w',rfl,h⟩,fun ⟨v',w'',h,hk⟩=>by injection h with h1 h2; subst h1; subst h2; exact hk⟩
 | halt x w' =>
  simp only [Result.andThen_halt,RO];exact propext ⟨fun h=>h.elim,fun ⟨_,_,h,_⟩=>by cases h⟩
end
attribute [go_sem ↓] qlx
attribute [irreducible] qfg
end Go.E
namespace Go.Proofs.YtpbaikoblfcmdaaGreatDoor
open Go Go.E Go.Sp
def lz_ok {x:Nat} {w:World} (hx:x < 4294967296):Calls Tryz.prog 358 #[.int .u32 x] w fun e w'=>e=.returned (.int .i64 (32-bl x:Nat))∧w=w':=by
 have hb:bl x≤32:=q0O hx;refine q5j Tryz.func358 rfl Tryz.ntmps358 (by kernel_rfl) ?_;refine Wz ?_;refine q1I fun K hK=>?_;refine Zz ?_;refine q7Z qlE (qap hx) ?_;rintro _ _ ⟨rfl,rfl⟩; refine ⟨_,rfl,?_⟩;have e1:IntKind.i64.wrap (32-((bl x:Nat):Int))=((32-bl x:Nat):Int):=by rw [i64_in Oq (by omega)]; omega
 refine Zz1 e1 ?_;refine hK _ _ ?_; clear hK;refine qj9 ?_
 try simp only [q9K,qn5]
 refine ret1 rfl ⟨rfl,rfl⟩
end Go.Proofs.YtpbaikoblfcmdaaGreatDoor
namespace Go.Sp
open Go.E
def qbE {a b:List Nat} {j:Nat} (hl:a.length=b.length) (h:∀ k,k < j→a.getD k 0=b.getD k 0):a.take j=b.take j:=by
 apply List.ext_getElem?
 intro k;rw [List.getElem?_take,List.getElem?_take]
 split
 ·rename_i hk
  rcases Nat.lt_or_ge k a.length with h1 | h1
  ·have:=h k hk;rw [q0m h1,q0m (by omega)] at this;rw [List.getElem?_eq_getElem h1,List.getElem?_eq_getElem Oq,this]
  ·rw [List.getElem?_eq_none h1,List.getElem?_eq_none (by omega)]
 ·rfl
def q7U {a b:List Nat} {j:Nat} (hl:a.length=b.length) (h:∀ k,j≤k→a.getD k 0=b.getD k 0):a.drop j=b.drop j:=by
 apply List.ext_getElem?
 intro k;rw [List.getElem?_drop,List.getElem?_drop]
 rcases Nat.lt_or_ge (j+k) a.length with h1 | h1
 ·have:=h (j+k) Oq;rw [q0m h1,q0m (by omega)] at this;rw [List.getElem?_eq_getElem h1,List.getElem?_eq_getElem Oq,this]
 ·rw [List.getElem?_eq_none h1,List.getElem?_eq_none (by omega)]
def qsi {b d v V:Nat} (h1:d < b) (h2:v < V):d+b*v < b*V:=by
 have h3:b*(v+1)≤b*V:=Nat.mul_le_mul_left b h2;rw [Nat.mul_add,Nat.mul_one] at h3;omega
def qtW {a p V r d q X:Nat} (h:a+p*(V*d+r)+V*q=X):a+p*r+V*(q+p*d)=X:=by
 rw [← h,Nat.mul_add,Nat.mul_add,Nat.mul_left_comm V p d];omega
section
variable {o o' qs:List Nat} {j n V X:Nat}
def q50 (ha:q0Y o) (hV:V < B ^ n) (h:val (o.drop (j+1)) < V):val ((o.drop j).take (n+1)) < B*V∧val (o.drop (j+n+1))=0∧val (o.drop j)=val ((o.drop j).take (n+1)):=by
 have h1:val (o.drop (j+n+1))=0:=by
  have:=q2U (ha.drop (j+1)) n;rw [List.drop_drop,show j+1+n=j+n+1 by omega] at this;rw [this];exact Nat.div_eq_of_lt (Nat.lt_trans h hV)
 have h2:val (o.drop j)=val ((o.drop j).take (n+1)):=by
  rcases Nat.lt_or_ge (n+1) (o.drop j).length with hl | hl
  ·have:=q1D (o.drop j) (n+1) Oq;rw [List.drop_drop,show j+(n+1)=j+n+1 by omega,h1,Nat.mul_zero,Nat.add_zero] at this;exact this
  ·rw [q0E _ _ hl]
 refine ⟨?_,h1,h2⟩;rw [← h2,q19];exact qsi (ha.get j) h
def q6H (ha:q0Y o) (hV0:0 < V) (hV:V < B ^ n) (hl:o'.length=o.length) (h:val (o.drop (j+1)) < V) (hun:∀ k,k < j∨j+n < k→o'.getD k 0=o.getD k 0) (hr:val ((o'.drop j).take (n+1))=val ((o.drop j).take (n+1)) % V) (hj:j < qs.length) (hq:qs.getD j 0=0) (hjo:j≤o.length)
  (hX:val o+V*val qs=X):val o'+V*val (qs.set j (val ((o.drop j).take (n+1)) / V))=X∧val (o'.drop j) < V:=by
 obtain ⟨_,h1,h2⟩:=q50 ha hV h;have e1:=qbE hl fun k hk=>hun k (.inl hk);have e2:o'.drop (j+n+1)=o.drop (j+n+1):=q7U hl fun k hk=>hun k (.inr Oq);have h3:val (o'.drop j)=val ((o'.drop j).take (n+1)):=by
  rcases Nat.lt_or_ge (n+1) (o'.drop j).length with hl2 | hl2
  ·have:=q1D (o'.drop j) (n+1) Oq;rw [List.drop_drop,show j+(n+1)=j+n+1 by omega,e2,h1,Nat.mul_zero,Nat.add_zero] at this;exact this
  ·rw [q0E _ _ hl2]
 have s1:=q1D o j hjo;have s2:=q1D o' j Oq;rw [h2] at s1;rw [h3,e1,hr] at s2;have s3:=q3I (o:=qs) (p:=j) (val ((o.drop j).take (n+1)) / V) hj;rw [hq,Nat.mul_zero,Nat.add_zero] at s3;refine ⟨?_,by rw [h3,hr]; exact Nat.mod_lt _ hV0⟩;rw [s2,s3];rw [s1] at hX;have hdm:=Nat.div_add_mod (val ((o.drop j).take (n+1))) V;generalize val ((o.drop j).take (n+1)) / V=d at *;generalize val ((o.drop j).take (n+1)) % V=r at *;rw [← hdm] at hX;exact qtW hX
end
open Go
def q05 (f:Nat):Nat:=if f / 4503599627370496 % 2048=2047∧f % 4503599627370496≠0 then 3 else if f / 4503599627370496 % 2048=2047 then 2 else if f / 4503599627370496 % 2048=0∧f % 4503599627370496=0 then 0 else 1
def u64v (x:Nat):Value:=.int .u64 (x:Int)
def q00 (a:Int) (n:Nat):Nat:=(a % 18446744073709551616).toNat % n
def qeU {a:Int} {n:Nat} (h:0 < n):q00 a n < n:=Nat.mod_lt _ h
def qlr (raw:List Nat) (k:Int):Int :=
 if raw.length=0 then IntKind.u64.wrap (IntKind.u64.wrap (IntKind.i64.wrap (k+1))*11400714819323198485)
 else q0i .xor .u64 (IntKind.u64.wrap (IntKind.u64.wrap (IntKind.i64.wrap (k+1))*11400714819323198485)) ((raw.getD (q00 k raw.length) 0:Nat):Int)
def qlq (x:Int):Int:=IntKind.u64.wrap (q0i .xor .u64 x (x.fdiv (2 ^ 31))*13787848793156543929)
def q9G (raw:List Nat) (k:Int):Int:=q0i .xor .u64 (qlq (qlr raw k)) ((qlq (qlr raw k)).fdiv (2 ^ 29))
def q5L (raw:List Nat) (k:Int):Nat:=(q9G raw k).toNat
def q7o (raw:List Nat) (k:Int):((q5L raw k:Nat):Int)=q9G raw k:=by
 have:0≤q9G raw k:=by
  unfold q9G
  show 0≤IntKind.u64.wrap _
  rw [q0k]; omega
 unfold q5L; omega
def q3H (raw:List Nat) (k:Int):q5L raw k < 18446744073709551616:=by
 have h:=q7o raw k;have:q9G raw k < 18446744073709551616:=by
  unfold q9G
  show IntKind.u64.wrap _ < _
  rw [q0k]; omega
 omega
def flz (z:Int):Nat:=fR 0 (z*(2:Int) ^ 65536)
def q4J (x:Nat):Int:=(x % 19:Nat)-9
def q6q (x:Nat) : -9≤q4J x∧q4J x≤9:=by unfold q4J; omega
def q7H {z:Int} (h:bl z.natAbs≤65536):mkV z 0=some (z*(2:Int) ^ 65536):=q6O Oq Oq
def flzK {z:Int} {K:Nat} (hK:K=65536) (hz:z.natAbs < 9007199254740992):ofF (if z*(2:Int) ^ K=0 then 0 else rF 0 (decide (z*(2:Int) ^ K < 0)) (z*(2:Int) ^ K).natAbs (2 ^ K))=some (z*(2:Int) ^ K)∧(if z*(2:Int) ^ K=0 then 0 else rF 0 (decide (z*(2:Int) ^ K < 0)) (z*(2:Int) ^ K).natAbs (2 ^ K)) < 18446744073709551616:=by
 by_cases h0:z=0
 ·subst h0;rw [Int.zero_mul,if_pos rfl];refine ⟨?_,by omega⟩;unfold ofF;rw [if_neg (by decide),if_pos (by decide),show sgn (decide (9223372036854775808≤0)) (0 % 4503599627370496)=0 from rfl,Int.zero_mul]
 ·have hp:=q0N K;have hne:z*(2:Int) ^ K≠0:=Int.mul_ne_zero h0 (Int.ne_of_gt hp);have hsg:decide (z*(2:Int) ^ K < 0)=decide (z < 0):=by
   rw [decide_eq_decide]
   constructor
   ·intro h
    rcases Int.lt_or_le z 0 with h1 | h1
    ·exact h1
    ·have:=Int.mul_nonneg h1 (Int.le_of_lt hp); omega
   ·intro h; exact Int.mul_neg_of_neg_of_pos h hp
  rw [if_neg hne,hsg,q0M];have hb:bl z.natAbs≤53:=q0O hz;have:=qhZ (mode:=0) (neg:=decide (z < 0)) (N:=z.natAbs*2 ^ K) (D:=2 ^ K) (M:=z.natAbs) (f:=0) (q0H K) Oq hb Oq Oq (by simp [Nat.mul_comm]);rw [q07] at this;refine ⟨?_,this.2⟩;rw [this.1,hK]; rfl
def qku {z:Int} (hz:z.natAbs < 9007199254740992):ofF (flz z)=some (z*(2:Int) ^ 65536):=(flzK rfl hz).1
def qsz {z:Int} (hz:z.natAbs < 9007199254740992):flz z < 18446744073709551616:=(flzK rfl hz).2
def qnn {z:Int} (hz:z.natAbs < 9007199254740992):q0J (flz z):=fun h=>by
 have:=qku hz;unfold ofF at this; rw [if_pos h] at this; cases this
def qbZ (x i:Nat):x &&& 2 ^ i=x / 2 ^ i % 2*2 ^ i:=by
 apply Nat.eq_of_testBit_eq
 intro j;rw [Nat.testBit_and,Nat.testBit_two_pow]
 rcases Nat.mod_two_eq_zero_or_one (x / 2 ^ i) with h | h
 ·rw [h,Nat.zero_mul,Nat.zero_testBit]
  by_cases hj:i=j
  ·subst hj;rw [Nat.testBit_eq_decide_div_mod_eq,h]; simp
  ·simp [hj]
 ·rw [h,Nat.one_mul,Nat.testBit_two_pow]
  by_cases hj:i=j
  ·subst hj;rw [Nat.testBit_eq_decide_div_mod_eq,h]; simp
  ·simp [hj]
def qda {x:Nat} (h:x < 18446744073709551616):x &&& 9223372036854775808=x / 9223372036854775808*9223372036854775808:=by
 have h1:=qbZ x 63;have e:(2:Nat) ^ 63=9223372036854775808:=rfl;rw [e,Nat.mod_eq_of_lt (show x / 9223372036854775808 < 2 by omega)] at h1;exact h1
def qiB {x:Nat}:x &&& 2251799813685248=x / 2251799813685248 % 2*2251799813685248:=by
 have h1:=qbZ x 51;have e:(2:Nat) ^ 51=2251799813685248:=rfl;rw [e] at h1;exact h1
def qiH {x:Nat}:x &&& 4503599627370495=x % 4503599627370496:=Nat.and_two_pow_sub_one_eq_mod x 52
def qaP {a e s:Nat} (ha:a < 4503599627370496) (he:e < 2048):s*9223372036854775808 ||| a ||| e*4503599627370496=s*9223372036854775808+e*4503599627370496+a:=by
 have h1:a ||| e*4503599627370496=a+e*4503599627370496:=q2A (k:=52) ha;have h2:(a+e*4503599627370496) ||| s*9223372036854775808=a+e*4503599627370496+s*9223372036854775808:=q2A (k:=63) Oq;rw [Nat.or_assoc,h1,Nat.or_comm,h2];omega
def q2Q (k x:Nat):Nat :=
 if k=1 then x / 9223372036854775808*9223372036854775808+(1019+x / 4503599627370496 % 8)*4503599627370496+x % 4503599627370496
 else if k=2 then x / 9223372036854775808*9223372036854775808+(983+x / 256 % 81)*4503599627370496+x / 2251799813685248 % 2*2251799813685248
 else if k=3 then (if x / 4503599627370496 % 2048=2047 then 0 else x)
 else flz (q4J x)
def num_1 {x:Nat} (h:x < 18446744073709551616):(x &&& 9227875636482146303) ||| (1019+x / 4503599627370496 % 8)*4503599627370496=q2Q 1 x:=by
 have e:9227875636482146303=9223372036854775808 ||| 4503599627370495:=by decide
 rw [e,Nat.and_or_distrib_left,qda h,qiH,qaP (Nat.mod_lt _ Oq) (by omega)];unfold q2Q; rw [if_pos rfl]
def num_2 {x:Nat} (h:x < 18446744073709551616):(x &&& 9225623836668461056) ||| (983+x / 256 % 81)*4503599627370496=q2Q 2 x:=by
 have e:9225623836668461056=9223372036854775808 ||| 2251799813685248:=by decide
 rw [e,Nat.and_or_distrib_left,qda h,qiB,qaP Oq (by omega)];unfold q2Q; rw [if_neg Oq,if_pos rfl]
end Go.Sp
namespace Go.Proofs.YtpbaikoblfcmdaaGreatDoor
open Go Go.E Go.Sp
end Go.Proofs.YtpbaikoblfcmdaaGreatDoor
namespace Go.Sp
open Go.E
def hf (q k:Nat) (inx:Bool):Int:=if (((q % 2 ^ k:Nat):Int)-2 ^ (k-1)).sign=0∧inx=true then 1 else (((q % 2 ^ k:Nat):Int)-2 ^ (k-1)).sign
def qnR (q:Nat) (e p:Int) (inx:Bool):Nat :=
 if p≤e then q*2 ^ (e-p).toNat
 else q / 2 ^ (p-e).toNat+(if ¬ (q % 2 ^ (p-e).toNat=0∧inx=false)∧(0 < hf q (p-e).toNat inx∨(hf q (p-e).toNat inx=0∧q / 2 ^ (p-e).toNat % 2=1)) then 1 else 0)
def qei {a b:Prop} [Decidable a] [Decidable b] (h:a ↔ b) (x y:Nat):(if a then x else y)=if b then x else y:=by
 by_cases ha:a
 ·rw [if_pos ha,if_pos (h.1 ha)]
 ·rw [if_neg ha,if_neg (fun hb=>ha (h.2 hb))]
def qnj {N M k:Nat} (hk:0 < k):hf (N / M) k (decide (N % M≠0))=q98 N M k:=by
 have hp:2 ^ k=2 ^ (k-1)*2:=by rw [← Nat.pow_succ]; congr 1; omega
 have hp0:=q0H (k-1);have hs:=Nat.mod_mul (x:=N / M) (a:=2 ^ (k-1)) (b:=2);rw [← hp] at hs;have hs':=Nat.mod_lt (N / M) hp0;have hb2:N / M / 2 ^ (k-1) % 2 < 2:=Nat.mod_lt _ Oq;unfold hf q98;rw [← q03];generalize N / M % 2 ^ k=s at *;generalize N / M % 2 ^ (k-1)=s' at *;generalize N / M / 2 ^ (k-1) % 2=b at *;generalize N % M=r at *;generalize 2 ^ (k-1)=h at *
 by_cases hb:b=1
 ·subst hb;have hss:((s:Nat):Int)-(h:Nat)=(s':Nat):=by omega
  rw [hss,if_pos (show 0 < k∧1=1 from ⟨hk,rfl⟩)]
  by_cases h0:s'=0
  ·subst h0
   by_cases hr:r=0
   ·subst hr; simp
   ·simp [hr]
  ·have h1:(((s':Nat):Int)).sign=1:=Int.sign_eq_one_of_pos Oq;rw [h1,if_neg (by simp),if_pos (.inr h0)]
 ·have:b=0:=by omega
  subst this;have h1:(((s:Nat):Int)-(h:Nat)).sign = -1:=Int.sign_eq_neg_one_of_neg Oq;rw [h1,if_neg (by omega)]; simp
def qnQ {neg:Bool} {N M:Nat} {e p:Int} (hM:0 < M) (hk:N % M≠0→e < p):qnR (N / M) e p (decide (N % M≠0))=rq 0 neg (N*2 ^ (e-p).toNat) (M*2 ^ (p-e).toNat):=by
 unfold qnR
 by_cases hpe:p≤e
 ·rw [if_pos hpe,show (p-e).toNat=0 by omega,Nat.pow_zero,Nat.mul_one];have hr:N % M=0:=by
   rcases Nat.eq_zero_or_pos (N % M) with h | h
   ·exact h
   ·have:=hk (by omega); omega
  have hd:N=N / M*M:=by have:=Nat.div_add_mod N M; rw [Nat.mul_comm] at this; omega
  rw [q37 (by rw [hd,Nat.mul_right_comm]; exact Nat.mul_mod_left _ _)]
  conv=>rhs; rw [hd,Nat.mul_right_comm,Nat.mul_div_cancel _ hM]
 ·rw [if_neg hpe,show (e-p).toNat=0 by omega,Nat.pow_zero,Nat.mul_one];have hk0:0 < (p-e).toNat:=by omega
  rw [qml hM (fun _=>hk0),qnj hk0]
  congr 1
  unfold upS;have z1:¬ (0:Int)=1:=by omega
  have z2:¬ (0:Int)=2:=by omega
  have z3:¬ (0:Int)=3:=by omega
  simp only [z1,z2,z3,if_false,Bool.or_eq_true,Bool.and_eq_true,decide_eq_true_eq,decide_eq_false_iff_not,Decidable.not_not];refine qei (and_congr ?_ Iff.rfl) _ _
  constructor
  ·intro h
   by_cases h0:N / M % 2 ^ (p-e).toNat=0
   ·exact .inr fun h1=>h ⟨h0,h1⟩
   ·exact .inl h0
  ·rintro (h | h) ⟨h1,h2⟩
   ·exact h h1
   ·exact h h2
def q8m {N M:Nat} (hM:M≠0) {k:Nat} (h:bl M+k < bl N):k < bl (N / M):=by
 rcases Nat.lt_or_ge k (bl (N / M)) with h1 | h1
 ·exact h1
 ·exfalso
  have h2:=q1a h1;have h3:=q23 M;have h4:N < 2 ^ k*2 ^ bl M:=by
   have h5:=Nat.div_add_mod N M;have h6:=Nat.mod_lt N (show 0 < M by omega);have h7:M*(N / M)+M≤M*2 ^ k:=by rw [← Nat.mul_succ]; exact Nat.mul_le_mul_left _ h2
   have h8:M*2 ^ k≤2 ^ bl M*2 ^ k:=Nat.mul_le_mul_right _ (Nat.le_of_lt h3);rw [Nat.mul_comm (2 ^ k)]; omega
  rw [← Nat.pow_add] at h4;have:=q0O h4;omega
def qk2 {mode:Int} {neg:Bool} {a b:Int} {k:Nat} (ha:a≠0) (hb:b≠0):rE mode neg ((od a).natAbs*2 ^ k) (od b).natAbs (dyE a-k-dyE b)=rF mode neg a.natAbs b.natAbs:=by
 have ha1:=q6L a;have hb1:=q6L b;have ha2:=q3O ha;have hb2:=q3O hb;have hoa:0 < (od a).natAbs:=by omega
 have hob:0 < (od b).natAbs:=by omega
 have hda:dyE a=(tz a.natAbs:Int)-65536:=by unfold dyE; rw [if_neg ha]
 have hdb:dyE b=(tz b.natAbs:Int)-65536:=by unfold dyE; rw [if_neg hb]
 unfold rE;refine q7A (Nat.mul_pos (Nat.mul_pos hoa (q0H _)) (q0H _)) (Nat.mul_pos hob (q0H _)) Oq Oq ?_;rw [hda,hdb];generalize tz a.natAbs=x at *;generalize tz b.natAbs=y at *;generalize (od a).natAbs=p at *;generalize (od b).natAbs=r at *;rw [← ha1,← hb1];have e1:p*2 ^ k*2 ^ (((x:Int)-65536-k-((y:Int)-65536)).toNat)*(r*2 ^ y)=p*r*2 ^ (k+((x:Int)-65536-k-((y:Int)-65536)).toNat+y):=by
  rw [Nat.pow_add,Nat.pow_add];simp only [Nat.mul_assoc,Nat.mul_left_comm,Nat.mul_comm]
 have e2:p*2 ^ x*(r*2 ^ (-((x:Int)-65536-k-((y:Int)-65536))).toNat)=p*r*2 ^ (x+(-((x:Int)-65536-k-((y:Int)-65536))).toNat):=by
  rw [Nat.pow_add];simp only [Nat.mul_assoc,Nat.mul_left_comm,Nat.mul_comm]
 rw [e1,e2]
 congr 2
 omega
end Go.Sp
namespace Go.Proofs.YtpbaikoblfcmdaaGreatDoor
open Go Go.E Go.Sp Go.ChangeShapes Go.WideShapes Go.ChangeAt Go.WideMaps Go.WideElems Go.RowKit
section
variable {H:Type} {enc:TypeId × Value→H}
def q3w {P:Program} (hl:laidOutB P=true) {W W':World} (hb:Below W.heap.size W W') :
  ∀ {ts:List TypeId} {vs:List Value} {ds:List (DataW H)} {ps:List MemPlace},(ts.all fun t=>P.readableRec t && decide (t < P.types.size))=true→DataW.TrodAll enc P W 0 (fun _=>true) true ts vs ds ps→(∀ x ∈ ps,x.block < W.heap.size)→DataW.TrodAll enc P W' 0 (fun b=>decide (b < W.heap.size)) true ts vs ds ps
 | [],[],[],_,_,h,_=>h
 | [],_ :: _,_,_,_,h,_=>h.elim
 | [],[],_ :: _,_,_,h,_=>h.elim
 | _ :: _,[],_,_,_,h,_=>h.elim
 | _ :: _,_ :: _,[],_,_,h,_=>h.elim
 | t :: ts,v :: vs,d :: ds,ps,hr,⟨p,q,h1,h2,e⟩,hlt=>by
  subst e;rw [List.all_cons,Bool.and_eq_true,Bool.and_eq_true,decide_eq_true_eq] at hr;exact ⟨p,q,Below.trod hl hr.1.1 hr.1.2 h1 hb fun x hx=>hlt x (List.mem_append_left _ hx),q3w hl hb hr.2 h2 fun x hx=>hlt x (List.mem_append_right _ hx),rfl⟩
def qn1:laidOutB Tryz.prog=true:=by kernel_rfl
def qhk {fn:Func} {s:ChangeSpec} {W W':World} {args:Array Value} {ds:List (DataW H)} {before:List MemPlace} (hv:s.vars=[]) (hW:DataW.Whole enc Tryz.prog fn.params.toList s.vars false W args.toList ds [] before)
  (hp:(fn.params.toList.all fun t=>Tryz.prog.readableRec t && decide (t < Tryz.prog.types.size))=true) (hr:fn.resultTypes=#[4]) (hs:s.fn H (ds ++ [])={ results:=[.lit (.bool true)],args:=ds }) (hx:Ext W W'):s.post enc Tryz.prog fn false true false false W args (.bool true) W':=by
 have hlt:∀ p ∈ before,p.block < W.heap.size:=fun p hp=>by simpa using hW.lt p hp
 have hW2:=hW;obtain ⟨p,q,hA,hV,rfl,hz,hn⟩:=hW2;rw [hv] at hV;obtain ⟨_,rfl⟩:=trodVars_none hV;have hb:=Kp.below hx;refine ⟨ds,[],p ++ [],[],p,[],hW,?_,?_,?_,Below.frame hb _,fun h=>by cases h⟩
 ·rw [hr,hs];exact trodAll_mk1 (shut_bool und4 _)
 ·rw [hs];exact q3w qn1 hb hp hA fun x hx=>hlt x (List.mem_append_left _ hx)
 ·rw [hs,hv]; rfl
end
def gTab : Tryz.prog.globalNamed "math/bits.deBruijn32tab" = some 0 := by kernel_rfl
def tTab:(Tryz.prog.globals[0]?).map (·.type)=some 349:=by kernel_rfl
def qqm:Tryz.prog.underlying 349=some (.array 32 5):=by kernel_rfl
def cell5:Tryz.prog.cellsOf 5=1:=by kernel_rfl
def qn0:(Rows.laid_math_bits_deBruijn32tab:DataW Unit)=.agg (qdN.map fun n:Nat=>.lit (.int .u8 (n:Int))):=rfl
def qmL {W : World} (h : laidMetH Tryz.prog [("math/bits.deBruijn32tab", Rows.laid_math_bits_deBruijn32tab)] W) : q5t W := by
 rw [MakeChecks.laidMetH_plain _ _ _ (by kernel_rfl)] at h;obtain ⟨ps,⟨g0,t0,cs0,f0,p0,q0,hg0,ht0,hv0,hd0,_⟩,_⟩:=h;obtain rfl:=Option.some.inj (gTab.symm.trans hg0);obtain rfl:=Option.some.inj (tTab.symm.trans ht0);obtain ⟨xs,m,_,hx,hlen,hn,hel⟩:=DataW.trod_array qqm hd0;rw [qn0] at hx;simp only [Prod.mk.injEq,DataW.agg.injEq] at hx;intro k hk;have h1:=hel k hk;rw [cell5,Nat.mul_one] at h1;have hkx:k < xs.length:=by omega
 rw [List.getElem?_eq_getElem hkx] at h1;obtain ⟨n,e1,e2,_⟩:=DataW.trod_int und5 h1;have h2:(qdN.map fun n:Nat=>(DataW.lit (.int .u8 (n:Int)):DataW Unit))[k]?=some (.lit (.int .u8 n)):=by
  rw [hx.1,List.getElem?_map,List.getElem?_eq_getElem hkx,e2]; rfl
 rw [List.getElem?_map] at h2;obtain ⟨y,hy,hyn⟩:=Option.map_eq_some_iff.1 h2;have hyn':(y:Int)=n:=by injection hyn with h; injection h with h
 have h3:=World.var?_cell hg0 hv0 k;have h4:cs0.toList.drop k≠[]:=fun h0=>by rw [h0] at e1; cases e1
 have hkc:k < cs0.toList.length:=by
  rcases Nat.lt_or_ge k cs0.toList.length with h | h
  ·exact h
  ·exact absurd (List.drop_of_length_le h) h4
 rw [List.drop_eq_getElem_cons hkc,List.take_succ_cons,List.take_zero] at e1
 injection e1 with e1 _
 rw [h3,List.getD_eq_getElem?_getD,hy];have h5:cs0[k]?=some cs0.toList[k]:=by rw [← Array.getElem?_toList,List.getElem?_eq_getElem hkc]
 rw [h5,e1,← hyn']; rfl
end Go.Proofs.YtpbaikoblfcmdaaGreatDoor
namespace Go.E
open Go Go.RowKit
abbrev Kd:=Option Nat
def ksz (k:Kd):Nat:=k.getD 1
class NL where
 f:Value→Bool
 ok:∀ v,(∀ d:Int,v≠.int .u32 d)→f v=true
def q4j [NL] (v:Value):Bool:=NL.f v
def nlo [NL] {v:Value} (h:∀ d:Int,v≠.int .u32 d:=by intro d e; cases e):q4j v=true:=NL.ok v h
def q27 [NL] (k:Kd) (v:Value):Prop:=match k with
 | none=>v.cells=#[v]∧v.oneCell'=true∧q4j v=true
 | some n=>∃ cs:Array Value,v=.agg cs∧cs.size=n∧∀ u ∈ cs.toList,u.oneCell'=true∧q4j u=true
def q27.size [NL] {k:Kd} {v:Value} (h:q27 k v):v.cells.size=ksz k:=by
 unfold q27 at h;cases k with
 | none=>rw [h.1]; rfl
 | some n=>obtain ⟨cs,rfl,h1,_⟩:=h; exact h1
def q27.one [NL] {k:Kd} {v:Value} (h:q27 k v):∀ u ∈ v.cells.toList,u.oneCell'=true∧q4j u=true:=by
 unfold q27 at h;cases k with
 | none=>rw [h.1]; intro u hu; simp at hu; subst hu; exact h.2
 | some n=>obtain ⟨cs,rfl,_,h2⟩:=h; exact h2
inductive PV where
 | un
 | vl (x:Value)
 | fm (G:Fam)
 | sl (k:Kd) (l:List PV)
 | ow (id:Nat) (k:Kd) (off n:Nat)
 | pt (id i j:Nat)
 | qt (k:Kd) (x:PV)
 | ag (l:List PV)
 | tu (l:List PV)
structure Bk where
 T:TypeId
 k:Kd
 xs:List PV
 st:Bool
abbrev Hp:=Nat→Option Bk
def h0:Hp:=fun _=>none
def BSz (w:World) (g m:Nat):Prop:=∃ (cs:Array Value) (T:TypeId),Blk w g T cs∧cs.size=m
def AtO (w:World) (r:Option Nat) (A:Option Addr) (a m:Nat):Prop:=∃ g,r=some g∧A=some ⟨g,a,none⟩∧BSz w g m
mutual
def Rd [NL] (w:World) (D:Nat→Prop):PV→(Nat→Option Nat)→Hp→Value→Prop
 | .un,_,_,_=>True
 | .vl x,_,_,y=>y=x
 | .fm G,_,_,y=>In G D y w
 | .sl k l,_,_,y=>∃ A n c vs,y=.slice A n c∧Row w D (ksz k) A n c (q06 vs)∧l.length=n∧RdL w D l (fun _=>none) h0 vs∧∀ v ∈ vs,q27 k v
 | .ow id k off n,ρ,h,y=>∃ b A c,h id=some b∧b.k=k∧y=.slice A n c∧n≤c∧c≤maxLen∧off+n≤b.xs.length∧(c=0∨AtO w (ρ id) A (off*ksz k) ((off+c)*ksz k))∧(off=0→(A=none∧c=0)∨AtO w (ρ id) A (off*ksz k) ((off+c)*ksz k))
 | .pt id i j,ρ,h,y=>∃ b g,h id=some b∧ρ id=some g∧i < b.xs.length∧y=.pointer (some ⟨g,i*ksz b.k+j,none⟩)
 | .qt k x,_,_,y=>∃ ad z,y=.pointer (some ad)∧D ad.block∧Rd w D x (fun _=>none) h0 z∧(q27 k z∧0 < ksz k)∧∀ j u,z.cells.toList[j]?=some u→w.cell? (ad.add j)=some u
 | .ag l,ρ,h,y=>∃ vs,y=.agg ⟨vs⟩∧RdL w D l ρ h vs
 | .tu l,ρ,h,y=>∃ vs,y=.tuple ⟨vs⟩∧RdL w D l ρ h vs
def RdL [NL] (w:World) (D:Nat→Prop):List PV→(Nat→Option Nat)→Hp→List Value→Prop
 | [],_,_,vs=>vs=[]
 | x :: l,ρ,h,vs=>∃ y ys,vs=y :: ys∧Rd w D x ρ h y∧RdL w D l ρ h ys
end
def Cpt (w w':World) (ρ:Nat→Option Nat) (h:Hp) (ρ':Nat→Option Nat) (h':Hp):Prop :=
 ∀ i b,h i=some b→ρ' i=ρ i∧(∃ b',h' i=some b'∧b'.k=b.k∧b.xs.length≤b'.xs.length)∧∀ g m,ρ i=some g→BSz w g m→BSz w' g m
def Cpt.h0 {w w':World} {ρ ρ':Nat→Option Nat} {h':Hp}:Cpt w w' ρ h0 ρ' h':=fun _ _ h=>by cases h
section
variable {w w':World} {D D':Nat→Prop} {ρ ρ':Nat→Option Nat} {h h':Hp}
def BSz.ext {g m:Nat} (hb:BSz w g m) (hx:Ext w w'):BSz w' g m:=by
 obtain ⟨cs,T,h1,h2⟩:=hb; exact ⟨cs,T,h1.ext hx,h2⟩
def BSz.kp {g m:Nat} (hb:BSz w g m) (hx:Kp D w w') (hd:D g):BSz w' g m:=by
 obtain ⟨cs,T,h1,h2⟩:=hb; exact ⟨cs,T,h1.kp hx hd,h2⟩
mutual
def Rd.mv [NL] (hk:Kp D w w') (hd:∀ k,k < w.heap.size→D k→D' k):∀ (x:PV) (ρ:Nat→Option Nat) (h:Hp) (ρ':Nat→Option Nat) (h':Hp) (y:Value),Cpt w w' ρ h ρ' h'→Rd w D x ρ h y→Rd w' D' x ρ' h' y
 | .un,_,_,_,_,_,_,_=>by unfold Rd; trivial
 | .vl x,_,_,_,_,y,_,hr=>by unfold Rd at hr ⊢; exact hr
 | .fm G,_,_,_,_,y,_,hr=>by
  unfold Rd at hr ⊢;have h1:In G (fun k=>D k∧k < w.heap.size) y w:=hr.sub fun k hk hq=>⟨hq,hk⟩;exact (h1.kp (hk.mono fun k _ hq=>hq.1)).sub fun k _ hq=>hd k hq.2 hq.1
 | .sl k l,_,_,_,_,y,_,hr=>by
  unfold Rd at hr ⊢;obtain ⟨A,n,c,vs,h1,h2,h3,h4,h5⟩:=hr;have h6:Row w' D' (ksz k) A n c (q06 vs):=(h2.lt.kp (hk.mono fun k _ hq=>hq.1)).sub fun k _ hq=>hd k hq.2 hq.1;exact ⟨A,n,c,vs,h1,h6,h3,RdL.mv hk hd l _ _ _ _ vs Cpt.h0 h4,h5⟩
 | .ow id k off n,ρ,h,ρ',h',y,hc,hr=>by
  unfold Rd at hr ⊢;obtain ⟨b,A,c,h1,h2,h3,h4,h4b,h5,h6,h7⟩:=hr;obtain ⟨e1,⟨b',e2,e3,e4⟩,e5⟩:=hc id b h1;have mv:∀ {A:Option Addr} {a m:Nat},AtO w (ρ id) A a m→AtO w' (ρ' id) A a m:=fun ⟨g,a1,a2,a3⟩=>⟨g,e1.trans a1,a2,e5 g _ a1 a3⟩;exact ⟨b',A,c,e2,by rw [e3,h2],h3,h4,h4b,by omega,h6.imp (fun h=>h) mv,fun h0=>(h7 h0).imp (fun h=>h) mv⟩
 | .pt id i j,ρ,h,ρ',h',y,hc,hr=>by
  unfold Rd at hr ⊢;obtain ⟨b,g,h1,h2,h3,h4⟩:=hr;obtain ⟨e1,⟨b',e2,e3,e4⟩,e5⟩:=hc id b h1;exact ⟨b',g,e2,e1.trans h2,by omega,by rw [e3]; exact h4⟩
 | .qt k x,_,_,_,_,y,_,hr=>by
  unfold Rd at hr ⊢;obtain ⟨ad,z,h1,h2,h3,h4,h5⟩:=hr;refine ⟨ad,z,h1,?_,Rd.mv hk hd x _ _ _ _ z Cpt.h0 h3,h4,fun j u hu=>hk.cell (by rw [q1H]; exact h2) (h5 j u hu)⟩;cases hz:z.cells.toList[0]? with
  | none =>
   have:=q27.size h4.1;simp at hz;rw [hz] at this;have:=h4.2;simp at *;omega
  | some u =>
   have:=World.block_lt_of_cell? w _ (h5 0 u hz);rw [q1H] at this;exact hd _ this h2
 | .ag l,ρ,h,ρ',h',y,hc,hr=>by
  unfold Rd at hr ⊢;obtain ⟨vs,h1,h2⟩:=hr;exact ⟨vs,h1,RdL.mv hk hd l _ _ _ _ vs hc h2⟩
 | .tu l,ρ,h,ρ',h',y,hc,hr=>by
  unfold Rd at hr ⊢;obtain ⟨vs,h1,h2⟩:=hr;exact ⟨vs,h1,RdL.mv hk hd l _ _ _ _ vs hc h2⟩
def RdL.mv [NL] (hk:Kp D w w') (hd:∀ k,k < w.heap.size→D k→D' k):∀ (l:List PV) (ρ:Nat→Option Nat) (h:Hp) (ρ':Nat→Option Nat) (h':Hp) (vs:List Value),Cpt w w' ρ h ρ' h'→RdL w D l ρ h vs→RdL w' D' l ρ' h' vs
 | [],_,_,_,_,vs,_,hr=>by unfold RdL at hr ⊢; exact hr
 | x :: l,ρ,h,ρ',h',vs,hc,hr=>by
  unfold RdL at hr ⊢;obtain ⟨y,ys,h1,h2,h3⟩:=hr;exact ⟨y,ys,h1,Rd.mv hk hd x _ _ _ _ y hc h2,RdL.mv hk hd l _ _ _ _ ys hc h3⟩
end
end
section
variable {w w':World} {D D':Nat→Prop} {ρ ρ':Nat→Option Nat} {h h':Hp} {l m:List PV} {vs us:List Value}
def RdL.iff [NL]:∀ {l:List PV} {vs:List Value},RdL w D l ρ h vs ↔ l.length=vs.length∧∀ (i:Nat) (x:PV) (v:Value),l[i]?=some x→vs[i]?=some v→Rd w D x ρ h v
 | [],vs=>by
  unfold RdL
  constructor
  ·rintro rfl; exact ⟨rfl,fun i x v hx=>by simp at hx⟩
  ·rintro ⟨h1,_⟩; exact List.eq_nil_of_length_eq_zero h1.symm
 | x :: l,vs=>by
  unfold RdL
  constructor
  ·rintro ⟨y,ys,rfl,h1,h2⟩;obtain ⟨h3,h4⟩:=RdL.iff.1 h2;refine ⟨by simp [h3],fun i z v hz hv=>?_⟩;cases i with
   | zero=>simp at hz hv; subst hz; subst hv; exact h1
   | succ i=>exact h4 i z v (by simpa using hz) (by simpa using hv)
  ·rintro ⟨h1,h2⟩;cases vs with
   | nil=>simp at h1
   | cons y ys=>exact ⟨y,ys,rfl,h2 0 x y rfl rfl,RdL.iff.2 ⟨by simpa using h1,fun i z v hz hv=>h2 (i+1) z v (by simpa using hz) (by simpa using hv)⟩⟩
def RdL.len [NL] (hl:RdL w D l ρ h vs):vs.length=l.length:=(RdL.iff.1 hl).1.symm
def RdL.get [NL] (hl:RdL w D l ρ h vs) {i:Nat} {x:PV} (hx:l[i]?=some x):∃ v,vs[i]?=some v∧Rd w D x ρ h v:=by
 obtain ⟨h1,h2⟩:=RdL.iff.1 hl;have hlt:=(List.getElem?_eq_some_iff.1 hx).1;have hv:vs[i]?=some vs[i]:=List.getElem?_eq_getElem Oq;exact ⟨_,hv,h2 i x _ hx hv⟩
def RdL.take [NL] (hl:RdL w D l ρ h vs) (n:Nat):RdL w D (l.take n) ρ h (vs.take n):=by
 obtain ⟨h1,h2⟩:=RdL.iff.1 hl;refine RdL.iff.2 ⟨by simp [h1],fun i x v hx hv=>?_⟩;rw [List.getElem?_take] at hx hv
 split at hx
 ·rw [if_pos ‹_›] at hv; exact h2 i x v hx hv
 ·cases hx
def RdL.drop [NL] (hl:RdL w D l ρ h vs) (n:Nat):RdL w D (l.drop n) ρ h (vs.drop n):=by
 obtain ⟨h1,h2⟩:=RdL.iff.1 hl;refine RdL.iff.2 ⟨by simp [h1],fun i x v hx hv=>?_⟩;rw [List.getElem?_drop] at hx hv;exact h2 _ x v hx hv
def RdL.app [NL] (hl:RdL w D l ρ h vs) (hm:RdL w D m ρ h us):RdL w D (l ++ m) ρ h (vs ++ us):=by
 obtain ⟨h1,h2⟩:=RdL.iff.1 hl;obtain ⟨h3,h4⟩:=RdL.iff.1 hm;refine RdL.iff.2 ⟨by simp [h1,h3],fun i x v hx hv=>?_⟩;rw [List.getElem?_append] at hx hv
 split at hx
 ·rw [if_pos (by omega)] at hv; exact h2 i x v hx hv
 ·rw [if_neg (by omega),← h1] at hv; exact h4 _ x v hx hv
def RdL.set [NL] (hl:RdL w D l ρ h vs) {x:PV} {v:Value} (hx:Rd w D x ρ h v) (i:Nat):RdL w D (l.set i x) ρ h (vs.set i v):=by
 obtain ⟨h1,h2⟩:=RdL.iff.1 hl;refine RdL.iff.2 ⟨by simp [h1],fun j y u hy hu=>?_⟩;rw [List.getElem?_set] at hy hu
 split at hy
 ·rename_i hij;rw [if_pos hij] at hu
  split at hy
  ·split at hu
   ·cases hy; cases hu; exact hx
   ·cases hu
  ·cases hy
 ·rename_i hij;rw [if_neg hij] at hu;exact h2 j y u hy hu
def RdL.one [NL] {x:PV} {v:Value} (hx:Rd w D x ρ h v):RdL w D [x] ρ h [v]:=by unfold RdL; exact ⟨v,[],rfl,hx,by unfold RdL; rfl⟩
def q3m {vs:List Value} {sz:Nat} (hv:∀ v ∈ vs,v.cells.size=sz) (n:Nat):q06 (vs.take n)=(q06 vs).take (n*sz):=by
 induction vs generalizing n with
 | nil=>simp [q06]
 | cons u vs ih =>
  cases n with
  | zero=>simp [q06]
  | succ n =>
   have h1:=hv u List.mem_cons_self;have:=ih (fun x hx=>hv x (List.mem_cons_of_mem _ hx)) n;unfold q06 at *;have hu:u.cells.toList.length=sz:=by rw [Array.length_toList,h1]
   have e1:(n+1)*sz=n*sz+sz:=Nat.succ_mul _ _;rw [List.take_succ_cons,List.flatMap_cons,List.flatMap_cons,this,List.take_append,hu,e1,Nat.add_sub_cancel,List.take_of_length_le (l:=u.cells.toList) (by omega)]
def q3n {vs:List Value} {sz:Nat} (hv:∀ v ∈ vs,v.cells.size=sz) (n:Nat):q06 (vs.drop n)=(q06 vs).drop (n*sz):=by
 induction vs generalizing n with
 | nil=>simp [q06]
 | cons u vs ih =>
  cases n with
  | zero=>simp [q06]
  | succ n =>
   have h1:=hv u List.mem_cons_self;have:=ih (fun x hx=>hv x (List.mem_cons_of_mem _ hx)) n;unfold q06 at *;have hu:u.cells.toList.length=sz:=by rw [Array.length_toList,h1]
   have e1:(n+1)*sz=n*sz+sz:=Nat.succ_mul _ _;rw [List.drop_succ_cons,List.flatMap_cons,this,List.drop_append,hu,e1,Nat.add_sub_cancel,List.drop_of_length_le (l:=u.cells.toList) (by omega),List.nil_append]
def q0n {vs:List Value} {sz:Nat} (hv:∀ v ∈ vs,v.cells.size=sz):(q06 vs).length=vs.length*sz:=by
 induction vs with
 | nil=>simp [q06]
 | cons v vs ih =>
  have:=ih fun u hu=>hv u (List.mem_cons_of_mem _ hu);have h1:=hv v List.mem_cons_self;unfold q06 at *;rw [List.flatMap_cons,List.length_append,this,List.length_cons,Nat.succ_mul,Array.length_toList,h1]; omega
def q3o (vs us:List Value):q06 (vs ++ us)=q06 vs ++ q06 us:=by simp [q06]
def qij {vs:List Value} {sz:Nat} (hv:∀ v ∈ vs,v.cells.size=sz) {i:Nat} {u:Value} (hu:u.cells.size=sz) (hi:i < vs.length):q06 (vs.set i u)=(q06 vs).take (i*sz) ++ u.cells.toList ++ (q06 vs).drop ((i+1)*sz):=by
 rw [List.set_eq_take_append_cons_drop,if_pos hi,← q3m hv,← q3n hv,q3o];simp [q06]
end
end Go.E
