/- CondSound. 1/7. -/
import Derived.Carry
import Derived.LaidMore
import Derived.Laws.CopyRow
import Derived.Laws.OwnMore
import Derived.Laws.Strings
import Derived.Maps.AppendAt
import Derived.OpenShut
import Derived.Orders
import Derived.ProofKit
import Derived.Stop.Joined
import Derived.Test.YtbjoghfmhgadkaaGreatDoorProg
import Derived.Test.YtbjoghfmhgadkaaGreatDoorRows
import Derived.WalkKit
open Array renaming getD_eq_getD_getElem?->yC,length_toList->yP,getElem?_eq_getElem->w5,getElem?_setIfInBounds->xG,getElem?_eq_none->xX,replicate->w6,mem_of_getElem?->x9,getElem?_toList->w7,mem_toList_iff->wE
open Bool renaming and_eq_true->zE,or_eq_false_iff->yJ,false_eq_true->wU
open Int renaming mul_neg_of_neg_of_pos->xM,mul_assoc->xT,ne_of_gt->xZ,natCast_mul->x8,natAbs_neg->wD,ediv_emod_unique->wK,neg_mul->wM,pow_add->wN,mul_ediv_cancel->wR,le_total->wW,zero_mul->wX,mul_neg->wZ
open List renaming getElem?_eq_getElem->zC,getD_eq_getElem?_getD->zP,mem_cons_of_mem->zS,length_take->zU,getElem?_eq_none->w8,mem_cons_self->w9,getElem?_drop->z8,take_of_length_le->vA,drop_of_length_le->yE,getElem?_take->yG,length_cons->yR,flatMap_cons->yV,all_eq_true->yY,map_cons->vB,map_nil->vC,take_succ_eq_append_getElem->y6,any_eq_true->xD,map_toArray->xE,mem_append_left->xF,drop_eq_getElem_cons->xL,getElem?_eq_some_iff->xN,getElem?_eq_none_iff->xO,ext_getElem?->xR,mem_append->x7,mem_append_right->vD,mem_range->wG,mem_of_getElem?->wH,getElem?_set_ne->wJ,drop_drop->wO,take_succ_cons->wS,mem_singleton->wT
open Nat renaming mul_assoc->zA,mul_add->zB,pow_succ->zD,mod_eq_of_lt->zF,mul_comm->zG,pow_add->zI,mul_le_mul_right->zJ,pow_le_pow_right->zK,le_trans->zL,lt_or_ge->zN,mul_le_mul_left->zO,and_two_pow_sub_one_eq_mod->zQ,mod_lt->zR,mul_one->vE,mul_pos->zV,mul_left_comm->zW,div_add_mod->zX,one_mul->zY,add_mul_mod_self_left->zZ,add_sub_cancel->vF,lt_of_le_of_lt->z6,lt_of_lt_of_le->z7,mul_right_comm->z9,pow_lt_pow_iff_right->yA,le_refl->yB,div_eq_of_lt->yF,eq_zero_or_pos->yH,min_eq_left->yI,add_zero->yK,pow_zero->yL,add_mul->yM,testBit_eq_decide_div_mod_eq->yN,add_assoc->yO,testBit_two_pow->yQ,zero_add->yS,testBit_and->vG,eq_of_beq_eq_true->yU,add_mul_div_left->yW,eq_of_testBit_eq->yX,le_of_lt->yZ,mul_eq_zero->vH,le_mul_of_pos_right->vI,mul_zero->y7,div_div_eq_div_mul->y8,div_lt_iff_lt_mul->y9,mul_div_mul_right->xA,mul_mod_mul_right->xB,mod_add_div->xH,succ_mul->xI,eq_of_mul_eq_mul_right->xJ,mod_two_eq_zero_or_one->xK,pow_pos->xP,mod_mul->xQ,testBit_zero->xU,testBit_succ->xV,and_or_distrib_left->xW,mul_succ->xY,le_mul_of_pos_left->vJ,add_comm->vM,le_div_iff_mul_le->wC,div_pos->wF,pow_mul->wI,pow_lt_pow_right->wL,beq->wP,add_eq_zero_iff->wQ,zero_mul->wV,or_comm->wY,div_one->w4
open Option renaming some->zH,map_eq_some_iff->zM,map_some->vN,bind_some->xC,isSome_iff_exists->xS
set_option linter.unusedSimpArgs false
set_option linter.unusedVariables false
set_option maxRecDepth 20000
set_option maxHeartbeats 2000000
set_option linter.defProp false
theorem Go.ω {p:Prop} (e:p:=by omega):p:=e
theorem Go.κ {p:Prop} (e:p:=by kernel_rfl):p:=e
theorem Go.σ {p:Prop} (e:p:=by simp):p:=e
namespace Go
def Zz {p q : Prop} (k : q) (e : p = q := by simp -implicitDefEqProofs (disch := omega) only [go_sem, Nat.reduceEqDiff, Nat.reduceAdd, ↓reduceIte]; exact rfl) : p := e.mpr k
def Ue {p : Prop} (e : p := by (try simp only [qkN, Nat.reduceEqDiff, ↓reduceIte]); first | done | assumption | exact rfl) : p := e
def Rf {p : Prop} (e : p := by first | exact rfl | assumption | exact Ue) : p := e
theorem Oq {p : Prop} (e : p := by omega) : p := e
def Om {p : Prop} (e : p := by first | omega | (simp only [Int.natAbs_natCast, Int.natAbs_neg]; omega)) : p := e
def Lk {p : Prop} (e : p := by first | (simp -implicitDefEqProofs (disch := omega) only [go_sem, Nat.reduceEqDiff, Nat.reduceAdd, ↓reduceIte, ↓List.map_cons, ↓List.map_nil]; done) | (simp -implicitDefEqProofs (disch := omega) only [go_sem, Nat.reduceEqDiff, Nat.reduceAdd, ↓reduceIte, ↓List.map_cons, ↓List.map_nil]; rfl) | rfl) : p := e
def Lq {p : Prop} (e : p := by first | (simp -implicitDefEqProofs (disch := omega) only [go_sem, Nat.reduceEqDiff, Nat.reduceAdd, ↓reduceIte]; done) | (simp -implicitDefEqProofs (disch := omega) only [go_sem, Nat.reduceEqDiff, Nat.reduceAdd, ↓reduceIte]; rfl) | rfl) : p := e
def Cz {p : Prop} (e : p := by simp only [go_sem, Nat.reduceEqDiff, ↓reduceIte]) : p := e
def Zy {p : Prop}  (e : p := by simp -implicitDefEqProofs (disch := omega) only [go_sem, Nat.reduceEqDiff, Nat.reduceAdd, ↓reduceIte]) : p := e
def Zy1 {p F1 : Prop} (f1 : F1) (e : F1 -> p := by intro g1; simp -implicitDefEqProofs (disch := omega) only [go_sem, Nat.reduceEqDiff, Nat.reduceAdd, ↓reduceIte, g1]) : p := e f1
def Zy2 {p F1 F2 : Prop} (f1 : F1) (f2 : F2) (e : F1 -> F2 -> p := by intro g1 g2; simp -implicitDefEqProofs (disch := omega) only [go_sem, Nat.reduceEqDiff, Nat.reduceAdd, ↓reduceIte, g1, g2]) : p := e f1 f2
def Zy3 {p F1 F2 F3 : Prop} (f1 : F1) (f2 : F2) (f3 : F3) (e : F1 -> F2 -> F3 -> p := by intro g1 g2 g3; simp -implicitDefEqProofs (disch := omega) only [go_sem, Nat.reduceEqDiff, Nat.reduceAdd, ↓reduceIte, g1, g2, g3]) : p := e f1 f2 f3
def Zy4 {p F1 F2 F3 F4 : Prop} (f1 : F1) (f2 : F2) (f3 : F3) (f4 : F4) (e : F1 -> F2 -> F3 -> F4 -> p := by intro g1 g2 g3 g4; simp -implicitDefEqProofs (disch := omega) only [go_sem, Nat.reduceEqDiff, Nat.reduceAdd, ↓reduceIte, g1, g2, g3, g4]) : p := e f1 f2 f3 f4
def Zy5 {p F1 F2 F3 F4 F5 : Prop} (f1 : F1) (f2 : F2) (f3 : F3) (f4 : F4) (f5 : F5) (e : F1 -> F2 -> F3 -> F4 -> F5 -> p := by intro g1 g2 g3 g4 g5; simp -implicitDefEqProofs (disch := omega) only [go_sem, Nat.reduceEqDiff, Nat.reduceAdd, ↓reduceIte, g1, g2, g3, g4, g5]) : p := e f1 f2 f3 f4 f5
def Zy6 {p F1 F2 F3 F4 F5 F6 : Prop} (f1 : F1) (f2 : F2) (f3 : F3) (f4 : F4) (f5 : F5) (f6 : F6) (e : F1 -> F2 -> F3 -> F4 -> F5 -> F6 -> p := by intro g1 g2 g3 g4 g5 g6; simp -implicitDefEqProofs (disch := omega) only [go_sem, Nat.reduceEqDiff, Nat.reduceAdd, ↓reduceIte, g1, g2, g3, g4, g5, g6]) : p := e f1 f2 f3 f4 f5 f6
def Zy7 {p F1 F2 F3 F4 F5 F6 F7 : Prop} (f1 : F1) (f2 : F2) (f3 : F3) (f4 : F4) (f5 : F5) (f6 : F6) (f7 : F7) (e : F1 -> F2 -> F3 -> F4 -> F5 -> F6 -> F7 -> p := by intro g1 g2 g3 g4 g5 g6 g7; simp -implicitDefEqProofs (disch := omega) only [go_sem, Nat.reduceEqDiff, Nat.reduceAdd, ↓reduceIte, g1, g2, g3, g4, g5, g6, g7]) : p := e f1 f2 f3 f4 f5 f6 f7
def Zy8 {p F1 F2 F3 F4 F5 F6 F7 F8 : Prop} (f1 : F1) (f2 : F2) (f3 : F3) (f4 : F4) (f5 : F5) (f6 : F6) (f7 : F7) (f8 : F8) (e : F1 -> F2 -> F3 -> F4 -> F5 -> F6 -> F7 -> F8 -> p := by intro g1 g2 g3 g4 g5 g6 g7 g8; simp -implicitDefEqProofs (disch := omega) only [go_sem, Nat.reduceEqDiff, Nat.reduceAdd, ↓reduceIte, g1, g2, g3, g4, g5, g6, g7, g8]) : p := e f1 f2 f3 f4 f5 f6 f7 f8
def Zy9 {p F1 F2 F3 F4 F5 F6 F7 F8 F9 : Prop} (f1 : F1) (f2 : F2) (f3 : F3) (f4 : F4) (f5 : F5) (f6 : F6) (f7 : F7) (f8 : F8) (f9 : F9) (e : F1 -> F2 -> F3 -> F4 -> F5 -> F6 -> F7 -> F8 -> F9 -> p := by intro g1 g2 g3 g4 g5 g6 g7 g8 g9; simp -implicitDefEqProofs (disch := omega) only [go_sem, Nat.reduceEqDiff, Nat.reduceAdd, ↓reduceIte, g1, g2, g3, g4, g5, g6, g7, g8, g9]) : p := e f1 f2 f3 f4 f5 f6 f7 f8 f9
def Zy10 {p F1 F2 F3 F4 F5 F6 F7 F8 F9 F10 : Prop} (f1 : F1) (f2 : F2) (f3 : F3) (f4 : F4) (f5 : F5) (f6 : F6) (f7 : F7) (f8 : F8) (f9 : F9) (f10 : F10) (e : F1 -> F2 -> F3 -> F4 -> F5 -> F6 -> F7 -> F8 -> F9 -> F10 -> p := by intro g1 g2 g3 g4 g5 g6 g7 g8 g9 g10; simp -implicitDefEqProofs (disch := omega) only [go_sem, Nat.reduceEqDiff, Nat.reduceAdd, ↓reduceIte, g1, g2, g3, g4, g5, g6, g7, g8, g9, g10]) : p := e f1 f2 f3 f4 f5 f6 f7 f8 f9 f10
def Zy11 {p F1 F2 F3 F4 F5 F6 F7 F8 F9 F10 F11 : Prop} (f1 : F1) (f2 : F2) (f3 : F3) (f4 : F4) (f5 : F5) (f6 : F6) (f7 : F7) (f8 : F8) (f9 : F9) (f10 : F10) (f11 : F11) (e : F1 -> F2 -> F3 -> F4 -> F5 -> F6 -> F7 -> F8 -> F9 -> F10 -> F11 -> p := by intro g1 g2 g3 g4 g5 g6 g7 g8 g9 g10 g11; simp -implicitDefEqProofs (disch := omega) only [go_sem, Nat.reduceEqDiff, Nat.reduceAdd, ↓reduceIte, g1, g2, g3, g4, g5, g6, g7, g8, g9, g10, g11]) : p := e f1 f2 f3 f4 f5 f6 f7 f8 f9 f10 f11
def Zy12 {p F1 F2 F3 F4 F5 F6 F7 F8 F9 F10 F11 F12 : Prop} (f1 : F1) (f2 : F2) (f3 : F3) (f4 : F4) (f5 : F5) (f6 : F6) (f7 : F7) (f8 : F8) (f9 : F9) (f10 : F10) (f11 : F11) (f12 : F12) (e : F1 -> F2 -> F3 -> F4 -> F5 -> F6 -> F7 -> F8 -> F9 -> F10 -> F11 -> F12 -> p := by intro g1 g2 g3 g4 g5 g6 g7 g8 g9 g10 g11 g12; simp -implicitDefEqProofs (disch := omega) only [go_sem, Nat.reduceEqDiff, Nat.reduceAdd, ↓reduceIte, g1, g2, g3, g4, g5, g6, g7, g8, g9, g10, g11, g12]) : p := e f1 f2 f3 f4 f5 f6 f7 f8 f9 f10 f11 f12
def Zy13 {p F1 F2 F3 F4 F5 F6 F7 F8 F9 F10 F11 F12 F13 : Prop} (f1 : F1) (f2 : F2) (f3 : F3) (f4 : F4) (f5 : F5) (f6 : F6) (f7 : F7) (f8 : F8) (f9 : F9) (f10 : F10) (f11 : F11) (f12 : F12) (f13 : F13) (e : F1 -> F2 -> F3 -> F4 -> F5 -> F6 -> F7 -> F8 -> F9 -> F10 -> F11 -> F12 -> F13 -> p := by intro g1 g2 g3 g4 g5 g6 g7 g8 g9 g10 g11 g12 g13; simp -implicitDefEqProofs (disch := omega) only [go_sem, Nat.reduceEqDiff, Nat.reduceAdd, ↓reduceIte, g1, g2, g3, g4, g5, g6, g7, g8, g9, g10, g11, g12, g13]) : p := e f1 f2 f3 f4 f5 f6 f7 f8 f9 f10 f11 f12 f13
def Zy14 {p F1 F2 F3 F4 F5 F6 F7 F8 F9 F10 F11 F12 F13 F14 : Prop} (f1 : F1) (f2 : F2) (f3 : F3) (f4 : F4) (f5 : F5) (f6 : F6) (f7 : F7) (f8 : F8) (f9 : F9) (f10 : F10) (f11 : F11) (f12 : F12) (f13 : F13) (f14 : F14) (e : F1 -> F2 -> F3 -> F4 -> F5 -> F6 -> F7 -> F8 -> F9 -> F10 -> F11 -> F12 -> F13 -> F14 -> p := by intro g1 g2 g3 g4 g5 g6 g7 g8 g9 g10 g11 g12 g13 g14; simp -implicitDefEqProofs (disch := omega) only [go_sem, Nat.reduceEqDiff, Nat.reduceAdd, ↓reduceIte, g1, g2, g3, g4, g5, g6, g7, g8, g9, g10, g11, g12, g13, g14]) : p := e f1 f2 f3 f4 f5 f6 f7 f8 f9 f10 f11 f12 f13 f14
def Zz1 {p q F1 : Prop} (f1 : F1) (k : q) (e : F1 -> p = q := by intro g1; simp -implicitDefEqProofs (disch := omega) only [go_sem, Nat.reduceEqDiff, Nat.reduceAdd, ↓reduceIte, g1]; exact rfl) : p := (e f1).mpr k
def Zz2 {p q F1 F2 : Prop} (f1 : F1) (f2 : F2) (k : q) (e : F1 -> F2 -> p = q := by intro g1 g2; simp -implicitDefEqProofs (disch := omega) only [go_sem, Nat.reduceEqDiff, Nat.reduceAdd, ↓reduceIte, g1, g2]; exact rfl) : p := (e f1 f2).mpr k
def Zz3 {p q F1 F2 F3 : Prop} (f1 : F1) (f2 : F2) (f3 : F3) (k : q) (e : F1 -> F2 -> F3 -> p = q := by intro g1 g2 g3; simp -implicitDefEqProofs (disch := omega) only [go_sem, Nat.reduceEqDiff, Nat.reduceAdd, ↓reduceIte, g1, g2, g3]; exact rfl) : p := (e f1 f2 f3).mpr k
def Zz4 {p q F1 F2 F3 F4 : Prop} (f1 : F1) (f2 : F2) (f3 : F3) (f4 : F4) (k : q) (e : F1 -> F2 -> F3 -> F4 -> p = q := by intro g1 g2 g3 g4; simp -implicitDefEqProofs (disch := omega) only [go_sem, Nat.reduceEqDiff, Nat.reduceAdd, ↓reduceIte, g1, g2, g3, g4]; exact rfl) : p := (e f1 f2 f3 f4).mpr k
def Zz5 {p q F1 F2 F3 F4 F5 : Prop} (f1 : F1) (f2 : F2) (f3 : F3) (f4 : F4) (f5 : F5) (k : q) (e : F1 -> F2 -> F3 -> F4 -> F5 -> p = q := by intro g1 g2 g3 g4 g5; simp -implicitDefEqProofs (disch := omega) only [go_sem, Nat.reduceEqDiff, Nat.reduceAdd, ↓reduceIte, g1, g2, g3, g4, g5]; exact rfl) : p := (e f1 f2 f3 f4 f5).mpr k
def Zz6 {p q F1 F2 F3 F4 F5 F6 : Prop} (f1 : F1) (f2 : F2) (f3 : F3) (f4 : F4) (f5 : F5) (f6 : F6) (k : q) (e : F1 -> F2 -> F3 -> F4 -> F5 -> F6 -> p = q := by intro g1 g2 g3 g4 g5 g6; simp -implicitDefEqProofs (disch := omega) only [go_sem, Nat.reduceEqDiff, Nat.reduceAdd, ↓reduceIte, g1, g2, g3, g4, g5, g6]; exact rfl) : p := (e f1 f2 f3 f4 f5 f6).mpr k
def Zz7 {p q F1 F2 F3 F4 F5 F6 F7 : Prop} (f1 : F1) (f2 : F2) (f3 : F3) (f4 : F4) (f5 : F5) (f6 : F6) (f7 : F7) (k : q) (e : F1 -> F2 -> F3 -> F4 -> F5 -> F6 -> F7 -> p = q := by intro g1 g2 g3 g4 g5 g6 g7; simp -implicitDefEqProofs (disch := omega) only [go_sem, Nat.reduceEqDiff, Nat.reduceAdd, ↓reduceIte, g1, g2, g3, g4, g5, g6, g7]; exact rfl) : p := (e f1 f2 f3 f4 f5 f6 f7).mpr k
def Zz8 {p q F1 F2 F3 F4 F5 F6 F7 F8 : Prop} (f1 : F1) (f2 : F2) (f3 : F3) (f4 : F4) (f5 : F5) (f6 : F6) (f7 : F7) (f8 : F8) (k : q) (e : F1 -> F2 -> F3 -> F4 -> F5 -> F6 -> F7 -> F8 -> p = q := by intro g1 g2 g3 g4 g5 g6 g7 g8; simp -implicitDefEqProofs (disch := omega) only [go_sem, Nat.reduceEqDiff, Nat.reduceAdd, ↓reduceIte, g1, g2, g3, g4, g5, g6, g7, g8]; exact rfl) : p := (e f1 f2 f3 f4 f5 f6 f7 f8).mpr k
def Zz9 {p q F1 F2 F3 F4 F5 F6 F7 F8 F9 : Prop} (f1 : F1) (f2 : F2) (f3 : F3) (f4 : F4) (f5 : F5) (f6 : F6) (f7 : F7) (f8 : F8) (f9 : F9) (k : q) (e : F1 -> F2 -> F3 -> F4 -> F5 -> F6 -> F7 -> F8 -> F9 -> p = q := by intro g1 g2 g3 g4 g5 g6 g7 g8 g9; simp -implicitDefEqProofs (disch := omega) only [go_sem, Nat.reduceEqDiff, Nat.reduceAdd, ↓reduceIte, g1, g2, g3, g4, g5, g6, g7, g8, g9]; exact rfl) : p := (e f1 f2 f3 f4 f5 f6 f7 f8 f9).mpr k
def Zz10 {p q F1 F2 F3 F4 F5 F6 F7 F8 F9 F10 : Prop} (f1 : F1) (f2 : F2) (f3 : F3) (f4 : F4) (f5 : F5) (f6 : F6) (f7 : F7) (f8 : F8) (f9 : F9) (f10 : F10) (k : q) (e : F1 -> F2 -> F3 -> F4 -> F5 -> F6 -> F7 -> F8 -> F9 -> F10 -> p = q := by intro g1 g2 g3 g4 g5 g6 g7 g8 g9 g10; simp -implicitDefEqProofs (disch := omega) only [go_sem, Nat.reduceEqDiff, Nat.reduceAdd, ↓reduceIte, g1, g2, g3, g4, g5, g6, g7, g8, g9, g10]; exact rfl) : p := (e f1 f2 f3 f4 f5 f6 f7 f8 f9 f10).mpr k
def Zz11 {p q F1 F2 F3 F4 F5 F6 F7 F8 F9 F10 F11 : Prop} (f1 : F1) (f2 : F2) (f3 : F3) (f4 : F4) (f5 : F5) (f6 : F6) (f7 : F7) (f8 : F8) (f9 : F9) (f10 : F10) (f11 : F11) (k : q) (e : F1 -> F2 -> F3 -> F4 -> F5 -> F6 -> F7 -> F8 -> F9 -> F10 -> F11 -> p = q := by intro g1 g2 g3 g4 g5 g6 g7 g8 g9 g10 g11; simp -implicitDefEqProofs (disch := omega) only [go_sem, Nat.reduceEqDiff, Nat.reduceAdd, ↓reduceIte, g1, g2, g3, g4, g5, g6, g7, g8, g9, g10, g11]; exact rfl) : p := (e f1 f2 f3 f4 f5 f6 f7 f8 f9 f10 f11).mpr k
def Zz12 {p q F1 F2 F3 F4 F5 F6 F7 F8 F9 F10 F11 F12 : Prop} (f1 : F1) (f2 : F2) (f3 : F3) (f4 : F4) (f5 : F5) (f6 : F6) (f7 : F7) (f8 : F8) (f9 : F9) (f10 : F10) (f11 : F11) (f12 : F12) (k : q) (e : F1 -> F2 -> F3 -> F4 -> F5 -> F6 -> F7 -> F8 -> F9 -> F10 -> F11 -> F12 -> p = q := by intro g1 g2 g3 g4 g5 g6 g7 g8 g9 g10 g11 g12; simp -implicitDefEqProofs (disch := omega) only [go_sem, Nat.reduceEqDiff, Nat.reduceAdd, ↓reduceIte, g1, g2, g3, g4, g5, g6, g7, g8, g9, g10, g11, g12]; exact rfl) : p := (e f1 f2 f3 f4 f5 f6 f7 f8 f9 f10 f11 f12).mpr k
def Zz13 {p q F1 F2 F3 F4 F5 F6 F7 F8 F9 F10 F11 F12 F13 : Prop} (f1 : F1) (f2 : F2) (f3 : F3) (f4 : F4) (f5 : F5) (f6 : F6) (f7 : F7) (f8 : F8) (f9 : F9) (f10 : F10) (f11 : F11) (f12 : F12) (f13 : F13) (k : q) (e : F1 -> F2 -> F3 -> F4 -> F5 -> F6 -> F7 -> F8 -> F9 -> F10 -> F11 -> F12 -> F13 -> p = q := by intro g1 g2 g3 g4 g5 g6 g7 g8 g9 g10 g11 g12 g13; simp -implicitDefEqProofs (disch := omega) only [go_sem, Nat.reduceEqDiff, Nat.reduceAdd, ↓reduceIte, g1, g2, g3, g4, g5, g6, g7, g8, g9, g10, g11, g12, g13]; exact rfl) : p := (e f1 f2 f3 f4 f5 f6 f7 f8 f9 f10 f11 f12 f13).mpr k
def Zz14 {p q F1 F2 F3 F4 F5 F6 F7 F8 F9 F10 F11 F12 F13 F14 : Prop} (f1 : F1) (f2 : F2) (f3 : F3) (f4 : F4) (f5 : F5) (f6 : F6) (f7 : F7) (f8 : F8) (f9 : F9) (f10 : F10) (f11 : F11) (f12 : F12) (f13 : F13) (f14 : F14) (k : q) (e : F1 -> F2 -> F3 -> F4 -> F5 -> F6 -> F7 -> F8 -> F9 -> F10 -> F11 -> F12 -> F13 -> F14 -> p = q := by intro g1 g2 g3 g4 g5 g6 g7 g8 g9 g10 g11 g12 g13 g14; simp -implicitDefEqProofs (disch := omega) only [go_sem, Nat.reduceEqDiff, Nat.reduceAdd, ↓reduceIte, g1, g2, g3, g4, g5, g6, g7, g8, g9, g10, g11, g12, g13, g14]; exact rfl) : p := (e f1 f2 f3 f4 f5 f6 f7 f8 f9 f10 f11 f12 f13 f14).mpr k
end Go
namespace Go.E
open Go
abbrev Env:=Nat->Value
def upd (e:Env) (d:Nat) (v:Value):Env:=λi=>if i=d then v else e i
def put (e:Env):Option Nat->Value->Env
 | some d,v=>upd e d v
 | none,_=>e
def ev (e:Env):Operand->Value
 | .tmp t=>e t
 | .const v=>v
 | .global g=>.pointer (some ⟨g,0,none⟩)
 | .func f=>.func (.func f) #[] #[]
def q4T (l:List Value):Env:=λi=>l.getD i undef
structure Rel (n:Nat) (a:Act) (e:Env):Prop where
 defs:a.defers=[]
 size:a.tmps.size=n
 get:∀ i,a.tmps.getD i undef=e i
def q8c (n:Nat) (o:Oper):Bool:=match o.dst with | some d=>decide (d < n) | none=>true
def q7Z (n:Nat):Code->Bool
 | .skip | .exit _ | .ret=>true
 | .region _ ops _=>ops.toList.all (q8c n)
 | .seq a b=>q7Z n a && q7Z n b
 | .cond _ a b=>q7Z n a && q7Z n b
 | .block _ c=>q7Z n c
 | .loop c=>q7Z n c
 | _=>false
def wrO (i:Nat) (o:Oper):Bool:=match o.dst with | some d=>wP d i | none=>false
def wr (i:Nat):Code->Bool
 | .region _ ops _=>ops.toList.any (wrO i)
 | .seq a b=>wr i a || wr i b
 | .cond _ a b=>wr i a || wr i b
 | .block _ c=>wr i c
 | .loop c=>wr i c
 | _=>false
def Rel.eval {n:Nat} {a:Act} {e:Env} (h:Rel n a e):a.eval=ev e:=by
 funext x
 cases x <;> simp only [Act.eval,ev];exact h.get _
def Rel.put {n:Nat} {a:Act} {e:Env} (h:Rel n a e) (dst:Option Nat) (v:Value) (hd:(match dst with | some d=>decide (d < n) | none=>true)=true):Rel n (a.put dst v) (E.put e dst v):=by
 cases dst with
 | none=>exact h
 | some d =>
  have hd':d < n:=by simpa using hd
  refine ⟨h.defs,by simpa [Act.put] using h.size,λi=>?_⟩;have hg:=h.get i;have hs:=h.size;simp only [E.put,upd,Act.put,yC,xG] at hg ⊢
  by_cases hi:i=d
  .subst hi; simp [hs,hd']
  .simp [hi,Ne.symm hi]; simpa using hg
section
variable {P:Program} {n:Nat}
def qkE (n:Nat) (c:Code) (e:Env) (Q:Exit->Env->World->Prop) (x:Exit) (a:Act) (w:World):Prop :=
 ∃ e',Rel n a e'/\(∀ i,wr i c=false->e' i=e i)/\Q x e' w
def W (P:Program) (n:Nat) (c:Code) (Q:Exit->Env->World->Prop) (e:Env) (w:World):Prop :=
 q7Z n c=true->∀ a,Rel n a e->c.wp P (qkE n c e Q) a w
def qhP (next:Env->World->Prop) (Q:Exit->Env->World->Prop):Exit->Env->World->Prop
 | .normal,e,w=>next e w
 | x,e,w=>Q x e w
def inB (id:Nat) (Q:Exit->Env->World->Prop):Exit->Env->World->Prop
 | .exit id',e,w=>if id'=id then Q .normal e w else Q (.exit id') e w
 | x,e,w=>Q x e w
def q5l {c:Code} {Q Q':Exit->Env->World->Prop} {e:Env} {w:World} (hq:∀ x e w,Q x e w->Q' x e w) (h:W P n c Q e w):W P n c Q' e w :=
 λhd a hr=>wp_mono (h hd a hr) λ_ _ _ ⟨e',r,f,q⟩=>⟨e',r,f,hq _ _ _ q⟩
def qqd {a b:Code} {Q:Exit->Env->World->Prop} {e:Env} {w:World} (h:W P n a (qhP (W P n b Q) Q) e w):W P n (.seq a b) Q e w:=by
 intro hd act hr;simp only [q7Z,zE] at hd;have key:∀ (x:Exit) (a':Act) (w':World),qkE n a e (qhP (W P n b Q) Q) x a' w'->Exit.then (b.wp P (qkE n (.seq a b) e Q)) (qkE n (.seq a b) e Q) x a' w':=by
  rintro x a' w' ⟨e',r,f,q⟩;cases x with
  | normal =>
   refine wp_mono (q hd.2 a' r) λx2 a2 w2 ⟨e2,r2,f2,q2⟩=>⟨e2,r2,λi hi=>?_,q2⟩;simp only [wr,yJ] at hi;rw [f2 i hi.2,f i hi.1]
  | _=>exact ⟨e',r,λi hi=>f i (by simp only [wr,yJ] at hi; exact hi.1),q⟩
 exact wp_seq (wp_mono (h hd.1 act hr) key)
def qaK {a b:Code} {Q:Exit->Env->World->Prop} {e:Env} {w:World} (h:∀ K:Env->World->Prop,(∀ e w,W P n b Q e w->K e w)->W P n a (qhP K Q) e w):W P n (.seq a b) Q e w :=
 qqd (h _ λ_ _ h=>h)
def q8p {c:Operand} {x y:Code} {Q:Exit->Env->World->Prop} {e:Env} {w:World} {t:Bool} (hc:ev e c=.bool t) (ht:t=true->W P n x Q e w) (hf:t=false->W P n y Q e w):W P n (.cond c x y) Q e w:=by
 intro hd a hr;simp only [q7Z,zE] at hd;refine wp_cond_split (t:=t) (by rw [hr.eval]; exact hc) (λh=>?_) (λh=>?_)
 .exact wp_mono (ht h hd.1 a hr) λx2 a2 w2 ⟨e2,r2,f2,q2⟩=>⟨e2,r2,λi hi=>f2 i (by simp only [wr,yJ] at hi; exact hi.1),q2⟩
 .exact wp_mono (hf h hd.2 a hr) λx2 a2 w2 ⟨e2,r2,f2,q2⟩=>⟨e2,r2,λi hi=>f2 i (by simp only [wr,yJ] at hi; exact hi.2),q2⟩
def Wt {c:Operand} {x y:Code} {Q:Exit->Env->World->Prop} {e:Env} {w:World} (ht:W P n x Q e w) (hc:ev e c=.bool true:=by exact rfl):W P n (.cond c x y) Q e w:=q8p hc (λ_=>ht) (λh=>by cases h)
def Wf {c:Operand} {x y:Code} {Q:Exit->Env->World->Prop} {e:Env} {w:World} (ht:W P n y Q e w) (hc:ev e c=.bool false:=by exact rfl):W P n (.cond c x y) Q e w:=q8p hc (λh=>by cases h) (λ_=>ht)
def qqe {id:Nat} {c:Code} {Q:Exit->Env->World->Prop} {e:Env} {w:World} (h:W P n c (inB id Q) e w):W P n (.block id c) Q e w:=by
 intro hd a hr;refine wp_block (wp_mono (h hd a hr) ?_);rintro x a2 w2 ⟨e2,r2,f2,q2⟩;cases x with
 | exit id' =>
  simp only [inB] at q2;simp only [Exit.inBlock]
  split
  .rename_i hid; rw [if_pos hid] at q2; exact ⟨e2,r2,f2,q2⟩
  .rename_i hid; rw [if_neg hid] at q2; exact ⟨e2,r2,f2,q2⟩
 | _=>exact ⟨e2,r2,f2,q2⟩
def qbq {Q:Exit->Env->World->Prop} {e:Env} {w:World} (h:Q .normal e w):W P n .skip Q e w :=
 λ_ _ hr=>wp_skip ⟨e,hr,λ_ _=>rfl,h⟩
def qxQ {id:Nat} {Q:Exit->Env->World->Prop} {e:Env} {w:World} (h:Q (.exit id) e w):W P n (.exit id) Q e w :=
 λ_ _ hr=>wp_exit ⟨e,hr,λ_ _=>rfl,h⟩
def qkB {Q:Exit->Env->World->Prop} {e:Env} {w:World} (h:Q .ret e w):W P n .ret Q e w :=
 λ_ _ hr=>wp_ret ⟨e,hr,λ_ _=>rfl,h⟩
def RO (P:Program) (K:Value->World->Prop):Result Next->Prop
 | .ok (.value v) w=>K v w
 | .ok .skip w=>K undef w
 | .ok (.enter f args) w=>Calls P f args w λx w'=>match x with | .returned v=>K v w' | _=>False
 | _=>False
def WO (P:Program) (o:Oper) (e:Env) (w:World) (K:Value->World->Prop):Prop:=RO P K ((execOp (ev e) o).run P w)
def qqi {K K':Value->World->Prop} (hk:∀ v w,K v w->K' v w) {r:Result Next} (h:RO P K r):RO P K' r:=by
 cases r with
 | ok x w =>
  cases x <;> simp only [RO] at h ⊢
  .exact hk _ _ h
  .exact hk _ _ h
  .exact h.mono λx w' hx=>by cases x <;> first | exact hk _ _ hx | exact hx
 | halt=>exact h
def qgc {o:Oper} {e:Env} {w:World} {K K':Value->World->Prop} (hk:∀ v w,K v w->K' v w) (h:WO P o e w K):WO P o e w K':=qqi hk h
def q30 (ops:Array Oper) (e:Env) (j:Nat):Option Bool :=
 match (ops[j]?).bind (·.dst) with
 | some d=>match e d with | .bool b=>some b | _=>none
 | none=>none
def q5r (ops:Array Oper) (e:Env) (o:Oper):Bool :=
 match o.guard with
 | none=>true
 | some (j,want)=>q30 ops e j == some want
def WG (P:Program) (ops:Array Oper) (o:Oper) (e:Env) (w:World) (K:Value->World->Prop):Prop :=
 if q5r ops e o then WO P o e w K else K undef w
def qaM {ops:Array Oper} {o:Oper} {e:Env} {w:World} {K K':Value->World->Prop} (hk:∀ v w,K v w->K' v w) (h:WG P ops o e w K):WG P ops o e w K':=by
 unfold WG at *; split
 .rename_i hw; rw [if_pos hw] at h; exact qgc hk h
 .rename_i hw; rw [if_neg hw] at h; exact hk _ _ h
def WL (P:Program) (ops:Array Oper) (K:Env->World->Prop):List Oper->Env->World->Prop
 | [],e,w=>K e w
 | o :: rest,e,w=>WG P ops o e w λv w'=>WL P ops K rest (put e o.dst v) w'
def qgz {ops:Array Oper} {a:Act} {e:Env} (hr:Rel n a e) (hd:ops.toList.all (q8c n)=true) (j:Nat):yielded ops a.tmps j=q30 ops e j:=by
 unfold yielded q30;cases hj:ops[j]? with
 | none=>simp
 | some o =>
  have ho:q8c n o=true:=by
   rw [yY] at hd;exact hd o (wE.2 (x9 hj))
  simp only [xC];unfold q8c at ho;cases hdst:o.dst with
  | none=>simp
  | some d =>
   rw [hdst] at ho;have hlt:d < a.tmps.size:=by rw [hr.size]; simpa using ho
   have hg:=hr.get d;simp only [xC,w5 hlt];have hv:a.tmps[d]=e d:=by rw [<- hg,yC,w5 hlt]; rfl
   rw [hv];cases e d <;> rfl
def q6a {ops:Array Oper} {a:Act} {e:Env} (hr:Rel n a e) (hd:ops.toList.all (q8c n)=true) (o:Oper):Region.wanted o (yielded ops a.tmps)=q5r ops e o:=by
 unfold Region.wanted q5r;cases o.guard with
 | none=>rfl
 | some g=>obtain ⟨j,want⟩:=g; simp only [qgz hr hd j]
def q68 {o:Oper} {a:Act} {e:Env} {w:World} {K:Value->World->Prop} {K':Act->World->Prop} {Q:Exit->Act->World->Prop} (hr:Rel n a e) (h:WO P o e w K) (hk:∀ v w',K v w'->K' (a.put o.dst v) w'):o.wp P a w K' Q:=by
 unfold Oper.wp;rw [hr.eval];unfold WO at h;generalize (execOp (ev e) o).run P w=r at *;cases r with
 | ok x w' =>
  cases x <;> simp only [RO] at h <;> simp only [Oper.upon]
  .exact hk _ _ h
  .exact hk _ _ h
  .refine h.mono λx w'' hx=>?_;cases x with
   | returned v=>exact hk _ _ hx
   | _=>exact hx.elim
 | halt=>exact h.elim
def q4X {ops:Array Oper} {K:Env->World->Prop} {Q:Exit->Act->World->Prop} (hd:ops.toList.all (q8c n)=true):∀ (l:List Oper),(∀ o ∈ l,q8c n o=true)->∀ (a:Act) (e:Env) (w:World),
  Rel n a e->(∀ (a':Act) (e':Env) (w':World),Rel n a' e'->(∀ i,l.any (wrO i)=false->e' i=e i)->K e' w'->Q .normal a' w')->WL P ops K l e w->wpList P ops Q l a w
 | [],_,a,e,w,hr,hq,h=>hq a e w hr (λ_ _=>rfl) h
 | o :: rest,hl,a,e,w,hr,hq,h=>by
  have hdo:=hl o w9;have hput:∀ v,Rel n (a.put o.dst v) (put e o.dst v):=λv=>hr.put o.dst v (by unfold q8c at hdo; cases hx:o.dst <;> simp_all);have hrec:∀ v w',WL P ops K rest (put e o.dst v) w'->wpList P ops Q rest (a.put o.dst v) w':=λv w' hw=>by
   refine q4X hd rest (λo ho=>hl o (zS _ ho)) _ _ _ (hput v) (λa' e' w'' r' f' k'=>hq a' e' w'' r' (λi hi=>?_) k') hw;simp only [List.any_cons,yJ] at hi;rw [f' i hi.2];unfold wrO at hi;cases hx:o.dst with
   | none=>rfl
   | some d =>
    rw [hx] at hi;have hne:i≠d:=λhe=>by subst he; simp at hi
    simp [put,upd,hne]
  simp only [WL,WG] at h;unfold wpList;rw [q6a hr hd o]
  split
  .rename_i hw;rw [if_pos hw] at h;exact .inl (q68 hr h hrec)
  .rename_i hw;rw [if_neg hw] at h;exact hrec _ _ h
def q4B {id:Nat} {ops:Array Oper} {Q:Exit->Env->World->Prop} {e:Env} {w:World} (h:WL P ops (Q .normal) ops.toList e w):W P n (.region id ops false) Q e w:=by
 intro hd a hr;have hd':ops.toList.all (q8c n)=true:=hd;refine wp_region_list (q4X hd' ops.toList (λo ho=>by rw [yY] at hd'; exact hd' o ho) a e w hr ?_ h);intro a' e' w' r' f' k';exact ⟨e',r',f',k'⟩
end
abbrev qkD (R:World->World->Prop):={ p:Value->World->Prop // ∀ v w w',R w w'->p v w->p v w' }
section
variable {R:World->World->Prop}
def is (v:Value):qkD R:=⟨λx _=>x=v,λ_ _ _ _ h=>h⟩
def anyV:qkD R:=⟨λ_ _=>True,λ_ _ _ _ h=>h⟩
def look:List (Nat × qkD R)->Nat->qkD R
 | [],_=>anyV
 | (k,p) :: l,t=>if k=t then p else look l t
end
def looks (ops:Array Oper) (o:Oper) (t:Nat):Bool:=(o.looksAt ops).any (wP t)
def q53 (ops:Array Oper) (t:Nat):Bool:=ops.toList.any (wrO t)
section
variable {P:Program} {n:Nat} {R:World->World->Prop}
def qm7 {o:Oper} {t:Nat}:wrO t o=true ↔ o.dst=some t:=by
 unfold wrO; cases o.dst <;> simp
def q52 {ops:Array Oper} {t:Nat} (h:q53 ops t=false) (i:Nat) (o:Oper) (ho:ops[i]?=some o):o.dst≠some t:=by
 intro hd;have:q53 ops t=true:=by
  unfold q53; rw [xD];exact ⟨o,wE.2 (x9 ho),qm7.2 hd⟩
 rw [h] at this; cases this
def q3k {listed:Array Bool} {i j:Nat} (hi:i < listed.size) {b:Bool}:(listed.setIfInBounds i true).getD j b=if i=j then true else listed.getD j b:=by
 simp only [yC,xG]
 by_cases h:i=j
 .subst h; simp [hi]
 .simp [h]
def qiN:List Oper->Oper
 | []=>default
 | [o]=>o
 | _ :: o :: os=>qiN (o :: os)
def qes {o:Oper}:qiN [o]=o:=rfl
def qcT {o p:Oper} {os:List Oper}:qiN (o :: p :: os)=qiN (p :: os):=rfl
end
def q2Y {α:Type} (o:Option α) (K:α->Prop):Prop:=match o with | some a=>K a | none=>False
def q2k {α:Type} (a:α) (K:α->Prop):q2Y (some a) K=K a:=rfl
def q0k (op:BinOp) (k:IntKind) (a b:Int):Int :=
 match op with
 | .and=>k.wrap (BitVec.ofInt k.bits a &&& BitVec.ofInt k.bits b).toNat
 | .or=>k.wrap (BitVec.ofInt k.bits a ||| BitVec.ofInt k.bits b).toNat
 | .xor=>k.wrap (BitVec.ofInt k.bits a ^^^ BitVec.ofInt k.bits b).toNat
 | _=>k.wrap (BitVec.ofInt k.bits a &&& ~~~(BitVec.ofInt k.bits b)).toNat
def q2p (op:BinOp) (k:IntKind) (a b:Int):Option Value :=
 match op with
 | .add=>some (.int k (k.wrap (a+b)))
 | .sub=>some (.int k (k.wrap (a-b)))
 | .mul=>some (.int k (k.wrap (a*b)))
 | .quo=>if b=0 then none else some (.int k (k.wrap (a.tdiv b)))
 | .rem=>if b=0 then none else some (.int k (a.tmod b))
 | .and=>some (.int k (q0k .and k a b))
 | .or=>some (.int k (q0k .or k a b))
 | .xor=>some (.int k (q0k .xor k a b))
 | .andNot=>some (.int k (q0k .andNot k a b))
 | .eql=>some (.bool (a == b))
 | .neq=>some (.bool (a != b))
 | .lss=>some (.bool (decide (a < b)))
 | .leq=>some (.bool (decide (a<=b)))
 | .gtr=>some (.bool (decide (a > b)))
 | .geq=>some (.bool (decide (a ≥ b)))
 | _=>none
def q76 (op:BinOp) (k k':IntKind) (a b:Int):Option Value :=
 match op with
 | .shl=>if b < 0 then none else some (.int k (k.wrap (a*2 ^ (min b.toNat k.bits))))
 | .shr=>if b < 0 then none else some (.int k (a.fdiv (2 ^ (min b.toNat k.bits))))
 | op=>if k=k' then q2p op k a b else none
def q9n (P:Program) (t:TypeId):Bool:=!P.stoodInHeld t && !P.eqGuardType P.depth t && match P.underlying t with
 | some (.struct fs)=>match fs.toList with
  | [f, g] => f.name != "_" && g.name != "_" && f.offset == 0 && g.offset == 1 && (match P.underlying f.type, P.underlying g.type with | some (.int _), some (.int _) => true | _, _ => false) && (match P.info? f.type, P.info? g.type with | some i, some j => i.size == 1 && j.size == 1 | _, _ => false)
  | _=>false
 | _=>false
def prV:List Value->Option (IntKind × Int × IntKind × Int)
 | [.int k a,.int l b]=>some (k,a,l,b)
 | _=>none
def q0t (P:Program) (op:BinOp) (t:TypeId):Value->Value->Option Value
 | .int k a,.int k' b=>q76 op k k' a b
 | .bool a,.bool b=>match op,P.underlying t with
  | .eql,some .bool=>some (.bool (a == b))
  | .neq,some .bool=>some (.bool (a != b))
  | _,_=>none
 | .slice a _ _,.slice none _ _=>match op,P.underlying t with
  | .eql,some (.slice _)=>some (.bool a.isNone)
  | .neq,some (.slice _)=>some (.bool a.isSome)
  | _,_=>none
 | .agg xs,.agg ys=>if q9n P t=true then match prV xs.toList,prV ys.toList with
  | some (k,a,l,b),some (k',c,l',d)=>if k=k'/\l=l' then (match op with | .eql=>some (.bool (a == c && b == d)) | .neq=>some (.bool !(a == c && b == d)) | _=>none) else none
  | _,_=>none
  else none
 | _,_=>none
def unV (op:UnOp):Value->Option Value
 | .bool b=>match op with | .not=>some (.bool !b) | _=>none
 | .int k n=>match op with | .neg=>some (.int k (k.wrap (0-n))) | _=>none
 | _=>none
def qc6 (s d:Option TypeDesc):Value->Option Value
 | .int _ n=>match s,d with | some _,some (.int k)=>some (.int k (k.wrap n)) | _,_=>none
 | _=>none
def q0c (P:Program) (t:TypeId):Option (Option Nat) :=
 match P.underlying t,P.info? t with
 | some (.struct _),some i=>some (some i.size)
 | some (.array _ _),some i=>some (some i.size)
 | some _,some _=>some none
 | _,_=>none
def q0Z (P:Program) (t:TypeId) (f:Nat):Option Nat :=
 match P.underlying t with
 | some (.struct fs)=>match fs[f]? with
  | some d=>match P.info? d.type with | some i=>if i.size=0 then none else some d.offset | none=>none
  | none=>none
 | _=>none
def q0d (P:Program) (t:TypeId):Option Nat :=
 match P.underlying t with
 | some (.slice e)=>(P.info? e).map (·.size)
 | _=>none
def q05 (P:Program) (t:TypeId):Option (TypeId × Nat × Nat × Array Value) :=
 match P.underlying t with
 | some (.slice e)=>(P.info? e).bind λi=>i.zero.map λz=>(e,i.size,i.bytes,z.cells)
 | _=>none
def q18 (P:Program) (t:TypeId):Option (Array Value):=match P.info? t with | some i=>i.zero.map (·.cells) | none=>none
def q02 (P:Program) (t:TypeId):Option Nat:=(P.info? t).map (·.size)
def q1G (w:World) (p:Addr):Nat->Nat->Option (List Value)
 | _,0=>some []
 | i,k+1=>match w.cell? (p.add i),q1G w p (i+1) k with | some v,some l=>some (v :: l) | _,_=>none
def ldV (w:World) (k:Option (Option Nat)):Value->Option Value
 | .pointer (some p)=>match k with
  | some none=>w.cell? p
  | some (some k)=>(q1G w p 0 k).map λl=>.agg l.toArray
  | none=>none
 | _=>none
def stN (w:World) (p:Addr):Nat->List Value->World
 | _,[]=>w
 | i,v :: vs=>stN (w.setCell (p.add i) v) p (i+1) vs
def qke (w:World) (p:Addr):Nat->List Value->Prop
 | _,[]=>True
 | i,v :: vs=>(w.cell? (p.add i)).isSome=true/\w.frozen? (p.add i)=false/\v.oneCell'=true/\qke w p (i+1) vs
def qcc (P:Program) (t:TypeId):Option (Nat × Nat) :=
 match P.underlying t with
 | some (.array n e)=>(P.info? e).map λi=>(n,i.size)
 | _=>none
def qiS (sz:Option Nat) (ar:Option (Nat × Nat)):Value->Value->Option Value
 | .slice (some a) n _,.int _ i=>match sz with | some s=>if 0<=i/\i < n then some (.pointer (some (a.add (i.toNat*s)))) else none | none=>none
 | .pointer (some a),.int _ i=>match ar with | some (n,s)=>if 0<=i/\i < n then some (.pointer (some (a.add (i.toNat*s)))) else none | none=>none
 | _,_=>none
def q3H (y:Nat):Option Value->Nat->Option Nat
 | none,d=>some d
 | some (.int _ i),_=>if 0<=i/\i<=y then some i.toNat else none
 | some _,_=>none
def q1y (sz:Option Nat) (lo hi:Option Value):Value->Option Value
 | .slice a n c=>match sz,q3H c hi n with
  | some s,some h=>match q3H h lo 0 with
   | some l=>some (.slice (if c=l then a else a.map (·.add (l*s))) (h-l) (c-l))
   | none=>none
  | _,_=>none
 | _=>none
def quH (sz:Option Nat):Value->Option Value
 | .slice _ n _=>match sz with | some _=>some (.int .i64 n) | none=>none
 | _=>none
def qlc (i:Nat):Value->Option Value
 | .tuple vs=>vs[i]?
 | _=>none
def bsV (P:Program) (t:TypeId) (len:Nat) (parts:List (Nat × Value)):Option (TypeId × Array Value) :=
 match q05 P t with
 | some (e,s,_,z)=>if len*s=0 then (if parts.isEmpty then some (e,#[]) else none) else if len*s > 16777216 then none else (Instr.fill (λi=>some (i*s,s)) ((Array.range (len*s)).map (z[· % z.size]!)) parts).map λcs=>(e,cs)
 | none=>none
def mmV (isMax:Bool):List Value->Option Value
 | [.int k a,.int k' b]=>if k=k' then some (.int k (if isMax then max a b else min a b)) else none
 | _=>none
def q0G (P : Program) (f : FuncId) : Bool := match P.funcs[f]? with | some fn => fn.body.isSome && !(fn.name == "runtime.NumGoroutine") | none => false
def wo (P:Program) (o:Oper) (e:Env) (w:World) (K:Value->World->Prop):Prop :=
 match o.op with
 | .move x=>K (ev e x) w
 | .assign x=>K (ev e x) w
 | .pick c a b=>match ev e c with | .bool true=>K (ev e a) w | .bool false=>K (ev e b) w | _=>False
 | .alloc t=>q2Y (q18 P t) λz=>K (.pointer (some ⟨w.heap.size,0,none⟩)) (w.alloc (.cells z t))
 | .box t x=>K (.pointer (some ⟨w.heap.size,0,none⟩)) (w.alloc (.cells (ev e x).cells t))
 | .build t ps=>q2Y (P.built t (ps.map λ(i,x)=>(i,ev e x)).toList) λcs=>K (.agg cs) w
 | .buildSlice t len ps=>q2Y (bsV P t len (ps.map λ(i,x)=>(i,ev e x)).toList) λ(el,cs)=>K (.slice (some ⟨w.heap.size,0,none⟩) len len) (w.alloc (.cells cs el))
 | .load t a=>q2Y (ldV w (q0c P t) (ev e a)) λv=>K v w
 | .store t a x=>match ev e a with
  | .pointer (some p)=>q02 P t=some (ev e x).cells.size/\qke w p 0 (ev e x).cells.toList/\K undef (stN w p 0 (ev e x).cells.toList)
  | _=>False
 | .binOp op t x y _=>q2Y (q0t P op t (ev e x) (ev e y)) λv=>K v w
 | .unOp op _ x=>q2Y (unV op (ev e x)) λv=>K v w
 | .convert s d x=>q2Y (qc6 (P.underlying s) (P.underlying d) (ev e x)) λv=>K v w
 | .fieldAddr t x f=>match ev e x with
  | .pointer (some p)=>q2Y (q0Z P t f) λoff=>K (.pointer (some (p.add off))) w
  | _=>False
 | .indexAddr t x i=>q2Y (qiS (q0d P t) (qcc P t) (ev e x) (ev e i)) λv=>K v w
 | .slice t x lo hi none=>q2Y (q1y (q0d P t) (lo.map (ev e)) (hi.map (ev e)) (ev e x)) λv=>K v w
 | .makeSlice t l c=>match ev e l,ev e c with
  | .int _ l,.int _ c=>q2Y (q05 P t) λ(el,s,b,z)=>(0<=l/\l<=c/\(b:Int)*c<=281474976710656/\c<=9223372036854775807)/\K (.slice (some ⟨w.heap.size,0,none⟩) l.toNat c.toNat) (w.alloc (.cells (madeCells z (c.toNat*s)) el))
  | _,_=>False
 | .nilCheck x=>match ev e x with
  | .pointer (some p)=>K (.pointer (some p)) w
  | _=>False
 | .extract x i=>q2Y (qlc i (ev e x)) λv=>K v w
 | .call c=>match c.callee with
  | .builtin .len=>match c.args.toList,c.argTypes.toList with
   | [x],[t]=>q2Y (quH (q0d P t) (ev e x)) λv=>K v w
   | _,_=>False
  | .builtin .max=>q2Y (mmV true (c.args.toList.map (ev e))) λv=>K v w
  | .builtin .min=>q2Y (mmV false (c.args.toList.map (ev e))) λv=>K v w
  | .value (.func f)=>q0G P f=true/\Calls P f (c.args.map (ev e)) w λx w'=>match x with | .returned v=>K v w' | _=>False
  | _=>WO P o e w K
 | _=>WO P o e w K
section
variable {P:Program} {o:Oper} {e:Env} {w:World} {K:Value->World->Prop}
def q0R {α:Type} {o:Option α} {K:α->Prop} (h:q2Y o K):∃ a,o=some a/\K a:=by
 cases o with
 | none=>exact h.elim
 | some a=>exact ⟨a,rfl,h⟩
def q5Q (w:World) (p:Addr):∀ (k i:Nat) (l:List Value) (acc:Array Value),q1G w p i k=some l->(loadCellsFrom p i k acc).run P w=.ok (acc ++ l.toArray) w
 | 0,i,l,acc,h=>by simp [q1G] at h; subst h; simp [loadCellsFrom]
 | k+1,i,l,acc,h=>by
  simp only [q1G] at h;cases hc:w.cell? (p.add i) with
  | none=>simp [hc] at h
  | some v =>
   cases hr:q1G w p (i+1) k with
   | none=>simp [hc,hr] at h
   | some l' =>
    simp [hc,hr] at h;subst h;have:=q5Q w p k (i+1) l' (acc.push v) hr;simp only [loadCellsFrom,Sem.run_bind,run_load,hc,Result.andThen,this];simp
def qdq (P:Program) (p:Addr):∀ (vs:List Value) (i:Nat) (w:World),qke w p i vs->(storeCells p vs i).run P w=.ok () (stN w p i vs)
 | [],i,w,_=>by simp [storeCells,stN]
 | v :: vs,i,w,⟨h1,h2,h3,h4⟩=>by
  have hkeep:∀ (vs:List Value) (j:Nat),i < j->qke w p j vs->qke (w.setCell (p.add i) v) p j vs:=by
   intro vs
   induction vs with
   | nil=>intro _ _ _; exact trivial
   | cons u vs ih =>
    rintro j hj ⟨a1,a2,a3,a4⟩;have hne:p.add i≠p.add j:=λhe=>by
     unfold Addr.add at he
     split at he <;> split at he <;> first | omega | (have:=congrArg Addr.off he; simp at this; omega)
    refine ⟨?_,by rw [World.frozen?_setCell]; exact a2,a3,ih (j+1) Oq a4⟩;rw [World.cell?_setCell_other _ _ _ _ hne];exact a1
  have ih:=qdq P p vs (i+1) (w.setCell (p.add i) v) (hkeep vs (i+1) Oq h4);obtain ⟨u,hu⟩:=xS.1 h1;have hst:(store (p.add i) v).run P w=.ok () (w.setCell (p.add i) v):=by
   rw [run_store P w _ v _ h3];simp [hu,h2]
  simp only [storeCells,Sem.run_bind,hst,Result.andThen_ok,ih,stN]
def q6K {t:TypeId} {a b:Bool} (w:World) (hu:P.underlying t=some .bool):(Op.equal t (.bool a) (.bool b)).run P w=.ok (a == b) w:=by
 have h:∀ d:Nat,(Op.equalIn (d+1) t (.bool a) (.bool b)).run P w=.ok (a == b) w:=λd=>by
  simp [Op.equalIn,run_underlying hu]
 exact h 9999
def q8G {t el:TypeId} {a:Option Addr} {n c n' c':Nat} (w:World) (hu:P.underlying t=some (.slice el)):(Op.equal t (.slice a n c) (.slice none n' c')).run P w=.ok a.isNone w:=by
 have h:∀ d:Nat,(Op.equalIn (d+1) t (.slice a n c) (.slice none n' c')).run P w=.ok a.isNone w:=λd=>by
  cases a <;> simp [Op.equalIn,run_underlying hu]
 exact h 9999
def q8H {t:TypeId} {k0 k:IntKind} {a b:Int} (w:World) (hu:P.underlying t=some (.int k0)) (d:Nat):(Op.equalIn (d+1) t (.int k a) (.int k b)).run P w=.ok (a == b) w:=by
 simp [Op.equalIn,run_underlying hu]
def q6J {t:TypeId} {k l:IntKind} {a b c d:Int} (w:World) (h:q9n P t=true):(Op.equal t (.agg #[.int k a,.int l b]) (.agg #[.int k c,.int l d])).run P w=.ok (a == c && b == d) w:=by
 unfold q9n at h;simp only [zE] at h;obtain ⟨⟨h1,h2⟩,h3⟩:=h
 split at h3
 case h_2=>cases h3
 rename_i fs hu
 split at h3
 case h_2=>cases h3
 rename_i f g hfs;simp only [zE] at h3;obtain ⟨⟨⟨⟨⟨n1,n2⟩,o1⟩,o2⟩,u⟩,s⟩:=h3
 split at u
 case h_2=>cases u
 rename_i k1 k2 u1 u2
 split at s
 case h_2=>cases s
 rename_i i j i1 i2;have hfs2:fs=#[f,g]:=by cases fs; simp at hfs; subst hfs; rfl
 subst hfs2;have e:∀ dd:Nat,(Op.equalIn (dd+2) t (.agg #[.int k a,.int l b]) (.agg #[.int k c,.int l d])).run P w=.ok (a == c && b == d) w:=λdd=>by
  have x1:=λw=>q8H (k:=k) (a:=a) (b:=c) w u1 dd;have x2:=λw=>q8H (k:=l) (a:=b) (b:=d) w u2 dd;have h1:P.stoodInHeld t=false:=by simpa using h1
  have n1 : f.name ≠ "_" := by simpa using n1
  have n2 : g.name ≠ "_" := by simpa using n2
  have o1:f.offset=0:=by simpa using o1
  have o2:g.offset=1:=by simpa using o2
  have p1:∀ (v u:Value) (w:World),(part f.type #[v,u] 0).run P w=.ok v w:=λv u w=>by simp [part,isAgg,run_underlying u1]
  have p2:∀ (v u:Value) (w:World),(part g.type #[v,u] 1).run P w=.ok u w:=λv u w=>by simp [part,isAgg,run_underlying u2]
  rw [Op.equalIn];simp only [Sem.run_bind,run_underlying hu,Result.andThen_ok];cases e1:(a == c) <;> cases e2:(b == d) <;> simp [h1,n1,n2,o1,o2,p1,p2,x1,x2,e1,e2]
 exact e 9998
def qjS {op:BinOp} {t:TypeId} {x y:Operand} {xs ys:Array Value} (w:World) (h:q9n P t=true):(eqGuard op t x y (.agg xs) (.agg ys)).run P w=.ok () w:=by
 unfold q9n at h;simp only [zE] at h;obtain ⟨⟨h1,h2⟩,h3⟩:=h;have h2:P.eqGuardType P.depth t=false:=by simpa using h2
 unfold eqGuard;cases op <;> simp [h2]
def qlB {xs:Array Value} {k l:IntKind} {a b:Int} (h:prV xs.toList=some (k,a,l,b)):xs=#[.int k a,.int l b]:=by
 cases xs with
 | mk xs =>
  unfold prV at h
  split at h
  .rename_i q;cases h;simp at q;subst q; rfl
  .cases h
def qhd {op : BinOp} {t : TypeId} {x y : Operand} {vx vy v : Value} (w : World) (hv : q0t P op t vx vy = some v) :
    (do eqGuard op t x y vx vy; binOp op t vx vy : Sem Value).run P w = .ok v w := by
  unfold q0t at hv
  split at hv
  . rename_i k a k' b
    unfold q76 at hv
    have hg : (eqGuard op t x y (.int k a) (.int k' b)).run P w = .ok () w := by
      unfold eqGuard; cases op <;> simp
    rw [Sem.run_bind, hg, Result.andThen_ok]
    split at hv
    . split at hv
      . cases hv
      . rename_i hb; obtain rfl := zH.inj hv; simp [binOp, Op.shift, hb]
    . split at hv
      . cases hv
      . rename_i hb; obtain rfl := zH.inj hv; simp [binOp, Op.shift, hb]
    . rename_i hs1 hs2
      split at hv
      . rename_i hk
        subst hk
        cases op <;> simp only [q2p] at hv <;> first
          | exact absurd rfl hs1
          | exact absurd rfl hs2
          | (split at hv
             . cases hv
             . rename_i hb; obtain rfl := zH.inj hv; simp [binOp, Op.intDiv, hb])
          | (obtain rfl := zH.inj hv; simp [binOp, Op.intArith, Op.intBits, Op.intCmp, q0k])
          | cases hv
      . cases hv
  . rename_i a b
    split at hv
    . rename_i hu
      obtain rfl := zH.inj hv
      have hg : (eqGuard .eql t x y (.bool a) (.bool b)).run P w = .ok () w := by unfold eqGuard; simp
      rw [Sem.run_bind, hg, Result.andThen_ok]
      have hb : binOp .eql t (.bool a) (.bool b) = (do pure (.bool (<- Op.equal t (.bool a) (.bool b))) : Sem Value) := rfl
      rw [hb, Sem.run_bind, q6K w hu]
      rfl
    . rename_i hu
      obtain rfl := zH.inj hv
      have hg : (eqGuard .neq t x y (.bool a) (.bool b)).run P w = .ok () w := by unfold eqGuard; simp
      rw [Sem.run_bind, hg, Result.andThen_ok]
      have hb : binOp .neq t (.bool a) (.bool b) = (do pure (.bool (!(<- Op.equal t (.bool a) (.bool b)))) : Sem Value) := rfl
      rw [hb, Sem.run_bind, q6K w hu]
      rfl
    . cases hv
  . rename_i a n c n' c'
    split at hv
    . rename_i hu
      obtain rfl := zH.inj hv
      have hg : (eqGuard .eql t x y (.slice a n c) (.slice none n' c')).run P w = .ok () w := by unfold eqGuard; simp
      rw [Sem.run_bind, hg, Result.andThen_ok]
      have hb : binOp .eql t (.slice a n c) (.slice none n' c') = (do pure (.bool (<- Op.equal t (.slice a n c) (.slice none n' c'))) : Sem Value) := rfl
      rw [hb, Sem.run_bind, q8G w hu]
      rfl
    . rename_i hu
      obtain rfl := zH.inj hv
      have hg : (eqGuard .neq t x y (.slice a n c) (.slice none n' c')).run P w = .ok () w := by unfold eqGuard; simp
      rw [Sem.run_bind, hg, Result.andThen_ok]
      have hb : binOp .neq t (.slice a n c) (.slice none n' c') = (do pure (.bool (!(<- Op.equal t (.slice a n c) (.slice none n' c')))) : Sem Value) := rfl
      rw [hb, Sem.run_bind, q8G w hu]
      cases a <;> rfl
    . cases hv
  . rename_i xs ys
    split at hv
    case isFalse => cases hv
    rename_i hk
    split at hv
    case h_2 => cases hv
    rename_i k a l b k' c l' d hx hy
    have ex := qlB hx
    have ey := qlB hy
    subst ex; subst ey
    split at hv
    case isFalse => cases hv
    rename_i hkk
    obtain ⟨rfl, rfl⟩ := hkk
    rw [Sem.run_bind, qjS w hk, Result.andThen_ok]
    split at hv
    . obtain rfl := zH.inj hv
      have hb : binOp .eql t (.agg #[.int k a, .int l b]) (.agg #[.int k c, .int l d]) = (do pure (.bool (<- Op.equal t (.agg #[.int k a, .int l b]) (.agg #[.int k c, .int l d]))) : Sem Value) := rfl
      rw [hb, Sem.run_bind, q6J w hk]
      rfl
    . obtain rfl := zH.inj hv
      have hb : binOp .neq t (.agg #[.int k a, .int l b]) (.agg #[.int k c, .int l d]) = (do pure (.bool (!(<- Op.equal t (.agg #[.int k a, .int l b]) (.agg #[.int k c, .int l d])))) : Sem Value) := rfl
      rw [hb, Sem.run_bind, q6J w hk]
      rfl
    . cases hv
  . cases hv
def q1j {y d h:Nat} (hv:q3H y none d=some h):d=h:=zH.inj hv
def q1S {w:World} {y d h:Nat} {v:Value} (code:BoundsCode) (hv:q3H y (some v) d=some h):(Instr.sliceBound v y code).run P w=.ok h w:=by
 cases v <;> simp only [q3H] at hv <;> try (cases hv; done)
 split at hv
 .rename_i hb;obtain rfl:=zH.inj hv;exact run_sliceBound w _ _ _ _ hb.1 hb.2
 .cases hv
def qcG {t:TypeId} {lo hi:Option Value} {x v:Value} (w:World) (hv:q1y (q0d P t) lo hi x=some v) :
  ∃ el,P.underlying t=some (.slice el)/\∃ i,P.info? el=some i/\(Instr.sliceAt t x lo hi none).run P w=.ok v w:=by
 unfold q1y at hv
 split at hv
 .rename_i a n c
  split at hv
  .rename_i s h hs hh
   split at hv
   .rename_i l hl;obtain rfl:=zH.inj hv;unfold q0d at hs
    split at hs
    .rename_i el hu;obtain ⟨i,hi',hsz⟩:=zM.1 hs;refine ⟨el,hu,i,hi',?_⟩;have hsize:(sizeOf el).run P w=.ok s w:=by simp [sizeOf,typeInfo,hi',hsz]
     have hb:(Instr.sliceBounds true n c lo hi none).run P w=.ok (l,h,c) w:=by
      unfold Instr.sliceBounds;cases hi with
      | none =>
       obtain rfl:=q1j hh;cases lo with
       | none=>obtain rfl:=q1j hl; simp
       | some lv=>simp [q1S (P:=P) (w:=w) .sliceB hl]
      | some hv' =>
       cases lo with
       | none=>obtain rfl:=q1j hl; simp [q1S (P:=P) (w:=w) .sliceAcap hh]
       | some lv=>simp [q1S (P:=P) (w:=w) .sliceAcap hh,q1S (P:=P) (w:=w) .sliceB hl]
     simp [Instr.sliceAt,Instr.slice,run_underlying hu,hb,hsize]
    .cases hs
   .cases hv
  .cases hv
 .cases hv
def qcH {t:TypeId} {f off:Nat} (w:World) (p:Addr) (h:q0Z P t f=some off):(Instr.fieldAt t (.pointer (some p)) f).run P w=.ok (.pointer (some (p.add off))) w:=by
 unfold q0Z at h
 split at h
 .rename_i fs hu
  split at h
  .rename_i d hd
   split at h
   .rename_i i hi
    split at h
    .cases h
    .rename_i hn;obtain rfl:=zH.inj h;simp [Instr.fieldAt,run_underlying hu,hd,Instr.sureAddr,fieldPlace,sizeOf,typeInfo,hi,hn]
   .cases h
  .cases h
 .cases h
def qhc {t:TypeId} {x i v:Value} (w:World) (h:qiS (q0d P t) (qcc P t) x i=some v):(Instr.indexAt t x i).run P w=.ok v w:=by
 unfold qiS at h
 split at h
 .split at h
  .rename_i s hs
   split at h
   .rename_i hb;obtain rfl:=zH.inj h;unfold q0d at hs
    split at hs
    .rename_i el hu;obtain ⟨i,hi,hsz⟩:=zM.1 hs;simp [Instr.indexAt,asIntOf,run_underlying hu,hb,sizeOf,typeInfo,hi,hsz]
    .cases hs
   .cases h
  .cases h
 .split at h
  .rename_i n s hs
   split at h
   .rename_i hb;obtain rfl:=zH.inj h;unfold qcc at hs
    split at hs
    .rename_i n' el hu;obtain ⟨i,hi,hsz⟩:=zM.1 hs;cases hsz;simp [Instr.indexAt,Instr.sureAddr,asIntOf,run_underlying hu,hb,sizeOf,typeInfo,hi]
    .cases hs
   .cases h
  .cases h
 .cases h
def qaV (h:wo P o e w K):WO P o e w K:=by
 unfold wo at h;unfold WO;obtain ⟨dst,op,ty,pos,af,g⟩:=o;cases op <;> try exact h
 case pick c a b =>
  simp only [] at h;simp only [execOp,Sem.run_bind]
  split at h
  .rename_i hc; rw [hc]; exact h
  .rename_i hc; rw [hc]; exact h
  .exact h.elim
 case alloc t =>
  obtain ⟨z,hz,h⟩:=q0R h;unfold q18 at hz;cases hi:P.info? t with
  | none=>rw [hi] at hz; cases hz
  | some i =>
   rw [hi] at hz;cases hzz:i.zero with
   | none=>simp [hzz] at hz
   | some v =>
    simp [hzz] at hz;subst hz;simp [execOp,Instr.alloc,zeroValue,typeInfo,hi,hzz,newVar,newRow,RO];exact h
 case build t ps =>
  obtain ⟨z,hz,h⟩:=q0R h;have:=run_build (P:=P) w t (ps.map λ(i,x)=>(i,ev e x)) z hz;simp only [execOp,Sem.run_bind,this];exact h
 case buildSlice t len ps =>
  obtain ⟨z,hz,h⟩:=q0R h;unfold bsV q05 at hz;cases hu:P.underlying t with
  | none=>simp [hu] at hz
  | some d =>
   cases d with
   | slice el =>
    cases hi:P.info? el with
    | none=>simp [hu,hi] at hz
    | some i =>
     cases hzz:i.zero with
     | none=>simp [hu,hi,hzz] at hz
     | some v =>
      simp only [hu,hi,hzz,xC,vN] at hz;have e1:(sizeOf el).run P w=.ok i.size w:=by simp [sizeOf,typeInfo,hi]
      have e2:(zeroValue el).run P w=.ok v w:=by simp [zeroValue,typeInfo,hi,hzz]
      have hrun:(Instr.buildSlice t len (ps.map λ(i,x)=>(i,ev e x))).run P w=.ok (.slice (some ⟨w.heap.size,0,none⟩) len len) (w.alloc (.cells z.2 z.1)):=by
       unfold Instr.buildSlice;rw [Sem.run_bind,run_underlying hu,Result.andThen_ok];simp only [];rw [Sem.run_bind,e1,Result.andThen_ok]
       split at hz
       .rename_i h0
        split at hz
        .rename_i hp;obtain rfl:=zH.inj hz;have hp':(ps.map λ(i,x)=>(i,ev e x)).toList=[]:=by simpa using hp
         have h2':¬ len*i.size > 2 ^ 24:=ω
         rw [if_neg h2',if_pos h0];simp only [pure_bind];have hr0:Array.range 0=#[]:=rfl;rw [hp',h0,hr0];simp [Instr.fill,newRow]
        .cases hz
       .rename_i h1
        split at hz
        .cases hz
        .rename_i h2;have h2':¬ len*i.size > 2 ^ 24:=by simpa using h2
         obtain ⟨cs,hcs,rfl⟩:=zM.1 hz;rw [if_neg h2',if_neg h1];simp only [pure_bind,Sem.run_bind,e2,Result.andThen_ok];rw [hcs];simp [newRow]
      simp only [execOp,Sem.run_bind,hrun];exact h
   | _=>simp [hu] at hz
 case load t a =>
  obtain ⟨v,hv,h⟩:=q0R h;have key:(Instr.loadAt t (ev e a)).run P w=.ok v w:=by
   generalize ev e a=va at *;unfold ldV at hv
   split at hv
   .rename_i p
    split at hv
    .rename_i hk;unfold q0c at hk;have hagg:(isAgg t).run P w=.ok false w:=by
      unfold isAgg;cases hu:P.underlying t with
      | none=>simp [hu] at hk
      | some d =>
       rw [Sem.run_bind,run_underlying hu w];cases hi:P.info? t <;> cases d <;> simp_all
     simp [Instr.loadAt,Instr.sureAddr,loadVar,hagg,hv]
    .rename_i k hk;unfold q0c at hk;obtain ⟨l,hl,rfl⟩:=zM.1 hv;have hagg:(isAgg t).run P w=.ok true w/\(sizeOf t).run P w=.ok k w:=by
      unfold isAgg sizeOf typeInfo;cases hu:P.underlying t with
      | none=>simp [hu] at hk
      | some d =>
       rw [Sem.run_bind,run_underlying hu w];cases hi:P.info? t <;> cases d <;> simp_all
     have hrun:=q5Q (P:=P) w p k 0 l #[] hl;simp [Instr.loadAt,Instr.sureAddr,loadVar,hagg.1,hagg.2,loadCells,hrun]
    .cases hv
   .cases hv
  simp only [execOp,Sem.run_bind,key];exact h
 case store t a x =>
  simp only [] at h
  split at h
  .rename_i p hp;obtain ⟨h1,h2,h3⟩:=h;unfold q02 at h1;obtain ⟨i,hi,hs⟩:=zM.1 h1;have hrun:=qdq P p (ev e x).cells.toList 0 w h2;simp [execOp,Instr.storeAt,Instr.sureAddr,storeVar,sizeOf,typeInfo,hi,hs,hp,hrun,RO];exact h3
  .exact h.elim
 case nilCheck x =>
  simp only [] at h
  split at h
  .rename_i p hp; simp [execOp,hp,RO]; exact h
  .exact h.elim
 case binOp op t x y t' =>
  obtain ⟨v,hv,h⟩:=q0R h;have key:=qhd (P:=P) (x:=x) (y:=y) w hv;simp only [execOp];rw [Sem.run_bind,key];exact h
 case unOp op t x =>
  obtain ⟨v,hv,h⟩:=q0R h;unfold unV at hv
  split at hv
  .rename_i hx
   split at hv
   .obtain rfl:=zH.inj hv;simp [execOp,hx,Op.unary,RO]; exact h
   .cases hv
  .rename_i hx
   split at hv
   .obtain rfl:=zH.inj hv;simp only [execOp,hx,Op.unary,Op.intArith,Sem.run_bind]; exact h
   .cases hv
  .cases hv
 case convert s d x =>
  obtain ⟨v,hv,h⟩:=q0R h;unfold qc6 at hv
  split at hv
  .rename_i k0 n0 hx
   split at hv
   .rename_i sd k hs hd;obtain rfl:=zH.inj hv;have key:(convert s d (ev e x)).run P w=.ok (.int k (k.wrap n0)) w:=by
     rw [hx]; simp [convert,run_underlying hs,run_underlying hd,Conv.intToInt]
    simp only [execOp,Sem.run_bind,key];exact h
   .cases hv
  .cases hv
 case makeSlice t l c =>
  simp only [] at h
  split at h
  .rename_i kl l' kc c' hl hc;obtain ⟨⟨el,s,b,z⟩,hz,⟨h0,h1,h2,h3⟩,h⟩:=q0R h;unfold q05 at hz;cases hu:P.underlying t with
   | none=>simp [hu] at hz
   | some d =>
    cases d with
    | slice el' =>
     cases hi:P.info? el' with
     | none=>simp [hu,hi] at hz
     | some i =>
      cases hzz:i.zero with
      | none=>simp [hu,hi,hzz] at hz
      | some v =>
       simp [hu,hi,hzz] at hz;obtain ⟨rfl,rfl,rfl,rfl⟩:=hz;have:=run_make (P:=P) w t el' i v hu hi hzz kl kc l' c' h0 h1 h2 h3;simp only [execOp,hl,hc,Sem.run_bind,this];exact h
    | _=>simp [hu] at hz
  .exact h.elim
 case slice t x lo hi mx =>
  cases mx with
  | some _=>exact h
  | none =>
   obtain ⟨v,hv,h⟩:=q0R h;obtain ⟨el,hu,i,hi',hrun⟩:=qcG (P:=P) w hv;simp only [execOp,Sem.run_bind,Option.map_none,hrun];exact h
 case fieldAddr t x f =>
  simp only [] at h
  split at h
  .rename_i p hp;obtain ⟨off,ho,h⟩:=q0R h;have key:=qcH (P:=P) w p ho;simp only [execOp,Sem.run_bind,hp,key];exact h
  .exact h.elim
 case indexAddr t x i =>
  obtain ⟨v,hv,h⟩:=q0R h;have key:=qhc (P:=P) w hv;simp only [execOp,Sem.run_bind,key];exact h
 case extract x i =>
  obtain ⟨v,hv,h⟩:=q0R h;unfold qlc at hv
  split at hv
  .rename_i hx; simp [execOp,hx,Instr.extract,hv,RO]; exact h
  .cases hv
 case call c =>
  simp only [] at h;obtain ⟨callee,args,tys⟩:=c;simp only [] at h
  split at h
  .split at h
   .rename_i x t ha ht;obtain ⟨v,hv,h⟩:=q0R h;obtain ⟨args⟩:=args;obtain ⟨tys⟩:=tys;simp only at ha ht;subst ha; subst ht;have key:(Builtin.len_ #[t] ty #[ev e x]).run P w=.ok v w:=by
     unfold quH at hv
     split at hv
     .rename_i hx
      split at hv
      .rename_i hs;obtain rfl:=zH.inj hv;unfold q0d at hs
       split at hs
       .rename_i el hu;simp [Builtin.len_,hx,run_underlying hu,goInt]
       .cases hs
      .cases hv
     .cases hv
    simp [execOp,resolve,invoke,builtin,key,RO];exact h
   .exact h.elim
  .obtain ⟨v,hv,h⟩:=q0R h;have key:(Builtin.max_ tys ty (args.map (ev e))).run P w=.ok v w:=by
    unfold mmV at hv;unfold Builtin.max_;rw [Array.toList_map]
    split at hv
    .rename_i k a k' b hl
     split at hv
     .rename_i hk;obtain rfl:=zH.inj hv;simp [hl,Builtin.max2]
      split <;> omega
     .cases hv
    .cases hv
   simp [execOp,resolve,invoke,builtin,key,RO];exact h
  .obtain ⟨v,hv,h⟩:=q0R h;have key:(Builtin.min_ tys ty (args.map (ev e))).run P w=.ok v w:=by
    unfold mmV at hv;unfold Builtin.min_;rw [Array.toList_map]
    split at hv
    .rename_i k a k' b hl
     split at hv
     .rename_i hk;obtain rfl:=zH.inj hv;simp [hl,Builtin.min2]
      split <;> omega
     .cases hv
    .cases hv
   simp [execOp,resolve,invoke,builtin,key,RO];exact h
  .rename_i f;obtain ⟨hf,h⟩:=h;have key:(callFunc f (args.map (ev e))).run P w=.ok (.enter f (args.map (ev e))) w:=by
    unfold q0G at hf;cases hfn:P.funcs[f]? with
    | none=>simp [hfn] at hf
    | some fn =>
     simp only [hfn,zE] at hf;obtain ⟨h1,h2⟩:=hf;obtain ⟨b,hb⟩:=xS.1 h1;simp only [Bool.not_eq_true',beq_eq_false_iff_ne,ne_eq] at h2;simp [callFunc,hfn,hb,h2]
   have key2:(execOp (ev e) ⟨dst,.call ⟨.value (.func f),args,tys⟩,ty,pos,af,g⟩).run P w=.ok (.enter f (args.map (ev e))) w:=by
    simp only [execOp,resolve,Deferred.ofValue,ev,pure_bind,invoke];simp [key]
   rw [key2];exact h
  .exact h
end
def wg (P:Program) (ops:Array Oper) (o:Oper) (e:Env) (w:World) (K:Value->World->Prop):Prop :=
 if q5r ops e o then wo P o e w K else K undef w
def WLo (P:Program) (ops:Array Oper) (K:Env->World->Prop):List Oper->Env->World->Prop
 | [],e,w=>K e w
 | o :: rest,e,w=>wg P ops o e w λv w'=>WLo P ops K rest (put e o.dst v) w'
section
variable {P:Program} {n:Nat} {ops:Array Oper} {Q:Exit->Env->World->Prop} {K:Env->World->Prop} {e:Env} {w:World}
def q3B {o:Oper} {K:Value->World->Prop} (h:wg P ops o e w K):WG P ops o e w K:=by
 unfold wg at h; unfold WG
 split
 .rename_i hw; rw [if_pos hw] at h; exact qaV h
 .rename_i hw; rw [if_neg hw] at h; exact h
def q8q:∀ (l:List Oper) (e:Env) (w:World),WLo P ops K l e w->WL P ops K l e w
 | [],_,_,h=>h
 | _ :: rest,_,_,h=>qaM (λ_ _ h=>q8q rest _ _ h) (q3B h)
def qxP {id:Nat} {l:List Oper} (h:WLo P l.toArray (Q .normal) l e w):W P n (.region id l.toArray false) Q e w:=q4B (q8q _ _ _ (by simpa using h))
def qmM {id:Nat} {l:List Oper} (h:∀ K:Env->World->Prop,(∀ e w,Q .normal e w->K e w)->WLo P l.toArray K l e w):W P n (.region id l.toArray false) Q e w:=qxP (h _ λ_ _ h=>h)
def q1F {id:Nat} {l:List Oper} {b:Code} (h:∀ K:Env->World->Prop,(∀ e w,W P n b Q e w->K e w)->WLo P l.toArray K l e w):W P n (.seq (.region id l.toArray false) b) Q e w :=
 qqd (qxP (h _ λ_ _ h=>h))
def Wz {id:Nat} {l:List Oper} {b:Code} {e1:Env} {w1:World}  (k:W P n b Q e1 w1) (ee:∀ K:Env->World->Prop,WLo P l.toArray K l e w=K e1 w1:=by intro K; simp -implicitDefEqProofs (disch:=omega) only [go_sem,Nat.reduceEqDiff,Nat.reduceAdd,↓reduceIte]; exact rfl):W P n (.seq (.region id l.toArray false) b) Q e w:=q1F λK hK=>(ee K).mpr (hK _ _ k)
def Wz1 {id:Nat} {l:List Oper} {b:Code} {e1:Env} {w1:World} {F1:Prop} (f1:F1) (k:W P n b Q e1 w1) (ee:F1->∀ K:Env->World->Prop,WLo P l.toArray K l e w=K e1 w1:=by intro g1 K; simp -implicitDefEqProofs (disch:=omega) only [go_sem,Nat.reduceEqDiff,Nat.reduceAdd,↓reduceIte,g1]; exact rfl):W P n (.seq (.region id l.toArray false) b) Q e w:=q1F λK hK=>(ee f1 K).mpr (hK _ _ k)
def Wz2 {id:Nat} {l:List Oper} {b:Code} {e1:Env} {w1:World} {F1 F2:Prop} (f1:F1) (f2:F2) (k:W P n b Q e1 w1) (ee:F1->F2->∀ K:Env->World->Prop,WLo P l.toArray K l e w=K e1 w1:=by intro g1 g2 K; simp -implicitDefEqProofs (disch:=omega) only [go_sem,Nat.reduceEqDiff,Nat.reduceAdd,↓reduceIte,g1,g2]; exact rfl):W P n (.seq (.region id l.toArray false) b) Q e w:=q1F λK hK=>(ee f1 f2 K).mpr (hK _ _ k)
def Wz3 {id:Nat} {l:List Oper} {b:Code} {e1:Env} {w1:World} {F1 F2 F3:Prop} (f1:F1) (f2:F2) (f3:F3) (k:W P n b Q e1 w1) (ee:F1->F2->F3->∀ K:Env->World->Prop,WLo P l.toArray K l e w=K e1 w1:=by intro g1 g2 g3 K; simp -implicitDefEqProofs (disch:=omega) only [go_sem,Nat.reduceEqDiff,Nat.reduceAdd,↓reduceIte,g1,g2,g3]; exact rfl):W P n (.seq (.region id l.toArray false) b) Q e w:=q1F λK hK=>(ee f1 f2 f3 K).mpr (hK _ _ k)
def Wz4 {id:Nat} {l:List Oper} {b:Code} {e1:Env} {w1:World} {F1 F2 F3 F4:Prop} (f1:F1) (f2:F2) (f3:F3) (f4:F4) (k:W P n b Q e1 w1) (ee:F1->F2->F3->F4->∀ K:Env->World->Prop,WLo P l.toArray K l e w=K e1 w1:=by intro g1 g2 g3 g4 K; simp -implicitDefEqProofs (disch:=omega) only [go_sem,Nat.reduceEqDiff,Nat.reduceAdd,↓reduceIte,g1,g2,g3,g4]; exact rfl):W P n (.seq (.region id l.toArray false) b) Q e w:=q1F λK hK=>(ee f1 f2 f3 f4 K).mpr (hK _ _ k)
def Wz5 {id:Nat} {l:List Oper} {b:Code} {e1:Env} {w1:World} {F1 F2 F3 F4 F5:Prop} (f1:F1) (f2:F2) (f3:F3) (f4:F4) (f5:F5) (k:W P n b Q e1 w1) (ee:F1->F2->F3->F4->F5->∀ K:Env->World->Prop,WLo P l.toArray K l e w=K e1 w1:=by intro g1 g2 g3 g4 g5 K; simp -implicitDefEqProofs (disch:=omega) only [go_sem,Nat.reduceEqDiff,Nat.reduceAdd,↓reduceIte,g1,g2,g3,g4,g5]; exact rfl):W P n (.seq (.region id l.toArray false) b) Q e w:=q1F λK hK=>(ee f1 f2 f3 f4 f5 K).mpr (hK _ _ k)
def Wz6 {id:Nat} {l:List Oper} {b:Code} {e1:Env} {w1:World} {F1 F2 F3 F4 F5 F6:Prop} (f1:F1) (f2:F2) (f3:F3) (f4:F4) (f5:F5) (f6:F6) (k:W P n b Q e1 w1) (ee:F1->F2->F3->F4->F5->F6->∀ K:Env->World->Prop,WLo P l.toArray K l e w=K e1 w1:=by intro g1 g2 g3 g4 g5 g6 K; simp -implicitDefEqProofs (disch:=omega) only [go_sem,Nat.reduceEqDiff,Nat.reduceAdd,↓reduceIte,g1,g2,g3,g4,g5,g6]; exact rfl):W P n (.seq (.region id l.toArray false) b) Q e w:=q1F λK hK=>(ee f1 f2 f3 f4 f5 f6 K).mpr (hK _ _ k)
end
def resF (e:Env):ResultVar->Sem Value
 | .tmp t=>pure (e t)
 | .cell a t=>do loadVar t (<- asAddr (e a))
def qhh (fn:Func) (e:Env):Sem Value:=do
 let vs <- fn.results.mapM (resF e)
 pure (if h:vs.size=1 then vs[0] else .tuple vs)
def qgp (P:Program) (fn:Func) (R:Ending->World->Prop) (x:Exit) (e:Env) (w:World):Prop :=
 match x with
 | .normal | .ret=>∃ v,(qhh fn e).run P w=.ok v w/\R (.returned v) w
 | _=>False
section
variable {P:Program} {n:Nat}
def q6M {fn:Func} {a:Act} {e:Env} (hr:Rel n a e):results fn a.tmps=qhh fn e:=by
 have:(λi=>a.tmps.getD i undef)=e:=funext hr.get;unfold results qhh
 congr 1
 congr 1
 subst this
 funext r
 cases r <;> rfl
def q5h {f:FuncId} {fn:Func} {c:Code} {args:Array Value} {w:World} {R:Ending->World->Prop}
  (hf:P.funcs[f]?=some fn) (hb:fn.body=some c) (hn:fn.ntmps=n) (hd:(decide (args.size<=n) && q7Z n c)=true)
  (h:W P n c (qgp P fn R) (q4T args.toList) w):Calls P f args w R:=by
 rw [zE,decide_eq_true_eq] at hd;refine calls_of_wp hf hb (wp_mono (h hd.2 ⟨args ++ w6 (fn.ntmps-args.size) undef,[]⟩ ⟨rfl,by simp; omega,λi=>?_⟩) ?_)
 .simp only [q4T,yC,zP,Array.getElem?_append,Array.getElem?_replicate]
  by_cases hi:i < args.size
  .simp [hi]
  .simp only [hi,if_false,w7,xX (Nat.le_of_not_lt hi),Option.getD_none]
   split <;> rfl
 .rintro x a' w' ⟨e',hr,_,hq⟩;cases x <;> simp only [qgp] at hq <;> try exact hq.elim
  .obtain ⟨v,hv,hR⟩:=hq;exact ⟨hr.defs,v,by rw [q6M hr]; exact hv,hR⟩
  .obtain ⟨v,hv,hR⟩:=hq;exact ⟨hr.defs,v,by rw [q6M hr]; exact hv,hR⟩
def ret1 {fn:Func} {R:Ending->World->Prop} {e:Env} {w:World} {t:Nat} (h:fn.results=#[.tmp t]) (hR:R (.returned (e t)) w):qgp P fn R .ret e w :=
 ⟨e t,by simp [qhh,h,resF],hR⟩
def ret0 {fn:Func} {R:Ending->World->Prop} {e:Env} {w:World} (h:fn.results=#[]) (hR:R (.returned (.tuple #[])) w):qgp P fn R .ret e w :=
 ⟨.tuple #[],by simp [qhh,h],hR⟩
def q8x (P:Program) (w:World) (e:Env):ResultVar->Option Value
 | .tmp t=>some (e t)
 | .cell a t=>match e a with
  | .pointer (some p)=>match q0c P t with
   | some (some k)=>(q1G w p 0 k).map λl=>.agg l.toArray
   | some none=>w.cell? p
   | none=>none
  | _=>none
def q13 {w:World} {e:Env} {r:ResultVar} {v:Value} (h:q8x P w e r=some v) :
  (resF e r).run P w=.ok v w:=by
 cases r with
 | tmp t=>simp only [q8x] at h; obtain rfl:=zH.inj h; rfl
 | cell a t =>
  simp only [q8x] at h
  split at h
  .rename_i p hp;have:ldV w (q0c P t) (.pointer (some p))=some v:=by
    unfold ldV; simp only []
    split at h <;> simp_all
   have h2 : WO P ⟨none, .load t (.const (.pointer (some p))), 0, "", #[], none⟩ e w (λv' w' => v' = v /\ w' = w) := qaV (by simp only [wo, ev, this, q2k]; exact ⟨trivial, trivial⟩);unfold WO at h2;simp only [execOp,ev,Sem.run_bind] at h2;simp only [resF,Sem.run_bind,hp,asAddr,Sem.run_pure,Result.andThen_ok];simp only [Instr.loadAt,Instr.sureAddr,Sem.run_bind,Sem.run_pure,Result.andThen_ok] at h2;cases hr:(loadVar t p).run P w with
   | ok x w'=>rw [hr] at h2; simp only [Result.andThen_ok,RO] at h2; rw [h2.1,h2.2]
   | halt=>rw [hr] at h2; simp only [Result.andThen_halt,RO] at h2
  .cases h
def qtM {fn:Func} {R:Ending->World->Prop} {e:Env} {w:World} {r:ResultVar} {v:Value} (h:fn.results=#[r]) (h0:q8x P w e r=some v) (hR:R (.returned v) w):qgp P fn R .ret e w:=by
 have:=q13 h0;exact ⟨v,by simp [qhh,h,this],hR⟩
def qtL {fn:Func} {R:Ending->World->Prop} {e:Env} {w:World} {r s:ResultVar} {v u:Value} (h:fn.results=#[r,s]) (h0:q8x P w e r=some v) (h1:q8x P w e s=some u) (hR:R (.returned (.tuple #[v,u])) w):qgp P fn R .ret e w:=by
 have a0:=q13 h0;have a1:=q13 h1;exact ⟨.tuple #[v,u],by simp [qhh,h,a0,a1],hR⟩
def qtK {fn:Func} {R:Ending->World->Prop} {e:Env} {w:World} {r s q:ResultVar} {v u x:Value} (h:fn.results=#[r,s,q]) (h0:q8x P w e r=some v) (h1:q8x P w e s=some u) (h2:q8x P w e q=some x) (hR:R (.returned (.tuple #[v,u,x])) w):qgp P fn R .ret e w:=by
 have a0:=q13 h0;have a1:=q13 h1;have a2:=q13 h2;exact ⟨.tuple #[v,u,x],by simp [qhh,h,a0,a1,a2],hR⟩
end
def qhL (v:Value) (K:Value->Prop):Prop:=K v
def qcN (c a b:Value) (K:Value->Prop):Prop:=match c with | .bool true=>K a | .bool false=>K b | _=>False
def q3j (o:Option Bool) (b:Bool) (A B:Prop):Prop:=if o == some b then A else B
def qa7 (P:Program) (t:TypeId) (w:World) (a x:Value) (K:World->Prop):Prop:=match a with
  | .pointer (some p)=>q02 P t=some x.cells.size/\qke w p 0 x.cells.toList/\K (stN w p 0 x.cells.toList)
  | _=>False
def qu4 (off:Option Nat) (x:Value) (K:Value->Prop):Prop:=match x with
  | .pointer (some p)=>q2Y off λoff=>K (.pointer (some (p.add off)))
  | _=>False
def mkW (eo:Option (TypeId × Nat × Nat × Array Value)) (l c:Value) (w:World) (K:Value->World->Prop):Prop:=match l,c with
  | .int _ l,.int _ c=>q2Y eo λ(el,s,b,z)=>(0<=l/\l<=c/\(b:Int)*c<=281474976710656/\c<=9223372036854775807)/\K (.slice (some ⟨w.heap.size,0,none⟩) l.toNat c.toNat) (w.alloc (.cells (madeCells z (c.toNat*s)) el))
  | _,_=>False
def boxW (t:TypeId) (v:Value) (w:World) (K:Value->World->Prop):Prop:=K (.pointer (some ⟨w.heap.size,0,none⟩)) (w.alloc (.cells v.cells t))
def bsW (o:Option (TypeId × Array Value)) (len:Nat) (w:World) (K:Value->World->Prop):Prop:=q2Y o λ(el,cs)=>K (.slice (some ⟨w.heap.size,0,none⟩) len len) (w.alloc (.cells cs el))
def alW (o:Option (Array Value)) (t:TypeId) (w:World) (K:Value->World->Prop):Prop:=q2Y o λz=>K (.pointer (some ⟨w.heap.size,0,none⟩)) (w.alloc (.cells z t))
def q9z (P:Program) (f:FuncId) (args:List Value) (w:World) (K:Value->World->Prop):Prop:=q0G P f=true/\Calls P f args.toArray w λx w'=>match x with | .returned v=>K v w' | _=>False
def qqU (P:Program) (tys:Array TypeId) (ty:TypeId) (args:List Value) (w:World) (K:Value->World->Prop):Prop:=∃ v w',(Builtin.append_ tys ty args.toArray).run P w=.ok v w'/\K v w'
section
variable {P:Program}
@[congr] theorem qrI {α:Type} {o o':Option α} {K:α->Prop} (h:o=o'):q2Y o K=q2Y o' K:=by rw [h]
@[congr] theorem qrA {v v':Value} {K:Value->Prop} (h:v=v'):qhL v K=qhL v' K:=by rw [h]
@[congr] theorem qnl {c c' a b:Value} {K:Value->Prop} (h:c=c'):qcN c a b K=qcN c' a b K:=by rw [h]
@[congr] theorem ql4 {o o':Option Bool} {b:Bool} {A B:Prop} (h:o=o'):q3j o b A B=q3j o' b A B:=by rw [h]
@[congr] theorem qk1 {t:TypeId} {w w':World} {a a' x x':Value} {K:World->Prop} (hw:w=w') (h:a=a') (h':x=x'):qa7 P t w a x K=qa7 P t w' a' x' K:=by rw [h,h',hw]
@[congr] theorem qrL {o o':Option Nat} {x x':Value} {K:Value->Prop} (h:o=o') (h':x=x'):qu4 o x K=qu4 o' x' K:=by rw [h,h']
@[congr] theorem qtw {o o':Option (TypeId × Nat × Nat × Array Value)} {l l' c c':Value} {w:World} {K:Value->World->Prop} (h:o=o') (h1:l=l') (h2:c=c'):mkW o l c w K=mkW o' l' c' w K:=by rw [h,h1,h2]
@[congr] theorem qrP {t:TypeId} {v v':Value} {w:World} {K:Value->World->Prop} (h:v=v'):boxW t v w K=boxW t v' w K:=by rw [h]
@[congr] theorem qwK {o o':Option (TypeId × Array Value)} {len:Nat} {w:World} {K:Value->World->Prop} (h:o=o'):bsW o len w K=bsW o' len w K:=by rw [h]
@[congr] theorem qwk {o o':Option (Array Value)} {t:TypeId} {w:World} {K:Value->World->Prop} (h:o=o'):alW o t w K=alW o' t w K:=by rw [h]
@[congr] theorem qpg {f:FuncId} {args args':List Value} {w:World} {K:Value->World->Prop} (h:args=args'):q9z P f args w K=q9z P f args' w K:=by rw [h]
@[congr] theorem qrQ {tys:Array TypeId} {ty:TypeId} {args args':List Value} {w:World} {K:Value->World->Prop} (h:args=args'):qqU P tys ty args w K=qqU P tys ty args' w K:=by rw [h]
@[congr] theorem qxT {ops:Array Oper} {l:List Oper} {e e':Env} {w:World} {K:Env->World->Prop} (h:e=e'):WLo P ops K l e w=WLo P ops K l e' w:=by rw [h]
@[congr] theorem W_congr {n:Nat} {c:Code} {Q:Exit->Env->World->Prop} {e e':Env} {w:World} (h:e=e'):W P n c Q e w=W P n c Q e' w:=by rw [h]
@[congr] theorem wo_congr {o:Oper} {e e':Env} {w:World} {K:Value->World->Prop} (h:e=e'):wo P o e w K=wo P o e' w K:=by rw [h]
variable {d:Option Nat} {ty t s:TypeId} {pos:String} {af:Array Edge} {g:Option (Nat × Bool)} {e:Env} {w:World} {K:Value->World->Prop}
def qr9 {v:Value} {K:Value->Prop}:qhL v K=K v:=rfl
def qnj {a b:Value} {K:Value->Prop}:qcN (.bool true) a b K=qhL a K:=rfl
def qnk {a b:Value} {K:Value->Prop}:qcN (.bool false) a b K=qhL b K:=rfl
def qfG {A B:Prop}:q3j (some true) true A B=A:=rfl
def qfH {A B:Prop}:q3j (some true) false A B=B:=rfl
def qfI {A B:Prop}:q3j (some false) true A B=B:=rfl
def qfJ {A B:Prop}:q3j (some false) false A B=A:=rfl
def qi5 {A B:Prop} {b:Bool}:q3j none b A B=B:=rfl
def qu3 {off:Nat} {p:Addr} {K:Value->Prop}:qu4 (some off) (.pointer (some p)) K=qhL (.pointer (some (p.add off))) K:=rfl
def qap {i:Nat} {v:Value}:put e (some i) v=upd e i v:=rfl
def qmc {x}:wo P ⟨d,.move x,ty,pos,af,g⟩ e w K=qhL (ev e x) λv=>K v w:=rfl
def qdE {x}:wo P ⟨d,.assign x,ty,pos,af,g⟩ e w K=qhL (ev e x) λv=>K v w:=rfl
def qmb {c a b}:wo P ⟨d,.pick c a b,ty,pos,af,g⟩ e w K=qcN (ev e c) (ev e a) (ev e b) λv=>K v w:=rfl
def qhK:wo P ⟨d,.alloc t,ty,pos,af,g⟩ e w K=alW (q18 P t) t w K:=rfl
def qr5 {x}:wo P ⟨d,.box t x,ty,pos,af,g⟩ e w K=boxW t (ev e x) w K:=rfl
def qhI {ps}:wo P ⟨d,.build t ps,ty,pos,af,g⟩ e w K=q2Y (P.built t (ps.map λ(i,x)=>(i,ev e x)).toList) λcs=>K (.agg cs) w:=rfl
def q32 {len ps}:wo P ⟨d,.buildSlice t len ps,ty,pos,af,g⟩ e w K=bsW (bsV P t len (ps.map λ(i,x)=>(i,ev e x)).toList) len w K:=rfl
def qme {a}:wo P ⟨d,.load t a,ty,pos,af,g⟩ e w K=q2Y (ldV w (q0c P t) (ev e a)) λv=>K v w:=rfl
def qhF {a x}:wo P ⟨d,.store t a x,ty,pos,af,g⟩ e w K=qa7 P t w (ev e a) (ev e x) λw'=>K undef w':=rfl
def qhJ {op x y t'}:wo P ⟨d,.binOp op t x y t',ty,pos,af,g⟩ e w K=q2Y (q0t P op t (ev e x) (ev e y)) λv=>K v w:=rfl
def qma {op x}:wo P ⟨d,.unOp op t x,ty,pos,af,g⟩ e w K=q2Y (unV op (ev e x)) λv=>K v w:=rfl
def qcA {x}:wo P ⟨d,.convert s t x,ty,pos,af,g⟩ e w K=q2Y (qc6 (P.underlying s) (P.underlying t) (ev e x)) λv=>K v w:=rfl
def q7t {x f}:wo P ⟨d,.fieldAddr t x f,ty,pos,af,g⟩ e w K=qu4 (q0Z P t f) (ev e x) λv=>K v w:=rfl
def q7s {x i}:wo P ⟨d,.indexAddr t x i,ty,pos,af,g⟩ e w K=q2Y (qiS (q0d P t) (qcc P t) (ev e x) (ev e i)) λv=>K v w:=rfl
def qhG {x lo hi}:wo P ⟨d,.slice t x lo hi none,ty,pos,af,g⟩ e w K=q2Y (q1y (q0d P t) (lo.map (ev e)) (hi.map (ev e)) (ev e x)) λv=>K v w:=rfl
def q7r {l c}:wo P ⟨d,.makeSlice t l c,ty,pos,af,g⟩ e w K=mkW (q05 P t) (ev e l) (ev e c) w K:=rfl
def qbz {x i}:wo P ⟨d,.extract x i,ty,pos,af,g⟩ e w K=q2Y (qlc i (ev e x)) λv=>K v w:=rfl
def q9K {x}:wo P ⟨d,.nilCheck x,ty,pos,af,g⟩ e w K=q2Y (match ev e x with | .pointer (some p)=>some (.pointer (some p)) | _=>none) λv=>K v w:=by
 simp only [wo]
 split <;> rename_i h <;> first | rfl | (simp only [h]; done) | (simp only [h]; rfl)
def qr4 {x}:wo P ⟨d,.call ⟨.builtin .len,#[x],#[t]⟩,ty,pos,af,g⟩ e w K=q2Y (quH (q0d P t) (ev e x)) λv=>K v w:=rfl
def qr3 {xs ts}:wo P ⟨d,.call ⟨.builtin .max,xs,ts⟩,ty,pos,af,g⟩ e w K=q2Y (mmV true (xs.toList.map (ev e))) λv=>K v w:=rfl
def qr2 {xs ts}:wo P ⟨d,.call ⟨.builtin .min,xs,ts⟩,ty,pos,af,g⟩ e w K=q2Y (mmV false (xs.toList.map (ev e))) λv=>K v w:=rfl
def qmg {f} {xs:List Operand} {ts}:wo P ⟨d,.call ⟨.value (.func f),xs.toArray,ts⟩,ty,pos,af,g⟩ e w K=q9z P f (xs.map (ev e)) w K:=by
 simp only [wo,q9z,xE]
 try rfl
def qb5 {f:FuncId} {args:List Value} {R:Ending->World->Prop} (hc:q0G P f=true) (h:Calls P f args.toArray w R) (hk:∀ x w',R x w'->∃ v,x=.returned v/\K v w'):q9z P f args w K :=
 ⟨hc,h.mono λx w' hx=>by obtain ⟨v,rfl,h⟩:=hk x w' hx; exact h⟩
def q5D {s x:Operand} {tys:Array TypeId}:wo P ⟨d,.call ⟨.builtin .append,#[s,x],tys⟩,ty,pos,af,g⟩ e w K=qqU P tys ty [ev e s,ev e x] w K:=by
 simp only [wo,WO,execOp,resolve,invoke,builtin,Sem.run_bind,Sem.run_pure,Result.andThen_ok,xE,vB,vC,qqU];cases hr:(Builtin.append_ tys ty #[ev e s,ev e x]).run P w with
 | ok v w' =>
  simp only [Result.andThen_ok,Sem.run_pure,RO];exact propext ⟨λh=>⟨v,w',rfl,h⟩,λ⟨v',w'',h,hk⟩=>by injection h with h1 h2; subst h1; subst h2; exact hk⟩
 | halt x w' =>
  simp only [Result.andThen_halt,RO];exact propext ⟨λh=>h.elim,λ⟨_,_,h,_⟩=>by cases h⟩
def qeN (P:Program) (T ty:TypeId) (s x:Value) (w:World) (K:Value->Value->World->Prop):Prop :=
 bsW (bsV P T 1 [(0,x)]) 1 w λv1 w1=>qqU P #[T,T] ty [s,v1] w1 λv2 w2=>K v1 v2 w2
@[congr] theorem qnf {T ty:TypeId} {s s' x x':Value} {w:World} {K:Value->Value->World->Prop} (h:s=s') (h':x=x'):qeN P T ty s x w K=qeN P T ty s' x' w K:=by rw [h,h']
def q69 {ops:Array Oper} {op:Op}:wg P ops ⟨d,op,ty,pos,af,none⟩ e w K=wo P ⟨d,op,ty,pos,af,none⟩ e w K:=rfl
def qmh {ops:Array Oper} {op:Op} {j:Nat} {b:Bool}:wg P ops ⟨d,op,ty,pos,af,some (j,b)⟩ e w K=q3j (q30 ops e j) b (wo P ⟨d,op,ty,pos,af,some (j,b)⟩ e w K) (K undef w):=rfl
def qqf {ops:Array Oper} {K:Env->World->Prop}:WLo P ops K [] e w=K e w:=rfl
def q7b {ops:Array Oper} {K:Env->World->Prop} {o:Oper} {rest:List Oper}:WLo P ops K (o :: rest) e w=wg P ops o e w λv w'=>WLo P ops K rest (put e o.dst v) w':=rfl
def qkC {ops:Array Oper} {K:Env->World->Prop} {d1 d2 s T ty1 ty2:Nat} {x:Operand} {p1 p2:String} {a1 a2:Array Edge} {rest:List Oper} :
  WLo P ops K (⟨some d1,.buildSlice T 1 #[(0,x)],ty1,p1,a1,none⟩ :: ⟨some d2,.call ⟨.builtin .append,#[.tmp s,.tmp d1],#[T,T]⟩,ty2,p2,a2,none⟩ :: rest) e w =
   if s=d1 then wg P ops ⟨some d1,.buildSlice T 1 #[(0,x)],ty1,p1,a1,none⟩ e w (λv w'=>WLo P ops K (⟨some d2,.call ⟨.builtin .append,#[.tmp s,.tmp d1],#[T,T]⟩,ty2,p2,a2,none⟩ :: rest) (put e (some d1) v) w')
   else qeN P T ty2 (e s) (ev e x) w λv1 v2 w'=>WLo P ops K rest (upd (upd e d1 v1) d2 v2) w':=by
 split
 .rfl
 rename_i hne;have h:∀ v1,ev (upd e d1 v1) (.tmp s)=e s:=λv1=>by
  simp [ev,upd,hne]
 have h2:∀ v1,ev (upd e d1 v1) (.tmp d1)=v1:=λv1=>by simp [ev,upd]
 rw [q7b,q69,q32];unfold qeN;have hp:(Array.map (λx=>match x with | (i,x)=>(i,ev e x)) #[(0,x)]).toList=[(0,ev e x)]:=σ
 rw [hp]
 congr 1
 funext v1 w1
 rw [q7b,q69,qap,q5D,h,h2]
 rfl
def qhr {v:Value}:put e none v=e:=rfl
def quj {i:Nat}:ev e (.tmp i)=e i:=rfl
def qjQ {v:Value}:ev e (.const v)=v:=rfl
def qkN {i j:Nat} {v:Value}:upd e i v j=if j=i then v else e j:=rfl
def q9N {next:Env->World->Prop} {Q:Exit->Env->World->Prop}:qhP next Q .ret e w=Q .ret e w:=rfl
def qoV {Q:Exit->Env->World->Prop} {i:Nat}:inB i Q .ret e w=Q .ret e w:=rfl
def env_z {v:Value} {l:List Value}:q4T (v :: l) 0=v:=rfl
def env_s {v:Value} {l:List Value} {i:Nat}:q4T (v :: l) (i+1)=q4T l i:=rfl
def qqT {tys:Array TypeId} {ty':TypeId} {args:List Value} {v:Value} {w':World} (h:(Builtin.append_ tys ty' args.toArray).run P w=.ok v w') (hk:K v w'):qqU P tys ty' args w K:=⟨v,w',h,hk⟩
end
attribute [irreducible] qeN bsW qqU q9z mkW boxW alW qa7 qu4 q3j qcN qhL WLo wg
section
variable {P:Program} {t:TypeId} {k k':IntKind} {a b:Int}
def qqR:q0t P .add t (.int k a) (.int k b)=some (.int k (k.wrap (a+b))):=by simp [q0t,q76,q2p]
def qqI:q0t P .sub t (.int k a) (.int k b)=some (.int k (k.wrap (a-b))):=by simp [q0t,q76,q2p]
def qqK:q0t P .mul t (.int k a) (.int k b)=some (.int k (k.wrap (a*b))):=by simp [q0t,q76,q2p]
def qgY:q0t P .quo t (.int k a) (.int k b)=if b=0 then none else some (.int k (k.wrap (a.tdiv b))):=by simp [q0t,q76,q2p]
def qgX:q0t P .rem t (.int k a) (.int k b)=if b=0 then none else some (.int k (a.tmod b)):=by simp [q0t,q76,q2p]
def qqQ:q0t P .and t (.int k a) (.int k b)=some (.int k (q0k .and k a b)):=by simp [q0t,q76,q2p]
def qwZ:q0t P .or t (.int k a) (.int k b)=some (.int k (q0k .or k a b)):=by simp [q0t,q76,q2p]
def qqH:q0t P .xor t (.int k a) (.int k b)=some (.int k (q0k .xor k a b)):=by simp [q0t,q76,q2p]
def qcb:q0t P .andNot t (.int k a) (.int k b)=some (.int k (q0k .andNot k a b)):=by simp [q0t,q76,q2p]
def qqP:q0t P .eql t (.int k a) (.int k b)=some (.bool (a == b)):=by simp [q0t,q76,q2p]
def qqJ:q0t P .neq t (.int k a) (.int k b)=some (.bool (a != b)):=by simp [q0t,q76,q2p]
def qqL:q0t P .lss t (.int k a) (.int k b)=some (.bool (decide (a < b))):=by simp [q0t,q76,q2p]
def qqM:q0t P .leq t (.int k a) (.int k b)=some (.bool (decide (a<=b))):=by simp [q0t,q76,q2p]
def qqN:q0t P .gtr t (.int k a) (.int k b)=some (.bool (decide (b < a))):=by simp [q0t,q76,q2p]
def qqO:q0t P .geq t (.int k a) (.int k b)=some (.bool (decide (b<=a))):=by simp [q0t,q76,q2p]
def qaF:q0t P .shl t (.int k a) (.int k' b)=if b < 0 then none else some (.int k (k.wrap (a*2 ^ (min b.toNat k.bits)))):=by simp [q0t,q76]
def q1u:q0t P .shr t (.int k a) (.int k' b)=if b < 0 then none else some (.int k (a.fdiv (2 ^ (min b.toNat k.bits)))):=by simp [q0t,q76]
def qbi {x y:Bool} (h:P.underlying t=some .bool):q0t P .eql t (.bool x) (.bool y)=some (.bool (x == y)):=by simp [q0t,h]
def qbh {x y:Bool} (h:P.underlying t=some .bool):q0t P .neq t (.bool x) (.bool y)=some (.bool (x != y)):=by simp [q0t,h]
def qaG {A:Option Addr} {n c n' c' el:Nat} (h:P.underlying t=some (.slice el)):q0t P .eql t (.slice A n c) (.slice none n' c')=some (.bool A.isNone):=by simp [q0t,h]
def qbg {A:Option Addr} {n c n' c' el:Nat} (h:P.underlying t=some (.slice el)):q0t P .neq t (.slice A n c) (.slice none n' c')=some (.bool A.isSome):=by simp [q0t,h]
def qrg {x:Bool}:unV .not (.bool x)=some (.bool !x):=rfl
def qrh:unV .neg (.int k a)=some (.int k (k.wrap (0-a))):=rfl
def qj4 {s:TypeDesc}:qc6 (some s) (some (.int k)) (.int k' a)=some (.int k (k.wrap a)):=rfl
def idx_s {ad:Addr} {n c s:Nat} {ar:Option (Nat × Nat)} {i:Int}:qiS (some s) ar (.slice (some ad) n c) (.int k i)=if 0<=i/\i < n then some (.pointer (some (ad.add (i.toNat*s)))) else none:=rfl
def idx_a {ad:Addr} {n s:Nat} {sz:Option Nat} {i:Int}:qiS sz (some (n,s)) (.pointer (some ad)) (.int k i)=if 0<=i/\i < n then some (.pointer (some (ad.add (i.toNat*s)))) else none:=rfl
def len_s {A:Option Addr} {n c s:Nat}:quH (some s) (.slice A n c)=some (.int .i64 n):=rfl
def ext_0 {v:Value} {l:List Value}:qlc 0 (.tuple ⟨v :: l⟩)=some v:=rfl
def ext_1 {v u:Value} {l:List Value}:qlc 1 (.tuple ⟨v :: u :: l⟩)=some u:=rfl
def ext_2 {v u x:Value} {l:List Value}:qlc 2 (.tuple ⟨v :: u :: x :: l⟩)=some x:=rfl
def ext_3 {v u x y:Value} {l:List Value}:qlc 3 (.tuple ⟨v :: u :: x :: y :: l⟩)=some y:=rfl
def ld_1 {w:World} {p:Addr}:ldV w (some none) (.pointer (some p))=w.cell? p:=rfl
def ld_k {w:World} {p:Addr} {n:Nat}:ldV w (some (some n)) (.pointer (some p))=(q1G w p 0 n).map λl=>.agg l.toArray:=rfl
def rd_z {w:World} {p:Addr} {i:Nat}:q1G w p i 0=some []:=rfl
def qvc (a:Option Value) (b:Option (List Value)):Option (List Value):=match a,b with | some v,some l=>some (v :: l) | _,_=>none
def qpZ {v:Value} {l:List Value}:qvc (some v) (some l)=some (v :: l):=rfl
def rd_s {w:World} {p:Addr} {i n:Nat}:q1G w p i (n+1)=qvc (w.cell? (p.add i)) (q1G w p (i+1) n):=rfl
def sl_hi {A:Option Addr} {n c s:Nat} {h:Int}:q1y (some s) none (some (.int k h)) (.slice A n c)=if 0<=h/\h<=c then some (.slice (if c=0 then A else A.map (·.add (0*s))) (h.toNat-0) (c-0)) else none:=by
 simp only [q1y,q3H]
 split <;> rename_i hh <;> split at hh <;> simp_all
def sl_lo {A:Option Addr} {n c s:Nat} {l:Int}:q1y (some s) (some (.int k l)) none (.slice A n c)=if 0<=l/\l<=n then some (.slice (if c=l.toNat then A else A.map (·.add (l.toNat*s))) (n-l.toNat) (c-l.toNat)) else none:=by
 simp only [q1y,q3H]
 split <;> rename_i hh <;> split at hh <;> simp_all
def sl_lh {A:Option Addr} {n c s:Nat} {l h:Int}:q1y (some s) (some (.int k l)) (some (.int k' h)) (.slice A n c) =
  if (0<=h/\h<=c)/\0<=l/\l<=h then some (.slice (if c=l.toNat then A else A.map (·.add (l.toNat*s))) (h.toNat-l.toNat) (c-l.toNat)) else none:=by
 simp only [q1y,q3H]
 by_cases h1:0<=h/\h<=(c:Int)
 .have e:((h.toNat:Nat):Int)=h:=ω
  simp only [h1,and_self,if_true,e,true_and]
  by_cases h2:0<=l/\l<=h <;> simp [h2]
 .simp [h1]
def qg5 (A:Option Addr) (s:Nat):A.map (·.add (0*s))=A:=by
 rw [wV]; cases A <;> simp [Addr.add]
def qs7 {A:Option Addr} {n c s:Nat} {h:Int}:q1y (some s) none (some (.int k h)) (.slice A n c)=if 0<=h/\h<=c then some (.slice A h.toNat c) else none:=by
 rw [sl_hi,qg5]; simp
def qbc:Value->Option Bool | .bool b=>some b | _=>none
def qjg {b:Bool}:qbc (.bool b)=some b:=rfl
def qjf:qbc undef=none:=rfl
def q5y:List Oper->Nat->Env->Option Bool
 | [],_,_=>none
 | o :: _,0,e=>match o.dst with | some d=>qbc (e d) | none=>none
 | _ :: os,j+1,e=>q5y os j e
def qhB {o:Oper} {os:List Oper} {j:Nat} {e:Env}:q5y (o :: os) (j+1) e=q5y os j e:=rfl
def qhA {d:Nat} {op:Op} {ty:TypeId} {pos:String} {af:Array Edge} {g:Option (Nat × Bool)} {os:List Oper} {e:Env}:q5y (⟨some d,op,ty,pos,af,g⟩ :: os) 0 e=qbc (e d):=rfl
def qhC {l:List Oper} {e:Env} {j:Nat}:q30 l.toArray e j=q5y l j e:=by
 unfold q30;rw [List.getElem?_toArray]
 induction l generalizing j with
 | nil=>rfl
 | cons o os ih =>
  cases j with
  | zero =>
   simp only [List.getElem?_cons_zero,xC,q5y];cases o.dst with
   | none=>rfl
   | some d=>simp only []; cases e d <;> rfl
  | succ j=>rw [List.getElem?_cons_succ]; exact ih
end
def i64_in {n:Int} (h1 : -9223372036854775808<=n) (h2:n<=9223372036854775807):IntKind.i64.wrap n=n:=IntWalk.i64_in n ⟨h1,h2⟩
def u64_in {n:Int} (h1:0<=n) (h2:n<=18446744073709551615):IntKind.u64.wrap n=n:=IntWalk.u64_in n ⟨h1,h2⟩
def u8_in {n:Int} (h1:0<=n) (h2:n<=255):IntKind.u8.wrap n=n:=IntWalk.u8_in n ⟨h1,h2⟩
def q0v (n:Int):IntKind.u64.wrap n=n % 18446744073709551616:=by simp [IntKind.wrap,IntKind.bits,IntKind.signed]
def q2T (n:Int):IntKind.u32.wrap n=n % 4294967296:=by simp [IntKind.wrap,IntKind.bits,IntKind.signed]
def qi2 (n:Int):IntKind.i64.wrap n=(n+9223372036854775808) % 18446744073709551616-9223372036854775808:=IntKind.wrap_i64 n
attribute [go_sem] qqR qqI qqK qgY qgX qqQ qwZ qqH qcb qqP qqJ qqL qqM qqN qqO qaF q1u qbi qbh qrg qrh qj4 idx_s idx_a len_s ext_0 ext_1 ext_2 ext_3 ld_1 ld_k rd_z qpZ rd_s qs7 sl_lo sl_lh
attribute [go_sem ↓] qmc qdE qmb qhK qr5 qhI q32 qme qhF qhJ qma qcA q7t q7s qhG q7r qbz q9K qr4 qr3 qr2 q5D qmg q69 qmh qqf q7b qhC qhB qhA
attribute [go_sem ↓ high] qkC
attribute [go_sem ↓] qes qcT
attribute [go_sem] qr9 qnj qnk qfG qfH qfI qfJ qi5 qjf qu3 qap qhr quj qjQ qkN q2k env_z env_s qjg decide_true decide_false Bool.not_false Bool.not_true ite_true ite_false beq_self_eq_true vB vC vN Option.map_none Int.toNat_natCast vE and_self xE List.toList_toArray
end Go.E
namespace Go.Sp
def B:Nat:=4294967296
def q0y:0 < B:=by decide
def q8s:1 < B:=by decide
def q4E (k:Nat):0 < B ^ k:=xP q0y
def val:List Nat->Nat
 | []=>0
 | d :: l=>d+B*val l
def qiJ:Nat->Nat->List Nat
 | 0,_=>[]
 | f+1,n=>if n=0 then [] else n % B :: qiJ f (n / B)
def lim (n:Nat):List Nat:=qiJ n n
def q01 (l:List Nat):Prop:=∀ d ∈ l,d < B
def q70 {n:Nat} (h:n≠0):n / B < n:=Nat.div_lt_self Oq q8s
def q8S : ∀ (f g n : Nat), n <= f -> n <= g -> qiJ f n = qiJ g n
  | 0, 0, _, _, _ => rfl
  | 0, g + 1, n, h, _ => by have : n = 0 := by omega
                            subst this; simp [qiJ]
  | f + 1, 0, n, _, h => by have : n = 0 := by omega
                            subst this; simp [qiJ]
  | f + 1, g + 1, n, h1, h2 => by
    by_cases h : n = 0
    . subst h; simp [qiJ]
    . simp only [qiJ, if_neg h]
      have := q70 h
      rw [q8S f g (n / B) Oq ω]
def q2D:lim 0=[]:=rfl
def q3V {n:Nat} (h:n≠0):lim n=n % B :: lim (n / B):=by
 obtain ⟨m,rfl⟩:∃ m,n=m+1:=⟨n-1,ω⟩;unfold lim;simp only [qiJ,if_neg h];have:=q70 h;rw [q8S m ((m+1) / B) ((m+1) / B) Oq (yB _)]
def q7O {P:Nat->Prop} (h0:P 0) (hs:∀ n,n≠0->P (n / B)->P n) (n:Nat):P n:=by
 induction n using Nat.strongRecOn with
 | _ n ih =>
  by_cases h:n=0
  .subst h; exact h0
  .exact hs n h (ih _ (q70 h))
def q0D (n:Nat):val (lim n)=n:=by
 induction n using q7O with
 | h0=>rfl
 | hs n h ih=>rw [q3V h,val,ih]; exact xH n B
def q0C (n:Nat):q01 (lim n):=by
 induction n using q7O with
 | h0=>intro d h; cases h
 | hs n h ih =>
  rw [q3V h]; intro d hd
  rcases List.mem_cons.1 hd with rfl | hd
  .exact zR _ q0y
  .exact ih d hd
def qcR {n:Nat} (h:n≠0):lim n≠[]:=by rw [q3V h]; simp
def q99 {n:Nat}:lim n=[] ↔ n=0:=by
 constructor
 .intro h; by_cases h0:n=0
  .exact h0
  .exact absurd h (qcR h0)
 .rintro rfl; rfl
def q0J {n:Nat}:0 < (lim n).length ↔ n≠0:=by
 constructor
 .intro h h0; subst h0; simp [q2D] at h
 .intro h; rw [q3V h]; simp
def q15 {l:List Nat} (h:q01 l):val l < B ^ l.length:=by
 induction l with
 | nil=>simp [val]
 | cons d l ih =>
  have h1:=ih (λx hx=>h x (zS _ hx));have h2:=h d (w9);simp only [val,yR,zD];have h3:B*val l+B<=B*B ^ l.length:=by
   rw [<- xY]; exact zO _ h1
  rw [zG (B ^ l.length)]; omega
def q4I (a b:List Nat):val (a ++ b)=val a+B ^ a.length*val b:=by
 induction a with
 | nil=>simp [val]
 | cons d a ih =>
  simp only [List.cons_append,val,ih,yR,zD,zB];rw [zG (B ^ a.length) B,zA]; omega
def q14 (n:Nat):val (List.replicate n 0)=0:=by
 induction n with
 | zero=>rfl
 | succ n ih=>simp [List.replicate_succ,val,ih]
def q01.nil:q01 []:=λ_ h=>by cases h
def q01.take {l:List Nat} (h:q01 l) (n:Nat):q01 (l.take n):=λd hd=>h d (List.mem_of_mem_take hd)
def q01.drop {l:List Nat} (h:q01 l) (n:Nat):q01 (l.drop n):=λd hd=>h d (List.mem_of_mem_drop hd)
def q01.append {a b:List Nat} (h:q01 a) (k:q01 b):q01 (a ++ b):=λd hd=>by
 rcases x7.1 hd with hd | hd
 .exact h d hd
 .exact k d hd
def q01.one {d:Nat} (h:d < B):q01 [d]:=λx hx=>by simp at hx; subst hx; exact h
def q01.snoc {a:List Nat} {d:Nat} (h:q01 a) (k:d < B):q01 (a ++ [d]):=h.append (.one k)
def q0p {l:List Nat} {i:Nat} (h:i < l.length):l.getD i 0=l[i]:=(List.getElem_eq_getD 0).symm
def q01.get {l:List Nat} (h:q01 l) (i:Nat):l.getD i 0 < B:=by
 rcases zN i l.length with hi | hi
 .rw [q0p hi]; exact h _ (List.getElem_mem hi)
 .simp [List.getD,w8 hi,q0y]
def q01.set {l:List Nat} (h:q01 l) (i d:Nat) (hd:d < B):q01 (l.set i d):=λx hx=>by
 rcases List.mem_or_eq_of_mem_set hx with hx | rfl
 .exact h x hx
 .exact hd
def q01.replicate (n:Nat):q01 (List.replicate n 0):=λd hd=>by
 rw [List.mem_replicate] at hd; rw [hd.2]; exact q0y
def qdO {α:Type} (l:List α) (i:Nat) (h:i < l.length):l.take (i+1)=l.take i ++ [l[i]]:=y6 h
def q2K (l:List Nat) (i:Nat) (h:i < l.length):l.take (i+1)=l.take i ++ [l.getD i 0]:=by
 rw [qdO l i h,q0p h]
def q5F (d:Nat):val [d]=d:=by simp [val]
def q2R (l:List Nat) (d:Nat):val (l ++ [d])=val l+B ^ l.length*d:=by rw [q4I,q5F]
def q1a (l:List Nat) (i:Nat) (h:i < l.length):val (l.take (i+1))=val (l.take i)+B ^ i*l.getD i 0:=by
 rw [q2K l i h,q2R,zU,yI ω]
def q0E (l:List Nat) (i:Nat) (h:l.length<=i):val (l.take i)=val l:=by rw [vA h]
def q1C (l:List Nat) (i:Nat) (h:i<=l.length):val l=val (l.take i)+B ^ i*val (l.drop i):=by
 have:=q4I (l.take i) (l.drop i);rw [List.take_append_drop,zU,yI h] at this;exact this
def q2U (l:List Nat) (i d:Nat):(l.set i d).take i=l.take i:=List.take_set_of_le (yB i)
def q3g {n : Nat} (h : n ≠ 0) : (lim n).getD ((lim n).length - 1) 0 ≠ 0 := by
  induction n using q7O with
  | h0 => exact absurd rfl h
  | hs n h ih =>
    rw [q3V h]
    by_cases h0 : n / B = 0
    . rw [h0, q2D]
      have : n < B := by rcases zN n B with h1 | h1
                         . exact h1
                         . have := wF h1 q0y; omega
      simp [zF this, h]
    . have := ih h0
      have hp := q0J.2 h0
      simp only [yR, vF]
      obtain ⟨k, hk⟩ : ∃ k, (lim (n / B)).length = k + 1 := ⟨(lim (n / B)).length - 1, by omega⟩
      rw [hk] at this ⊢
      simpa using this
def q9a {d m:Nat} (hd:d < B) (h:d+B*m≠0):lim (d+B*m)=d :: lim m:=by
 rw [q3V h];rw [zZ,zF hd,yW _ _ q0y,yF hd,yS]
def q2a:∀ {l:List Nat},l≠[]->l.getD (l.length-1) 0≠0->val l≠0
 | [],h,_=>absurd rfl h
 | [d],_,k=>by simpa [val] using k
 | d :: e :: l,_,k=>by
  have:=q2a (l:=e :: l) σ (by simpa using k);have hB:=q0y;have:0 < B*val (e :: l):=zV hB Oq;rw [val]; omega
def qen:∀ {l:List Nat},q01 l->(l=[]\/l.getD (l.length-1) 0≠0)->lim (val l)=l
 | [],_,_=>rfl
 | d :: l,h,k=>by
  have hd:=h d w9;have hl:q01 l:=λx hx=>h x (zS _ hx);have k':(d :: l).getD ((d :: l).length-1) 0≠0:=k.resolve_left σ;have hv:=q2a (l:=d :: l) σ k';rw [val] at hv ⊢;rw [q9a hd hv,qen hl];cases l with
  | nil=>exact .inl rfl
  | cons e l=>exact .inr (by simpa using k')
def q6e {l:List Nat} {n:Nat} (h:q01 l) (hn:n<=l.length) (hz:∀ i,n<=i->i < l.length->l.getD i 0=0) (hl:n=0\/l.getD (n-1) 0≠0):l.take n=lim (val l):=by
 have hd:val (l.drop n)=0:=by
  have:l.drop n=List.replicate (l.length-n) 0:=by
   apply List.ext_getElem σ
   intro i h1 h2;have:=hz (n+i) Oq (by simp at h1; omega);rw [q0p (by simp at h1; omega)] at this;simp [this]
  rw [this,q14]
 have hv:val l=val (l.take n):=by rw [q1C l n hn,hd]; simp
 rw [hv,qen (h.take n)]
 rcases hl with rfl | hl
 .exact .inl σ
 .by_cases h0:n=0
  .exact .inl (by simp [h0])
  .refine .inr ?_;rw [zU,yI hn];rw [q0p ω] at hl;rw [q0p (by simp; omega)];simpa using hl
def q03 (n:Nat):n < B ^ (lim n).length:=by
 have:=q15 (q0C n); rwa [q0D] at this
def q2x {n:Nat} (h:n≠0):B ^ ((lim n).length-1)<=n:=by
 induction n using q7O with
 | h0=>exact absurd rfl h
 | hs n h ih =>
  rw [q3V h];simp only [yR,vF]
  by_cases h0:n / B=0
  .rw [h0,q2D]; simp; omega
  .have:=ih h0;have hp:=q0J.2 h0;obtain ⟨k,hk⟩:∃ k,(lim (n / B)).length=k+1:=⟨(lim (n / B)).length-1,ω⟩;rw [hk] at this ⊢;simp only [vF] at this;rw [zD];exact zL (zJ B this) (Nat.div_mul_le_self n B)
def q0l {n k:Nat} (h:n < B ^ k):(lim n).length<=k:=by
 by_cases h0:n=0
 .subst h0; simp [q2D]
 .have h1:=q2x h0;have h2:B ^ ((lim n).length-1) < B ^ k:=z6 h1 h;have:=(yA q8s).1 h2;omega
def q0h {m n:Nat} (h:m<=n):(lim m).length<=(lim n).length:=q0l (z6 h (q03 n))
def q2C {m n:Nat} (h:(lim m).length < (lim n).length):m < n:=by
 rcases zN m n with k | k
 .exact k
 .have:=q0h k; omega
def q33 {a b:List Nat} {i:Nat} (ha:q01 a) (hl:a.length=b.length) (hi:i < a.length)
  (hs:a.drop (i+1)=b.drop (i+1)) (hlt:a.getD i 0 < b.getD i 0):val a < val b:=by
 rw [q1C a (i+1) Oq,q1C b (i+1) Oq,hs,q1a a i hi,q1a b i ω];have h1:=q15 (ha.take i);rw [zU,yI ω] at h1;have h2:B ^ i*a.getD i 0+B ^ i<=B ^ i*b.getD i 0:=by rw [<- xY]; exact zO _ hlt
 omega
end Go.Sp
namespace Go.E
open Go Go.RowKit
structure Kp (D:Nat->Prop) (w w':World):Prop where
 os:w'.os=w.os
 tape:w'.tape=w.tape
 output:w'.output=w.output
 size:w.heap.size<=w'.heap.size
 block:∀ k,k < w.heap.size->D k->w'.heap[k]?=w.heap[k]?
abbrev Ext (w w':World):Prop:=Kp (λ_=>True) w w'
def Ck {P:Program} {f:FuncId} {args:List Value} {v:Value} {w:World} {K:Value->World->Prop} (hc:q0G P f=true) (h:Calls P f args.toArray w λe w'=>e=.returned v/\Ext w w') (k:∀ w',Ext w w'->K v w'):q9z P f args w K:=qb5 hc h λx w' ⟨h1,h2⟩=>⟨v,h1,k w' h2⟩
def Fr (D:Nat->Prop) (w:World):Prop:=∀ k,w.heap.size<=k->D k
section
variable {D D':Nat->Prop} {w w' w'':World}
def Kp.refl (D:Nat->Prop) (w:World):Kp D w w:=⟨rfl,rfl,rfl,yB _,λ_ _ _=>rfl⟩
def Kp.trans (h:Kp D w w') (k:Kp D w' w''):Kp D w w'' :=
 ⟨k.os.trans h.os,k.tape.trans h.tape,k.output.trans h.output,zL h.size k.size,λi hi hd=>(k.block i (z7 hi h.size) hd).trans (h.block i hi hd)⟩
def Kp.mono (h:Kp D w w') (hd:∀ k,k < w.heap.size->D' k->D k):Kp D' w w':=⟨h.os,h.tape,h.output,h.size,λk hk hk'=>h.block k hk (hd k hk hk')⟩
def Kp.of_ext (h:Ext w w'):Kp D w w':=h.mono λ_ _ _=>trivial
def Kp.drew (w:World) (k:Nat):Kp D w { w with drawn:=k }:=⟨rfl,rfl,rfl,yB _,λ_ _ _=>rfl⟩
def Kp.alloc (w:World) (o:Obj):Kp D w (w.alloc o):=⟨rfl,rfl,rfl,σ,λk hk _=>Below.heap_alloc w o k hk⟩
def Kp.setCell (w:World) {p:Addr} (hp:p.block < w.heap.size->¬ D p.block) (v:Value):Kp D w (w.setCell p v) :=
 ⟨rfl,rfl,rfl,by simp [World.setCell],λk hk hd=>Below.heap_setCell w p v k (λe=>by subst e; exact hp hk hd)⟩
def Kp.cell (h:Kp D w w') {p:Addr} {v:Value} (hd:D p.block) (hc:w.cell? p=some v):w'.cell? p=some v:=by
 have hlt:=World.block_lt_of_cell? w p hc;rw [<- hc];exact World.cell?_of_block (h.block p.block hlt hd)
def Kp.below (h:Ext w w'):Below w.heap.size w w':=⟨h.os,h.tape,h.output,h.size,λk hk=>h.block k hk trivial⟩
def Fr.triv (w:World):Fr (λ_=>True) w:=λ_ _=>trivial
def Blk (w:World) (g:Nat) (t:TypeId) (cs:Array Value):Prop:=w.heap[g]?=some (.cells cs t (0,0))
variable {g:Nat} {t:TypeId} {cs:Array Value}
def Blk.lt (h:Blk w g t cs):g < w.heap.size:=by
 rcases zN g w.heap.size with hlt | hge
 .exact hlt
 .unfold Blk at h; rw [xX hge] at h; cases h
def Blk.cell (h:Blk w g t cs) (i:Nat):w.cell? ⟨g,i,none⟩=cs[i]?:=cell_of_row w g i cs t (0,0) h
def Blk.frozen (h:Blk w g t cs) (i:Nat):w.frozen? ⟨g,i,none⟩=false:=by unfold Blk at h; simp [World.frozen?,h]
def Blk.new (w:World) (t:TypeId) (cs:Array Value):Blk (w.alloc (.cells cs t)) w.heap.size t cs:=heap_alloc_new w _
def Blk.kp (h:Blk w g t cs) (hk:Kp D w w') (hd:D g):Blk w' g t cs:=(hk.block g h.lt hd).trans h
def Blk.ext (h:Blk w g t cs) (hk:Ext w w'):Blk w' g t cs:=(hk.block g h.lt trivial).trans h
def Blk.set (h:Blk w g t cs) (i:Nat) (u:Value):Blk (w.setCell ⟨g,i,none⟩ u) g t (cs.setIfInBounds i u):=by
 unfold Blk at h ⊢;simp [World.setCell,Array.getElem?_modify,h]
def q1v {b o i:Nat}:(⟨b,o,none⟩:Addr).add i=⟨b,o+i,none⟩:=by unfold Addr.add; split <;> simp_all
def q79 (a:Addr) (i j:Nat):(a.add i).add j=a.add (i+j):=by
 unfold Addr.add
 by_cases hi:i=0 <;> by_cases hj:j=0 <;> simp [hi,hj,yO]
def q1E (a:Addr) (n:Nat):(a.add n).block=a.block:=by unfold Addr.add; split <;> rfl
def add_zero (a:Addr):a.add 0=a:=by simp [Addr.add]
def qkf {p:Addr}:∀ (vs:List Value) (i:Nat) (w:World),(p.block < w.heap.size->¬ D p.block)->Kp D w (stN w p i vs)
 | [],_,w,_=>Kp.refl D w
 | v :: vs,i,w,hp=>by
  have h1:Kp D w (w.setCell (p.add i) v):=Kp.setCell w (by rw [q1E]; exact hp) v;exact h1.trans (qkf vs (i+1) _ (by simpa [World.setCell] using hp))
end
structure Row (w:World) (D:Nat->Prop) (sz:Nat) (A:Option Addr) (n c:Nat) (xs:List Value):Prop where
 cap:n<=c
 len:xs.length=n*sz
 at_:0 < xs.length->∃ ad,A=some ad/\D ad.block/\∀ j u,xs[j]?=some u->w.cell? (ad.add j)=some u
section
variable {D D':Nat->Prop} {w w':World} {sz n c:Nat} {A:Option Addr} {xs:List Value}
def Row.nil (w:World) (D:Nat->Prop) (sz:Nat):Row w D sz none 0 0 []:=⟨yB _,σ,λh=>by simp at h⟩
def Row.kp (h:Row w D sz A n c xs) (hk:Kp D w w'):Row w' D sz A n c xs :=
 ⟨h.cap,h.len,λhx=>by
  obtain ⟨ad,rfl,hd,hc⟩:=h.at_ hx;exact ⟨ad,rfl,hd,λj u hu=>hk.cell (by rw [q1E]; exact hd) (hc j u hu)⟩⟩
def Row.sub (h:Row w D sz A n c xs) (hs:∀ k,k < w.heap.size->D k->D' k):Row w D' sz A n c xs :=
 ⟨h.cap,h.len,λhx=>by
  obtain ⟨ad,rfl,hd,hc⟩:=h.at_ hx;refine ⟨ad,rfl,hs _ ?_ hd,hc⟩;have:=hc 0 xs[0] (zC hx);have hlt:=World.block_lt_of_cell? w _ this
  rwa [q1E] at hlt⟩
def Row.lt (h:Row w D sz A n c xs):Row w (λk=>D k/\k < w.heap.size) sz A n c xs:=h.sub λ_ hk hd=>⟨hd,hk⟩
def Row.take (h:Row w D sz A n c xs) {m:Nat} (hm:m<=n):Row w D sz A m c (xs.take (m*sz)) :=
 ⟨zL hm h.cap,by rw [zU,h.len,yI (zJ _ hm)],λhx=>by
  obtain ⟨ad,rfl,hd,hc⟩:=h.at_ (by rw [zU] at hx; omega);refine ⟨ad,rfl,hd,λj u hu=>hc j u ?_⟩;rw [yG] at hu
  split at hu
  .exact hu
  .cases hu⟩
def Row.drop (h:Row w D sz A n c xs) {m:Nat} (hm:m<=n):Row w D sz (if c=m then A else A.map (·.add (m*sz))) (n-m) (c-m) (xs.drop (m*sz)) :=
 ⟨Nat.sub_le_sub_right h.cap m,by rw [List.length_drop,h.len,Nat.sub_mul],λhx=>by
  rw [List.length_drop,h.len] at hx;obtain ⟨ad,rfl,hd,hc⟩:=h.at_ (by rw [h.len]; omega);have hne:¬ c=m:=λe=>by
   subst e;have hcn:n=c:=Nat.le_antisymm h.cap hm;subst hcn; omega
  rw [if_neg hne];refine ⟨ad.add (m*sz),rfl,by rw [q1E]; exact hd,λj u hu=>?_⟩;rw [q79];exact hc _ u (by rw [<- hu,z8])⟩
end
attribute [go_sem] q1v yS
def qeP (o:Oper):Bool:=match o.op with
 | .move _ | .assign _ | .pick _ _ _ | .build _ _ | .load _ _ | .binOp _ _ _ _ _ | .unOp _ _ _ | .convert _ _ _ | .fieldAddr _ _ _ | .indexAddr _ _ _ | .extract _ _=>true
 | .slice _ _ _ _ none=>true
 | .call c=>match c.callee with | .builtin .len | .builtin .max | .builtin .min=>true | _=>false
 | _=>false
def qez (o:Oper):Bool:=match o.op with | .load _ _=>true | _=>false
section
variable {P:Program} {n:Nat} {R:World->World->Prop}
def qku {w w':World} (hx:Ext w w') {p:Addr}:∀ (k i:Nat) (l:List Value),q1G w p i k=some l->q1G w' p i k=some l
 | 0,_,_,h=>h
 | k+1,i,l,h=>by
  simp only [q1G] at h ⊢
  split at h
  .rename_i v l' h1 h2;rw [hx.cell (D:=λ_=>True) trivial h1,qku hx k (i+1) l' h2];exact h
  .cases h
def quI {w w':World} (hx:Ext w w') {k:Option (Option Nat)} {a v:Value} (h:ldV w k a=some v):ldV w' k a=some v:=by
 unfold ldV at h ⊢
 split at h
 .split at h
  .exact hx.cell (D:=λ_=>True) trivial h
  .rw [zM] at h;obtain ⟨l,h1,h2⟩:=h;rw [qku hx _ _ _ h1,<- h2]; rfl
  .cases h
 .cases h
def qr1 {o:Oper} (hp:qeP o=true) {e:Env} {w:World} {K:Value->World->Prop} (h:wo P o e w K) :
  ∃ v,K v w/\∀ (e2:Env) (w':World),(∀ x ∈ o.op.operands.toList,ev e2 x=ev e x)->(qez o=true->Ext w w')->∀ K':Value->World->Prop,K' v w'->wo P o e2 w' K':=by
 obtain ⟨d,op,ty,pos,af,g⟩:=o;cases op <;> (try (cases hp; done)) <;> simp only [wo] at h
 case move x=>exact ⟨_,h,λe2 w' hop _ K' hk=>by simp only [wo]; rw [hop x (by simp [Op.operands])]; exact hk⟩
 case assign x=>exact ⟨_,h,λe2 w' hop _ K' hk=>by simp only [wo]; rw [hop x (by simp [Op.operands])]; exact hk⟩
 case pick c a b =>
  split at h
  .rename_i hc;exact ⟨_,h,λe2 w' hop _ K' hk=>by simp only [wo]; rw [hop c (by simp [Op.operands]),hc,hop a (by simp [Op.operands])]; exact hk⟩
  .rename_i hc;exact ⟨_,h,λe2 w' hop _ K' hk=>by simp only [wo]; rw [hop c (by simp [Op.operands]),hc,hop b (by simp [Op.operands])]; exact hk⟩
  .exact h.elim
 case build t ps =>
  obtain ⟨cs,h1,h2⟩:=q0R h;refine ⟨_,h2,λe2 w' hop _ K' hk=>?_⟩;simp only [wo];have:(ps.map λ(i,x)=>(i,ev e2 x))=ps.map λ(i,x)=>(i,ev e x):=by
   apply Array.map_congr_left
   intro a ha;obtain ⟨i,x⟩:=a;simp only [Prod.mk.injEq,true_and];exact hop x (by simp only [Op.operands,List.mem_map]; exact ⟨(i,x),by simpa using ha,rfl⟩)
  rw [this,h1]; exact hk
 case load t a =>
  obtain ⟨v,h1,h2⟩:=q0R h;refine ⟨_,h2,λe2 w' hop hx K' hk=>?_⟩;simp only [wo];rw [hop a (by simp [Op.operands]),quI (hx rfl) h1]; exact hk
 case binOp op t x y t' =>
  obtain ⟨v,h1,h2⟩:=q0R h;refine ⟨_,h2,λe2 w' hop hx K' hk=>?_⟩;simp only [wo];rw [hop x (by simp [Op.operands]),hop y (by simp [Op.operands]),h1]; exact hk
 case unOp op t x =>
  obtain ⟨v,h1,h2⟩:=q0R h;refine ⟨_,h2,λe2 w' hop hx K' hk=>?_⟩;simp only [wo];rw [hop x (by simp [Op.operands]),h1]; exact hk
 case convert s t x =>
  obtain ⟨v,h1,h2⟩:=q0R h;refine ⟨_,h2,λe2 w' hop hx K' hk=>?_⟩;simp only [wo];rw [hop x (by simp [Op.operands]),h1]; exact hk
 case fieldAddr t x f =>
  split at h
  .rename_i p hp';obtain ⟨v,h1,h2⟩:=q0R h;refine ⟨_,h2,λe2 w' hop hx K' hk=>?_⟩;simp only [wo];rw [hop x (by simp [Op.operands]),hp'];simp only [h1]; exact hk
  .exact h.elim
 case indexAddr t x i =>
  obtain ⟨v,h1,h2⟩:=q0R h;refine ⟨_,h2,λe2 w' hop hx K' hk=>?_⟩;simp only [wo];rw [hop x (by simp [Op.operands]),hop i (by simp [Op.operands]),h1]; exact hk
 case slice t x lo hi m =>
  cases m with
  | some m=>cases hp
  | none =>
   obtain ⟨v,h1,h2⟩:=q0R h;refine ⟨_,h2,λe2 w' hop hx K' hk=>?_⟩;have hl:lo.map (ev e2)=lo.map (ev e):=by
    cases lo with
    | none=>rfl
    | some y=>simp only [vN]; rw [hop y (by simp [Op.operands])]
   have hh:hi.map (ev e2)=hi.map (ev e):=by
    cases hi with
    | none=>rfl
    | some y=>simp only [vN]; rw [hop y (by simp [Op.operands])]
   simp only [wo];rw [hop x (by simp [Op.operands]),hl,hh,h1]; exact hk
 case extract x i =>
  obtain ⟨v,h1,h2⟩:=q0R h;refine ⟨_,h2,λe2 w' hop hx K' hk=>?_⟩;simp only [wo];rw [hop x (by simp [Op.operands]),h1]; exact hk
 case call c =>
  obtain ⟨ca,ar,ts⟩:=c;have hargs:∀ e2:Env,(∀ x ∈ (Op.call ⟨ca,ar,ts⟩).operands.toList,ev e2 x=ev e x)->ar.toList.map (ev e2)=ar.toList.map (ev e):=λe2 hop=>by
   apply List.map_congr_left
   intro x hx;exact hop x (by simp only [Op.operands,Call.operands,Array.toList_append,x7]; exact .inr hx)
  cases ca with
  | builtin b =>
   cases b <;> (try (cases hp; done)) <;> simp only [] at h
   case len =>
    split at h
    .rename_i x t hx ht;obtain ⟨v,h1,h2⟩:=q0R h;refine ⟨_,h2,λe2 w' hop _ K' hk=>?_⟩;have:=hargs e2 hop;rw [hx] at this;simp only [wo,hx,ht];simp only [vB,vC,List.cons.injEq,and_true] at this;rw [this,h1]; exact hk
    .exact h.elim
   case max =>
    obtain ⟨v,h1,h2⟩:=q0R h;refine ⟨_,h2,λe2 w' hop _ K' hk=>?_⟩;simp only [wo];rw [hargs e2 hop,h1]; exact hk
   case min =>
    obtain ⟨v,h1,h2⟩:=q0R h;refine ⟨_,h2,λe2 w' hop _ K' hk=>?_⟩;simp only [wo];rw [hargs e2 hop,h1]; exact hk
  | _=>cases hp
def qiI {ops:Array Oper} {o:Oper} {e e2:Env} (h:∀ t,looks ops o t=true->e2 t=e t):∀ x ∈ o.op.operands.toList,ev e2 x=ev e x:=by
 intro x hx;cases x with
 | tmp t =>
  refine h t ?_;unfold looks Oper.looksAt;rw [xD];exact ⟨t,xF _ (List.mem_filterMap.2 ⟨_,hx,rfl⟩),σ⟩
 | const v=>rfl
 | global v=>rfl
 | func v=>rfl
def q6U {ops:Array Oper} {o:Oper} {e e2:Env} (h:∀ t,looks ops o t=true->e2 t=e t):q5r ops e2 o=q5r ops e o:=by
 unfold q5r;cases hg:o.guard with
 | none=>rfl
 | some g =>
  obtain ⟨j,b⟩:=g;simp only;unfold q30;cases hd:(ops[j]?).bind (·.dst) with
  | none=>rfl
  | some d =>
   have:e2 d=e d:=h d (by
    unfold looks Oper.looksAt;rw [xD];exact ⟨d,vD _ (by rw [hg]; simp only [hd]; simp),σ⟩)
   simp only [this]
def qr6 {ops:Array Oper} {o:Oper} (hp:qeP o=true) {e:Env} {w:World} {K:Value->World->Prop} (h:wg P ops o e w K) :
  ∃ v,K v w/\∀ (e2:Env) (w':World),(∀ t,looks ops o t=true->e2 t=e t)->(qez o=true->Ext w w')->∀ K':Value->World->Prop,K' v w'->wg P ops o e2 w' K':=by
 unfold wg at h
 split at h
 .rename_i hw;obtain ⟨v,h1,h2⟩:=qr1 hp h;refine ⟨v,h1,λe2 w' hl hx K' hk=>?_⟩;unfold wg;rw [q6U hl,if_pos hw];exact h2 e2 w' (qiI hl) hx K' hk
 .rename_i hw;refine ⟨_,h,λe2 w' hl hx K' hk=>?_⟩;unfold wg;rw [q6U hl,if_neg hw];exact hk
def WLm (P:Program) (ops:Array Oper) (K:Env->Prop):List Bool->List Oper->Env->World->Prop
 | true :: m,o :: os,e,w=>wg P ops o e w λv _=>WLm P ops K m os (put e o.dst v) w
 | false :: m,_ :: os,e,w=>WLm P ops K m os e w
 | _,_,e,_=>K e
end
section
variable {P:Program} {ops:Array Oper} {K:Env->Prop} {e:Env} {w:World} {d:Option Nat} {o:Oper} {os:List Oper} {m:List Bool}
def WLm_t:WLm P ops K (true :: m) (o :: os) e w=wg P ops o e w λv _=>WLm P ops K m os (put e o.dst v) w:=rfl
def WLm_f:WLm P ops K (false :: m) (o :: os) e w=WLm P ops K m os e w:=rfl
def WLm_n:WLm P ops K [] [] e w=K e:=rfl
@[congr] theorem qxU {e':Env} (h:e=e'):WLm P ops K m os e w=WLm P ops K m os e' w:=by rw [h]
attribute [go_sem ↓] WLm_t WLm_f WLm_n
attribute [irreducible] WLm
end
section
variable {P:Program} {n:Nat} {R:World->World->Prop}
def q8J {ops:Array Oper} {listed:Array Bool} {i:Nat} (hi:i ∈ Region.ready .any ops listed):∃ hlt:i < ops.size,listed.getD i true=false/\∀ x ∈ ops[i].after,Region.binds .any x=true->listed.getD x.on false=true:=by
 unfold Region.ready at hi;rw [List.mem_filter] at hi;obtain ⟨hir,hrd⟩:=hi;have hlt:=wG.1 hir;have hio:ops[i]?=some ops[i]:=w5 hlt;simp only [hio,vN,Option.getD_some,zE] at hrd;obtain ⟨hnl,haf⟩:=hrd;rw [Array.all_eq_true'] at haf;exact ⟨hlt,by simpa using hnl,λx hx hb=>by have:=haf x hx; simpa [hb] using this⟩
end
section
variable {P:Program} {n:Nat} {R:World->World->Prop}
def WLc (P:Program) (ops:Array Oper) (R R2:World->Prop) (K:Env->World->Prop):List (Nat × Oper)->Env->World->Prop
 | [],e,w=>K e w
 | (0,o) :: rest,e,w=>wg P ops o e w λv w'=>R w'/\WLc P ops R R2 K rest (put e o.dst v) w'
 | (1,o) :: rest,e,w=>wg P ops o e w λv w'=>WLc P ops R R2 K rest (put e o.dst v) w'
 | (_+2,o) :: rest,e,w=>wg P ops o e w λv w'=>R2 w'/\WLc P ops R R2 K rest (put e o.dst v) w'
end
section
variable {P:Program} {ops:Array Oper} {R R2:World->Prop} {K:Env->World->Prop} {e:Env} {w:World} {o:Oper} {os:List Oper} {m:List Bool} {b:Nat} {pm:List Nat} {l:List (Nat × Oper)}
def qqg:WLc P ops R R2 K [] e w=K e w:=rfl
def WLc_0:WLc P ops R R2 K ((0,o) :: l) e w=wg P ops o e w λv w'=>R w'/\WLc P ops R R2 K l (put e o.dst v) w':=rfl
def WLc_1:WLc P ops R R2 K ((1,o) :: l) e w=wg P ops o e w λv w'=>WLc P ops R R2 K l (put e o.dst v) w':=rfl
def WLc_2:WLc P ops R R2 K ((2,o) :: l) e w=wg P ops o e w λv w'=>R2 w'/\WLc P ops R R2 K l (put e o.dst v) w':=rfl
@[congr] theorem qxV {e':Env} (h:e=e'):WLc P ops R R2 K l e w=WLc P ops R R2 K l e' w:=by rw [h]
attribute [go_sem ↓] qqg WLc_0 WLc_1 WLc_2
attribute [irreducible] WLc
end
section
variable {P:Program} {n:Nat} {R:World->World->Prop}
def qky {f:Env} {x:Option Nat} {v:Value} {t:Nat} (h0:x≠some t):put f x v t=f t:=by
 cases hx:x with
 | none=>rfl
 | some d' =>
  have:t≠d':=λh=>h0 (by rw [hx,h]);simp [put,upd,this]
end
inductive Sch where
 | fin:Sch
 | one:Nat->Sch->Sch
 | alt:Sch->Sch->Sch
def q7S:Sch->List Nat
 | .fin=>[]
 | .one i _=>[i]
 | .alt s t=>q7S s ++ q7S t
def qcQ:List Oper->Nat->Oper
 | o :: _,0=>o
 | _ :: l,i+1=>qcQ l i
 | [], _ => ⟨none, .move (.const undef), 0, "", #[], none⟩
def qlH {o:Oper} {l:List Oper}:qcQ (o :: l) 0=o:=rfl
def qtm {o:Oper} {l:List Oper} {i:Nat}:qcQ (o :: l) (i+1)=qcQ l i:=rfl
def q97:∀ {l:List Oper} {i:Nat} {o:Oper},l[i]?=some o->qcQ l i=o
 | o :: _,0,_,h=>by rw [qlH]; simpa using h
 | _ :: l,i+1,_,h=>q97 (l:=l) (by simpa using h)
 | [],i,_,h=>by simp at h
def qw0:List Nat->List Nat->Bool
 | [],[]=>true
 | a :: l,b :: m=>wP a b && qw0 l m
 | _,_=>false
def qaH:∀ {l m:List Nat},qw0 l m=true->l=m
 | [],[],_=>rfl
 | a :: l,b :: m,h=>by
  simp only [qw0,zE] at h;rw [yU h.1,qaH h.2]
 | [],_ :: _,h=>by cases h
 | _ :: _,[],h=>by cases h
def qf7 (ops:List Oper) (l:Array Bool) (i:Nat):Bool :=
 qeP (qcQ ops i) && !qez (qcQ ops i) && Region.free .any ops.toArray l i && (Region.ready .any ops.toArray l).any (wP i)
def q5P (ops:List Oper):Sch->Bool->Nat->Array Bool->Bool
 | .fin,b,_,l=>!b && (Region.ready .any ops.toArray l).isEmpty
 | .one i s,b,f+1,l=>(b || qf7 ops l i || qw0 (Region.ready .any ops.toArray l) [i]) && q5P ops s false f (l.setIfInBounds i true)
 | .one _ _,_,0,_=>false
 | .alt s t,b,f,l=>(b || qw0 (Region.ready .any ops.toArray l) (q7S s ++ q7S t)) && !(q7S s).isEmpty && !(wP f 0) && q5P ops s true f l && q5P ops t true f l
def WS (P:Program) (ops:List Oper) (K:Env->World->Prop):Sch->Env->World->Prop
 | .fin,e,w=>K e w
 | .one i s,e,w=>wg P ops.toArray (qcQ ops i) e w λv w'=>WS P ops K s (put e (qcQ ops i).dst v) w'
 | .alt s t,e,w=>WS P ops K s e w/\WS P ops K t e w
section
variable {P:Program} {n:Nat}
def qxR {ops:List Oper} {K:Env->World->Prop} {e:Env} {w:World} {i:Nat} {s:Sch}:WS P ops K (.one i s) e w=wg P ops.toArray (qcQ ops i) e w λv w'=>WS P ops K s (put e (qcQ ops i).dst v) w':=rfl
def qxS {ops:List Oper} {K:Env->World->Prop} {e:Env} {w:World} {s t:Sch}:WS P ops K (.alt s t) e w=(WS P ops K s e w/\WS P ops K t e w):=rfl
@[congr] theorem WS_congr {ops:List Oper} {K:Env->World->Prop} {e e':Env} {w:World} {s:Sch} (h:e=e'):WS P ops K s e w=WS P ops K s e' w:=by rw [h]
def q3y {r:Result Value} {x:Next} {w':World} (h:r.andThen (λa w=>.ok (.value a) w)=.ok x w'):∃ v,x=.value v:=by
 cases r with
 | ok a w=>simp only [Result.andThen_ok] at h; cases h; exact ⟨_,rfl⟩
 | halt=>cases h
def qdr {o:Oper} (hp:qeP o=true) {ρ:Operand->Value} {w:World} {x:Next} {w':World} (h:(execOp ρ o).run P w=.ok x w'):∃ v,x=.value v:=by
 obtain ⟨d,op,ty,pos,af,g⟩:=o;cases op <;> (try (cases hp; done)) <;> simp only [execOp,Sem.run_bind,Sem.run_pure] at h
 case move=>cases h; exact ⟨_,rfl⟩
 case assign=>cases h; exact ⟨_,rfl⟩
 case pick c a b =>
  cases hr:(asBool (ρ c)).run P w with
  | ok b w1 =>
   rw [hr] at h;cases b <;> (simp only [Result.andThen_ok] at h; cases h; exact ⟨_,rfl⟩)
  | halt=>rw [hr] at h; cases h
 case call c =>
  unfold qeP at hp;simp only at hp;cases hc:c.callee with
  | builtin b =>
   rw [hc] at hp;simp only [resolve,hc,Sem.run_pure,Result.andThen_ok,invoke] at h;cases b <;> (try (cases hp; done)) <;> simp only [builtin,Sem.run_bind,Sem.run_pure] at h <;> exact q3y h
  | invoke=>rw [hc] at hp; cases hp
  | value f=>rw [hc] at hp; cases hp
 all_goals exact q3y h
def q6v {ops:Array Oper} {l:Array Bool} {i:Nat} (h:i ∈ Region.ready .any ops l):i < ops.size:=(q8J h).1
def qnZ {ops:List Oper} {Q:Exit->Act->World->Prop} {K:Env->World->Prop} {e0:Env} (hs:Region.noSelect ops.toArray=true) (hd:ops.all (q8c n)=true)
  (hQp:∀ c a a' w,Q (.panic c) a w->Q (.panic c) a' w)
  (hQ:∀ a e' w',Rel n a e'->(∀ t,q53 ops.toArray t=false->e' t=e0 t)->K e' w'->Q .normal a w') :
  ∀ (s:Sch) (b:Bool) (f:Nat) (l:Array Bool) (a:Act) (e:Env) (w:World),q5P ops s b f l=true->Rel n a e->(∀ t,q53 ops.toArray t=false->e t=e0 t)->WS P ops K s e w ->
   (b=false->wpAny P .any ops.toArray Q f l a w)/\(b=true->∀ i ∈ q7S s,(∃ o,ops[i]?=some o)->∀ f',f=f'+1->wpOp P ops.toArray Q i (wpAny P .any ops.toArray Q f' (l.setIfInBounds i true)) a w):=by
 intro s;have hdo:∀ (i:Nat) (o:Oper),ops[i]?=some o->∀ {a:Act} {e:Env} (v:Value),Rel n a e->Rel n (a.put o.dst v) (put e o.dst v):=λi o ho a e v hr=>by
  have h1:q8c n o=true:=by rw [yY] at hd; exact hd _ (wH ho)
  exact hr.put _ v (by unfold q8c at h1; cases hx:o.dst <;> simp_all)
 have hold:∀ (i:Nat) (o:Oper),ops[i]?=some o->∀ {e:Env} (v:Value),(∀ t,q53 ops.toArray t=false->e t=e0 t)->∀ t,q53 ops.toArray t=false->put e o.dst v t=e0 t:=λi o ho e v h t ht=>by
  rw [qky (q52 ht i o (by simpa using ho))]; exact h t ht
 have hop:∀ (i:Nat) (o:Oper),ops[i]?=some o->∀ {a:Act} {e:Env} {w:World} {Kv:Value->World->Prop} {K':Act->World->Prop},Rel n a e->wg P ops.toArray o e w Kv->(∀ v w',Kv v w'->K' (a.put o.dst v) w')->wpOp P ops.toArray Q i K' a w:=λi o ho a e w Kv K' hr h hk=>by
  have h1:=q3B h;unfold wpOp;have hio2:ops.toArray[i]?=some o:=by simpa using ho
  simp only [hio2];rw [q6a hr (by simpa using hd)];unfold WG at h1
  split
  .rename_i hw;rw [if_pos hw] at h1;exact .inl (q68 hr h1 hk)
  .rename_i hw;rw [if_neg hw] at h1;exact hk _ _ h1
 induction s with
 | fin =>
  intro b f l a e w hok hr hold0 h;simp only [q5P,zE,List.isEmpty_iff,Bool.not_eq_true'] at hok;exact ⟨λ_=>wpAny_done hok.2 (hQ a e w hr hold0 h) f,λhb=>by rw [hb] at hok; cases hok.1⟩
 | one i s ih =>
  intro b f l a e w hok hr hold0 h;cases f with
  | zero=>cases b <;> simp [q5P] at hok
  | succ f =>
   simp only [q5P,zE] at hok;obtain ⟨hok1,hok2⟩:=hok;rw [qxR] at h;have step:∀ o,ops[i]?=some o->wpOp P ops.toArray Q i (wpAny P .any ops.toArray Q f (l.setIfInBounds i true)) a w:=λo ho=>by
    rw [q97 ho] at h;exact hop i o ho hr h λv w' hv=>(ih false f _ _ _ _ hok2 (hdo i o ho v hr) (hold i o ho v hold0) hv).1 rfl
   refine ⟨λhb=>?_,λhb j hj ⟨o,ho⟩ f' hf=>?_⟩
   .subst hb;rw [Bool.false_or,Bool.or_eq_true] at hok1
    rcases hok1 with hf | hf
    .unfold qf7 at hf;rw [zE,zE,zE] at hf;obtain ⟨⟨⟨h1,h2⟩,h3⟩,h4⟩:=hf;rw [xD] at h4;obtain ⟨j,hj,hji⟩:=h4;obtain rfl:i=j:=yU hji;have hlt:i < ops.length:=by simpa using q6v hj
     have ho:ops[i]?=some ops[i]:=zC hlt;generalize ops[i]=o at ho;rw [q97 ho] at h h1 h2;obtain ⟨v,hv,hev⟩:=qr6 h1 h;have hio2:ops.toArray[i]?=some o:=by simpa using ho
     have hstep:∀ w2,WG P ops.toArray o e w2 λv' w3=>v'=v/\w3=w2:=λw2=>q3B (hev e w2 (λ_ _=>rfl) (λhl=>by rw [hl] at h2; cases h2) _ ⟨rfl,rfl⟩);have hy:Yields P ops.toArray o v a:=by
      unfold Yields;rw [q6a hr (by simpa using hd)];cases hw:q5r ops.toArray e o with
      | true =>
       refine .inl ⟨rfl,λw2=>?_⟩;have h5:=hstep w2;unfold WG at h5;rw [if_pos hw] at h5;unfold WO at h5;rw [hr.eval];cases hx:(execOp (ev e) o).run P w2 with
       | ok x w3 =>
        obtain ⟨v3,rfl⟩:=qdr h1 hx;rw [hx] at h5;simp only [RO] at h5;rw [h5.1,h5.2]
       | halt=>rw [hx] at h5; exact h5.elim
      | false =>
       refine .inr ⟨rfl,?_⟩;have h5:=hstep w;unfold WG at h5;rw [if_neg (by rw [hw]; simp)] at h5;exact h5.1.symm
     refine wpAny_take hio2 hs h3 (by simpa using hj) (λc a' w' hq=>hQp c _ _ w' hq) hy ?_;exact (ih false f _ _ _ _ hok2 (hdo i o ho v hr) (hold i o ho v hold0) hv).1 rfl
    .have hrd:=qaH hf;refine wpAny_all hrd σ λj hj=>?_;simp only [wT] at hj;subst hj;have hlt:j < ops.length:=by simpa using q6v (show j ∈ Region.ready .any ops.toArray l by rw [hrd]; simp)
     exact step _ (zC hlt)
   .simp only [q7S,wT] at hj;subst hj;obtain rfl:f=f':=ω
    exact step o ho
 | alt s t ihs iht =>
  intro b f l a e w hok hr hold0 h;simp only [q5P,zE] at hok;obtain ⟨⟨⟨⟨hok1,hok2⟩,hok3⟩,hok4⟩,hok5⟩:=hok;rw [qxS] at h;have hs1:=(ihs true f l a e w hok4 hr hold0 h.1).2 rfl;have ht1:=(iht true f l a e w hok5 hr hold0 h.2).2 rfl;have key:∀ i ∈ q7S s ++ q7S t,(∃ o,ops[i]?=some o)->∀ f',f=f'+1->wpOp P ops.toArray Q i (wpAny P .any ops.toArray Q f' (l.setIfInBounds i true)) a w:=λi hi ho f' hf=>by
   rcases x7.1 hi with hi | hi
   .exact hs1 i hi ho f' hf
   .exact ht1 i hi ho f' hf
  refine ⟨λhb=>?_,λ_=>key⟩;subst hb;rw [Bool.false_or] at hok1;have hrd:=qaH hok1;cases f with
  | zero=>simp at hok3
  | succ f =>
   refine wpAny_all hrd (by intro hn; rw [List.append_eq_nil_iff] at hn; rw [hn.1] at hok2; simp at hok2) λj hj=>?_;have hlt:j < ops.length:=by simpa using q6v (show j ∈ Region.ready .any ops.toArray l by rw [hrd]; exact hj)
   exact key j hj ⟨_,zC hlt⟩ f rfl
def W_dA {id:Nat} {ops:List Oper} {Q:Exit->Env->World->Prop} {e:Env} {w:World} (hm:P.follows .mixedOrders=true) (s:Sch) (hok:(Region.noSelect ops.toArray && q5P ops s false ops.length (w6 ops.length false))=true)
  (h:∀ (K:Env->World->Prop) (w1:World),(∀ e w,Q .normal e w->K e w)->Ext w w1->WS P ops K s e w1):W P n (.region id ops.toArray true) Q e w:=by
 rw [zE] at hok;intro hd a hr;have hd':ops.all (q8c n)=true:=hd;refine wp_mono (Q:=λx a' w'=>x=.normal/\qkE n (.region id ops.toArray true) e Q .normal a' w') (wp_region_any hm ?_) λx a' w' hq=>by rw [hq.1]; exact hq.2
 have:=(qnZ (n:=n) (P:=P) (e0:=e) (K:=Q .normal) (Q:=λx a' w'=>x=.normal/\qkE n (.region id ops.toArray true) e Q .normal a' w') hok.1 hd' (λc a a' w hq=>by cases hq.1) (λa' e' w' r' h2 h3=>⟨rfl,e',r',h2,h3⟩) s false ops.length (w6 ops.length false) a e { w with drawn:=w.drawn+1 } hok.2 hr (λ_ _=>rfl) (h _ _ (λ_ _ h=>h) (Kp.drew w _))).1 rfl;simpa using this
end
section
variable {w w':World} {B E sz n c:Nat} {A:Option Addr} {xs:List Value} {D D':Nat->Prop}
end
section
variable {P:Program} {w:World} {K:Value->World->Prop}
end
end Go.E
namespace Go.Proofs.YtbjoghfmhgadkaaGreatDoor
open Go Go.E
set_option maxRecDepth 100000
def agg3:q0c Tryz.prog 3=some none:=κ
def agg4:q0c Tryz.prog 4=some none:=κ
def agg5:q0c Tryz.prog 5=some none:=κ
def agg23:q0c Tryz.prog 23=some none:=κ
def agg24:q0c Tryz.prog 24=some none:=κ
def agg26:q0c Tryz.prog 26=some (some 5):=κ
def agg28:q0c Tryz.prog 28=some (some 3):=κ
def agg31:q0c Tryz.prog 31=some none:=κ
def agg32:q0c Tryz.prog 32=some none:=κ
def agg34:q0c Tryz.prog 34=some (some 2):=κ
def agg40:q0c Tryz.prog 40=some none:=κ
def agg42:q0c Tryz.prog 42=some (some 2):=κ
def agg46:q0c Tryz.prog 46=some (some 4):=κ
def agg63:q0c Tryz.prog 63=some (some 8):=κ
def agg84:q0c Tryz.prog 84=some none:=κ
def agg87:q0c Tryz.prog 87=some none:=κ
def qxF:q0c Tryz.prog 113=some none:=κ
def qxE:q0c Tryz.prog 131=some none:=κ
def qxD:q0c Tryz.prog 133=some (some 5):=κ
def qxC:q0c Tryz.prog 134=some none:=κ
def qxB:q0c Tryz.prog 142=some none:=κ
def qxA:q0c Tryz.prog 240=some (some 5):=κ
def qwz:q0c Tryz.prog 243=some (some 4):=κ
def qwy:q0c Tryz.prog 270=some none:=κ
def qwx:q0c Tryz.prog 273=some (some 32):=κ
def qpE:q0Z Tryz.prog 26 0=some 0:=κ
def qpD:q0Z Tryz.prog 26 1=some 1:=κ
def qpC:q0Z Tryz.prog 26 2=some 2:=κ
def qpB:q0Z Tryz.prog 26 3=some 3:=κ
def qpA:q0Z Tryz.prog 26 4=some 4:=κ
def qoz:q0Z Tryz.prog 28 0=some 0:=κ
def qoy:q0Z Tryz.prog 28 1=some 1:=κ
def qox:q0Z Tryz.prog 28 2=some 2:=κ
def qow:q0Z Tryz.prog 34 0=some 0:=κ
def qov:q0Z Tryz.prog 34 1=some 1:=κ
def qou:q0Z Tryz.prog 42 0=some 0:=κ
def qot:q0Z Tryz.prog 42 1=some 1:=κ
def qos:q0Z Tryz.prog 46 0=some 0:=κ
def qor:q0Z Tryz.prog 46 1=some 1:=κ
def qoq:q0Z Tryz.prog 46 2=some 3:=κ
def qop:q0Z Tryz.prog 63 0=some 0:=κ
def qoo:q0Z Tryz.prog 63 1=some 1:=κ
def qon:q0Z Tryz.prog 63 2=some 2:=κ
def qom:q0Z Tryz.prog 63 3=some 3:=κ
def qol:q0Z Tryz.prog 63 4=some 4:=κ
def qok:q0Z Tryz.prog 63 5=some 5:=κ
def qoj:q0Z Tryz.prog 63 6=some 6:=κ
def qoi:q0Z Tryz.prog 63 7=some 7:=κ
def qjK:q0Z Tryz.prog 133 0=some 0:=κ
def qjJ:q0Z Tryz.prog 133 1=some 1:=κ
def qjI:q0Z Tryz.prog 133 2=some 2:=κ
def qjH:q0Z Tryz.prog 133 3=some 3:=κ
def qjG:q0Z Tryz.prog 133 4=some 4:=κ
def qjF:q0Z Tryz.prog 240 0=some 0:=κ
def qjE:q0Z Tryz.prog 240 1=some 1:=κ
def qjD:q0Z Tryz.prog 240 2=some 3:=κ
def qjC:q0Z Tryz.prog 240 3=some 4:=κ
def qjB:q0Z Tryz.prog 243 0=some 0:=κ
def qjA:q0Z Tryz.prog 243 1=some 2:=κ
def esz22:q0d Tryz.prog 22=some 1:=κ
def esz23:q0d Tryz.prog 23=some 1:=κ
def esz24:q0d Tryz.prog 24=some 1:=κ
def esz39:q0d Tryz.prog 39=some 1:=κ
def esz40:q0d Tryz.prog 40=some 1:=κ
def esz84:q0d Tryz.prog 84=some 1:=κ
def esz87:q0d Tryz.prog 87=some 4:=κ
def quq:q0d Tryz.prog 113=some 2:=κ
def qup:q0d Tryz.prog 131=some 1:=κ
def qun:q0d Tryz.prog 134=some 1:=κ
def qum:q0d Tryz.prog 167=some 1:=κ
def qul:q0d Tryz.prog 246=some 1:=κ
def quk:q0d Tryz.prog 270=some 4:=κ
def elm22:q05 Tryz.prog 22=some (31,1,8,#[.int .u64 0]):=κ
def elm23:q05 Tryz.prog 23=some (3,1,8,#[.int .i64 0]):=κ
def elm24:q05 Tryz.prog 24=some (32,1,8,#[.int .u64 0]):=κ
def elm39:q05 Tryz.prog 39=some (113,1,24,#[.slice none 0 0]):=κ
def elm40:q05 Tryz.prog 40=some (142,1,4,#[.int .u32 0]):=κ
def elm84:q05 Tryz.prog 84=some (24,1,24,#[.slice none 0 0]):=κ
def elm87:q05 Tryz.prog 87=some (46,4,48,#[.bool false,.bool false,.slice none 0 0,.int .i64 0]):=κ
def quy:q05 Tryz.prog 113=some (42,2,32,#[.bool false,.slice none 0 0]):=κ
def qux:q05 Tryz.prog 131=some (134,1,24,#[.slice none 0 0]):=κ
def quw:q05 Tryz.prog 134=some (4,1,1,#[.bool false]):=κ
def quv:q05 Tryz.prog 167=some (87,1,24,#[.slice none 0 0]):=κ
def quu:q05 Tryz.prog 246=some (270,1,24,#[.slice none 0 0]):=κ
def qut:q05 Tryz.prog 270=some (243,4,64,#[.bool false,.slice none 0 0,.bool false,.slice none 0 0]):=κ
def zer3:q18 Tryz.prog 3=some #[.int .i64 0]:=κ
def zer26:q18 Tryz.prog 26=some #[.int .i64 0,.int .i64 0,.slice none 0 0,.slice none 0 0,.slice none 0 0]:=κ
def zer28:q18 Tryz.prog 28=some #[.int .i64 0,.int .i64 0,.slice none 0 0]:=κ
def zer34:q18 Tryz.prog 34=some #[.int .u64 0,.int .u64 0]:=κ
def zer42:q18 Tryz.prog 42=some #[.bool false,.slice none 0 0]:=κ
def zer46:q18 Tryz.prog 46=some #[.bool false,.bool false,.slice none 0 0,.int .i64 0]:=κ
def zer63:q18 Tryz.prog 63=some #[.slice none 0 0,.slice none 0 0,.slice none 0 0,.slice none 0 0,.slice none 0 0,.slice none 0 0,.slice none 0 0,.slice none 0 0]:=κ
def qrZ:q18 Tryz.prog 133=some #[.slice none 0 0,.slice none 0 0,.slice none 0 0,.slice none 0 0,.slice none 0 0]:=κ
def qrY:q18 Tryz.prog 240=some #[.bool false,.bool false,.slice none 0 0,.int .i64 0,.bool false]:=κ
def qrX:q18 Tryz.prog 243=some #[.bool false,.slice none 0 0,.bool false,.slice none 0 0]:=κ
def qrW:q18 Tryz.prog 273=some #[.int .u8 0,.int .u8 0,.int .u8 0,.int .u8 0,.int .u8 0,.int .u8 0,.int .u8 0,.int .u8 0,.int .u8 0,.int .u8 0,.int .u8 0,.int .u8 0,.int .u8 0,.int .u8 0,.int .u8 0,.int .u8 0,.int .u8 0,.int .u8 0,.int .u8 0,.int .u8 0,.int .u8 0,.int .u8 0,.int .u8 0,.int .u8 0,.int .u8 0,.int .u8 0,.int .u8 0,.int .u8 0,.int .u8 0,.int .u8 0,.int .u8 0,.int .u8 0]:=κ
def siz3:q02 Tryz.prog 3=some 1:=κ
def siz4:q02 Tryz.prog 4=some 1:=κ
def siz23:q02 Tryz.prog 23=some 1:=κ
def siz24:q02 Tryz.prog 24=some 1:=κ
def siz26:q02 Tryz.prog 26=some 5:=κ
def siz28:q02 Tryz.prog 28=some 3:=κ
def siz32:q02 Tryz.prog 32=some 1:=κ
def siz34:q02 Tryz.prog 34=some 2:=κ
def siz42:q02 Tryz.prog 42=some 2:=κ
def siz46:q02 Tryz.prog 46=some 4:=κ
def siz63:q02 Tryz.prog 63=some 8:=κ
def siz84:q02 Tryz.prog 84=some 1:=κ
def siz87:q02 Tryz.prog 87=some 1:=κ
def qsf:q02 Tryz.prog 131=some 1:=κ
def qse:q02 Tryz.prog 133=some 5:=κ
def qsd:q02 Tryz.prog 142=some 1:=κ
def qsc:q02 Tryz.prog 240=some 5:=κ
def qsb:q02 Tryz.prog 243=some 4:=κ
def qsa:q02 Tryz.prog 270=some 1:=κ
def qs9:q02 Tryz.prog 273=some 32:=κ
def und3:Tryz.prog.underlying 3=some (.int .i64):=κ
def qrB:Tryz.prog.underlying 4=some .bool:=κ
def beq4 {x y:Bool}:q0t Tryz.prog .eql 4 (.bool x) (.bool y)=some (.bool (x == y)):=qbi qrB
def bne4 {x y:Bool}:q0t Tryz.prog .neq 4 (.bool x) (.bool y)=some (.bool (x != y)):=qbh qrB
def und5:Tryz.prog.underlying 5=some (.int .u8):=κ
def qre:Tryz.prog.underlying 23=some (.slice 3):=κ
def nil23 {A:Option Addr} {n c n2 c2:Nat}:q0t Tryz.prog .eql 23 (.slice A n c) (.slice none n2 c2)=some (.bool A.isNone):=qaG qre
def qtp {A:Option Addr} {n c n2 c2:Nat}:q0t Tryz.prog .neq 23 (.slice A n c) (.slice none n2 c2)=some (.bool A.isSome):=qbg qre
def qrd:Tryz.prog.underlying 31=some (.int .u64):=κ
def und32:Tryz.prog.underlying 32=some (.int .u64):=κ
def und35:Tryz.prog.underlying 35=some (.int .i64):=κ
def qrc:Tryz.prog.underlying 40=some (.slice 142):=κ
def nil40 {A:Option Addr} {n c n2 c2:Nat}:q0t Tryz.prog .eql 40 (.slice A n c) (.slice none n2 c2)=some (.bool A.isNone):=qaG qrc
def qto {A:Option Addr} {n c n2 c2:Nat}:q0t Tryz.prog .neq 40 (.slice A n c) (.slice none n2 c2)=some (.bool A.isSome):=qbg qrc
def und57:Tryz.prog.underlying 57=some (.int .u64):=κ
def qrf:Tryz.prog.underlying 142=some (.int .u32):=κ
def qwX  : Tryz.prog.built 26 []=some #[.int .i64 0,.int .i64 0,.slice none 0 0,.slice none 0 0,.slice none 0 0]:=κ
def qaC {x0:Int} {x1:Int} {x2A:Option Addr} {x2n x2c:Nat}:Tryz.prog.built 26 [(0,(.int .i64 x0)),(1,(.int .i64 x1)),(2,(.slice x2A x2n x2c))]=some #[.int .i64 x0,.int .i64 x1,.slice x2A x2n x2c,.slice none 0 0,.slice none 0 0]:=κ
def q74 {x0:Int} {x1:Int} {x2A:Option Addr} {x2n x2c:Nat} {x3A:Option Addr} {x3n x3c:Nat}:Tryz.prog.built 26 [(0,(.int .i64 x0)),(1,(.int .i64 x1)),(2,(.slice x2A x2n x2c)),(3,(.slice x3A x3n x3c))]=some #[.int .i64 x0,.int .i64 x1,.slice x2A x2n x2c,.slice x3A x3n x3c,.slice none 0 0]:=κ
def q5i {x0:Int} {x1:Int} {x2A:Option Addr} {x2n x2c:Nat} {x3A:Option Addr} {x3n x3c:Nat} {x4A:Option Addr} {x4n x4c:Nat}:Tryz.prog.built 26 [(0,(.int .i64 x0)),(1,(.int .i64 x1)),(2,(.slice x2A x2n x2c)),(3,(.slice x3A x3n x3c)),(4,(.slice x4A x4n x4c))]=some #[.int .i64 x0,.int .i64 x1,.slice x2A x2n x2c,.slice x3A x3n x3c,.slice x4A x4n x4c]:=κ
def qwW  : Tryz.prog.built 28 []=some #[.int .i64 0,.int .i64 0,.slice none 0 0]:=κ
def qgU {x0:Int} {x1:Int}:Tryz.prog.built 28 [(0,(.int .i64 x0)),(1,(.int .i64 x1))]=some #[.int .i64 x0,.int .i64 x1,.slice none 0 0]:=κ
def qaB {x0:Int} {x1:Int} {x2A:Option Addr} {x2n x2c:Nat}:Tryz.prog.built 28 [(0,(.int .i64 x0)),(1,(.int .i64 x1)),(2,(.slice x2A x2n x2c))]=some #[.int .i64 x0,.int .i64 x1,.slice x2A x2n x2c]:=κ
def qwV  : Tryz.prog.built 34 []=some #[.int .u64 0,.int .u64 0]:=κ
def qgT {x0:Int} {x1:Int}:Tryz.prog.built 34 [(0,(.int .u64 x0)),(1,(.int .u64 x1))]=some #[.int .u64 x0,.int .u64 x1]:=κ
def qwU  : Tryz.prog.built 42 []=some #[.bool false,.slice none 0 0]:=κ
def qgS {x0:Bool} {x1A:Option Addr} {x1n x1c:Nat}:Tryz.prog.built 42 [(0,(.bool x0)),(1,(.slice x1A x1n x1c))]=some #[.bool x0,.slice x1A x1n x1c]:=κ
def qwT  : Tryz.prog.built 46 []=some #[.bool false,.bool false,.slice none 0 0,.int .i64 0]:=κ
def qqF {x0:Bool}:Tryz.prog.built 46 [(0,(.bool x0))]=some #[.bool x0,.bool false,.slice none 0 0,.int .i64 0]:=κ
def qgR {x10:Bool} {x11A:Option Addr} {x11n x11c:Nat} {x2:Int}:Tryz.prog.built 46 [(1,.agg #[.bool x10,.slice x11A x11n x11c]),(2,(.int .i64 x2))]=some #[.bool false,.bool x10,.slice x11A x11n x11c,.int .i64 x2]:=κ
def qwS  : Tryz.prog.built 63 []=some #[.slice none 0 0,.slice none 0 0,.slice none 0 0,.slice none 0 0,.slice none 0 0,.slice none 0 0,.slice none 0 0,.slice none 0 0]:=κ
def qgQ {x0A:Option Addr} {x0n x0c:Nat} {x1A:Option Addr} {x1n x1c:Nat}:Tryz.prog.built 63 [(0,(.slice x0A x0n x0c)),(1,(.slice x1A x1n x1c))]=some #[.slice x0A x0n x0c,.slice x1A x1n x1c,.slice none 0 0,.slice none 0 0,.slice none 0 0,.slice none 0 0,.slice none 0 0,.slice none 0 0]:=κ
def q73 {x0A:Option Addr} {x0n x0c:Nat} {x1A:Option Addr} {x1n x1c:Nat} {x2A:Option Addr} {x2n x2c:Nat} {x5A:Option Addr} {x5n x5c:Nat}:Tryz.prog.built 63 [(0,(.slice x0A x0n x0c)),(1,(.slice x1A x1n x1c)),(2,(.slice x2A x2n x2c)),(5,(.slice x5A x5n x5c))]=some #[.slice x0A x0n x0c,.slice x1A x1n x1c,.slice x2A x2n x2c,.slice none 0 0,.slice none 0 0,.slice x5A x5n x5c,.slice none 0 0,.slice none 0 0]:=κ
def q8j {x0:Bool} {x10:Bool} {x11A:Option Addr} {x11n x11c:Nat} {x2:Int}:Tryz.prog.built 240 [(0,(.bool x0)),(1,.agg #[.bool x10,.slice x11A x11n x11c]),(2,(.int .i64 x2))]=some #[.bool x0,.bool x10,.slice x11A x11n x11c,.int .i64 x2,.bool false]:=κ
def q5w {x0:Bool} {x10:Bool} {x11A:Option Addr} {x11n x11c:Nat} {x2:Int} {x3:Bool}:Tryz.prog.built 240 [(0,(.bool x0)),(1,.agg #[.bool x10,.slice x11A x11n x11c]),(2,(.int .i64 x2)),(3,(.bool x3))]=some #[.bool x0,.bool x10,.slice x11A x11n x11c,.int .i64 x2,.bool x3]:=κ
def qca {x00:Bool} {x01A:Option Addr} {x01n x01c:Nat} {x10:Bool} {x11A:Option Addr} {x11n x11c:Nat}:Tryz.prog.built 243 [(0,.agg #[.bool x00,.slice x01A x01n x01c]),(1,.agg #[.bool x10,.slice x11A x11n x11c])]=some #[.bool x00,.slice x01A x01n x01c,.bool x10,.slice x11A x11n x11c]:=κ
def qqC:bsV Tryz.prog 23 0 []=some (3,#[]):=κ
def qqB {x0:Int}:bsV Tryz.prog 23 1 [(0,(.int .i64 x0))]=some (3,#[.int .i64 x0]):=κ
def qqA {x0:Int} {x1:Int}:bsV Tryz.prog 23 2 [(0,(.int .i64 x0)),(1,(.int .i64 x1))]=some (3,#[.int .i64 x0,.int .i64 x1]):=κ
def qpz {x0:Int} {x1:Int} {x2:Int}:bsV Tryz.prog 23 3 [(0,(.int .i64 x0)),(1,(.int .i64 x1)),(2,(.int .i64 x2))]=some (3,#[.int .i64 x0,.int .i64 x1,.int .i64 x2]):=κ
def qpy {x0:Int} {x1:Int} {x2:Int} {x3:Int}:bsV Tryz.prog 23 4 [(0,(.int .i64 x0)),(1,(.int .i64 x1)),(2,(.int .i64 x2)),(3,(.int .i64 x3))]=some (3,#[.int .i64 x0,.int .i64 x1,.int .i64 x2,.int .i64 x3]):=κ
def qpx:bsV Tryz.prog 24 0 []=some (32,#[]):=κ
def qpw {x0:Int}:bsV Tryz.prog 24 1 [(0,(.int .u64 x0))]=some (32,#[.int .u64 x0]):=κ
def qpv {x0:Int} {x1:Int}:bsV Tryz.prog 24 2 [(0,(.int .u64 x0)),(1,(.int .u64 x1))]=some (32,#[.int .u64 x0,.int .u64 x1]):=κ
def qpu {x0:Int} {x1:Int} {x2:Int} {x3:Int}:bsV Tryz.prog 24 4 [(0,(.int .u64 x0)),(1,(.int .u64 x1)),(2,(.int .u64 x2)),(3,(.int .u64 x3))]=some (32,#[.int .u64 x0,.int .u64 x1,.int .u64 x2,.int .u64 x3]):=κ
def qpt {x0A:Option Addr} {x0n x0c:Nat}:bsV Tryz.prog 39 1 [(0,(.slice x0A x0n x0c))]=some (113,#[.slice x0A x0n x0c]):=κ
def qps:bsV Tryz.prog 40 0 []=some (142,#[]):=κ
def qpr {x0:Int}:bsV Tryz.prog 40 1 [(0,(.int .u32 x0))]=some (142,#[.int .u32 x0]):=κ
def qpq {x0:Int} {x1:Int}:bsV Tryz.prog 40 2 [(0,(.int .u32 x0)),(1,(.int .u32 x1))]=some (142,#[.int .u32 x0,.int .u32 x1]):=κ
def qpp {x0A:Option Addr} {x0n x0c:Nat}:bsV Tryz.prog 84 1 [(0,(.slice x0A x0n x0c))]=some (24,#[.slice x0A x0n x0c]):=κ
def qpo {x0A:Option Addr} {x0n x0c:Nat} {x1A:Option Addr} {x1n x1c:Nat}:bsV Tryz.prog 84 2 [(0,(.slice x0A x0n x0c)),(1,(.slice x1A x1n x1c))]=some (24,#[.slice x0A x0n x0c,.slice x1A x1n x1c]):=κ
def qpn {x00:Bool} {x010:Bool} {x011A:Option Addr} {x011n x011c:Nat} {x02:Int}:bsV Tryz.prog 87 1 [(0,.agg #[.bool x00,.bool x010,.slice x011A x011n x011c,.int .i64 x02])]=some (46,#[.bool x00,.bool x010,.slice x011A x011n x011c,.int .i64 x02]):=κ
def qpm {x00:Bool} {x010:Bool} {x011A:Option Addr} {x011n x011c:Nat} {x02:Int} {x10:Bool} {x110:Bool} {x111A:Option Addr} {x111n x111c:Nat} {x12:Int}:bsV Tryz.prog 87 2 [(0,.agg #[.bool x00,.bool x010,.slice x011A x011n x011c,.int .i64 x02]),(1,.agg #[.bool x10,.bool x110,.slice x111A x111n x111c,.int .i64 x12])]=some (46,#[.bool x00,.bool x010,.slice x011A x011n x011c,.int .i64 x02,.bool x10,.bool x110,.slice x111A x111n x111c,.int .i64 x12]):=κ
def qje {x00:Bool} {x01A:Option Addr} {x01n x01c:Nat}:bsV Tryz.prog 113 1 [(0,.agg #[.bool x00,.slice x01A x01n x01c])]=some (42,#[.bool x00,.slice x01A x01n x01c]):=κ
def qjd {x0A:Option Addr} {x0n x0c:Nat}:bsV Tryz.prog 131 1 [(0,(.slice x0A x0n x0c))]=some (134,#[.slice x0A x0n x0c]):=κ
def qjc {x0A:Option Addr} {x0n x0c:Nat}:bsV Tryz.prog 246 1 [(0,(.slice x0A x0n x0c))]=some (270,#[.slice x0A x0n x0c]):=κ
def qjb {x000:Bool} {x001A:Option Addr} {x001n x001c:Nat} {x010:Bool} {x011A:Option Addr} {x011n x011c:Nat}:bsV Tryz.prog 270 1 [(0,.agg #[.bool x000,.slice x001A x001n x001c,.bool x010,.slice x011A x011n x011c])]=some (243,#[.bool x000,.slice x001A x001n x001c,.bool x010,.slice x011A x011n x011c]):=κ
def qwB:q0G Tryz.prog 44=true:=κ
def qwA:q0G Tryz.prog 46=true:=κ
def qvz:q0G Tryz.prog 48=true:=κ
def qvy:q0G Tryz.prog 62=true:=κ
def qvx:q0G Tryz.prog 63=true:=κ
def qvw:q0G Tryz.prog 91=true:=κ
def qvv:q0G Tryz.prog 95=true:=κ
def qgJ:q0G Tryz.prog 111=true:=κ
def qmC:q0G Tryz.prog 112=true:=κ
def qb7:q0G Tryz.prog 114=true:=κ
def qmB:q0G Tryz.prog 121=true:=κ
def qmA:q0G Tryz.prog 124=true:=κ
def qb6:q0G Tryz.prog 129=true:=κ
def qlz:q0G Tryz.prog 130=true:=κ
def qgI:q0G Tryz.prog 156=true:=κ
def qly:q0G Tryz.prog 160=true:=κ
def qlx:q0G Tryz.prog 205=true:=κ
def qlw:q0G Tryz.prog 207=true:=κ
def qlv:q0G Tryz.prog 213=true:=κ
def qlu:q0G Tryz.prog 214=true:=κ
def qlt:q0G Tryz.prog 216=true:=κ
def qgH:q0G Tryz.prog 223=true:=κ
def q5u:Tryz.prog.follows .mixedOrders=true:=κ
attribute [go_sem] agg3 agg4 agg5 agg23 agg24 agg26 agg28 agg31 agg32 agg34 agg40 agg42 agg46 agg63 agg84 agg87 qxF qxE qxD qxC qxB qxA qwz qwy qwx qpE qpD qpC
attribute [go_sem] qpB qpA qoz qoy qox qow qov qou qot qos qor qoq qop qoo qon qom qol qok qoj qoi qjK qjJ qjI qjH qjG
attribute [go_sem] qjF qjE qjD qjC qjB qjA esz22 esz23 esz24 esz39 esz40 esz84 esz87 quq qup qun qum qul quk elm22 elm23 elm24 elm39 elm40 elm84 elm87 quy qux quw
attribute [go_sem] quv quu qut zer3 zer26 zer28 zer34 zer42 zer46 zer63 qrZ qrY qrX qrW siz3 siz4 siz23 siz24 siz26 siz28 siz32 siz34 siz42 siz46 siz63 siz84 siz87 qsf qse
attribute [go_sem] qsd qsc qsb qsa qs9 und3 qrB beq4 bne4 und5 nil23 qtp qrd und32 und35 nil40 qto und57 qrf qwX qaC q74 q5i qwW qgU qaB qwV
attribute [go_sem] qgT qwU qgS qwT qqF qgR qwS qgQ q73 q8j q5w qca qqC qqB qqA qpz qpy qpx qpw qpv qpu qpt qps qpr qpq qpp qpo qpn qpm qje qjd
attribute [go_sem] qjc qjb
attribute [go_sem] qwB qwA qvz qvy qvx
attribute [go_sem] qvw qvv qgJ qmC qb7
attribute [go_sem] qmB qmA qb6 qlz qgI
attribute [go_sem] qly
attribute [go_sem] qlx qlw qlv qlu qlt qgH
attribute [go_sem] q5u
open Go.Sp
def dg (l:List Nat) (i:Nat):Nat:=l.getD i 0
def u32v (d:Nat):Value:=.int .u32 d
def U32 (w:World) (D:Nat->Prop) (A:Option Addr) (n c:Nat) (l:List Nat):Prop:=Row w D 1 A n c (l.map u32v)/\q01 l
section
variable {w w':World} {D D':Nat->Prop} {A:Option Addr} {n c:Nat} {l:List Nat}
def U32.kp (h:U32 w D A n c l) (k:Kp D w w'):U32 w' D A n c l:=⟨h.1.kp k,h.2⟩
def U32.sub (h:U32 w D A n c l) (hs:∀ k,k < w.heap.size->D k->D' k):U32 w D' A n c l:=⟨h.1.sub hs,h.2⟩
def U32.nil:U32 w D none 0 0 []:=⟨Row.nil _ _ _,q01.nil⟩
end
section
variable {w w':World} {D D':Nat->Prop} {A:Option Addr} {n c B:Nat} {l:List Nat}
end
section
variable {P:Program} {w:World} {K:Value->World->Prop}
end
end Go.Proofs.YtbjoghfmhgadkaaGreatDoor
namespace Go.E
def sgn (b:Bool) (m:Nat):Int:=if b then -(m:Int) else m
def q10 (b:Bool) (m:Nat):(sgn b m).natAbs=m:=by unfold sgn; split <;> omega
def q9W (b:Bool) (m:Nat):decide (sgn b m < 0)=(b && decide (0 < m)):=by
 unfold sgn; cases b <;> simp
def q08 (z:Int):sgn (decide (z < 0)) z.natAbs=z:=by
 unfold sgn; by_cases h:z < 0 <;> simp [h] <;> omega
end Go.E
namespace Go.Sp
open Go.E
def q4d {l:List Nat} {i:Nat} (h:l.length<=i):l.getD i 0=0:=by simp [List.getD,w8 h]
def vts (l:List Nat) (i:Nat):val (l.take (i+1))=val (l.take i)+B ^ i*l.getD i 0:=by
 rcases zN i l.length with h | h
 .exact q1a l i h
 .rw [q0E l (i+1) Oq,q0E l i h,q4d h]; simp
def q78 {o:List Nat} {i c x y A:Nat} (hl:o.length=i) (h:val o+B ^ i*c=A):val (o ++ [(c+x+y) % B])+B ^ (i+1)*((c+x+y) / B)=A+B ^ i*x+B ^ i*y:=by
 rw [q2R,hl,<- h,zD];have:=xH (c+x+y) B;have h2:B ^ i*((c+x+y) % B)+B ^ i*B*((c+x+y) / B)=B ^ i*(c+x+y):=by
  rw [zA,<- zB,this]
 rw [zB,zB] at h2;omega
def qa6 {o:List Nat} {i br x y U V t:Nat} (hl:o.length=i) (h:val o+V=U+B ^ i*br) (hbr:br<=1) (hx:x < 4294967296) (hy:y < 4294967296)
  (ht:t=((x+(18446744073709551616-br)) % 18446744073709551616+(18446744073709551616-y)) % 18446744073709551616) :
  val (o ++ [t % 4294967296])+(V+B ^ i*y)=U+B ^ i*x+B ^ (i+1)*(t / 9223372036854775808)/\t / 9223372036854775808<=1:=by
 have key:x+t / 9223372036854775808*4294967296=t % 4294967296+br+y/\t / 9223372036854775808<=1:=ω
 refine ⟨?_,key.2⟩;rw [q2R,hl,zD];have h2:B ^ i*(x+t / 9223372036854775808*4294967296)=B ^ i*(t % 4294967296+br+y):=by rw [key.1]
 rw [zB,zB,zB] at h2;have h3:B ^ i*B*(t / 9223372036854775808)=B ^ i*(t / 9223372036854775808*4294967296):=by
  rw [zA,zG B]; rfl
 omega
def q29 (x y:Nat):Int:=if x < y then -1 else if x=y then 0 else 1
def qaQ:B=2 ^ 32:=rfl
def q1z {c m k:Nat} (hc:c < 2 ^ k):c ||| m*2 ^ k=c+m*2 ^ k:=by
 rw [wY,zG,<- Nat.two_pow_add_eq_or_of_lt hc];omega
def qh7 {o:List Nat} {i c x k V:Nat} (hl:o.length=i) (h:val o+B ^ i*c=2 ^ k*V) :
  val (o ++ [(c+x*2 ^ k) % 4294967296])+B ^ (i+1)*((c+x*2 ^ k) / 4294967296)=2 ^ k*(V+B ^ i*x):=by
 have:=q78 (x:=x*2 ^ k) (y:=0) hl h;have e:B ^ i*(x*2 ^ k)=2 ^ k*(B ^ i*x):=by rw [zG x,zW]
 rw [yK,y7,yK,e,<- zB] at this;exact this
def qnQ {X k:Nat} (hk:k<=32):(X / 2 ^ k) % 4294967296=(X % 18446744073709551616 / 2 ^ k) % 4294967296:=by
 have e:18446744073709551616=2 ^ k*(2 ^ (32-k)*4294967296):=by
  rw [<- zA,<- zI,show k+(32-k)=32 by omega]
 rw [e,Nat.mod_mul_right_div_self,Nat.mod_mul_left_mod]
def q16 (l:List Nat) (i:Nat):val (l.drop i)=l.getD i 0+B*val (l.drop (i+1)):=by
 rcases zN i l.length with h | h
 .rw [xL h,val,q0p h]
 .rw [yE h,yE Oq,q4d h]; rfl
def q2S {l:List Nat} (h:q01 l) (z:Nat):val (l.drop z)=val l / B ^ z:=by
 rcases Nat.le_total z l.length with hz | hz
 .rw [q1C l z hz];have h1:=q15 (h.take z);rw [zU,yI hz] at h1;rw [yW _ _ (q4E z),yF h1,yS]
 .have h1:=q15 h;have h2:B ^ l.length<=B ^ z:=zK q0y hz;rw [yE hz,yF ω]; rfl
def q1w {l:List Nat} (h:q01 l) (z:Nat):val (l.take z)=val l % B ^ z:=by
 rcases Nat.le_total z l.length with hz | hz
 .have h1:=q15 (h.take z);rw [zU,yI hz] at h1;have:=q1C l z hz;rw [this,zZ,zF h1]
 .have h1:=q15 h;have h2:B ^ l.length<=B ^ z:=zK q0y hz;rw [vA hz,zF ω]
def qad {o l:List Nat} {j i k V:Nat} (hk:k<=32) (ha:q01 l) (hl:o.length=j) (h:val o+B ^ j*(val (l.drop i) / 2 ^ k)=V) :
  val (o ++ [(l.getD i 0+l.getD (i+1) 0*4294967296) / 2 ^ k % 4294967296])+B ^ (j+1)*(val (l.drop (i+1)) / 2 ^ k)=V:=by
 have h0:=ha.get i;have h1:=ha.get (i+1);unfold B at h0 h1;have e1:=q16 l i;have e2:=q16 l (i+1);have e3:val (l.drop i) % 18446744073709551616=l.getD i 0+l.getD (i+1) 0*4294967296:=by
  unfold B at e1 e2; omega
 have e4:val (l.drop i) / 2 ^ k / 4294967296=val (l.drop (i+1)) / 2 ^ k:=by
  rw [y8,zG,<- y8]
  congr 1
  unfold B at e1; omega
 rw [q2R,hl,<- e3,<- qnQ hk,<- e4,zD,yO,zA,<- zB];have:B*(val (l.drop i) / 2 ^ k / 4294967296)=4294967296*(val (l.drop i) / 2 ^ k / 4294967296):=rfl;rw [this,xH];exact h
def qax {l:List Nat} (ha:q01 l) (z k:Nat) (hk:k<=32):val l % 2 ^ (32*z+k)=0 ↔ (val (l.take z)=0/\l.getD z 0 % 2 ^ k=0):=by
 have e1:val l / B ^ z % 2 ^ k=l.getD z 0 % 2 ^ k:=by
  rw [<- q2S ha,q16,qaQ,show 2 ^ 32=2 ^ k*2 ^ (32-k) by rw [<- zI]; congr 1; omega,zA,zZ]
 rw [zI,wI,<- qaQ,xQ,e1,<- q1w ha];have:=q4E z
 constructor
 .intro h;have h1:val (l.take z)=0:=ω
  refine ⟨h1,?_⟩;rw [h1,yS] at h
  rcases vH.1 h with h | h
  .omega
  .exact h
 .rintro ⟨h1,h2⟩; rw [h1,h2]; simp
def qay {l:List Nat} (ha:q01 l) (z k:Nat) (h:l.length<=z):val l % 2 ^ (32*z+k)=val l:=by
 have h1:=q15 ha;have h2:B ^ l.length<=B ^ z:=zK q0y h;have h3:B ^ z<=2 ^ (32*z+k):=by rw [qaQ,<- wI]; exact zK Oq Oq
 exact zF Oq
def q3L:∀ {o:List Nat} {p:Nat} (d:Nat),p < o.length->val (o.set p d)+B ^ p*o.getD p 0=val o+B ^ p*d
 | [],p,d,h=>by simp at h
 | x :: o,0,d,_=>by simp [val]; omega
 | x :: o,p+1,d,h=>by
  have ih:=q3L (o:=o) (p:=p) d (by simpa using h);simp only [List.set_cons_succ,val,List.getD_cons_succ,zD];have e1:B ^ p*B*o.getD p 0=B*(B ^ p*o.getD p 0):=by rw [zG (B ^ p) B,zA]
  have e2:B ^ p*B*d=B*(B ^ p*d):=by rw [zG (B ^ p) B,zA]
  rw [e1,e2,yO,yO,<- zB,<- zB,ih]
def qau {o:List Nat} {p c x y V:Nat} (hp:p < o.length) (h:val o+B ^ p*c=V) :
  val (o.set p ((c+x*y+o.getD p 0) % 4294967296))+B ^ (p+1)*((c+x*y+o.getD p 0) / 4294967296)=V+B ^ p*(x*y):=by
 have h1:=q3L (o:=o) (p:=p) ((c+x*y+o.getD p 0) % 4294967296) hp;have h2:B ^ p*((c+x*y+o.getD p 0) % 4294967296)+B ^ (p+1)*((c+x*y+o.getD p 0) / 4294967296)=B ^ p*c+B ^ p*(x*y)+B ^ p*o.getD p 0:=by
  rw [zD,zA,<- zB,<- zB,<- zB]
  congr 1
  exact xH _ 4294967296
 omega
def q8M {c x y z:Nat} (hc:c < 4294967296) (hx:x < 4294967296) (hy:y < 4294967296) (hz:z < 4294967296):c+x*y+z < 18446744073709551616/\x*y < 18446744065119617026:=by
 have:x*y<=4294967295*4294967295:=Nat.mul_le_mul Oq Oq;omega
def q0o {o:List Nat} {p q d:Nat} (h:q≠p):(o.set p d).getD q 0=o.getD q 0:=by
 simp only [zP];rw [wJ (λe=>h e.symm)]
def shI (z n:Int):Int:=if 0<=n then z*2 ^ n.toNat else z / 2 ^ (-n).toNat
def qfT (v p:Nat) (hp:0 < p):(-(v:Int)) / (p:Int) = -((v / p:Nat):Int)-(if v % p≠0 then 1 else 0):=by
 have h:=zX v p;have hr:=zR v hp;have h':(p:Int)*((v / p:Nat):Int)+((v % p:Nat):Int)=(v:Int):=by
  rw [<- x8,<- Int.natCast_add,h]
 generalize v / p=q at *;generalize hrr:v % p=r at *
 by_cases h0:r=0
 .rw [if_neg (by simpa using h0)];refine ((wK (by omega:(0:Int) < p) (r:=0)).2 ⟨?_,ω,ω⟩).1;rw [Int.sub_zero,wZ]; omega
 .rw [if_pos h0];refine ((wK (by omega:(0:Int) < p) (r:=(p:Int)-r)).2 ⟨?_,ω,ω⟩).1;rw [Int.mul_sub,wZ,Int.mul_one]; omega
def q0T (k:Nat):((2 ^ k:Nat):Int)=(2:Int) ^ k:=σ
def qnV (v k:Nat):(-(v:Int)) / (2:Int) ^ k = -((v / 2 ^ k:Nat):Int)-(if v % 2 ^ k≠0 then 1 else 0):=by
 rw [<- q0T]; exact qfT v (2 ^ k) (xP Oq)
def bl (n:Nat):Nat:=if n=0 then 0 else Nat.log2 n+1
def q24 (n:Nat):n < 2 ^ bl n:=by
 unfold bl; split
 .omega
 .exact Nat.lt_log2_self
def q75 {n:Nat} (h:n≠0):2 ^ (bl n-1)<=n:=by
 unfold bl; rw [if_neg h]; exact Nat.log2_self_le h
def q06:bl 0=0:=rfl
def qgV {n k:Nat} (h1:n < 2 ^ k) (h2:k=0\/2 ^ (k-1)<=n):bl n=k:=by
 by_cases h0:n=0
 .subst h0
  rcases h2 with h2 | h2
  .rw [h2]; rfl
  .have:=xP (n:=k-1) (show 0 < 2 by omega); omega
 .have a:=q24 n;have b:=q75 h0;have c:bl n≠0:=by unfold bl; rw [if_neg h0]; omega
  have d:k≠0:=by intro e; subst e; simp at h1; omega
  have h2:=h2.resolve_left d;have e1:=(yA (a:=2) Oq).1 (z6 b h1);have e2:=(yA (a:=2) Oq).1 (z6 h2 a);omega
def qbf {n k:Nat} (h:2 ^ k<=n):bl n=k+bl (n / 2 ^ k):=by
 have hp:=xP (n:=k) (show 0 < 2 by omega);have h0:n / 2 ^ k≠0:=by have:=wF h hp; omega
 have a:=q24 (n / 2 ^ k);have b:=q75 h0;have c:bl (n / 2 ^ k)≠0:=by unfold bl; rw [if_neg h0]; omega
 refine qgV ?_ (.inr ?_)
 .rw [zI,zG];exact (y9 hp).1 a
 .rw [show k+bl (n / 2 ^ k)-1=k+(bl (n / 2 ^ k)-1) by omega,zI,zG];exact (wC hp).1 b
def q07 {m n:Nat} (h:m<=n):bl m<=bl n:=by
 by_cases h0:m=0
 .subst h0; simp [q06]
 .have a:=q75 h0;have b:=q24 n;have:=(yA (a:=2) Oq).1 (z6 (zL a h) b);omega
def q0K {n k:Nat} (h:n < 2 ^ k):bl n<=k:=by
 by_cases h0:n=0
 .subst h0; simp [q06]
 .have:=(yA (a:=2) Oq).1 (z6 (q75 h0) h);omega
def q61 {n:Nat} (h:n≠0):bl n=32*((lim n).length-1)+bl ((lim n).getD ((lim n).length-1) 0):=by
 have hp:=q0J.2 h;have h1:2 ^ (32*((lim n).length-1))=B ^ ((lim n).length-1):=by rw [qaQ,<- wI]
 have h2:n / B ^ ((lim n).length-1)=(lim n).getD ((lim n).length-1) 0:=by
  have:=q2S (q0C n) ((lim n).length-1);rw [q0D] at this;rw [<- this,q16,show (lim n).length-1+1=(lim n).length by omega,List.drop_length]; simp [val]
 rw [<- h2,<- h1];exact qbf (by rw [h1]; exact q2x h)
end Go.Sp
namespace Go.E
open Go
section
variable {P:Program} {w:World} {K:Value->World->Prop} {D:Nat->Prop}
end
end Go.E
namespace Go.Proofs.YtbjoghfmhgadkaaGreatDoor
open Go Go.E Go.Sp
def Big (w:World) (D:Nat->Prop) (s:Bool) (A:Option Addr) (n c:Nat) (z:Int):Prop:=s=decide (z < 0)/\U32 w D A n c (lim z.natAbs)
section
variable {w w':World} {D D':Nat->Prop} {A:Option Addr} {n c B:Nat} {l:List Nat} {s:Bool} {z:Int}
def Big.kp (h:Big w D s A n c z) (k:Kp D w w'):Big w' D s A n c z:=⟨h.1,h.2.kp k⟩
def Big.sub (h:Big w D s A n c z) (hs:∀ k,k < w.heap.size->D k->D' k):Big w D' s A n c z:=⟨h.1,h.2.sub hs⟩
end
end Go.Proofs.YtbjoghfmhgadkaaGreatDoor
namespace Go.E
open Go
section
variable {P:Program} {t:TypeId} {k':IntKind} {a b:Nat}
def q84 (a b:Nat):Int.fdiv (a:Int) (b:Int)=((a / b:Nat):Int):=by
 rw [Int.fdiv_eq_ediv_of_nonneg _ (Int.natCast_nonneg b)]; rfl
def qh3:q0t P .shr t (.int .u64 (a:Int)) (.int k' 32)=some (.int .u64 ((a / 4294967296:Nat):Int)):=by
 rw [q1u,if_neg ω];exact congrArg (λx=>some (Value.int .u64 x)) (q84 a 4294967296)
def qh1:q0t P .shr t (.int .u64 (a:Int)) (.int k' 63)=some (.int .u64 ((a / 9223372036854775808:Nat):Int)):=by
 rw [q1u,if_neg ω];exact congrArg (λx=>some (Value.int .u64 x)) (q84 a 9223372036854775808)
def qnS:q0t P .shr t (.int .u32 (a:Int)) (.int k' 8)=some (.int .u32 ((a / 256:Nat):Int)):=by
 rw [q1u,if_neg ω];exact congrArg (λx=>some (Value.int .u32 x)) (q84 a 256)
def qh5:q0t P .shr t (.int .u32 (a:Int)) (.int k' 16)=some (.int .u32 ((a / 65536:Nat):Int)):=by
 rw [q1u,if_neg ω];exact congrArg (λx=>some (Value.int .u32 x)) (q84 a 65536)
def qh4:q0t P .shr t (.int .u32 (a:Int)) (.int k' 27)=some (.int .u32 ((a / 134217728:Nat):Int)):=by
 rw [q1u,if_neg ω];exact congrArg (λx=>some (Value.int .u32 x)) (q84 a 134217728)
def w32N:IntKind.u32.wrap (a:Int)=((a % 4294967296:Nat):Int):=by rw [q2T]; omega
def qxG (h:a+b < 18446744073709551616):IntKind.u64.wrap ((a:Int)+(b:Int))=((a+b:Nat):Int):=by rw [q0v]; omega
def q4Z (hb:b < 18446744073709551616):IntKind.u64.wrap ((a:Int)-(b:Int))=(((a+(18446744073709551616-b)) % 18446744073709551616:Nat):Int):=by rw [q0v]; omega
def id64N (h:a < 18446744073709551616):IntKind.u64.wrap (a:Int)=(a:Int):=by rw [q0v]; omega
def qtv (h:a*b < 18446744073709551616):IntKind.u64.wrap ((a:Int)*(b:Int))=((a*b:Nat):Int):=by rw [q0v,<- x8]; omega
def i64N (h:a < 9223372036854775808):IntKind.i64.wrap (a:Int)=(a:Int):=by rw [qi2]; omega
end
def q3u {n x:Nat}:(BitVec.ofInt n (x:Int))=BitVec.ofNat n x:=σ
def qcO {a b:Nat} (ha:a < 18446744073709551616) (hb:b < 18446744073709551616):q0k .or .u64 (a:Int) (b:Int)=((a ||| b:Nat):Int):=by
 have h:a ||| b < 2 ^ 64:=Nat.or_lt_two_pow ha hb;have h2:(BitVec.ofInt 64 (a:Int) ||| BitVec.ofInt 64 (b:Int)).toNat=a ||| b:=by
  rw [q3u,q3u,BitVec.toNat_or,BitVec.toNat_ofNat,BitVec.toNat_ofNat,zF ha,zF hb]
 show IntKind.u64.wrap ((BitVec.ofInt 64 (a:Int) ||| BitVec.ofInt 64 (b:Int)).toNat:Int)=_
 rw [h2,q0v]; omega
def or32N {a b:Nat} (ha:a < 4294967296) (hb:b < 4294967296):q0k .or .u32 (a:Int) (b:Int)=((a ||| b:Nat):Int):=by
 have h:a ||| b < 2 ^ 32:=Nat.or_lt_two_pow ha hb;have h2:(BitVec.ofInt 32 (a:Int) ||| BitVec.ofInt 32 (b:Int)).toNat=a ||| b:=by
  rw [q3u,q3u,BitVec.toNat_or,BitVec.toNat_ofNat,BitVec.toNat_ofNat,zF ha,zF hb]
 show IntKind.u32.wrap ((BitVec.ofInt 32 (a:Int) ||| BitVec.ofInt 32 (b:Int)).toNat:Int)=_
 rw [h2,q2T]; omega
def q3z {a b:Nat} (ha:a < 18446744073709551616) (hb:b < 18446744073709551616):q0k .and .u64 (a:Int) (b:Int)=((a &&& b:Nat):Int):=by
 have h:a &&& b < 2 ^ 64:=Nat.and_lt_two_pow a hb;have h2:(BitVec.ofInt 64 (a:Int) &&& BitVec.ofInt 64 (b:Int)).toNat=a &&& b:=by
  rw [q3u,q3u,BitVec.toNat_and,BitVec.toNat_ofNat,BitVec.toNat_ofNat,zF ha,zF hb]
 show IntKind.u64.wrap ((BitVec.ofInt 64 (a:Int) &&& BitVec.ofInt 64 (b:Int)).toNat:Int)=_
 rw [h2,q0v]; omega
def qbn {a b:Nat} (ha:a < 4294967296) (hb:b < 4294967296):q0k .and .u32 (a:Int) (b:Int)=((a &&& b:Nat):Int):=by
 have h:a &&& b < 2 ^ 32:=Nat.and_lt_two_pow a hb;have h2:(BitVec.ofInt 32 (a:Int) &&& BitVec.ofInt 32 (b:Int)).toNat=a &&& b:=by
  rw [q3u,q3u,BitVec.toNat_and,BitVec.toNat_ofNat,BitVec.toNat_ofNat,zF ha,zF hb]
 show IntKind.u32.wrap ((BitVec.ofInt 32 (a:Int) &&& BitVec.ofInt 32 (b:Int)).toNat:Int)=_
 rw [h2,q2T]; omega
section
variable {P:Program} {t:TypeId} {k':IntKind} {a b:Nat}
def qdi (hb:b<=64):q0t P .shl t (.int .u64 (a:Int)) (.int k' (b:Int))=some (.int .u64 ((a*2 ^ b % 18446744073709551616:Nat):Int)):=by
 rw [qaF,if_neg ω];have:min (b:Int).toNat IntKind.u64.bits=b:=by simp [IntKind.bits]; omega
 rw [this,q0v]
 congr 2
def qkk (hb:b<=32):q0t P .shl t (.int .u32 (a:Int)) (.int k' (b:Int))=some (.int .u32 ((a*2 ^ b % 4294967296:Nat):Int)):=by
 rw [qaF,if_neg ω];have:min (b:Int).toNat IntKind.u32.bits=b:=by simp [IntKind.bits]; omega
 rw [this,q2T]
 congr 2
def qsh (hb:b<=64):q0t P .shr t (.int .u64 (a:Int)) (.int k' (b:Int))=some (.int .u64 ((a / 2 ^ b:Nat):Int)):=by
 rw [q1u,if_neg ω];have:min (b:Int).toNat IntKind.u64.bits=b:=by simp [IntKind.bits]; omega
 rw [this];have:=q84 a (2 ^ b);rw [<- this]; simp
def qt0 (h:a < 9223372036854775808):q0t P .quo t (.int .i64 (a:Int)) (.int .i64 32)=some (.int .i64 ((a / 32:Nat):Int)):=by
 rw [qgY,if_neg ω];have:Int.tdiv (a:Int) 32=((a / 32:Nat):Int):=rfl;rw [this,i64_in Oq ω]
def qtO:q0t P .rem t (.int .i64 (a:Int)) (.int .i64 32)=some (.int .i64 ((a % 32:Nat):Int)):=by
 rw [qgX,if_neg ω]; rfl
end
section
variable {P:Program} {t:TypeId} {k':IntKind} {a b:Nat}
def qh8:q0t P .shl t (.int .u64 (a:Int)) (.int k' 32)=some (.int .u64 ((a*4294967296 % 18446744073709551616:Nat):Int)):=qdi (b:=32) Oq
def qnT (hb:b < 32):q0t P .shl t (.int .u32 1) (.int k' (b:Int))=some (.int .u32 ((2 ^ b:Nat):Int)):=by
 have:=qkk (P:=P) (t:=t) (k':=k') (a:=1) (b:=b) Oq;rw [zY,zF (show 2 ^ b < 4294967296 from wL Oq hb)] at this;exact this
def qd6 (h:0 < a) (h2:a < 4294967296):IntKind.u32.wrap ((a:Int)-1)=((a-1:Nat):Int):=by rw [q2T]; omega
end
attribute [go_sem high] qh8 qnT qcO or32N q3z qbn qdi qkk qsh qt0 qtO
def beqN {a b:Nat}:((a:Int) == (b:Int))=decide (a=b):=by rw [Bool.eq_iff_iff,beq_iff_eq,decide_eq_true_eq]; omega
def bneN {a b:Nat}:((a:Int) != (b:Int))=decide (a≠b):=by rw [Bool.eq_iff_iff,bne_iff_ne,decide_eq_true_eq]; omega
def bne0 {a:Nat}:((a:Int) != 0)=decide (a≠0):=bneN (b:=0)
def beq0 {a:Nat}:((a:Int) == 0)=decide (a=0):=beqN (b:=0)
def qlT {k:IntKind} {a b:Int}:mmV true [.int k a,.int k b]=some (.int k (max a b)):=by simp [mmV]
def qlS {k:IntKind} {a b:Int}:mmV false [.int k a,.int k b]=some (.int k (min a b)):=by simp [mmV]
attribute [go_sem high] qlT qlS
attribute [go_sem high] qnS qh5 qh4 qh3 qh1 w32N qxG qtv id64N
end Go.E
namespace Go.Proofs.YtbjoghfmhgadkaaGreatDoor
open Go Go.E Go.Sp




def qdl (s s':Bool) (a b:Nat):sgn s a*sgn s' b=sgn (s != s') (a*b):=by
 cases s <;> cases s' <;> simp [sgn,wM,wZ]
end Go.Proofs.YtbjoghfmhgadkaaGreatDoor
namespace Go.E
open Go
def qby {P:Program} {d:Option Nat} {t ty:TypeId} {x i:Operand} {pos:String} {af:Array Edge} {g:Option (Nat × Bool)} {e:Env} {w:World} {K:Value->World->Prop} {s:ByteArray} {k:IntKind} {n:Nat}
  (ht:P.underlying t=some .string) (hx:ev e x=.string s) (hi:ev e i=.int k n) (hn:n < s.size) (hK:K (.int .u8 s[n].toNat) w):wo P ⟨d,.index t x i,ty,pos,af,g⟩ e w K:=by
 show WO P ⟨d,.index t x i,ty,pos,af,g⟩ e w K
 unfold WO;have:(execOp (ev e) ⟨d,.index t x i,ty,pos,af,g⟩).run P w=(.ok (.value (.int .u8 s[n].toNat)) w):=by
  simp only [execOp,hx,hi];simp [go_sem,run_index_string,ht,hn]
 rw [this];exact hK
end Go.E
namespace Go.Proofs.YtbjoghfmhgadkaaGreatDoor
open Go Go.E Go.Sp
def qrK:ByteArray:=⟨(((List.range 256).map λi=>UInt8.ofNat (bl i))).toArray⟩
def q8U:qrK.size=256:=κ
def qiL:((List.range 256).all λi=>wP ((qrK.data.toList.getD i 0).toNat) (bl i))=true:=κ
def qiK {y:Nat} (h:y < qrK.size):qrK[y].toNat=bl y:=by
 have h1:=qiL;rw [yY] at h1;have h2:=yU (h1 y (wG.2 (by rw [q8U] at h; exact h)));rw [<- h2]
 congr 1
 have:y < qrK.data.toList.length:=by simpa using h
 rw [zP,zC this];simp
 rfl
def qbA {x:Nat} {w:World} (hx:x < 4294967296) :
  Calls Tryz.prog 216 #[.int .u32 x] w λe w'=>e=.returned (.int .i64 (bl x:Nat))/\w=w':=by
 refine q5h Tryz.func216 rfl Tryz.ntmps216 κ ?_;refine Wz ?_;refine qaK λK1 hK1=>?_;have st1:∀ (e1:Env) (a y:Nat),y < 65536->a+bl y=bl x->a<=16->e1 0=.int .u32 y->e1 2=.int .i64 a->K1 e1 w:=by
  intro e1 a y hy hab ha h0 h2;refine hK1 _ _ ?_; clear hK1;refine qaK λK1 hK1=>?_;have st2:∀ (e1:Env) (a y:Nat),y < 256->a+bl y=bl x->a<=24->e1 0=.int .u32 y->e1 2=.int .i64 a->K1 e1 w:=by
   intro e1 a y hy hab ha h0 h2;refine hK1 _ _ ?_; clear hK1;have hw:IntKind.u8.wrap (y:Int)=(y:Int):=u8_in Oq Oq;refine q1F λK hK=>?_
   set_option maxRecDepth 4000 in
   refine Zz3 h0 h2 hw ?_;refine qby (s:=qrK) κ κ rfl (by rw [q8U]; exact hy) ?_;rw [qiK];have hby:bl y<=8:=q0K Oq;have hs:IntKind.i64.wrap ((a:Int)+(bl y:Int))=(bl x:Int):=by rw [i64_in Oq ω]; omega
   simp -implicitDefEqProofs (disch:=omega) only [go_sem,Nat.reduceEqDiff,Nat.reduceAdd,↓reduceIte,i64N,hs];refine hK _ _ ?_; clear hK;refine qkB ?_
   try simp only [q9N,qoV]
   refine ret1 rfl ⟨rfl,rfl⟩
  by_cases hb:256<=y
  .have hb':((y:Int) ≥ 256):=ω
   refine Wz2 h0 hb' ?_;refine Wt ?_;refine Wz1 h0 ?_;refine qmM λK9 hK9=>?_;refine Zz2 h2 @i64_in ?_;refine hK9 _ _ ?_; clear hK9 K9;have h8:bl y=8+bl (y / 256):=qbf (n:=y) (k:=8) hb;exact st2 _ (a+8) (y / 256) Oq Oq Oq Ue Ue
  .have hb':¬ ((y:Int) ≥ 256):=ω
   refine Wz2 h0 hb' ?_;refine Wf (qbq ?_);exact st2 _ a y Oq hab Oq Ue Ue
 by_cases hb:65536<=x
 .have hb':((x:Int) ≥ 65536):=ω
  refine Wz1 hb' ?_;refine Wt ?_;refine Wz ?_;refine qmM λK9 hK9=>?_;refine Zz ?_;refine hK9 _ _ ?_; clear hK9 K9;have h8:bl x=16+bl (x / 65536):=qbf (n:=x) (k:=16) hb;exact st1 _ 16 (x / 65536) Oq Oq Oq Ue Ue
 .have hb':¬ ((x:Int) ≥ 65536):=ω
  refine Wz1 hb' ?_;refine Wf (qbq ?_);exact st1 _ 0 x Oq Oq Oq Ue Ue


end Go.Proofs.YtbjoghfmhgadkaaGreatDoor
namespace Go.Sp
open Go.E
def q0F (k:Nat):0 < 2 ^ k:=xP Oq
def tzF:Nat->Nat->Nat
 | 0,_=>0
 | f+1,n=>if n % 2=1 then 0 else tzF f (n / 2)+1
def tz (n:Nat):Nat:=if n=0 then 0 else tzF n n
def qa0:∀ (f n:Nat),n≠0->n<=f->∃ q,q % 2=1/\n=q*2 ^ tzF f n
 | 0,n,h,hf=>by omega
 | f+1,n,h,hf=>by
  unfold tzF
  by_cases ho:n % 2=1
  .rw [if_pos ho]; exact ⟨n,ho,σ⟩
  .rw [if_neg ho];obtain ⟨q,hq,he⟩:=qa0 f (n / 2) Oq Oq;refine ⟨q,hq,?_⟩;rw [zD,<- zA,<- he]; omega
def q2b {n:Nat} (h:n≠0):∃ q,q % 2=1/\n=q*2 ^ tz n:=by
 unfold tz; rw [if_neg h]; exact qa0 n n h (yB _)
def qas:∀ {a b q r:Nat},q % 2=1->r % 2=1->q*2 ^ a=r*2 ^ b->a=b
 | 0,0,_,_,_,_,_=>rfl
 | 0,b+1,q,r,hq,hr,h=>by
  rw [zD,<- zA,yL,vE] at h;generalize r*2 ^ b=x at h; omega
 | a+1,0,q,r,hq,hr,h=>by
  rw [zD,<- zA,yL,vE] at h;generalize q*2 ^ a=x at h; omega
 | a+1,b+1,q,r,hq,hr,h=>by
  rw [zD,zD,<- zA,<- zA] at h;have:=qas hq hr (xJ Oq h);omega
def q6c {n q k:Nat} (hq:q % 2=1) (h:n=q*2 ^ k):tz n=k:=by
 have h0:n≠0:=by
  rintro rfl;have:=q0F k
  rcases vH.1 h.symm with h | h <;> omega
 obtain ⟨r,hr,he⟩:=q2b h0;exact qas hr hq (he.symm.trans h)
def qaZ {n:Nat} (h:n % 2=1):tz n=0:=q6c h σ
def qkQ {n:Nat} (h:n≠0) (k:Nat):tz (n*2 ^ k)=tz n+k:=by
 obtain ⟨q,hq,he⟩:=q2b h;refine q6c hq ?_;rw [zI,<- zA,<- he]
def q3w {n:Nat} (h:n≠0):0 < bl n:=by unfold bl; rw [if_neg h]; omega
def q1D {n:Nat} (h:n≠0) (k:Nat):bl (n*2 ^ k)=bl n+k:=by
 have a:=q24 n;have b:=q75 h;have c:=q3w h;refine qgV ?_ (.inr ?_)
 .rw [zI]; exact Nat.mul_lt_mul_of_pos_right a (q0F k)
 .rw [show bl n+k-1=(bl n-1)+k by omega,zI]; exact zJ _ b
def q1W (a b:Nat):bl (a*b)<=bl a+bl b:=by
 refine q0K ?_;rw [zI];exact Nat.mul_lt_mul_of_lt_of_le (q24 a) (yZ (q24 b)) (q0F _)
def q2o {a b k:Nat} (ha:bl a<=k) (hb:bl b<=k):bl (a+b)<=k+1:=by
 refine q0K ?_;have h1:=q24 a;have h2:=q24 b;have h3:2 ^ bl a<=2 ^ k:=zK Oq ha;have h4:2 ^ bl b<=2 ^ k:=zK Oq hb;rw [zD]; omega
def q17 {n k:Nat} (h:bl n<=k):n < 2 ^ k:=z7 (q24 n) (zK Oq h)
def q8k {n k:Nat}:bl n<=k ↔ n < 2 ^ k:=⟨q17,q0K⟩
def qhM {n:Nat} (h:n≠0):tz n < bl n:=by
 obtain ⟨q,hq,he⟩:=q2b h;have h1:bl n=bl q+tz n:=by
  have:=q1D (n:=q) Oq (tz n)
  rwa [<- he] at this
 have:=q3w (n:=q) Oq;omega
def q8T (n:Nat):(lim n).length=(bl n+31) / 32:=by
 by_cases h:n=0
 .subst h; rfl
 .have h1:=q61 h;have h2:=q3g h;have h3:=(q0C n).get ((lim n).length-1);have h4:=q3w h2;have h5:bl ((lim n).getD ((lim n).length-1) 0)<=32:=q0K h3;have h6:=q0J.2 h;omega
def q6d {x:Nat} (h:x≠0) (hx:x < 4294967296):tz x < 32:=by
 have:=qhM h;have:bl x<=32:=q0K hx;omega
def qkP {l:List Nat} {i:Nat} (ha:q01 l) (hi:i < l.length) (h0:val (l.take i)=0) (hd:l.getD i 0≠0):tz (val l)=32*i+tz (l.getD i 0):=by
 have h1:=q1C l i Oq;rw [h0,yS,q16] at h1;obtain ⟨q,hq,he⟩:=q2b hd;have hk:=q6d hd (ha.get i);refine q6c (q:=q+2 ^ (32-tz (l.getD i 0))*val (l.drop (i+1))) ?_ ?_
 .rw [show 32-tz (l.getD i 0)=(31-tz (l.getD i 0))+1 by omega,zD,zG (2 ^ _) 2,zA];omega
 .rw [h1];have e1:B ^ i=2 ^ (32*i):=by rw [qaQ,<- wI]
  have e2:B=2 ^ (32-tz (l.getD i 0))*2 ^ tz (l.getD i 0):=by rw [<- zI,qaQ]; congr 1; omega
  rw [e1,zI,yM];generalize val (l.drop (i+1))=X;generalize hk':tz (l.getD i 0)=k at *;rw [he,e2];generalize 2 ^ (32-k)=Y;generalize 2 ^ k=Z;generalize 2 ^ (32*i)=U;simp only [zB,zW,zG]
def q4Y {l:List Nat} {i:Nat}:(val (l.take (i+1))=0) ↔ (val (l.take i)=0/\l.getD i 0=0):=by
 have hB:=q4E i;have hv:val (l.take (i+1))=val (l.take i)+B ^ i*l.getD i 0:=by
  rcases zN i l.length with h | h
  .exact q1a l i h
  .rw [q0E l (i+1) Oq,q0E l i h,q4d h]; simp
 rw [hv,wQ,vH]
 constructor
 .rintro ⟨a,b⟩; exact ⟨a,ω⟩
 .rintro ⟨a,b⟩; exact ⟨a,.inr b⟩
def od (m:Int):Int:=m / (2:Int) ^ tz m.natAbs
def q0N (k:Nat):0 < (2:Int) ^ k:=by rw [<- q0T]; exact_mod_cast q0F k
def natAbs_pow (k:Nat):((2:Int) ^ k).natAbs=2 ^ k:=by rw [<- q0T]; rfl
def q0H (m:Int) (k:Nat):(m*(2:Int) ^ k).natAbs=m.natAbs*2 ^ k:=by rw [Int.natAbs_mul,natAbs_pow]
def q1J (m:Int):od m*(2:Int) ^ tz m.natAbs=m:=by
 unfold od
 by_cases h:m=0
 .subst h; simp
 .obtain ⟨q,hq,he⟩:=q2b (n:=m.natAbs) Oq;refine Int.ediv_mul_cancel ?_;rw [<- q0T];exact Int.ofNat_dvd_left.2 ⟨q,by rw [zG]; exact he⟩
def q1l:od 0=0:=by simp [od]
def q3f {m:Int} (h:m≠0):od m≠0:=λh0=>h (by rw [<- q1J m,h0]; simp)
def q6R (m:Int):(od m).natAbs*2 ^ tz m.natAbs=m.natAbs:=by
 rw [<- q0H,q1J]
def qat {m:Int} (h:m≠0):(od m).natAbs % 2=1:=by
 obtain ⟨q,hq,he⟩:=q2b (n:=m.natAbs) Oq;have:=xJ (q0F _) ((q6R m).trans he);rw [this]; exact hq
def qhx {m o:Int} {k:Nat} (ho:o.natAbs % 2=1) (h:m=o*(2:Int) ^ k):od m=o/\tz m.natAbs=k:=by
 have h1:tz m.natAbs=k:=q6c ho (by rw [h,q0H]);refine ⟨?_,h1⟩;unfold od;rw [h1,h,wR _ (xZ (q0N k))]
def qhw {m:Int} (k:Nat):od (m*(2:Int) ^ k)=od m:=by
 by_cases h:m=0
 .subst h; simp
 .refine (qhx (k:=tz m.natAbs+k) (qat h) ?_).1;rw [wN,<- xT,q1J]
def q2Z (m:Int):decide (od m < 0)=decide (m < 0):=by
 have h1:=q1J m;have h2:=q0N (tz m.natAbs);rw [decide_eq_decide]
 constructor
 .intro h; rw [<- h1]; exact xM h h2
 .intro h
  rcases Int.lt_or_le (od m) 0 with h3 | h3
  .exact h3
  .have:=Int.mul_nonneg h3 (Int.le_of_lt h2);omega
def qaD {m:Int} (h:m≠0):bl (od m).natAbs+tz m.natAbs=bl m.natAbs:=by
 have:=q1D (n:=(od m).natAbs) (by have:=q3f h; omega) (tz m.natAbs);rw [q6R] at this;exact this.symm
def q8C (a:Int) (k:Nat):shI (a*(2:Int) ^ k) (-(k:Int))=a:=by
 unfold shI
 split
 .rename_i h0;have:k=0:=ω
  subst this; simp
 .rw [show (- -(k:Int)).toNat=k by omega];exact wR _ (xZ (q0N k))
def qsj (m:Int):shI (m.natAbs:Int) (-((tz m.natAbs:Nat):Int))=((od m).natAbs:Nat):=by
 have h1:=q6R m;generalize tz m.natAbs=k at *;rw [<- h1,x8,q0T,q8C]
def qnU (m:Int):shI m (-((tz m.natAbs:Nat):Int))=od m:=by
 have h1:=q1J m;generalize tz m.natAbs=k at *;generalize od m=q at *;rw [<- h1,q8C]
def dyE (V:Int):Int:=if V=0 then 0 else (tz V.natAbs:Int)-65536
def q0Y (V:Int):Prop:=bl V.natAbs<=131072
def mkV (m e:Int):Option Int:=if m=0 then some 0 else if -65536<=e+tz m.natAbs/\e+bl m.natAbs<=65536 then some (od m*(2:Int) ^ (e+tz m.natAbs+65536).toNat) else none
def q1e (e:Int):mkV 0 e=some 0:=by simp [mkV]
def q4o {m e V:Int} (hm:m≠0) (h:mkV m e=some V) : -65536<=e+tz m.natAbs/\e+bl m.natAbs<=65536/\V=od m*(2:Int) ^ (e+tz m.natAbs+65536).toNat:=by
 unfold mkV at h;rw [if_neg hm] at h
 split at h
 .rename_i hc; exact ⟨hc.1,hc.2,(zH.inj h).symm⟩
 .cases h
def q50 {m e V:Int} (h:mkV m e=some V):od V=od m/\(m≠0->V≠0/\dyE V=e+tz m.natAbs)/\(m=0->V=0)/\q0Y V:=by
 by_cases hm:m=0
 .subst hm;rw [q1e] at h;obtain rfl:=zH.inj h;exact ⟨rfl,λh=>absurd rfl h,λ_=>rfl,by simp [q0Y,q06]⟩
 .obtain ⟨h1,h2,h3⟩:=q4o hm h;obtain ⟨h4,h5⟩:=qhx (qat hm) h3;have h6:V≠0:=λh0=>by
   rw [h0,q1l] at h4; exact q3f hm h4.symm
  refine ⟨h4,λ_=>⟨h6,?_⟩,λh=>absurd h hm,?_⟩
  .unfold dyE; rw [if_neg h6,h5]; omega
  .unfold q0Y;have h7:=qaD h6;have h8:=qaD hm;rw [h4,h5] at h7;omega
def q1U {m e:Int} (k:Nat):mkV (m*(2:Int) ^ k) e=mkV m (e+k):=by
 by_cases hm:m=0
 .subst hm; simp [mkV]
 .have hm':m*(2:Int) ^ k≠0:=Int.mul_ne_zero hm (xZ (q0N k));unfold mkV;rw [if_neg hm,if_neg hm',q0H,qkQ Oq,q1D Oq,qhw];have e1:e+((tz m.natAbs+k:Nat):Int)=e+k+tz m.natAbs:=ω
  have e2:e+((bl m.natAbs+k:Nat):Int)=e+k+bl m.natAbs:=ω
  rw [e1,e2]
def q1f {V:Int} (h:q0Y V):mkV V (-65536)=some V:=by
 by_cases h0:V=0
 .subst h0; exact q1e _
 .unfold mkV q0Y at *;rw [if_neg h0,if_pos ω];rw [show (-65536+(tz V.natAbs:Int)+65536).toNat=tz V.natAbs by omega,q1J]
def qav {V:Int} (h:q0Y V):mkV (od V) (dyE V)=some V:=by
 by_cases h0:V=0
 .subst h0; rw [q1l]; exact q1e _
 .have h1:=q1U (m:=od V) (e := -65536) (tz V.natAbs);rw [q1J,q1f h] at h1;unfold dyE;rw [if_neg h0,h1,Int.add_comm]; rfl
def q20 {V E:Int} (hE : -65536<=E) (hv:E<=dyE V):od V*(2:Int) ^ (dyE V-E).toNat*(2:Int) ^ (E+65536).toNat=V:=by
 by_cases h0:V=0
 .subst h0; rw [q1l]; simp
 .unfold dyE at *;rw [if_neg h0] at *;rw [xT,<- wN,show ((tz V.natAbs:Int)-65536-E).toNat+(E+65536).toNat=tz V.natAbs by omega,q1J]
def q4p {m V E:Int} (hE : -65536<=E) (h:m*(2:Int) ^ (E+65536).toNat=V):mkV m E=mkV V (-65536):=by
 rw [<- h,q1U]; congr 1; omega
def q8b {V:Int} : -65536<=dyE V:=by unfold dyE; split <;> omega
def q6W {V:Int} (h:q0Y V):dyE V+bl (od V).natAbs<=65536:=by
 unfold dyE q0Y at *
 split
 .rename_i h0; subst h0; rw [q1l]; simp [q06]
 .rename_i h0; have:=qaD h0; omega
def q22 {V:Int} (h:q0Y V):bl (od V).natAbs<=131072:=by
 by_cases h0:V=0
 .subst h0; rw [q1l]; simp [q06]
 .have:=qaD h0; unfold q0Y at h; omega
def qeY (V:Int):od (-V) = -od V:=by
 by_cases h0:V=0
 .subst h0; simp [q1l]
 .refine (qhx (k:=tz V.natAbs) (by rw [wD]; exact qat h0) ?_).1;rw [wM,q1J]
def q9p (V:Int):dyE (-V)=dyE V:=by unfold dyE; simp [Int.neg_eq_zero]
def qjV {V:Int} (h:q0Y V):q0Y (-V):=by unfold q0Y at *; rwa [wD]
def qef (a b:Int):mkV (od a*od b) (dyE a+dyE b)=mkV (a*b) (-131072):=by
 by_cases ha:a=0
 .subst ha; rw [q1l]; simp [mkV]
 .by_cases hb:b=0
  .subst hb; rw [q1l]; simp [mkV]
  .have:a*b=od a*od b*(2:Int) ^ (tz a.natAbs+tz b.natAbs):=by
    rw [wN];have h1:=q1J a;have h2:=q1J b;generalize (2:Int) ^ tz a.natAbs=x at *;generalize (2:Int) ^ tz b.natAbs=y at *;generalize od a=p at *;generalize od b=q at *;rw [<- h1,<- h2];simp only [xT,Int.mul_left_comm,Int.mul_comm]
   rw [this,q1U];unfold dyE;rw [if_neg ha,if_neg hb]; congr 1; omega
def rq (mode:Int) (neg:Bool) (N D:Nat):Nat :=
 if N % D=0 then N / D
 else if mode=1 then (if neg then N / D+1 else N / D)
 else if mode=2 then (if neg then N / D else N / D+1)
 else if mode=3 then N / D
 else if D < 2*(N % D)\/(2*(N % D)=D/\N / D % 2=1) then N / D+1 else N / D
def lgq (N D:Nat):Int:=(bl (N*2 ^ bl D / D):Int)-1-bl D
def rat (mode:Int) (neg:Bool) (N D:Nat) (q:Int):Nat:=rq mode neg (N*2 ^ (-q).toNat) (D*2 ^ q.toNat)
def sb (neg:Bool) (x:Nat):Nat:=if neg then x+9223372036854775808 else x
def q7E (mode:Int) (neg:Bool):Nat:=if mode=3\/(mode=1/\neg=false)\/(mode=2/\neg=true) then sb neg 9218868437227405311 else sb neg 9218868437227405312
def q4S (mode:Int) (neg:Bool) (n:Nat) (q:Int):Nat :=
 if n < 4503599627370496 then sb neg n else if 2047<=q+1075 then q7E mode neg else sb neg ((q+1075).toNat*4503599627370496+(n-4503599627370496))
def fin (mode:Int) (neg:Bool) (n:Nat) (q:Int):Nat:=if n=9007199254740992 then q4S mode neg 4503599627370496 (q+1) else q4S mode neg n q
def qer (N D:Nat):Int:=max (lgq N D-52) (-1074)
def rF (mode:Int) (neg:Bool) (N D:Nat):Nat:=fin mode neg (rat mode neg N D (qer N D)) (qer N D)
def ofF (f:Nat):Option Int :=
 if f / 4503599627370496 % 2048=2047 then none
 else if f / 4503599627370496 % 2048=0 then some (sgn (decide (9223372036854775808<=f)) (f % 4503599627370496)*(2:Int) ^ 64462)
 else some (sgn (decide (9223372036854775808<=f)) (4503599627370496+f % 4503599627370496)*(2:Int) ^ (64461+f / 4503599627370496 % 2048))
def qwY {q b:Nat} (hq:q≠0) (hb:b < 2):bl (2*q+b)=bl q+1:=by
 have:=qbf (n:=2*q+b) (k:=1) Oq;rw [this,show (2*q+b) / 2 ^ 1=q by omega]; omega
def qoP {N D:Nat} (hD:0 < D) (h:D<=N):bl (N*2 / D)=bl (N / D)+1:=by
 have h1:=zX N D;have h2:=zR N hD;have h3:N / D≠0:=by have:=wF h hD; omega
 have h4:N*2 / D=2*(N / D)+2*(N % D) / D:=by
  have e:N*2=2*(N % D)+D*(2*(N / D)):=by
   have:D*(2*(N / D))=2*(D*(N / D)):=by rw [zW]
   omega
  rw [e,yW _ _ hD]; omega
 rw [h4];refine qwY h3 ?_;rw [y9 hD]; omega
def qcS {N D:Nat} (hD:0 < D) (h:D<=N):∀ k,bl (N*2 ^ k / D)=bl (N / D)+k
 | 0=>by simp
 | k+1=>by
  have h2:D<=N*2 ^ k:=zL h (vI _ (q0F k));rw [zD,<- zA,qoP hD h2,qcS hD h k]; omega
def qeq {N D k:Nat} (hD:0 < D) (h:D<=N*2 ^ k):lgq N D=(bl (N*2 ^ k / D):Int)-1-k:=by
 have hN:N≠0:=by rintro rfl; simp at h; omega
 have h1:D<=N*2 ^ bl D:=zL (yZ (q24 D)) (vJ _ Oq);have a:=qcS hD h (bl D);have b:=qcS hD h1 k;rw [zA,<- zI] at a b;rw [vM k] at a;unfold lgq; omega
def qep {N D c:Nat} (hN:0 < N) (hD:0 < D) (hc:0 < c):lgq (N*c) (D*c)=lgq N D:=by
 have h1:D<=N*2 ^ bl D:=zL (yZ (q24 D)) (vJ _ hN);have h2:D*c<=N*c*2 ^ bl D:=by rw [z9]; exact zJ _ h1
 rw [qeq (zV hD hc) h2,qeq hD h1,z9,xA _ _ hc]
def q38 {mode:Int} {neg:Bool} {N D c:Nat} (hc:0 < c):rq mode neg (N*c) (D*c)=rq mode neg N D:=by
 have e1:(N*c % (D*c)=0)=(N % D=0):=by
  rw [xB,vH]; simp only [eq_iff_iff]; constructor
  .rintro (h | h) <;> omega
  .exact λh=>.inl h
 have e2:(D*c < 2*(N*c % (D*c)))=(D < 2*(N % D)):=by
  rw [xB,<- zA]; simp only [eq_iff_iff];exact Nat.mul_lt_mul_right hc
 have e3:(2*(N*c % (D*c))=D*c)=(2*(N % D)=D):=by
  rw [xB,<- zA]; simp only [eq_iff_iff];exact Nat.mul_left_inj Oq
 unfold rq;simp only [e1,e2,e3,xA _ _ hc]
def q3d {mode:Int} {neg:Bool} {N D c:Nat} (hN:0 < N) (hD:0 < D) (hc:0 < c):rF mode neg (N*c) (D*c)=rF mode neg N D:=by
 unfold rF rat qer;rw [qep hN hD hc,z9 N c,z9 D c,q38 hc]
def q6z {mode:Int} {neg:Bool} {N D N' D':Nat} (hN:0 < N) (hD:0 < D) (hN':0 < N') (hD':0 < D') (h:N*D'=N'*D):rF mode neg N D=rF mode neg N' D':=by
 rw [<- q3d (c:=D') hN hD hD',h,zG D D',q3d hN' hD' hD]
def quD {N D:Nat} (e:Int) (hD:0 < D) (h:D≤N):lgq (N*2 ^ e.toNat) (D*2 ^ (-e).toNat)=e+bl (N / D)-1:=by
 have h1:D*2 ^ (-e).toNat≤N*2 ^ e.toNat*2 ^ (-e).toNat:=Nat.mul_le_mul_right _ (Nat.le_trans h (Nat.le_mul_of_pos_right _ (q0F _)));rw [qeq (Nat.mul_pos hD (q0F _)) h1,Nat.mul_div_mul_right _ _ (q0F _),qcS hD h];omega
def qna {mode:Int} {neg:Bool} {N D:Nat} (e q:Int):rat mode neg (N*2 ^ e.toNat) (D*2 ^ (-e).toNat) q=rq mode neg (N*2 ^ (e-q).toNat) (D*2 ^ (q-e).toNat):=by
 unfold rat;rw [zA,zA,<- zI,<- zI]
 rcases wW q e with h | h
 .have e1:e.toNat+(-q).toNat=(e-q).toNat+((-e).toNat+q.toNat):=ω
  have e2:(q-e).toNat=0:=ω
  rw [e1,e2,yL,vE,zI 2 (e-q).toNat,<- zA];exact q38 (q0F _)
 .have e1:(-e).toNat+q.toNat=(q-e).toNat+(e.toNat+(-q).toNat):=ω
  have e2:(e-q).toNat=0:=ω
  rw [e1,e2,yL,vE,zI 2 (q-e).toNat,<- zA];exact q38 (q0F _)
def q39 {mode:Int} {neg:Bool} {N D:Nat} (h:N % D=0):rq mode neg N D=N / D:=by unfold rq; rw [if_pos h]
def qtA {mode:Int} {neg:Bool} {N:Nat}:rq mode neg N 1=N:=by rw [q39 (Nat.mod_one N),w4]
def qtB {mode:Int} {neg:Bool} {N D:Nat}:rq mode neg N D<=N / D+1:=by unfold rq; (repeat' split) <;> omega
def rE (mode:Int) (neg:Bool) (N D:Nat) (e:Int):Nat:=rF mode neg (N*2 ^ e.toNat) (D*2 ^ (-e).toNat)
def qcM {mode:Int} {neg:Bool} {N D:Nat} {e:Int} (hD:0 < D) (h:D<=N) :
  rE mode neg N D e=fin mode neg (rq mode neg (N*2 ^ (e-max (e+bl (N / D)-53) (-1074)).toNat) (D*2 ^ (max (e+bl (N / D)-53) (-1074)-e).toNat)) (max (e+bl (N / D)-53) (-1074)):=by
 unfold rE rF qer;rw [quD e hD h,qna,show e+(bl (N / D):Int)-1-52=e+bl (N / D)-53 by omega]
def q9v (N D k:Nat):N / (D*2 ^ k)=N / D / 2 ^ k:=(y8 N D (2 ^ k)).symm
def qpW (N D k:Nat):N % (D*2 ^ k)=D*(N / D % 2 ^ k)+N % D:=by rw [xQ]; omega
def q9e (N D k:Nat):Int:=if 0 < k/\N / D / 2 ^ (k-1) % 2=1 then (if N % D≠0\/N / D % 2 ^ (k-1)≠0 then 1 else 0) else -1
def upS (mode:Int) (neg:Bool) (half:Int) (odd:Bool):Bool:=if mode=1 then neg else if mode=2 then !neg else if mode=3 then false else (decide (0 < half) || (decide (half=0) && odd))
def qn4 {mode:Int} {neg:Bool} {N D k:Nat} (hD:0 < D) (hk:N % D≠0->0 < k):rq mode neg N (D*2 ^ k) =
  N / D / 2 ^ k+(if (N / D % 2 ^ k≠0\/N % D≠0)/\upS mode neg (q9e N D k) (decide (N / D / 2 ^ k % 2=1))=true then 1 else 0):=by
 have h2:=zR N hD
 rcases yH k with h0 | h0
 .subst h0;have hr:N % D=0:=by
   rcases yH (N % D) with h | h
   .exact h
   .have:=hk ω; omega
  rw [yL,vE,q39 hr,Nat.mod_one,hr]; simp
 have hp:2 ^ k=2 ^ (k-1)*2:=by rw [<- zD]; congr 1; omega
 have hp0:=q0F (k-1);have hs:=xQ (x:=N / D) (a:=2 ^ (k-1)) (b:=2);rw [<- hp] at hs;have hs':=zR (N / D) hp0;have hb2:N / D / 2 ^ (k-1) % 2 < 2:=zR _ Oq;unfold rq q9e;rw [q9v,qpW];generalize N / D / 2 ^ k=Q;simp only [h0,true_and];generalize N / D % 2 ^ k=s at *;generalize N / D % 2 ^ (k-1)=s' at *;generalize N / D / 2 ^ (k-1) % 2=b at *;generalize N % D=r at *;rw [hp];generalize 2 ^ (k-1)=h at *;have e0:(D*s+r=0)=(s=0/\r=0):=by
  rw [eq_iff_iff,wQ,vH]
  constructor
  .rintro ⟨a | a,c⟩
   .omega
   .exact ⟨a,c⟩
  .rintro ⟨a,c⟩; exact ⟨.inr a,c⟩
 have e1:D*(h*2)=2*(D*h):=by rw [zG h 2,zW]
 have key:∀ a b:Nat,a < b->D*a+D<=D*b:=λa b hab=>by rw [<- xY]; exact zO _ hab
 simp only [e0,e1]
 by_cases hz:s=0/\r=0
 .obtain ⟨rfl,rfl⟩:=hz;simp
 .have hz':s≠0\/r≠0:=ω
  simp only [hz,hz',if_false,true_and];unfold upS
  by_cases m1:mode=1
  .simp only [m1,if_true]; cases neg <;> rfl
  by_cases m2:mode=2
  .simp only [m1,m2,if_false,if_true]; cases neg <;> rfl
  by_cases m3:mode=3
  .simp only [m1,m2,m3,if_false,if_true]; rfl
  simp only [m1,m2,m3,if_false]
  by_cases hb:b=1
  .subst hb;have hss:D*s=D*h+D*s':=by rw [hs,vE,vM,zB]
   simp only [if_true]
   by_cases hc:r≠0\/s'≠0
   .have:0 < D*s'+r:=by
     rcases hc with hc | hc
     .omega
     .have:=zV hD (show 0 < s' by omega); omega
    rw [if_pos (.inl Oq),if_pos hc]; simp
   .have hr0:r=0:=ω
    have hs0:s'=0:=ω
    subst hr0; subst hs0;rw [y7,yK] at hss;rw [hss]
    by_cases ho:Q % 2=1 <;> simp [ho]
  .have hsl:s=s':=by
    have:b=0:=ω
    rw [hs,this]; simp
   have:=key s h Oq;have c1:¬ (2*(D*h) < 2*(D*s+r)):=ω
   have c2:¬ (2*(D*s+r)=2*(D*h)):=ω
   simp [c1,c2,hb]
def qhp {mode:Int} {neg:Bool} {N D:Nat} {e q:Int} (hD:0 < D) (h:D<=N) (hq:e+bl (N / D)-53<=q):rq mode neg (N*2 ^ (e-q).toNat) (D*2 ^ (q-e).toNat)<=9007199254740992:=by
 have h53:(2:Nat) ^ 53=9007199254740992:=by decide
 refine zL qtB ?_;rw [q9v];have h1:=qcS hD h (e-q).toNat;have h2:=q24 (N*2 ^ (e-q).toNat / D);rw [h1] at h2
 rcases wW q e with hqe | hqe
 .rw [show (q-e).toNat=0 by omega,yL,w4];have:2 ^ (bl (N / D)+(e-q).toNat)<=2 ^ 53:=zK Oq Oq;omega
 .have:N*2 ^ (e-q).toNat / D / 2 ^ (q-e).toNat < 2 ^ 53:=by
   rw [y9 (q0F _),<- zI];exact z7 h2 (zK Oq Oq)
  omega
def qn0 {neg:Bool} {x:Nat} (h:x < 9223372036854775808):sb neg x < 18446744073709551616:=by unfold sb; split <;> omega
def qnr {mode:Int} {neg:Bool}:q7E mode neg < 18446744073709551616:=by unfold q7E; split <;> exact qn0 Oq
def qf9 {mode:Int} {neg:Bool} {n:Nat} {q:Int} (hn:n < 9007199254740992):q4S mode neg n q < 18446744073709551616:=by
 unfold q4S
 split
 .exact qn0 Oq
 .split
  .exact qnr
  .refine qn0 ?_;have:(q+1075).toNat<=2046:=ω
   omega
def qud {mode:Int} {neg:Bool} {n:Nat} {q:Int} (hn:n<=9007199254740992):fin mode neg n q < 18446744073709551616:=by
 unfold fin
 split
 .exact qf9 Oq
 .exact qf9 Oq
def qtW {mode:Int} {neg:Bool} {N D:Nat} {e:Int} (hD:0 < D) (h:D<=N):rE mode neg N D e < 18446744073709551616:=by
 rw [qcM hD h]; exact qud (qhp hD h Oq)
def q3o {mode:Int} {neg:Bool} {n:Nat} {q:Int} (hn:n < 9007199254740992) (hq : -1074<=q) (hq2:q+1075 < 2047) (h:q = -1074\/4503599627370496<=n) :
  ofF (q4S mode neg n q)=some (sgn neg n*(2:Int) ^ (q+65536).toNat):=by
 unfold q4S
 by_cases h1:n < 4503599627370496
 .rw [if_pos h1];have hq':q = -1074:=ω
  subst hq';unfold ofF sb;cases neg
  .rw [if_neg (by simp; omega),if_pos (by simp; omega)];simp only [wU,if_false];rw [decide_eq_false Oq,zF h1]; rfl
  .rw [if_neg (by simp; omega),if_pos (by simp; omega)];simp only [if_true];rw [decide_eq_true Oq,show (n+9223372036854775808) % 4503599627370496=n by omega]; rfl
 .rw [if_neg h1,if_neg ω];obtain ⟨x,hx⟩:∃ x:Nat,x=(q+1075).toNat:=⟨_,rfl⟩;rw [<- hx];have hx1:1<=x:=ω
  have hx2:x<=2046:=ω
  have hqx:(q+65536).toNat=64461+x:=ω
  rw [hqx];unfold ofF sb;cases neg
  .simp only [wU,if_false];have e1:(x*4503599627370496+(n-4503599627370496)) / 4503599627370496 % 2048=x:=ω
   rw [e1,if_neg Oq,if_neg Oq,decide_eq_false Oq,show 4503599627370496+(x*4503599627370496+(n-4503599627370496)) % 4503599627370496=n by omega]
  .simp only [if_true];have e1:(x*4503599627370496+(n-4503599627370496)+9223372036854775808) / 4503599627370496 % 2048=x:=ω
   rw [e1,if_neg Oq,if_neg Oq,decide_eq_true Oq,show 4503599627370496+(x*4503599627370496+(n-4503599627370496)+9223372036854775808) % 4503599627370496=n by omega]
def qan {mode:Int} {neg:Bool} {N D M:Nat} {f:Int} (hD:0 < D) (hM:0 < M) (hb:bl M<=53) (h1 : -1074<=f) (h2:f+bl M<=1024) (h:N*2 ^ (-f).toNat=D*M*2 ^ f.toNat) :
  ofF (rF mode neg N D)=some (sgn neg M*(2:Int) ^ (f+65536).toNat)/\rF mode neg N D < 18446744073709551616:=by
 have hN:0 < N:=by
  rcases yH N with h0 | h0
  .subst h0;have a:=zV (zV hD hM) (q0F f.toNat);omega
  .exact h0
 have e0:rF mode neg N D=rE mode neg M 1 f:=by
  unfold rE;refine q6z hN hD (zV hM (q0F _)) (zV Oq (q0F _)) ?_;rw [zY,h,zG D M,z9]
 refine ⟨?_,by rw [e0]; exact qtW Oq Oq⟩;rw [e0,qcM Oq Oq,w4];obtain ⟨q,hq⟩:∃ q:Int,q=max (f+bl M-53) (-1074):=⟨_,rfl⟩;rw [<- hq,show (q-f).toNat=0 by omega,yL,vE,qtA];have hbn:=q1D (n:=M) Oq (f-q).toNat;obtain ⟨n,hn⟩:∃ n,n=M*2 ^ (f-q).toNat:=⟨_,rfl⟩;rw [<- hn] at hbn ⊢;have hn53:n < 2 ^ 53:=q17 Oq;have h53:(2:Nat) ^ 53=9007199254740992:=by decide
 unfold fin;rw [if_neg Oq,q3o Oq Oq Oq ?_]
 .rw [hn]
  congr 1
  have:sgn neg (M*2 ^ (f-q).toNat)=sgn neg M*(2:Int) ^ (f-q).toNat:=by
   rw [<- q0T]; cases neg <;> simp [sgn,wM]
  rw [this,xT,<- wN]
  congr 2; omega
 .rcases wW (f+bl M-53) (-1074) with hc | hc
  .left; omega
  .right
   have hne:n≠0:=by rw [hn]; exact Nat.ne_of_gt (zV hM (q0F _))
   have:=q75 hne;have h52:(2:Nat) ^ 52=4503599627370496:=by decide
   rw [show bl n-1=52 by omega] at this;omega
end Go.Sp
namespace Go.E
open Go
structure Fam where
 p:(Nat->Prop)->Value->World->Prop
 kp:∀ {D:Nat->Prop} {w w':World} {v:Value},Kp D w w'->p D v w->p D v w'
 sub:∀ {D D':Nat->Prop} {w:World} {v:Value},(∀ k,k < w.heap.size->D k->D' k)->p D v w->p D' v w
def In (G:Fam) (D:Nat->Prop) (v:Value) (w:World):Prop:=G.p D v w
section
variable {G:Fam} {D D':Nat->Prop} {v:Value} {w w':World}
def In.kp (h:In G D v w) (k:Kp D w w'):In G D v w':=G.kp k h
def In.sub (h:In G D v w) (k:∀ k,k < w.heap.size->D k->D' k):In G D' v w:=G.sub k h
end
section
variable {G:Fam} {D:Nat->Prop} {L:List Nat} {v:Value} {w w0 w1 w2:World} {g:Nat}
end
section
variable {w:World} {g t:Nat} {a b c d e f h i:Value} {l:List Value}
end
end Go.E
namespace Go.Proofs.YtbjoghfmhgadkaaGreatDoor
open Go Go.E Go.Sp
def fU (l:List Nat):Fam:=⟨λD v w=>∃ A n c,v=.slice A n c/\U32 w D A n c l,λk ⟨A,n,c,e,h⟩=>⟨A,n,c,e,h.kp k⟩,λk ⟨A,n,c,e,h⟩=>⟨A,n,c,e,h.sub k⟩⟩
def fV (V:Int):Fam:=⟨λD v w=>∃ s A n c,v=.agg #[.bool false,.bool s,.slice A n c,.int .i64 (dyE V)]/\Big w D s A n c (od V)/\q0Y V,λk ⟨s,A,n,c,e,h,o⟩=>⟨s,A,n,c,e,h.kp k,o⟩,λk ⟨s,A,n,c,e,h,o⟩=>⟨s,A,n,c,e,h.sub k,o⟩⟩
section
variable {D:Nat->Prop} {v:Value} {w w':World} {z V m e:Int} {l:List Nat} {s:Bool} {A:Option Addr} {n c:Nat}
end
end Go.Proofs.YtbjoghfmhgadkaaGreatDoor
namespace Go.E
open Go.Proofs.YtbjoghfmhgadkaaGreatDoor Go.Sp
section
variable {D:Nat->Prop} {v:Value} {w w':World} {z V m e:Int} {l:List Nat} {s:Bool} {A:Option Addr} {n c:Nat}
end
end Go.E
namespace Go.Proofs.YtbjoghfmhgadkaaGreatDoor
open Go Go.E Go.Sp
section
variable {D:Nat->Prop} {v:Value} {w w':World} {z V m e:Int} {l:List Nat} {s:Bool} {A:Option Addr} {n c:Nat}
end
section
variable {D:Nat->Prop} {v v':Value} {w:World} {a b:Int}
end
end Go.Proofs.YtbjoghfmhgadkaaGreatDoor
namespace Go.E
open Go Go.RowKit
def q09 (vs:List Value):List Value:=vs.flatMap λv=>v.cells.toList
section
variable {α:Type} {G:α->Fam} {D D':Nat->Prop} {sz:Nat} {w w':World} {l:List α} {vs:List Value}
def q4q {vs:List Value} {sz:Nat} (hv:∀ v ∈ vs,v.cells.size=sz) {i j:Nat} {v:Value} (hi:vs[i]?=some v) (hj:j < sz):(q09 vs)[i*sz+j]?=v.cells[j]?:=by
 induction vs generalizing i with
 | nil=>simp at hi
 | cons u vs ih =>
  have h1:=hv u w9;unfold q09 at *;rw [yV];cases i with
  | zero =>
   simp at hi; subst hi;rw [List.getElem?_append_left (by simp; omega)]; simp
  | succ i =>
   rw [List.getElem?_append_right (by rw [yP,h1,xI]; omega),yP,h1];have:=ih (λx hx=>hv x (zS _ hx)) (i:=i) (by simpa using hi);rw [<- this]; congr 1; rw [xI]; omega
end
def fSc {α:Type} (f:α->Value) (l:List α):Fam :=
 ⟨λD v w=>∃ A n c,v=.slice A n c/\Row w D 1 A n c (l.map f),λk ⟨A,n,c,e,h⟩=>⟨A,n,c,e,h.kp k⟩,λk ⟨A,n,c,e,h⟩=>⟨A,n,c,e,h.sub k⟩⟩
section
variable {α:Type} {G:α->Fam} {f:α->Value} {D D':Nat->Prop} {sz:Nat} {w w':World} {l:List α} {vs:List Value} {A:Option Addr} {n c:Nat} {v:Value}
def In.sc_row (h:In (fSc f l) D (.slice A n c) w):Row w D 1 A n c (l.map f):=by
 obtain ⟨_,_,_,e,h⟩:=h; cases e; exact h
def In.sc_len (h:In (fSc f l) D (.slice A n c) w):l.length=n:=by have:=h.sc_row.len; simpa using this
def In.sc_nil:In (fSc f ([]:List α)) D (.slice none 0 0) w:=⟨none,0,0,rfl,Row.nil _ _ _⟩
def qkv {w:World} {p:Addr}:∀ (cs:List Value) (i:Nat),(∀ j u,cs[j]?=some u->w.cell? (p.add (i+j))=some u)->q1G w p i cs.length=some cs
 | [],_,_=>rfl
 | c :: cs,i,h=>by
  rw [yR,rd_s,show w.cell? (p.add i)=some c from h 0 c rfl,qkv cs (i+1) (λj u hu=>by rw [show i+1+j=i+(j+1) by omega]; exact h (j+1) u (by simpa using hu))]; rfl
variable {T B:Nat}
end
section
variable {P:Program} {w:World} {α:Type} {G:α->Fam}
end
end Go.E
namespace Go.Sp
def qbm (q r a b:Nat) (ha:a < 2) (hb:b < 2):(2*q+a) &&& (2*r+b)=2*(q &&& r)+(a*b):=by
 have hab:a*b < 2:=by
  rcases zN a 1 with h | h
  .rw [show a=0 by omega]; simp
  .rw [show a=1 by omega]; omega
 apply yX
 intro i;cases i with
 | zero =>
  rw [vG,xU,xU,xU];have e1:(2*q+a) % 2=a:=ω
  have e2:(2*r+b) % 2=b:=ω
  have e3:(2*(q &&& r)+a*b) % 2=a*b:=ω
  rw [e1,e2,e3]
  rcases zN a 1 with h | h
  .rw [show a=0 by omega]; simp
  .rw [show a=1 by omega]; simp
 | succ i =>
  rw [vG,xV,xV,xV];have e1:(2*q+a) / 2=q:=ω
  have e2:(2*r+b) / 2=r:=ω
  have e3:(2*(q &&& r)+a*b) / 2=q &&& r:=ω
  rw [e1,e2,e3,vG]
def qjp {q n:Nat} (h:q < 2 ^ n):q &&& (2 ^ n-(q+1))=0:=by
 apply yX
 intro i;rw [vG,Nat.testBit_two_pow_sub_succ h,Nat.zero_testBit];cases q.testBit i <;> simp
def iso:∀ {n x:Nat},0 < x->x < 2 ^ n->x &&& (2 ^ n-x)=2 ^ tz x
 | 0,x,h1,h2=>by simp at h2; omega
 | n+1,x,h1,h2=>by
  rw [zD] at h2
  by_cases ho:x % 2=1
  .rw [qaZ ho];have hq:x / 2 < 2 ^ n:=ω
   have e1:x=2*(x / 2)+1:=ω
   have e2:2 ^ (n+1)-x=2*(2 ^ n-(x / 2+1))+1:=by rw [zD]; omega
   rw [e2];generalize hy:x / 2=y at *;rw [e1,qbm _ _ 1 1 Oq Oq,qjp hq]
  .have hq:x / 2 < 2 ^ n:=ω
   have e1:x=2*(x / 2)+0:=ω
   have e2:2 ^ (n+1)-x=2*(2 ^ n-x / 2)+0:=by rw [zD]; omega
   have ht:tz x=tz (x / 2)+1:=by
    have:=qkQ (n:=x / 2) Oq 1
    rwa [show x / 2*2 ^ 1=x by omega] at this
   have ih:=iso (n:=n) (x:=x / 2) Oq hq;rw [ht,e2,zD,<- ih];generalize hy:x / 2=y at *;rw [e1,qbm _ _ 0 0 Oq ω]; omega
def qdT:List Nat:=[0,1,28,2,29,14,24,3,30,22,20,15,25,17,4,8,31,27,13,23,21,19,16,7,26,12,18,6,11,5,10,9]
def qmu:((List.range 32).all λk=>wP (qdT.getD (2 ^ k*125613361 % 4294967296 / 134217728) 99) k)=true:=by decide
def qmt {k:Nat} (h:k < 32):qdT.getD (2 ^ k*125613361 % 4294967296 / 134217728) 99=k:=by
 have:=qmu;rw [yY] at this;exact yU (this k (wG.2 h))
end Go.Sp
namespace Go.Proofs.YtbjoghfmhgadkaaGreatDoor
open Go Go.E Go.Sp
def q5q (w:World):Prop:=∀ k,k < 32->w.cell? ⟨0,k,none⟩=some (.int .u8 ((qdT.getD k 99:Nat):Int))
def q5q.ext {w w':World} (h:q5q w) (k:Ext w w'):q5q w':=λi hi=>k.cell (D:=λ_=>True) trivial (h i hi)
def qw1:qcc Tryz.prog 273=some (32,1):=κ
def qmm {x:Nat} {w:World} (hT:q5q w) (hx0:0 < x) (hx:x < 4294967296) :
  Calls Tryz.prog 215 #[.int .u32 x] w λe w'=>e=.returned (.int .i64 (tz x:Nat))/\w=w':=by
 refine q5h Tryz.func215 rfl Tryz.ntmps215 κ ?_;refine Wz ?_;refine qaK λK0 hK0=>?_;have h0:((x:Int) == 0)=false:=by rw [beq0]; exact decide_eq_false Oq
 refine Wz ?_;refine q8p rfl (λhc=>by rw [h0] at hc; cases hc) (λhc=>qbq (hK0 _ _ ?_));clear hK0;have ht:=q6d Oq hx;have hp:2 ^ tz x < 4294967296:=wL Oq ht;have e1:IntKind.u32.wrap (0-(x:Int))=((4294967296-x:Nat):Int):=by rw [q2T]; omega
 have e2:q0k .and .u32 (x:Int) ((4294967296-x:Nat):Int)=((2 ^ tz x:Nat):Int):=by
  rw [qbn hx ω];exact congrArg Nat.cast (iso (n:=32) hx0 hx)
 have e3:IntKind.u32.wrap (((2 ^ tz x:Nat):Int)*125613361)=((2 ^ tz x*125613361 % 4294967296:Nat):Int):=by rw [q2T]; omega
 have hi:2 ^ tz x*125613361 % 4294967296 / 134217728 < 32:=ω
 have e4:(0:Int)<=((2 ^ tz x*125613361 % 4294967296 / 134217728:Nat):Int)/\((2 ^ tz x*125613361 % 4294967296 / 134217728:Nat):Int) < (32:Nat):=ω
 have hg:=hT _ hi;rw [qmt ht] at hg;have e5:IntKind.i64.wrap ((tz x:Nat):Int)=((tz x:Nat):Int):=i64_in Oq Oq;refine q1F λK hK=>?_;simp -implicitDefEqProofs (disch:=omega) only [go_sem,Nat.reduceEqDiff,Nat.reduceAdd,↓reduceIte,e1,e2,e3,e4,qw1,hg,e5,ev];refine hK _ _ ?_; clear hK K;refine qkB ?_
 try simp only [q9N,qoV]
 refine ret1 rfl ⟨rfl,rfl⟩


def q1B {V:Int} (h:q0Y V) : -65536<=dyE V/\dyE V<=65536/\bl (od V).natAbs<=131072:=⟨q8b,by have:=q6W h; omega,q22 h⟩
end Go.Proofs.YtbjoghfmhgadkaaGreatDoor
namespace Go.Sp
def qdj (a k:Nat):shI (a:Int) (-(k:Int))=((a / 2 ^ k:Nat):Int):=by
 unfold shI
 split
 .rename_i h;have:k=0:=ω
  subst this; simp
 .rw [show (- -(k:Int)).toNat=k by omega,<- q0T]; rfl
def q3M {a:Nat}:(tz a=0/\a≠0) ↔ a % 2=1:=by
 constructor
 .rintro ⟨h1,h2⟩;obtain ⟨q,hq,he⟩:=q2b h2;rw [h1] at he; omega
 .intro h; exact ⟨qaZ h,ω⟩
def q1L (l:List Int):Int:=l.foldl (·+·) 0
def q0j (l:List Int) (x:Int):q1L (l ++ [x])=q1L l+x:=by simp [q1L,List.foldl_append]
def q1x:q1L []=0:=rfl
def q5L (l:List Int) (i:Nat) (x:Int) (h:l[i]?=some x):q1L (l.take (i+1))=q1L (l.take i)+x:=by
 obtain ⟨hlt,he⟩:=xN.1 h;rw [y6 hlt,q0j,he]
def qd5 {K:Nat}:∀ (i:Nat) (l:List Int),(∀ x ∈ l,bl x.natAbs<=K)->(q1L (l.take i)).natAbs<=i*2 ^ K
 | 0,l,_=>by rw [List.take_zero]; exact Nat.zero_le _
 | i+1,l,h=>by
  have ih:=qd5 i l h;cases hx:l[i]? with
  | none =>
   have:l.take (i+1)=l.take i:=by rw [vA (by have:=xO.1 hx; omega),vA (xO.1 hx)]
   rw [this,yM,zY]; exact zL ih (Nat.le_add_right _ _)
  | some x =>
   rw [q5L l i x hx,yM,zY];have h1:=q17 (h x (wH hx));refine zL (Int.natAbs_add_le _ _) ?_;exact Nat.add_le_add ih (yZ h1)
def q5K {K i:Nat} {l:List Int} (h:∀ x ∈ l,bl x.natAbs<=K) (hi:i<=1024):bl (q1L (l.take i)).natAbs<=K+11:=by
 refine q0K (z6 (qd5 i l h) ?_);have h2:i*2 ^ K<=1024*2 ^ K:=zJ _ hi;have h3:2 ^ (K+11)=2 ^ K*2048:=by rw [zI]
 have:=q0F K;omega
def qkZ {i:Nat} {l:List Int} (h:∀ x ∈ l,q0Y x) (hi:i<=1024):bl (q1L (l.take i)).natAbs<=131083:=q5K h hi
def q3v {m S:Int} {k:Nat} (h:m*(2:Int) ^ k=S):bl m.natAbs<=bl S.natAbs:=by
 rw [<- h,q0H];exact q07 (vI _ (q0F k))
end Go.Sp
namespace Go.E
open Go Go.Sp
section
variable {P:Program} {t:TypeId} {k':IntKind} {a b:Nat}
def qh2:q0t P .shr t (.int .u64 (a:Int)) (.int k' 52)=some (.int .u64 ((a / 4503599627370496:Nat):Int)):=by
 rw [q1u,if_neg ω];exact congrArg (λx=>some (Value.int .u64 x)) (q84 a 4503599627370496)
def qnR:q0t P .shr t (.int .u64 (a:Int)) (.int k' 1)=some (.int .u64 ((a / 2:Nat):Int)):=by
 rw [q1u,if_neg ω];exact congrArg (λx=>some (Value.int .u64 x)) (q84 a 2)
def q4x (ha:a < 18446744073709551616):q0k .and .u64 (a:Int) 2047=((a % 2048:Nat):Int):=by
 have:=q3z ha (show 2047 < 18446744073709551616 by omega);rw [zQ a 11] at this;exact this
def qbl (ha:a < 18446744073709551616):q0k .and .u64 (a:Int) 4503599627370495=((a % 4503599627370496:Nat):Int):=by
 have:=q3z ha (show 4503599627370495 < 18446744073709551616 by omega);rw [zQ a 52] at this;exact this
def q12 (ha:a < 18446744073709551616):q0k .and .u64 (a:Int) 4294967295=((a % 4294967296:Nat):Int):=by
 have:=q3z ha (show 4294967295 < 18446744073709551616 by omega);rw [zQ a 32] at this;exact this
def q77 (ha:a < 18446744073709551616):q0k .and .u64 (a:Int) 1=((a % 2:Nat):Int):=by
 have:=q3z ha (show 1 < 18446744073709551616 by omega);rw [zQ a 1] at this;exact this
def qq4 (a k:Nat):a &&& 2 ^ k=if a.testBit k=true then 2 ^ k else 0:=by
 apply yX; intro i
 rw [vG,yQ]
 by_cases h:k=i
 .subst h; cases ht:a.testBit k <;> simp [yQ]
 .simp only [h,decide_false,Bool.and_false]
  split <;> simp [yQ,h]
def qjo (ha:a < 18446744073709551616):q0k .and .u64 (a:Int) 9223372036854775808=if 9223372036854775808<=a then 9223372036854775808 else 0:=by
 have:=q3z ha (show 9223372036854775808 < 18446744073709551616 by omega);have h2:a &&& 9223372036854775808=if 9223372036854775808<=a then 9223372036854775808 else 0:=by
  have key:=qq4 a 63;rw [yN] at key;rw [show (9223372036854775808:Nat)=2 ^ 63 by rfl,key]
  by_cases h:9223372036854775808<=a
  .rw [if_pos (decide_eq_true Oq),if_pos ω]
  .rw [if_neg (by rw [decide_eq_true_eq]; omega),if_neg ω]
 rw [h2] at this;rw [show (9223372036854775808:Int)=((9223372036854775808:Nat):Int) by rfl,this]
 split <;> rfl
def qe3 (ha:a < 18446744073709551616):(q0k .and .u64 (a:Int) 9223372036854775808 != 0)=decide (9223372036854775808<=a):=by
 rw [qjo ha]
 split
 .rename_i h; rw [decide_eq_true h]; rfl
 .rename_i h; rw [decide_eq_false h]; rfl
def qlE (ha:a < 4503599627370496):q0k .or .u64 (a:Int) 4503599627370496=((4503599627370496+a:Nat):Int):=by
 have:=qcO (a:=a) (b:=4503599627370496) Oq Oq;have h2:=q1z (c:=a) (m:=1) (k:=52) Oq;rw [zY] at h2;rw [show a ||| 4503599627370496=a+4503599627370496 from h2] at this;rw [show (4503599627370496:Int)=((4503599627370496:Nat):Int) by rfl,this,vM]
def qeV (ha:a < 9223372036854775808):q0k .or .u64 (a:Int) 9223372036854775808=((a+9223372036854775808:Nat):Int):=by
 have:=qcO (a:=a) (b:=9223372036854775808) Oq Oq;have h2:=q1z (c:=a) (m:=1) (k:=63) Oq;rw [zY] at h2;rw [show a ||| 9223372036854775808=a+9223372036854775808 from h2] at this;rw [show (9223372036854775808:Int)=((9223372036854775808:Nat):Int) by rfl,this]
def q6o (h:a < 4096):q0t P .shl t (.int .u64 (a:Int)) (.int k' 52)=some (.int .u64 ((a*4503599627370496:Nat):Int)):=by
 have:=qdi (P:=P) (t:=t) (k':=k') (a:=a) (b:=52) Oq;rw [show a*2 ^ 52 % 18446744073709551616=a*4503599627370496 by omega] at this;exact this
def qeW (ha:a < 2048) (hb:b < 4503599627370496):q0k .or .u64 ((a*4503599627370496:Nat):Int) (b:Int)=((a*4503599627370496+b:Nat):Int):=by
 have:=qcO (a:=a*4503599627370496) (b:=b) Oq Oq;have h2:=q1z (c:=b) (m:=a) (k:=52) Oq;rw [this,wY,show b ||| a*4503599627370496=b+a*4503599627370496 from h2,vM]
end
attribute [go_sem high] qh2 qnR
end Go.E
namespace Go.Sp
open Go.E
def q0M (f:Nat):Prop:=f / 4503599627370496 % 2048≠2047
instance (f:Nat):Decidable (q0M f):=by unfold q0M; infer_instance
def q51 {m E:Int} (hE : -65536<=E) (hb:bl m.natAbs+(E+65536).toNat<=131072):mkV m E=some (m*(2:Int) ^ (E+65536).toNat):=by
 rw [q4p hE rfl];refine q1f ?_;unfold q0Y
 by_cases h:m=0
 .subst h; rw [wX]; exact Nat.zero_le _
 .rw [q0H,q1D ω]; exact hb
def q96 {f:Nat} (hf:q0M f):∃ V,ofF f=some V/\mkV (sgn (decide (9223372036854775808<=f)) (if f / 4503599627370496 % 2048=0 then f % 4503599627370496 else 4503599627370496+f % 4503599627370496)) (if f / 4503599627370496 % 2048=0 then -1074 else (f / 4503599627370496 % 2048:Nat)-1075)=some V:=by
 unfold q0M at hf;have hx:=zR (f / 4503599627370496) (show 0 < 2048 by omega);have hm:=zR f (show 0 < 4503599627370496 by omega);unfold ofF;rw [if_neg hf];generalize f / 4503599627370496 % 2048=x at *;generalize f % 4503599627370496=m at *
 split
 .refine ⟨_,rfl,?_⟩;have hb:bl m<=52:=q0K hm;rw [q51 Oq (by rw [q10]; omega)]; rfl
 .refine ⟨_,rfl,?_⟩;have hb:bl (4503599627370496+m)<=53:=q0K (z7 (show 4503599627370496+m < 9007199254740992 by omega) (yB _));rw [q51 Oq (by rw [q10]; omega)];rw [show ((x:Int)-1075+65536).toNat=64461+x by omega]
def fR (mode V:Int):Nat:=if V=0 then 0 else rF mode (decide (V < 0)) V.natAbs (2 ^ 65536)
def fQ (mode a b:Int):Nat:=if a=0 then 0 else rF mode (decide (a < 0) != decide (b < 0)) a.natAbs b.natAbs
def rE_VK {mode V:Int} {neg:Bool} {K:Nat} (hK:K=65536) (h:V≠0):rE mode neg (od V).natAbs 1 (dyE V)=rF mode neg V.natAbs (2 ^ K):=by
 have h1:=q6R V;have h2:=q3f h;have ho:0 < (od V).natAbs:=ω
 have hd:dyE V=(tz V.natAbs:Int)-65536:=by unfold dyE; rw [if_neg h]
 have hV:0 < V.natAbs:=ω
 unfold rE;refine q6z (zV ho (q0F _)) (zV Nat.one_pos (q0F _)) hV (q0F _) ?_;generalize dyE V=e at *;generalize tz V.natAbs=k at *;rw [<- h1,zY,zA,zA,<- zI,<- zI]
 congr 2; omega
def rE_V {mode V:Int} {neg:Bool} (h:V≠0):rE mode neg (od V).natAbs 1 (dyE V)=rF mode neg V.natAbs (2 ^ 65536):=rE_VK (K:=65536) rfl h
def qn5 {mode:Int} {neg:Bool} {N D:Nat}:N / D<=rq mode neg N D:=by unfold rq; (repeat' split) <;> omega
def n_ge {mode:Int} {neg:Bool} {N D:Nat} {e q:Int} (hD:0 < D) (h:D<=N) (hq:q=e+bl (N / D)-53):4503599627370496<=rq mode neg (N*2 ^ (e-q).toNat) (D*2 ^ (q-e).toNat):=by
 refine zL ?_ qn5;rw [q9v];have h1:=qcS hD h (e-q).toNat;have hp:=wF h hD;have hb:=q3w (n:=N / D) Oq;have h52:(2:Nat) ^ 52=4503599627370496:=by decide
 rw [<- h52,wC (q0F _),<- zI];have hne:N*2 ^ (e-q).toNat / D≠0:=λh0=>by
  rw [h0,q06] at h1; omega
 have h2:=q75 hne;rw [h1] at h2;rw [show 52+(q-e).toNat=bl (N / D)+(e-q).toNat-1 by omega];exact h2
def qnb {mode:Int} {neg:Bool} {N D:Nat} {e:Int} (hD:0 < D) (h:D<=N) (ht:1024<=e+bl (N / D)-1):rE mode neg N D e=q7E mode neg:=by
 rw [qcM hD h];have hq:max (e+(bl (N / D):Int)-53) (-1074)=e+bl (N / D)-53:=ω
 rw [hq];have hn:=n_ge (mode:=mode) (neg:=neg) hD h (q:=e+bl (N / D)-53) rfl;unfold fin q4S
 split
 .rw [if_neg Oq,if_pos ω]
 .rw [if_neg Oq,if_pos ω]
end Go.Sp
namespace Go.Proofs.YtbjoghfmhgadkaaGreatDoor
open Go Go.E Go.Sp

end Go.Proofs.YtbjoghfmhgadkaaGreatDoor
namespace Go.E
open Go
end Go.E
namespace Go.Proofs.YtbjoghfmhgadkaaGreatDoor
open Go Go.E Go.Sp


section
variable {D:Nat->Prop} {v v':Value} {w:World} {x y:Nat} {l:List Nat}
end
section
variable {D:Nat->Prop} {v v':Value} {w:World} {x y:Nat} {a b:Int}
end
def qdk (s:Bool) (x k:Nat):sgn s (x*2 ^ k)=sgn s x*(2:Int) ^ k:=by
 cases s <;> simp [sgn,wM]
def q5j:bl 1=1:=rfl
section
variable {D:Nat->Prop} {v v':Value} {w:World} {x y d:Nat} {a b:Int}
end
end Go.Proofs.YtbjoghfmhgadkaaGreatDoor
namespace Go.E
open Go
end Go.E
namespace Go.Proofs.YtbjoghfmhgadkaaGreatDoor
open Go Go.E Go.Sp
section
variable {D:Nat->Prop} {v v':Value} {w:World} {x y d:Nat} {a b:Int}
end
end Go.Proofs.YtbjoghfmhgadkaaGreatDoor
namespace Go.Sp
open Go.E
section
variable {p T U V v1 v0 q rest top u0:Nat}
def qpK (hU:U < (T+1)*p) (hV:(v1*B+v0)*p<=V) (hT:T=top*B+u0) (hr:rest+q*v1=top) (hc:rest*B+u0 < q*v0):U < q*V:=by
 have h1:T+1<=q*(v1*B+v0):=by
  rw [hT,<- hr,yM,zB,<- zA];generalize q*v1*B=x at *;generalize rest*B=y at *;omega
 refine z7 hU (zL (zJ p h1) ?_);rw [zA];exact zO q hV
def qfe (hU:T*p<=U) (hV:V<=(v1*B+v0+1)*p) (hT:T=top*B+u0) (hr:rest+q*v1=top) (hc:q*v0<=rest*B+u0) (hq:q<=v1*B+v0+1):(q-1)*V<=U:=by
 rcases yH q with h0 | h0
 .subst h0; simp
 have h1:q*(v1*B+v0)<=T:=by
  rw [hT,<- hr,yM,zB,<- zA];generalize q*v1*B=x at *;generalize rest*B=y at *;omega
 have h2:(q-1)*(v1*B+v0+1)<=q*(v1*B+v0):=by
  generalize v1*B+v0=W at *;obtain ⟨k,rfl⟩:∃ k,q=k+1:=⟨q-1,ω⟩;rw [vF,zB,yM,vE,zY];omega
 refine zL (zO (q-1) hV) (zL ?_ hU);rw [<- zA];exact zJ p (zL h2 h1)
end
def qe9 {u P b t:Nat} (hu:u < 4294967296) (hb:b<=1) (ht:t=(u+18446744073709551616-P % 4294967296-b) % 18446744073709551616) :
  P % 4294967296+b+t % 4294967296=u+4294967296*(t / 4294967296 % 2)/\t / 4294967296 % 2<=1:=by
 have:=zR P (show 0 < 4294967296 by omega);omega
def q8P {W i c b x u q Ui Vi t:Nat} (h:W+q*Vi=Ui+B ^ i*(c+b)) (hu:u < 4294967296) (hb:b<=1) (ht:t=(u+18446744073709551616-(q*x+c) % 4294967296-b) % 18446744073709551616) :
  W+B ^ i*(t % 4294967296)+q*(Vi+B ^ i*x)=Ui+B ^ i*u+B ^ (i+1)*((q*x+c) / 4294967296+t / 4294967296 % 2):=by
 obtain ⟨h1,_⟩:=qe9 hu hb ht;have h2:=zX (q*x+c) 4294967296;have hB:B=4294967296:=rfl;rw [zD,zB q,zW q];generalize (q*x+c) / 4294967296=d at *;generalize (q*x+c) % 4294967296=m at *;generalize hy:q*x=y at *;generalize t / 4294967296 % 2=b' at *;generalize t % 4294967296=r at *;generalize B ^ i=X at *;have e1:X*B*(d+b')=X*(4294967296*d)+X*(4294967296*b'):=by rw [hB,zA,<- zB,zB]
 have e2:X*(c+b)+X*r+X*y=X*u+X*(4294967296*d)+X*(4294967296*b'):=by
  rw [<- zB,<- zB,<- zB,<- zB]
  congr 1
  omega
 rw [e1];omega
def qiB {W n c b u q Un V t:Nat} (h:W+q*V=Un+B ^ n*(c+b)) (hu:u < 4294967296) (hc:c+b<=4294967296) (ht:t=(u+18446744073709551616-c-b) % 18446744073709551616) :
  W+B ^ n*(t % 4294967296)+q*V=Un+B ^ n*u+B ^ (n+1)*(t / 4294967296 % 2)/\t / 4294967296 % 2<=1:=by
 have h1:c+b+t % 4294967296=u+4294967296*(t / 4294967296 % 2)/\t / 4294967296 % 2<=1:=ω
 refine ⟨?_,h1.2⟩;have hB:B=4294967296:=rfl;rw [zD];generalize t / 4294967296 % 2=b' at *;generalize t % 4294967296=r at *;generalize B ^ n=X at *;have e1:X*B*b'=X*(4294967296*b'):=by rw [hB,zA]
 have e2:X*(c+b)+X*r=X*u+X*(4294967296*b'):=by
  rw [<- zB,<- zB]
  congr 1
  omega
 rw [e1];omega
def qfn {U V q M W ng:Nat} (hV:0 < V) (hle:(q-1)*V<=U) (hlt:U < (q+1)*V) (hW:W < M) (hVM:V<=M) (h:W+q*V=U+M*ng) (hn:ng<=1) :
  (ng=0->U / V=q/\U % V=W)/\(ng=1->0 < q/\U / V=q-1/\(W+V) % M=U % V/\U % V < V):=by
 refine ⟨λh0=>?_,λh1=>?_⟩
 .subst h0;rw [y7,yK] at h;have hWV:W < V:=by
   rw [yM,zY] at hlt;omega
  have e:U=V*q+W:=by rw [zG]; omega
  rw [e];exact ⟨by rw [Nat.mul_add_div hV,yF hWV,yK],by rw [Nat.mul_add_mod,zF hWV]⟩
 .subst h1;rw [vE] at h;have hq:0 < q:=by
   rcases yH q with h0 | h0
   .subst h0; rw [wV] at h; omega
   .exact h0
  obtain ⟨k,rfl⟩:∃ k,q=k+1:=⟨q-1,ω⟩;rw [vF] at hle ⊢;rw [yM,zY] at h;have hr:U-k*V < V:=ω
  have e:U=V*k+(U-k*V):=by rw [zG]; omega
  have e1:U / V=k:=by rw [e,Nat.mul_add_div hV,yF hr,yK]
  have e2:U % V=U-k*V:=by
   have:=zX U V;rw [e1,zG] at this;omega
  refine ⟨hq,e1,?_,zR _ hV⟩;rw [e2,show W+V=U-k*V+M*1 by omega,zZ,zF ω]
def q2F (o:List Nat) (j i:Nat):val ((o.drop j).take (i+1))=val ((o.drop j).take i)+B ^ i*o.getD (j+i) 0:=by
 rw [vts,zP,z8,<- zP]
def qae (o:List Nat) (j i d:Nat):((o.set (j+i) d).drop j).take i=(o.drop j).take i:=by
 apply xR
 intro k;rw [yG,yG]
 split
 .rw [z8,z8,wJ ω]
 .rfl
def top2 {l:List Nat} {n:Nat} (ha:q01 l) (hn:2<=n):∃ low,low < B ^ (n-2)/\val (l.take n)=low+B ^ (n-2)*(l.getD (n-2) 0+B*l.getD (n-1) 0):=by
 refine ⟨val (l.take (n-2)),?_,?_⟩
 .have h1:=q15 (ha.take (n-2));refine z7 h1 (zK q0y ?_);rw [zU]; omega
 .have h1:=vts l (n-2);have h2:=vts l (n-2+1);rw [show n-2+1+1=n by omega,h1,show n-2+1=n-1 by omega] at h2;rw [h2,show n-1=(n-2)+1 by omega,zD,zB,<- zA,yO]
def qfd {p T U V v1 v0 top u0:Nat} (hU:U < (T+1)*p) (hV:(v1*B+v0)*p<=V) (hT:T=top*B+u0) (hu:u0 < B) (hv:0 < v1):U < (top / v1+1)*V:=by
 have h1:T+1<=(top / v1+1)*(v1*B+v0):=by
  have h2:top+1<=(top / v1+1)*v1:=by
   have:=zX top v1;have h3:=zR top hv;rw [yM,zY,zG]; omega
  have h4:(top+1)*B<=(top / v1+1)*v1*B:=zJ B h2;rw [zB,<- zA];rw [yM,zY] at h4;omega
 refine z7 hU (zL (zJ p h1) ?_);rw [zA];exact zO _ hV
def qjR {v1 v0 top q rest u0:Nat} (hr:rest+q*v1=top) (ht:top < v1*B+B) (hb:B<=rest) (hv0:v0 < B):q < B/\q*v0<=rest*B+u0:=by
 have h1:q*v1 < v1*B:=ω
 have hq:q < B:=by
  rcases zN q B with h | h
  .exact h
  .have:=zO v1 h;rw [zG q v1] at h1; omega
 have h2:q*v0<=B*B:=Nat.mul_le_mul (yZ hq) (yZ hv0);have h3:B*B<=rest*B:=zJ B hb;exact ⟨hq,ω⟩
def qqa {Z S i cr a x:Nat} (h:Z+B ^ i*cr=S):Z+B ^ i*((a+x+cr) % 4294967296)+B ^ (i+1)*((a+x+cr) / 4294967296)=S+B ^ i*a+B ^ i*x:=by
 have h2:=zX (a+x+cr) 4294967296;have hB:B=4294967296:=rfl;rw [zD];generalize (a+x+cr) / 4294967296=d at *;generalize (a+x+cr) % 4294967296=r at *;generalize B ^ i=X at *;have e1:X*B*d=X*(4294967296*d):=by rw [hB,zA]
 have e2:X*r+X*(4294967296*d)=X*a+X*x+X*cr:=by
  rw [<- zB,<- zB,<- zB]
  congr 1
  omega
 rw [e1];omega
def qhE {Z n a cr S:Nat} (hZ:Z < B ^ n) (h:Z+B ^ n*(a+cr)=S):Z+B ^ n*((a+cr) % 4294967296)=S % B ^ (n+1):=by
 have hB:B=4294967296:=rfl;rw [<- h,zD,xQ,zZ,zF hZ,yW _ _ Oq,yF hZ,yS,hB]
end Go.Sp
namespace Go.E
open Go
end Go.E
namespace Go.Proofs.YtbjoghfmhgadkaaGreatDoor
open Go Go.E Go.Sp
end Go.Proofs.YtbjoghfmhgadkaaGreatDoor
namespace Go.E
open Go
def qfx (P:Program) (tys:Array TypeId) (ty:TypeId) (args:List Value) (w:World) (K:Value->World->Prop):Prop:=∃ v w',(Builtin.copy_ tys ty args.toArray).run P w=.ok v w'/\K v w'
section
variable {P:Program} {e:Env} {w:World} {K:Value->World->Prop} {d:Option Nat} {ty:TypeId} {pos:String} {af:Array Edge} {g:Option (Nat × Bool)}
@[congr] theorem qpY {tys:Array TypeId} {ty:TypeId} {args args':List Value} {w:World} {K:Value->World->Prop} (h:args=args'):qfx P tys ty args w K=qfx P tys ty args' w K:=by rw [h]
def qmf {s x:Operand} {tys:Array TypeId}:wo P ⟨d,.call ⟨.builtin .copy,#[s,x],tys⟩,ty,pos,af,g⟩ e w K=qfx P tys ty [ev e s,ev e x] w K:=by
 simp only [wo,WO,execOp,resolve,invoke,builtin,Sem.run_bind,Sem.run_pure,Result.andThen_ok,xE,vB,vC,qfx];cases hr:(Builtin.copy_ tys ty #[ev e s,ev e x]).run P w with
 | ok v w' =>
  simp only [Result.andThen_ok,Sem.run_pure,RO];exact propext ⟨λh=>⟨v,w',rfl,h⟩,λ⟨v',w'',h,hk⟩=>by injection h with h1 h2; subst h1; subst h2; exact hk⟩
 | halt x w' =>
  simp only [Result.andThen_halt,RO];exact propext ⟨λh=>h.elim,λ⟨_,_,h,_⟩=>by cases h⟩
end
attribute [go_sem ↓] qmf
attribute [irreducible] qfx
end Go.E
namespace Go.Proofs.YtbjoghfmhgadkaaGreatDoor
open Go Go.E Go.Sp
def lz_ok {x:Nat} {w:World} (hx:x < 4294967296):Calls Tryz.prog 294 #[.int .u32 x] w λe w'=>e=.returned (.int .i64 (32-bl x:Nat))/\w=w':=by
 have hb:bl x<=32:=q0K hx;refine q5h Tryz.func294 rfl Tryz.ntmps294 κ ?_;refine Wz ?_;refine q1F λK hK=>?_;refine Zz ?_;refine qb5 qlt (qbA hx) ?_;rintro _ _ ⟨rfl,rfl⟩; refine ⟨_,rfl,?_⟩;have e1:IntKind.i64.wrap (32-((bl x:Nat):Int))=((32-bl x:Nat):Int):=by rw [i64_in Oq ω]; omega
 refine Zz1 e1 ?_;refine hK _ _ ?_; clear hK;refine qkB ?_
 try simp only [q9N,qoV]
 refine ret1 rfl ⟨rfl,rfl⟩
end Go.Proofs.YtbjoghfmhgadkaaGreatDoor
namespace Go.Sp
open Go.E
def qbQ {a b:List Nat} {j:Nat} (hl:a.length=b.length) (h:∀ k,k < j->a.getD k 0=b.getD k 0):a.take j=b.take j:=by
 apply xR
 intro k;rw [yG,yG]
 split
 .rename_i hk
  rcases zN k a.length with h1 | h1
  .have:=h k hk;rw [q0p h1,q0p ω] at this;rw [zC h1,zC Oq,this]
  .rw [w8 h1,w8 ω]
 .rfl
def q7W {a b:List Nat} {j:Nat} (hl:a.length=b.length) (h:∀ k,j<=k->a.getD k 0=b.getD k 0):a.drop j=b.drop j:=by
 apply xR
 intro k;rw [z8,z8]
 rcases zN (j+k) a.length with h1 | h1
 .have:=h (j+k) Oq;rw [q0p h1,q0p ω] at this;rw [zC h1,zC Oq,this]
 .rw [w8 h1,w8 ω]
def quB {b d v V:Nat} (h1:d < b) (h2:v < V):d+b*v < b*V:=by
 have h3:b*(v+1)<=b*V:=zO b h2;rw [zB,vE] at h3;omega
def qus {a p V r d q X:Nat} (h:a+p*(V*d+r)+V*q=X):a+p*r+V*(q+p*d)=X:=by
 rw [<- h,zB,zB,zW V p d];omega
section
variable {o o' qs:List Nat} {j n V X:Nat}
def q5R (ha:q01 o) (hV:V < B ^ n) (h:val (o.drop (j+1)) < V):val ((o.drop j).take (n+1)) < B*V/\val (o.drop (j+n+1))=0/\val (o.drop j)=val ((o.drop j).take (n+1)):=by
 have h1:val (o.drop (j+n+1))=0:=by
  have:=q2S (ha.drop (j+1)) n;rw [wO,show j+1+n=j+n+1 by omega] at this;rw [this];exact yF (Nat.lt_trans h hV)
 have h2:val (o.drop j)=val ((o.drop j).take (n+1)):=by
  rcases zN (n+1) (o.drop j).length with hl | hl
  .have:=q1C (o.drop j) (n+1) Oq;rw [wO,show j+(n+1)=j+n+1 by omega,h1,y7,yK] at this;exact this
  .rw [q0E _ _ hl]
 refine ⟨?_,h1,h2⟩;rw [<- h2,q16];exact quB (ha.get j) h
def q6L (ha:q01 o) (hV0:0 < V) (hV:V < B ^ n) (hl:o'.length=o.length) (h:val (o.drop (j+1)) < V) (hun:∀ k,k < j\/j+n < k->o'.getD k 0=o.getD k 0) (hr:val ((o'.drop j).take (n+1))=val ((o.drop j).take (n+1)) % V) (hj:j < qs.length) (hq:qs.getD j 0=0) (hjo:j<=o.length)
  (hX:val o+V*val qs=X):val o'+V*val (qs.set j (val ((o.drop j).take (n+1)) / V))=X/\val (o'.drop j) < V:=by
 obtain ⟨_,h1,h2⟩:=q5R ha hV h;have e1:=qbQ hl λk hk=>hun k (.inl hk);have e2:o'.drop (j+n+1)=o.drop (j+n+1):=q7W hl λk hk=>hun k (.inr Oq);have h3:val (o'.drop j)=val ((o'.drop j).take (n+1)):=by
  rcases zN (n+1) (o'.drop j).length with hl2 | hl2
  .have:=q1C (o'.drop j) (n+1) Oq;rw [wO,show j+(n+1)=j+n+1 by omega,e2,h1,y7,yK] at this;exact this
  .rw [q0E _ _ hl2]
 have s1:=q1C o j hjo;have s2:=q1C o' j Oq;rw [h2] at s1;rw [h3,e1,hr] at s2;have s3:=q3L (o:=qs) (p:=j) (val ((o.drop j).take (n+1)) / V) hj;rw [hq,y7,yK] at s3;refine ⟨?_,by rw [h3,hr]; exact zR _ hV0⟩;rw [s2,s3];rw [s1] at hX;have hdm:=zX (val ((o.drop j).take (n+1))) V;generalize val ((o.drop j).take (n+1)) / V=d at *;generalize val ((o.drop j).take (n+1)) % V=r at *;rw [<- hdm] at hX;exact qus hX
end
open Go
def qet (f:Nat):Nat:=if f / 4503599627370496 % 2048=2047/\f % 4503599627370496≠0 then 3 else if f / 4503599627370496 % 2048=2047 then 2 else if f / 4503599627370496 % 2048=0/\f % 4503599627370496=0 then 0 else 1
def u64v (x:Nat):Value:=.int .u64 (x:Int)
def q1A (a:Int) (n:Nat):Nat:=(a % 18446744073709551616).toNat % n
def qea {a:Int} {n:Nat} (h:0 < n):q1A a n < n:=zR _ h
def qm9 (raw:List Nat) (k:Int):Int :=
 if raw.length=0 then IntKind.u64.wrap (IntKind.u64.wrap (IntKind.i64.wrap (k+1))*11400714819323198485)
 else q0k .xor .u64 (IntKind.u64.wrap (IntKind.u64.wrap (IntKind.i64.wrap (k+1))*11400714819323198485)) ((raw.getD (q1A k raw.length) 0:Nat):Int)
def qm8 (x:Int):Int:=IntKind.u64.wrap (q0k .xor .u64 x (x.fdiv (2 ^ 31))*13787848793156543929)
def q9J (raw:List Nat) (k:Int):Int:=q0k .xor .u64 (qm8 (qm9 raw k)) ((qm8 (qm9 raw k)).fdiv (2 ^ 29))
def q44 (raw:List Nat) (k:Int):Nat:=(q9J raw k).toNat
def q7q (raw:List Nat) (k:Int):((q44 raw k:Nat):Int)=q9J raw k:=by
 have:0<=q9J raw k:=by
  unfold q9J
  show 0<=IntKind.u64.wrap _
  rw [q0v]; omega
 unfold q44; omega
def q3K (raw:List Nat) (k:Int):q44 raw k < 18446744073709551616:=by
 have h:=q7q raw k;have:q9J raw k < 18446744073709551616:=by
  unfold q9J
  show IntKind.u64.wrap _ < _
  rw [q0v]; omega
 omega
def flz (z:Int):Nat:=fR 0 (z*(2:Int) ^ 65536)
def q37 (x:Nat):Int:=(x % 19:Nat)-9
def q4j (x:Nat) : -9<=q37 x/\q37 x<=9:=by unfold q37; omega
def q7J {z:Int} (h:bl z.natAbs<=65536):mkV z 0=some (z*(2:Int) ^ 65536):=q51 Oq Oq
def flzK {z:Int} {K:Nat} (hK:K=65536) (hz:z.natAbs < 9007199254740992):ofF (if z*(2:Int) ^ K=0 then 0 else rF 0 (decide (z*(2:Int) ^ K < 0)) (z*(2:Int) ^ K).natAbs (2 ^ K))=some (z*(2:Int) ^ K)/\(if z*(2:Int) ^ K=0 then 0 else rF 0 (decide (z*(2:Int) ^ K < 0)) (z*(2:Int) ^ K).natAbs (2 ^ K)) < 18446744073709551616:=by
 by_cases h0:z=0
 .subst h0;rw [wX,if_pos rfl];refine ⟨?_,ω⟩;unfold ofF;rw [if_neg (by decide),if_pos (by decide),show sgn (decide (9223372036854775808<=0)) (0 % 4503599627370496)=0 from rfl,wX]
 .have hp:=q0N K;have hne:z*(2:Int) ^ K≠0:=Int.mul_ne_zero h0 (xZ hp);have hsg:decide (z*(2:Int) ^ K < 0)=decide (z < 0):=by
   rw [decide_eq_decide]
   constructor
   .intro h
    rcases Int.lt_or_le z 0 with h1 | h1
    .exact h1
    .have:=Int.mul_nonneg h1 (Int.le_of_lt hp); omega
   .intro h; exact xM h hp
  rw [if_neg hne,hsg,q0H];have hb:bl z.natAbs<=53:=q0K hz;have:=qan (mode:=0) (neg:=decide (z < 0)) (N:=z.natAbs*2 ^ K) (D:=2 ^ K) (M:=z.natAbs) (f:=0) (q0F K) Oq hb Oq Oq (by simp [zG]);rw [q08] at this;refine ⟨?_,this.2⟩;rw [this.1,hK]; rfl
def qfS {z:Int} (hz:z.natAbs < 9007199254740992):ofF (flz z)=some (z*(2:Int) ^ 65536):=(flzK rfl hz).1
def qu1 {z:Int} (hz:z.natAbs < 9007199254740992):flz z < 18446744073709551616:=(flzK rfl hz).2
def qoh {z:Int} (hz:z.natAbs < 9007199254740992):q0M (flz z):=λh=>by
 have:=qfS hz;unfold ofF at this; rw [if_pos h] at this; cases this
def qbk (x i:Nat):x &&& 2 ^ i=x / 2 ^ i % 2*2 ^ i:=by
 apply yX
 intro j;rw [vG,yQ]
 rcases xK (x / 2 ^ i) with h | h
 .rw [h,wV,Nat.zero_testBit]
  by_cases hj:i=j
  .subst hj;rw [yN,h]; simp
  .simp [hj]
 .rw [h,zY,yQ]
  by_cases hj:i=j
  .subst hj;rw [yN,h]; simp
  .simp [hj]
def qdm {x:Nat} (h:x < 18446744073709551616):x &&& 9223372036854775808=x / 9223372036854775808*9223372036854775808:=by
 have h1:=qbk x 63;have e:(2:Nat) ^ 63=9223372036854775808:=rfl;rw [e,zF (show x / 9223372036854775808 < 2 by omega)] at h1;exact h1
def qi4 {x:Nat}:x &&& 2251799813685248=x / 2251799813685248 % 2*2251799813685248:=by
 have h1:=qbk x 51;have e:(2:Nat) ^ 51=2251799813685248:=rfl;rw [e] at h1;exact h1
def qia {x:Nat}:x &&& 4503599627370495=x % 4503599627370496:=zQ x 52
def qa1 {a e s:Nat} (ha:a < 4503599627370496) (he:e < 2048):s*9223372036854775808 ||| a ||| e*4503599627370496=s*9223372036854775808+e*4503599627370496+a:=by
 have h1:a ||| e*4503599627370496=a+e*4503599627370496:=q1z (k:=52) ha;have h2:(a+e*4503599627370496) ||| s*9223372036854775808=a+e*4503599627370496+s*9223372036854775808:=q1z (k:=63) Oq;rw [Nat.or_assoc,h1,wY,h2];omega
def q2M (k x:Nat):Nat :=
 if k=1 then x / 9223372036854775808*9223372036854775808+(1019+x / 4503599627370496 % 8)*4503599627370496+x % 4503599627370496
 else if k=2 then x / 9223372036854775808*9223372036854775808+(983+x / 256 % 81)*4503599627370496+x / 2251799813685248 % 2*2251799813685248
 else if k=3 then (if x / 4503599627370496 % 2048=2047 then 0 else x)
 else flz (q37 x)
def num_1 {x:Nat} (h:x < 18446744073709551616):(x &&& 9227875636482146303) ||| (1019+x / 4503599627370496 % 8)*4503599627370496=q2M 1 x:=by
 have e:9227875636482146303=9223372036854775808 ||| 4503599627370495:=by decide
 rw [e,xW,qdm h,qia,qa1 (zR _ Oq) ω];unfold q2M; rw [if_pos rfl]
def num_2 {x:Nat} (h:x < 18446744073709551616):(x &&& 9225623836668461056) ||| (983+x / 256 % 81)*4503599627370496=q2M 2 x:=by
 have e:9225623836668461056=9223372036854775808 ||| 2251799813685248:=by decide
 rw [e,xW,qdm h,qi4,qa1 Oq ω];unfold q2M; rw [if_neg Oq,if_pos rfl]
end Go.Sp
namespace Go.Proofs.YtbjoghfmhgadkaaGreatDoor
open Go Go.E Go.Sp
end Go.Proofs.YtbjoghfmhgadkaaGreatDoor
namespace Go.Sp
open Go.E
def hf (q k:Nat) (inx:Bool):Int:=if (((q % 2 ^ k:Nat):Int)-2 ^ (k-1)).sign=0/\inx=true then 1 else (((q % 2 ^ k:Nat):Int)-2 ^ (k-1)).sign
def qoC (q:Nat) (e p:Int) (inx:Bool):Nat :=
 if p<=e then q*2 ^ (e-p).toNat
 else q / 2 ^ (p-e).toNat+(if ¬ (q % 2 ^ (p-e).toNat=0/\inx=false)/\(0 < hf q (p-e).toNat inx\/(hf q (p-e).toNat inx=0/\q / 2 ^ (p-e).toNat % 2=1)) then 1 else 0)
def qex {a b:Prop} [Decidable a] [Decidable b] (h:a ↔ b) (x y:Nat):(if a then x else y)=if b then x else y:=by
 by_cases ha:a
 .rw [if_pos ha,if_pos (h.1 ha)]
 .rw [if_neg ha,if_neg (λhb=>ha (h.2 hb))]
def qo9 {N M k:Nat} (hk:0 < k):hf (N / M) k (decide (N % M≠0))=q9e N M k:=by
 have hp:2 ^ k=2 ^ (k-1)*2:=by rw [<- zD]; congr 1; omega
 have hp0:=q0F (k-1);have hs:=xQ (x:=N / M) (a:=2 ^ (k-1)) (b:=2);rw [<- hp] at hs;have hs':=zR (N / M) hp0;have hb2:N / M / 2 ^ (k-1) % 2 < 2:=zR _ Oq;unfold hf q9e;rw [<- q0T];generalize N / M % 2 ^ k=s at *;generalize N / M % 2 ^ (k-1)=s' at *;generalize N / M / 2 ^ (k-1) % 2=b at *;generalize N % M=r at *;generalize 2 ^ (k-1)=h at *
 by_cases hb:b=1
 .subst hb;have hss:((s:Nat):Int)-(h:Nat)=(s':Nat):=ω
  rw [hss,if_pos (show 0 < k/\1=1 from ⟨hk,rfl⟩)]
  by_cases h0:s'=0
  .subst h0
   by_cases hr:r=0
   .subst hr; simp
   .simp [hr]
  .have h1:(((s':Nat):Int)).sign=1:=Int.sign_eq_one_of_pos Oq;rw [h1,if_neg σ,if_pos (.inr h0)]
 .have:b=0:=ω
  subst this;have h1:(((s:Nat):Int)-(h:Nat)).sign = -1:=Int.sign_eq_neg_one_of_neg Oq;rw [h1,if_neg ω]; simp
def qoB {neg:Bool} {N M:Nat} {e p:Int} (hM:0 < M) (hk:N % M≠0->e < p):qoC (N / M) e p (decide (N % M≠0))=rq 0 neg (N*2 ^ (e-p).toNat) (M*2 ^ (p-e).toNat):=by
 unfold qoC
 by_cases hpe:p<=e
 .rw [if_pos hpe,show (p-e).toNat=0 by omega,yL,vE];have hr:N % M=0:=by
   rcases yH (N % M) with h | h
   .exact h
   .have:=hk ω; omega
  have hd:N=N / M*M:=by have:=zX N M; rw [zG] at this; omega
  rw [q39 (by rw [hd,z9]; exact Nat.mul_mod_left _ _)]
  conv=>rhs; rw [hd,z9,Nat.mul_div_cancel _ hM]
 .rw [if_neg hpe,show (e-p).toNat=0 by omega,yL,vE];have hk0:0 < (p-e).toNat:=ω
  rw [qn4 hM (λ_=>hk0),qo9 hk0]
  congr 1
  unfold upS;have z1:¬ (0:Int)=1:=ω
  have z2:¬ (0:Int)=2:=ω
  have z3:¬ (0:Int)=3:=ω
  simp only [z1,z2,z3,if_false,Bool.or_eq_true,zE,decide_eq_true_eq,decide_eq_false_iff_not,Decidable.not_not];refine qex (and_congr ?_ Iff.rfl) _ _
  constructor
  .intro h
   by_cases h0:N / M % 2 ^ (p-e).toNat=0
   .exact .inr λh1=>h ⟨h0,h1⟩
   .exact .inl h0
  .rintro (h | h) ⟨h1,h2⟩
   .exact h h1
   .exact h h2
def q8l {N M:Nat} (hM:M≠0) {k:Nat} (h:bl M+k < bl N):k < bl (N / M):=by
 rcases zN k (bl (N / M)) with h1 | h1
 .exact h1
 .exfalso
  have h2:=q17 h1;have h3:=q24 M;have h4:N < 2 ^ k*2 ^ bl M:=by
   have h5:=zX N M;have h6:=zR N (show 0 < M by omega);have h7:M*(N / M)+M<=M*2 ^ k:=by rw [<- xY]; exact zO _ h2
   have h8:M*2 ^ k<=2 ^ bl M*2 ^ k:=zJ _ (yZ h3);rw [zG (2 ^ k)]; omega
  rw [<- zI] at h4;have:=q0K h4;omega
def qkx {mode:Int} {neg:Bool} {a b:Int} {k:Nat} (ha:a≠0) (hb:b≠0):rE mode neg ((od a).natAbs*2 ^ k) (od b).natAbs (dyE a-k-dyE b)=rF mode neg a.natAbs b.natAbs:=by
 have ha1:=q6R a;have hb1:=q6R b;have ha2:=q3f ha;have hb2:=q3f hb;have hoa:0 < (od a).natAbs:=ω
 have hob:0 < (od b).natAbs:=ω
 have hda:dyE a=(tz a.natAbs:Int)-65536:=by unfold dyE; rw [if_neg ha]
 have hdb:dyE b=(tz b.natAbs:Int)-65536:=by unfold dyE; rw [if_neg hb]
 unfold rE;refine q6z (zV (zV hoa (q0F _)) (q0F _)) (zV hob (q0F _)) Oq Oq ?_;rw [hda,hdb];generalize tz a.natAbs=x at *;generalize tz b.natAbs=y at *;generalize (od a).natAbs=p at *;generalize (od b).natAbs=r at *;rw [<- ha1,<- hb1];have e1:p*2 ^ k*2 ^ (((x:Int)-65536-k-((y:Int)-65536)).toNat)*(r*2 ^ y)=p*r*2 ^ (k+((x:Int)-65536-k-((y:Int)-65536)).toNat+y):=by
  rw [zI,zI];simp only [zA,zW,zG]
 have e2:p*2 ^ x*(r*2 ^ (-((x:Int)-65536-k-((y:Int)-65536))).toNat)=p*r*2 ^ (x+(-((x:Int)-65536-k-((y:Int)-65536))).toNat):=by
  rw [zI];simp only [zA,zW,zG]
 rw [e1,e2]
 congr 2
 omega
end Go.Sp
namespace Go.Dt
abbrev Mx:=Nat->Nat->Rat
def sq (g:Nat->Rat):Nat->Rat
 | 0=>0
 | n+1=>sq g n+g n
def q00 {g h:Nat->Rat}:∀ n,(∀ i,i < n->g i=h i)->sq g n=sq h n
 | 0,_=>rfl
 | n+1,e=>by rw [sq,sq,q00 n λi hi=>e i Oq,e n ω]
def q2e {g h:Nat->Rat} {a b:Rat}:∀ n,sq (λi=>a*g i+b*h i) n=a*sq g n+b*sq h n
 | 0=>by simp [sq]; grind
 | n+1=>by rw [sq,sq,sq,q2e n]; grind
def q2X {g:Nat->Rat}:∀ n,(∀ i,i < n->g i=0)->sq g n=0
 | 0,_=>rfl
 | n+1,e=>by rw [sq,q2X n λi hi=>e i Oq,e n ω]; grind
def q5O {g:Nat->Rat} {k:Nat}:∀ n,k < n->(∀ i,i < n->i≠k->g i=0)->sq g n=g k
 | 0,h,_=>by omega
 | n+1,h,e=>by
  rw [sq]
  by_cases hk:k=n
  .subst hk; rw [q2X k λi hi=>e i Oq ω]; grind
  .rw [q5O n Oq λi hi hn=>e i Oq hn,e n Oq ω]; grind
def qkg {g:Nat->Rat} {k:Nat}:∀ n,k+1 < n->g k+g (k+1)=0->(∀ i,i < n->i≠k->i≠k+1->g i=0)->sq g n=0
 | 0,h,_,_=>by omega
 | n+1,h,h2,e=>by
  rw [sq]
  by_cases hk:k+1=n
  .subst hk;rw [sq,q2X k λi hi=>e i Oq Oq ω]; grind
  .rw [qkg n Oq h2 λi hi a b=>e i Oq a b,e n Oq Oq ω]; grind
def sg1 (i:Nat):Rat:=if i % 2=0 then 1 else -1
def sg1_s (i:Nat):sg1 (i+1) = -sg1 i:=by unfold sg1; rcases xK i with h | h <;> simp [h,Nat.add_mod]
def mn (A:Mx) (i:Nat):Mx:=λr c=>A (if r < i then r else r+1) (c+1)
def det:Nat->Mx->Rat
 | 0,_=>1
 | n+1,A=>sq (λi=>sg1 i*A i 0*det n (mn A i)) (n+1)
def q3q:∀ (n:Nat) {A B:Mx},(∀ i j,i < n->j < n->A i j=B i j)->det n A=det n B
 | 0,_,_,_=>rfl
 | n+1,A,B,h=>by
  rw [det,det];refine q00 _ λi hi=>?_;rw [h i 0 hi Oq,q3q n (A:=mn A i) (B:=mn B i) λr c hr hc=>?_];unfold mn;refine h _ _ ?_ Oq
  split <;> omega
def rw' (A:Mx) (k:Nat) (u:Nat->Rat):Mx:=λi j=>if i=k then u j else A i j
def cw (A:Mx) (k:Nat) (u:Nat->Rat):Mx:=λi j=>if j=k then u i else A i j
def q7I {A:Mx} {k:Nat} {u:Nat->Rat}:mn (rw' A k u) k=mn A k:=by
 funext r c
 unfold mn rw';rw [if_neg (by split <;> omega)]
def q7H {A:Mx} {k i:Nat} {u:Nat->Rat} (h:i≠k):mn (rw' A k u) i=rw' (mn A i) (if k < i then k else k-1) λc=>u (c+1):=by
 funext r c
 unfold mn rw'
 by_cases e:(if r < i then r else r+1)=k
 .rw [if_pos e,if_pos (by split at e <;> split <;> omega)]
 .have e2:¬ r=if k < i then k else k-1:=λq=>e (by
   by_cases h1:k < i
   .rw [if_pos h1] at q; rw [if_pos ω]; exact q
   .rw [if_neg h1] at q; rw [if_neg ω]; omega)
  rw [if_neg e,if_neg e2]
def q5c:∀ (n:Nat) {A:Mx} {k:Nat} {u v:Nat->Rat} {a b:Rat},k < n->det n (rw' A k λj=>a*u j+b*v j)=a*det n (rw' A k u)+b*det n (rw' A k v)
 | 0,_,_,_,_,_,_,h=>by omega
 | n+1,A,k,u,v,a,b,h=>by
  rw [det,det,det,<- q2e];refine q00 _ λi hi=>?_
  by_cases e:i=k
  .subst e;rw [q7I,q7I,q7I];simp only [rw',if_true]
   grind
  .rw [q7H e,q7H e,q7H e,q5c n (by split <;> omega)];simp only [rw',if_neg e]
   grind
def q9t:∀ (n:Nat) {A:Mx} {k:Nat},k+1 < n->(∀ j,A k j=A (k+1) j)->det n A=0
 | 0,_,_,h,_=>by omega
 | n+1,A,k,h,e=>by
  rw [det];refine qkg (k:=k) _ h ?_ λi hi a b=>?_
  .have:mn A k=mn A (k+1):=by
    funext r c
    unfold mn
    by_cases hr:r=k
    .subst hr; rw [if_neg Oq,if_pos Oq,e]
    .by_cases h2:r < k
     .rw [if_pos h2,if_pos ω]
     .rw [if_neg h2,if_neg ω]
   rw [this,sg1_s,e]
   grind
  .rw [q9t n (A:=mn A i) (k:=if i < k then k-1 else k) (by split <;> omega) λj=>?_]
   .grind
   .unfold mn
    by_cases q:i < k
    .rw [if_pos q,if_neg Oq,if_neg ω];rw [show k-1+1=k by omega];exact e _
    .rw [if_neg q,if_pos Oq,if_pos ω];exact e _
def qcF {A:Mx} {i k:Nat} {u v:Nat->Rat} (h:i≠k):rw' (rw' A i u) k v=rw' (rw' A k v) i u:=by
 funext r c
 unfold rw'
 by_cases h1:r=k
 .rw [if_pos h1,if_neg Oq,if_pos h1]
 .rw [if_neg h1]
  by_cases h2:r=i
  .rw [if_pos h2,if_pos h2]
  .rw [if_neg h2,if_neg h2,if_neg h1]
def q9X {A:Mx} {k:Nat}:rw' A k (A k)=A:=by
 funext r c
 unfold rw'
 split
 .rename_i h; rw [h]
 .rfl
def swp (A:Mx) (i k:Nat):Mx:=λr=>if r=i then A k else if r=k then A i else A r
def qsI {A:Mx} {i k:Nat} (h:i≠k):swp A i k=rw' (rw' A i (A k)) k (A i):=by
 funext r c
 unfold swp rw'
 by_cases h1:r=i
 .rw [if_pos h1,if_neg Oq,if_pos h1]
 .rw [if_neg h1]
  by_cases h2:r=k
  .rw [if_pos h2,if_pos h2]
  .rw [if_neg h2,if_neg h2,if_neg h1]
def q6X {n:Nat} {A:Mx} {i k:Nat} (hi:i < n) (hk:k < n) (h:i≠k) (hz:∀ u,det n (rw' (rw' A i u) k u)=0):det n (swp A i k) = -det n A:=by
 have e:=hz λj=>1*A i j+1*A k j;rw [q5c n hk,qcF h,qcF h,q5c n hi,q5c n hi] at e;rw [qcF (Ne.symm h),qcF (Ne.symm h),qcF (Ne.symm h),qcF (Ne.symm h)] at e;have z1:=hz (A i);have z2:=hz (A k);have s1:rw' (rw' A i (A i)) k (A k)=A:=by rw [q9X,q9X]
 rw [z1,z2,s1,<- qsI h] at e
 grind
def qfq:∀ (d:Nat) {n:Nat} {A:Mx} {i:Nat},i+d+1 < n->(∀ j,A i j=A (i+d+1) j)->det n A=0
 | 0,n,A,i,h,e=>q9t n h e
 | d+1,n,A,i,h,e=>by
  have s:=q6X (n:=n) (A:=A) (i:=i+d+1) (k:=i+d+2) Oq Oq Oq λu=>q9t n (k:=i+d+1) Oq λj=>by
   unfold rw';rw [if_neg Oq,if_pos rfl,if_pos rfl]
  have z:=qfq d (n:=n) (A:=swp A (i+d+1) (i+d+2)) (i:=i) Oq λj=>by
   unfold swp;rw [if_neg Oq,if_neg Oq,if_pos rfl];exact e j
  grind
def qbW {n:Nat} {A:Mx} {i k:Nat} (hi:i < n) (hk:k < n) (h:i≠k) (e:∀ j,A i j=A k j):det n A=0:=by
 rcases Nat.lt_or_gt_of_ne h with q | q
 .obtain ⟨d,rfl⟩:∃ d,k=i+d+1:=⟨k-i-1,by omega⟩;exact qfq d hk e
 .obtain ⟨d,rfl⟩:∃ d,i=k+d+1:=⟨i-k-1,by omega⟩;exact qfq d hi fun j=>(e j).symm
def qpR {n:Nat} {A:Mx} {i k:Nat} (hi:i < n) (hk:k < n) (h:i≠k):det n (swp A i k) = -det n A :=
 q6X hi hk h λu=>qbW hi hk h λj=>by
  unfold rw';rw [if_neg h,if_pos rfl,if_pos rfl]
def qj1 {n:Nat} {A:Mx} {m k:Nat} {c:Rat} (hm:m < n) (hk:k < n) (h:m≠k):det n (rw' A m λj=>A m j+c*A k j)=det n A:=by
 have e:=q5c n (A:=A) (k:=m) (u:=A m) (v:=A k) (a:=1) (b:=c) hm;rw [q9X,qbW (A:=rw' A m (A k)) hm hk h λj=>by unfold rw'; rw [if_pos rfl,if_neg (Ne.symm h)]] at e;have e2:(λj=>A m j+c*A k j)=λj=>1*A m j+c*A k j:=by funext j; grind
 rw [e2,e]
 grind
def pr (g:Nat->Rat):Nat->Rat
 | 0=>1
 | n+1=>pr g n*g n
def q7D {g:Nat->Rat}:∀ n,pr g (n+1)=g 0*pr (λi=>g (i+1)) n
 | 0=>by simp [pr]
 | n+1=>by rw [pr,q7D n,pr]; grind
def qt3 {g:Nat->Rat}:∀ n,(∀ i,i < n->g i≠0)->pr g n≠0
 | 0,_=>by simp [pr]
 | n+1,h=>by
  have h1:=qt3 n λi hi=>h i Oq;have h2:=h n Oq;rw [pr];intro e
  rcases Rat.mul_eq_zero.1 e with e | e
  .exact h1 e
  .exact h2 e
def qlj:∀ (n:Nat) {A:Mx},(∀ i j,i < n->j < i->A i j=0)->det n A=pr (λi=>A i i) n
 | 0,_,_=>rfl
 | n+1,A,h=>by
  rw [det,q5O (k:=0) _ Oq λi hi h0=>by rw [h i 0 hi ω]; grind,qlj n (A:=mn A 0) λi j hi hj=>?_,q7D]
  .unfold mn;simp only [Nat.not_lt_zero,if_false];simp [sg1]
  .unfold mn;rw [if_neg ω];exact h _ _ Oq Oq
def qeb {A:Mx} {u:Nat->Rat} {i:Nat}:mn (cw A 0 u) i=mn A i:=by
 funext r c
 unfold mn cw;rw [if_neg ω]
def qoF {A:Mx} {u:Nat->Rat} {i k:Nat}:mn (cw A (k+1) u) i=cw (mn A i) k λr=>u (if r < i then r else r+1):=by
 funext r c
 unfold mn cw
 by_cases h:c=k
 .rw [if_pos Oq,if_pos h]
 .rw [if_neg Oq,if_neg h]
def q9s:∀ (n:Nat) {A:Mx} {k:Nat} {u v:Nat->Rat} {a b:Rat},k < n->det n (cw A k λj=>a*u j+b*v j)=a*det n (cw A k u)+b*det n (cw A k v)
 | 0,_,_,_,_,_,_,h=>by omega
 | n+1,A,0,u,v,a,b,h=>by
  rw [det,det,det,<- q2e];refine q00 _ λi hi=>?_;rw [qeb,qeb,qeb];simp only [cw,if_true]
  grind
 | n+1,A,k+1,u,v,a,b,h=>by
  rw [det,det,det,<- q2e];refine q00 _ λi hi=>?_;rw [qoF,qoF,qoF,q9s n ω];simp only [cw,show (0=k+1)=False by simp,if_false]
  grind
def qbX {n:Nat} {A:Mx} {k:Nat} {y:Nat->Rat} {u:Nat->Nat->Rat} (hk:k < n):∀ m,det n (cw A k λi=>sq (λc=>y c*u c i) m)=sq (λc=>y c*det n (cw A k (u c))) m
 | 0=>by
  have e:=q9s n (A:=A) (k:=k) (u:=λ_=>0) (v:=λ_=>0) (a:=0) (b:=0) hk;simp only [sq];have e2:(λj:Nat=>(0:Rat)*0+0*0)=λ_=>0:=by funext j; grind
  rw [e2] at e;rw [e]; grind
 | m+1=>by
  have e:=q9s n (A:=A) (k:=k) (u:=λi=>sq (λc=>y c*u c i) m) (v:=u m) (a:=1) (b:=y m) hk;rw [sq,<- qbX hk m];have e2:(λi=>sq (λc=>y c*u c i) (m+1))=λi=>1*sq (λc=>y c*u c i) m+y m*u m i:=by funext i; rw [sq]; grind
  rw [e2,e]
  grind
def mv (n:Nat) (A:Mx) (x:Nat->Rat) (i:Nat):Rat:=sq (λc=>A i c*x c) n
structure RE (n:Nat) (A B:Mx) (s:Rat):Prop where
 d:det n A=s*det n B
 k:∀ x,(∀ i,i < n->mv n B x i=0)->∀ i,i < n->mv n A x i=0
 k':∀ x,(∀ i,i < n->mv n A x i=0)->∀ i,i < n->mv n B x i=0
 b:∀ b:Nat->Rat,∃ b':Nat->Rat,∀ x,(∀ i,i < n->mv n B x i=b' i)->∀ i,i < n->mv n A x i=b i
def RE.refl {n:Nat} {A:Mx}:RE n A A 1:=⟨by grind,λ_ h=>h,λ_ h=>h,λb=>⟨b,λ_ h=>h⟩⟩
def RE.trans {n:Nat} {A B C:Mx} {s t:Rat} (h:RE n A B s) (g:RE n B C t):RE n A C (s*t) :=
 ⟨by rw [h.d,g.d]; grind,λx q=>h.k x (g.k x q),λx q=>g.k' x (h.k' x q),λb=>by
  obtain ⟨b',hb⟩:=h.b b;obtain ⟨c,hc⟩:=g.b b';exact ⟨c,λx q=>hb x (hc x q)⟩⟩
def q5Y {n:Nat} {A:Mx} {x:Nat->Rat} {i k r:Nat}:mv n (swp A i k) x r=if r=i then mv n A x k else if r=k then mv n A x i else mv n A x r:=by
 unfold mv swp
 split
 .rfl
 .split <;> rfl
def RE.swp {n:Nat} {A:Mx} {i k:Nat} (hi:i < n) (hk:k < n):RE n A (swp A i k) (if i=k then 1 else -1):=by
 refine ⟨?_,λx h r hr=>?_,λx h r hr=>?_,λb=>⟨λr=>if r=i then b k else if r=k then b i else b r,λx h r hr=>?_⟩⟩
 .by_cases e:i=k
  .subst e;have:Go.Dt.swp A i i=A:=by
    funext r
    unfold Go.Dt.swp
    by_cases h:r=i
    .rw [if_pos h,h]
    .rw [if_neg h,if_neg h]
   rw [this,if_pos rfl]; grind
  .rw [if_neg e,qpR hi hk e]; grind
 .by_cases h1:r=i
  .have:=h k hk;rw [q5Y] at this
   by_cases h2:k=i
   .rw [if_pos h2] at this; rw [h1,<- h2]; exact this
   .rw [if_neg h2,if_pos rfl] at this; rw [h1]; exact this
  .by_cases h2:r=k
   .have:=h i hi;rw [q5Y,if_pos rfl] at this;rw [h2]; exact this
   .have:=h r hr;rw [q5Y,if_neg h1,if_neg h2] at this;exact this
 .rw [q5Y]
  split
  .exact h k hk
  .split
   .exact h i hi
   .exact h r hr
 .by_cases h1:r=i
  .have:=h k hk;rw [q5Y] at this;dsimp only at this
   by_cases h2:k=i
   .rw [if_pos h2,if_pos h2] at this; rw [h1,<- h2]; rw [h2] at this ⊢; exact this
   .rw [if_neg h2,if_pos rfl,if_neg h2,if_pos rfl] at this; rw [h1]; exact this
  .by_cases h2:r=k
   .have:=h i hi;rw [q5Y] at this;dsimp only at this;rw [if_pos rfl,if_pos rfl] at this;rw [h2]; exact this
   .have:=h r hr;rw [q5Y] at this;dsimp only at this;rw [if_neg h1,if_neg h2,if_neg h1,if_neg h2] at this;exact this
def qe5 {n:Nat} {A:Mx} {x:Nat->Rat} {m k r:Nat} {c:Rat}:mv n (rw' A m λj=>A m j+c*A k j) x r=if r=m then mv n A x m+c*mv n A x k else mv n A x r:=by
 unfold mv rw'
 split
 .have:(λj=>(A m j+c*A k j)*x j)=λj=>1*(A m j*x j)+c*(A k j*x j):=by funext j; grind
  rw [this,q2e]; grind
 .rfl
def RE.add {n:Nat} {A:Mx} {m k:Nat} {c:Rat} (hm:m < n) (hk:k < n) (h:m≠k):RE n A (rw' A m λj=>A m j+c*A k j) 1:=by
 refine ⟨?_,λx q r hr=>?_,λx q r hr=>?_,λb=>⟨λr=>if r=m then b m+c*b k else b r,λx q r hr=>?_⟩⟩
 .rw [qj1 hm hk h]; grind
 .have h1:=q m hm;have h2:=q k hk;have h3:=q r hr;rw [qe5] at h1 h2 h3;rw [if_pos rfl] at h1;rw [if_neg (Ne.symm h)] at h2
  by_cases e:r=m
  .subst e; grind
  .rw [if_neg e] at h3; exact h3
 .rw [qe5]
  split
  .rw [q m hm,q k hk]; grind
  .exact q r hr
 .have h1:=q m hm;have h2:=q k hk;have h3:=q r hr;rw [qe5] at h1 h2 h3;dsimp only at h1 h2 h3;rw [if_pos rfl,if_pos rfl] at h1;rw [if_neg (Ne.symm h),if_neg (Ne.symm h)] at h2
  by_cases e:r=m
  .subst e; grind
  .rw [if_neg e,if_neg e] at h3; exact h3
def el (A:Mx) (k j m:Nat):Mx:=λr c=>if k < r/\r < m/\j<=c then A r c-A r j*A k c / A k j else A r c
def el_s {A:Mx} {k j m:Nat} (hkm:k < m) (h0:∀ c,c < j->A k c=0):el A k j (m+1)=rw' (el A k j m) m λc=>el A k j m m c+(-(A m j / A k j))*el A k j m k c:=by
 funext r c
 unfold el rw';dsimp only
 by_cases h:r=m
 .subst h;have e1:¬ (k < r/\r < r/\j<=c):=ω
  have e2:¬ (k < k/\k < r/\j<=c):=ω
  rw [if_pos rfl,if_neg e1,if_neg e2]
  by_cases hc:j<=c
  .rw [if_pos ω];have:A r j*A k c / A k j=A r j / A k j*A k c:=by rw [Rat.div_def,Rat.div_def]; grind
   rw [this]; grind
  .rw [if_neg Oq,h0 c ω]; grind
 .rw [if_neg h]
  by_cases hc:k < r/\r < m/\j<=c
  .rw [if_pos hc,if_pos ω]
  .rw [if_neg hc,if_neg ω]
def el_0 {A:Mx} {k j m:Nat} (h:m<=k+1):el A k j m=A:=by
 funext r c
 unfold el;rw [if_neg ω]
def RE.el {n:Nat} {A:Mx} {k j:Nat} (hk:k < n) (h0:∀ c,c < j->A k c=0):∀ m,m<=n->RE n A (el A k j m) 1
 | 0,_=>by rw [el_0 ω]; exact RE.refl
 | m+1,hm=>by
  by_cases h:k < m
  .rw [el_s h h0];have:=(RE.el hk h0 m Oq).trans (RE.add (A:=Go.Dt.el A k j m) (m:=m) (k:=k) (c := -(A m j / A k j)) Oq hk Oq);have e:(1:Rat)*1=1:=by grind
   rwa [e] at this
  .rw [el_0 ω]; exact RE.refl
structure Up (n j:Nat) (A:Mx):Prop where
 z:∀ i c,i < n->c < j->c < i->A i c=0
 d:∀ c,c < j->A c c≠0
def qac {g:Nat->Rat} {m:Nat}:∀ d,(∀ i,m<=i->i < m+d->g i=0)->sq g (m+d)=sq g m
 | 0,_=>rfl
 | d+1,h=>by rw [<- yO,sq,qac d λi h1 h2=>h i h1 Oq,h (m+d) Oq ω]; grind
def qdJ:∀ (n:Nat) {A:Mx},Up n n A->∀ b:Nat->Rat,∃ x,∀ i,i < n->mv n A x i=b i
 | 0,_,_,_=>⟨λ_=>0,λ_ h=>by omega⟩
 | n+1,A,h,b=>by
  obtain ⟨x,hx⟩:=qdJ n (A:=A) ⟨λi c hi hc q=>h.z i c Oq Oq q,λc hc=>h.d c Oq⟩ λi=>b i-A i n*(b n / A n n);refine ⟨λc=>if c=n then b n / A n n else x c,λi hi=>?_⟩;unfold mv;rw [sq];dsimp only;rw [if_pos rfl]
  by_cases e:i=n
  .subst e;rw [q2X i λc hc=>by rw [h.z i c Oq Oq hc]; grind];have:=h.d i Oq;have e2:A i i*(b i / A i i)=b i:=by rw [Rat.mul_comm]; exact Rat.div_mul_cancel this
   rw [e2]; grind
  .have:=hx i Oq;unfold mv at this;rw [q00 n λc hc=>by rw [if_neg (show c≠n by omega)],this]
   grind
def qkO:∀ (n:Nat) {A:Mx} {x:Nat->Rat},Up n n A->(∀ i,i < n->mv n A x i=0)->∀ i,i < n->x i=0
 | 0,_,_,_,_,_,h=>by omega
 | n+1,A,x,h,q,i,hi=>by
  have hn:x n=0:=by
   have:=q n Oq;unfold mv at this;rw [sq,q2X n λc hc=>by rw [h.z n c Oq Oq hc]; grind] at this;have hd:=h.d n Oq;have h0:A n n*x n=0:=by grind
   rcases Rat.mul_eq_zero.1 h0 with e | e
   .exact absurd e hd
   .exact e
  by_cases e:i=n
  .rw [e]; exact hn
  .refine qkO n (A:=A) ⟨λi c hi hc q=>h.z i c Oq Oq q,λc hc=>h.d c Oq⟩ (λi hi=>?_) i Oq;have:=q i Oq;unfold mv at this ⊢;rw [sq,hn] at this
   grind
def shf (A:Mx) (j:Nat):Mx:=λr c=>A (r+j) (c+j)
def qvV {n:Nat} {A:Mx} (h:∀ i,i < n+1->i≠0->A i 0=0):det (n+1) A=A 0 0*det n (shf A 1):=by
 have e:mn A 0=shf A 1:=by
  funext r c
  unfold mn shf;rw [if_neg ω]
 rw [det,q5O (k:=0) _ Oq λi hi h0=>by rw [h i hi h0]; grind,e];simp [sg1]
def qfr:∀ (j:Nat) {d:Nat} {A:Mx},(∀ i c,i < j+d->c < j->c < i->A i c=0)->det (j+d) A=pr (λi=>A i i) j*det d (shf A j)
 | 0,d,A,_=>by
  have:shf A 0=A:=rfl;rw [this,yS,pr]; grind
 | j+1,d,A,h=>by
  rw [show j+1+d=(j+d)+1 by omega,qvV λi hi h0=>h i 0 Oq Oq Oq,qfr j (d:=d) (A:=shf A 1) λi c hi hc q=>h (i+1) (c+1) Oq Oq Oq,q7D];have:shf (shf A 1) j=shf A (j+1):=by
   funext r c
   unfold shf;rw [yO,yO]
  rw [this];unfold shf
  grind
def qfo {n j:Nat} {A:Mx} (hj:j < n) (h:∀ i c,i < n->c < j->c < i->A i c=0) (hz:∀ i,i < n->j<=i->A i j=0):det n A=0:=by
 obtain ⟨d,rfl⟩:∃ d,n=j+(d+1):=⟨n-j-1,ω⟩;rw [qfr j h,det,q2X _ λi hi=>by
  have:shf A j i 0=0:=by unfold shf; rw [yS]; exact hz (i+j) Oq Oq
  rw [this]; grind]
 grind
def qeu {n j:Nat} {A:Mx} (hj:j < n) (h:Up n j A) (hz:∀ i,i < n->j<=i->A i j=0):∃ x:Nat->Rat,(∀ i,i < n->mv n A x i=0)/\x j≠0:=by
 obtain ⟨y,hy⟩:=qdJ j (A:=A) ⟨λi c hi hc q=>h.z i c Oq hc q,h.d⟩ λi => -(A i j);refine ⟨λc=>if c < j then y c else if c=j then 1 else 0,λi hi=>?_,?_⟩
 .obtain ⟨d,rfl⟩:∃ d,n=(j+1)+d:=⟨n-j-1,ω⟩;unfold mv;rw [qac d λc h1 h2=>by dsimp only; rw [if_neg Oq,if_neg ω]; grind,sq];dsimp only;rw [if_neg (Nat.lt_irrefl _),if_pos rfl,q00 j (h:=λc=>A i c*y c) λc hc=>by rw [if_pos hc]]
  by_cases e:i < j
  .have:=hy i e;unfold mv at this;rw [this]; grind
  .rw [q2X j λc hc=>by rw [h.z i c hi hc ω]; grind,hz i hi ω]; grind
 .dsimp only;rw [if_neg (Nat.lt_irrefl _),if_pos rfl]; decide
def fnz (A:Mx) (j:Nat):Nat->Nat->Nat
 | i,0=>i
 | i,m+1=>if A i j=0 then fnz A j (i+1) m else i
def qbH {A:Mx} {j:Nat}:∀ m i,(fnz A j i m=i+m/\∀ t,i<=t->t < i+m->A t j=0)\/(i<=fnz A j i m/\fnz A j i m < i+m/\A (fnz A j i m) j≠0)
 | 0,i=>.inl ⟨rfl,λt h1 h2=>by omega⟩
 | m+1,i=>by
  rw [fnz]
  by_cases h:A i j=0
  .rw [if_pos h]
   rcases qbH (A:=A) (j:=j) m (i+1) with ⟨q1,q2⟩ | ⟨q1,q2,q3⟩
   .refine .inl ⟨ω,λt h1 h2=>?_⟩
    by_cases e:t=i
    .rw [e]; exact h
    .exact q2 t Oq Oq
   .exact .inr ⟨ω,ω,q3⟩
  .rw [if_neg h];exact .inr ⟨yB _,ω,h⟩
def est (n j:Nat) (s:Mx × Nat × Rat):Mx × Nat × Rat :=
 if fnz s.1 j s.2.1 (n-s.2.1)=n then s else
  (el (swp s.1 (fnz s.1 j s.2.1 (n-s.2.1)) s.2.1) s.2.1 j n,s.2.1+1,(if fnz s.1 j s.2.1 (n-s.2.1)=s.2.1 then s.2.2 else -s.2.2)*swp s.1 (fnz s.1 j s.2.1 (n-s.2.1)) s.2.1 s.2.1 j)
def ech (n:Nat) (A:Mx):Nat->Mx × Nat × Rat
 | 0=>(A,0,1)
 | j+1=>est n j (ech n A j)
def dtE (n:Nat) (A:Mx):Rat:=if (ech n A n).2.1 < n then 0 else (ech n A n).2.2
def EI (n j:Nat) (A:Mx) (s:Mx × Nat × Rat):Prop:=(s.2.1=j/\∃ g:Rat,g≠0/\RE n A s.1 g/\Up n j s.1/\s.2.2=g*pr (λt=>s.1 t t) j)\/(s.2.1 < j/\det n A=0/\∃ x t,t < n/\(∀ i,i < n->mv n A x i=0)/\x t≠0)
def qaq {g h:Nat->Rat}:∀ n,(∀ i,i < n->g i=h i)->pr g n=pr h n
 | 0,_=>rfl
 | n+1,e=>by rw [pr,pr,qaq n λi hi=>e i Oq,e n ω]
def EI.s {n j:Nat} {A:Mx} {s:Mx × Nat × Rat} (hj:j < n) (h:EI n j A s):EI n (j+1) A (est n j s):=by
 obtain ⟨B,k,d⟩:=s;unfold est;dsimp only
 rcases h with ⟨h1,g,hg,hR,hU,hd⟩ | ⟨h1,h2⟩
 .dsimp only at h1 hR hU hd;subst h1
  rcases qbH (A:=B) (j:=k) (n-k) k with ⟨q1,q2⟩ | ⟨q1,q2,q3⟩
  .rw [if_pos ω];obtain ⟨x,hx,ht⟩:=qeu hj hU λi hi hk=>q2 i hk Oq;refine .inr ⟨by dsimp only; omega,?_,x,k,hj,hR.k x hx,ht⟩;rw [hR.d,qfo hj hU.z λi hi hk=>q2 i hk ω]; grind
  .generalize fnz B k k (n-k)=i at *;rw [if_neg ω];have hS:=RE.swp (A:=B) (i:=i) (k:=k) (n:=n) Oq hj;have hSU:Up n k (swp B i k):=⟨λr c hr hc q=>by
    unfold swp
    split
    .exact hU.z k c hj hc hc
    .split
     .exact hU.z i c Oq hc Oq
     .exact hU.z r c hr hc q,λc hc=>by
    unfold swp;rw [if_neg Oq,if_neg ω];exact hU.d c hc⟩
   have hkk:swp B i k k k≠0:=by
    unfold swp
    split
    .rename_i e; rw [e,<- e]; rw [<- e] at q3; exact q3
    .rw [if_pos rfl]; exact q3
   have hsd:∀ t,t < k->swp B i k t t=B t t:=λt ht=>by unfold swp; rw [if_neg Oq,if_neg ω]
   generalize swp B i k=W at *;have hE:=RE.el (n:=n) (A:=W) (k:=k) (j:=k) hj (λc hc=>hSU.z k c hj hc hc) n (yB _);have hed:∀ t,t<=k->el W k k n t t=W t t:=λt ht=>by unfold el; rw [if_neg ω]
   refine .inl ⟨rfl,_,?_,(hR.trans hS).trans hE,⟨λr c hr hc q=>?_,λc hc=>?_⟩,?_⟩
   .split <;> grind
   .dsimp only;unfold el
    by_cases e:c=k
    .subst e;rw [if_pos ⟨q,hr,yB _⟩];have e2:W r c*W c c / W c c=W r c:=by rw [Rat.div_def,Rat.mul_assoc,Rat.mul_inv_cancel _ hkk]; grind
     rw [e2]; grind
    .rw [if_neg ω];exact hSU.z r c hr Oq q
   .dsimp only;rw [hed c ω]
    by_cases e:c=k
    .rw [e]; exact hkk
    .exact hSU.d c Oq
   .dsimp only;rw [pr,hed k (yB _),qaq k (h:=λt=>B t t) λt ht=>by rw [hed t Oq,hsd t ht],hd]
    split <;> grind
 .dsimp only at h1
  split
  .exact .inr ⟨by dsimp only; omega,h2⟩
  .exact .inr ⟨by dsimp only; omega,h2⟩
def EI.all {n:Nat} {A:Mx}:∀ j,j<=n->EI n j A (ech n A j)
 | 0,_=>.inl ⟨rfl,1,by decide,RE.refl,⟨λ_ _ _ h=>by omega,λ_ h=>by omega⟩,by simp [ech,pr]⟩
 | j+1,h=>(EI.all j Oq).s Oq
def qbT {n:Nat} {A:Mx}:dtE n A=det n A/\((det n A≠0/\(∀ b:Nat->Rat,∃ x,∀ i,i < n->mv n A x i=b i)/\∀ x,(∀ i,i < n->mv n A x i=0)->∀ i,i < n->x i=0)\/(det n A=0/\∃ x t,t < n/\(∀ i,i < n->mv n A x i=0)/\x t≠0)):=by
 unfold dtE
 rcases EI.all (A:=A) n (yB n) with ⟨h1,g,hg,hR,hU,hd⟩ | ⟨h1,h2,h3⟩
 .rw [if_neg ω];have e:det n A=(ech n A n).2.2:=by rw [hR.d,hd,qlj n λi j hi hj=>hU.z i j hi Oq hj]
  refine ⟨e.symm,.inl ⟨?_,λb=>?_,λx hx=>qkO n hU (hR.k' x hx)⟩⟩
  .rw [e,hd];intro q
   rcases Rat.mul_eq_zero.1 q with q | q
   .exact hg q
   .exact qt3 n hU.d q
  .obtain ⟨b',hb⟩:=hR.b b;obtain ⟨x,hx⟩:=qdJ n hU b';exact ⟨x,hb x hx⟩
 .rw [if_pos h1];exact ⟨h2.symm,.inr ⟨h2,h3⟩⟩
def qpT {n:Nat} {A:Mx} {x:Nat->Rat} {t:Nat} (ht:t < n) (hx:∀ i,i < n->mv n A x i=0) (h0:x t≠0):det n A=0:=by
 rcases qbT (n:=n) (A:=A) with ⟨_,⟨_,_,h⟩ | ⟨h,_⟩⟩
 .exact absurd (h x hx t ht) h0
 .exact h
def qpV {A:Mx} {k:Nat}:cw A k (λi=>A i k)=A:=by
 funext r c
 unfold cw
 split
 .rename_i h; rw [h]
 .rfl
def qnL {g:Nat->Rat} {a b:Nat} {n:Nat} (ha:a < n) (hb:b < n) (h:a≠b):sq (λc=>g c*(if c=a then 1 else if c=b then -1 else 0)) n=g a-g b:=by
 have e:(λc=>g c*(if c=a then (1:Rat) else if c=b then -1 else 0))=λc=>1*(if c=a then g c else 0)+(-1)*(if c=b then g c else 0):=by
  funext c
  by_cases h1:c=a
  .rw [if_pos h1,if_pos h1,if_neg ω]; grind
  .rw [if_neg h1,if_neg h1]
   split <;> grind
 rw [e,q2e,q5O n ha λi _ hn=>if_neg hn,q5O n hb λi _ hn=>if_neg hn,if_pos rfl,if_pos rfl]
 grind
def qv9 {n:Nat} {A:Mx} {y b:Nat->Rat} {t:Nat} (ht:t < n) (h:∀ i,i < n->mv n A y i=b i):det n (cw A t b)=y t*det n A:=by
 have e1:det n (cw A t b)=det n (cw A t λi=>sq (λc=>y c*A i c) n):=q3q n λi j hi hj=>by
  unfold cw
  split
  .rw [<- h i hi];unfold mv;exact q00 n λc _=>Rat.mul_comm _ _
  .rfl
 rw [e1,qbX (u:=λc i=>A i c) ht n,q5O n ht λc hc hn=>?_,qpV];have:det n (cw A t λi=>A i c)=0:=by
  refine qpT (x:=λk=>if k=t then 1 else if k=c then -1 else 0) (t:=t) ht (λi hi=>?_) ?_
  .unfold mv;rw [qnL ht hc (Ne.symm hn)];unfold cw;rw [if_pos rfl,if_neg hn]; grind
  .rw [if_pos rfl]; decide
 rw [this]; grind
def ab (x:Rat):Rat:=if x < 0 then -x else x
def qg9 (x:Rat):0<=ab x:=by unfold ab; split <;> grind
def qgb (x y:Rat):ab (x+y)<=ab x+ab y:=by unfold ab; split <;> split <;> split <;> grind
def qxI (x:Rat):ab (-x)=ab x:=by unfold ab; split <;> split <;> grind
def qqc:ab 0=0:=by unfold ab; split <;> grind
def qxK {x:Rat} (h:ab x<=0):x=0:=by unfold ab at h; split at h <;> grind
def q8o (x y:Rat):ab (x*y)=ab x*ab y:=by
 unfold ab
 by_cases hx:x < 0
 .rw [if_pos hx]
  by_cases hy:y < 0
  .have:=Rat.mul_pos (a := -x) (b := -y) (by grind) (by grind);rw [if_pos hy,if_neg (by grind)]; grind
  .by_cases hy0:y=0
   .subst hy0; rw [if_neg (by grind),if_neg (by grind)]; grind
   .have:=Rat.mul_pos (a := -x) (b:=y) (by grind) (by grind);rw [if_neg hy,if_pos (by grind)]; grind
 .rw [if_neg hx]
  by_cases hx0:x=0
  .subst hx0; rw [if_neg (by grind)]; split <;> grind
  .by_cases hy:y < 0
   .have:=Rat.mul_pos (a:=x) (b := -y) (by grind) (by grind);rw [if_pos hy,if_pos (by grind)]; grind
   .by_cases hy0:y=0
    .subst hy0; rw [if_neg (by grind),if_neg (by grind)]
    .have:=Rat.mul_pos (a:=x) (b:=y) (by grind) (by grind);rw [if_neg hy,if_neg (by grind)]
def q4n {a b c:Rat} (h:a<=b) (hc:0<=c):a*c<=b*c:=Rat.mul_le_mul_of_nonneg_right h hc
def q5Z {a b c:Rat} (h:a<=b) (hc:0<=c):c*a<=c*b:=by rw [Rat.mul_comm c,Rat.mul_comm c]; exact q4n h hc
def q8B {g h:Nat->Rat}:∀ n,(∀ i,i < n->g i<=h i)->sq g n<=sq h n
 | 0,_=>by simp [sq]
 | n+1,e=>by
  have h1:=q8B n λi hi=>e i Oq;have h2:=e n Oq;rw [sq,sq]; grind
def qs5 {g:Nat->Rat}:∀ n,(∀ i,i < n->0<=g i)->0<=sq g n
 | 0,_=>by simp [sq]
 | n+1,e=>by
  have h1:=qs5 n λi hi=>e i Oq;have h2:=e n Oq;rw [sq]; grind
def qhX {g:Nat->Rat}:∀ n,ab (sq g n)<=sq (λi=>ab (g i)) n
 | 0=>by simp [sq,qqc]
 | n+1=>by
  have h1:=qhX (g:=g) n;have h2:=qgb (sq g n) (g n);rw [sq,sq]; grind
def qdf {g:Nat->Rat} {c:Rat} (n:Nat):sq (λi=>c*g i) n=c*sq g n:=by
 have:=q2e (g:=g) (h:=λ_=>0) (a:=c) (b:=0) n;rw [<- q00 n (g:=λi=>c*g i+0*0) (h:=λi=>c*g i) λi _=>by grind,this]
 grind
def q9T {g:Nat->Rat} {c:Rat} (n:Nat):sq (λi=>g i*c) n=sq g n*c:=by
 rw [Rat.mul_comm,<- qdf];exact q00 n λi _=>Rat.mul_comm _ _
def qs4 {g h:Nat->Rat} (n:Nat):sq (λi=>g i-h i) n=sq g n-sq h n:=by
 have:=q2e (g:=g) (h:=h) (a:=1) (b := -1) n;rw [<- q00 n (g:=λi=>1*g i + -1*h i) (h:=λi=>g i-h i) λi _=>by grind,this]
 grind
def q9U {g:Nat->Nat->Rat} (m:Nat):∀ n,sq (λi=>sq (λj=>g i j) m) n=sq (λj=>sq (λi=>g i j) n) m
 | 0=>by rw [sq]; exact (q2X m λ_ _=>rfl).symm
 | n+1=>by
  rw [sq,q9U m n];have:=q2e (g:=λj=>sq (λi=>g i j) n) (h:=λj=>g n j) (a:=1) (b:=1) m;rw [q00 m (g:=λj=>sq (λi=>g i j) (n+1)) (h:=λj=>1*sq (λi=>g i j) n+1*g n j) λj _=>by rw [sq]; grind,this]
  grind
def qs6 {g:Nat->Rat} {n i:Nat} (hi:i < n):sq (λj=>(if i=j then 1 else 0)*g j) n=g i:=by
 rw [q5O n hi λj _ h=>by rw [if_neg (Ne.symm h)]; grind,if_pos rfl]; grind
def mx (g:Nat->Rat):Nat->Rat
 | 0=>0
 | n+1=>if mx g n < g n then g n else mx g n
def qiA {g:Nat->Rat}:∀ n,0<=mx g n/\∀ i,i < n->g i<=mx g n
 | 0=>⟨by simp [mx],λ_ h=>by omega⟩
 | n+1=>by
  obtain ⟨h1,h2⟩:=qiA (g:=g) n;rw [mx]
  split
  .refine ⟨by grind,λi hi=>?_⟩
   by_cases e:i=n
   .rw [e]; grind
   .have:=h2 i ω; grind
  .refine ⟨h1,λi hi=>?_⟩
   by_cases e:i=n
   .rw [e]; grind
   .exact h2 i Oq
def qhz {g:Nat->Rat} {c:Rat} (hc:0<=c):∀ n,(∀ i,i < n->g i<=c)->mx g n<=c
 | 0,_=>hc
 | n+1,h=>by
  have h1:=qhz hc n λi hi=>h i Oq;have h2:=h n Oq;rw [mx]
  split <;> grind
section
variable {n:Nat} {A R:Mx} {β:Rat}
def E1 (n:Nat) (A R:Mx):Mx:=λi j=>(if i=j then 1 else 0)-sq (λk=>R i k*A k j) n
def qyM {x:Nat->Rat} {i:Nat} (hi:i < n):mv n (E1 n A R) x i=x i-sq (λk=>R i k*mv n A x k) n:=by
 unfold mv E1;rw [q00 n (h:=λj=>(if i=j then 1 else 0)*x j-sq (λk=>R i k*(A k j*x j)) n) λj _=>?_,qs4,qs6 hi]
 .congr 1
  rw [<- q9U];exact q00 n λk _=>qdf n
 .rw [<- q00 n (g:=λk=>R i k*A k j*x j) (h:=λk=>R i k*(A k j*x j)) λk _=>Rat.mul_assoc _ _ _,q9T]
  grind
def E1_bd {x:Nat->Rat} {M:Rat} (hβ:∀ i,i < n->sq (λj=>ab (E1 n A R i j)) n<=β) (hM:∀ j,j < n->ab (x j)<=M) (hM0:0<=M) {i:Nat} (hi:i < n):ab (mv n (E1 n A R) x i)<=β*M:=by
 unfold mv;refine Rat.le_trans (qhX n) ?_;refine Rat.le_trans (q8B n (h:=λj=>ab (E1 n A R i j)*M) λj hj=>?_) ?_
 .rw [q8o];exact q5Z (hM j hj) (qg9 _)
 .rw [q9T];exact q4n (hβ i hi) hM0
def ker_0 (hβ:∀ i,i < n->sq (λj=>ab (E1 n A R i j)) n<=β) (h1:β < 1) {x:Nat->Rat} (hx:∀ i,i < n->mv n A x i=0):∀ i,i < n->x i=0:=by
 obtain ⟨m0,m1⟩:=qiA (g:=λi=>ab (x i)) n;have hb:∀ i,i < n->ab (x i)<=β*mx (λi=>ab (x i)) n:=λi hi=>by
  have h:=qyM (A:=A) (R:=R) (x:=x) hi;rw [q2X n λk hk=>by rw [hx k hk]; grind] at h;have:=E1_bd hβ m1 m0 hi;rw [h] at this;have e:x i-0=x i:=by grind
  rwa [e] at this
 intro i hi;have hm:mx (λi=>ab (x i)) n<=β*mx (λi=>ab (x i)) n:=by
  by_cases hb0:0<=β
  .exact qhz (Rat.mul_nonneg hb0 m0) n hb
  .have:=qs5 n λj _=>qg9 (E1 n A R i j);have:=hβ i hi
   grind
 have h0:mx (λi=>ab (x i)) n<=0:=by
  by_cases q:0 < mx (λi=>ab (x i)) n
  .have:=Rat.mul_pos (a:=1-β) (by grind) q
   grind
  .grind
 have:=m1 i hi;exact qxK (Rat.le_trans this h0)
def qpS (hβ:∀ i,i < n->sq (λj=>ab (E1 n A R i j)) n<=β) (h1:β < 1):det n A≠0:=by
 rcases qbT (n:=n) (A:=A) with ⟨_,⟨h,_⟩ | ⟨_,x,t,ht,hx,h0⟩⟩
 .exact h
 .exact absurd (ker_0 hβ h1 hx t ht) h0
def R_B {B:Mx} (hB:∀ j,j < n->∀ i,i < n->mv n A (λk=>B k j) i=if i=j then 1 else 0) {i j:Nat} (hi:i < n) (hj:j < n):R i j=B i j-mv n (E1 n A R) (λk=>B k j) i:=by
 rw [qyM hi,q00 n (h:=λk=>(if j=k then 1 else 0)*R i k) λk hk=>?_,qs6 hj]
 .grind
 .rw [hB j hj k hk]
  by_cases e:k=j
  .rw [if_pos e,if_pos e.symm]; grind
  .rw [if_neg e,if_neg (Ne.symm e)]; grind
def qtC {B:Mx} {N:Rat} (hβ:∀ i,i < n->sq (λj=>ab (E1 n A R i j)) n<=β) (hN:∀ i,i < n->sq (λj=>ab (B i j)) n<=N) (hN0:0<=N) {i:Nat} (hi:i < n):sq (λj=>ab (mv n (E1 n A R) (λk=>B k j) i)) n<=β*N:=by
 refine Rat.le_trans (q8B n (h:=λj=>sq (λk=>ab (E1 n A R i k)*ab (B k j)) n) λj _=>?_) ?_
 .unfold mv;refine Rat.le_trans (qhX n) (q8B n λk _=>?_);rw [q8o]; grind
 .rw [q9U];refine Rat.le_trans (q8B n (h:=λk=>ab (E1 n A R i k)*N) λk hk=>?_) ?_
  .rw [qdf];exact q5Z (hN k hk) (qg9 _)
  .rw [q9T];exact q4n (hβ i hi) hN0
def qtn {B:Mx} {K:Rat} (hβ:∀ i,i < n->sq (λj=>ab (E1 n A R i j)) n<=β) (hb0:0<=β) (hB:∀ j,j < n->∀ i,i < n->mv n A (λk=>B k j) i=if i=j then 1 else 0) (hK:K=mx (λi=>sq (λj=>ab (B i j)) n) n) :
  mx (λi=>sq (λj=>ab (R i j)) n) n<=(1+β)*K/\(1-β)*K<=mx (λi=>sq (λj=>ab (R i j)) n) n:=by
 subst hK;obtain ⟨k0,k1⟩:=qiA (g:=λi=>sq (λj=>ab (B i j)) n) n;obtain ⟨r0,r1⟩:=qiA (g:=λi=>sq (λj=>ab (R i j)) n) n;have hE:=λi hi=>qtC (B:=B) hβ k1 k0 (i:=i) hi
 constructor
 .refine qhz (Rat.mul_nonneg (by grind) k0) n λi hi=>?_;have h1:sq (λj=>ab (R i j)) n<=sq (λj=>ab (B i j)+ab (mv n (E1 n A R) (λk=>B k j) i)) n:=q8B n λj hj=>by
   rw [R_B (R:=R) hB hi hj];have:=qgb (B i j) (-(mv n (E1 n A R) (λk=>B k j) i));rw [qxI] at this
   grind
  have h2:=q2e (g:=λj=>ab (B i j)) (h:=λj=>ab (mv n (E1 n A R) (λk=>B k j) i)) (a:=1) (b:=1) n;rw [q00 n (h:=λj=>ab (B i j)+ab (mv n (E1 n A R) (λk=>B k j) i)) λj _=>by grind] at h2;have h3:=k1 i hi;have h4:=hE i hi
  grind
 .have:mx (λi=>sq (λj=>ab (B i j)) n) n<=mx (λi=>sq (λj=>ab (R i j)) n) n+β*mx (λi=>sq (λj=>ab (B i j)) n) n:=by
   refine qhz (by have:=Rat.mul_nonneg hb0 k0; grind) n λi hi=>?_;have h1:sq (λj=>ab (B i j)) n<=sq (λj=>ab (R i j)+ab (mv n (E1 n A R) (λk=>B k j) i)) n:=q8B n λj hj=>by
    have:=R_B (R:=R) hB hi hj;have:=qgb (R i j) (mv n (E1 n A R) (λk=>B k j) i);have e:R i j+mv n (E1 n A R) (λk=>B k j) i=B i j:=by grind
    rw [e] at this;exact this
   have h2:=q2e (g:=λj=>ab (R i j)) (h:=λj=>ab (mv n (E1 n A R) (λk=>B k j) i)) (a:=1) (b:=1) n;rw [q00 n (h:=λj=>ab (R i j)+ab (mv n (E1 n A R) (λk=>B k j) i)) λj _=>by grind] at h2;have h3:=r1 i hi;have h4:=hE i hi
   grind
  grind
end
end Go.Dt
namespace Go.Proofs.YtbjoghfmhgadkaaGreatDoor
open Go Go.E Go.Sp Go.ChangeShapes Go.WideShapes Go.ChangeAt Go.WideMaps Go.WideElems Go.RowKit
section
variable {H:Type} {enc:TypeId × Value->H}
def q3x {P:Program} (hl:laidOutB P=true) {W W':World} (hb:Below W.heap.size W W') :
  ∀ {ts:List TypeId} {vs:List Value} {ds:List (DataW H)} {ps:List MemPlace},(ts.all λt=>P.readableRec t && decide (t < P.types.size))=true->DataW.TrodAll enc P W 0 (λ_=>true) true ts vs ds ps->(∀ x ∈ ps,x.block < W.heap.size)->DataW.TrodAll enc P W' 0 (λb=>decide (b < W.heap.size)) true ts vs ds ps
 | [],[],[],_,_,h,_=>h
 | [],_ :: _,_,_,_,h,_=>h.elim
 | [],[],_ :: _,_,_,h,_=>h.elim
 | _ :: _,[],_,_,_,h,_=>h.elim
 | _ :: _,_ :: _,[],_,_,h,_=>h.elim
 | t :: ts,v :: vs,d :: ds,ps,hr,⟨p,q,h1,h2,e⟩,hlt=>by
  subst e;rw [List.all_cons,zE,zE,decide_eq_true_eq] at hr;exact ⟨p,q,Below.trod hl hr.1.1 hr.1.2 h1 hb λx hx=>hlt x (xF _ hx),q3x hl hb hr.2 h2 λx hx=>hlt x (vD _ hx),rfl⟩
def qoT:laidOutB Tryz.prog=true:=κ
def qiM {fn:Func} {s:ChangeSpec} {W W':World} {args:Array Value} {ds:List (DataW H)} {before:List MemPlace} (hv:s.vars=[]) (hW:DataW.Whole enc Tryz.prog fn.params.toList s.vars false W args.toList ds [] before)
  (hp:(fn.params.toList.all λt=>Tryz.prog.readableRec t && decide (t < Tryz.prog.types.size))=true) (hr:fn.resultTypes=#[4]) (hs:s.fn H (ds ++ [])={ results:=[.lit (.bool true)],args:=ds }) (hx:Ext W W'):s.post enc Tryz.prog fn false true false false W args (.bool true) W':=by
 have hlt:∀ p ∈ before,p.block < W.heap.size:=λp hp=>by simpa using hW.lt p hp
 have hW2:=hW;obtain ⟨p,q,hA,hV,rfl,hz,hn⟩:=hW2;rw [hv] at hV;obtain ⟨_,rfl⟩:=trodVars_none hV;have hb:=Kp.below hx;refine ⟨ds,[],p ++ [],[],p,[],hW,?_,?_,?_,Below.frame hb _,λh=>by cases h⟩
 .rw [hr,hs];exact trodAll_mk1 (shut_bool qrB _)
 .rw [hs];exact q3x qoT hb hp hA λx hx=>hlt x (xF _ hx)
 .rw [hs,hv]; rfl
end
def gTab : Tryz.prog.globalNamed "math/bits.deBruijn32tab" = some 0 := by kernel_rfl
def tTab:(Tryz.prog.globals[0]?).map (·.type)=some 273:=κ
def qrb:Tryz.prog.underlying 273=some (.array 32 5):=κ
def cell5:Tryz.prog.cellsOf 5=1:=κ
def qoS:(Rows.laid_math_bits_deBruijn32tab:DataW Unit)=.agg (qdT.map λn:Nat=>.lit (.int .u8 (n:Int))):=rfl
def qms {W : World} (h : laidMetH Tryz.prog [("math/bits.deBruijn32tab", Rows.laid_math_bits_deBruijn32tab)] W) : q5q W := by
 rw [MakeChecks.laidMetH_plain _ _ _ κ] at h;obtain ⟨ps,⟨g0,t0,cs0,f0,p0,q0,hg0,ht0,hv0,hd0,_⟩,_⟩:=h;obtain rfl:=zH.inj (gTab.symm.trans hg0);obtain rfl:=zH.inj (tTab.symm.trans ht0);obtain ⟨xs,m,_,hx,hlen,hn,hel⟩:=DataW.trod_array qrb hd0;rw [qoS] at hx;simp only [Prod.mk.injEq,DataW.agg.injEq] at hx;intro k hk;have h1:=hel k hk;rw [cell5,vE] at h1;have hkx:k < xs.length:=ω
 rw [zC hkx] at h1;obtain ⟨n,e1,e2,_⟩:=DataW.trod_int und5 h1;have h2:(qdT.map λn:Nat=>(DataW.lit (.int .u8 (n:Int)):DataW Unit))[k]?=some (.lit (.int .u8 n)):=by
  rw [hx.1,List.getElem?_map,zC hkx,e2]; rfl
 rw [List.getElem?_map] at h2;obtain ⟨y,hy,hyn⟩:=zM.1 h2;have hyn':(y:Int)=n:=by injection hyn with h; injection h with h
 have h3:=World.var?_cell hg0 hv0 k;have h4:cs0.toList.drop k≠[]:=λh0=>by rw [h0] at e1; cases e1
 have hkc:k < cs0.toList.length:=by
  rcases zN k cs0.toList.length with h | h
  .exact h
  .exact absurd (yE h) h4
 rw [xL hkc,wS,List.take_zero] at e1
 injection e1 with e1 _
 rw [h3,zP,hy];have h5:cs0[k]?=some cs0.toList[k]:=by rw [<- w7,zC hkc]
 rw [h5,e1,<- hyn']; rfl
end Go.Proofs.YtbjoghfmhgadkaaGreatDoor
namespace Go.E
open Go Go.RowKit
abbrev Kd:=Option Nat
def ksz (k:Kd):Nat:=k.getD 1
class NL where
 f:Value->Bool
 ok:∀ v,(∀ d:Int,v≠.int .u32 d)->f v=true
def q4c [NL] (v:Value):Bool:=NL.f v
def nlo [NL] {v:Value} (h:∀ d:Int,v≠.int .u32 d:=by intro d e; cases e):q4c v=true:=NL.ok v h
def q28 [NL] (k:Kd) (v:Value):Prop:=match k with
 | none=>v.cells=#[v]/\v.oneCell'=true/\q4c v=true
 | some n=>∃ cs:Array Value,v=.agg cs/\cs.size=n/\∀ u ∈ cs.toList,u.oneCell'=true/\q4c u=true
def q28.size [NL] {k:Kd} {v:Value} (h:q28 k v):v.cells.size=ksz k:=by
 unfold q28 at h;cases k with
 | none=>rw [h.1]; rfl
 | some n=>obtain ⟨cs,rfl,h1,_⟩:=h; exact h1
def q28.one [NL] {k:Kd} {v:Value} (h:q28 k v):∀ u ∈ v.cells.toList,u.oneCell'=true/\q4c u=true:=by
 unfold q28 at h;cases k with
 | none=>rw [h.1]; intro u hu; simp at hu; subst hu; exact h.2
 | some n=>obtain ⟨cs,rfl,_,h2⟩:=h; exact h2
inductive PV where
 | un
 | vl (x:Value)
 | fm (G:Fam)
 | sl (k:Kd) (l:List PV)
 | ow (id:Nat) (k:Kd) (off n:Nat)
 | pt (id i j:Nat)
 | qt (k:Kd) (x:PV)
 | ag (l:List PV)
 | tu (l:List PV)
structure Bk where
 T:TypeId
 k:Kd
 xs:List PV
 st:Bool
abbrev Hp:=Nat->Option Bk
def h0:Hp:=λ_=>none
def BSz (w:World) (g m:Nat):Prop:=∃ (cs:Array Value) (T:TypeId),Blk w g T cs/\cs.size=m
def AtO (w:World) (r:Option Nat) (A:Option Addr) (a m:Nat):Prop:=∃ g,r=some g/\A=some ⟨g,a,none⟩/\BSz w g m
mutual
def Rd [NL] (w:World) (D:Nat->Prop):PV->(Nat->Option Nat)->Hp->Value->Prop
 | .un,_,_,_=>True
 | .vl x,_,_,y=>y=x
 | .fm G,_,_,y=>In G D y w
 | .sl k l,_,_,y=>∃ A n c vs,y=.slice A n c/\Row w D (ksz k) A n c (q09 vs)/\l.length=n/\RdL w D l (λ_=>none) h0 vs/\∀ v ∈ vs,q28 k v
 | .ow id k off n,ρ,h,y=>∃ b A c,h id=some b/\b.k=k/\y=.slice A n c/\n<=c/\c<=maxLen/\off+n<=b.xs.length/\(c=0\/AtO w (ρ id) A (off*ksz k) ((off+c)*ksz k))/\(off=0->(A=none/\c=0)\/AtO w (ρ id) A (off*ksz k) ((off+c)*ksz k))
 | .pt id i j,ρ,h,y=>∃ b g,h id=some b/\ρ id=some g/\i < b.xs.length/\y=.pointer (some ⟨g,i*ksz b.k+j,none⟩)
 | .qt k x,_,_,y=>∃ ad z,y=.pointer (some ad)/\D ad.block/\Rd w D x (λ_=>none) h0 z/\(q28 k z/\0 < ksz k)/\∀ j u,z.cells.toList[j]?=some u->w.cell? (ad.add j)=some u
 | .ag l,ρ,h,y=>∃ vs,y=.agg ⟨vs⟩/\RdL w D l ρ h vs
 | .tu l,ρ,h,y=>∃ vs,y=.tuple ⟨vs⟩/\RdL w D l ρ h vs
def RdL [NL] (w:World) (D:Nat->Prop):List PV->(Nat->Option Nat)->Hp->List Value->Prop
 | [],_,_,vs=>vs=[]
 | x :: l,ρ,h,vs=>∃ y ys,vs=y :: ys/\Rd w D x ρ h y/\RdL w D l ρ h ys
end
def Cpt (w w':World) (ρ:Nat->Option Nat) (h:Hp) (ρ':Nat->Option Nat) (h':Hp):Prop :=
 ∀ i b,h i=some b->ρ' i=ρ i/\(∃ b',h' i=some b'/\b'.k=b.k/\b.xs.length<=b'.xs.length)/\∀ g m,ρ i=some g->BSz w g m->BSz w' g m
def Cpt.h0 {w w':World} {ρ ρ':Nat->Option Nat} {h':Hp}:Cpt w w' ρ h0 ρ' h':=λ_ _ h=>by cases h
section
variable {w w':World} {D D':Nat->Prop} {ρ ρ':Nat->Option Nat} {h h':Hp}
def BSz.ext {g m:Nat} (hb:BSz w g m) (hx:Ext w w'):BSz w' g m:=by
 obtain ⟨cs,T,h1,h2⟩:=hb; exact ⟨cs,T,h1.ext hx,h2⟩
def BSz.kp {g m:Nat} (hb:BSz w g m) (hx:Kp D w w') (hd:D g):BSz w' g m:=by
 obtain ⟨cs,T,h1,h2⟩:=hb; exact ⟨cs,T,h1.kp hx hd,h2⟩
mutual
def Rd.mv [NL] (hk:Kp D w w') (hd:∀ k,k < w.heap.size->D k->D' k):∀ (x:PV) (ρ:Nat->Option Nat) (h:Hp) (ρ':Nat->Option Nat) (h':Hp) (y:Value),Cpt w w' ρ h ρ' h'->Rd w D x ρ h y->Rd w' D' x ρ' h' y
 | .un,_,_,_,_,_,_,_=>by unfold Rd; trivial
 | .vl x,_,_,_,_,y,_,hr=>by unfold Rd at hr ⊢; exact hr
 | .fm G,_,_,_,_,y,_,hr=>by
  unfold Rd at hr ⊢;have h1:In G (λk=>D k/\k < w.heap.size) y w:=hr.sub λk hk hq=>⟨hq,hk⟩;exact (h1.kp (hk.mono λk _ hq=>hq.1)).sub λk _ hq=>hd k hq.2 hq.1
 | .sl k l,_,_,_,_,y,_,hr=>by
  unfold Rd at hr ⊢;obtain ⟨A,n,c,vs,h1,h2,h3,h4,h5⟩:=hr;have h6:Row w' D' (ksz k) A n c (q09 vs):=(h2.lt.kp (hk.mono λk _ hq=>hq.1)).sub λk _ hq=>hd k hq.2 hq.1;exact ⟨A,n,c,vs,h1,h6,h3,RdL.mv hk hd l _ _ _ _ vs Cpt.h0 h4,h5⟩
 | .ow id k off n,ρ,h,ρ',h',y,hc,hr=>by
  unfold Rd at hr ⊢;obtain ⟨b,A,c,h1,h2,h3,h4,h4b,h5,h6,h7⟩:=hr;obtain ⟨e1,⟨b',e2,e3,e4⟩,e5⟩:=hc id b h1;have mv:∀ {A:Option Addr} {a m:Nat},AtO w (ρ id) A a m->AtO w' (ρ' id) A a m:=λ⟨g,a1,a2,a3⟩=>⟨g,e1.trans a1,a2,e5 g _ a1 a3⟩;exact ⟨b',A,c,e2,by rw [e3,h2],h3,h4,h4b,ω,h6.imp (λh=>h) mv,λh0=>(h7 h0).imp (λh=>h) mv⟩
 | .pt id i j,ρ,h,ρ',h',y,hc,hr=>by
  unfold Rd at hr ⊢;obtain ⟨b,g,h1,h2,h3,h4⟩:=hr;obtain ⟨e1,⟨b',e2,e3,e4⟩,e5⟩:=hc id b h1;exact ⟨b',g,e2,e1.trans h2,ω,by rw [e3]; exact h4⟩
 | .qt k x,_,_,_,_,y,_,hr=>by
  unfold Rd at hr ⊢;obtain ⟨ad,z,h1,h2,h3,h4,h5⟩:=hr;refine ⟨ad,z,h1,?_,Rd.mv hk hd x _ _ _ _ z Cpt.h0 h3,h4,λj u hu=>hk.cell (by rw [q1E]; exact h2) (h5 j u hu)⟩;cases hz:z.cells.toList[0]? with
  | none =>
   have:=q28.size h4.1;simp at hz;rw [hz] at this;have:=h4.2;simp at *;omega
  | some u =>
   have:=World.block_lt_of_cell? w _ (h5 0 u hz);rw [q1E] at this;exact hd _ this h2
 | .ag l,ρ,h,ρ',h',y,hc,hr=>by
  unfold Rd at hr ⊢;obtain ⟨vs,h1,h2⟩:=hr;exact ⟨vs,h1,RdL.mv hk hd l _ _ _ _ vs hc h2⟩
 | .tu l,ρ,h,ρ',h',y,hc,hr=>by
  unfold Rd at hr ⊢;obtain ⟨vs,h1,h2⟩:=hr;exact ⟨vs,h1,RdL.mv hk hd l _ _ _ _ vs hc h2⟩
def RdL.mv [NL] (hk:Kp D w w') (hd:∀ k,k < w.heap.size->D k->D' k):∀ (l:List PV) (ρ:Nat->Option Nat) (h:Hp) (ρ':Nat->Option Nat) (h':Hp) (vs:List Value),Cpt w w' ρ h ρ' h'->RdL w D l ρ h vs->RdL w' D' l ρ' h' vs
 | [],_,_,_,_,vs,_,hr=>by unfold RdL at hr ⊢; exact hr
 | x :: l,ρ,h,ρ',h',vs,hc,hr=>by
  unfold RdL at hr ⊢;obtain ⟨y,ys,h1,h2,h3⟩:=hr;exact ⟨y,ys,h1,Rd.mv hk hd x _ _ _ _ y hc h2,RdL.mv hk hd l _ _ _ _ ys hc h3⟩
end
end
section
variable {w w':World} {D D':Nat->Prop} {ρ ρ':Nat->Option Nat} {h h':Hp} {l m:List PV} {vs us:List Value}
def RdL.iff [NL]:∀ {l:List PV} {vs:List Value},RdL w D l ρ h vs ↔ l.length=vs.length/\∀ (i:Nat) (x:PV) (v:Value),l[i]?=some x->vs[i]?=some v->Rd w D x ρ h v
 | [],vs=>by
  unfold RdL
  constructor
  .rintro rfl; exact ⟨rfl,λi x v hx=>by simp at hx⟩
  .rintro ⟨h1,_⟩; exact List.eq_nil_of_length_eq_zero h1.symm
 | x :: l,vs=>by
  unfold RdL
  constructor
  .rintro ⟨y,ys,rfl,h1,h2⟩;obtain ⟨h3,h4⟩:=RdL.iff.1 h2;refine ⟨by simp [h3],λi z v hz hv=>?_⟩;cases i with
   | zero=>simp at hz hv; subst hz; subst hv; exact h1
   | succ i=>exact h4 i z v (by simpa using hz) (by simpa using hv)
  .rintro ⟨h1,h2⟩;cases vs with
   | nil=>simp at h1
   | cons y ys=>exact ⟨y,ys,rfl,h2 0 x y rfl rfl,RdL.iff.2 ⟨by simpa using h1,λi z v hz hv=>h2 (i+1) z v (by simpa using hz) (by simpa using hv)⟩⟩
def RdL.len [NL] (hl:RdL w D l ρ h vs):vs.length=l.length:=(RdL.iff.1 hl).1.symm
def RdL.get [NL] (hl:RdL w D l ρ h vs) {i:Nat} {x:PV} (hx:l[i]?=some x):∃ v,vs[i]?=some v/\Rd w D x ρ h v:=by
 obtain ⟨h1,h2⟩:=RdL.iff.1 hl;have hlt:=(xN.1 hx).1;have hv:vs[i]?=some vs[i]:=zC Oq;exact ⟨_,hv,h2 i x _ hx hv⟩
def RdL.take [NL] (hl:RdL w D l ρ h vs) (n:Nat):RdL w D (l.take n) ρ h (vs.take n):=by
 obtain ⟨h1,h2⟩:=RdL.iff.1 hl;refine RdL.iff.2 ⟨by simp [h1],λi x v hx hv=>?_⟩;rw [yG] at hx hv
 split at hx
 .rw [if_pos ‹_›] at hv; exact h2 i x v hx hv
 .cases hx
def RdL.drop [NL] (hl:RdL w D l ρ h vs) (n:Nat):RdL w D (l.drop n) ρ h (vs.drop n):=by
 obtain ⟨h1,h2⟩:=RdL.iff.1 hl;refine RdL.iff.2 ⟨by simp [h1],λi x v hx hv=>?_⟩;rw [z8] at hx hv;exact h2 _ x v hx hv
def RdL.app [NL] (hl:RdL w D l ρ h vs) (hm:RdL w D m ρ h us):RdL w D (l ++ m) ρ h (vs ++ us):=by
 obtain ⟨h1,h2⟩:=RdL.iff.1 hl;obtain ⟨h3,h4⟩:=RdL.iff.1 hm;refine RdL.iff.2 ⟨by simp [h1,h3],λi x v hx hv=>?_⟩;rw [List.getElem?_append] at hx hv
 split at hx
 .rw [if_pos ω] at hv; exact h2 i x v hx hv
 .rw [if_neg ω,<- h1] at hv; exact h4 _ x v hx hv
def RdL.set [NL] (hl:RdL w D l ρ h vs) {x:PV} {v:Value} (hx:Rd w D x ρ h v) (i:Nat):RdL w D (l.set i x) ρ h (vs.set i v):=by
 obtain ⟨h1,h2⟩:=RdL.iff.1 hl;refine RdL.iff.2 ⟨by simp [h1],λj y u hy hu=>?_⟩;rw [List.getElem?_set] at hy hu
 split at hy
 .rename_i hij;rw [if_pos hij] at hu
  split at hy
  .split at hu
   .cases hy; cases hu; exact hx
   .cases hu
  .cases hy
 .rename_i hij;rw [if_neg hij] at hu;exact h2 j y u hy hu
def RdL.one [NL] {x:PV} {v:Value} (hx:Rd w D x ρ h v):RdL w D [x] ρ h [v]:=by unfold RdL; exact ⟨v,[],rfl,hx,by unfold RdL; rfl⟩
def q3l {vs:List Value} {sz:Nat} (hv:∀ v ∈ vs,v.cells.size=sz) (n:Nat):q09 (vs.take n)=(q09 vs).take (n*sz):=by
 induction vs generalizing n with
 | nil=>simp [q09]
 | cons u vs ih =>
  cases n with
  | zero=>simp [q09]
  | succ n =>
   have h1:=hv u w9;have:=ih (λx hx=>hv x (zS _ hx)) n;unfold q09 at *;have hu:u.cells.toList.length=sz:=by rw [yP,h1]
   have e1:(n+1)*sz=n*sz+sz:=xI _ _;rw [wS,yV,yV,this,List.take_append,hu,e1,vF,vA (l:=u.cells.toList) ω]
def q3m {vs:List Value} {sz:Nat} (hv:∀ v ∈ vs,v.cells.size=sz) (n:Nat):q09 (vs.drop n)=(q09 vs).drop (n*sz):=by
 induction vs generalizing n with
 | nil=>simp [q09]
 | cons u vs ih =>
  cases n with
  | zero=>simp [q09]
  | succ n =>
   have h1:=hv u w9;have:=ih (λx hx=>hv x (zS _ hx)) n;unfold q09 at *;have hu:u.cells.toList.length=sz:=by rw [yP,h1]
   have e1:(n+1)*sz=n*sz+sz:=xI _ _;rw [List.drop_succ_cons,yV,this,List.drop_append,hu,e1,vF,yE (l:=u.cells.toList) ω,List.nil_append]
def q0q {vs:List Value} {sz:Nat} (hv:∀ v ∈ vs,v.cells.size=sz):(q09 vs).length=vs.length*sz:=by
 induction vs with
 | nil=>simp [q09]
 | cons v vs ih =>
  have:=ih λu hu=>hv u (zS _ hu);have h1:=hv v w9;unfold q09 at *;rw [yV,List.length_append,this,yR,xI,yP,h1]; omega
def q3n (vs us:List Value):q09 (vs ++ us)=q09 vs ++ q09 us:=by simp [q09]
def qjL {vs:List Value} {sz:Nat} (hv:∀ v ∈ vs,v.cells.size=sz) {i:Nat} {u:Value} (hu:u.cells.size=sz) (hi:i < vs.length):q09 (vs.set i u)=(q09 vs).take (i*sz) ++ u.cells.toList ++ (q09 vs).drop ((i+1)*sz):=by
 rw [List.set_eq_take_append_cons_drop,if_pos hi,<- q3l hv,<- q3m hv,q3n];simp [q09]
end
end Go.E
