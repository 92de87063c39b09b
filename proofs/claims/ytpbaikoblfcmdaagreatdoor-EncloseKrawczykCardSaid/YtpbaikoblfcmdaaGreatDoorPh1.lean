/- EncloseKrawczyk: the program and the document agree 1/7. -/
import Derived.Laws.CopyRow
import Derived.Laws.OwnMore
import Derived.Laws.Strings
import Derived.Maps.AppendAt
import Derived.Orders
import Derived.Test.YtpbaikoblfcmdaaGreatDoorProg
import Derived.WalkKit
open Array renaming getElem?_setIfInBounds->z5,getElem?_eq_getElem->yC,getElem?_toList->yE,getD_eq_getD_getElem?->yM,mem_toList_iff->yV,getElem?_eq_some_iff->y5,getElem?_eq_none->xI,replicate->wF,mem_of_getElem?->wI,length_toList->wZ
open Bool renaming and_eq_true->zA,or_eq_false_iff->yU,or_eq_true->y4,false_or->xT,not_true->w5,false_eq_true->w7
open Int renaming mul_neg_of_neg_of_pos->yS,mul_ne_zero->xE,ne_of_gt->xN,mul_assoc->x8,natCast_mul->wH,natAbs_neg->wL,ediv_emod_unique->wR,natAbs_mul->wT,pow_add->wU,mul_nonneg->wV,mul_ediv_cancel->wY,lt_or_le->w9,le_of_lt->vA,le_total->vB,zero_mul->vC,mul_neg->vF,neg_mul->vG
open List renaming getElem?_eq_getElem->zC,getD_eq_getElem?_getD->zI,all_eq_true->zM,mem_cons_of_mem->zP,getElem?_eq_none->zT,length_take->zV,getElem?_eq_some_iff->zY,mem_range->z4,mem_cons_self->z6,getElem?_take->z8,take_of_length_le->yN,getElem?_drop->yP,getElem?_append_right->yQ,getElem?_append_left->yR,getD->y1,any_eq_true->y8,length_cons->y9,map_cons->xB,getElem?_cons_zero->xF,map_nil->xH,take_succ_eq_append_getElem->xJ,drop_of_length_le->xL,map_toArray->xS,drop_eq_getElem_cons->xY,getElem?_eq_none_iff->xZ,ext_getElem?->x6,mem_append->wG,getElem?_toArray->wJ,mem_of_getElem?->wO,getElem?_set_ne->wQ,drop_drop->wW,mem_cons->w4,mem_singleton->w6
open Nat renaming mul_assoc->zB,mul_add->zD,pow_succ->zE,mul_comm->zF,mod_eq_of_lt->zG,pow_add->zJ,mul_le_mul_right->zK,le_trans->zL,pow_le_pow_right->zN,eq_of_beq_eq_true->zO,mul_pos->zQ,lt_or_ge->zR,mul_le_mul_left->zS,zero_add->zW,and_two_pow_sub_one_eq_mod->zX,mod_lt->zZ,mul_left_comm->z0,lt_of_lt_of_le->z7,mul_one->z9,div_add_mod->yA,one_mul->yB,add_mul_mod_self_left->yD,lt_of_le_of_lt->yF,mul_right_comm->yG,eq_zero_or_pos->yH,pow_lt_pow_iff_right->yI,le_refl->yJ,testBit_and->yK,testBit_two_pow->yL,div_eq_of_lt->yO,min_eq_left->yT,add_zero->yW,pow_zero->yX,add_mul->yY,testBit_eq_decide_div_mod_eq->yZ,add_assoc->y0,beq->y2,add_sub_cancel->y3,add_mul_div_left->y6,eq_of_testBit_eq->y7,le_of_lt->xA,mul_eq_zero->xD,le_mul_of_pos_right->xG,mul_zero->xK,div_div_eq_div_mul->xM,div_lt_iff_lt_mul->xO,mul_div_mul_right->xP,mul_mod_mul_right->xQ,mod_add_div->xU,testBit_or->xV,eq_of_mul_eq_mul_right->xW,mod_two_eq_zero_or_one->xX,pow_pos->x4,mod_mul->x5,testBit_zero->x9,testBit_succ->wA,and_or_distrib_left->wB,mul_succ->wC,le_mul_of_pos_left->wD,add_comm->wE,le_div_iff_mul_le->wK,div_pos->wM,zero_le->wN,pow_mul->wP,pow_lt_pow_right->wS,add_eq_zero_iff->wX,zero_mul->w8,or_comm->vE,div_one->vH
open Option renaming some->zH,map_eq_some_iff->zU,map_some->xC,bind_some->xR,isSome_iff_exists->x7,getD_some->vD
set_option linter.unusedSimpArgs false
set_option linter.unusedVariables false
set_option maxRecDepth 20000
set_option maxHeartbeats 2000000
set_option linter.defProp false
namespace Go
def Zz {p q : Prop} (k : q) (e : p = q := by simp -implicitDefEqProofs (disch := omega) only [go_sem, Nat.reduceEqDiff, Nat.reduceAdd, ↓reduceIte]; exact rfl) : p := e.mpr k
def Ue {p : Prop} (e : p := by (try simp only [qlf, Nat.reduceEqDiff, ↓reduceIte]); first | done | assumption | exact rfl) : p := e
def Rf {p : Prop} (e : p := by first | exact rfl | assumption | exact Ue) : p := e
theorem Oq {p : Prop} (e : p := by omega) : p := e
def Om {p : Prop} (e : p := by first | omega | (simp only [Int.natAbs_natCast, Int.natAbs_neg]; omega)) : p := e
def Lk {p : Prop} (e : p := by first | (simp -implicitDefEqProofs (disch := omega) only [go_sem, Nat.reduceEqDiff, Nat.reduceAdd, ↓reduceIte, ↓List.map_cons, ↓List.map_nil]; done) | (simp -implicitDefEqProofs (disch := omega) only [go_sem, Nat.reduceEqDiff, Nat.reduceAdd, ↓reduceIte, ↓List.map_cons, ↓List.map_nil]; rfl) | rfl) : p := e
def Lq {p : Prop} (e : p := by first | (simp -implicitDefEqProofs (disch := omega) only [go_sem, Nat.reduceEqDiff, Nat.reduceAdd, ↓reduceIte]; done) | (simp -implicitDefEqProofs (disch := omega) only [go_sem, Nat.reduceEqDiff, Nat.reduceAdd, ↓reduceIte]; rfl) | rfl) : p := e
def Cz {p : Prop} (e : p := by simp only [go_sem, Nat.reduceEqDiff, ↓reduceIte]) : p := e
def Zy {p : Prop}  (e : p := by simp -implicitDefEqProofs (disch := omega) only [go_sem, Nat.reduceEqDiff, Nat.reduceAdd, ↓reduceIte]) : p := e
def Zy1 {p F1 : Prop} (f1 : F1) (e : F1 -> p := by intro g1; simp -implicitDefEqProofs (disch := omega) only [go_sem, Nat.reduceEqDiff, Nat.reduceAdd, ↓reduceIte, g1]) : p := e f1
def Zy2 {p F1 F2 : Prop} (f1 : F1) (f2 : F2) (e : F1 -> F2 -> p := by intro g1 g2; simp -implicitDefEqProofs (disch := omega) only [go_sem, Nat.reduceEqDiff, Nat.reduceAdd, ↓reduceIte, g1, g2]) : p := e f1 f2
def Zy3 {p F1 F2 F3 : Prop} (f1 : F1) (f2 : F2) (f3 : F3) (e : F1 -> F2 -> F3 -> p := by intro g1 g2 g3; simp -implicitDefEqProofs (disch := omega) only [go_sem, Nat.reduceEqDiff, Nat.reduceAdd, ↓reduceIte, g1, g2, g3]) : p := e f1 f2 f3
def Zy4 {p F1 F2 F3 F4 : Prop} (f1 : F1) (f2 : F2) (f3 : F3) (f4 : F4) (e : F1 -> F2 -> F3 -> F4 -> p := by intro g1 g2 g3 g4; simp -implicitDefEqProofs (disch := omega) only [go_sem, Nat.reduceEqDiff, Nat.reduceAdd, ↓reduceIte, g1, g2, g3, g4]) : p := e f1 f2 f3 f4
def Zy5 {p F1 F2 F3 F4 F5 : Prop} (f1 : F1) (f2 : F2) (f3 : F3) (f4 : F4) (f5 : F5) (e : F1 -> F2 -> F3 -> F4 -> F5 -> p := by intro g1 g2 g3 g4 g5; simp -implicitDefEqProofs (disch := omega) only [go_sem, Nat.reduceEqDiff, Nat.reduceAdd, ↓reduceIte, g1, g2, g3, g4, g5]) : p := e f1 f2 f3 f4 f5
def Zy6 {p F1 F2 F3 F4 F5 F6 : Prop} (f1 : F1) (f2 : F2) (f3 : F3) (f4 : F4) (f5 : F5) (f6 : F6) (e : F1 -> F2 -> F3 -> F4 -> F5 -> F6 -> p := by intro g1 g2 g3 g4 g5 g6; simp -implicitDefEqProofs (disch := omega) only [go_sem, Nat.reduceEqDiff, Nat.reduceAdd, ↓reduceIte, g1, g2, g3, g4, g5, g6]) : p := e f1 f2 f3 f4 f5 f6
def Zy7 {p F1 F2 F3 F4 F5 F6 F7 : Prop} (f1 : F1) (f2 : F2) (f3 : F3) (f4 : F4) (f5 : F5) (f6 : F6) (f7 : F7) (e : F1 -> F2 -> F3 -> F4 -> F5 -> F6 -> F7 -> p := by intro g1 g2 g3 g4 g5 g6 g7; simp -implicitDefEqProofs (disch := omega) only [go_sem, Nat.reduceEqDiff, Nat.reduceAdd, ↓reduceIte, g1, g2, g3, g4, g5, g6, g7]) : p := e f1 f2 f3 f4 f5 f6 f7
def Zy8 {p F1 F2 F3 F4 F5 F6 F7 F8 : Prop} (f1 : F1) (f2 : F2) (f3 : F3) (f4 : F4) (f5 : F5) (f6 : F6) (f7 : F7) (f8 : F8) (e : F1 -> F2 -> F3 -> F4 -> F5 -> F6 -> F7 -> F8 -> p := by intro g1 g2 g3 g4 g5 g6 g7 g8; simp -implicitDefEqProofs (disch := omega) only [go_sem, Nat.reduceEqDiff, Nat.reduceAdd, ↓reduceIte, g1, g2, g3, g4, g5, g6, g7, g8]) : p := e f1 f2 f3 f4 f5 f6 f7 f8
def Zy9 {p F1 F2 F3 F4 F5 F6 F7 F8 F9 : Prop} (f1 : F1) (f2 : F2) (f3 : F3) (f4 : F4) (f5 : F5) (f6 : F6) (f7 : F7) (f8 : F8) (f9 : F9) (e : F1 -> F2 -> F3 -> F4 -> F5 -> F6 -> F7 -> F8 -> F9 -> p := by intro g1 g2 g3 g4 g5 g6 g7 g8 g9; simp -implicitDefEqProofs (disch := omega) only [go_sem, Nat.reduceEqDiff, Nat.reduceAdd, ↓reduceIte, g1, g2, g3, g4, g5, g6, g7, g8, g9]) : p := e f1 f2 f3 f4 f5 f6 f7 f8 f9
def Zy10 {p F1 F2 F3 F4 F5 F6 F7 F8 F9 F10 : Prop} (f1 : F1) (f2 : F2) (f3 : F3) (f4 : F4) (f5 : F5) (f6 : F6) (f7 : F7) (f8 : F8) (f9 : F9) (f10 : F10) (e : F1 -> F2 -> F3 -> F4 -> F5 -> F6 -> F7 -> F8 -> F9 -> F10 -> p := by intro g1 g2 g3 g4 g5 g6 g7 g8 g9 g10; simp -implicitDefEqProofs (disch := omega) only [go_sem, Nat.reduceEqDiff, Nat.reduceAdd, ↓reduceIte, g1, g2, g3, g4, g5, g6, g7, g8, g9, g10]) : p := e f1 f2 f3 f4 f5 f6 f7 f8 f9 f10
def Zy11 {p F1 F2 F3 F4 F5 F6 F7 F8 F9 F10 F11 : Prop} (f1 : F1) (f2 : F2) (f3 : F3) (f4 : F4) (f5 : F5) (f6 : F6) (f7 : F7) (f8 : F8) (f9 : F9) (f10 : F10) (f11 : F11) (e : F1 -> F2 -> F3 -> F4 -> F5 -> F6 -> F7 -> F8 -> F9 -> F10 -> F11 -> p := by intro g1 g2 g3 g4 g5 g6 g7 g8 g9 g10 g11; simp -implicitDefEqProofs (disch := omega) only [go_sem, Nat.reduceEqDiff, Nat.reduceAdd, ↓reduceIte, g1, g2, g3, g4, g5, g6, g7, g8, g9, g10, g11]) : p := e f1 f2 f3 f4 f5 f6 f7 f8 f9 f10 f11
def Zy12 {p F1 F2 F3 F4 F5 F6 F7 F8 F9 F10 F11 F12 : Prop} (f1 : F1) (f2 : F2) (f3 : F3) (f4 : F4) (f5 : F5) (f6 : F6) (f7 : F7) (f8 : F8) (f9 : F9) (f10 : F10) (f11 : F11) (f12 : F12) (e : F1 -> F2 -> F3 -> F4 -> F5 -> F6 -> F7 -> F8 -> F9 -> F10 -> F11 -> F12 -> p := by intro g1 g2 g3 g4 g5 g6 g7 g8 g9 g10 g11 g12; simp -implicitDefEqProofs (disch := omega) only [go_sem, Nat.reduceEqDiff, Nat.reduceAdd, ↓reduceIte, g1, g2, g3, g4, g5, g6, g7, g8, g9, g10, g11, g12]) : p := e f1 f2 f3 f4 f5 f6 f7 f8 f9 f10 f11 f12
def Zy13 {p F1 F2 F3 F4 F5 F6 F7 F8 F9 F10 F11 F12 F13 : Prop} (f1 : F1) (f2 : F2) (f3 : F3) (f4 : F4) (f5 : F5) (f6 : F6) (f7 : F7) (f8 : F8) (f9 : F9) (f10 : F10) (f11 : F11) (f12 : F12) (f13 : F13) (e : F1 -> F2 -> F3 -> F4 -> F5 -> F6 -> F7 -> F8 -> F9 -> F10 -> F11 -> F12 -> F13 -> p := by intro g1 g2 g3 g4 g5 g6 g7 g8 g9 g10 g11 g12 g13; simp -implicitDefEqProofs (disch := omega) only [go_sem, Nat.reduceEqDiff, Nat.reduceAdd, ↓reduceIte, g1, g2, g3, g4, g5, g6, g7, g8, g9, g10, g11, g12, g13]) : p := e f1 f2 f3 f4 f5 f6 f7 f8 f9 f10 f11 f12 f13
def Zy14 {p F1 F2 F3 F4 F5 F6 F7 F8 F9 F10 F11 F12 F13 F14 : Prop} (f1 : F1) (f2 : F2) (f3 : F3) (f4 : F4) (f5 : F5) (f6 : F6) (f7 : F7) (f8 : F8) (f9 : F9) (f10 : F10) (f11 : F11) (f12 : F12) (f13 : F13) (f14 : F14) (e : F1 -> F2 -> F3 -> F4 -> F5 -> F6 -> F7 -> F8 -> F9 -> F10 -> F11 -> F12 -> F13 -> F14 -> p := by intro g1 g2 g3 g4 g5 g6 g7 g8 g9 g10 g11 g12 g13 g14; simp -implicitDefEqProofs (disch := omega) only [go_sem, Nat.reduceEqDiff, Nat.reduceAdd, ↓reduceIte, g1, g2, g3, g4, g5, g6, g7, g8, g9, g10, g11, g12, g13, g14]) : p := e f1 f2 f3 f4 f5 f6 f7 f8 f9 f10 f11 f12 f13 f14
def Zz1 {p q F1 : Prop} (f1 : F1) (k : q) (e : F1 -> p = q := by intro g1; simp -implicitDefEqProofs (disch := omega) only [go_sem, Nat.reduceEqDiff, Nat.reduceAdd, ↓reduceIte, g1]; exact rfl) : p := (e f1).mpr k
def Zz2 {p q F1 F2 : Prop} (f1 : F1) (f2 : F2) (k : q) (e : F1 -> F2 -> p = q := by intro g1 g2; simp -implicitDefEqProofs (disch := omega) only [go_sem, Nat.reduceEqDiff, Nat.reduceAdd, ↓reduceIte, g1, g2]; exact rfl) : p := (e f1 f2).mpr k
def Zz3 {p q F1 F2 F3 : Prop} (f1 : F1) (f2 : F2) (f3 : F3) (k : q) (e : F1 -> F2 -> F3 -> p = q := by intro g1 g2 g3; simp -implicitDefEqProofs (disch := omega) only [go_sem, Nat.reduceEqDiff, Nat.reduceAdd, ↓reduceIte, g1, g2, g3]; exact rfl) : p := (e f1 f2 f3).mpr k
def Zz4 {p q F1 F2 F3 F4 : Prop} (f1 : F1) (f2 : F2) (f3 : F3) (f4 : F4) (k : q) (e : F1 -> F2 -> F3 -> F4 -> p = q := by intro g1 g2 g3 g4; simp -implicitDefEqProofs (disch := omega) only [go_sem, Nat.reduceEqDiff, Nat.reduceAdd, ↓reduceIte, g1, g2, g3, g4]; exact rfl) : p := (e f1 f2 f3 f4).mpr k
def Zz5 {p q F1 F2 F3 F4 F5 : Prop} (f1 : F1) (f2 : F2) (f3 : F3) (f4 : F4) (f5 : F5) (k : q) (e : F1 -> F2 -> F3 -> F4 -> F5 -> p = q := by intro g1 g2 g3 g4 g5; simp -implicitDefEqProofs (disch := omega) only [go_sem, Nat.reduceEqDiff, Nat.reduceAdd, ↓reduceIte, g1, g2, g3, g4, g5]; exact rfl) : p := (e f1 f2 f3 f4 f5).mpr k
def Zz6 {p q F1 F2 F3 F4 F5 F6 : Prop} (f1 : F1) (f2 : F2) (f3 : F3) (f4 : F4) (f5 : F5) (f6 : F6) (k : q) (e : F1 -> F2 -> F3 -> F4 -> F5 -> F6 -> p = q := by intro g1 g2 g3 g4 g5 g6; simp -implicitDefEqProofs (disch := omega) only [go_sem, Nat.reduceEqDiff, Nat.reduceAdd, ↓reduceIte, g1, g2, g3, g4, g5, g6]; exact rfl) : p := (e f1 f2 f3 f4 f5 f6).mpr k
def Zz7 {p q F1 F2 F3 F4 F5 F6 F7 : Prop} (f1 : F1) (f2 : F2) (f3 : F3) (f4 : F4) (f5 : F5) (f6 : F6) (f7 : F7) (k : q) (e : F1 -> F2 -> F3 -> F4 -> F5 -> F6 -> F7 -> p = q := by intro g1 g2 g3 g4 g5 g6 g7; simp -implicitDefEqProofs (disch := omega) only [go_sem, Nat.reduceEqDiff, Nat.reduceAdd, ↓reduceIte, g1, g2, g3, g4, g5, g6, g7]; exact rfl) : p := (e f1 f2 f3 f4 f5 f6 f7).mpr k
def Zz8 {p q F1 F2 F3 F4 F5 F6 F7 F8 : Prop} (f1 : F1) (f2 : F2) (f3 : F3) (f4 : F4) (f5 : F5) (f6 : F6) (f7 : F7) (f8 : F8) (k : q) (e : F1 -> F2 -> F3 -> F4 -> F5 -> F6 -> F7 -> F8 -> p = q := by intro g1 g2 g3 g4 g5 g6 g7 g8; simp -implicitDefEqProofs (disch := omega) only [go_sem, Nat.reduceEqDiff, Nat.reduceAdd, ↓reduceIte, g1, g2, g3, g4, g5, g6, g7, g8]; exact rfl) : p := (e f1 f2 f3 f4 f5 f6 f7 f8).mpr k
def Zz9 {p q F1 F2 F3 F4 F5 F6 F7 F8 F9 : Prop} (f1 : F1) (f2 : F2) (f3 : F3) (f4 : F4) (f5 : F5) (f6 : F6) (f7 : F7) (f8 : F8) (f9 : F9) (k : q) (e : F1 -> F2 -> F3 -> F4 -> F5 -> F6 -> F7 -> F8 -> F9 -> p = q := by intro g1 g2 g3 g4 g5 g6 g7 g8 g9; simp -implicitDefEqProofs (disch := omega) only [go_sem, Nat.reduceEqDiff, Nat.reduceAdd, ↓reduceIte, g1, g2, g3, g4, g5, g6, g7, g8, g9]; exact rfl) : p := (e f1 f2 f3 f4 f5 f6 f7 f8 f9).mpr k
def Zz10 {p q F1 F2 F3 F4 F5 F6 F7 F8 F9 F10 : Prop} (f1 : F1) (f2 : F2) (f3 : F3) (f4 : F4) (f5 : F5) (f6 : F6) (f7 : F7) (f8 : F8) (f9 : F9) (f10 : F10) (k : q) (e : F1 -> F2 -> F3 -> F4 -> F5 -> F6 -> F7 -> F8 -> F9 -> F10 -> p = q := by intro g1 g2 g3 g4 g5 g6 g7 g8 g9 g10; simp -implicitDefEqProofs (disch := omega) only [go_sem, Nat.reduceEqDiff, Nat.reduceAdd, ↓reduceIte, g1, g2, g3, g4, g5, g6, g7, g8, g9, g10]; exact rfl) : p := (e f1 f2 f3 f4 f5 f6 f7 f8 f9 f10).mpr k
def Zz11 {p q F1 F2 F3 F4 F5 F6 F7 F8 F9 F10 F11 : Prop} (f1 : F1) (f2 : F2) (f3 : F3) (f4 : F4) (f5 : F5) (f6 : F6) (f7 : F7) (f8 : F8) (f9 : F9) (f10 : F10) (f11 : F11) (k : q) (e : F1 -> F2 -> F3 -> F4 -> F5 -> F6 -> F7 -> F8 -> F9 -> F10 -> F11 -> p = q := by intro g1 g2 g3 g4 g5 g6 g7 g8 g9 g10 g11; simp -implicitDefEqProofs (disch := omega) only [go_sem, Nat.reduceEqDiff, Nat.reduceAdd, ↓reduceIte, g1, g2, g3, g4, g5, g6, g7, g8, g9, g10, g11]; exact rfl) : p := (e f1 f2 f3 f4 f5 f6 f7 f8 f9 f10 f11).mpr k
def Zz12 {p q F1 F2 F3 F4 F5 F6 F7 F8 F9 F10 F11 F12 : Prop} (f1 : F1) (f2 : F2) (f3 : F3) (f4 : F4) (f5 : F5) (f6 : F6) (f7 : F7) (f8 : F8) (f9 : F9) (f10 : F10) (f11 : F11) (f12 : F12) (k : q) (e : F1 -> F2 -> F3 -> F4 -> F5 -> F6 -> F7 -> F8 -> F9 -> F10 -> F11 -> F12 -> p = q := by intro g1 g2 g3 g4 g5 g6 g7 g8 g9 g10 g11 g12; simp -implicitDefEqProofs (disch := omega) only [go_sem, Nat.reduceEqDiff, Nat.reduceAdd, ↓reduceIte, g1, g2, g3, g4, g5, g6, g7, g8, g9, g10, g11, g12]; exact rfl) : p := (e f1 f2 f3 f4 f5 f6 f7 f8 f9 f10 f11 f12).mpr k
def Zz13 {p q F1 F2 F3 F4 F5 F6 F7 F8 F9 F10 F11 F12 F13 : Prop} (f1 : F1) (f2 : F2) (f3 : F3) (f4 : F4) (f5 : F5) (f6 : F6) (f7 : F7) (f8 : F8) (f9 : F9) (f10 : F10) (f11 : F11) (f12 : F12) (f13 : F13) (k : q) (e : F1 -> F2 -> F3 -> F4 -> F5 -> F6 -> F7 -> F8 -> F9 -> F10 -> F11 -> F12 -> F13 -> p = q := by intro g1 g2 g3 g4 g5 g6 g7 g8 g9 g10 g11 g12 g13; simp -implicitDefEqProofs (disch := omega) only [go_sem, Nat.reduceEqDiff, Nat.reduceAdd, ↓reduceIte, g1, g2, g3, g4, g5, g6, g7, g8, g9, g10, g11, g12, g13]; exact rfl) : p := (e f1 f2 f3 f4 f5 f6 f7 f8 f9 f10 f11 f12 f13).mpr k
def Zz14 {p q F1 F2 F3 F4 F5 F6 F7 F8 F9 F10 F11 F12 F13 F14 : Prop} (f1 : F1) (f2 : F2) (f3 : F3) (f4 : F4) (f5 : F5) (f6 : F6) (f7 : F7) (f8 : F8) (f9 : F9) (f10 : F10) (f11 : F11) (f12 : F12) (f13 : F13) (f14 : F14) (k : q) (e : F1 -> F2 -> F3 -> F4 -> F5 -> F6 -> F7 -> F8 -> F9 -> F10 -> F11 -> F12 -> F13 -> F14 -> p = q := by intro g1 g2 g3 g4 g5 g6 g7 g8 g9 g10 g11 g12 g13 g14; simp -implicitDefEqProofs (disch := omega) only [go_sem, Nat.reduceEqDiff, Nat.reduceAdd, ↓reduceIte, g1, g2, g3, g4, g5, g6, g7, g8, g9, g10, g11, g12, g13, g14]; exact rfl) : p := (e f1 f2 f3 f4 f5 f6 f7 f8 f9 f10 f11 f12 f13 f14).mpr k
end Go
namespace Go.E
open Go
abbrev Env:=Nat->Value
def upd (e:Env) (d:Nat) (v:Value):Env:=λi=>if i=d then v else e i
def put (e:Env):Option Nat->Value->Env
 | some d,v=>upd e d v
 | none,_=>e
def ev (e:Env):Operand->Value
 | .tmp t=>e t
 | .const v=>v
 | .global g=>.pointer (some ⟨g,0,none⟩)
 | .func f=>.func (.func f) #[] #[]
def q4r (l:List Value):Env:=λi=>l.getD i undef
structure Rel (n:Nat) (a:Act) (e:Env):Prop where
 defs:a.defers=[]
 size:a.tmps.size=n
 get:∀ i,a.tmps.getD i undef=e i
def q98 (n:Nat) (o:Oper):Bool:=match o.dst with | some d=>decide (d < n) | none=>true
def q8K (n:Nat):Code->Bool
 | .skip | .exit _ | .ret=>true
 | .region _ ops _=>ops.toList.all (q98 n)
 | .seq a b=>q8K n a && q8K n b
 | .cond _ a b=>q8K n a && q8K n b
 | .block _ c=>q8K n c
 | .loop c=>q8K n c
 | _=>false
def wrO (i:Nat) (o:Oper):Bool:=match o.dst with | some d=>y2 d i | none=>false
def wr (i:Nat):Code->Bool
 | .region _ ops _=>ops.toList.any (wrO i)
 | .seq a b=>wr i a || wr i b
 | .cond _ a b=>wr i a || wr i b
 | .block _ c=>wr i c
 | .loop c=>wr i c
 | _=>false
def Rel.eval {n:Nat} {a:Act} {e:Env} (h:Rel n a e):a.eval=ev e:=by
 funext x
 cases x <;> simp only [Act.eval,ev];exact h.get _
def Rel.put {n:Nat} {a:Act} {e:Env} (h:Rel n a e) (dst:Option Nat) (v:Value) (hd:(match dst with | some d=>decide (d < n) | none=>true)=true):Rel n (a.put dst v) (E.put e dst v):=by
 cases dst with
 | none=>exact h
 | some d =>
  have hd':d < n:=by simpa using hd
  refine ⟨h.defs,by simpa [Act.put] using h.size,λi=>?_⟩;have hg:=h.get i;have hs:=h.size;simp only [E.put,upd,Act.put,yM,z5] at hg ⊢
  by_cases hi:i=d
  ·subst hi; simp [hs,hd']
  ·simp [hi,Ne.symm hi]; simpa using hg
section
variable {P:Program} {n:Nat}
def ql2 (n:Nat) (c:Code) (e:Env) (Q:Exit->Env->World->Prop) (x:Exit) (a:Act) (w:World):Prop :=
 ∃ e',Rel n a e'/\(∀ i,wr i c=false->e' i=e i)/\Q x e' w
def W (P:Program) (n:Nat) (c:Code) (Q:Exit->Env->World->Prop) (e:Env) (w:World):Prop :=
 q8K n c=true->∀ a,Rel n a e->c.wp P (ql2 n c e Q) a w
def qif (next:Env->World->Prop) (Q:Exit->Env->World->Prop):Exit->Env->World->Prop
 | .normal,e,w=>next e w
 | x,e,w=>Q x e w
def inB (id:Nat) (Q:Exit->Env->World->Prop):Exit->Env->World->Prop
 | .exit id',e,w=>if id'=id then Q .normal e w else Q (.exit id') e w
 | x,e,w=>Q x e w
def q6d {c:Code} {Q Q':Exit->Env->World->Prop} {e:Env} {w:World} (hq:∀ x e w,Q x e w->Q' x e w) (h:W P n c Q e w):W P n c Q' e w :=
 λhd a hr=>wp_mono (h hd a hr) λ_ _ _ ⟨e',r,f,q⟩=>⟨e',r,f,hq _ _ _ q⟩
def qrp {a b:Code} {Q:Exit->Env->World->Prop} {e:Env} {w:World} (h:W P n a (qif (W P n b Q) Q) e w):W P n (.seq a b) Q e w:=by
 intro hd act hr;simp only [q8K,zA] at hd;have key:∀ (x:Exit) (a':Act) (w':World),ql2 n a e (qif (W P n b Q) Q) x a' w'->Exit.then (b.wp P (ql2 n (.seq a b) e Q)) (ql2 n (.seq a b) e Q) x a' w':=by
  rintro x a' w' ⟨e',r,f,q⟩;cases x with
  | normal =>
   refine wp_mono (q hd.2 a' r) λx2 a2 w2 ⟨e2,r2,f2,q2⟩=>⟨e2,r2,λi hi=>?_,q2⟩;simp only [wr,yU] at hi;rw [f2 i hi.2,f i hi.1]
  | _=>exact ⟨e',r,λi hi=>f i (by simp only [wr,yU] at hi; exact hi.1),q⟩
 exact wp_seq (wp_mono (h hd.1 act hr) key)
def qbB {a b:Code} {Q:Exit->Env->World->Prop} {e:Env} {w:World} (h:∀ K:Env->World->Prop,(∀ e w,W P n b Q e w->K e w)->W P n a (qif K Q) e w):W P n (.seq a b) Q e w :=
 qrp (h _ λ_ _ h=>h)
def q9l {c:Operand} {x y:Code} {Q:Exit->Env->World->Prop} {e:Env} {w:World} {t:Bool} (hc:ev e c=.bool t) (ht:t=true->W P n x Q e w) (hf:t=false->W P n y Q e w):W P n (.cond c x y) Q e w:=by
 intro hd a hr;simp only [q8K,zA] at hd;refine wp_cond_split (t:=t) (by rw [hr.eval]; exact hc) (λh=>?_) (λh=>?_)
 ·exact wp_mono (ht h hd.1 a hr) λx2 a2 w2 ⟨e2,r2,f2,q2⟩=>⟨e2,r2,λi hi=>f2 i (by simp only [wr,yU] at hi; exact hi.1),q2⟩
 ·exact wp_mono (hf h hd.2 a hr) λx2 a2 w2 ⟨e2,r2,f2,q2⟩=>⟨e2,r2,λi hi=>f2 i (by simp only [wr,yU] at hi; exact hi.2),q2⟩
def Wt {c:Operand} {x y:Code} {Q:Exit->Env->World->Prop} {e:Env} {w:World} (ht:W P n x Q e w) (hc:ev e c=.bool true:=by exact rfl):W P n (.cond c x y) Q e w:=q9l hc (λ_=>ht) (λh=>by cases h)
def Wf {c:Operand} {x y:Code} {Q:Exit->Env->World->Prop} {e:Env} {w:World} (ht:W P n y Q e w) (hc:ev e c=.bool false:=by exact rfl):W P n (.cond c x y) Q e w:=q9l hc (λh=>by cases h) (λ_=>ht)
def qrq {id:Nat} {c:Code} {Q:Exit->Env->World->Prop} {e:Env} {w:World} (h:W P n c (inB id Q) e w):W P n (.block id c) Q e w:=by
 intro hd a hr;refine wp_block (wp_mono (h hd a hr) ?_);rintro x a2 w2 ⟨e2,r2,f2,q2⟩;cases x with
 | exit id' =>
  simp only [inB] at q2;simp only [Exit.inBlock]
  split
  ·rename_i hid; rw [if_pos hid] at q2; exact ⟨e2,r2,f2,q2⟩
  ·rename_i hid; rw [if_neg hid] at q2; exact ⟨e2,r2,f2,q2⟩
 | _=>exact ⟨e2,r2,f2,q2⟩
def qcn {Q:Exit->Env->World->Prop} {e:Env} {w:World} (h:Q .normal e w):W P n .skip Q e w :=
 λ_ _ hr=>wp_skip ⟨e,hr,λ_ _=>rfl,h⟩
def qy5 {id:Nat} {Q:Exit->Env->World->Prop} {e:Env} {w:World} (h:Q (.exit id) e w):W P n (.exit id) Q e w :=
 λ_ _ hr=>wp_exit ⟨e,hr,λ_ _=>rfl,h⟩
def ql0 {Q:Exit->Env->World->Prop} {e:Env} {w:World} (h:Q .ret e w):W P n .ret Q e w :=
 λ_ _ hr=>wp_ret ⟨e,hr,λ_ _=>rfl,h⟩
def RO (P:Program) (K:Value->World->Prop):Result Next->Prop
 | .ok (.value v) w=>K v w
 | .ok .skip w=>K undef w
 | .ok (.enter f args) w=>Calls P f args w λx w'=>match x with | .returned v=>K v w' | _=>False
 | _=>False
def WO (P:Program) (o:Oper) (e:Env) (w:World) (K:Value->World->Prop):Prop:=RO P K ((execOp (ev e) o).run P w)
def qrv {K K':Value->World->Prop} (hk:∀ v w,K v w->K' v w) {r:Result Next} (h:RO P K r):RO P K' r:=by
 cases r with
 | ok x w =>
  cases x <;> simp only [RO] at h ⊢
  ·exact hk _ _ h
  ·exact hk _ _ h
  ·exact h.mono λx w' hx=>by cases x <;> first | exact hk _ _ hx | exact hx
 | halt=>exact h
def qhy {o:Oper} {e:Env} {w:World} {K K':Value->World->Prop} (hk:∀ v w,K v w->K' v w) (h:WO P o e w K):WO P o e w K':=qrv hk h
def q3n (ops:Array Oper) (e:Env) (j:Nat):Option Bool :=
 match (ops[j]?).bind (·.dst) with
 | some d=>match e d with | .bool b=>some b | _=>none
 | none=>none
def q6i (ops:Array Oper) (e:Env) (o:Oper):Bool :=
 match o.guard with
 | none=>true
 | some (j,want)=>q3n ops e j == some want
def WG (P:Program) (ops:Array Oper) (o:Oper) (e:Env) (w:World) (K:Value->World->Prop):Prop :=
 if q6i ops e o then WO P o e w K else K undef w
def qbD {ops:Array Oper} {o:Oper} {e:Env} {w:World} {K K':Value->World->Prop} (hk:∀ v w,K v w->K' v w) (h:WG P ops o e w K):WG P ops o e w K':=by
 unfold WG at *; split
 ·rename_i hw; rw [if_pos hw] at h; exact qhy hk h
 ·rename_i hw; rw [if_neg hw] at h; exact hk _ _ h
def WL (P:Program) (ops:Array Oper) (K:Env->World->Prop):List Oper->Env->World->Prop
 | [],e,w=>K e w
 | o :: rest,e,w=>WG P ops o e w λv w'=>WL P ops K rest (put e o.dst v) w'
def qiZ {ops:Array Oper} {a:Act} {e:Env} (hr:Rel n a e) (hd:ops.toList.all (q98 n)=true) (j:Nat):yielded ops a.tmps j=q3n ops e j:=by
 unfold yielded q3n;cases hj:ops[j]? with
 | none=>simp
 | some o =>
  have ho:q98 n o=true:=by
   rw [zM] at hd;exact hd o (yV.2 (wI hj))
  simp only [xR];unfold q98 at ho;cases hdst:o.dst with
  | none=>simp
  | some d =>
   rw [hdst] at ho;have hlt:d < a.tmps.size:=by rw [hr.size]; simpa using ho
   have hg:=hr.get d;simp only [xR,yC hlt];have hv:a.tmps[d]=e d:=by rw [<- hg,yM,yC hlt]; rfl
   rw [hv];cases e d <;> rfl
def q71 {ops:Array Oper} {a:Act} {e:Env} (hr:Rel n a e) (hd:ops.toList.all (q98 n)=true) (o:Oper):Region.wanted o (yielded ops a.tmps)=q6i ops e o:=by
 unfold Region.wanted q6i;cases o.guard with
 | none=>rfl
 | some g=>obtain ⟨j,want⟩:=g; simp only [qiZ hr hd j]
def q7Z {o:Oper} {a:Act} {e:Env} {w:World} {K:Value->World->Prop} {K':Act->World->Prop} {Q:Exit->Act->World->Prop} (hr:Rel n a e) (h:WO P o e w K) (hk:∀ v w',K v w'->K' (a.put o.dst v) w'):o.wp P a w K' Q:=by
 unfold Oper.wp;rw [hr.eval];unfold WO at h;generalize (execOp (ev e) o).run P w=r at *;cases r with
 | ok x w' =>
  cases x <;> simp only [RO] at h <;> simp only [Oper.upon]
  ·exact hk _ _ h
  ·exact hk _ _ h
  ·refine h.mono λx w'' hx=>?_;cases x with
   | returned v=>exact hk _ _ hx
   | _=>exact hx.elim
 | halt=>exact h.elim
def q4y {ops:Array Oper} {K:Env->World->Prop} {Q:Exit->Act->World->Prop} (hd:ops.toList.all (q98 n)=true):∀ (l:List Oper),(∀ o ∈ l,q98 n o=true)->∀ (a:Act) (e:Env) (w:World),
  Rel n a e->(∀ (a':Act) (e':Env) (w':World),Rel n a' e'->(∀ i,l.any (wrO i)=false->e' i=e i)->K e' w'->Q .normal a' w')->WL P ops K l e w->wpList P ops Q l a w
 | [],_,a,e,w,hr,hq,h=>hq a e w hr (λ_ _=>rfl) h
 | o :: rest,hl,a,e,w,hr,hq,h=>by
  have hdo:=hl o z6;have hput:∀ v,Rel n (a.put o.dst v) (put e o.dst v):=λv=>hr.put o.dst v (by unfold q98 at hdo; cases hx:o.dst <;> simp_all);have hrec:∀ v w',WL P ops K rest (put e o.dst v) w'->wpList P ops Q rest (a.put o.dst v) w':=λv w' hw=>by
   refine q4y hd rest (λo ho=>hl o (zP _ ho)) _ _ _ (hput v) (λa' e' w'' r' f' k'=>hq a' e' w'' r' (λi hi=>?_) k') hw;simp only [List.any_cons,yU] at hi;rw [f' i hi.2];unfold wrO at hi;cases hx:o.dst with
   | none=>rfl
   | some d =>
    rw [hx] at hi;have hne:i≠d:=λhe=>by subst he; simp at hi
    simp [put,upd,hne]
  simp only [WL,WG] at h;unfold wpList;rw [q71 hr hd o]
  split
  ·rename_i hw;rw [if_pos hw] at h;exact .inl (q7Z hr h hrec)
  ·rename_i hw;rw [if_neg hw] at h;exact hrec _ _ h
def q42 {id:Nat} {ops:Array Oper} {Q:Exit->Env->World->Prop} {e:Env} {w:World} (h:WL P ops (Q .normal) ops.toList e w):W P n (.region id ops false) Q e w:=by
 intro hd a hr;have hd':ops.toList.all (q98 n)=true:=hd;refine wp_region_list (q4y hd' ops.toList (λo ho=>by rw [zM] at hd'; exact hd' o ho) a e w hr ?_ h);intro a' e' w' r' f' k';exact ⟨e',r',f',k'⟩
end
structure Pre (R:World->World->Prop):Prop where
 refl:∀ w,R w w
 trans:∀ {a b c},R a b->R b c->R a c
 drew:∀ w k,R w { w with drawn:=k }
abbrev q43 (R:World->World->Prop):={ p:Value->World->Prop // ∀ v w w',R w w'->p v w->p v w' }
section
variable {R:World->World->Prop}
def is (v:Value):q43 R:=⟨λx _=>x=v,λ_ _ _ _ h=>h⟩
def anyV:q43 R:=⟨λ_ _=>True,λ_ _ _ _ h=>h⟩
def look:List (Nat × q43 R)->Nat->q43 R
 | [],_=>anyV
 | (k,p) :: l,t=>if k=t then p else look l t
end
def q2Q (o:Oper) (j:Nat):Bool:=o.after.toList.any λe=>Region.binds .any e && y2 e.on j
def dstIs (ops:List Oper) (j t:Nat):Bool:=match (ops[j]?).bind (·.dst) with | some d=>y2 d t | none=>false
def looks (ops:Array Oper) (o:Oper) (t:Nat):Bool:=(o.looksAt ops).any (y2 t)
def dep (ops:Array Oper) (o:Oper) (t:Nat):Bool:=(List.range ops.size).any λj=>q2Q o j && dstIs ops.toList j t
def q6T (ops:Array Oper) (t:Nat):Bool:=ops.toList.any (wrO t)
def qc0 (ops:Array Oper):Bool :=
 (List.range ops.size).all λi=>match ops.toList[i]? with
  | none=>true
  | some o=>(o.after.toList.all λe=>!Region.binds .any e || decide (e.on < i)) &&
   (match o.op with | .select _ _=>false | _=>true) &&
   (List.range ops.size).all λj=>match ops.toList[j]? with
    | none=>true
    | some p=>y2 i j || ((match o.dst,p.dst with | some d,some d'=>!y2 d d' | _,_=>true) &&
      (match p.dst with | some d=>!looks ops o d || q2Q o j || q2Q p i | none=>true))
section
variable {P:Program} {n:Nat} {R:World->World->Prop}
def qco (P:Program) (ops:Array Oper) (R:World->World->Prop) (l:List (Nat × q43 R)) (e:Env) (w:World) (o:Oper):Prop :=
 ∀ e' w',R w w'->(∀ t,dep ops o t=true->(look l t).1 (e' t) w')->(∀ t,looks ops o t=true->dep ops o t=false->e' t=e t) ->
  WG P ops o e' w' λv w''=>R w' w''/\∀ d,o.dst=some d->(look l d).1 v w''
def q7P (P:Program) (ops:Array Oper) (R:World->World->Prop) (l:List (Nat × q43 R)) (e:Env) (w:World):List Oper->Prop
 | []=>True
 | o :: rest=>qco P ops R l e w o/\q7P P ops R l e w rest
def q7P.get {ops:Array Oper} {l:List (Nat × q43 R)} {e:Env} {w:World}:∀ {os:List Oper},q7P P ops R l e w os->∀ o ∈ os,qco P ops R l e w o:=by
 intro os
 induction os with
 | nil=>intro _ o ho; cases ho
 | cons a rest ih =>
  intro h x hx
  rcases w4.1 hx with hx | hx
  ·rw [hx]; exact h.1
  ·exact ih h.2 x hx
def qde {o:Oper} {j:Nat}:q2Q o j=true ↔ ∃ x ∈ o.after,Region.binds .any x=true/\x.on=j:=by
 unfold q2Q;simp only [y8,zA,Nat.beq_eq,yV]
def qnu {o:Oper} {t:Nat}:wrO t o=true ↔ o.dst=some t:=by
 unfold wrO; cases o.dst <;> simp
def q6S {ops:Array Oper} {t:Nat} (h:q6T ops t=false) (i:Nat) (o:Oper) (ho:ops[i]?=some o):o.dst≠some t:=by
 intro hd;have:q6T ops t=true:=by
  unfold q6T; rw [y8];exact ⟨o,yV.2 (wI ho),qnu.2 hd⟩
 rw [h] at this; cases this
structure DOk (ops:Array Oper):Prop where
 down:∀ (i:Nat) (o:Oper) (x:Edge),ops[i]?=some o->x ∈ o.after->Region.binds .any x=true->x.on < i
 one:∀ (i j:Nat) (o p:Oper) (d:Nat),ops[i]?=some o->ops[j]?=some p->i≠j->o.dst=some d->p.dst≠some d
 seen:∀ (i j:Nat) (o p:Oper) (d:Nat),ops[i]?=some o->ops[j]?=some p->i≠j->p.dst=some d->looks ops o d=true->q2Q o j=true\/q2Q p i=true
def DOk.of {ops:Array Oper} (h:qc0 ops=true):DOk ops:=by
 unfold qc0 at h;rw [zM] at h;have h1:∀ i o,ops[i]?=some o->_:=λi o ho=>h i (z4.2 (y5.1 ho).1);refine ⟨λi o x ho hx hb=>?_,λi j o p d ho hp hne hd hd'=>?_,λi j o p d ho hp hne hd hl=>?_⟩
 ·have:=h1 i o ho;rw [yE,ho] at this;simp only [zA,zM] at this;have:=this.1.1 x (yV.2 hx);simpa [hb] using this
 ·have:=h1 i o ho;rw [yE,ho] at this;simp only [zA,zM] at this;have:=this.2 j (z4.2 (y5.1 hp).1);rw [yE,hp] at this;simp [hd,hd',hne] at this
 ·have:=h1 i o ho;rw [yE,ho] at this;simp only [zA,zM] at this;have:=this.2 j (z4.2 (y5.1 hp).1);rw [yE,hp] at this;simp only [hd,hl,y4,Nat.beq_eq,zA] at this
  rcases this with this | ⟨_,this⟩
  ·exact absurd this hne
  ·simpa using this
def q4L {listed:Array Bool} {i j:Nat} (hi:i < listed.size) {b:Bool}:(listed.setIfInBounds i true).getD j b=if i=j then true else listed.getD j b:=by
 simp only [yM,z5]
 by_cases h:i=j
 ·subst h; simp [hi]
 ·simp [h]
def qj7:List Oper->Oper
 | []=>default
 | [o]=>o
 | _ :: o :: os=>qj7 (o :: os)
def qgF {o:Oper}:qj7 [o]=o:=rfl
def qd3 {o p:Oper} {os:List Oper}:qj7 (o :: p :: os)=qj7 (p :: os):=rfl
end
def q2b {α:Type} (o:Option α) (K:α->Prop):Prop:=match o with | some a=>K a | none=>False
def q2w {α:Type} (a:α) (K:α->Prop):q2b (some a) K=K a:=rfl
def q0m (op:BinOp) (k:IntKind) (a b:Int):Int :=
 match op with
 | .and=>k.wrap (BitVec.ofInt k.bits a &&& BitVec.ofInt k.bits b).toNat
 | .or=>k.wrap (BitVec.ofInt k.bits a ||| BitVec.ofInt k.bits b).toNat
 | .xor=>k.wrap (BitVec.ofInt k.bits a ^^^ BitVec.ofInt k.bits b).toNat
 | _=>k.wrap (BitVec.ofInt k.bits a &&& ~~~(BitVec.ofInt k.bits b)).toNat
def q3C (op:BinOp) (k:IntKind) (a b:Int):Option Value :=
 match op with
 | .add=>some (.int k (k.wrap (a+b)))
 | .sub=>some (.int k (k.wrap (a-b)))
 | .mul=>some (.int k (k.wrap (a*b)))
 | .quo=>if b=0 then none else some (.int k (k.wrap (a.tdiv b)))
 | .rem=>if b=0 then none else some (.int k (a.tmod b))
 | .and=>some (.int k (q0m .and k a b))
 | .or=>some (.int k (q0m .or k a b))
 | .xor=>some (.int k (q0m .xor k a b))
 | .andNot=>some (.int k (q0m .andNot k a b))
 | .eql=>some (.bool (a == b))
 | .neq=>some (.bool (a != b))
 | .lss=>some (.bool (decide (a < b)))
 | .leq=>some (.bool (decide (a<=b)))
 | .gtr=>some (.bool (decide (a > b)))
 | .geq=>some (.bool (decide (a ≥ b)))
 | _=>none
def q8T (op:BinOp) (k k':IntKind) (a b:Int):Option Value :=
 match op with
 | .shl=>if b < 0 then none else some (.int k (k.wrap (a*2 ^ (min b.toNat k.bits))))
 | .shr=>if b < 0 then none else some (.int k (a.fdiv (2 ^ (min b.toNat k.bits))))
 | op=>if k=k' then q3C op k a b else none
def q94 (P:Program) (t:TypeId):Bool:=!P.stoodInHeld t && !P.eqGuardType P.depth t && match P.underlying t with
 | some (.struct fs)=>match fs.toList with
  | [f, g] => f.name != "_" && g.name != "_" && f.offset == 0 && g.offset == 1 && (match P.underlying f.type, P.underlying g.type with | some (.int _), some (.int _) => true | _, _ => false) && (match P.info? f.type, P.info? g.type with | some i, some j => i.size == 1 && j.size == 1 | _, _ => false)
  | _=>false
 | _=>false
def prV:List Value->Option (IntKind × Int × IntKind × Int)
 | [.int k a,.int l b]=>some (k,a,l,b)
 | _=>none
def q1A (P:Program) (op:BinOp) (t:TypeId):Value->Value->Option Value
 | .int k a,.int k' b=>q8T op k k' a b
 | .bool a,.bool b=>match op,P.underlying t with
  | .eql,some .bool=>some (.bool (a == b))
  | .neq,some .bool=>some (.bool (a != b))
  | _,_=>none
 | .slice a _ _,.slice none _ _=>match op,P.underlying t with
  | .eql,some (.slice _)=>some (.bool a.isNone)
  | .neq,some (.slice _)=>some (.bool a.isSome)
  | _,_=>none
 | .agg xs,.agg ys=>if q94 P t=true then match prV xs.toList,prV ys.toList with
  | some (k,a,l,b),some (k',c,l',d)=>if k=k'/\l=l' then (match op with | .eql=>some (.bool (a == c && b == d)) | .neq=>some (.bool !(a == c && b == d)) | _=>none) else none
  | _,_=>none
  else none
 | _,_=>none
def unV (op:UnOp):Value->Option Value
 | .bool b=>match op with | .not=>some (.bool !b) | _=>none
 | .int k n=>match op with | .neg=>some (.int k (k.wrap (0-n))) | _=>none
 | _=>none
def qdj (s d:Option TypeDesc):Value->Option Value
 | .int _ n=>match s,d with | some _,some (.int k)=>some (.int k (k.wrap n)) | _,_=>none
 | _=>none
def q0c (P:Program) (t:TypeId):Option (Option Nat) :=
 match P.underlying t,P.info? t with
 | some (.struct _),some i=>some (some i.size)
 | some (.array _ _),some i=>some (some i.size)
 | some _,some _=>some none
 | _,_=>none
def q0W (P:Program) (t:TypeId) (f:Nat):Option Nat :=
 match P.underlying t with
 | some (.struct fs)=>match fs[f]? with
  | some d=>match P.info? d.type with | some i=>if i.size=0 then none else some d.offset | none=>none
  | none=>none
 | _=>none
def q0e (P:Program) (t:TypeId):Option Nat :=
 match P.underlying t with
 | some (.slice e)=>(P.info? e).map (·.size)
 | _=>none
def q06 (P:Program) (t:TypeId):Option (TypeId × Nat × Nat × Array Value) :=
 match P.underlying t with
 | some (.slice e)=>(P.info? e).bind λi=>i.zero.map λz=>(e,i.size,i.bytes,z.cells)
 | _=>none
def q1Y (P:Program) (t:TypeId):Option (Array Value):=match P.info? t with | some i=>i.zero.map (·.cells) | none=>none
def q00 (P:Program) (t:TypeId):Option Nat:=(P.info? t).map (·.size)
def q0y (w:World) (p:Addr):Nat->Nat->Option (List Value)
 | _,0=>some []
 | i,k+1=>match w.cell? (p.add i),q0y w p (i+1) k with | some v,some l=>some (v :: l) | _,_=>none
def ldV (w:World) (k:Option (Option Nat)):Value->Option Value
 | .pointer (some p)=>match k with
  | some none=>w.cell? p
  | some (some k)=>(q0y w p 0 k).map λl=>.agg l.toArray
  | none=>none
 | _=>none
def stN (w:World) (p:Addr):Nat->List Value->World
 | _,[]=>w
 | i,v :: vs=>stN (w.setCell (p.add i) v) p (i+1) vs
def stOk (w:World) (p:Addr):Nat->List Value->Prop
 | _,[]=>True
 | i,v :: vs=>(w.cell? (p.add i)).isSome=true/\w.frozen? (p.add i)=false/\v.oneCell'=true/\stOk w p (i+1) vs
def qdr (P:Program) (t:TypeId):Option (Nat × Nat) :=
 match P.underlying t with
 | some (.array n e)=>(P.info? e).map λi=>(n,i.size)
 | _=>none
def qjc (sz:Option Nat) (ar:Option (Nat × Nat)):Value->Value->Option Value
 | .slice (some a) n _,.int _ i=>match sz with | some s=>if 0<=i/\i < n then some (.pointer (some (a.add (i.toNat*s)))) else none | none=>none
 | .pointer (some a),.int _ i=>match ar with | some (n,s)=>if 0<=i/\i < n then some (.pointer (some (a.add (i.toNat*s)))) else none | none=>none
 | _,_=>none
def q31 (y:Nat):Option Value->Nat->Option Nat
 | none,d=>some d
 | some (.int _ i),_=>if 0<=i/\i<=y then some i.toNat else none
 | some _,_=>none
def q2K (sz:Option Nat) (lo hi:Option Value):Value->Option Value
 | .slice a n c=>match sz,q31 c hi n with
  | some s,some h=>match q31 h lo 0 with
   | some l=>some (.slice (if c=l then a else a.map (·.add (l*s))) (h-l) (c-l))
   | none=>none
  | _,_=>none
 | _=>none
def qvW (sz:Option Nat):Value->Option Value
 | .slice _ n _=>match sz with | some _=>some (.int .i64 n) | none=>none
 | _=>none
def qmv (i:Nat):Value->Option Value
 | .tuple vs=>vs[i]?
 | _=>none
def bsV (P:Program) (t:TypeId) (len:Nat) (parts:List (Nat × Value)):Option (TypeId × Array Value) :=
 match q06 P t with
 | some (e,s,_,z)=>if len*s=0 then (if parts.isEmpty then some (e,#[]) else none) else if len*s > 16777216 then none else (Instr.fill (λi=>some (i*s,s)) ((Array.range (len*s)).map (z[· % z.size]!)) parts).map λcs=>(e,cs)
 | none=>none
def mmV (isMax:Bool):List Value->Option Value
 | [.int k a,.int k' b]=>if k=k' then some (.int k (if isMax then max a b else min a b)) else none
 | _=>none
def q0I (P : Program) (f : FuncId) : Bool := match P.funcs[f]? with | some fn => fn.body.isSome && !(fn.name == "runtime.NumGoroutine") | none => false
def wo (P:Program) (o:Oper) (e:Env) (w:World) (K:Value->World->Prop):Prop :=
 match o.op with
 | .move x=>K (ev e x) w
 | .assign x=>K (ev e x) w
 | .pick c a b=>match ev e c with | .bool true=>K (ev e a) w | .bool false=>K (ev e b) w | _=>False
 | .alloc t=>q2b (q1Y P t) λz=>K (.pointer (some ⟨w.heap.size,0,none⟩)) (w.alloc (.cells z t))
 | .box t x=>K (.pointer (some ⟨w.heap.size,0,none⟩)) (w.alloc (.cells (ev e x).cells t))
 | .build t ps=>q2b (P.built t (ps.map λ(i,x)=>(i,ev e x)).toList) λcs=>K (.agg cs) w
 | .buildSlice t len ps=>q2b (bsV P t len (ps.map λ(i,x)=>(i,ev e x)).toList) λ(el,cs)=>K (.slice (some ⟨w.heap.size,0,none⟩) len len) (w.alloc (.cells cs el))
 | .load t a=>q2b (ldV w (q0c P t) (ev e a)) λv=>K v w
 | .store t a x=>match ev e a with
  | .pointer (some p)=>q00 P t=some (ev e x).cells.size/\stOk w p 0 (ev e x).cells.toList/\K undef (stN w p 0 (ev e x).cells.toList)
  | _=>False
 | .binOp op t x y _=>q2b (q1A P op t (ev e x) (ev e y)) λv=>K v w
 | .unOp op _ x=>q2b (unV op (ev e x)) λv=>K v w
 | .convert s d x=>q2b (qdj (P.underlying s) (P.underlying d) (ev e x)) λv=>K v w
 | .fieldAddr t x f=>match ev e x with
  | .pointer (some p)=>q2b (q0W P t f) λoff=>K (.pointer (some (p.add off))) w
  | _=>False
 | .indexAddr t x i=>q2b (qjc (q0e P t) (qdr P t) (ev e x) (ev e i)) λv=>K v w
 | .slice t x lo hi none=>q2b (q2K (q0e P t) (lo.map (ev e)) (hi.map (ev e)) (ev e x)) λv=>K v w
 | .makeSlice t l c=>match ev e l,ev e c with
  | .int _ l,.int _ c=>q2b (q06 P t) λ(el,s,b,z)=>(0<=l/\l<=c/\(b:Int)*c<=281474976710656/\c<=9223372036854775807)/\K (.slice (some ⟨w.heap.size,0,none⟩) l.toNat c.toNat) (w.alloc (.cells (madeCells z (c.toNat*s)) el))
  | _,_=>False
 | .nilCheck x=>match ev e x with
  | .pointer (some p)=>K (.pointer (some p)) w
  | _=>False
 | .extract x i=>q2b (qmv i (ev e x)) λv=>K v w
 | .call c=>match c.callee with
  | .builtin .len=>match c.args.toList,c.argTypes.toList with
   | [x],[t]=>q2b (qvW (q0e P t) (ev e x)) λv=>K v w
   | _,_=>False
  | .builtin .max=>q2b (mmV true (c.args.toList.map (ev e))) λv=>K v w
  | .builtin .min=>q2b (mmV false (c.args.toList.map (ev e))) λv=>K v w
  | .value (.func f)=>q0I P f=true/\Calls P f (c.args.map (ev e)) w λx w'=>match x with | .returned v=>K v w' | _=>False
  | _=>WO P o e w K
 | _=>WO P o e w K
section
variable {P:Program} {o:Oper} {e:Env} {w:World} {K:Value->World->Prop}
def q0T {α:Type} {o:Option α} {K:α->Prop} (h:q2b o K):∃ a,o=some a/\K a:=by
 cases o with
 | none=>exact h.elim
 | some a=>exact ⟨a,rfl,h⟩
def q6E (w:World) (p:Addr):∀ (k i:Nat) (l:List Value) (acc:Array Value),q0y w p i k=some l->(loadCellsFrom p i k acc).run P w=.ok (acc ++ l.toArray) w
 | 0,i,l,acc,h=>by simp [q0y] at h; subst h; simp [loadCellsFrom]
 | k+1,i,l,acc,h=>by
  simp only [q0y] at h;cases hc:w.cell? (p.add i) with
  | none=>simp [hc] at h
  | some v =>
   cases hr:q0y w p (i+1) k with
   | none=>simp [hc,hr] at h
   | some l' =>
    simp [hc,hr] at h;subst h;have:=q6E w p k (i+1) l' (acc.push v) hr;simp only [loadCellsFrom,Sem.run_bind,run_load,hc,Result.andThen,this];simp
def qfH (P:Program) (p:Addr):∀ (vs:List Value) (i:Nat) (w:World),stOk w p i vs->(storeCells p vs i).run P w=.ok () (stN w p i vs)
 | [],i,w,_=>by simp [storeCells,stN]
 | v :: vs,i,w,⟨h1,h2,h3,h4⟩=>by
  have hkeep:∀ (vs:List Value) (j:Nat),i < j->stOk w p j vs->stOk (w.setCell (p.add i) v) p j vs:=by
   intro vs
   induction vs with
   | nil=>intro _ _ _; exact trivial
   | cons u vs ih =>
    rintro j hj ⟨a1,a2,a3,a4⟩;have hne:p.add i≠p.add j:=λhe=>by
     unfold Addr.add at he
     split at he <;> split at he <;> first | omega | (have:=congrArg Addr.off he; simp at this; omega)
    refine ⟨?_,by rw [World.frozen?_setCell]; exact a2,a3,ih (j+1) Oq a4⟩;rw [World.cell?_setCell_other _ _ _ _ hne];exact a1
  have ih:=qfH P p vs (i+1) (w.setCell (p.add i) v) (hkeep vs (i+1) Oq h4);obtain ⟨u,hu⟩:=x7.1 h1;have hst:(store (p.add i) v).run P w=.ok () (w.setCell (p.add i) v):=by
   rw [run_store P w _ v _ h3];simp [hu,h2]
  simp only [storeCells,Sem.run_bind,hst,Result.andThen_ok,ih,stN]
def q6x {t:TypeId} {a b:Bool} (w:World) (hu:P.underlying t=some .bool):(Op.equal t (.bool a) (.bool b)).run P w=.ok (a == b) w:=by
 have h:∀ d:Nat,(Op.equalIn (d+1) t (.bool a) (.bool b)).run P w=.ok (a == b) w:=λd=>by
  simp [Op.equalIn,run_underlying hu]
 exact h 9999
def q9C {t el:TypeId} {a:Option Addr} {n c n' c':Nat} (w:World) (hu:P.underlying t=some (.slice el)):(Op.equal t (.slice a n c) (.slice none n' c')).run P w=.ok a.isNone w:=by
 have h:∀ d:Nat,(Op.equalIn (d+1) t (.slice a n c) (.slice none n' c')).run P w=.ok a.isNone w:=λd=>by
  cases a <;> simp [Op.equalIn,run_underlying hu]
 exact h 9999
def q9D {t:TypeId} {k0 k:IntKind} {a b:Int} (w:World) (hu:P.underlying t=some (.int k0)) (d:Nat):(Op.equalIn (d+1) t (.int k a) (.int k b)).run P w=.ok (a == b) w:=by
 simp [Op.equalIn,run_underlying hu]
def q6w {t:TypeId} {k l:IntKind} {a b c d:Int} (w:World) (h:q94 P t=true):(Op.equal t (.agg #[.int k a,.int l b]) (.agg #[.int k c,.int l d])).run P w=.ok (a == c && b == d) w:=by
 unfold q94 at h;simp only [zA] at h;obtain ⟨⟨h1,h2⟩,h3⟩:=h
 split at h3
 case h_2=>cases h3
 rename_i fs hu
 split at h3
 case h_2=>cases h3
 rename_i f g hfs;simp only [zA] at h3;obtain ⟨⟨⟨⟨⟨n1,n2⟩,o1⟩,o2⟩,u⟩,s⟩:=h3
 split at u
 case h_2=>cases u
 rename_i k1 k2 u1 u2
 split at s
 case h_2=>cases s
 rename_i i j i1 i2;have hfs2:fs=#[f,g]:=by cases fs; simp at hfs; subst hfs; rfl
 subst hfs2;have e:∀ dd:Nat,(Op.equalIn (dd+2) t (.agg #[.int k a,.int l b]) (.agg #[.int k c,.int l d])).run P w=.ok (a == c && b == d) w:=λdd=>by
  have x1:=λw=>q9D (k:=k) (a:=a) (b:=c) w u1 dd;have x2:=λw=>q9D (k:=l) (a:=b) (b:=d) w u2 dd;have h1:P.stoodInHeld t=false:=by simpa using h1
  have n1 : f.name ≠ "_" := by simpa using n1
  have n2 : g.name ≠ "_" := by simpa using n2
  have o1:f.offset=0:=by simpa using o1
  have o2:g.offset=1:=by simpa using o2
  have p1:∀ (v u:Value) (w:World),(part f.type #[v,u] 0).run P w=.ok v w:=λv u w=>by simp [part,isAgg,run_underlying u1]
  have p2:∀ (v u:Value) (w:World),(part g.type #[v,u] 1).run P w=.ok u w:=λv u w=>by simp [part,isAgg,run_underlying u2]
  rw [Op.equalIn];simp only [Sem.run_bind,run_underlying hu,Result.andThen_ok];cases e1:(a == c) <;> cases e2:(b == d) <;> simp [h1,n1,n2,o1,o2,p1,p2,x1,x2,e1,e2]
 exact e 9998
def qki {op:BinOp} {t:TypeId} {x y:Operand} {xs ys:Array Value} (w:World) (h:q94 P t=true):(eqGuard op t x y (.agg xs) (.agg ys)).run P w=.ok () w:=by
 unfold q94 at h;simp only [zA] at h;obtain ⟨⟨h1,h2⟩,h3⟩:=h;have h2:P.eqGuardType P.depth t=false:=by simpa using h2
 unfold eqGuard;cases op <;> simp [h2]
def qm0 {xs:Array Value} {k l:IntKind} {a b:Int} (h:prV xs.toList=some (k,a,l,b)):xs=#[.int k a,.int l b]:=by
 cases xs with
 | mk xs =>
  unfold prV at h
  split at h
  ·rename_i q;cases h;simp at q;subst q; rfl
  ·cases h
def qiz {op : BinOp} {t : TypeId} {x y : Operand} {vx vy v : Value} (w : World) (hv : q1A P op t vx vy = some v) :
    (do eqGuard op t x y vx vy; binOp op t vx vy : Sem Value).run P w = .ok v w := by
  unfold q1A at hv
  split at hv
  · rename_i k a k' b
    unfold q8T at hv
    have hg : (eqGuard op t x y (.int k a) (.int k' b)).run P w = .ok () w := by
      unfold eqGuard; cases op <;> simp
    rw [Sem.run_bind, hg, Result.andThen_ok]
    split at hv
    · split at hv
      · cases hv
      · rename_i hb; obtain rfl := zH.inj hv; simp [binOp, Op.shift, hb]
    · split at hv
      · cases hv
      · rename_i hb; obtain rfl := zH.inj hv; simp [binOp, Op.shift, hb]
    · rename_i hs1 hs2
      split at hv
      · rename_i hk
        subst hk
        cases op <;> simp only [q3C] at hv <;> first
          | exact absurd rfl hs1
          | exact absurd rfl hs2
          | (split at hv
             · cases hv
             · rename_i hb; obtain rfl := zH.inj hv; simp [binOp, Op.intDiv, hb])
          | (obtain rfl := zH.inj hv; simp [binOp, Op.intArith, Op.intBits, Op.intCmp, q0m])
          | cases hv
      · cases hv
  · rename_i a b
    split at hv
    · rename_i hu
      obtain rfl := zH.inj hv
      have hg : (eqGuard .eql t x y (.bool a) (.bool b)).run P w = .ok () w := by unfold eqGuard; simp
      rw [Sem.run_bind, hg, Result.andThen_ok]
      have hb : binOp .eql t (.bool a) (.bool b) = (do pure (.bool (<- Op.equal t (.bool a) (.bool b))) : Sem Value) := rfl
      rw [hb, Sem.run_bind, q6x w hu]
      rfl
    · rename_i hu
      obtain rfl := zH.inj hv
      have hg : (eqGuard .neq t x y (.bool a) (.bool b)).run P w = .ok () w := by unfold eqGuard; simp
      rw [Sem.run_bind, hg, Result.andThen_ok]
      have hb : binOp .neq t (.bool a) (.bool b) = (do pure (.bool (!(<- Op.equal t (.bool a) (.bool b)))) : Sem Value) := rfl
      rw [hb, Sem.run_bind, q6x w hu]
      rfl
    · cases hv
  · rename_i a n c n' c'
    split at hv
    · rename_i hu
      obtain rfl := zH.inj hv
      have hg : (eqGuard .eql t x y (.slice a n c) (.slice none n' c')).run P w = .ok () w := by unfold eqGuard; simp
      rw [Sem.run_bind, hg, Result.andThen_ok]
      have hb : binOp .eql t (.slice a n c) (.slice none n' c') = (do pure (.bool (<- Op.equal t (.slice a n c) (.slice none n' c'))) : Sem Value) := rfl
      rw [hb, Sem.run_bind, q9C w hu]
      rfl
    · rename_i hu
      obtain rfl := zH.inj hv
      have hg : (eqGuard .neq t x y (.slice a n c) (.slice none n' c')).run P w = .ok () w := by unfold eqGuard; simp
      rw [Sem.run_bind, hg, Result.andThen_ok]
      have hb : binOp .neq t (.slice a n c) (.slice none n' c') = (do pure (.bool (!(<- Op.equal t (.slice a n c) (.slice none n' c')))) : Sem Value) := rfl
      rw [hb, Sem.run_bind, q9C w hu]
      cases a <;> rfl
    · cases hv
  · rename_i xs ys
    split at hv
    case isFalse => cases hv
    rename_i hk
    split at hv
    case h_2 => cases hv
    rename_i k a l b k' c l' d hx hy
    have ex := qm0 hx
    have ey := qm0 hy
    subst ex; subst ey
    split at hv
    case isFalse => cases hv
    rename_i hkk
    obtain ⟨rfl, rfl⟩ := hkk
    rw [Sem.run_bind, qki w hk, Result.andThen_ok]
    split at hv
    · obtain rfl := zH.inj hv
      have hb : binOp .eql t (.agg #[.int k a, .int l b]) (.agg #[.int k c, .int l d]) = (do pure (.bool (<- Op.equal t (.agg #[.int k a, .int l b]) (.agg #[.int k c, .int l d]))) : Sem Value) := rfl
      rw [hb, Sem.run_bind, q6w w hk]
      rfl
    · obtain rfl := zH.inj hv
      have hb : binOp .neq t (.agg #[.int k a, .int l b]) (.agg #[.int k c, .int l d]) = (do pure (.bool (!(<- Op.equal t (.agg #[.int k a, .int l b]) (.agg #[.int k c, .int l d])))) : Sem Value) := rfl
      rw [hb, Sem.run_bind, q6w w hk]
      rfl
    · cases hv
  · cases hv
def q1v {y d h:Nat} (hv:q31 y none d=some h):d=h:=zH.inj hv
def q12 {w:World} {y d h:Nat} {v:Value} (code:BoundsCode) (hv:q31 y (some v) d=some h):(Instr.sliceBound v y code).run P w=.ok h w:=by
 cases v <;> simp only [q31] at hv <;> try (cases hv; done)
 split at hv
 ·rename_i hb;obtain rfl:=zH.inj hv;exact run_sliceBound w _ _ _ _ hb.1 hb.2
 ·cases hv
def qdM {t:TypeId} {lo hi:Option Value} {x v:Value} (w:World) (hv:q2K (q0e P t) lo hi x=some v) :
  ∃ el,P.underlying t=some (.slice el)/\∃ i,P.info? el=some i/\(Instr.sliceAt t x lo hi none).run P w=.ok v w:=by
 unfold q2K at hv
 split at hv
 ·rename_i a n c
  split at hv
  ·rename_i s h hs hh
   split at hv
   ·rename_i l hl;obtain rfl:=zH.inj hv;unfold q0e at hs
    split at hs
    ·rename_i el hu;obtain ⟨i,hi',hsz⟩:=zU.1 hs;refine ⟨el,hu,i,hi',?_⟩;have hsize:(sizeOf el).run P w=.ok s w:=by simp [sizeOf,typeInfo,hi',hsz]
     have hb:(Instr.sliceBounds true n c lo hi none).run P w=.ok (l,h,c) w:=by
      unfold Instr.sliceBounds;cases hi with
      | none =>
       obtain rfl:=q1v hh;cases lo with
       | none=>obtain rfl:=q1v hl; simp
       | some lv=>simp [q12 (P:=P) (w:=w) .sliceB hl]
      | some hv' =>
       cases lo with
       | none=>obtain rfl:=q1v hl; simp [q12 (P:=P) (w:=w) .sliceAcap hh]
       | some lv=>simp [q12 (P:=P) (w:=w) .sliceAcap hh,q12 (P:=P) (w:=w) .sliceB hl]
     simp [Instr.sliceAt,Instr.slice,run_underlying hu,hb,hsize]
    ·cases hs
   ·cases hv
  ·cases hv
 ·cases hv
def qdN {t:TypeId} {f off:Nat} (w:World) (p:Addr) (h:q0W P t f=some off):(Instr.fieldAt t (.pointer (some p)) f).run P w=.ok (.pointer (some (p.add off))) w:=by
 unfold q0W at h
 split at h
 ·rename_i fs hu
  split at h
  ·rename_i d hd
   split at h
   ·rename_i i hi
    split at h
    ·cases h
    ·rename_i hn;obtain rfl:=zH.inj h;simp [Instr.fieldAt,run_underlying hu,hd,Instr.sureAddr,fieldPlace,sizeOf,typeInfo,hi,hn]
   ·cases h
  ·cases h
 ·cases h
def qiy {t:TypeId} {x i v:Value} (w:World) (h:qjc (q0e P t) (qdr P t) x i=some v):(Instr.indexAt t x i).run P w=.ok v w:=by
 unfold qjc at h
 split at h
 ·split at h
  ·rename_i s hs
   split at h
   ·rename_i hb;obtain rfl:=zH.inj h;unfold q0e at hs
    split at hs
    ·rename_i el hu;obtain ⟨i,hi,hsz⟩:=zU.1 hs;simp [Instr.indexAt,asIntOf,run_underlying hu,hb,sizeOf,typeInfo,hi,hsz]
    ·cases hs
   ·cases h
  ·cases h
 ·split at h
  ·rename_i n s hs
   split at h
   ·rename_i hb;obtain rfl:=zH.inj h;unfold qdr at hs
    split at hs
    ·rename_i n' el hu;obtain ⟨i,hi,hsz⟩:=zU.1 hs;cases hsz;simp [Instr.indexAt,Instr.sureAddr,asIntOf,run_underlying hu,hb,sizeOf,typeInfo,hi]
    ·cases hs
   ·cases h
  ·cases h
 ·cases h
def qbP (h:wo P o e w K):WO P o e w K:=by
 unfold wo at h;unfold WO;obtain ⟨dst,op,ty,pos,af,g⟩:=o;cases op <;> try exact h
 case pick c a b =>
  simp only [] at h;simp only [execOp,Sem.run_bind]
  split at h
  ·rename_i hc; rw [hc]; exact h
  ·rename_i hc; rw [hc]; exact h
  ·exact h.elim
 case alloc t =>
  obtain ⟨z,hz,h⟩:=q0T h;unfold q1Y at hz;cases hi:P.info? t with
  | none=>rw [hi] at hz; cases hz
  | some i =>
   rw [hi] at hz;cases hzz:i.zero with
   | none=>simp [hzz] at hz
   | some v =>
    simp [hzz] at hz;subst hz;simp [execOp,Instr.alloc,zeroValue,typeInfo,hi,hzz,newVar,newRow,RO];exact h
 case build t ps =>
  obtain ⟨z,hz,h⟩:=q0T h;have:=run_build (P:=P) w t (ps.map λ(i,x)=>(i,ev e x)) z hz;simp only [execOp,Sem.run_bind,this];exact h
 case buildSlice t len ps =>
  obtain ⟨z,hz,h⟩:=q0T h;unfold bsV q06 at hz;cases hu:P.underlying t with
  | none=>simp [hu] at hz
  | some d =>
   cases d with
   | slice el =>
    cases hi:P.info? el with
    | none=>simp [hu,hi] at hz
    | some i =>
     cases hzz:i.zero with
     | none=>simp [hu,hi,hzz] at hz
     | some v =>
      simp only [hu,hi,hzz,xR,xC] at hz;have e1:(sizeOf el).run P w=.ok i.size w:=by simp [sizeOf,typeInfo,hi]
      have e2:(zeroValue el).run P w=.ok v w:=by simp [zeroValue,typeInfo,hi,hzz]
      have hrun:(Instr.buildSlice t len (ps.map λ(i,x)=>(i,ev e x))).run P w=.ok (.slice (some ⟨w.heap.size,0,none⟩) len len) (w.alloc (.cells z.2 z.1)):=by
       unfold Instr.buildSlice;rw [Sem.run_bind,run_underlying hu,Result.andThen_ok];simp only [];rw [Sem.run_bind,e1,Result.andThen_ok]
       split at hz
       ·rename_i h0
        split at hz
        ·rename_i hp;obtain rfl:=zH.inj hz;have hp':(ps.map λ(i,x)=>(i,ev e x)).toList=[]:=by simpa using hp
         have h2':¬ len*i.size > 2 ^ 24:=by omega
         rw [if_neg h2',if_pos h0];simp only [pure_bind];have hr0:Array.range 0=#[]:=rfl;rw [hp',h0,hr0];simp [Instr.fill,newRow]
        ·cases hz
       ·rename_i h1
        split at hz
        ·cases hz
        ·rename_i h2;have h2':¬ len*i.size > 2 ^ 24:=by simpa using h2
         obtain ⟨cs,hcs,rfl⟩:=zU.1 hz;rw [if_neg h2',if_neg h1];simp only [pure_bind,Sem.run_bind,e2,Result.andThen_ok];rw [hcs];simp [newRow]
      simp only [execOp,Sem.run_bind,hrun];exact h
   | _=>simp [hu] at hz
 case load t a =>
  obtain ⟨v,hv,h⟩:=q0T h;have key:(Instr.loadAt t (ev e a)).run P w=.ok v w:=by
   generalize ev e a=va at *;unfold ldV at hv
   split at hv
   ·rename_i p
    split at hv
    ·rename_i hk;unfold q0c at hk;have hagg:(isAgg t).run P w=.ok false w:=by
      unfold isAgg;cases hu:P.underlying t with
      | none=>simp [hu] at hk
      | some d =>
       rw [Sem.run_bind,run_underlying hu w];cases hi:P.info? t <;> cases d <;> simp_all
     simp [Instr.loadAt,Instr.sureAddr,loadVar,hagg,hv]
    ·rename_i k hk;unfold q0c at hk;obtain ⟨l,hl,rfl⟩:=zU.1 hv;have hagg:(isAgg t).run P w=.ok true w/\(sizeOf t).run P w=.ok k w:=by
      unfold isAgg sizeOf typeInfo;cases hu:P.underlying t with
      | none=>simp [hu] at hk
      | some d =>
       rw [Sem.run_bind,run_underlying hu w];cases hi:P.info? t <;> cases d <;> simp_all
     have hrun:=q6E (P:=P) w p k 0 l #[] hl;simp [Instr.loadAt,Instr.sureAddr,loadVar,hagg.1,hagg.2,loadCells,hrun]
    ·cases hv
   ·cases hv
  simp only [execOp,Sem.run_bind,key];exact h
 case store t a x =>
  simp only [] at h
  split at h
  ·rename_i p hp;obtain ⟨h1,h2,h3⟩:=h;unfold q00 at h1;obtain ⟨i,hi,hs⟩:=zU.1 h1;have hrun:=qfH P p (ev e x).cells.toList 0 w h2;simp [execOp,Instr.storeAt,Instr.sureAddr,storeVar,sizeOf,typeInfo,hi,hs,hp,hrun,RO];exact h3
  ·exact h.elim
 case nilCheck x =>
  simp only [] at h
  split at h
  ·rename_i p hp; simp [execOp,hp,RO]; exact h
  ·exact h.elim
 case binOp op t x y t' =>
  obtain ⟨v,hv,h⟩:=q0T h;have key:=qiz (P:=P) (x:=x) (y:=y) w hv;simp only [execOp];rw [Sem.run_bind,key];exact h
 case unOp op t x =>
  obtain ⟨v,hv,h⟩:=q0T h;unfold unV at hv
  split at hv
  ·rename_i hx
   split at hv
   ·obtain rfl:=zH.inj hv;simp [execOp,hx,Op.unary,RO]; exact h
   ·cases hv
  ·rename_i hx
   split at hv
   ·obtain rfl:=zH.inj hv;simp only [execOp,hx,Op.unary,Op.intArith,Sem.run_bind]; exact h
   ·cases hv
  ·cases hv
 case convert s d x =>
  obtain ⟨v,hv,h⟩:=q0T h;unfold qdj at hv
  split at hv
  ·rename_i k0 n0 hx
   split at hv
   ·rename_i sd k hs hd;obtain rfl:=zH.inj hv;have key:(convert s d (ev e x)).run P w=.ok (.int k (k.wrap n0)) w:=by
     rw [hx]; simp [convert,run_underlying hs,run_underlying hd,Conv.intToInt]
    simp only [execOp,Sem.run_bind,key];exact h
   ·cases hv
  ·cases hv
 case makeSlice t l c =>
  simp only [] at h
  split at h
  ·rename_i kl l' kc c' hl hc;obtain ⟨⟨el,s,b,z⟩,hz,⟨h0,h1,h2,h3⟩,h⟩:=q0T h;unfold q06 at hz;cases hu:P.underlying t with
   | none=>simp [hu] at hz
   | some d =>
    cases d with
    | slice el' =>
     cases hi:P.info? el' with
     | none=>simp [hu,hi] at hz
     | some i =>
      cases hzz:i.zero with
      | none=>simp [hu,hi,hzz] at hz
      | some v =>
       simp [hu,hi,hzz] at hz;obtain ⟨rfl,rfl,rfl,rfl⟩:=hz;have:=run_make (P:=P) w t el' i v hu hi hzz kl kc l' c' h0 h1 h2 h3;simp only [execOp,hl,hc,Sem.run_bind,this];exact h
    | _=>simp [hu] at hz
  ·exact h.elim
 case slice t x lo hi mx =>
  cases mx with
  | some _=>exact h
  | none =>
   obtain ⟨v,hv,h⟩:=q0T h;obtain ⟨el,hu,i,hi',hrun⟩:=qdM (P:=P) w hv;simp only [execOp,Sem.run_bind,Option.map_none,hrun];exact h
 case fieldAddr t x f =>
  simp only [] at h
  split at h
  ·rename_i p hp;obtain ⟨off,ho,h⟩:=q0T h;have key:=qdN (P:=P) w p ho;simp only [execOp,Sem.run_bind,hp,key];exact h
  ·exact h.elim
 case indexAddr t x i =>
  obtain ⟨v,hv,h⟩:=q0T h;have key:=qiy (P:=P) w hv;simp only [execOp,Sem.run_bind,key];exact h
 case extract x i =>
  obtain ⟨v,hv,h⟩:=q0T h;unfold qmv at hv
  split at hv
  ·rename_i hx; simp [execOp,hx,Instr.extract,hv,RO]; exact h
  ·cases hv
 case call c =>
  simp only [] at h;obtain ⟨callee,args,tys⟩:=c;simp only [] at h
  split at h
  ·split at h
   ·rename_i x t ha ht;obtain ⟨v,hv,h⟩:=q0T h;obtain ⟨args⟩:=args;obtain ⟨tys⟩:=tys;simp only at ha ht;subst ha; subst ht;have key:(Builtin.len_ #[t] ty #[ev e x]).run P w=.ok v w:=by
     unfold qvW at hv
     split at hv
     ·rename_i hx
      split at hv
      ·rename_i hs;obtain rfl:=zH.inj hv;unfold q0e at hs
       split at hs
       ·rename_i el hu;simp [Builtin.len_,hx,run_underlying hu,goInt]
       ·cases hs
      ·cases hv
     ·cases hv
    simp [execOp,resolve,invoke,builtin,key,RO];exact h
   ·exact h.elim
  ·obtain ⟨v,hv,h⟩:=q0T h;have key:(Builtin.max_ tys ty (args.map (ev e))).run P w=.ok v w:=by
    unfold mmV at hv;unfold Builtin.max_;rw [Array.toList_map]
    split at hv
    ·rename_i k a k' b hl
     split at hv
     ·rename_i hk;obtain rfl:=zH.inj hv;simp [hl,Builtin.max2]
      split <;> omega
     ·cases hv
    ·cases hv
   simp [execOp,resolve,invoke,builtin,key,RO];exact h
  ·obtain ⟨v,hv,h⟩:=q0T h;have key:(Builtin.min_ tys ty (args.map (ev e))).run P w=.ok v w:=by
    unfold mmV at hv;unfold Builtin.min_;rw [Array.toList_map]
    split at hv
    ·rename_i k a k' b hl
     split at hv
     ·rename_i hk;obtain rfl:=zH.inj hv;simp [hl,Builtin.min2]
      split <;> omega
     ·cases hv
    ·cases hv
   simp [execOp,resolve,invoke,builtin,key,RO];exact h
  ·rename_i f;obtain ⟨hf,h⟩:=h;have key:(callFunc f (args.map (ev e))).run P w=.ok (.enter f (args.map (ev e))) w:=by
    unfold q0I at hf;cases hfn:P.funcs[f]? with
    | none=>simp [hfn] at hf
    | some fn =>
     simp only [hfn,zA] at hf;obtain ⟨h1,h2⟩:=hf;obtain ⟨b,hb⟩:=x7.1 h1;simp only [Bool.not_eq_true',beq_eq_false_iff_ne,ne_eq] at h2;simp [callFunc,hfn,hb,h2]
   have key2:(execOp (ev e) ⟨dst,.call ⟨.value (.func f),args,tys⟩,ty,pos,af,g⟩).run P w=.ok (.enter f (args.map (ev e))) w:=by
    simp only [execOp,resolve,Deferred.ofValue,ev,pure_bind,invoke];simp [key]
   rw [key2];exact h
  ·exact h
end
def wg (P:Program) (ops:Array Oper) (o:Oper) (e:Env) (w:World) (K:Value->World->Prop):Prop :=
 if q6i ops e o then wo P o e w K else K undef w
def WLo (P:Program) (ops:Array Oper) (K:Env->World->Prop):List Oper->Env->World->Prop
 | [],e,w=>K e w
 | o :: rest,e,w=>wg P ops o e w λv w'=>WLo P ops K rest (put e o.dst v) w'
section
variable {P:Program} {n:Nat} {ops:Array Oper} {Q:Exit->Env->World->Prop} {K:Env->World->Prop} {e:Env} {w:World}
def q2f {o:Oper} {K:Value->World->Prop} (h:wg P ops o e w K):WG P ops o e w K:=by
 unfold wg at h; unfold WG
 split
 ·rename_i hw; rw [if_pos hw] at h; exact qbP h
 ·rename_i hw; rw [if_neg hw] at h; exact h
def q9m:∀ (l:List Oper) (e:Env) (w:World),WLo P ops K l e w->WL P ops K l e w
 | [],_,_,h=>h
 | _ :: rest,_,_,h=>qbD (λ_ _ h=>q9m rest _ _ h) (q2f h)
def qy4 {id:Nat} {l:List Oper} (h:WLo P l.toArray (Q .normal) l e w):W P n (.region id l.toArray false) Q e w:=q42 (q9m _ _ _ (by simpa using h))
def qn4 {id:Nat} {l:List Oper} (h:∀ K:Env->World->Prop,(∀ e w,Q .normal e w->K e w)->WLo P l.toArray K l e w):W P n (.region id l.toArray false) Q e w:=qy4 (h _ λ_ _ h=>h)
def q1R {id:Nat} {l:List Oper} {b:Code} (h:∀ K:Env->World->Prop,(∀ e w,W P n b Q e w->K e w)->WLo P l.toArray K l e w):W P n (.seq (.region id l.toArray false) b) Q e w :=
 qrp (qy4 (h _ λ_ _ h=>h))
def Wz {id:Nat} {l:List Oper} {b:Code} {e1:Env} {w1:World}  (k:W P n b Q e1 w1) (ee:∀ K:Env->World->Prop,WLo P l.toArray K l e w=K e1 w1:=by intro K; simp -implicitDefEqProofs (disch:=omega) only [go_sem,Nat.reduceEqDiff,Nat.reduceAdd,↓reduceIte]; exact rfl):W P n (.seq (.region id l.toArray false) b) Q e w:=q1R λK hK=>(ee K).mpr (hK _ _ k)
def Wz1 {id:Nat} {l:List Oper} {b:Code} {e1:Env} {w1:World} {F1:Prop} (f1:F1) (k:W P n b Q e1 w1) (ee:F1->∀ K:Env->World->Prop,WLo P l.toArray K l e w=K e1 w1:=by intro g1 K; simp -implicitDefEqProofs (disch:=omega) only [go_sem,Nat.reduceEqDiff,Nat.reduceAdd,↓reduceIte,g1]; exact rfl):W P n (.seq (.region id l.toArray false) b) Q e w:=q1R λK hK=>(ee f1 K).mpr (hK _ _ k)
def Wz2 {id:Nat} {l:List Oper} {b:Code} {e1:Env} {w1:World} {F1 F2:Prop} (f1:F1) (f2:F2) (k:W P n b Q e1 w1) (ee:F1->F2->∀ K:Env->World->Prop,WLo P l.toArray K l e w=K e1 w1:=by intro g1 g2 K; simp -implicitDefEqProofs (disch:=omega) only [go_sem,Nat.reduceEqDiff,Nat.reduceAdd,↓reduceIte,g1,g2]; exact rfl):W P n (.seq (.region id l.toArray false) b) Q e w:=q1R λK hK=>(ee f1 f2 K).mpr (hK _ _ k)
def Wz3 {id:Nat} {l:List Oper} {b:Code} {e1:Env} {w1:World} {F1 F2 F3:Prop} (f1:F1) (f2:F2) (f3:F3) (k:W P n b Q e1 w1) (ee:F1->F2->F3->∀ K:Env->World->Prop,WLo P l.toArray K l e w=K e1 w1:=by intro g1 g2 g3 K; simp -implicitDefEqProofs (disch:=omega) only [go_sem,Nat.reduceEqDiff,Nat.reduceAdd,↓reduceIte,g1,g2,g3]; exact rfl):W P n (.seq (.region id l.toArray false) b) Q e w:=q1R λK hK=>(ee f1 f2 f3 K).mpr (hK _ _ k)
def Wz4 {id:Nat} {l:List Oper} {b:Code} {e1:Env} {w1:World} {F1 F2 F3 F4:Prop} (f1:F1) (f2:F2) (f3:F3) (f4:F4) (k:W P n b Q e1 w1) (ee:F1->F2->F3->F4->∀ K:Env->World->Prop,WLo P l.toArray K l e w=K e1 w1:=by intro g1 g2 g3 g4 K; simp -implicitDefEqProofs (disch:=omega) only [go_sem,Nat.reduceEqDiff,Nat.reduceAdd,↓reduceIte,g1,g2,g3,g4]; exact rfl):W P n (.seq (.region id l.toArray false) b) Q e w:=q1R λK hK=>(ee f1 f2 f3 f4 K).mpr (hK _ _ k)
def Wz5 {id:Nat} {l:List Oper} {b:Code} {e1:Env} {w1:World} {F1 F2 F3 F4 F5:Prop} (f1:F1) (f2:F2) (f3:F3) (f4:F4) (f5:F5) (k:W P n b Q e1 w1) (ee:F1->F2->F3->F4->F5->∀ K:Env->World->Prop,WLo P l.toArray K l e w=K e1 w1:=by intro g1 g2 g3 g4 g5 K; simp -implicitDefEqProofs (disch:=omega) only [go_sem,Nat.reduceEqDiff,Nat.reduceAdd,↓reduceIte,g1,g2,g3,g4,g5]; exact rfl):W P n (.seq (.region id l.toArray false) b) Q e w:=q1R λK hK=>(ee f1 f2 f3 f4 f5 K).mpr (hK _ _ k)
def Wz6 {id:Nat} {l:List Oper} {b:Code} {e1:Env} {w1:World} {F1 F2 F3 F4 F5 F6:Prop} (f1:F1) (f2:F2) (f3:F3) (f4:F4) (f5:F5) (f6:F6) (k:W P n b Q e1 w1) (ee:F1->F2->F3->F4->F5->F6->∀ K:Env->World->Prop,WLo P l.toArray K l e w=K e1 w1:=by intro g1 g2 g3 g4 g5 g6 K; simp -implicitDefEqProofs (disch:=omega) only [go_sem,Nat.reduceEqDiff,Nat.reduceAdd,↓reduceIte,g1,g2,g3,g4,g5,g6]; exact rfl):W P n (.seq (.region id l.toArray false) b) Q e w:=q1R λK hK=>(ee f1 f2 f3 f4 f5 f6 K).mpr (hK _ _ k)
end
def resF (e:Env):ResultVar->Sem Value
 | .tmp t=>pure (e t)
 | .cell a t=>do loadVar t (<- asAddr (e a))
def qjC (fn:Func) (e:Env):Sem Value:=do
 let vs <- fn.results.mapM (resF e)
 pure (if h:vs.size=1 then vs[0] else .tuple vs)
def qiN (P:Program) (fn:Func) (R:Ending->World->Prop) (x:Exit) (e:Env) (w:World):Prop :=
 match x with
 | .normal | .ret=>∃ v,(qjC fn e).run P w=.ok v w/\R (.returned v) w
 | _=>False
section
variable {P:Program} {n:Nat}
def q6z {fn:Func} {a:Act} {e:Env} (hr:Rel n a e):results fn a.tmps=qjC fn e:=by
 have:(λi=>a.tmps.getD i undef)=e:=funext hr.get;unfold results qjC
 congr 1
 congr 1
 subst this
 funext r
 cases r <;> rfl
def q65 {f:FuncId} {fn:Func} {c:Code} {args:Array Value} {w:World} {R:Ending->World->Prop}
  (hf:P.funcs[f]?=some fn) (hb:fn.body=some c) (hn:fn.ntmps=n) (hd:(decide (args.size<=n) && q8K n c)=true)
  (h:W P n c (qiN P fn R) (q4r args.toList) w):Calls P f args w R:=by
 rw [zA,decide_eq_true_eq] at hd;refine calls_of_wp hf hb (wp_mono (h hd.2 ⟨args ++ wF (fn.ntmps-args.size) undef,[]⟩ ⟨rfl,by simp; omega,λi=>?_⟩) ?_)
 ·simp only [q4r,yM,zI,Array.getElem?_append,Array.getElem?_replicate]
  by_cases hi:i < args.size
  ·simp [hi]
  ·simp only [hi,if_false,yE,xI (Nat.le_of_not_lt hi),Option.getD_none]
   split <;> rfl
 ·rintro x a' w' ⟨e',hr,_,hq⟩;cases x <;> simp only [qiN] at hq <;> try exact hq.elim
  ·obtain ⟨v,hv,hR⟩:=hq;exact ⟨hr.defs,v,by rw [q6z hr]; exact hv,hR⟩
  ·obtain ⟨v,hv,hR⟩:=hq;exact ⟨hr.defs,v,by rw [q6z hr]; exact hv,hR⟩
def ret1 {fn:Func} {R:Ending->World->Prop} {e:Env} {w:World} {t:Nat} (h:fn.results=#[.tmp t]) (hR:R (.returned (e t)) w):qiN P fn R .ret e w :=
 ⟨e t,by simp [qjC,h,resF],hR⟩
def ret0 {fn:Func} {R:Ending->World->Prop} {e:Env} {w:World} (h:fn.results=#[]) (hR:R (.returned (.tuple #[])) w):qiN P fn R .ret e w :=
 ⟨.tuple #[],by simp [qjC,h],hR⟩
def q9t (P:Program) (w:World) (e:Env):ResultVar->Option Value
 | .tmp t=>some (e t)
 | .cell a t=>match e a with
  | .pointer (some p)=>match q0c P t with
   | some (some k)=>(q0y w p 0 k).map λl=>.agg l.toArray
   | some none=>w.cell? p
   | none=>none
  | _=>none
def q1d {w:World} {e:Env} {r:ResultVar} {v:Value} (h:q9t P w e r=some v) :
  (resF e r).run P w=.ok v w:=by
 cases r with
 | tmp t=>simp only [q9t] at h; obtain rfl:=zH.inj h; rfl
 | cell a t =>
  simp only [q9t] at h
  split at h
  ·rename_i p hp;have:ldV w (q0c P t) (.pointer (some p))=some v:=by
    unfold ldV; simp only []
    split at h <;> simp_all
   have h2 : WO P ⟨none, .load t (.const (.pointer (some p))), 0, "", #[], none⟩ e w (λv' w' => v' = v /\ w' = w) := qbP (by simp only [wo, ev, this, q2w]; exact ⟨trivial, trivial⟩);unfold WO at h2;simp only [execOp,ev,Sem.run_bind] at h2;simp only [resF,Sem.run_bind,hp,asAddr,Sem.run_pure,Result.andThen_ok];simp only [Instr.loadAt,Instr.sureAddr,Sem.run_bind,Sem.run_pure,Result.andThen_ok] at h2;cases hr:(loadVar t p).run P w with
   | ok x w'=>rw [hr] at h2; simp only [Result.andThen_ok,RO] at h2; rw [h2.1,h2.2]
   | halt=>rw [hr] at h2; simp only [Result.andThen_halt,RO] at h2
  ·cases h
def quc {fn:Func} {R:Ending->World->Prop} {e:Env} {w:World} {r:ResultVar} {v:Value} (h:fn.results=#[r]) (h0:q9t P w e r=some v) (hR:R (.returned v) w):qiN P fn R .ret e w:=by
 have:=q1d h0;exact ⟨v,by simp [qjC,h,this],hR⟩
def qub {fn:Func} {R:Ending->World->Prop} {e:Env} {w:World} {r s:ResultVar} {v u:Value} (h:fn.results=#[r,s]) (h0:q9t P w e r=some v) (h1:q9t P w e s=some u) (hR:R (.returned (.tuple #[v,u])) w):qiN P fn R .ret e w:=by
 have a0:=q1d h0;have a1:=q1d h1;exact ⟨.tuple #[v,u],by simp [qjC,h,a0,a1],hR⟩
def qua {fn:Func} {R:Ending->World->Prop} {e:Env} {w:World} {r s q:ResultVar} {v u x:Value} (h:fn.results=#[r,s,q]) (h0:q9t P w e r=some v) (h1:q9t P w e s=some u) (h2:q9t P w e q=some x) (hR:R (.returned (.tuple #[v,u,x])) w):qiN P fn R .ret e w:=by
 have a0:=q1d h0;have a1:=q1d h1;have a2:=q1d h2;exact ⟨.tuple #[v,u,x],by simp [qjC,h,a0,a1,a2],hR⟩
end
def qib (v:Value) (K:Value->Prop):Prop:=K v
def qdU (c a b:Value) (K:Value->Prop):Prop:=match c with | .bool true=>K a | .bool false=>K b | _=>False
def q4K (o:Option Bool) (b:Bool) (A B:Prop):Prop:=if o == some b then A else B
def qb1 (P:Program) (t:TypeId) (w:World) (a x:Value) (K:World->Prop):Prop:=match a with
  | .pointer (some p)=>q00 P t=some x.cells.size/\stOk w p 0 x.cells.toList/\K (stN w p 0 x.cells.toList)
  | _=>False
def qvl (off:Option Nat) (x:Value) (K:Value->Prop):Prop:=match x with
  | .pointer (some p)=>q2b off λoff=>K (.pointer (some (p.add off)))
  | _=>False
def mkW (eo:Option (TypeId × Nat × Nat × Array Value)) (l c:Value) (w:World) (K:Value->World->Prop):Prop:=match l,c with
  | .int _ l,.int _ c=>q2b eo λ(el,s,b,z)=>(0<=l/\l<=c/\(b:Int)*c<=281474976710656/\c<=9223372036854775807)/\K (.slice (some ⟨w.heap.size,0,none⟩) l.toNat c.toNat) (w.alloc (.cells (madeCells z (c.toNat*s)) el))
  | _,_=>False
def boxW (t:TypeId) (v:Value) (w:World) (K:Value->World->Prop):Prop:=K (.pointer (some ⟨w.heap.size,0,none⟩)) (w.alloc (.cells v.cells t))
def bsW (o:Option (TypeId × Array Value)) (len:Nat) (w:World) (K:Value->World->Prop):Prop:=q2b o λ(el,cs)=>K (.slice (some ⟨w.heap.size,0,none⟩) len len) (w.alloc (.cells cs el))
def alW (o:Option (Array Value)) (t:TypeId) (w:World) (K:Value->World->Prop):Prop:=q2b o λz=>K (.pointer (some ⟨w.heap.size,0,none⟩)) (w.alloc (.cells z t))
def q9e (P:Program) (f:FuncId) (args:List Value) (w:World) (K:Value->World->Prop):Prop:=q0I P f=true/\Calls P f args.toArray w λx w'=>match x with | .returned v=>K v w' | _=>False
def qr5 (P:Program) (tys:Array TypeId) (ty:TypeId) (args:List Value) (w:World) (K:Value->World->Prop):Prop:=∃ v w',(Builtin.append_ tys ty args.toArray).run P w=.ok v w'/\K v w'
section
variable {P:Program}
@[congr] theorem qs0 {α:Type} {o o':Option α} {K:α->Prop} (h:o=o'):q2b o K=q2b o' K:=by rw [h]
@[congr] theorem qsS {v v':Value} {K:Value->Prop} (h:v=v'):qib v K=qib v' K:=by rw [h]
@[congr] theorem qpJ {c c' a b:Value} {K:Value->Prop} (h:c=c'):qdU c a b K=qdU c' a b K:=by rw [h]
@[congr] theorem qmn {o o':Option Bool} {b:Bool} {A B:Prop} (h:o=o'):q4K o b A B=q4K o' b A B:=by rw [h]
@[congr] theorem qlv {t:TypeId} {w w':World} {a a' x x':Value} {K:World->Prop} (hw:w=w') (h:a=a') (h':x=x'):qb1 P t w a x K=qb1 P t w' a' x' K:=by rw [h,h',hw]
@[congr] theorem qs3 {o o':Option Nat} {x x':Value} {K:Value->Prop} (h:o=o') (h':x=x'):qvl o x K=qvl o' x' K:=by rw [h,h']
@[congr] theorem qvK {o o':Option (TypeId × Nat × Nat × Array Value)} {l l' c c':Value} {w:World} {K:Value->World->Prop} (h:o=o') (h1:l=l') (h2:c=c'):mkW o l c w K=mkW o' l' c' w K:=by rw [h,h1,h2]
@[congr] theorem qsa {t:TypeId} {v v':Value} {w:World} {K:Value->World->Prop} (h:v=v'):boxW t v w K=boxW t v' w K:=by rw [h]
@[congr] theorem qx0 {o o':Option (TypeId × Array Value)} {len:Nat} {w:World} {K:Value->World->Prop} (h:o=o'):bsW o len w K=bsW o' len w K:=by rw [h]
@[congr] theorem qyD {o o':Option (Array Value)} {t:TypeId} {w:World} {K:Value->World->Prop} (h:o=o'):alW o t w K=alW o' t w K:=by rw [h]
@[congr] theorem qqr {f:FuncId} {args args':List Value} {w:World} {K:Value->World->Prop} (h:args=args'):q9e P f args w K=q9e P f args' w K:=by rw [h]
@[congr] theorem qsb {tys:Array TypeId} {ty:TypeId} {args args':List Value} {w:World} {K:Value->World->Prop} (h:args=args'):qr5 P tys ty args w K=qr5 P tys ty args' w K:=by rw [h]
@[congr] theorem qy8 {ops:Array Oper} {l:List Oper} {e e':Env} {w:World} {K:Env->World->Prop} (h:e=e'):WLo P ops K l e w=WLo P ops K l e' w:=by rw [h]
@[congr] theorem W_congr {n:Nat} {c:Code} {Q:Exit->Env->World->Prop} {e e':Env} {w:World} (h:e=e'):W P n c Q e w=W P n c Q e' w:=by rw [h]
@[congr] theorem wo_congr {o:Oper} {e e':Env} {w:World} {K:Value->World->Prop} (h:e=e'):wo P o e w K=wo P o e' w K:=by rw [h]
variable {d:Option Nat} {ty t s:TypeId} {pos:String} {af:Array Edge} {g:Option (Nat × Bool)} {e:Env} {w:World} {K:Value->World->Prop}
def qtD {v:Value} {K:Value->Prop}:qib v K=K v:=rfl
def qpH {a b:Value} {K:Value->Prop}:qdU (.bool true) a b K=qib a K:=rfl
def qpI {a b:Value} {K:Value->Prop}:qdU (.bool false) a b K=qib b K:=rfl
def qgT {A B:Prop}:q4K (some true) true A B=A:=rfl
def qgU {A B:Prop}:q4K (some true) false A B=B:=rfl
def qgV {A B:Prop}:q4K (some false) true A B=B:=rfl
def qgW {A B:Prop}:q4K (some false) false A B=A:=rfl
def qjn {A B:Prop} {b:Bool}:q4K none b A B=B:=rfl
def qvk {off:Nat} {p:Addr} {K:Value->Prop}:qvl (some off) (.pointer (some p)) K=qib (.pointer (some (p.add off))) K:=rfl
def qbp {i:Nat} {v:Value}:put e (some i) v=upd e i v:=rfl
def qnz {x}:wo P ⟨d,.move x,ty,pos,af,g⟩ e w K=qib (ev e x) λv=>K v w:=rfl
def qeX {x}:wo P ⟨d,.assign x,ty,pos,af,g⟩ e w K=qib (ev e x) λv=>K v w:=rfl
def qny {c a b}:wo P ⟨d,.pick c a b,ty,pos,af,g⟩ e w K=qdU (ev e c) (ev e a) (ev e b) λv=>K v w:=rfl
def qia:wo P ⟨d,.alloc t,ty,pos,af,g⟩ e w K=alW (q1Y P t) t w K:=rfl
def qsx {x}:wo P ⟨d,.box t x,ty,pos,af,g⟩ e w K=boxW t (ev e x) w K:=rfl
def qi8 {ps}:wo P ⟨d,.build t ps,ty,pos,af,g⟩ e w K=q2b (P.built t (ps.map λ(i,x)=>(i,ev e x)).toList) λcs=>K (.agg cs) w:=rfl
def q3q {len ps}:wo P ⟨d,.buildSlice t len ps,ty,pos,af,g⟩ e w K=bsW (bsV P t len (ps.map λ(i,x)=>(i,ev e x)).toList) len w K:=rfl
def qoB {a}:wo P ⟨d,.load t a,ty,pos,af,g⟩ e w K=q2b (ldV w (q0c P t) (ev e a)) λv=>K v w:=rfl
def qi5 {a x}:wo P ⟨d,.store t a x,ty,pos,af,g⟩ e w K=qb1 P t w (ev e a) (ev e x) λw'=>K undef w':=rfl
def qi9 {op x y t'}:wo P ⟨d,.binOp op t x y t',ty,pos,af,g⟩ e w K=q2b (q1A P op t (ev e x) (ev e y)) λv=>K v w:=rfl
def qnx {op x}:wo P ⟨d,.unOp op t x,ty,pos,af,g⟩ e w K=q2b (unV op (ev e x)) λv=>K v w:=rfl
def qdB {x}:wo P ⟨d,.convert s t x,ty,pos,af,g⟩ e w K=q2b (qdj (P.underlying s) (P.underlying t) (ev e x)) λv=>K v w:=rfl
def q8k {x f}:wo P ⟨d,.fieldAddr t x f,ty,pos,af,g⟩ e w K=qvl (q0W P t f) (ev e x) λv=>K v w:=rfl
def q8j {x i}:wo P ⟨d,.indexAddr t x i,ty,pos,af,g⟩ e w K=q2b (qjc (q0e P t) (qdr P t) (ev e x) (ev e i)) λv=>K v w:=rfl
def qi6 {x lo hi}:wo P ⟨d,.slice t x lo hi none,ty,pos,af,g⟩ e w K=q2b (q2K (q0e P t) (lo.map (ev e)) (hi.map (ev e)) (ev e x)) λv=>K v w:=rfl
def q8i {l c}:wo P ⟨d,.makeSlice t l c,ty,pos,af,g⟩ e w K=mkW (q06 P t) (ev e l) (ev e c) w K:=rfl
def qdA {x i}:wo P ⟨d,.extract x i,ty,pos,af,g⟩ e w K=q2b (qmv i (ev e x)) λv=>K v w:=rfl
def qaG {x}:wo P ⟨d,.nilCheck x,ty,pos,af,g⟩ e w K=q2b (match ev e x with | .pointer (some p)=>some (.pointer (some p)) | _=>none) λv=>K v w:=by
 simp only [wo]
 split <;> rename_i h <;> first | rfl | (simp only [h]; done) | (simp only [h]; rfl)
def qsw {x}:wo P ⟨d,.call ⟨.builtin .len,#[x],#[t]⟩,ty,pos,af,g⟩ e w K=q2b (qvW (q0e P t) (ev e x)) λv=>K v w:=rfl
def qsv {xs ts}:wo P ⟨d,.call ⟨.builtin .max,xs,ts⟩,ty,pos,af,g⟩ e w K=q2b (mmV true (xs.toList.map (ev e))) λv=>K v w:=rfl
def qsu {xs ts}:wo P ⟨d,.call ⟨.builtin .min,xs,ts⟩,ty,pos,af,g⟩ e w K=q2b (mmV false (xs.toList.map (ev e))) λv=>K v w:=rfl
def qoD {f} {xs:List Operand} {ts}:wo P ⟨d,.call ⟨.value (.func f),xs.toArray,ts⟩,ty,pos,af,g⟩ e w K=q9e P f (xs.map (ev e)) w K:=by
 simp only [wo,q9e,xS]
 try rfl
def q8P {f:FuncId} {args:List Value} {R:Ending->World->Prop} (hc:q0I P f=true) (h:Calls P f args.toArray w R) (hk:∀ x w',R x w'->∃ v,x=.returned v/\K v w'):q9e P f args w K :=
 ⟨hc,h.mono λx w' hx=>by obtain ⟨v,rfl,h⟩:=hk x w' hx; exact h⟩
def q5q {s x:Operand} {tys:Array TypeId}:wo P ⟨d,.call ⟨.builtin .append,#[s,x],tys⟩,ty,pos,af,g⟩ e w K=qr5 P tys ty [ev e s,ev e x] w K:=by
 simp only [wo,WO,execOp,resolve,invoke,builtin,Sem.run_bind,Sem.run_pure,Result.andThen_ok,xS,xB,xH,qr5];cases hr:(Builtin.append_ tys ty #[ev e s,ev e x]).run P w with
 | ok v w' =>
  simp only [Result.andThen_ok,Sem.run_pure,RO];exact propext ⟨λh=>⟨v,w',rfl,h⟩,λ⟨v',w'',h,hk⟩=>by injection h with h1 h2; subst h1; subst h2; exact hk⟩
 | halt x w' =>
  simp only [Result.andThen_halt,RO];exact propext ⟨λh=>h.elim,λ⟨_,_,h,_⟩=>by cases h⟩
def qf4 (P:Program) (T ty:TypeId) (s x:Value) (w:World) (K:Value->Value->World->Prop):Prop :=
 bsW (bsV P T 1 [(0,x)]) 1 w λv1 w1=>qr5 P #[T,T] ty [s,v1] w1 λv2 w2=>K v1 v2 w2
@[congr] theorem qpB {T ty:TypeId} {s s' x x':Value} {w:World} {K:Value->Value->World->Prop} (h:s=s') (h':x=x'):qf4 P T ty s x w K=qf4 P T ty s' x' w K:=by rw [h,h']
def q70 {ops:Array Oper} {op:Op}:wg P ops ⟨d,op,ty,pos,af,none⟩ e w K=wo P ⟨d,op,ty,pos,af,none⟩ e w K:=rfl
def qoE {ops:Array Oper} {op:Op} {j:Nat} {b:Bool}:wg P ops ⟨d,op,ty,pos,af,some (j,b)⟩ e w K=q4K (q3n ops e j) b (wo P ⟨d,op,ty,pos,af,some (j,b)⟩ e w K) (K undef w):=rfl
def qrr {ops:Array Oper} {K:Env->World->Prop}:WLo P ops K [] e w=K e w:=rfl
def q8Z {ops:Array Oper} {K:Env->World->Prop} {o:Oper} {rest:List Oper}:WLo P ops K (o :: rest) e w=wg P ops o e w λv w'=>WLo P ops K rest (put e o.dst v) w':=rfl
def ql1 {ops:Array Oper} {K:Env->World->Prop} {d1 d2 s T ty1 ty2:Nat} {x:Operand} {p1 p2:String} {a1 a2:Array Edge} {rest:List Oper} :
  WLo P ops K (⟨some d1,.buildSlice T 1 #[(0,x)],ty1,p1,a1,none⟩ :: ⟨some d2,.call ⟨.builtin .append,#[.tmp s,.tmp d1],#[T,T]⟩,ty2,p2,a2,none⟩ :: rest) e w =
   if s=d1 then wg P ops ⟨some d1,.buildSlice T 1 #[(0,x)],ty1,p1,a1,none⟩ e w (λv w'=>WLo P ops K (⟨some d2,.call ⟨.builtin .append,#[.tmp s,.tmp d1],#[T,T]⟩,ty2,p2,a2,none⟩ :: rest) (put e (some d1) v) w')
   else qf4 P T ty2 (e s) (ev e x) w λv1 v2 w'=>WLo P ops K rest (upd (upd e d1 v1) d2 v2) w':=by
 split
 ·rfl
 rename_i hne;have h:∀ v1,ev (upd e d1 v1) (.tmp s)=e s:=λv1=>by
  simp [ev,upd,hne]
 have h2:∀ v1,ev (upd e d1 v1) (.tmp d1)=v1:=λv1=>by simp [ev,upd]
 rw [q8Z,q70,q3q];unfold qf4;have hp:(Array.map (λx=>match x with | (i,x)=>(i,ev e x)) #[(0,x)]).toList=[(0,ev e x)]:=by simp
 rw [hp]
 congr 1
 funext v1 w1
 rw [q8Z,q70,qbp,q5q,h,h2]
 rfl
def qjL {v:Value}:put e none v=e:=rfl
def qvy {i:Nat}:ev e (.tmp i)=e i:=rfl
def qkg {v:Value}:ev e (.const v)=v:=rfl
def qlf {i j:Nat} {v:Value}:upd e i v j=if j=i then v else e j:=rfl
def qaJ {next:Env->World->Prop} {Q:Exit->Env->World->Prop}:qif next Q .ret e w=Q .ret e w:=rfl
def qp9 {Q:Exit->Env->World->Prop} {i:Nat}:inB i Q .ret e w=Q .ret e w:=rfl
def env_z {v:Value} {l:List Value}:q4r (v :: l) 0=v:=rfl
def env_s {v:Value} {l:List Value} {i:Nat}:q4r (v :: l) (i+1)=q4r l i:=rfl
def qr4 {tys:Array TypeId} {ty':TypeId} {args:List Value} {v:Value} {w':World} (h:(Builtin.append_ tys ty' args.toArray).run P w=.ok v w') (hk:K v w'):qr5 P tys ty' args w K:=⟨v,w',h,hk⟩
end
attribute [irreducible] qf4 bsW qr5 q9e mkW boxW alW qb1 qvl q4K qdU qib WLo wg
section
variable {P:Program} {t:TypeId} {k k':IntKind} {a b:Int}
def qr3:q1A P .add t (.int k a) (.int k b)=some (.int k (k.wrap (a+b))):=by simp [q1A,q8T,q3C]
def qrU:q1A P .sub t (.int k a) (.int k b)=some (.int k (k.wrap (a-b))):=by simp [q1A,q8T,q3C]
def qrW:q1A P .mul t (.int k a) (.int k b)=some (.int k (k.wrap (a*b))):=by simp [q1A,q8T,q3C]
def qhn:q1A P .quo t (.int k a) (.int k b)=if b=0 then none else some (.int k (k.wrap (a.tdiv b))):=by simp [q1A,q8T,q3C]
def qhm:q1A P .rem t (.int k a) (.int k b)=if b=0 then none else some (.int k (a.tmod b)):=by simp [q1A,q8T,q3C]
def qr2:q1A P .and t (.int k a) (.int k b)=some (.int k (q0m .and k a b)):=by simp [q1A,q8T,q3C]
def qxi:q1A P .or t (.int k a) (.int k b)=some (.int k (q0m .or k a b)):=by simp [q1A,q8T,q3C]
def qrT:q1A P .xor t (.int k a) (.int k b)=some (.int k (q0m .xor k a b)):=by simp [q1A,q8T,q3C]
def qdp:q1A P .andNot t (.int k a) (.int k b)=some (.int k (q0m .andNot k a b)):=by simp [q1A,q8T,q3C]
def qr1:q1A P .eql t (.int k a) (.int k b)=some (.bool (a == b)):=by simp [q1A,q8T,q3C]
def qrV:q1A P .neq t (.int k a) (.int k b)=some (.bool (a != b)):=by simp [q1A,q8T,q3C]
def qrX:q1A P .lss t (.int k a) (.int k b)=some (.bool (decide (a < b))):=by simp [q1A,q8T,q3C]
def qrY:q1A P .leq t (.int k a) (.int k b)=some (.bool (decide (a<=b))):=by simp [q1A,q8T,q3C]
def qrZ:q1A P .gtr t (.int k a) (.int k b)=some (.bool (decide (b < a))):=by simp [q1A,q8T,q3C]
def qr0:q1A P .geq t (.int k a) (.int k b)=some (.bool (decide (b<=a))):=by simp [q1A,q8T,q3C]
def qaw:q1A P .shl t (.int k a) (.int k' b)=if b < 0 then none else some (.int k (k.wrap (a*2 ^ (min b.toNat k.bits)))):=by simp [q1A,q8T]
def q2G:q1A P .shr t (.int k a) (.int k' b)=if b < 0 then none else some (.int k (a.fdiv (2 ^ (min b.toNat k.bits)))):=by simp [q1A,q8T]
def qci {x y:Bool} (h:P.underlying t=some .bool):q1A P .eql t (.bool x) (.bool y)=some (.bool (x == y)):=by simp [q1A,h]
def qch {x y:Bool} (h:P.underlying t=some .bool):q1A P .neq t (.bool x) (.bool y)=some (.bool (x != y)):=by simp [q1A,h]
def qho {A:Option Addr} {n c n' c' el:Nat} (h:P.underlying t=some (.slice el)):q1A P .eql t (.slice A n c) (.slice none n' c')=some (.bool A.isNone):=by simp [q1A,h]
def qlL {A:Option Addr} {n c n' c' el:Nat} (h:P.underlying t=some (.slice el)):q1A P .neq t (.slice A n c) (.slice none n' c')=some (.bool A.isSome):=by simp [q1A,h]
def qtJ {x:Bool}:unV .not (.bool x)=some (.bool !x):=rfl
def qtK:unV .neg (.int k a)=some (.int k (k.wrap (0-a))):=rfl
def qkx {s:TypeDesc}:qdj (some s) (some (.int k)) (.int k' a)=some (.int k (k.wrap a)):=rfl
def idx_s {ad:Addr} {n c s:Nat} {ar:Option (Nat × Nat)} {i:Int}:qjc (some s) ar (.slice (some ad) n c) (.int k i)=if 0<=i/\i < n then some (.pointer (some (ad.add (i.toNat*s)))) else none:=rfl
def idx_a {ad:Addr} {n s:Nat} {sz:Option Nat} {i:Int}:qjc sz (some (n,s)) (.pointer (some ad)) (.int k i)=if 0<=i/\i < n then some (.pointer (some (ad.add (i.toNat*s)))) else none:=rfl
def len_s {A:Option Addr} {n c s:Nat}:qvW (some s) (.slice A n c)=some (.int .i64 n):=rfl
def ext_0 {v:Value} {l:List Value}:qmv 0 (.tuple ⟨v :: l⟩)=some v:=rfl
def ext_1 {v u:Value} {l:List Value}:qmv 1 (.tuple ⟨v :: u :: l⟩)=some u:=rfl
def ext_2 {v u x:Value} {l:List Value}:qmv 2 (.tuple ⟨v :: u :: x :: l⟩)=some x:=rfl
def ext_3 {v u x y:Value} {l:List Value}:qmv 3 (.tuple ⟨v :: u :: x :: y :: l⟩)=some y:=rfl
def ld_1 {w:World} {p:Addr}:ldV w (some none) (.pointer (some p))=w.cell? p:=rfl
def ld_k {w:World} {p:Addr} {n:Nat}:ldV w (some (some n)) (.pointer (some p))=(q0y w p 0 n).map λl=>.agg l.toArray:=rfl
def rd_z {w:World} {p:Addr} {i:Nat}:q0y w p i 0=some []:=rfl
def qqd (a:Option Value) (b:Option (List Value)):Option (List Value):=match a,b with | some v,some l=>some (v :: l) | _,_=>none
def qqc {v:Value} {l:List Value}:qqd (some v) (some l)=some (v :: l):=rfl
def rd_s {w:World} {p:Addr} {i n:Nat}:q0y w p i (n+1)=qqd (w.cell? (p.add i)) (q0y w p (i+1) n):=rfl
def sl_hi {A:Option Addr} {n c s:Nat} {h:Int}:q2K (some s) none (some (.int k h)) (.slice A n c)=if 0<=h/\h<=c then some (.slice (if c=0 then A else A.map (·.add (0*s))) (h.toNat-0) (c-0)) else none:=by
 simp only [q2K,q31]
 split <;> rename_i hh <;> split at hh <;> simp_all
def sl_lo {A:Option Addr} {n c s:Nat} {l:Int}:q2K (some s) (some (.int k l)) none (.slice A n c)=if 0<=l/\l<=n then some (.slice (if c=l.toNat then A else A.map (·.add (l.toNat*s))) (n-l.toNat) (c-l.toNat)) else none:=by
 simp only [q2K,q31]
 split <;> rename_i hh <;> split at hh <;> simp_all
def sl_lh {A:Option Addr} {n c s:Nat} {l h:Int}:q2K (some s) (some (.int k l)) (some (.int k' h)) (.slice A n c) =
  if (0<=h/\h<=c)/\0<=l/\l<=h then some (.slice (if c=l.toNat then A else A.map (·.add (l.toNat*s))) (h.toNat-l.toNat) (c-l.toNat)) else none:=by
 simp only [q2K,q31]
 by_cases h1:0<=h/\h<=(c:Int)
 ·have e:((h.toNat:Nat):Int)=h:=by omega
  simp only [h1,and_self,if_true,e,true_and]
  by_cases h2:0<=l/\l<=h <;> simp [h2]
 ·simp [h1]
def qhv (A:Option Addr) (s:Nat):A.map (·.add (0*s))=A:=by
 rw [w8]; cases A <;> simp [Addr.add]
def qtz {A:Option Addr} {n c s:Nat} {h:Int}:q2K (some s) none (some (.int k h)) (.slice A n c)=if 0<=h/\h<=c then some (.slice A h.toNat c) else none:=by
 rw [sl_hi,qhv]; simp
def qce:Value->Option Bool | .bool b=>some b | _=>none
def qlK {b:Bool}:qce (.bool b)=some b:=rfl
def qlJ:qce undef=none:=rfl
def q6q:List Oper->Nat->Env->Option Bool
 | [],_,_=>none
 | o :: _,0,e=>match o.dst with | some d=>qce (e d) | none=>none
 | _ :: os,j+1,e=>q6q os j e
def qi1 {o:Oper} {os:List Oper} {j:Nat} {e:Env}:q6q (o :: os) (j+1) e=q6q os j e:=rfl
def qi0 {d:Nat} {op:Op} {ty:TypeId} {pos:String} {af:Array Edge} {g:Option (Nat × Bool)} {os:List Oper} {e:Env}:q6q (⟨some d,op,ty,pos,af,g⟩ :: os) 0 e=qce (e d):=rfl
def qi2 {l:List Oper} {e:Env} {j:Nat}:q3n l.toArray e j=q6q l j e:=by
 unfold q3n;rw [wJ]
 induction l generalizing j with
 | nil=>rfl
 | cons o os ih =>
  cases j with
  | zero =>
   simp only [xF,xR,q6q];cases o.dst with
   | none=>rfl
   | some d=>simp only []; cases e d <;> rfl
  | succ j=>rw [List.getElem?_cons_succ]; exact ih
end
def i64_in {n:Int} (h1 : -9223372036854775808<=n) (h2:n<=9223372036854775807):IntKind.i64.wrap n=n:=IntWalk.i64_in n ⟨h1,h2⟩
def u64_in {n:Int} (h1:0<=n) (h2:n<=18446744073709551615):IntKind.u64.wrap n=n:=IntWalk.u64_in n ⟨h1,h2⟩
def u8_in {n:Int} (h1:0<=n) (h2:n<=255):IntKind.u8.wrap n=n:=IntWalk.u8_in n ⟨h1,h2⟩
def q0p (n:Int):IntKind.u64.wrap n=n % 18446744073709551616:=by simp [IntKind.wrap,IntKind.bits,IntKind.signed]
def q26 (n:Int):IntKind.u32.wrap n=n % 4294967296:=by simp [IntKind.wrap,IntKind.bits,IntKind.signed]
def qjl (n:Int):IntKind.i64.wrap n=(n+9223372036854775808) % 18446744073709551616-9223372036854775808:=IntKind.wrap_i64 n
attribute [go_sem] qr3 qrU qrW qhn qhm qr2 qxi qrT qdp qr1 qrV qrX qrY qrZ qr0 qaw q2G qci qch qtJ qtK qkx idx_s idx_a len_s ext_0 ext_1 ext_2 ext_3 ld_1 ld_k rd_z qqc rd_s qtz sl_lo sl_lh
attribute [go_sem ↓] qnz qeX qny qia qsx qi8 q3q qoB qi5 qi9 qnx qdB q8k q8j qi6 q8i qdA qaG qsw qsv qsu q5q qoD q70 qoE qrr q8Z qi2 qi1 qi0
attribute [go_sem ↓ high] ql1
attribute [go_sem ↓] qgF qd3
attribute [go_sem] qtD qpH qpI qgT qgU qgV qgW qjn qlJ qvk qbp qjL qvy qkg qlf q2w env_z env_s qlK decide_true decide_false Bool.not_false w5 ite_true ite_false beq_self_eq_true xB xH xC Option.map_none Int.toNat_natCast z9 and_self xS List.toList_toArray
end Go.E
namespace Go.Sp
def B:Nat:=4294967296
def q1I:0 < B:=by decide
def q9n:1 < B:=by decide
def q45 (k:Nat):0 < B ^ k:=x4 q1I
def val:List Nat->Nat
 | []=>0
 | d :: l=>d+B*val l
def qj2:Nat->Nat->List Nat
 | 0,_=>[]
 | f+1,n=>if n=0 then [] else n % B :: qj2 f (n / B)
def lim (n:Nat):List Nat:=qj2 n n
def q03 (l:List Nat):Prop:=∀ d ∈ l,d < B
def q8L {n:Nat} (h:n≠0):n / B < n:=Nat.div_lt_self Oq q9n
def q9P : ∀ (f g n : Nat), n <= f -> n <= g -> qj2 f n = qj2 g n
  | 0, 0, _, _, _ => rfl
  | 0, g + 1, n, h, _ => by have : n = 0 := by omega
                            subst this; simp [qj2]
  | f + 1, 0, n, _, h => by have : n = 0 := by omega
                            subst this; simp [qj2]
  | f + 1, g + 1, n, h1, h2 => by
    by_cases h : n = 0
    · subst h; simp [qj2]
    · simp only [qj2, if_neg h]
      have := q8L h
      rw [q9P f g (n / B) Oq (by omega)]
def q2P:lim 0=[]:=rfl
def q3d {n:Nat} (h:n≠0):lim n=n % B :: lim (n / B):=by
 obtain ⟨m,rfl⟩:∃ m,n=m+1:=⟨n-1,by omega⟩;unfold lim;simp only [qj2,if_neg h];have:=q8L h;rw [q9P m ((m+1) / B) ((m+1) / B) Oq (yJ _)]
def q7z {P:Nat->Prop} (h0:P 0) (hs:∀ n,n≠0->P (n / B)->P n) (n:Nat):P n:=by
 induction n using Nat.strongRecOn with
 | _ n ih =>
  by_cases h:n=0
  ·subst h; exact h0
  ·exact hs n h (ih _ (q8L h))
def q0E (n:Nat):val (lim n)=n:=by
 induction n using q7z with
 | h0=>rfl
 | hs n h ih=>rw [q3d h,val,ih]; exact xU n B
def q0D (n:Nat):q03 (lim n):=by
 induction n using q7z with
 | h0=>intro d h; cases h
 | hs n h ih =>
  rw [q3d h]; intro d hd
  rcases w4.1 hd with rfl | hd
  ·exact zZ _ q1I
  ·exact ih d hd
def qd1 {n:Nat} (h:n≠0):lim n≠[]:=by rw [q3d h]; simp
def qa2 {n:Nat}:lim n=[] ↔ n=0:=by
 constructor
 ·intro h; by_cases h0:n=0
  ·exact h0
  ·exact absurd h (qd1 h0)
 ·rintro rfl; rfl
def q0L {n:Nat}:0 < (lim n).length ↔ n≠0:=by
 constructor
 ·intro h h0; subst h0; simp [q2P] at h
 ·intro h; rw [q3d h]; simp
def q1f {l:List Nat} (h:q03 l):val l < B ^ l.length:=by
 induction l with
 | nil=>simp [val]
 | cons d l ih =>
  have h1:=ih (λx hx=>h x (zP _ hx));have h2:=h d (z6);simp only [val,y9,zE];have h3:B*val l+B<=B*B ^ l.length:=by
   rw [<- wC]; exact zS _ h1
  rw [zF (B ^ l.length)]; omega
def q4a (a b:List Nat):val (a ++ b)=val a+B ^ a.length*val b:=by
 induction a with
 | nil=>simp [val]
 | cons d a ih =>
  simp only [List.cons_append,val,ih,y9,zE,zD];rw [zF (B ^ a.length) B,zB]; omega
def q1e (n:Nat):val (List.replicate n 0)=0:=by
 induction n with
 | zero=>rfl
 | succ n ih=>simp [List.replicate_succ,val,ih]
def q03.nil:q03 []:=λ_ h=>by cases h
def q03.take {l:List Nat} (h:q03 l) (n:Nat):q03 (l.take n):=λd hd=>h d (List.mem_of_mem_take hd)
def q03.drop {l:List Nat} (h:q03 l) (n:Nat):q03 (l.drop n):=λd hd=>h d (List.mem_of_mem_drop hd)
def q03.append {a b:List Nat} (h:q03 a) (k:q03 b):q03 (a ++ b):=λd hd=>by
 rcases wG.1 hd with hd | hd
 ·exact h d hd
 ·exact k d hd
def q03.one {d:Nat} (h:d < B):q03 [d]:=λx hx=>by simp at hx; subst hx; exact h
def q03.snoc {a:List Nat} {d:Nat} (h:q03 a) (k:d < B):q03 (a ++ [d]):=h.append (.one k)
def q0s {l:List Nat} {i:Nat} (h:i < l.length):l.getD i 0=l[i]:=(List.getElem_eq_getD 0).symm
def q03.get {l:List Nat} (h:q03 l) (i:Nat):l.getD i 0 < B:=by
 rcases zR i l.length with hi | hi
 ·rw [q0s hi]; exact h _ (List.getElem_mem hi)
 ·simp [y1,zT hi,q1I]
def q03.set {l:List Nat} (h:q03 l) (i d:Nat) (hd:d < B):q03 (l.set i d):=λx hx=>by
 rcases List.mem_or_eq_of_mem_set hx with hx | rfl
 ·exact h x hx
 ·exact hd
def q03.replicate (n:Nat):q03 (List.replicate n 0):=λd hd=>by
 rw [List.mem_replicate] at hd; rw [hd.2]; exact q1I
def qea {α:Type} (l:List α) (i:Nat) (h:i < l.length):l.take (i+1)=l.take i ++ [l[i]]:=xJ h
def q2Y (l:List Nat) (i:Nat) (h:i < l.length):l.take (i+1)=l.take i ++ [l.getD i 0]:=by
 rw [qea l i h,q0s h]
def q5s (d:Nat):val [d]=d:=by simp [val]
def q24 (l:List Nat) (d:Nat):val (l ++ [d])=val l+B ^ l.length*d:=by rw [q4a,q5s]
def q1n (l:List Nat) (i:Nat) (h:i < l.length):val (l.take (i+1))=val (l.take i)+B ^ i*l.getD i 0:=by
 rw [q2Y l i h,q24,zV,yT (by omega)]
def q0G (l:List Nat) (i:Nat) (h:l.length<=i):val (l.take i)=val l:=by rw [yN h]
def q1N (l:List Nat) (i:Nat) (h:i<=l.length):val l=val (l.take i)+B ^ i*val (l.drop i):=by
 have:=q4a (l.take i) (l.drop i);rw [List.take_append_drop,zV,yT h] at this;exact this
def q27 (l:List Nat) (i d:Nat):(l.set i d).take i=l.take i:=List.take_set_of_le (yJ i)
def q4F {n : Nat} (h : n ≠ 0) : (lim n).getD ((lim n).length - 1) 0 ≠ 0 := by
  induction n using q7z with
  | h0 => exact absurd rfl h
  | hs n h ih =>
    rw [q3d h]
    by_cases h0 : n / B = 0
    · rw [h0, q2P]
      have : n < B := by rcases zR n B with h1 | h1
                         · exact h1
                         · have := wM h1 q1I; omega
      simp [zG this, h]
    · have := ih h0
      have hp := q0L.2 h0
      simp only [y9, y3]
      obtain ⟨k, hk⟩ : ∃ k, (lim (n / B)).length = k + 1 := ⟨(lim (n / B)).length - 1, by omega⟩
      rw [hk] at this ⊢
      simpa using this
def qa3 {d m:Nat} (hd:d < B) (h:d+B*m≠0):lim (d+B*m)=d :: lim m:=by
 rw [q3d h];rw [yD,zG hd,y6 _ _ q1I,yO hd,zW]
def q2m:∀ {l:List Nat},l≠[]->l.getD (l.length-1) 0≠0->val l≠0
 | [],h,_=>absurd rfl h
 | [d],_,k=>by simpa [val] using k
 | d :: e :: l,_,k=>by
  have:=q2m (l:=e :: l) (by simp) (by simpa using k);have hB:=q1I;have:0 < B*val (e :: l):=zQ hB Oq;rw [val]; omega
def qgA:∀ {l:List Nat},q03 l->(l=[]\/l.getD (l.length-1) 0≠0)->lim (val l)=l
 | [],_,_=>rfl
 | d :: l,h,k=>by
  have hd:=h d z6;have hl:q03 l:=λx hx=>h x (zP _ hx);have k':(d :: l).getD ((d :: l).length-1) 0≠0:=k.resolve_left (by simp);have hv:=q2m (l:=d :: l) (by simp) k';rw [val] at hv ⊢;rw [qa3 hd hv,qgA hl];cases l with
  | nil=>exact .inl rfl
  | cons e l=>exact .inr (by simpa using k')
def q76 {l:List Nat} {n:Nat} (h:q03 l) (hn:n<=l.length) (hz:∀ i,n<=i->i < l.length->l.getD i 0=0) (hl:n=0\/l.getD (n-1) 0≠0):l.take n=lim (val l):=by
 have hd:val (l.drop n)=0:=by
  have:l.drop n=List.replicate (l.length-n) 0:=by
   apply List.ext_getElem (by simp)
   intro i h1 h2;have:=hz (n+i) Oq (by simp at h1; omega);rw [q0s (by simp at h1; omega)] at this;simp [this]
  rw [this,q1e]
 have hv:val l=val (l.take n):=by rw [q1N l n hn,hd]; simp
 rw [hv,qgA (h.take n)]
 rcases hl with rfl | hl
 ·exact .inl (by simp)
 ·by_cases h0:n=0
  ·exact .inl (by simp [h0])
  ·refine .inr ?_;rw [zV,yT hn];rw [q0s (by omega)] at hl;rw [q0s (by simp; omega)];simpa using hl
def q05 (n:Nat):n < B ^ (lim n).length:=by
 have:=q1f (q0D n); rwa [q0E] at this
def q3O {n:Nat} (h:n≠0):B ^ ((lim n).length-1)<=n:=by
 induction n using q7z with
 | h0=>exact absurd rfl h
 | hs n h ih =>
  rw [q3d h];simp only [y9,y3]
  by_cases h0:n / B=0
  ·rw [h0,q2P]; simp; omega
  ·have:=ih h0;have hp:=q0L.2 h0;obtain ⟨k,hk⟩:∃ k,(lim (n / B)).length=k+1:=⟨(lim (n / B)).length-1,by omega⟩;rw [hk] at this ⊢;simp only [y3] at this;rw [zE];exact zL (zK B this) (Nat.div_mul_le_self n B)
def q0o {n k:Nat} (h:n < B ^ k):(lim n).length<=k:=by
 by_cases h0:n=0
 ·subst h0; simp [q2P]
 ·have h1:=q3O h0;have h2:B ^ ((lim n).length-1) < B ^ k:=yF h1 h;have:=(yI q9n).1 h2;omega
def q0k {m n:Nat} (h:m<=n):(lim m).length<=(lim n).length:=q0o (yF h (q05 n))
def q2O {m n:Nat} (h:(lim m).length < (lim n).length):m < n:=by
 rcases zR m n with k | k
 ·exact k
 ·have:=q0k k; omega
def q3s {a b:List Nat} {i:Nat} (ha:q03 a) (hl:a.length=b.length) (hi:i < a.length)
  (hs:a.drop (i+1)=b.drop (i+1)) (hlt:a.getD i 0 < b.getD i 0):val a < val b:=by
 rw [q1N a (i+1) Oq,q1N b (i+1) Oq,hs,q1n a i hi,q1n b i (by omega)];have h1:=q1f (ha.take i);rw [zV,yT (by omega)] at h1;have h2:B ^ i*a.getD i 0+B ^ i<=B ^ i*b.getD i 0:=by rw [<- wC]; exact zS _ hlt
 omega
end Go.Sp
namespace Go.E
open Go Go.RowKit
structure Kp (D:Nat->Prop) (w w':World):Prop where
 os:w'.os=w.os
 tape:w'.tape=w.tape
 output:w'.output=w.output
 size:w.heap.size<=w'.heap.size
 block:∀ k,k < w.heap.size->D k->w'.heap[k]?=w.heap[k]?
abbrev Ext (w w':World):Prop:=Kp (λ_=>True) w w'
def Ck {P:Program} {f:FuncId} {args:List Value} {v:Value} {w:World} {K:Value->World->Prop} (hc:q0I P f=true) (h:Calls P f args.toArray w λe w'=>e=.returned v/\Ext w w') (k:∀ w',Ext w w'->K v w'):q9e P f args w K:=q8P hc h λx w' ⟨h1,h2⟩=>⟨v,h1,k w' h2⟩
def Fr (D:Nat->Prop) (w:World):Prop:=∀ k,w.heap.size<=k->D k
section
variable {D D':Nat->Prop} {w w' w'':World}
def Kp.refl (D:Nat->Prop) (w:World):Kp D w w:=⟨rfl,rfl,rfl,yJ _,λ_ _ _=>rfl⟩
def Kp.trans (h:Kp D w w') (k:Kp D w' w''):Kp D w w'' :=
 ⟨k.os.trans h.os,k.tape.trans h.tape,k.output.trans h.output,zL h.size k.size,λi hi hd=>(k.block i (z7 hi h.size) hd).trans (h.block i hi hd)⟩
def Kp.mono (h:Kp D w w') (hd:∀ k,k < w.heap.size->D' k->D k):Kp D' w w':=⟨h.os,h.tape,h.output,h.size,λk hk hk'=>h.block k hk (hd k hk hk')⟩
def Kp.of_ext (h:Ext w w'):Kp D w w':=h.mono λ_ _ _=>trivial
def Kp.drew (w:World) (k:Nat):Kp D w { w with drawn:=k }:=⟨rfl,rfl,rfl,yJ _,λ_ _ _=>rfl⟩
def Kp.alloc (w:World) (o:Obj):Kp D w (w.alloc o):=⟨rfl,rfl,rfl,by simp,λk hk _=>Below.heap_alloc w o k hk⟩
def Kp.setCell (w:World) {p:Addr} (hp:p.block < w.heap.size->¬ D p.block) (v:Value):Kp D w (w.setCell p v) :=
 ⟨rfl,rfl,rfl,by simp [World.setCell],λk hk hd=>Below.heap_setCell w p v k (λe=>by subst e; exact hp hk hd)⟩
def Kp.pre (D:Nat->Prop):Pre (Kp D):=⟨Kp.refl D,λh k=>h.trans k,λw k=>Kp.drew w k⟩
def Kp.cell (h:Kp D w w') {p:Addr} {v:Value} (hd:D p.block) (hc:w.cell? p=some v):w'.cell? p=some v:=by
 have hlt:=World.block_lt_of_cell? w p hc;rw [<- hc];exact World.cell?_of_block (h.block p.block hlt hd)
def Kp.below (h:Ext w w'):Below w.heap.size w w':=⟨h.os,h.tape,h.output,h.size,λk hk=>h.block k hk trivial⟩
def Fr.kp (h:Fr D w) (k:Kp D' w w'):Fr D w':=λi hi=>h i (zL k.size hi)
def Fr.triv (w:World):Fr (λ_=>True) w:=λ_ _=>trivial
def Dx (D:Nat->Prop) (a b:Nat):Nat->Prop:=λk=>D k/\(k < a\/b<=k)
def Dx.sub {a b:Nat} {k:Nat} (h:Dx D a b k):D k:=h.1
def Dx.fr {a b:Nat} (h:Fr D w) (hb:b<=w.heap.size):Fr (Dx D a b) w:=λk hk=>⟨h k hk,.inr (zL hb hk)⟩
def Dx.not {a b k:Nat} (h1:a<=k) (h2:k < b):¬ Dx D a b k:=λh=>by rcases h.2 with h | h <;> omega
def Dx.lt {a b k:Nat} (h:D k) (hk:k < a):Dx D a b k:=⟨h,.inl hk⟩
def Blk (w:World) (g:Nat) (t:TypeId) (cs:Array Value):Prop:=w.heap[g]?=some (.cells cs t (0,0))
variable {g:Nat} {t:TypeId} {cs:Array Value}
def Blk.lt (h:Blk w g t cs):g < w.heap.size:=by
 rcases zR g w.heap.size with hlt | hge
 ·exact hlt
 ·unfold Blk at h; rw [xI hge] at h; cases h
def Blk.cell (h:Blk w g t cs) (i:Nat):w.cell? ⟨g,i,none⟩=cs[i]?:=cell_of_row w g i cs t (0,0) h
def Blk.frozen (h:Blk w g t cs) (i:Nat):w.frozen? ⟨g,i,none⟩=false:=by unfold Blk at h; simp [World.frozen?,h]
def Blk.new (w:World) (t:TypeId) (cs:Array Value):Blk (w.alloc (.cells cs t)) w.heap.size t cs:=heap_alloc_new w _
def Blk.kp (h:Blk w g t cs) (hk:Kp D w w') (hd:D g):Blk w' g t cs:=(hk.block g h.lt hd).trans h
def Blk.ext (h:Blk w g t cs) (hk:Ext w w'):Blk w' g t cs:=(hk.block g h.lt trivial).trans h
def Blk.alloc (h:Blk w g t cs) (o:Obj):Blk (w.alloc o) g t cs:=(Below.heap_alloc w o g h.lt).trans h
def Blk.set (h:Blk w g t cs) (i:Nat) (u:Value):Blk (w.setCell ⟨g,i,none⟩ u) g t (cs.setIfInBounds i u):=by
 unfold Blk at h ⊢;simp [World.setCell,Array.getElem?_modify,h]
def q1M {b o i:Nat}:(⟨b,o,none⟩:Addr).add i=⟨b,o+i,none⟩:=by unfold Addr.add; split <;> simp_all
def q8X (a:Addr) (i j:Nat):(a.add i).add j=a.add (i+j):=by
 unfold Addr.add
 by_cases hi:i=0 <;> by_cases hj:j=0 <;> simp [hi,hj,y0]
def q1Q (a:Addr) (n:Nat):(a.add n).block=a.block:=by unfold Addr.add; split <;> rfl
def add_zero (a:Addr):a.add 0=a:=by simp [Addr.add]
def Blk.rd (h:Blk w g t cs):∀ (n i:Nat),i+n<=cs.size->q0y w ⟨g,0,none⟩ i n=some ((cs.toList.drop i).take n)
 | 0,i,_=>by simp [q0y]
 | n+1,i,hi=>by
  rw [rd_s,q1M,zW,h.cell,h.rd n (i+1) (by omega)];have hlt:i < cs.size:=by omega
  have hd:cs.toList.drop i=cs[i] :: cs.toList.drop (i+1):=by rw [xY (by simpa using hlt)]; simp
  rw [yC hlt,hd];simp [qqd]
def Blk.rdAll (h:Blk w g t cs) {n:Nat} (hn:cs.size=n):q0y w ⟨g,0,none⟩ 0 n=some cs.toList:=by
 rw [h.rd n 0 Oq,List.drop_zero,yN (by simp [hn])]
def qmI {p:Addr}:∀ (vs:List Value) (i:Nat) (w:World),(p.block < w.heap.size->¬ D p.block)->Kp D w (stN w p i vs)
 | [],_,w,_=>Kp.refl D w
 | v :: vs,i,w,hp=>by
  have h1:Kp D w (w.setCell (p.add i) v):=Kp.setCell w (by rw [q1Q]; exact hp) v;exact h1.trans (qmI vs (i+1) _ (by simpa [World.setCell] using hp))
def Blk.stOk (h:Blk w g t cs):∀ (vs:List Value) (i:Nat),i+vs.length<=cs.size->(∀ v ∈ vs,v.oneCell'=true)->stOk w ⟨g,0,none⟩ i vs
 | [],_,_,_=>trivial
 | v :: vs,i,hl,h1=>by
  have hlt:i < cs.size:=by simp at hl; omega
  refine ⟨?_,?_,h1 v z6,h.stOk vs (i+1) (by simp at hl ⊢; omega) λu hu=>h1 u (zP _ hu)⟩
  ·rw [q1M,zW,h.cell,yC hlt]; rfl
  ·rw [q1M,zW]; exact h.frozen i
def Blk.stN:∀ (vs:List Value) (i:Nat) (w:World) (cs:Array Value),Blk w g t cs->i+vs.length<=cs.size ->
  ∃ cs',Blk (E.stN w ⟨g,0,none⟩ i vs) g t cs'/\cs'.size=cs.size/\(∀ j,j < i->cs'[j]?=cs[j]?)/\(∀ j,cs'[i+j]?=if j < vs.length then vs[j]? else cs[i+j]?)
 | [],i,w,cs,hb,_=>⟨cs,hb,rfl,λ_ _=>rfl,λj=>by simp⟩
 | v :: vs,i,w,cs,hb,hl=>by
  have hs:=hb.set i v;have hlt:i < cs.size:=by simp at hl; omega
  obtain ⟨cs',h3,h4,h5,h6⟩:=Blk.stN vs (i+1) _ _ hs (by simp at hl ⊢; omega);refine ⟨cs',?_,?_,λj hj=>?_,λj=>?_⟩
  ·rw [E.stN,q1M,zW]; exact h3
  ·rw [h4]; simp
  ·rw [h5 j Oq,z5]; simp [show i≠j by omega]
  ·cases j with
   | zero=>rw [h5 (i+0) Oq,z5]; simp [hlt]
   | succ j =>
    have:=h6 j;rw [show i+1+j=i+(j+1) by omega] at this;rw [this,z5];simp
def Blk.store (h:Blk w g t cs) {vs:List Value} (hl:vs.length=cs.size):Blk (E.stN w ⟨g,0,none⟩ 0 vs) g t vs.toArray:=by
 obtain ⟨cs',h3,h4,_,h6⟩:=Blk.stN vs 0 w cs h Oq;have:cs'=vs.toArray:=by
  apply Array.ext_getElem?
  intro j;have:=h6 j;rw [zW] at this;rw [this]
  split
  ·simp
  ·rename_i hj;rw [xI (by omega)];simp; omega
 rw [<- this]; exact h3
end
structure Row (w:World) (D:Nat->Prop) (sz:Nat) (A:Option Addr) (n c:Nat) (xs:List Value):Prop where
 cap:n<=c
 len:xs.length=n*sz
 at_:0 < xs.length->∃ ad,A=some ad/\D ad.block/\∀ j u,xs[j]?=some u->w.cell? (ad.add j)=some u
section
variable {D D':Nat->Prop} {w w':World} {sz n c:Nat} {A:Option Addr} {xs:List Value}
def Row.nil (w:World) (D:Nat->Prop) (sz:Nat):Row w D sz none 0 0 []:=⟨yJ _,by simp,λh=>by simp at h⟩
def Row.kp (h:Row w D sz A n c xs) (hk:Kp D w w'):Row w' D sz A n c xs :=
 ⟨h.cap,h.len,λhx=>by
  obtain ⟨ad,rfl,hd,hc⟩:=h.at_ hx;exact ⟨ad,rfl,hd,λj u hu=>hk.cell (by rw [q1Q]; exact hd) (hc j u hu)⟩⟩
def Row.sub (h:Row w D sz A n c xs) (hs:∀ k,k < w.heap.size->D k->D' k):Row w D' sz A n c xs :=
 ⟨h.cap,h.len,λhx=>by
  obtain ⟨ad,rfl,hd,hc⟩:=h.at_ hx;refine ⟨ad,rfl,hs _ ?_ hd,hc⟩;have:=hc 0 xs[0] (zC hx);have hlt:=World.block_lt_of_cell? w _ this
  rwa [q1Q] at hlt⟩
def Row.lt (h:Row w D sz A n c xs):Row w (λk=>D k/\k < w.heap.size) sz A n c xs:=h.sub λ_ hk hd=>⟨hd,hk⟩
def Row.take (h:Row w D sz A n c xs) {m:Nat} (hm:m<=n):Row w D sz A m c (xs.take (m*sz)) :=
 ⟨zL hm h.cap,by rw [zV,h.len,yT (zK _ hm)],λhx=>by
  obtain ⟨ad,rfl,hd,hc⟩:=h.at_ (by rw [zV] at hx; omega);refine ⟨ad,rfl,hd,λj u hu=>hc j u ?_⟩;rw [z8] at hu
  split at hu
  ·exact hu
  ·cases hu⟩
def Row.drop (h:Row w D sz A n c xs) {m:Nat} (hm:m<=n):Row w D sz (if c=m then A else A.map (·.add (m*sz))) (n-m) (c-m) (xs.drop (m*sz)) :=
 ⟨Nat.sub_le_sub_right h.cap m,by rw [List.length_drop,h.len,Nat.sub_mul],λhx=>by
  rw [List.length_drop,h.len] at hx;obtain ⟨ad,rfl,hd,hc⟩:=h.at_ (by rw [h.len]; omega);have hne:¬ c=m:=λe=>by
   subst e;have hcn:n=c:=Nat.le_antisymm h.cap hm;subst hcn; omega
  rw [if_neg hne];refine ⟨ad.add (m*sz),rfl,by rw [q1Q]; exact hd,λj u hu=>?_⟩;rw [q8X];exact hc _ u (by rw [<- hu,yP])⟩
def Row.get (h:Row w D sz A n c xs) {j:Nat} (hj:j < xs.length):∃ ad,A=some ad/\w.cell? (ad.add j)=some xs[j]:=by
 obtain ⟨ad,rfl,_,hc⟩:=h.at_ Oq;exact ⟨ad,rfl,hc j _ (zC hj)⟩
end
attribute [go_sem] q1M zW
def q7o (o:Oper):Bool:=match o.op with
 | .move _ | .assign _ | .pick _ _ _ | .build _ _ | .load _ _ | .binOp _ _ _ _ _ | .unOp _ _ _ | .convert _ _ _ | .fieldAddr _ _ _ | .indexAddr _ _ _ | .extract _ _=>true
 | .slice _ _ _ _ none=>true
 | .call c=>match c.callee with | .builtin .len | .builtin .max | .builtin .min=>true | _=>false
 | _=>false
def qgM (o:Oper):Bool:=match o.op with | .load _ _=>true | _=>false
section
variable {P:Program} {n:Nat} {R:World->World->Prop}
def qmU {w w':World} (hx:Ext w w') {p:Addr}:∀ (k i:Nat) (l:List Value),q0y w p i k=some l->q0y w' p i k=some l
 | 0,_,_,h=>h
 | k+1,i,l,h=>by
  simp only [q0y] at h ⊢
  split at h
  ·rename_i v l' h1 h2;rw [hx.cell (D:=λ_=>True) trivial h1,qmU hx k (i+1) l' h2];exact h
  ·cases h
def qvX {w w':World} (hx:Ext w w') {k:Option (Option Nat)} {a v:Value} (h:ldV w k a=some v):ldV w' k a=some v:=by
 unfold ldV at h ⊢
 split at h
 ·split at h
  ·exact hx.cell (D:=λ_=>True) trivial h
  ·rw [zU] at h;obtain ⟨l,h1,h2⟩:=h;rw [qmU hx _ _ _ h1,<- h2]; rfl
  ·cases h
 ·cases h
def qst {o:Oper} (hp:q7o o=true) {e:Env} {w:World} {K:Value->World->Prop} (h:wo P o e w K) :
  ∃ v,K v w/\∀ (e2:Env) (w':World),(∀ x ∈ o.op.operands.toList,ev e2 x=ev e x)->(qgM o=true->Ext w w')->∀ K':Value->World->Prop,K' v w'->wo P o e2 w' K':=by
 obtain ⟨d,op,ty,pos,af,g⟩:=o;cases op <;> (try (cases hp; done)) <;> simp only [wo] at h
 case move x=>exact ⟨_,h,λe2 w' hop _ K' hk=>by simp only [wo]; rw [hop x (by simp [Op.operands])]; exact hk⟩
 case assign x=>exact ⟨_,h,λe2 w' hop _ K' hk=>by simp only [wo]; rw [hop x (by simp [Op.operands])]; exact hk⟩
 case pick c a b =>
  split at h
  ·rename_i hc;exact ⟨_,h,λe2 w' hop _ K' hk=>by simp only [wo]; rw [hop c (by simp [Op.operands]),hc,hop a (by simp [Op.operands])]; exact hk⟩
  ·rename_i hc;exact ⟨_,h,λe2 w' hop _ K' hk=>by simp only [wo]; rw [hop c (by simp [Op.operands]),hc,hop b (by simp [Op.operands])]; exact hk⟩
  ·exact h.elim
 case build t ps =>
  obtain ⟨cs,h1,h2⟩:=q0T h;refine ⟨_,h2,λe2 w' hop _ K' hk=>?_⟩;simp only [wo];have:(ps.map λ(i,x)=>(i,ev e2 x))=ps.map λ(i,x)=>(i,ev e x):=by
   apply Array.map_congr_left
   intro a ha;obtain ⟨i,x⟩:=a;simp only [Prod.mk.injEq,true_and];exact hop x (by simp only [Op.operands,List.mem_map]; exact ⟨(i,x),by simpa using ha,rfl⟩)
  rw [this,h1]; exact hk
 case load t a =>
  obtain ⟨v,h1,h2⟩:=q0T h;refine ⟨_,h2,λe2 w' hop hx K' hk=>?_⟩;simp only [wo];rw [hop a (by simp [Op.operands]),qvX (hx rfl) h1]; exact hk
 case binOp op t x y t' =>
  obtain ⟨v,h1,h2⟩:=q0T h;refine ⟨_,h2,λe2 w' hop hx K' hk=>?_⟩;simp only [wo];rw [hop x (by simp [Op.operands]),hop y (by simp [Op.operands]),h1]; exact hk
 case unOp op t x =>
  obtain ⟨v,h1,h2⟩:=q0T h;refine ⟨_,h2,λe2 w' hop hx K' hk=>?_⟩;simp only [wo];rw [hop x (by simp [Op.operands]),h1]; exact hk
 case convert s t x =>
  obtain ⟨v,h1,h2⟩:=q0T h;refine ⟨_,h2,λe2 w' hop hx K' hk=>?_⟩;simp only [wo];rw [hop x (by simp [Op.operands]),h1]; exact hk
 case fieldAddr t x f =>
  split at h
  ·rename_i p hp';obtain ⟨v,h1,h2⟩:=q0T h;refine ⟨_,h2,λe2 w' hop hx K' hk=>?_⟩;simp only [wo];rw [hop x (by simp [Op.operands]),hp'];simp only [h1]; exact hk
  ·exact h.elim
 case indexAddr t x i =>
  obtain ⟨v,h1,h2⟩:=q0T h;refine ⟨_,h2,λe2 w' hop hx K' hk=>?_⟩;simp only [wo];rw [hop x (by simp [Op.operands]),hop i (by simp [Op.operands]),h1]; exact hk
 case slice t x lo hi m =>
  cases m with
  | some m=>cases hp
  | none =>
   obtain ⟨v,h1,h2⟩:=q0T h;refine ⟨_,h2,λe2 w' hop hx K' hk=>?_⟩;have hl:lo.map (ev e2)=lo.map (ev e):=by
    cases lo with
    | none=>rfl
    | some y=>simp only [xC]; rw [hop y (by simp [Op.operands])]
   have hh:hi.map (ev e2)=hi.map (ev e):=by
    cases hi with
    | none=>rfl
    | some y=>simp only [xC]; rw [hop y (by simp [Op.operands])]
   simp only [wo];rw [hop x (by simp [Op.operands]),hl,hh,h1]; exact hk
 case extract x i =>
  obtain ⟨v,h1,h2⟩:=q0T h;refine ⟨_,h2,λe2 w' hop hx K' hk=>?_⟩;simp only [wo];rw [hop x (by simp [Op.operands]),h1]; exact hk
 case call c =>
  obtain ⟨ca,ar,ts⟩:=c;have hargs:∀ e2:Env,(∀ x ∈ (Op.call ⟨ca,ar,ts⟩).operands.toList,ev e2 x=ev e x)->ar.toList.map (ev e2)=ar.toList.map (ev e):=λe2 hop=>by
   apply List.map_congr_left
   intro x hx;exact hop x (by simp only [Op.operands,Call.operands,Array.toList_append,wG]; exact .inr hx)
  cases ca with
  | builtin b =>
   cases b <;> (try (cases hp; done)) <;> simp only [] at h
   case len =>
    split at h
    ·rename_i x t hx ht;obtain ⟨v,h1,h2⟩:=q0T h;refine ⟨_,h2,λe2 w' hop _ K' hk=>?_⟩;have:=hargs e2 hop;rw [hx] at this;simp only [wo,hx,ht];simp only [xB,xH,List.cons.injEq,and_true] at this;rw [this,h1]; exact hk
    ·exact h.elim
   case max =>
    obtain ⟨v,h1,h2⟩:=q0T h;refine ⟨_,h2,λe2 w' hop _ K' hk=>?_⟩;simp only [wo];rw [hargs e2 hop,h1]; exact hk
   case min =>
    obtain ⟨v,h1,h2⟩:=q0T h;refine ⟨_,h2,λe2 w' hop _ K' hk=>?_⟩;simp only [wo];rw [hargs e2 hop,h1]; exact hk
  | _=>cases hp
def qj1 {ops:Array Oper} {o:Oper} {e e2:Env} (h:∀ t,looks ops o t=true->e2 t=e t):∀ x ∈ o.op.operands.toList,ev e2 x=ev e x:=by
 intro x hx;cases x with
 | tmp t =>
  refine h t ?_;unfold looks Oper.looksAt;rw [y8];exact ⟨t,List.mem_append_left _ (List.mem_filterMap.2 ⟨_,hx,rfl⟩),by simp⟩
 | const v=>rfl
 | global v=>rfl
 | func v=>rfl
def q7F {ops:Array Oper} {o:Oper} {e e2:Env} (h:∀ t,looks ops o t=true->e2 t=e t):q6i ops e2 o=q6i ops e o:=by
 unfold q6i;cases hg:o.guard with
 | none=>rfl
 | some g =>
  obtain ⟨j,b⟩:=g;simp only;unfold q3n;cases hd:(ops[j]?).bind (·.dst) with
  | none=>rfl
  | some d =>
   have:e2 d=e d:=h d (by
    unfold looks Oper.looksAt;rw [y8];exact ⟨d,List.mem_append_right _ (by rw [hg]; simp only [hd]; simp),by simp⟩)
   simp only [this]
def qsy {ops:Array Oper} {o:Oper} (hp:q7o o=true) {e:Env} {w:World} {K:Value->World->Prop} (h:wg P ops o e w K) :
  ∃ v,K v w/\∀ (e2:Env) (w':World),(∀ t,looks ops o t=true->e2 t=e t)->(qgM o=true->Ext w w')->∀ K':Value->World->Prop,K' v w'->wg P ops o e2 w' K':=by
 unfold wg at h
 split at h
 ·rename_i hw;obtain ⟨v,h1,h2⟩:=qst hp h;refine ⟨v,h1,λe2 w' hl hx K' hk=>?_⟩;unfold wg;rw [q7F hl,if_pos hw];exact h2 e2 w' (qj1 hl) hx K' hk
 ·rename_i hw;refine ⟨_,h,λe2 w' hl hx K' hk=>?_⟩;unfold wg;rw [q7F hl,if_neg hw];exact hk
def WLm (P:Program) (ops:Array Oper) (K:Env->Prop):List Bool->List Oper->Env->World->Prop
 | true :: m,o :: os,e,w=>wg P ops o e w λv _=>WLm P ops K m os (put e o.dst v) w
 | false :: m,_ :: os,e,w=>WLm P ops K m os e w
 | _,_,e,_=>K e
def qj6:List Bool->List Oper->Nat->Bool
 | false :: m,o :: os,t=>wrO t o || qj6 m os t
 | true :: m,_ :: os,t=>qj6 m os t
 | _,_,_=>false
def qyb (P:Program) (ops:List Oper) (R:World->World->Prop) (mask:List Bool) (l:List (Nat × q43 R)) (es:Env) (w:World) (o:Oper):Prop :=
 ∀ e' w',R w w'->(∀ t,dep ops.toArray o t=true->qj6 mask ops t=true->(look l t).1 (e' t) w')->(∀ t,looks ops.toArray o t=true->qj6 mask ops t=false->e' t=es t) ->
  wg P ops.toArray o e' w' λv w''=>R w' w''/\∀ d,o.dst=some d->(look l d).1 v w''
def qhz (P:Program) (ops:List Oper) (R:World->World->Prop) (mask:List Bool) (l:List (Nat × q43 R)) (es:Env) (w:World):List Oper->Prop
 | []=>True
 | o :: rest=>qyb P ops R mask l es w o/\qhz P ops R mask l es w rest
def qhz.get {ops:List Oper} {mask:List Bool} {l:List (Nat × q43 R)} {es:Env} {w:World}:∀ {os:List Oper},qhz P ops R mask l es w os->∀ o ∈ os,qyb P ops R mask l es w o:=by
 intro os
 induction os with
 | nil=>intro _ o ho; cases ho
 | cons a rest ih =>
  intro h x hx
  rcases w4.1 hx with hx | hx
  ·rw [hx]; exact h.1
  ·exact ih h.2 x hx
def q7P.of {ops:Array Oper} {l:List (Nat × q43 R)} {e:Env} {w:World}:∀ {os:List Oper},(∀ o ∈ os,qco P ops R l e w o)->q7P P ops R l e w os
 | [],_=>trivial
 | o :: os,h=>⟨h o z6,q7P.of λp hp=>h p (zP _ hp)⟩
def qyc (P:Program) (ops:Array Oper) (R:World->World->Prop) (l:List (Nat × q43 R)) (e:Env) (w:World) (o:Oper):Prop :=
 ∀ e' w',R w w'->(∀ t,dep ops o t=true->(look l t).1 (e' t) w')->(∀ t,looks ops o t=true->dep ops o t=false->e' t=e t) ->
  wg P ops o e' w' λv w''=>R w' w''/\∀ d,o.dst=some d->(look l d).1 v w''
def qyc.ok {ops:Array Oper} {l:List (Nat × q43 R)} {e:Env} {w:World} {o:Oper} (h:qyc P ops R l e w o):qco P ops R l e w o:=λe' w' a b c=>q2f (h e' w' a b c)
end
section
variable {P:Program} {ops:Array Oper} {K:Env->Prop} {e:Env} {w:World} {d:Option Nat} {o:Oper} {os:List Oper} {m:List Bool}
def WLm_t:WLm P ops K (true :: m) (o :: os) e w=wg P ops o e w λv _=>WLm P ops K m os (put e o.dst v) w:=rfl
def WLm_f:WLm P ops K (false :: m) (o :: os) e w=WLm P ops K m os e w:=rfl
def WLm_n:WLm P ops K [] [] e w=K e:=rfl
@[congr] theorem qy9 {e':Env} (h:e=e'):WLm P ops K m os e w=WLm P ops K m os e' w:=by rw [h]
attribute [go_sem ↓] WLm_t WLm_f WLm_n
attribute [irreducible] WLm
end
inductive Anc (ops:Array Oper):Nat->Nat->Prop
 | base {i j:Nat} {o:Oper} (h:ops[i]?=some o) (he:q2Q o j=true):Anc ops i j
 | step {i k j:Nat} {o:Oper} (h:ops[i]?=some o) (he:q2Q o k=true) (ha:Anc ops k j):Anc ops i j
def qmc (ms:List Nat) (o:Oper):Nat:=o.after.toList.foldl (λa e=>if Region.binds .any e then a ||| 2 ^ e.on ||| ms.getD e.on 0 else a) 0
def qjV:List Oper->List Nat->List Nat
 | [],ms=>ms
 | o :: os,ms=>qjV os (ms ++ [qmc ms o])
def qcO {ms:List Nat} {j:Nat}:∀ (es:List Edge) (a:Nat),(es.foldl (λa e=>if Region.binds .any e then a ||| 2 ^ e.on ||| ms.getD e.on 0 else a) a).testBit j=true ->
  a.testBit j=true\/∃ e ∈ es,Region.binds .any e=true/\(e.on=j\/(ms.getD e.on 0).testBit j=true)
 | [],a,h=>.inl h
 | e :: es,a,h=>by
  rw [List.foldl_cons] at h
  rcases qcO es _ h with h | ⟨x,hx,hb,hc⟩
  ·split at h
   ·rename_i hb;rw [xV,xV,y4,y4] at h
    rcases h with (h | h) | h
    ·exact .inl h
    ·rw [yL] at h;exact .inr ⟨e,z6,hb,.inl (by simpa using h)⟩
    ·exact .inr ⟨e,z6,hb,.inr h⟩
   ·exact .inl h
  ·exact .inr ⟨x,zP _ hx,hb,hc⟩
def q6O {ops:List Oper}:∀ (rest:List Oper) (ms:List Nat) (pre:List Oper),ops=pre ++ rest->ms.length=pre.length->(∀ i j,(ms.getD i 0).testBit j=true->Anc ops.toArray i j) ->
  ∀ i j,((qjV rest ms).getD i 0).testBit j=true->Anc ops.toArray i j
 | [],ms,_,_,_,h=>h
 | o :: os,ms,pre,he,hl,h=>by
  refine q6O os (ms ++ [qmc ms o]) (pre ++ [o]) (by rw [he]; simp) (by simp [hl]) λi j hb=>?_
  rcases Nat.lt_trichotomy i ms.length with hi | hi | hi
  ·rw [zI,yR hi,<- zI] at hb;exact h i j hb
  ·subst hi;have ho:ops.toArray[ms.length]?=some o:=by rw [wJ,he,hl]; simp
   rw [zI,yQ (yJ _)] at hb;simp only [Nat.sub_self,xF,vD] at hb
   rcases qcO _ _ hb with hb | ⟨x,hx,hbd,hc⟩
   ·simp at hb
   ·have hed:q2Q o x.on=true:=qde.2 ⟨x,yV.1 hx,hbd,rfl⟩
    rcases hc with rfl | hc
    ·exact .base ho hed
    ·exact .step ho hed (h _ _ hc)
  ·rw [zI,zT (by simp; omega)] at hb;simp at hb
section
variable {P:Program} {n:Nat} {R:World->World->Prop}
def q9G {ops:Array Oper} {listed:Array Bool} {i:Nat} (hi:i ∈ Region.ready .any ops listed):∃ hlt:i < ops.size,listed.getD i true=false/\∀ x ∈ ops[i].after,Region.binds .any x=true->listed.getD x.on false=true:=by
 unfold Region.ready at hi;rw [List.mem_filter] at hi;obtain ⟨hir,hrd⟩:=hi;have hlt:=z4.1 hir;have hio:ops[i]?=some ops[i]:=yC hlt;simp only [hio,xC,vD,zA] at hrd;obtain ⟨hnl,haf⟩:=hrd;rw [Array.all_eq_true'] at haf;exact ⟨hlt,by simpa using hnl,λx hx hb=>by have:=haf x hx; simpa [hb] using this⟩
end
def qd0 (ops:List Oper) (o:Oper) (j:Nat):Bool:=match (ops[j]?).bind (·.dst) with | some d=>looks ops.toArray o d | none=>false
def q6Q:List Bool->Nat->Nat->Nat
 | [],_,a=>a
 | b :: m,i,a=>q6Q m (i+1) (if b then a else a ||| 2 ^ i)
def dcOk (ops:List Oper) (mask:List Bool):Bool :=
 y2 mask.length ops.length && qc0 ops.toArray && (List.range ops.length).all λi=>match ops[i]? with
  | none=>true
  | some o=>if mask.getD i false then q7o o && (List.range ops.length).all λj=>mask.getD j true || !qd0 ops o j || (match ops[j]? with | some p=>q2Q p i | none=>false)
   else ((List.range ops.length).all λj=>!(mask.getD j false) || !qd0 ops o j || q2Q o j) && y2 (((qjV ops []).getD i 0) &&& q6Q (mask.take i) 0 0) (q6Q (mask.take i) 0 0)
def q7I {j:Nat}:∀ (m:List Bool) (i a:Nat),a.testBit j=true->(q6Q m i a).testBit j=true
 | [],_,_,h=>h
 | b :: m,i,a,h=>by
  unfold q6Q;refine q7I m (i+1) _ ?_
  split
  ·exact h
  ·rw [xV,h,Bool.true_or]
def q6P {j:Nat}:∀ (m:List Bool) (i a:Nat),i<=j->m[j-i]?=some false->(q6Q m i a).testBit j=true
 | [],_,_,_,h=>by simp at h
 | b :: m,i,a,hij,h=>by
  unfold q6Q
  by_cases he:j=i
  ·subst he;simp at h; subst h;refine q7I m _ _ ?_;simp [xV,Nat.testBit_two_pow_self]
  ·refine q6P m (i+1) _ Oq ?_;rw [show j-i=(j-(i+1))+1 by omega] at h;simpa using h
def qwi (mask mask2:List Bool):List Bool:=(mask.zip mask2).map λb=>!(b.1 && !b.2)
def qeY (ops:List Oper) (i:Nat) (m:List Bool):Bool:=y2 (((qjV ops []).getD i 0) &&& q6Q m 0 0) (q6Q m 0 0)
def pmOk (ops:List Oper) (mask mask2:List Bool) (pm:List Nat):Bool:=y2 pm.length ops.length && y2 mask2.length ops.length && (List.range ops.length).all λi=>match ops[i]? with
 | none=>true
 | some o=>(match pm.getD i 0 with | 0=>true | 1=>q7o o || qeY ops i (mask.map λb=>!b) | _=>qeY ops i (qwi mask mask2)) &&
  (!(mask2.getD i false) || (mask.getD i false && (List.range ops.length).all λj=>mask2.getD j false || !(mask.getD j false) || !qd0 ops o j))
def q6r {ops:List Oper} {i j:Nat} {m:List Bool} (h:qeY ops i m=true) (hj:m[j]?=some false):Anc ops.toArray i j:=by
 have h5:=zO h;have h6:(q6Q m 0 0).testBit j=true:=q6P _ 0 0 (wN _) (by rw [Nat.sub_zero]; exact hj);rw [<- h5,yK,zA] at h6;exact q6O ops [] [] rfl rfl (λi j h=>by simp at h) i j h6.1
structure PmOk (ops:List Oper) (mask mask2:List Bool) (pm:List Nat):Prop where
 len:pm.length=ops.length
 one:∀ (i:Nat) (o:Oper),ops[i]?=some o->pm.getD i 0=1->q7o o=true\/∀ j:Nat,mask[j]?=some true->Anc ops.toArray i j
 two:∀ (i:Nat) (o:Oper) (k:Nat),ops[i]?=some o->pm.getD i 0=k+2->∀ j:Nat,mask[j]?=some true->mask2[j]?=some false->Anc ops.toArray i j
 sub:∀ (i:Nat),i < ops.length->mask2[i]?=some true->mask[i]?=some true
 own:∀ (i j:Nat) (o p:Oper) (d:Nat),ops[i]?=some o->ops[j]?=some p->mask2[i]?=some true->mask[j]?=some true->mask2[j]?=some false->p.dst=some d->looks ops.toArray o d=false
 len2:mask2.length=ops.length
def PmOk.of {ops:List Oper} {mask mask2:List Bool} {pm:List Nat} (h:pmOk ops mask mask2 pm=true) (hml:mask.length=ops.length):PmOk ops mask mask2 pm:=by
 unfold pmOk at h;rw [zA,zA,zM] at h;obtain ⟨⟨h1,h2⟩,h3⟩:=h;have hl2:=zO h2;have h4:∀ i o,ops[i]?=some o->_:=λi o ho=>h3 i (z4.2 (zY.1 ho).1);have hmk:∀ i,i < ops.length->mask2[i]?=some true->mask[i]?=some true:=λi hi hm=>by
  obtain ⟨o,ho⟩:∃ o,ops[i]?=some o:=⟨_,zC hi⟩;have:=h4 i o ho;simp only [ho,zA] at this;have:=this.2;rw [show mask2.getD i false=true by simp [y1,hm],w5,xT,zA] at this;have hl:i < mask.length:=by omega
  rw [zC hl];have h5:=this.1;rw [zI,zC hl] at h5;simpa using h5
 refine ⟨zO h1,λi o ho hp=>?_,λi o k ho hp j hj hj2=>?_,hmk,λi j o p d ho hp hm hm1 hm2 hd=>?_,hl2⟩
 ·have:=h4 i o ho;simp only [ho,hp,zA,y4] at this
  rcases this.1 with h | h
  ·exact .inl h
  ·exact .inr λj hj=>q6r h (by rw [List.getElem?_map,hj]; rfl)
 ·have:=h4 i o ho;simp only [ho,hp,zA] at this;refine q6r this.1 ?_;unfold qwi;have hz:(mask.zip mask2)[j]?=some (true,false):=List.getElem?_zip_eq_some.2 ⟨hj,hj2⟩;rw [List.getElem?_map,hz]; rfl
 ·have:=h4 i o ho;simp only [ho,zA] at this;have:=this.2;rw [show mask2.getD i false=true by simp [y1,hm],w5,xT,zA,zM] at this;have:=this.2 j (z4.2 (zY.1 hp).1);rw [show mask2.getD j false=false by simp [y1,hm2],show mask.getD j false=true by simp [y1,hm1]] at this;unfold qd0 at this;simpa [hp,hd] using this
structure DcOk (ops:List Oper) (mask:List Bool):Prop where
 len:mask.length=ops.length
 draw:qc0 ops.toArray=true
 pure:∀ (i:Nat) (o:Oper),ops[i]?=some o->mask[i]?=some true->q7o o=true
 early:∀ (i j:Nat) (o p:Oper) (d:Nat),ops[i]?=some o->ops[j]?=some p->mask[i]?=some true->mask[j]?=some false->p.dst=some d->looks ops.toArray o d=true->q2Q p i=true
 late:∀ (i j:Nat) (o p:Oper) (d:Nat),ops[i]?=some o->ops[j]?=some p->mask[i]?=some false->mask[j]?=some true->p.dst=some d->looks ops.toArray o d=true->q2Q o j=true
 ord:∀ (i j:Nat),i < ops.length->mask[i]?=some false->mask[j]?=some false->j < i->Anc ops.toArray i j
def DcOk.of {ops:List Oper} {mask:List Bool} (h:dcOk ops mask=true):DcOk ops mask:=by
 unfold dcOk at h;rw [zA,zA] at h;obtain ⟨⟨h1,h2⟩,h3⟩:=h;have hlen:=zO h1;rw [zM] at h3;have h4:∀ i o,ops[i]?=some o->_:=λi o ho=>h3 i (z4.2 (zY.1 ho).1);refine ⟨hlen,h2,λi o ho hm=>?_,λi j o p d ho hp hm hm' hd hl=>?_,λi j o p d ho hp hm hm' hd hl=>?_,λi j hi hm hm' hji=>?_⟩
 ·have:=h4 i o ho;simp only [ho] at this;rw [if_pos (by simp [y1,hm]),zA] at this;exact this.1
 ·have:=h4 i o ho;simp only [ho] at this;rw [if_pos (by simp [y1,hm]),zA,zM] at this;have:=this.2 j (z4.2 (zY.1 hp).1);rw [show mask.getD j true=false by simp [y1,hm'],xT] at this;unfold qd0 at this;simpa [hp,hd,hl] using this
 ·have:=h4 i o ho;simp only [ho] at this;rw [if_neg (by simp [y1,hm]),zA,zM] at this;have:=this.1 j (z4.2 (zY.1 hp).1);rw [show mask.getD j false=true by simp [y1,hm']] at this;unfold qd0 at this;simpa [hp,hd,hl] using this
 ·obtain ⟨o,ho⟩:∃ o,ops[i]?=some o:=⟨_,zC hi⟩;have:=h4 i o ho;simp only [ho] at this;rw [if_neg (by simp [y1,hm]),zA] at this;have h5:=zO this.2;have h6:(q6Q (mask.take i) 0 0).testBit j=true:=q6P _ 0 0 (wN _) (by rw [Nat.sub_zero,z8,if_pos hji]; exact hm');rw [<- h5,yK,zA] at h6;exact q6O ops [] [] rfl rfl (λi j h=>by simp at h) i j h6.1
section
variable {P:Program} {n:Nat} {R:World->World->Prop}
def WLc (P:Program) (ops:Array Oper) (R R2:World->Prop) (K:Env->World->Prop):List (Nat × Oper)->Env->World->Prop
 | [],e,w=>K e w
 | (0,o) :: rest,e,w=>wg P ops o e w λv w'=>R w'/\WLc P ops R R2 K rest (put e o.dst v) w'
 | (1,o) :: rest,e,w=>wg P ops o e w λv w'=>WLc P ops R R2 K rest (put e o.dst v) w'
 | (_+2,o) :: rest,e,w=>wg P ops o e w λv w'=>R2 w'/\WLc P ops R R2 K rest (put e o.dst v) w'
end
section
variable {P:Program} {ops:Array Oper} {R R2:World->Prop} {K:Env->World->Prop} {e:Env} {w:World} {o:Oper} {os:List Oper} {m:List Bool} {b:Nat} {pm:List Nat} {l:List (Nat × Oper)}
def qrs:WLc P ops R R2 K [] e w=K e w:=rfl
def WLc_0:WLc P ops R R2 K ((0,o) :: l) e w=wg P ops o e w λv w'=>R w'/\WLc P ops R R2 K l (put e o.dst v) w':=rfl
def WLc_1:WLc P ops R R2 K ((1,o) :: l) e w=wg P ops o e w λv w'=>WLc P ops R R2 K l (put e o.dst v) w':=rfl
def WLc_2:WLc P ops R R2 K ((2,o) :: l) e w=wg P ops o e w λv w'=>R2 w'/\WLc P ops R R2 K l (put e o.dst v) w':=rfl
@[congr] theorem qya {e':Env} (h:e=e'):WLc P ops R R2 K l e w=WLc P ops R R2 K l e' w:=by rw [h]
attribute [go_sem ↓] qrs WLc_0 WLc_1 WLc_2
attribute [irreducible] WLc
end
section
variable {P:Program} {n:Nat} {R:World->World->Prop}
def qmY {f:Env} {x:Option Nat} {v:Value} {t:Nat} (h0:x≠some t):put f x v t=f t:=by
 cases hx:x with
 | none=>rfl
 | some d' =>
  have:t≠d':=λh=>h0 (by rw [hx,h]);simp [put,upd,this]
end
inductive Sch where
 | fin:Sch
 | one:Nat->Sch->Sch
 | alt:Sch->Sch->Sch
def q8C:Sch->List Nat
 | .fin=>[]
 | .one i _=>[i]
 | .alt s t=>q8C s ++ q8C t
def qdY:List Oper->Nat->Oper
 | o :: _,0=>o
 | _ :: l,i+1=>qdY l i
 | [], _ => ⟨none, .move (.const undef), 0, "", #[], none⟩
def qm5 {o:Oper} {l:List Oper}:qdY (o :: l) 0=o:=rfl
def qvB {o:Oper} {l:List Oper} {i:Nat}:qdY (o :: l) (i+1)=qdY l i:=rfl
def qa0:∀ {l:List Oper} {i:Nat} {o:Oper},l[i]?=some o->qdY l i=o
 | o :: _,0,_,h=>by rw [qm5]; simpa using h
 | _ :: l,i+1,_,h=>qa0 (l:=l) (by simpa using h)
 | [],i,_,h=>by simp at h
def qxj:List Nat->List Nat->Bool
 | [],[]=>true
 | a :: l,b :: m=>y2 a b && qxj l m
 | _,_=>false
def qax:∀ {l m:List Nat},qxj l m=true->l=m
 | [],[],_=>rfl
 | a :: l,b :: m,h=>by
  simp only [qxj,zA] at h;rw [zO h.1,qax h.2]
 | [],_ :: _,h=>by cases h
 | _ :: _,[],h=>by cases h
def qgo (ops:List Oper) (l:Array Bool) (i:Nat):Bool :=
 q7o (qdY ops i) && !qgM (qdY ops i) && Region.free .any ops.toArray l i && (Region.ready .any ops.toArray l).any (y2 i)
def q6B (ops:List Oper):Sch->Bool->Nat->Array Bool->Bool
 | .fin,b,_,l=>!b && (Region.ready .any ops.toArray l).isEmpty
 | .one i s,b,f+1,l=>(b || qgo ops l i || qxj (Region.ready .any ops.toArray l) [i]) && q6B ops s false f (l.setIfInBounds i true)
 | .one _ _,_,0,_=>false
 | .alt s t,b,f,l=>(b || qxj (Region.ready .any ops.toArray l) (q8C s ++ q8C t)) && !(q8C s).isEmpty && !(y2 f 0) && q6B ops s true f l && q6B ops t true f l
def WS (P:Program) (ops:List Oper) (K:Env->World->Prop):Sch->Env->World->Prop
 | .fin,e,w=>K e w
 | .one i s,e,w=>wg P ops.toArray (qdY ops i) e w λv w'=>WS P ops K s (put e (qdY ops i).dst v) w'
 | .alt s t,e,w=>WS P ops K s e w/\WS P ops K t e w
section
variable {P:Program} {n:Nat}
def qy6 {ops:List Oper} {K:Env->World->Prop} {e:Env} {w:World} {i:Nat} {s:Sch}:WS P ops K (.one i s) e w=wg P ops.toArray (qdY ops i) e w λv w'=>WS P ops K s (put e (qdY ops i).dst v) w':=rfl
def qy7 {ops:List Oper} {K:Env->World->Prop} {e:Env} {w:World} {s t:Sch}:WS P ops K (.alt s t) e w=(WS P ops K s e w/\WS P ops K t e w):=rfl
@[congr] theorem WS_congr {ops:List Oper} {K:Env->World->Prop} {e e':Env} {w:World} {s:Sch} (h:e=e'):WS P ops K s e w=WS P ops K s e' w:=by rw [h]
def q4Y {r:Result Value} {x:Next} {w':World} (h:r.andThen (λa w=>.ok (.value a) w)=.ok x w'):∃ v,x=.value v:=by
 cases r with
 | ok a w=>simp only [Result.andThen_ok] at h; cases h; exact ⟨_,rfl⟩
 | halt=>cases h
def qfI {o:Oper} (hp:q7o o=true) {ρ:Operand->Value} {w:World} {x:Next} {w':World} (h:(execOp ρ o).run P w=.ok x w'):∃ v,x=.value v:=by
 obtain ⟨d,op,ty,pos,af,g⟩:=o;cases op <;> (try (cases hp; done)) <;> simp only [execOp,Sem.run_bind,Sem.run_pure] at h
 case move=>cases h; exact ⟨_,rfl⟩
 case assign=>cases h; exact ⟨_,rfl⟩
 case pick c a b =>
  cases hr:(asBool (ρ c)).run P w with
  | ok b w1 =>
   rw [hr] at h;cases b <;> (simp only [Result.andThen_ok] at h; cases h; exact ⟨_,rfl⟩)
  | halt=>rw [hr] at h; cases h
 case call c =>
  unfold q7o at hp;simp only at hp;cases hc:c.callee with
  | builtin b =>
   rw [hc] at hp;simp only [resolve,hc,Sem.run_pure,Result.andThen_ok,invoke] at h;cases b <;> (try (cases hp; done)) <;> simp only [builtin,Sem.run_bind,Sem.run_pure] at h <;> exact q4Y h
  | invoke=>rw [hc] at hp; cases hp
  | value f=>rw [hc] at hp; cases hp
 all_goals exact q4Y h
def q7h {ops:Array Oper} {l:Array Bool} {i:Nat} (h:i ∈ Region.ready .any ops l):i < ops.size:=(q9G h).1
def qoj {ops:List Oper} {Q:Exit->Act->World->Prop} {K:Env->World->Prop} {e0:Env} (hs:Region.noSelect ops.toArray=true) (hd:ops.all (q98 n)=true)
  (hQp:∀ c a a' w,Q (.panic c) a w->Q (.panic c) a' w)
  (hQ:∀ a e' w',Rel n a e'->(∀ t,q6T ops.toArray t=false->e' t=e0 t)->K e' w'->Q .normal a w') :
  ∀ (s:Sch) (b:Bool) (f:Nat) (l:Array Bool) (a:Act) (e:Env) (w:World),q6B ops s b f l=true->Rel n a e->(∀ t,q6T ops.toArray t=false->e t=e0 t)->WS P ops K s e w ->
   (b=false->wpAny P .any ops.toArray Q f l a w)/\(b=true->∀ i ∈ q8C s,(∃ o,ops[i]?=some o)->∀ f',f=f'+1->wpOp P ops.toArray Q i (wpAny P .any ops.toArray Q f' (l.setIfInBounds i true)) a w):=by
 intro s;have hdo:∀ (i:Nat) (o:Oper),ops[i]?=some o->∀ {a:Act} {e:Env} (v:Value),Rel n a e->Rel n (a.put o.dst v) (put e o.dst v):=λi o ho a e v hr=>by
  have h1:q98 n o=true:=by rw [zM] at hd; exact hd _ (wO ho)
  exact hr.put _ v (by unfold q98 at h1; cases hx:o.dst <;> simp_all)
 have hold:∀ (i:Nat) (o:Oper),ops[i]?=some o->∀ {e:Env} (v:Value),(∀ t,q6T ops.toArray t=false->e t=e0 t)->∀ t,q6T ops.toArray t=false->put e o.dst v t=e0 t:=λi o ho e v h t ht=>by
  rw [qmY (q6S ht i o (by simpa using ho))]; exact h t ht
 have hop:∀ (i:Nat) (o:Oper),ops[i]?=some o->∀ {a:Act} {e:Env} {w:World} {Kv:Value->World->Prop} {K':Act->World->Prop},Rel n a e->wg P ops.toArray o e w Kv->(∀ v w',Kv v w'->K' (a.put o.dst v) w')->wpOp P ops.toArray Q i K' a w:=λi o ho a e w Kv K' hr h hk=>by
  have h1:=q2f h;unfold wpOp;have hio2:ops.toArray[i]?=some o:=by simpa using ho
  simp only [hio2];rw [q71 hr (by simpa using hd)];unfold WG at h1
  split
  ·rename_i hw;rw [if_pos hw] at h1;exact .inl (q7Z hr h1 hk)
  ·rename_i hw;rw [if_neg hw] at h1;exact hk _ _ h1
 induction s with
 | fin =>
  intro b f l a e w hok hr hold0 h;simp only [q6B,zA,List.isEmpty_iff,Bool.not_eq_true'] at hok;exact ⟨λ_=>wpAny_done hok.2 (hQ a e w hr hold0 h) f,λhb=>by rw [hb] at hok; cases hok.1⟩
 | one i s ih =>
  intro b f l a e w hok hr hold0 h;cases f with
  | zero=>cases b <;> simp [q6B] at hok
  | succ f =>
   simp only [q6B,zA] at hok;obtain ⟨hok1,hok2⟩:=hok;rw [qy6] at h;have step:∀ o,ops[i]?=some o->wpOp P ops.toArray Q i (wpAny P .any ops.toArray Q f (l.setIfInBounds i true)) a w:=λo ho=>by
    rw [qa0 ho] at h;exact hop i o ho hr h λv w' hv=>(ih false f _ _ _ _ hok2 (hdo i o ho v hr) (hold i o ho v hold0) hv).1 rfl
   refine ⟨λhb=>?_,λhb j hj ⟨o,ho⟩ f' hf=>?_⟩
   ·subst hb;rw [xT,y4] at hok1
    rcases hok1 with hf | hf
    ·unfold qgo at hf;rw [zA,zA,zA] at hf;obtain ⟨⟨⟨h1,h2⟩,h3⟩,h4⟩:=hf;rw [y8] at h4;obtain ⟨j,hj,hji⟩:=h4;obtain rfl:i=j:=zO hji;have hlt:i < ops.length:=by simpa using q7h hj
     have ho:ops[i]?=some ops[i]:=zC hlt;generalize ops[i]=o at ho;rw [qa0 ho] at h h1 h2;obtain ⟨v,hv,hev⟩:=qsy h1 h;have hio2:ops.toArray[i]?=some o:=by simpa using ho
     have hstep:∀ w2,WG P ops.toArray o e w2 λv' w3=>v'=v/\w3=w2:=λw2=>q2f (hev e w2 (λ_ _=>rfl) (λhl=>by rw [hl] at h2; cases h2) _ ⟨rfl,rfl⟩);have hy:Yields P ops.toArray o v a:=by
      unfold Yields;rw [q71 hr (by simpa using hd)];cases hw:q6i ops.toArray e o with
      | true =>
       refine .inl ⟨rfl,λw2=>?_⟩;have h5:=hstep w2;unfold WG at h5;rw [if_pos hw] at h5;unfold WO at h5;rw [hr.eval];cases hx:(execOp (ev e) o).run P w2 with
       | ok x w3 =>
        obtain ⟨v3,rfl⟩:=qfI h1 hx;rw [hx] at h5;simp only [RO] at h5;rw [h5.1,h5.2]
       | halt=>rw [hx] at h5; exact h5.elim
      | false =>
       refine .inr ⟨rfl,?_⟩;have h5:=hstep w;unfold WG at h5;rw [if_neg (by rw [hw]; simp)] at h5;exact h5.1.symm
     refine wpAny_take hio2 hs h3 (by simpa using hj) (λc a' w' hq=>hQp c _ _ w' hq) hy ?_;exact (ih false f _ _ _ _ hok2 (hdo i o ho v hr) (hold i o ho v hold0) hv).1 rfl
    ·have hrd:=qax hf;refine wpAny_all hrd (by simp) λj hj=>?_;simp only [w6] at hj;subst hj;have hlt:j < ops.length:=by simpa using q7h (show j ∈ Region.ready .any ops.toArray l by rw [hrd]; simp)
     exact step _ (zC hlt)
   ·simp only [q8C,w6] at hj;subst hj;obtain rfl:f=f':=by omega
    exact step o ho
 | alt s t ihs iht =>
  intro b f l a e w hok hr hold0 h;simp only [q6B,zA] at hok;obtain ⟨⟨⟨⟨hok1,hok2⟩,hok3⟩,hok4⟩,hok5⟩:=hok;rw [qy7] at h;have hs1:=(ihs true f l a e w hok4 hr hold0 h.1).2 rfl;have ht1:=(iht true f l a e w hok5 hr hold0 h.2).2 rfl;have key:∀ i ∈ q8C s ++ q8C t,(∃ o,ops[i]?=some o)->∀ f',f=f'+1->wpOp P ops.toArray Q i (wpAny P .any ops.toArray Q f' (l.setIfInBounds i true)) a w:=λi hi ho f' hf=>by
   rcases wG.1 hi with hi | hi
   ·exact hs1 i hi ho f' hf
   ·exact ht1 i hi ho f' hf
  refine ⟨λhb=>?_,λ_=>key⟩;subst hb;rw [xT] at hok1;have hrd:=qax hok1;cases f with
  | zero=>simp at hok3
  | succ f =>
   refine wpAny_all hrd (by intro hn; rw [List.append_eq_nil_iff] at hn; rw [hn.1] at hok2; simp at hok2) λj hj=>?_;have hlt:j < ops.length:=by simpa using q7h (show j ∈ Region.ready .any ops.toArray l by rw [hrd]; exact hj)
   exact key j hj ⟨_,zC hlt⟩ f rfl
def W_dA {id:Nat} {ops:List Oper} {Q:Exit->Env->World->Prop} {e:Env} {w:World} (hm:P.follows .mixedOrders=true) (s:Sch) (hok:(Region.noSelect ops.toArray && q6B ops s false ops.length (wF ops.length false))=true)
  (h:∀ (K:Env->World->Prop) (w1:World),(∀ e w,Q .normal e w->K e w)->Ext w w1->WS P ops K s e w1):W P n (.region id ops.toArray true) Q e w:=by
 rw [zA] at hok;intro hd a hr;have hd':ops.all (q98 n)=true:=hd;refine wp_mono (Q:=λx a' w'=>x=.normal/\ql2 n (.region id ops.toArray true) e Q .normal a' w') (wp_region_any hm ?_) λx a' w' hq=>by rw [hq.1]; exact hq.2
 have:=(qoj (n:=n) (P:=P) (e0:=e) (K:=Q .normal) (Q:=λx a' w'=>x=.normal/\ql2 n (.region id ops.toArray true) e Q .normal a' w') hok.1 hd' (λc a a' w hq=>by cases hq.1) (λa' e' w' r' h2 h3=>⟨rfl,e',r',h2,h3⟩) s false ops.length (wF ops.length false) a e { w with drawn:=w.drawn+1 } hok.2 hr (λ_ _=>rfl) (h _ _ (λ_ _ h=>h) (Kp.drew w _))).1 rfl;simpa using this
end
def Own (w:World) (B:Nat) (E sz:Nat) (A:Option Addr) (n c:Nat) (xs:List Value):Prop:=w.ownsRow B E sz (.slice A n c) n xs
def nb (A:Option Addr) (k:Nat):Prop:=∀ a,A=some a->a.block≠k
section
variable {w w':World} {B E sz n c:Nat} {A:Option Addr} {xs:List Value} {D D':Nat->Prop}
def Own.nil (w:World) (B E sz:Nat):Own w B E sz none 0 0 []:=World.ownsRow_nil w B E sz
def Own.form (h:Own w B E sz A n c xs):(A=none/\n=0/\c=0/\xs=[])\/∃ g cur,A=some ⟨g,0,none⟩/\B<=g/\Blk w g E cur/\n<=c/\c<=maxLen/\cur.size=c*sz/\cur.toList.take (n*sz)=xs:=by
 obtain ⟨h1,h2⟩:=h
 rcases h2 with ⟨h2,h3⟩ | ⟨g,cap,cur,hv,hb,hg,hn,hc,hs,ht⟩
 ·injection h2 with a b c
  subst h3;exact .inl ⟨a,rfl,c,List.eq_nil_of_length_eq_zero (by simpa using h1)⟩
 ·injection hv with a b c'
  subst c';exact .inr ⟨g,cur,a,hb,hg,hn,hc,hs,ht⟩
def Own.len (h:Own w B E sz A n c xs):xs.length=n*sz:=h.1
def Own.cap (h:Own w B E sz A n c xs):n<=c:=by
 rcases h.form with ⟨_,rfl,_,_⟩ | ⟨_,_,_,_,_,hn,_⟩ <;> omega
def Own.not_lt (h:Own w B E sz A n c xs) {k:Nat} (hk:k < B):nb A k:=by
 intro a ha
 rcases h.form with ⟨h0,_⟩ | ⟨g,_,h0,hb,_⟩
 ·rw [h0] at ha; cases ha
 ·rw [h0] at ha; obtain rfl:=zH.inj ha; simp only; omega
def Own.kp (h:Own w B E sz A n c xs) (hk:Kp D w w') (hd:∀ a,A=some a->D a.block):Own w' B E sz A n c xs:=by
 refine ⟨h.1,?_⟩
 rcases h.2 with h2 | ⟨g,cap,cur,hv,hb,hg,rest⟩
 ·exact .inl h2
 ·have hv':=hv
  injection hv with a _ _
  exact .inr ⟨g,cap,cur,hv',hb,Blk.kp hg hk (hd _ a),rest⟩
def Own.ext (h:Own w B E sz A n c xs) (hk:Ext w w'):Own w' B E sz A n c xs:=h.kp hk λ_ _=>trivial
def Own.mono (h:Own w B E sz A n c xs) {B':Nat} (hb:B'<=B):Own w B' E sz A n c xs:=by
 refine ⟨h.1,?_⟩
 rcases h.2 with h2 | ⟨g,cap,cur,hv,hb',rest⟩
 ·exact .inl h2
 ·exact .inr ⟨g,cap,cur,hv,zL hb hb',rest⟩
def Kp.under {w1 w2:World} (hx:Ext w w1) (hk:Kp D w1 w2) (ho:∀ k,k < w.heap.size->D k):Ext w w2 :=
 ⟨hk.os.trans hx.os,hk.tape.trans hx.tape,hk.output.trans hx.output,zL hx.size hk.size,λk hk1 _=>(hk.block k (z7 hk1 hx.size) (ho k hk1)).trans (hx.block k hk1 trivial)⟩
def Own.under {w1 w2:World} (h:Own w1 w.heap.size E sz A n c xs) (hx:Ext w w1) (hk:Kp (nb A) w1 w2):Ext w w2:=hx.under hk λ_ hk=>h.not_lt hk
def Own.row (h:Own w B E sz A n c xs):Row w (λk=>B<=k) sz A n c xs:=by
 refine ⟨h.cap,h.len,λhx=>?_⟩
 rcases h.form with ⟨_,_,_,rfl⟩ | ⟨g,cur,rfl,hb,hg,hn,_,hs,ht⟩
 ·simp at hx
 ·refine ⟨_,rfl,hb,λj u hu=>?_⟩;rw [q1M,zW,hg.cell];rw [<- ht,z8] at hu
  split at hu
  ·simpa using hu
  ·cases hu
def Own.cell (h:Own w B E sz A n c xs) {j:Nat} (hj:j < xs.length):∃ g,A=some ⟨g,0,none⟩/\B<=g/\w.cell? ⟨g,j,none⟩=some xs[j]/\w.frozen? ⟨g,j,none⟩=false:=by
 rcases h.form with ⟨_,_,_,rfl⟩ | ⟨g,cur,rfl,hb,hg,hn,_,hs,ht⟩
 ·simp at hj
 ·refine ⟨g,rfl,hb,?_,hg.frozen j⟩;rw [hg.cell];have:xs[j]?=some xs[j]:=zC hj;rw [<- this];subst ht;rw [z8];simp only [zV] at hj;rw [if_pos (by omega)]; simp
def Own.set {g:Nat} (h:Own w B E sz (some ⟨g,0,none⟩) n c xs) (j:Nat) (u:Value):Own (w.setCell ⟨g,j,none⟩ u) B E sz (some ⟨g,0,none⟩) n c (xs.set j u):=(World.ownsRow.stored h j u).1
end
section
variable {P:Program} {w:World} {K:Value->World->Prop}
end
end Go.E
namespace Go.Proofs.YtpbaikoblfcmdaaGreatDoor
open Go Go.E
set_option maxRecDepth 100000
def agg3:q0c Tryz.prog 3=some none:=by kernel_rfl
def agg4:q0c Tryz.prog 4=some none:=by kernel_rfl
def agg5:q0c Tryz.prog 5=some none:=by kernel_rfl
def agg23:q0c Tryz.prog 23=some none:=by kernel_rfl
def agg24:q0c Tryz.prog 24=some none:=by kernel_rfl
def agg25:q0c Tryz.prog 25=some none:=by kernel_rfl
def agg27:q0c Tryz.prog 27=some (some 5):=by kernel_rfl
def agg31:q0c Tryz.prog 31=some (some 3):=by kernel_rfl
def agg33:q0c Tryz.prog 33=some none:=by kernel_rfl
def agg37:q0c Tryz.prog 37=some (some 4):=by kernel_rfl
def agg39:q0c Tryz.prog 39=some none:=by kernel_rfl
def agg44:q0c Tryz.prog 44=some none:=by kernel_rfl
def agg46:q0c Tryz.prog 46=some (some 2):=by kernel_rfl
def agg48:q0c Tryz.prog 48=some (some 4):=by kernel_rfl
def agg52:q0c Tryz.prog 52=some none:=by kernel_rfl
def agg58:q0c Tryz.prog 58=some (some 2):=by kernel_rfl
def agg69:q0c Tryz.prog 69=some none:=by kernel_rfl
def agg99:q0c Tryz.prog 99=some (some 8):=by kernel_rfl
def qyZ:q0c Tryz.prog 132=some (some 8):=by kernel_rfl
def qyY:q0c Tryz.prog 142=some (some 8):=by kernel_rfl
def qyX:q0c Tryz.prog 150=some none:=by kernel_rfl
def qyW:q0c Tryz.prog 168=some none:=by kernel_rfl
def qyV:q0c Tryz.prog 191=some none:=by kernel_rfl
def qyU:q0c Tryz.prog 193=some (some 5):=by kernel_rfl
def qyT:q0c Tryz.prog 199=some none:=by kernel_rfl
def qyS:q0c Tryz.prog 213=some (some 5):=by kernel_rfl
def qqR:q0W Tryz.prog 27 0=some 0:=by kernel_rfl
def qqQ:q0W Tryz.prog 27 1=some 1:=by kernel_rfl
def qqP:q0W Tryz.prog 27 2=some 2:=by kernel_rfl
def qqO:q0W Tryz.prog 27 3=some 3:=by kernel_rfl
def qqN:q0W Tryz.prog 27 4=some 4:=by kernel_rfl
def qqM:q0W Tryz.prog 31 0=some 0:=by kernel_rfl
def qqL:q0W Tryz.prog 31 1=some 1:=by kernel_rfl
def qqK:q0W Tryz.prog 31 2=some 2:=by kernel_rfl
def qqJ:q0W Tryz.prog 37 0=some 0:=by kernel_rfl
def qqI:q0W Tryz.prog 37 1=some 3:=by kernel_rfl
def qqH:q0W Tryz.prog 46 0=some 0:=by kernel_rfl
def qqG:q0W Tryz.prog 46 1=some 1:=by kernel_rfl
def qqF:q0W Tryz.prog 48 0=some 0:=by kernel_rfl
def qqE:q0W Tryz.prog 48 1=some 1:=by kernel_rfl
def qqD:q0W Tryz.prog 48 2=some 3:=by kernel_rfl
def qqC:q0W Tryz.prog 58 0=some 0:=by kernel_rfl
def qqB:q0W Tryz.prog 58 1=some 1:=by kernel_rfl
def qqA:q0W Tryz.prog 99 0=some 0:=by kernel_rfl
def qpz:q0W Tryz.prog 99 1=some 1:=by kernel_rfl
def qpy:q0W Tryz.prog 99 2=some 2:=by kernel_rfl
def qpx:q0W Tryz.prog 99 3=some 3:=by kernel_rfl
def qpw:q0W Tryz.prog 99 4=some 4:=by kernel_rfl
def qpv:q0W Tryz.prog 99 5=some 5:=by kernel_rfl
def qpu:q0W Tryz.prog 99 6=some 6:=by kernel_rfl
def qpt:q0W Tryz.prog 99 7=some 7:=by kernel_rfl
def qk6:q0W Tryz.prog 132 0=some 0:=by kernel_rfl
def qk5:q0W Tryz.prog 132 1=some 4:=by kernel_rfl
def qk4:q0W Tryz.prog 142 0=some 0:=by kernel_rfl
def qk3:q0W Tryz.prog 142 1=some 4:=by kernel_rfl
def qk2:q0W Tryz.prog 193 0=some 0:=by kernel_rfl
def qk1:q0W Tryz.prog 193 1=some 1:=by kernel_rfl
def qk0:q0W Tryz.prog 193 2=some 2:=by kernel_rfl
def qkZ:q0W Tryz.prog 193 3=some 3:=by kernel_rfl
def qkY:q0W Tryz.prog 193 4=some 4:=by kernel_rfl
def qkX:q0W Tryz.prog 213 0=some 0:=by kernel_rfl
def qkW:q0W Tryz.prog 213 1=some 1:=by kernel_rfl
def qkV:q0W Tryz.prog 213 2=some 3:=by kernel_rfl
def qkU:q0W Tryz.prog 213 3=some 4:=by kernel_rfl
def qkT:q0W Tryz.prog 272 0=some 0:=by kernel_rfl
def qkS:q0W Tryz.prog 272 1=some 1:=by kernel_rfl
def esz22:q0e Tryz.prog 22=some 1:=by kernel_rfl
def esz24:q0e Tryz.prog 24=some 1:=by kernel_rfl
def esz25:q0e Tryz.prog 25=some 1:=by kernel_rfl
def esz39:q0e Tryz.prog 39=some 4:=by kernel_rfl
def esz44:q0e Tryz.prog 44=some 1:=by kernel_rfl
def esz51:q0e Tryz.prog 51=some 1:=by kernel_rfl
def esz52:q0e Tryz.prog 52=some 2:=by kernel_rfl
def esz69:q0e Tryz.prog 69=some 1:=by kernel_rfl
def qwE:q0e Tryz.prog 130=some 8:=by kernel_rfl
def qwD:q0e Tryz.prog 140=some 8:=by kernel_rfl
def qwC:q0e Tryz.prog 150=some 1:=by kernel_rfl
def qwB:q0e Tryz.prog 168=some 1:=by kernel_rfl
def qwA:q0e Tryz.prog 191=some 1:=by kernel_rfl
def qvz:q0e Tryz.prog 268=some 2:=by kernel_rfl
def elm22:q06 Tryz.prog 22=some (23,1,8,#[.int .u64 0]):=by kernel_rfl
def elm24:q06 Tryz.prog 24=some (3,1,8,#[.int .i64 0]):=by kernel_rfl
def elm25:q06 Tryz.prog 25=some (33,1,8,#[.int .u64 0]):=by kernel_rfl
def elm39:q06 Tryz.prog 39=some (48,4,48,#[.bool false,.bool false,.slice none 0 0,.int .i64 0]):=by kernel_rfl
def elm44:q06 Tryz.prog 44=some (199,1,4,#[.int .u32 0]):=by kernel_rfl
def elm51:q06 Tryz.prog 51=some (52,1,24,#[.slice none 0 0]):=by kernel_rfl
def elm52:q06 Tryz.prog 52=some (58,2,16,#[.int .u64 0,.int .u64 0]):=by kernel_rfl
def elm69:q06 Tryz.prog 69=some (4,1,1,#[.bool false]):=by kernel_rfl
def qwL:q06 Tryz.prog 130=some (132,8,96,#[.bool false,.bool false,.slice none 0 0,.int .i64 0,.bool false,.bool false,.slice none 0 0,.int .i64 0]):=by kernel_rfl
def qwK:q06 Tryz.prog 140=some (142,8,96,#[.bool false,.bool false,.slice none 0 0,.int .i64 0,.bool false,.bool false,.slice none 0 0,.int .i64 0]):=by kernel_rfl
def qwJ:q06 Tryz.prog 150=some (39,1,24,#[.slice none 0 0]):=by kernel_rfl
def qwI:q06 Tryz.prog 168=some (25,1,24,#[.slice none 0 0]):=by kernel_rfl
def qwH:q06 Tryz.prog 191=some (69,1,24,#[.slice none 0 0]):=by kernel_rfl
def qwG:q06 Tryz.prog 268=some (272,2,16,#[.int .u64 0,.int .u64 0]):=by kernel_rfl
def zer3:q1Y Tryz.prog 3=some #[.int .i64 0]:=by kernel_rfl
def zer27:q1Y Tryz.prog 27=some #[.int .i64 0,.int .i64 0,.slice none 0 0,.slice none 0 0,.slice none 0 0]:=by kernel_rfl
def zer31:q1Y Tryz.prog 31=some #[.int .i64 0,.int .i64 0,.slice none 0 0]:=by kernel_rfl
def zer37:q1Y Tryz.prog 37=some #[.int .i64 0,.int .i64 0,.slice none 0 0,.slice none 0 0]:=by kernel_rfl
def zer46:q1Y Tryz.prog 46=some #[.bool false,.slice none 0 0]:=by kernel_rfl
def zer48:q1Y Tryz.prog 48=some #[.bool false,.bool false,.slice none 0 0,.int .i64 0]:=by kernel_rfl
def zer58:q1Y Tryz.prog 58=some #[.int .u64 0,.int .u64 0]:=by kernel_rfl
def zer99:q1Y Tryz.prog 99=some #[.slice none 0 0,.slice none 0 0,.slice none 0 0,.slice none 0 0,.slice none 0 0,.slice none 0 0,.slice none 0 0,.slice none 0 0]:=by kernel_rfl
def qsl:q1Y Tryz.prog 132=some #[.bool false,.bool false,.slice none 0 0,.int .i64 0,.bool false,.bool false,.slice none 0 0,.int .i64 0]:=by kernel_rfl
def qsk:q1Y Tryz.prog 142=some #[.bool false,.bool false,.slice none 0 0,.int .i64 0,.bool false,.bool false,.slice none 0 0,.int .i64 0]:=by kernel_rfl
def qsj:q1Y Tryz.prog 193=some #[.slice none 0 0,.slice none 0 0,.slice none 0 0,.slice none 0 0,.slice none 0 0]:=by kernel_rfl
def qsi:q1Y Tryz.prog 213=some #[.bool false,.bool false,.slice none 0 0,.int .i64 0,.bool false]:=by kernel_rfl
def qsh:q1Y Tryz.prog 272=some #[.int .u64 0,.int .u64 0]:=by kernel_rfl
def qsg:q1Y Tryz.prog 349=some #[.int .u8 0,.int .u8 0,.int .u8 0,.int .u8 0,.int .u8 0,.int .u8 0,.int .u8 0,.int .u8 0,.int .u8 0,.int .u8 0,.int .u8 0,.int .u8 0,.int .u8 0,.int .u8 0,.int .u8 0,.int .u8 0,.int .u8 0,.int .u8 0,.int .u8 0,.int .u8 0,.int .u8 0,.int .u8 0,.int .u8 0,.int .u8 0,.int .u8 0,.int .u8 0,.int .u8 0,.int .u8 0,.int .u8 0,.int .u8 0,.int .u8 0,.int .u8 0]:=by kernel_rfl
def siz3:q00 Tryz.prog 3=some 1:=by kernel_rfl
def siz4:q00 Tryz.prog 4=some 1:=by kernel_rfl
def siz24:q00 Tryz.prog 24=some 1:=by kernel_rfl
def siz25:q00 Tryz.prog 25=some 1:=by kernel_rfl
def siz27:q00 Tryz.prog 27=some 5:=by kernel_rfl
def siz31:q00 Tryz.prog 31=some 3:=by kernel_rfl
def siz33:q00 Tryz.prog 33=some 1:=by kernel_rfl
def siz37:q00 Tryz.prog 37=some 4:=by kernel_rfl
def siz39:q00 Tryz.prog 39=some 1:=by kernel_rfl
def siz46:q00 Tryz.prog 46=some 2:=by kernel_rfl
def siz48:q00 Tryz.prog 48=some 4:=by kernel_rfl
def siz58:q00 Tryz.prog 58=some 2:=by kernel_rfl
def siz99:q00 Tryz.prog 99=some 8:=by kernel_rfl
def quJ:q00 Tryz.prog 132=some 8:=by kernel_rfl
def quI:q00 Tryz.prog 142=some 8:=by kernel_rfl
def quH:q00 Tryz.prog 150=some 1:=by kernel_rfl
def quG:q00 Tryz.prog 168=some 1:=by kernel_rfl
def quF:q00 Tryz.prog 191=some 1:=by kernel_rfl
def quE:q00 Tryz.prog 193=some 5:=by kernel_rfl
def quD:q00 Tryz.prog 199=some 1:=by kernel_rfl
def quC:q00 Tryz.prog 213=some 5:=by kernel_rfl
def quB:q00 Tryz.prog 272=some 2:=by kernel_rfl
def quA:q00 Tryz.prog 349=some 32:=by kernel_rfl
def und3:Tryz.prog.underlying 3=some (.int .i64):=by kernel_rfl
def qtG:Tryz.prog.underlying 4=some .bool:=by kernel_rfl
def beq4 {x y:Bool}:q1A Tryz.prog .eql 4 (.bool x) (.bool y)=some (.bool (x == y)):=qci qtG
def bne4 {x y:Bool}:q1A Tryz.prog .neq 4 (.bool x) (.bool y)=some (.bool (x != y)):=qch qtG
def und5:Tryz.prog.underlying 5=some (.int .u8):=by kernel_rfl
def qtH:Tryz.prog.underlying 23=some (.int .u64):=by kernel_rfl
def und33:Tryz.prog.underlying 33=some (.int .u64):=by kernel_rfl
def und40:Tryz.prog.underlying 40=some (.int .i64):=by kernel_rfl
def qtF:Tryz.prog.underlying 44=some (.slice 199):=by kernel_rfl
def nil44 {A:Option Addr} {n c n2 c2:Nat}:q1A Tryz.prog .eql 44 (.slice A n c) (.slice none n2 c2)=some (.bool A.isNone):=qho qtF
def qvC {A:Option Addr} {n c n2 c2:Nat}:q1A Tryz.prog .neq 44 (.slice A n c) (.slice none n2 c2)=some (.bool A.isSome):=qlL qtF
def und83:Tryz.prog.underlying 83=some (.int .u64):=by kernel_rfl
def qtI:Tryz.prog.underlying 199=some (.int .u32):=by kernel_rfl
def qxg  : Tryz.prog.built 27 []=some #[.int .i64 0,.int .i64 0,.slice none 0 0,.slice none 0 0,.slice none 0 0]:=by kernel_rfl
def qau {x0:Int} {x1:Int} {x2A:Option Addr} {x2n x2c:Nat}:Tryz.prog.built 27 [(0,(.int .i64 x0)),(1,(.int .i64 x1)),(2,(.slice x2A x2n x2c))]=some #[.int .i64 x0,.int .i64 x1,.slice x2A x2n x2c,.slice none 0 0,.slice none 0 0]:=by kernel_rfl
def q8R {x0:Int} {x1:Int} {x2A:Option Addr} {x2n x2c:Nat} {x3A:Option Addr} {x3n x3c:Nat}:Tryz.prog.built 27 [(0,(.int .i64 x0)),(1,(.int .i64 x1)),(2,(.slice x2A x2n x2c)),(3,(.slice x3A x3n x3c))]=some #[.int .i64 x0,.int .i64 x1,.slice x2A x2n x2c,.slice x3A x3n x3c,.slice none 0 0]:=by kernel_rfl
def q66 {x0:Int} {x1:Int} {x2A:Option Addr} {x2n x2c:Nat} {x3A:Option Addr} {x3n x3c:Nat} {x4A:Option Addr} {x4n x4c:Nat}:Tryz.prog.built 27 [(0,(.int .i64 x0)),(1,(.int .i64 x1)),(2,(.slice x2A x2n x2c)),(3,(.slice x3A x3n x3c)),(4,(.slice x4A x4n x4c))]=some #[.int .i64 x0,.int .i64 x1,.slice x2A x2n x2c,.slice x3A x3n x3c,.slice x4A x4n x4c]:=by kernel_rfl
def qxf  : Tryz.prog.built 31 []=some #[.int .i64 0,.int .i64 0,.slice none 0 0]:=by kernel_rfl
def qhj {x0:Int} {x1:Int}:Tryz.prog.built 31 [(0,(.int .i64 x0)),(1,(.int .i64 x1))]=some #[.int .i64 x0,.int .i64 x1,.slice none 0 0]:=by kernel_rfl
def qat {x0:Int} {x1:Int} {x2A:Option Addr} {x2n x2c:Nat}:Tryz.prog.built 31 [(0,(.int .i64 x0)),(1,(.int .i64 x1)),(2,(.slice x2A x2n x2c))]=some #[.int .i64 x0,.int .i64 x1,.slice x2A x2n x2c]:=by kernel_rfl
def qxe  : Tryz.prog.built 37 []=some #[.int .i64 0,.int .i64 0,.slice none 0 0,.slice none 0 0]:=by kernel_rfl
def qhi {x00:Int} {x01:Int} {x02A:Option Addr} {x02n x02c:Nat} {x1A:Option Addr} {x1n x1c:Nat}:Tryz.prog.built 37 [(0,.agg #[.int .i64 x00,.int .i64 x01,.slice x02A x02n x02c]),(1,(.slice x1A x1n x1c))]=some #[.int .i64 x00,.int .i64 x01,.slice x02A x02n x02c,.slice x1A x1n x1c]:=by kernel_rfl
def qxd  : Tryz.prog.built 46 []=some #[.bool false,.slice none 0 0]:=by kernel_rfl
def qhh {x0:Bool} {x1A:Option Addr} {x1n x1c:Nat}:Tryz.prog.built 46 [(0,(.bool x0)),(1,(.slice x1A x1n x1c))]=some #[.bool x0,.slice x1A x1n x1c]:=by kernel_rfl
def qxc  : Tryz.prog.built 48 []=some #[.bool false,.bool false,.slice none 0 0,.int .i64 0]:=by kernel_rfl
def qrR {x0:Bool}:Tryz.prog.built 48 [(0,(.bool x0))]=some #[.bool x0,.bool false,.slice none 0 0,.int .i64 0]:=by kernel_rfl
def qhg {x10:Bool} {x11A:Option Addr} {x11n x11c:Nat} {x2:Int}:Tryz.prog.built 48 [(1,.agg #[.bool x10,.slice x11A x11n x11c]),(2,(.int .i64 x2))]=some #[.bool false,.bool x10,.slice x11A x11n x11c,.int .i64 x2]:=by kernel_rfl
def qxb  : Tryz.prog.built 58 []=some #[.int .u64 0,.int .u64 0]:=by kernel_rfl
def qhf {x0:Int} {x1:Int}:Tryz.prog.built 58 [(0,(.int .u64 x0)),(1,(.int .u64 x1))]=some #[.int .u64 x0,.int .u64 x1]:=by kernel_rfl
def qxa  : Tryz.prog.built 99 []=some #[.slice none 0 0,.slice none 0 0,.slice none 0 0,.slice none 0 0,.slice none 0 0,.slice none 0 0,.slice none 0 0,.slice none 0 0]:=by kernel_rfl
def q8Q {x0A:Option Addr} {x0n x0c:Nat} {x1A:Option Addr} {x1n x1c:Nat} {x2A:Option Addr} {x2n x2c:Nat} {x5A:Option Addr} {x5n x5c:Nat}:Tryz.prog.built 99 [(0,(.slice x0A x0n x0c)),(1,(.slice x1A x1n x1c)),(2,(.slice x2A x2n x2c)),(5,(.slice x5A x5n x5c))]=some #[.slice x0A x0n x0c,.slice x1A x1n x1c,.slice x2A x2n x2c,.slice none 0 0,.slice none 0 0,.slice x5A x5n x5c,.slice none 0 0,.slice none 0 0]:=by kernel_rfl
def qdo {x00:Bool} {x010:Bool} {x011A:Option Addr} {x011n x011c:Nat} {x02:Int} {x10:Bool} {x110:Bool} {x111A:Option Addr} {x111n x111c:Nat} {x12:Int}:Tryz.prog.built 132 [(0,.agg #[.bool x00,.bool x010,.slice x011A x011n x011c,.int .i64 x02]),(1,.agg #[.bool x10,.bool x110,.slice x111A x111n x111c,.int .i64 x12])]=some #[.bool x00,.bool x010,.slice x011A x011n x011c,.int .i64 x02,.bool x10,.bool x110,.slice x111A x111n x111c,.int .i64 x12]:=by kernel_rfl
def qdn {x00:Bool} {x010:Bool} {x011A:Option Addr} {x011n x011c:Nat} {x02:Int} {x10:Bool} {x110:Bool} {x111A:Option Addr} {x111n x111c:Nat} {x12:Int}:Tryz.prog.built 142 [(0,.agg #[.bool x00,.bool x010,.slice x011A x011n x011c,.int .i64 x02]),(1,.agg #[.bool x10,.bool x110,.slice x111A x111n x111c,.int .i64 x12])]=some #[.bool x00,.bool x010,.slice x011A x011n x011c,.int .i64 x02,.bool x10,.bool x110,.slice x111A x111n x111c,.int .i64 x12]:=by kernel_rfl
def q9f {x0:Bool} {x10:Bool} {x11A:Option Addr} {x11n x11c:Nat} {x2:Int}:Tryz.prog.built 213 [(0,(.bool x0)),(1,.agg #[.bool x10,.slice x11A x11n x11c]),(2,(.int .i64 x2))]=some #[.bool x0,.bool x10,.slice x11A x11n x11c,.int .i64 x2,.bool false]:=by kernel_rfl
def q6o {x0:Bool} {x10:Bool} {x11A:Option Addr} {x11n x11c:Nat} {x2:Int} {x3:Bool}:Tryz.prog.built 213 [(0,(.bool x0)),(1,.agg #[.bool x10,.slice x11A x11n x11c]),(2,(.int .i64 x2)),(3,(.bool x3))]=some #[.bool x0,.bool x10,.slice x11A x11n x11c,.int .i64 x2,.bool x3]:=by kernel_rfl
def qdm {x0:Int} {x1:Int}:Tryz.prog.built 272 [(0,(.int .u64 x0)),(1,(.int .u64 x1))]=some #[.int .u64 x0,.int .u64 x1]:=by kernel_rfl
def qrM:bsV Tryz.prog 24 0 []=some (3,#[]):=by kernel_rfl
def qrL {x0:Int}:bsV Tryz.prog 24 1 [(0,(.int .i64 x0))]=some (3,#[.int .i64 x0]):=by kernel_rfl
def qrK {x0:Int} {x1:Int}:bsV Tryz.prog 24 2 [(0,(.int .i64 x0)),(1,(.int .i64 x1))]=some (3,#[.int .i64 x0,.int .i64 x1]):=by kernel_rfl
def qrJ {x0:Int} {x1:Int} {x2:Int}:bsV Tryz.prog 24 3 [(0,(.int .i64 x0)),(1,(.int .i64 x1)),(2,(.int .i64 x2))]=some (3,#[.int .i64 x0,.int .i64 x1,.int .i64 x2]):=by kernel_rfl
def qrI:bsV Tryz.prog 25 0 []=some (33,#[]):=by kernel_rfl
def qrH {x0:Int}:bsV Tryz.prog 25 1 [(0,(.int .u64 x0))]=some (33,#[.int .u64 x0]):=by kernel_rfl
def qrG {x0:Int} {x1:Int}:bsV Tryz.prog 25 2 [(0,(.int .u64 x0)),(1,(.int .u64 x1))]=some (33,#[.int .u64 x0,.int .u64 x1]):=by kernel_rfl
def qrF {x0:Int} {x1:Int} {x2:Int}:bsV Tryz.prog 25 3 [(0,(.int .u64 x0)),(1,(.int .u64 x1)),(2,(.int .u64 x2))]=some (33,#[.int .u64 x0,.int .u64 x1,.int .u64 x2]):=by kernel_rfl
def qrE {x0:Int} {x1:Int} {x2:Int} {x3:Int}:bsV Tryz.prog 25 4 [(0,(.int .u64 x0)),(1,(.int .u64 x1)),(2,(.int .u64 x2)),(3,(.int .u64 x3))]=some (33,#[.int .u64 x0,.int .u64 x1,.int .u64 x2,.int .u64 x3]):=by kernel_rfl
def qrD {x00:Bool} {x010:Bool} {x011A:Option Addr} {x011n x011c:Nat} {x02:Int}:bsV Tryz.prog 39 1 [(0,.agg #[.bool x00,.bool x010,.slice x011A x011n x011c,.int .i64 x02])]=some (48,#[.bool x00,.bool x010,.slice x011A x011n x011c,.int .i64 x02]):=by kernel_rfl
def qrC {x00:Bool} {x010:Bool} {x011A:Option Addr} {x011n x011c:Nat} {x02:Int} {x10:Bool} {x110:Bool} {x111A:Option Addr} {x111n x111c:Nat} {x12:Int}:bsV Tryz.prog 39 2 [(0,.agg #[.bool x00,.bool x010,.slice x011A x011n x011c,.int .i64 x02]),(1,.agg #[.bool x10,.bool x110,.slice x111A x111n x111c,.int .i64 x12])]=some (48,#[.bool x00,.bool x010,.slice x011A x011n x011c,.int .i64 x02,.bool x10,.bool x110,.slice x111A x111n x111c,.int .i64 x12]):=by kernel_rfl
def qrB {x00:Bool} {x010:Bool} {x011A:Option Addr} {x011n x011c:Nat} {x02:Int} {x10:Bool} {x110:Bool} {x111A:Option Addr} {x111n x111c:Nat} {x12:Int} {x20:Bool} {x210:Bool} {x211A:Option Addr} {x211n x211c:Nat} {x22:Int} {x30:Bool} {x310:Bool} {x311A:Option Addr} {x311n x311c:Nat} {x32:Int}:bsV Tryz.prog 39 4 [(0,.agg #[.bool x00,.bool x010,.slice x011A x011n x011c,.int .i64 x02]),(1,.agg #[.bool x10,.bool x110,.slice x111A x111n x111c,.int .i64 x12]),(2,.agg #[.bool x20,.bool x210,.slice x211A x211n x211c,.int .i64 x22]),(3,.agg #[.bool x30,.bool x310,.slice x311A x311n x311c,.int .i64 x32])]=some (48,#[.bool x00,.bool x010,.slice x011A x011n x011c,.int .i64 x02,.bool x10,.bool x110,.slice x111A x111n x111c,.int .i64 x12,.bool x20,.bool x210,.slice x211A x211n x211c,.int .i64 x22,.bool x30,.bool x310,.slice x311A x311n x311c,.int .i64 x32]):=by kernel_rfl
def qrA:bsV Tryz.prog 44 0 []=some (199,#[]):=by kernel_rfl
def qqz {x0:Int}:bsV Tryz.prog 44 1 [(0,(.int .u32 x0))]=some (199,#[.int .u32 x0]):=by kernel_rfl
def qqy {x0:Int} {x1:Int}:bsV Tryz.prog 44 2 [(0,(.int .u32 x0)),(1,(.int .u32 x1))]=some (199,#[.int .u32 x0,.int .u32 x1]):=by kernel_rfl
def qqx {x0A:Option Addr} {x0n x0c:Nat}:bsV Tryz.prog 51 1 [(0,(.slice x0A x0n x0c))]=some (52,#[.slice x0A x0n x0c]):=by kernel_rfl
def qqw {x00:Int} {x01:Int}:bsV Tryz.prog 52 1 [(0,.agg #[.int .u64 x00,.int .u64 x01])]=some (58,#[.int .u64 x00,.int .u64 x01]):=by kernel_rfl
def qlI {x000:Bool} {x0010:Bool} {x0011A:Option Addr} {x0011n x0011c:Nat} {x002:Int} {x010:Bool} {x0110:Bool} {x0111A:Option Addr} {x0111n x0111c:Nat} {x012:Int}:bsV Tryz.prog 140 1 [(0,.agg #[.bool x000,.bool x0010,.slice x0011A x0011n x0011c,.int .i64 x002,.bool x010,.bool x0110,.slice x0111A x0111n x0111c,.int .i64 x012])]=some (142,#[.bool x000,.bool x0010,.slice x0011A x0011n x0011c,.int .i64 x002,.bool x010,.bool x0110,.slice x0111A x0111n x0111c,.int .i64 x012]):=by kernel_rfl
def qlH {x0A:Option Addr} {x0n x0c:Nat}:bsV Tryz.prog 150 1 [(0,(.slice x0A x0n x0c))]=some (39,#[.slice x0A x0n x0c]):=by kernel_rfl
def qlG {x0A:Option Addr} {x0n x0c:Nat}:bsV Tryz.prog 168 1 [(0,(.slice x0A x0n x0c))]=some (25,#[.slice x0A x0n x0c]):=by kernel_rfl
def qlF {x0A:Option Addr} {x0n x0c:Nat} {x1A:Option Addr} {x1n x1c:Nat}:bsV Tryz.prog 168 2 [(0,(.slice x0A x0n x0c)),(1,(.slice x1A x1n x1c))]=some (25,#[.slice x0A x0n x0c,.slice x1A x1n x1c]):=by kernel_rfl
def qlE {x0A:Option Addr} {x0n x0c:Nat}:bsV Tryz.prog 191 1 [(0,(.slice x0A x0n x0c))]=some (69,#[.slice x0A x0n x0c]):=by kernel_rfl
def qlD {x00:Int} {x01:Int}:bsV Tryz.prog 268 1 [(0,.agg #[.int .u64 x00,.int .u64 x01])]=some (272,#[.int .u64 x00,.int .u64 x01]):=by kernel_rfl
def qxR:q0I Tryz.prog 13=true:=by kernel_rfl
def qxQ:q0I Tryz.prog 15=true:=by kernel_rfl
def qxP:q0I Tryz.prog 20=true:=by kernel_rfl
def qxO:q0I Tryz.prog 48=true:=by kernel_rfl
def qxN:q0I Tryz.prog 59=true:=by kernel_rfl
def qxM:q0I Tryz.prog 65=true:=by kernel_rfl
def qxL:q0I Tryz.prog 68=true:=by kernel_rfl
def qxK:q0I Tryz.prog 69=true:=by kernel_rfl
def qxJ:q0I Tryz.prog 82=true:=by kernel_rfl
def qnP:q0I Tryz.prog 119=true:=by kernel_rfl
def qnO:q0I Tryz.prog 123=true:=by kernel_rfl
def qnN:q0I Tryz.prog 131=true:=by kernel_rfl
def qnM:q0I Tryz.prog 133=true:=by kernel_rfl
def qnL:q0I Tryz.prog 149=true:=by kernel_rfl
def qnK:q0I Tryz.prog 154=true:=by kernel_rfl
def qca:q0I Tryz.prog 163=true:=by kernel_rfl
def qh9:q0I Tryz.prog 165=true:=by kernel_rfl
def qnJ:q0I Tryz.prog 176=true:=by kernel_rfl
def qh8:q0I Tryz.prog 177=true:=by kernel_rfl
def qnI:q0I Tryz.prog 178=true:=by kernel_rfl
def qnH:q0I Tryz.prog 182=true:=by kernel_rfl
def qnG:q0I Tryz.prog 191=true:=by kernel_rfl
def qh7:q0I Tryz.prog 216=true:=by kernel_rfl
def qnF:q0I Tryz.prog 221=true:=by kernel_rfl
def qnE:q0I Tryz.prog 307=true:=by kernel_rfl
def q4o:Tryz.prog.follows .mixedOrders=true:=by kernel_rfl
attribute [go_sem] agg3 agg4 agg5 agg23 agg24 agg25 agg27 agg31 agg33 agg37 agg39 agg44 agg46 agg48 agg52 agg58 agg69 agg99 qyZ qyY qyX qyW qyV qyU qyT qyS qqR qqQ qqP qqO
attribute [go_sem] qqN qqM qqL qqK qqJ qqI qqH qqG qqF qqE qqD qqC qqB qqA qpz qpy qpx qpw qpv qpu qpt qk6 qk5 qk4 qk3 qk2 qk1 qk0 qkZ
attribute [go_sem] qkY qkX qkW qkV qkU qkT qkS esz22 esz24 esz25 esz39 esz44 esz51 esz52 esz69 qwE qwD qwC
attribute [go_sem] qwB qwA qvz elm22 elm24 elm25 elm39 elm44 elm51 elm52 elm69 qwL qwK qwJ qwI qwH qwG zer3 zer27 zer31 zer37 zer46 zer48
attribute [go_sem] zer58 zer99 qsl qsk qsj qsi qsh qsg siz3 siz4 siz24 siz25 siz27 siz31 siz33 siz37 siz39 siz46 siz48 siz58 siz99 quJ quI quH quG quF quE quD quC
attribute [go_sem] quB quA und3 qtG beq4 bne4 und5 qtH und33 und40 nil44 qvC und83 qtI qxg qau q8R q66 qxf qhj qat qxe qhi qxd qhh qxc qrR qhg qxb qhf
attribute [go_sem] qxa q8Q qdo qdn q9f q6o qdm qrM qrL qrK qrJ qrI qrH qrG qrF qrE qrD qrC qrB qrA qqz qqy qqx qqw qlI qlH qlG qlF
attribute [go_sem] qlE qlD qxR qxQ qxP
attribute [go_sem] qxO qxN qxM qxL qxK
attribute [go_sem] qxJ
attribute [go_sem] qnP qnO qnN qnM qnL
attribute [go_sem] qnK qca qh9 qnJ qh8 qnI qnH qnG
attribute [go_sem] qh7 qnF
attribute [go_sem] qnE
attribute [go_sem] q4o
open Go.Sp
def dg (l:List Nat) (i:Nat):Nat:=l.getD i 0
def u32v (d:Nat):Value:=.int .u32 d
def U32 (w:World) (D:Nat->Prop) (A:Option Addr) (n c:Nat) (l:List Nat):Prop:=Row w D 1 A n c (l.map u32v)/\q03 l
section
variable {w w':World} {D D':Nat->Prop} {A:Option Addr} {n c:Nat} {l:List Nat}
def U32.len (h:U32 w D A n c l):l.length=n:=by have:=h.1.len; simpa using this
def U32.cap (h:U32 w D A n c l):n<=c:=h.1.cap
def U32.cell (h:U32 w D A n c l) {j:Nat} (hj:j < n):∃ ad,A=some ad/\w.cell? (ad.add j)=some (.int .u32 ((dg l j:Nat):Int)):=by
 have hl:=h.len;obtain ⟨ad,rfl,hc⟩:=h.1.get (j:=j) (by simp; omega);refine ⟨ad,rfl,?_⟩;rw [hc]; simp [u32v,dg,show j < l.length by omega]
def U32.kp (h:U32 w D A n c l) (k:Kp D w w'):U32 w' D A n c l:=⟨h.1.kp k,h.2⟩
def U32.ext (h:U32 w D A n c l) (k:Ext w w'):U32 w' D A n c l:=h.kp (Kp.of_ext k)
def U32.sub (h:U32 w D A n c l) (hs:∀ k,k < w.heap.size->D k->D' k):U32 w D' A n c l:=⟨h.1.sub hs,h.2⟩
def U32.take (h:U32 w D A n c l) {m:Nat} (hm:m<=n):U32 w D A m c (l.take m):=by
 have:=h.1.take hm;rw [z9,<- List.map_take] at this;exact ⟨this,h.2.take m⟩
def U32.nil:U32 w D none 0 0 []:=⟨Row.nil _ _ _,q03.nil⟩
end
section
variable {w w':World} {D D':Nat->Prop} {A:Option Addr} {n c B:Nat} {l:List Nat}
def qrw (w:World) (B:Nat) (A:Option Addr) (n c:Nat) (l:List Nat):Prop:=Own w B 199 1 A n c (l.map u32v)/\q03 l
def qrw.u32 (h:qrw w B A n c l) (hd:∀ k,B<=k->D k):U32 w D A n c l:=⟨h.1.row.sub λk _ hk=>hd k hk,h.2⟩
end
section
variable {P:Program} {w:World} {K:Value->World->Prop}
end
end Go.Proofs.YtpbaikoblfcmdaaGreatDoor
namespace Go.E
def sgn (b:Bool) (m:Nat):Int:=if b then -(m:Int) else m
def q19 (b:Bool) (m:Nat):(sgn b m).natAbs=m:=by unfold sgn; split <;> omega
def qaR (b:Bool) (m:Nat):decide (sgn b m < 0)=(b && decide (0 < m)):=by
 unfold sgn; cases b <;> simp
def q08 (z:Int):sgn (decide (z < 0)) z.natAbs=z:=by
 unfold sgn; by_cases h:z < 0 <;> simp [h] <;> omega
end Go.E
namespace Go.Sp
open Go.E
def q5U {l:List Nat} {i:Nat} (h:l.length<=i):l.getD i 0=0:=by simp [y1,zT h]
def vts (l:List Nat) (i:Nat):val (l.take (i+1))=val (l.take i)+B ^ i*l.getD i 0:=by
 rcases zR i l.length with h | h
 ·exact q1n l i h
 ·rw [q0G l (i+1) Oq,q0G l i h,q5U h]; simp
def q8W {o:List Nat} {i c x y A:Nat} (hl:o.length=i) (h:val o+B ^ i*c=A):val (o ++ [(c+x+y) % B])+B ^ (i+1)*((c+x+y) / B)=A+B ^ i*x+B ^ i*y:=by
 rw [q24,hl,<- h,zE];have:=xU (c+x+y) B;have h2:B ^ i*((c+x+y) % B)+B ^ i*B*((c+x+y) / B)=B ^ i*(c+x+y):=by
  rw [zB,<- zD,this]
 rw [zD,zD] at h2;omega
def qb0 {o:List Nat} {i br x y U V t:Nat} (hl:o.length=i) (h:val o+V=U+B ^ i*br) (hbr:br<=1) (hx:x < 4294967296) (hy:y < 4294967296)
  (ht:t=((x+(18446744073709551616-br)) % 18446744073709551616+(18446744073709551616-y)) % 18446744073709551616) :
  val (o ++ [t % 4294967296])+(V+B ^ i*y)=U+B ^ i*x+B ^ (i+1)*(t / 9223372036854775808)/\t / 9223372036854775808<=1:=by
 have key:x+t / 9223372036854775808*4294967296=t % 4294967296+br+y/\t / 9223372036854775808<=1:=by omega
 refine ⟨?_,key.2⟩;rw [q24,hl,zE];have h2:B ^ i*(x+t / 9223372036854775808*4294967296)=B ^ i*(t % 4294967296+br+y):=by rw [key.1]
 rw [zD,zD,zD] at h2;have h3:B ^ i*B*(t / 9223372036854775808)=B ^ i*(t / 9223372036854775808*4294967296):=by
  rw [zB,zF B]; rfl
 omega
def q2k (x y:Nat):Int:=if x < y then -1 else if x=y then 0 else 1
def qbH:B=2 ^ 32:=rfl
def q2L {c m k:Nat} (hc:c < 2 ^ k):c ||| m*2 ^ k=c+m*2 ^ k:=by
 rw [vE,zF,<- Nat.two_pow_add_eq_or_of_lt hc];omega
def qiu {o:List Nat} {i c x k V:Nat} (hl:o.length=i) (h:val o+B ^ i*c=2 ^ k*V) :
  val (o ++ [(c+x*2 ^ k) % 4294967296])+B ^ (i+1)*((c+x*2 ^ k) / 4294967296)=2 ^ k*(V+B ^ i*x):=by
 have:=q8W (x:=x*2 ^ k) (y:=0) hl h;have e:B ^ i*(x*2 ^ k)=2 ^ k*(B ^ i*x):=by rw [zF x,z0]
 rw [yW,xK,yW,e,<- zD] at this;exact this
def qod {X k:Nat} (hk:k<=32):(X / 2 ^ k) % 4294967296=(X % 18446744073709551616 / 2 ^ k) % 4294967296:=by
 have e:18446744073709551616=2 ^ k*(2 ^ (32-k)*4294967296):=by
  rw [<- zB,<- zJ,show k+(32-k)=32 by omega]
 rw [e,Nat.mod_mul_right_div_self,Nat.mod_mul_left_mod]
def q1j (l:List Nat) (i:Nat):val (l.drop i)=l.getD i 0+B*val (l.drop (i+1)):=by
 rcases zR i l.length with h | h
 ·rw [xY h,val,q0s h]
 ·rw [xL h,xL Oq,q5U h]; rfl
def q25 {l:List Nat} (h:q03 l) (z:Nat):val (l.drop z)=val l / B ^ z:=by
 rcases Nat.le_total z l.length with hz | hz
 ·rw [q1N l z hz];have h1:=q1f (h.take z);rw [zV,yT hz] at h1;rw [y6 _ _ (q45 z),yO h1,zW]
 ·have h1:=q1f h;have h2:B ^ l.length<=B ^ z:=zN q1I hz;rw [xL hz,yO (by omega)]; rfl
def q2J {l:List Nat} (h:q03 l) (z:Nat):val (l.take z)=val l % B ^ z:=by
 rcases Nat.le_total z l.length with hz | hz
 ·have h1:=q1f (h.take z);rw [zV,yT hz] at h1;have:=q1N l z hz;rw [this,yD,zG h1]
 ·have h1:=q1f h;have h2:B ^ l.length<=B ^ z:=zN q1I hz;rw [yN hz,zG (by omega)]
def qb8 {o l:List Nat} {j i k V:Nat} (hk:k<=32) (ha:q03 l) (hl:o.length=j) (h:val o+B ^ j*(val (l.drop i) / 2 ^ k)=V) :
  val (o ++ [(l.getD i 0+l.getD (i+1) 0*4294967296) / 2 ^ k % 4294967296])+B ^ (j+1)*(val (l.drop (i+1)) / 2 ^ k)=V:=by
 have h0:=ha.get i;have h1:=ha.get (i+1);unfold B at h0 h1;have e1:=q1j l i;have e2:=q1j l (i+1);have e3:val (l.drop i) % 18446744073709551616=l.getD i 0+l.getD (i+1) 0*4294967296:=by
  unfold B at e1 e2; omega
 have e4:val (l.drop i) / 2 ^ k / 4294967296=val (l.drop (i+1)) / 2 ^ k:=by
  rw [xM,zF,<- xM]
  congr 1
  unfold B at e1; omega
 rw [q24,hl,<- e3,<- qod hk,<- e4,zE,y0,zB,<- zD];have:B*(val (l.drop i) / 2 ^ k / 4294967296)=4294967296*(val (l.drop i) / 2 ^ k / 4294967296):=rfl;rw [this,xU];exact h
def qcD {l:List Nat} (ha:q03 l) (z k:Nat) (hk:k<=32):val l % 2 ^ (32*z+k)=0 ↔ (val (l.take z)=0/\l.getD z 0 % 2 ^ k=0):=by
 have e1:val l / B ^ z % 2 ^ k=l.getD z 0 % 2 ^ k:=by
  rw [<- q25 ha,q1j,qbH,show 2 ^ 32=2 ^ k*2 ^ (32-k) by rw [<- zJ]; congr 1; omega,zB,yD]
 rw [zJ,wP,<- qbH,x5,e1,<- q2J ha];have:=q45 z
 constructor
 ·intro h;have h1:val (l.take z)=0:=by omega
  refine ⟨h1,?_⟩;rw [h1,zW] at h
  rcases xD.1 h with h | h
  ·omega
  ·exact h
 ·rintro ⟨h1,h2⟩; rw [h1,h2]; simp
def qcE {l:List Nat} (ha:q03 l) (z k:Nat) (h:l.length<=z):val l % 2 ^ (32*z+k)=val l:=by
 have h1:=q1f ha;have h2:B ^ l.length<=B ^ z:=zN q1I h;have h3:B ^ z<=2 ^ (32*z+k):=by rw [qbH,<- wP]; exact zN Oq Oq
 exact zG Oq
def q36:∀ {o:List Nat} {p:Nat} (d:Nat),p < o.length->val (o.set p d)+B ^ p*o.getD p 0=val o+B ^ p*d
 | [],p,d,h=>by simp at h
 | x :: o,0,d,_=>by simp [val]; omega
 | x :: o,p+1,d,h=>by
  have ih:=q36 (o:=o) (p:=p) d (by simpa using h);simp only [List.set_cons_succ,val,List.getD_cons_succ,zE];have e1:B ^ p*B*o.getD p 0=B*(B ^ p*o.getD p 0):=by rw [zF (B ^ p) B,zB]
  have e2:B ^ p*B*d=B*(B ^ p*d):=by rw [zF (B ^ p) B,zB]
  rw [e1,e2,y0,y0,<- zD,<- zD,ih]
def qby {o:List Nat} {p c x y V:Nat} (hp:p < o.length) (h:val o+B ^ p*c=V) :
  val (o.set p ((c+x*y+o.getD p 0) % 4294967296))+B ^ (p+1)*((c+x*y+o.getD p 0) / 4294967296)=V+B ^ p*(x*y):=by
 have h1:=q36 (o:=o) (p:=p) ((c+x*y+o.getD p 0) % 4294967296) hp;have h2:B ^ p*((c+x*y+o.getD p 0) % 4294967296)+B ^ (p+1)*((c+x*y+o.getD p 0) / 4294967296)=B ^ p*c+B ^ p*(x*y)+B ^ p*o.getD p 0:=by
  rw [zE,zB,<- zD,<- zD,<- zD]
  congr 1
  exact xU _ 4294967296
 omega
def q9L {c x y z:Nat} (hc:c < 4294967296) (hx:x < 4294967296) (hy:y < 4294967296) (hz:z < 4294967296):c+x*y+z < 18446744073709551616/\x*y < 18446744065119617026:=by
 have:x*y<=4294967295*4294967295:=Nat.mul_le_mul Oq Oq;omega
def q0r {o:List Nat} {p q d:Nat} (h:q≠p):(o.set p d).getD q 0=o.getD q 0:=by
 simp only [zI];rw [wQ (λe=>h e.symm)]
def shI (z n:Int):Int:=if 0<=n then z*2 ^ n.toNat else z / 2 ^ (-n).toNat
def qg6 (v p:Nat) (hp:0 < p):(-(v:Int)) / (p:Int) = -((v / p:Nat):Int)-(if v % p≠0 then 1 else 0):=by
 have h:=yA v p;have hr:=zZ v hp;have h':(p:Int)*((v / p:Nat):Int)+((v % p:Nat):Int)=(v:Int):=by
  rw [<- wH,<- Int.natCast_add,h]
 generalize v / p=q at *;generalize hrr:v % p=r at *
 by_cases h0:r=0
 ·rw [if_neg (by simpa using h0)];refine ((wR (by omega:(0:Int) < p) (r:=0)).2 ⟨?_,by omega,by omega⟩).1;rw [Int.sub_zero,vF]; omega
 ·rw [if_pos h0];refine ((wR (by omega:(0:Int) < p) (r:=(p:Int)-r)).2 ⟨?_,by omega,by omega⟩).1;rw [Int.mul_sub,vF,Int.mul_one]; omega
def q09 (k:Nat):((2 ^ k:Nat):Int)=(2:Int) ^ k:=by simp
def qoi (v k:Nat):(-(v:Int)) / (2:Int) ^ k = -((v / 2 ^ k:Nat):Int)-(if v % 2 ^ k≠0 then 1 else 0):=by
 rw [<- q09]; exact qg6 v (2 ^ k) (x4 Oq)
def bl (n:Nat):Nat:=if n=0 then 0 else Nat.log2 n+1
def q2e (n:Nat):n < 2 ^ bl n:=by
 unfold bl; split
 ·omega
 ·exact Nat.lt_log2_self
def q8S {n:Nat} (h:n≠0):2 ^ (bl n-1)<=n:=by
 unfold bl; rw [if_neg h]; exact Nat.log2_self_le h
def q0f:bl 0=0:=rfl
def qhk {n k:Nat} (h1:n < 2 ^ k) (h2:k=0\/2 ^ (k-1)<=n):bl n=k:=by
 by_cases h0:n=0
 ·subst h0
  rcases h2 with h2 | h2
  ·rw [h2]; rfl
  ·have:=x4 (n:=k-1) (show 0 < 2 by omega); omega
 ·have a:=q2e n;have b:=q8S h0;have c:bl n≠0:=by unfold bl; rw [if_neg h0]; omega
  have d:k≠0:=by intro e; subst e; simp at h1; omega
  have h2:=h2.resolve_left d;have e1:=(yI (a:=2) Oq).1 (yF b h1);have e2:=(yI (a:=2) Oq).1 (yF h2 a);omega
def qcg {n k:Nat} (h:2 ^ k<=n):bl n=k+bl (n / 2 ^ k):=by
 have hp:=x4 (n:=k) (show 0 < 2 by omega);have h0:n / 2 ^ k≠0:=by have:=wM h hp; omega
 have a:=q2e (n / 2 ^ k);have b:=q8S h0;have c:bl (n / 2 ^ k)≠0:=by unfold bl; rw [if_neg h0]; omega
 refine qhk ?_ (.inr ?_)
 ·rw [zJ,zF];exact (xO hp).1 a
 ·rw [show k+bl (n / 2 ^ k)-1=k+(bl (n / 2 ^ k)-1) by omega,zJ,zF];exact (wK hp).1 b
def q0z {m n:Nat} (h:m<=n):bl m<=bl n:=by
 by_cases h0:m=0
 ·subst h0; simp [q0f]
 ·have a:=q8S h0;have b:=q2e n;have:=(yI (a:=2) Oq).1 (yF (zL a h) b);omega
def q0P {n k:Nat} (h:n < 2 ^ k):bl n<=k:=by
 by_cases h0:n=0
 ·subst h0; simp [q0f]
 ·have:=(yI (a:=2) Oq).1 (yF (q8S h0) h);omega
def q7O {n:Nat} (h:n≠0):bl n=32*((lim n).length-1)+bl ((lim n).getD ((lim n).length-1) 0):=by
 have hp:=q0L.2 h;have h1:2 ^ (32*((lim n).length-1))=B ^ ((lim n).length-1):=by rw [qbH,<- wP]
 have h2:n / B ^ ((lim n).length-1)=(lim n).getD ((lim n).length-1) 0:=by
  have:=q25 (q0D n) ((lim n).length-1);rw [q0E] at this;rw [<- this,q1j,show (lim n).length-1+1=(lim n).length by omega,List.drop_length]; simp [val]
 rw [<- h2,<- h1];exact qcg (by rw [h1]; exact q3O h)
end Go.Sp
namespace Go.E
open Go
section
variable {P:Program} {w:World} {K:Value->World->Prop} {D:Nat->Prop}
def qa4 {k g t':Nat} {cs:Array Value} (hb:Blk w g t' cs) (hs:cs.size=k):ldV w (some (some k)) (.pointer (some ⟨g,0,none⟩))=some (.agg cs):=by
 simp only [ldV,hb.rdAll hs];simp
def Dx.ne {a b k g:Nat} (h:Dx D a b k) (h1:a<=g) (h2:g < b):k≠g:=λe=>by subst e; exact Dx.not h1 h2 h
end
end Go.E
namespace Go.Proofs.YtpbaikoblfcmdaaGreatDoor
open Go Go.E Go.Sp
def Big (w:World) (D:Nat->Prop) (s:Bool) (A:Option Addr) (n c:Nat) (z:Int):Prop:=s=decide (z < 0)/\U32 w D A n c (lim z.natAbs)
section
variable {w w':World} {D D':Nat->Prop} {A:Option Addr} {n c B:Nat} {l:List Nat} {s:Bool} {z:Int}
def Big.kp (h:Big w D s A n c z) (k:Kp D w w'):Big w' D s A n c z:=⟨h.1,h.2.kp k⟩
def Big.ext (h:Big w D s A n c z) (k:Ext w w'):Big w' D s A n c z:=⟨h.1,h.2.ext k⟩
def Big.sub (h:Big w D s A n c z) (hs:∀ k,k < w.heap.size->D k->D' k):Big w D' s A n c z:=⟨h.1,h.2.sub hs⟩
def Big.len (h:Big w D s A n c z):(lim z.natAbs).length=n:=h.2.len
def Big.sgn (h:Big w D s A n c z):sgn s z.natAbs=z:=by rw [h.1,q08]
end
def Dx.keep {D:Nat->Prop} {w:World} {a b:Nat} (ha:a=w.heap.size):∀ k,k < w.heap.size->D k->Dx D a b k:=λ_ hk hd=>Dx.lt hd Oq
end Go.Proofs.YtpbaikoblfcmdaaGreatDoor
namespace Go.E
open Go
section
variable {P:Program} {t:TypeId} {k':IntKind} {a b:Nat}
def q92 (a b:Nat):Int.fdiv (a:Int) (b:Int)=((a / b:Nat):Int):=by
 rw [Int.fdiv_eq_ediv_of_nonneg _ (Int.natCast_nonneg b)]; rfl
def qiq:q1A P .shr t (.int .u64 (a:Int)) (.int k' 32)=some (.int .u64 ((a / 4294967296:Nat):Int)):=by
 rw [q2G,if_neg (by omega)];exact congrArg (λx=>some (Value.int .u64 x)) (q92 a 4294967296)
def qio:q1A P .shr t (.int .u64 (a:Int)) (.int k' 63)=some (.int .u64 ((a / 9223372036854775808:Nat):Int)):=by
 rw [q2G,if_neg (by omega)];exact congrArg (λx=>some (Value.int .u64 x)) (q92 a 9223372036854775808)
def qof:q1A P .shr t (.int .u32 (a:Int)) (.int k' 8)=some (.int .u32 ((a / 256:Nat):Int)):=by
 rw [q2G,if_neg (by omega)];exact congrArg (λx=>some (Value.int .u32 x)) (q92 a 256)
def qis:q1A P .shr t (.int .u32 (a:Int)) (.int k' 16)=some (.int .u32 ((a / 65536:Nat):Int)):=by
 rw [q2G,if_neg (by omega)];exact congrArg (λx=>some (Value.int .u32 x)) (q92 a 65536)
def qir:q1A P .shr t (.int .u32 (a:Int)) (.int k' 27)=some (.int .u32 ((a / 134217728:Nat):Int)):=by
 rw [q2G,if_neg (by omega)];exact congrArg (λx=>some (Value.int .u32 x)) (q92 a 134217728)
def w32N:IntKind.u32.wrap (a:Int)=((a % 4294967296:Nat):Int):=by rw [q26]; omega
def qy0 (h:a+b < 18446744073709551616):IntKind.u64.wrap ((a:Int)+(b:Int))=((a+b:Nat):Int):=by rw [q0p]; omega
def q5B (hb:b < 18446744073709551616):IntKind.u64.wrap ((a:Int)-(b:Int))=(((a+(18446744073709551616-b)) % 18446744073709551616:Nat):Int):=by rw [q0p]; omega
def id64N (h:a < 18446744073709551616):IntKind.u64.wrap (a:Int)=(a:Int):=by rw [q0p]; omega
def qvJ (h:a*b < 18446744073709551616):IntKind.u64.wrap ((a:Int)*(b:Int))=((a*b:Nat):Int):=by rw [q0p,<- wH]; omega
def i64N (h:a < 9223372036854775808):IntKind.i64.wrap (a:Int)=(a:Int):=by rw [qjl]; omega
end
def q30 {n x:Nat}:(BitVec.ofInt n (x:Int))=BitVec.ofNat n x:=by simp
def qdW {a b:Nat} (ha:a < 18446744073709551616) (hb:b < 18446744073709551616):q0m .or .u64 (a:Int) (b:Int)=((a ||| b:Nat):Int):=by
 have h:a ||| b < 2 ^ 64:=Nat.or_lt_two_pow ha hb;have h2:(BitVec.ofInt 64 (a:Int) ||| BitVec.ofInt 64 (b:Int)).toNat=a ||| b:=by
  rw [q30,q30,BitVec.toNat_or,BitVec.toNat_ofNat,BitVec.toNat_ofNat,zG ha,zG hb]
 show IntKind.u64.wrap ((BitVec.ofInt 64 (a:Int) ||| BitVec.ofInt 64 (b:Int)).toNat:Int)=_
 rw [h2,q0p]; omega
def or32N {a b:Nat} (ha:a < 4294967296) (hb:b < 4294967296):q0m .or .u32 (a:Int) (b:Int)=((a ||| b:Nat):Int):=by
 have h:a ||| b < 2 ^ 32:=Nat.or_lt_two_pow ha hb;have h2:(BitVec.ofInt 32 (a:Int) ||| BitVec.ofInt 32 (b:Int)).toNat=a ||| b:=by
  rw [q30,q30,BitVec.toNat_or,BitVec.toNat_ofNat,BitVec.toNat_ofNat,zG ha,zG hb]
 show IntKind.u32.wrap ((BitVec.ofInt 32 (a:Int) ||| BitVec.ofInt 32 (b:Int)).toNat:Int)=_
 rw [h2,q26]; omega
def q4Z {a b:Nat} (ha:a < 18446744073709551616) (hb:b < 18446744073709551616):q0m .and .u64 (a:Int) (b:Int)=((a &&& b:Nat):Int):=by
 have h:a &&& b < 2 ^ 64:=Nat.and_lt_two_pow a hb;have h2:(BitVec.ofInt 64 (a:Int) &&& BitVec.ofInt 64 (b:Int)).toNat=a &&& b:=by
  rw [q30,q30,BitVec.toNat_and,BitVec.toNat_ofNat,BitVec.toNat_ofNat,zG ha,zG hb]
 show IntKind.u64.wrap ((BitVec.ofInt 64 (a:Int) &&& BitVec.ofInt 64 (b:Int)).toNat:Int)=_
 rw [h2,q0p]; omega
def qcm {a b:Nat} (ha:a < 4294967296) (hb:b < 4294967296):q0m .and .u32 (a:Int) (b:Int)=((a &&& b:Nat):Int):=by
 have h:a &&& b < 2 ^ 32:=Nat.and_lt_two_pow a hb;have h2:(BitVec.ofInt 32 (a:Int) &&& BitVec.ofInt 32 (b:Int)).toNat=a &&& b:=by
  rw [q30,q30,BitVec.toNat_and,BitVec.toNat_ofNat,BitVec.toNat_ofNat,zG ha,zG hb]
 show IntKind.u32.wrap ((BitVec.ofInt 32 (a:Int) &&& BitVec.ofInt 32 (b:Int)).toNat:Int)=_
 rw [h2,q26]; omega
section
variable {P:Program} {t:TypeId} {k':IntKind} {a b:Nat}
def qey (hb:b<=64):q1A P .shl t (.int .u64 (a:Int)) (.int k' (b:Int))=some (.int .u64 ((a*2 ^ b % 18446744073709551616:Nat):Int)):=by
 rw [qaw,if_neg (by omega)];have:min (b:Int).toNat IntKind.u64.bits=b:=by simp [IntKind.bits]; omega
 rw [this,q0p]
 congr 2
def qmN (hb:b<=32):q1A P .shl t (.int .u32 (a:Int)) (.int k' (b:Int))=some (.int .u32 ((a*2 ^ b % 4294967296:Nat):Int)):=by
 rw [qaw,if_neg (by omega)];have:min (b:Int).toNat IntKind.u32.bits=b:=by simp [IntKind.bits]; omega
 rw [this,q26]
 congr 2
def quL (hb:b<=64):q1A P .shr t (.int .u64 (a:Int)) (.int k' (b:Int))=some (.int .u64 ((a / 2 ^ b:Nat):Int)):=by
 rw [q2G,if_neg (by omega)];have:min (b:Int).toNat IntKind.u64.bits=b:=by simp [IntKind.bits]; omega
 rw [this];have:=q92 a (2 ^ b);rw [<- this]; simp
def quk (h:a < 9223372036854775808):q1A P .quo t (.int .i64 (a:Int)) (.int .i64 32)=some (.int .i64 ((a / 32:Nat):Int)):=by
 rw [qhn,if_neg (by omega)];have:Int.tdiv (a:Int) 32=((a / 32:Nat):Int):=rfl;rw [this,i64_in Oq (by omega)]
def que:q1A P .rem t (.int .i64 (a:Int)) (.int .i64 32)=some (.int .i64 ((a % 32:Nat):Int)):=by
 rw [qhm,if_neg (by omega)]; rfl
end
section
variable {P:Program} {t:TypeId} {k':IntKind} {a b:Nat}
def qiv:q1A P .shl t (.int .u64 (a:Int)) (.int k' 32)=some (.int .u64 ((a*4294967296 % 18446744073709551616:Nat):Int)):=qey (b:=32) Oq
def qog (hb:b < 32):q1A P .shl t (.int .u32 1) (.int k' (b:Int))=some (.int .u32 ((2 ^ b:Nat):Int)):=by
 have:=qmN (P:=P) (t:=t) (k':=k') (a:=1) (b:=b) Oq;rw [yB,zG (show 2 ^ b < 4294967296 from wS Oq hb)] at this;exact this
def qel (h:0 < a) (h2:a < 4294967296):IntKind.u32.wrap ((a:Int)-1)=((a-1:Nat):Int):=by rw [q26]; omega
end
attribute [go_sem high] qiv qog qdW or32N q4Z qcm qey qmN quL quk que
def beqN {a b:Nat}:((a:Int) == (b:Int))=decide (a=b):=by rw [Bool.eq_iff_iff,beq_iff_eq,decide_eq_true_eq]; omega
def bneN {a b:Nat}:((a:Int) != (b:Int))=decide (a≠b):=by rw [Bool.eq_iff_iff,bne_iff_ne,decide_eq_true_eq]; omega
def bne0 {a:Nat}:((a:Int) != 0)=decide (a≠0):=bneN (b:=0)
def beq0 {a:Nat}:((a:Int) == 0)=decide (a=0):=beqN (b:=0)
def qmb {k:IntKind} {a b:Int}:mmV true [.int k a,.int k b]=some (.int k (max a b)):=by simp [mmV]
def qma {k:IntKind} {a b:Int}:mmV false [.int k a,.int k b]=some (.int k (min a b)):=by simp [mmV]
attribute [go_sem high] qmb qma
attribute [go_sem high] qof qis qir qiq qio w32N qy0 qvJ id64N
end Go.E
namespace Go.Proofs.YtpbaikoblfcmdaaGreatDoor
open Go Go.E Go.Sp




def qfA (s s':Bool) (a b:Nat):sgn s a*sgn s' b=sgn (s != s') (a*b):=by
 cases s <;> cases s' <;> simp [sgn,vG,vF]
end Go.Proofs.YtpbaikoblfcmdaaGreatDoor
namespace Go.E
open Go
def qcz {P:Program} {d:Option Nat} {t ty:TypeId} {x i:Operand} {pos:String} {af:Array Edge} {g:Option (Nat × Bool)} {e:Env} {w:World} {K:Value->World->Prop} {s:ByteArray} {k:IntKind} {n:Nat}
  (ht:P.underlying t=some .string) (hx:ev e x=.string s) (hi:ev e i=.int k n) (hn:n < s.size) (hK:K (.int .u8 s[n].toNat) w):wo P ⟨d,.index t x i,ty,pos,af,g⟩ e w K:=by
 show WO P ⟨d,.index t x i,ty,pos,af,g⟩ e w K
 unfold WO;have:(execOp (ev e) ⟨d,.index t x i,ty,pos,af,g⟩).run P w=(.ok (.value (.int .u8 s[n].toNat)) w):=by
  simp only [execOp,hx,hi];simp [go_sem,run_index_string,ht,hn]
 rw [this];exact hK
end Go.E
namespace Go.Proofs.YtpbaikoblfcmdaaGreatDoor
open Go Go.E Go.Sp
def qs2:ByteArray:=⟨(((List.range 256).map λi=>UInt8.ofNat (bl i))).toArray⟩
def q9R:qs2.size=256:=by kernel_rfl
def qj4:((List.range 256).all λi=>y2 ((qs2.data.toList.getD i 0).toNat) (bl i))=true:=by kernel_rfl
def qj3 {y:Nat} (h:y < qs2.size):qs2[y].toNat=bl y:=by
 have h1:=qj4;rw [zM] at h1;have h2:=zO (h1 y (z4.2 (by rw [q9R] at h; exact h)));rw [<- h2]
 congr 1
 have:y < qs2.data.toList.length:=by simpa using h
 rw [zI,zC this];simp
 rfl
def qcG {x:Nat} {w:World} (hx:x < 4294967296) :
  Calls Tryz.prog 307 #[.int .u32 x] w λe w'=>e=.returned (.int .i64 (bl x:Nat))/\w=w':=by
 refine q65 Tryz.func307 rfl Tryz.ntmps307 (by kernel_rfl) ?_;refine Wz ?_;refine qbB λK1 hK1=>?_;have st1:∀ (e1:Env) (a y:Nat),y < 65536->a+bl y=bl x->a<=16->e1 0=.int .u32 y->e1 2=.int .i64 a->K1 e1 w:=by
  intro e1 a y hy hab ha h0 h2;refine hK1 _ _ ?_; clear hK1;refine qbB λK1 hK1=>?_;have st2:∀ (e1:Env) (a y:Nat),y < 256->a+bl y=bl x->a<=24->e1 0=.int .u32 y->e1 2=.int .i64 a->K1 e1 w:=by
   intro e1 a y hy hab ha h0 h2;refine hK1 _ _ ?_; clear hK1;have hw:IntKind.u8.wrap (y:Int)=(y:Int):=u8_in Oq Oq;refine q1R λK hK=>?_
   set_option maxRecDepth 4000 in
   refine Zz3 h0 h2 hw ?_;refine qcz (s:=qs2) (by kernel_rfl) (by kernel_rfl) rfl (by rw [q9R]; exact hy) ?_;rw [qj3];have hby:bl y<=8:=q0P Oq;have hs:IntKind.i64.wrap ((a:Int)+(bl y:Int))=(bl x:Int):=by rw [i64_in Oq (by omega)]; omega
   simp -implicitDefEqProofs (disch:=omega) only [go_sem,Nat.reduceEqDiff,Nat.reduceAdd,↓reduceIte,i64N,hs];refine hK _ _ ?_; clear hK;refine ql0 ?_
   try simp only [qaJ,qp9]
   refine ret1 rfl ⟨rfl,rfl⟩
  by_cases hb:256<=y
  ·have hb':((y:Int) ≥ 256):=by omega
   refine Wz2 h0 hb' ?_;refine Wt ?_;refine Wz1 h0 ?_;refine qn4 λK9 hK9=>?_;refine Zz2 h2 @i64_in ?_;refine hK9 _ _ ?_; clear hK9 K9;have h8:bl y=8+bl (y / 256):=qcg (n:=y) (k:=8) hb;exact st2 _ (a+8) (y / 256) Oq Oq Oq Ue Ue
  ·have hb':¬ ((y:Int) ≥ 256):=by omega
   refine Wz2 h0 hb' ?_;refine Wf (qcn ?_);exact st2 _ a y Oq hab Oq Ue Ue
 by_cases hb:65536<=x
 ·have hb':((x:Int) ≥ 65536):=by omega
  refine Wz1 hb' ?_;refine Wt ?_;refine Wz ?_;refine qn4 λK9 hK9=>?_;refine Zz ?_;refine hK9 _ _ ?_; clear hK9 K9;have h8:bl x=16+bl (x / 65536):=qcg (n:=x) (k:=16) hb;exact st1 _ 16 (x / 65536) Oq Oq Oq Ue Ue
 ·have hb':¬ ((x:Int) ≥ 65536):=by omega
  refine Wz1 hb' ?_;refine Wf (qcn ?_);exact st1 _ 0 x Oq Oq Oq Ue Ue


end Go.Proofs.YtpbaikoblfcmdaaGreatDoor
namespace Go.Sp
open Go.E
def q0H (k:Nat):0 < 2 ^ k:=x4 Oq
def tzF:Nat->Nat->Nat
 | 0,_=>0
 | f+1,n=>if n % 2=1 then 0 else tzF f (n / 2)+1
def tz (n:Nat):Nat:=if n=0 then 0 else tzF n n
def qbT:∀ (f n:Nat),n≠0->n<=f->∃ q,q % 2=1/\n=q*2 ^ tzF f n
 | 0,n,h,hf=>by omega
 | f+1,n,h,hf=>by
  unfold tzF
  by_cases ho:n % 2=1
  ·rw [if_pos ho]; exact ⟨n,ho,by simp⟩
  ·rw [if_neg ho];obtain ⟨q,hq,he⟩:=qbT f (n / 2) Oq Oq;refine ⟨q,hq,?_⟩;rw [zE,<- zB,<- he]; omega
def q2n {n:Nat} (h:n≠0):∃ q,q % 2=1/\n=q*2 ^ tz n:=by
 unfold tz; rw [if_neg h]; exact qbT n n h (yJ _)
def qbv:∀ {a b q r:Nat},q % 2=1->r % 2=1->q*2 ^ a=r*2 ^ b->a=b
 | 0,0,_,_,_,_,_=>rfl
 | 0,b+1,q,r,hq,hr,h=>by
  rw [zE,<- zB,yX,z9] at h;generalize r*2 ^ b=x at h; omega
 | a+1,0,q,r,hq,hr,h=>by
  rw [zE,<- zB,yX,z9] at h;generalize q*2 ^ a=x at h; omega
 | a+1,b+1,q,r,hq,hr,h=>by
  rw [zE,zE,<- zB,<- zB] at h;have:=qbv hq hr (xW Oq h);omega
def q74 {n q k:Nat} (hq:q % 2=1) (h:n=q*2 ^ k):tz n=k:=by
 have h0:n≠0:=by
  rintro rfl;have:=q0H k
  rcases xD.1 h.symm with h | h <;> omega
 obtain ⟨r,hr,he⟩:=q2n h0;exact qbv hr hq (he.symm.trans h)
def qbS {n:Nat} (h:n % 2=1):tz n=0:=q74 h (by simp)
def qlj {n:Nat} (h:n≠0) (k:Nat):tz (n*2 ^ k)=tz n+k:=by
 obtain ⟨q,hq,he⟩:=q2n h;refine q74 hq ?_;rw [zJ,<- zB,<- he]
def q4V {n:Nat} (h:n≠0):0 < bl n:=by unfold bl; rw [if_neg h]; omega
def q1P {n:Nat} (h:n≠0) (k:Nat):bl (n*2 ^ k)=bl n+k:=by
 have a:=q2e n;have b:=q8S h;have c:=q4V h;refine qhk ?_ (.inr ?_)
 ·rw [zJ]; exact Nat.mul_lt_mul_of_pos_right a (q0H k)
 ·rw [show bl n+k-1=(bl n-1)+k by omega,zJ]; exact zK _ b
def q2E (a b:Nat):bl (a*b)<=bl a+bl b:=by
 refine q0P ?_;rw [zJ];exact Nat.mul_lt_mul_of_lt_of_le (q2e a) (xA (q2e b)) (q0H _)
def q69 {a b k:Nat} (ha:bl a<=k) (hb:bl b<=k):bl (a+b)<=k+1:=by
 refine q0P ?_;have h1:=q2e a;have h2:=q2e b;have h3:2 ^ bl a<=2 ^ k:=zN Oq ha;have h4:2 ^ bl b<=2 ^ k:=zN Oq hb;rw [zE]; omega
def q1k {n k:Nat} (h:bl n<=k):n < 2 ^ k:=z7 (q2e n) (zN Oq h)
def q9g {n k:Nat}:bl n<=k ↔ n < 2 ^ k:=⟨q1k,q0P⟩
def qic {n:Nat} (h:n≠0):tz n < bl n:=by
 obtain ⟨q,hq,he⟩:=q2n h;have h1:bl n=bl q+tz n:=by
  have:=q1P (n:=q) Oq (tz n)
  rwa [<- he] at this
 have:=q4V (n:=q) Oq;omega
def q9Q (n:Nat):(lim n).length=(bl n+31) / 32:=by
 by_cases h:n=0
 ·subst h; rfl
 ·have h1:=q7O h;have h2:=q4F h;have h3:=(q0D n).get ((lim n).length-1);have h4:=q4V h2;have h5:bl ((lim n).getD ((lim n).length-1) 0)<=32:=q0P h3;have h6:=q0L.2 h;omega
def q75 {x:Nat} (h:x≠0) (hx:x < 4294967296):tz x < 32:=by
 have:=qic h;have:bl x<=32:=q0P hx;omega
def qli {l:List Nat} {i:Nat} (ha:q03 l) (hi:i < l.length) (h0:val (l.take i)=0) (hd:l.getD i 0≠0):tz (val l)=32*i+tz (l.getD i 0):=by
 have h1:=q1N l i Oq;rw [h0,zW,q1j] at h1;obtain ⟨q,hq,he⟩:=q2n hd;have hk:=q75 hd (ha.get i);refine q74 (q:=q+2 ^ (32-tz (l.getD i 0))*val (l.drop (i+1))) ?_ ?_
 ·rw [show 32-tz (l.getD i 0)=(31-tz (l.getD i 0))+1 by omega,zE,zF (2 ^ _) 2,zB];omega
 ·rw [h1];have e1:B ^ i=2 ^ (32*i):=by rw [qbH,<- wP]
  have e2:B=2 ^ (32-tz (l.getD i 0))*2 ^ tz (l.getD i 0):=by rw [<- zJ,qbH]; congr 1; omega
  rw [e1,zJ,yY];generalize val (l.drop (i+1))=X;generalize hk':tz (l.getD i 0)=k at *;rw [he,e2];generalize 2 ^ (32-k)=Y;generalize 2 ^ k=Z;generalize 2 ^ (32*i)=U;simp only [zD,z0,zF]
def q4z {l:List Nat} {i:Nat}:(val (l.take (i+1))=0) ↔ (val (l.take i)=0/\l.getD i 0=0):=by
 have hB:=q45 i;have hv:val (l.take (i+1))=val (l.take i)+B ^ i*l.getD i 0:=by
  rcases zR i l.length with h | h
  ·exact q1n l i h
  ·rw [q0G l (i+1) Oq,q0G l i h,q5U h]; simp
 rw [hv,wX,xD]
 constructor
 ·rintro ⟨a,b⟩; exact ⟨a,by omega⟩
 ·rintro ⟨a,b⟩; exact ⟨a,.inr b⟩
def od (m:Int):Int:=m / (2:Int) ^ tz m.natAbs
def q0M (k:Nat):0 < (2:Int) ^ k:=by rw [<- q09]; exact_mod_cast q0H k
def q7E (k:Nat):((2:Int) ^ k).natAbs=2 ^ k:=by rw [<- q09]; rfl
def q0J (m:Int) (k:Nat):(m*(2:Int) ^ k).natAbs=m.natAbs*2 ^ k:=by rw [wT,q7E]
def q14 (m:Int):od m*(2:Int) ^ tz m.natAbs=m:=by
 unfold od
 by_cases h:m=0
 ·subst h; simp
 ·obtain ⟨q,hq,he⟩:=q2n (n:=m.natAbs) Oq;refine Int.ediv_mul_cancel ?_;rw [<- q09];exact Int.ofNat_dvd_left.2 ⟨q,by rw [zF]; exact he⟩
def q04:od 0=0:=by simp [od]
def q3c {m:Int} (h:m≠0):od m≠0:=λh0=>h (by rw [<- q14 m,h0]; simp)
def q7C (m:Int):(od m).natAbs*2 ^ tz m.natAbs=m.natAbs:=by
 rw [<- q0J,q14]
def qfe {m:Int} (h:m≠0):(od m).natAbs % 2=1:=by
 obtain ⟨q,hq,he⟩:=q2n (n:=m.natAbs) Oq;have:=xW (q0H _) ((q7C m).trans he);rw [this]; exact hq
def qjQ {m o:Int} {k:Nat} (ho:o.natAbs % 2=1) (h:m=o*(2:Int) ^ k):od m=o/\tz m.natAbs=k:=by
 have h1:tz m.natAbs=k:=q74 ho (by rw [h,q0J]);refine ⟨?_,h1⟩;unfold od;rw [h1,h,wY _ (xN (q0M k))]
def qjP {m:Int} (k:Nat):od (m*(2:Int) ^ k)=od m:=by
 by_cases h:m=0
 ·subst h; simp
 ·refine (qjQ (k:=tz m.natAbs+k) (qfe h) ?_).1;rw [wU,<- x8,q14]
def q1w (m:Int):decide (od m < 0)=decide (m < 0):=by
 have h1:=q14 m;have h2:=q0M (tz m.natAbs);rw [decide_eq_decide]
 constructor
 ·intro h; rw [<- h1]; exact yS h h2
 ·intro h
  rcases w9 (od m) 0 with h3 | h3
  ·exact h3
  ·have:=wV h3 (vA h2);omega
def qav {m:Int} (h:m≠0):bl (od m).natAbs+tz m.natAbs=bl m.natAbs:=by
 have:=q1P (n:=(od m).natAbs) (by have:=q3c h; omega) (tz m.natAbs);rw [q7C] at this;exact this.symm
def q8x (a:Int) (k:Nat):shI (a*(2:Int) ^ k) (-(k:Int))=a:=by
 unfold shI
 split
 ·rename_i h0;have:k=0:=by omega
  subst this; simp
 ·rw [show (- -(k:Int)).toNat=k by omega];exact wY _ (xN (q0M k))
def quN (m:Int):shI (m.natAbs:Int) (-((tz m.natAbs:Nat):Int))=((od m).natAbs:Nat):=by
 have h1:=q7C m;generalize tz m.natAbs=k at *;rw [<- h1,wH,q09,q8x]
def qoh (m:Int):shI m (-((tz m.natAbs:Nat):Int))=od m:=by
 have h1:=q14 m;generalize tz m.natAbs=k at *;generalize od m=q at *;rw [<- h1,q8x]
def dyE (V:Int):Int:=if V=0 then 0 else (tz V.natAbs:Int)-65536
def q0Q (V:Int):Prop:=bl V.natAbs<=131072
def mkV (m e:Int):Option Int:=if m=0 then some 0 else if -65536<=e+tz m.natAbs/\e+bl m.natAbs<=65536 then some (od m*(2:Int) ^ (e+tz m.natAbs+65536).toNat) else none
def q15 (e:Int):mkV 0 e=some 0:=by simp [mkV]
def q57 {m e V:Int} (hm:m≠0) (h:mkV m e=some V) : -65536<=e+tz m.natAbs/\e+bl m.natAbs<=65536/\V=od m*(2:Int) ^ (e+tz m.natAbs+65536).toNat:=by
 unfold mkV at h;rw [if_neg hm] at h
 split at h
 ·rename_i hc; exact ⟨hc.1,hc.2,(zH.inj h).symm⟩
 ·cases h
def q3X {m e V:Int} (h:mkV m e=some V):od V=od m/\(m≠0->V≠0/\dyE V=e+tz m.natAbs)/\(m=0->V=0)/\q0Q V:=by
 by_cases hm:m=0
 ·subst hm;rw [q15] at h;obtain rfl:=zH.inj h;exact ⟨rfl,λh=>absurd rfl h,λ_=>rfl,by simp [q0Q,q0f]⟩
 ·obtain ⟨h1,h2,h3⟩:=q57 hm h;obtain ⟨h4,h5⟩:=qjQ (qfe hm) h3;have h6:V≠0:=λh0=>by
   rw [h0,q04] at h4; exact q3c hm h4.symm
  refine ⟨h4,λ_=>⟨h6,?_⟩,λh=>absurd h hm,?_⟩
  ·unfold dyE; rw [if_neg h6,h5]; omega
  ·unfold q0Q;have h7:=qav h6;have h8:=qav hm;rw [h4,h5] at h7;omega
def q1x {m e:Int} (k:Nat):mkV (m*(2:Int) ^ k) e=mkV m (e+k):=by
 by_cases hm:m=0
 ·subst hm; simp [mkV]
 ·have hm':m*(2:Int) ^ k≠0:=xE hm (xN (q0M k));unfold mkV;rw [if_neg hm,if_neg hm',q0J,qlj Oq,q1P Oq,qjP];have e1:e+((tz m.natAbs+k:Nat):Int)=e+k+tz m.natAbs:=by omega
  have e2:e+((bl m.natAbs+k:Nat):Int)=e+k+bl m.natAbs:=by omega
  rw [e1,e2]
def q2N {V:Int} (h:q0Q V):mkV V (-65536)=some V:=by
 by_cases h0:V=0
 ·subst h0; exact q15 _
 ·unfold mkV q0Q at *;rw [if_neg h0,if_pos (by omega)];rw [show (-65536+(tz V.natAbs:Int)+65536).toNat=tz V.natAbs by omega,q14]
def qcB {V:Int} (h:q0Q V):mkV (od V) (dyE V)=some V:=by
 by_cases h0:V=0
 ·subst h0; rw [q04]; exact q15 _
 ·have h1:=q1x (m:=od V) (e := -65536) (tz V.natAbs);rw [q14,q2N h] at h1;unfold dyE;rw [if_neg h0,h1,Int.add_comm]; rfl
def q2V {V E:Int} (hE : -65536<=E) (hv:E<=dyE V):od V*(2:Int) ^ (dyE V-E).toNat*(2:Int) ^ (E+65536).toNat=V:=by
 by_cases h0:V=0
 ·subst h0; rw [q04]; simp
 ·unfold dyE at *;rw [if_neg h0] at *;rw [x8,<- wU,show ((tz V.natAbs:Int)-65536-E).toNat+(E+65536).toNat=tz V.natAbs by omega,q14]
def q4E {m V E:Int} (hE : -65536<=E) (h:m*(2:Int) ^ (E+65536).toNat=V):mkV m E=mkV V (-65536):=by
 rw [<- h,q1x]; congr 1; omega
def q7K {V:Int} : -65536<=dyE V:=by unfold dyE; split <;> omega
def q7J {V:Int} (h:q0Q V):dyE V+bl (od V).natAbs<=65536:=by
 unfold dyE q0Q at *
 split
 ·rename_i h0; subst h0; rw [q04]; simp [q0f]
 ·rename_i h0; have:=qav h0; omega
def q2d {V:Int} (h:q0Q V):bl (od V).natAbs<=131072:=by
 by_cases h0:V=0
 ·subst h0; rw [q04]; simp [q0f]
 ·have:=qav h0; unfold q0Q at h; omega
def qff (V:Int):od (-V) = -od V:=by
 by_cases h0:V=0
 ·subst h0; simp [q04]
 ·refine (qjQ (k:=tz V.natAbs) (by rw [wL]; exact qfe h0) ?_).1;rw [vG,q14]
def qak (V:Int):dyE (-V)=dyE V:=by unfold dyE; simp [Int.neg_eq_zero]
def qkp {V:Int} (h:q0Q V):q0Q (-V):=by unfold q0Q at *; rwa [wL]
def qft (a b:Int):mkV (od a*od b) (dyE a+dyE b)=mkV (a*b) (-131072):=by
 by_cases ha:a=0
 ·subst ha; rw [q04]; simp [mkV]
 ·by_cases hb:b=0
  ·subst hb; rw [q04]; simp [mkV]
  ·have:a*b=od a*od b*(2:Int) ^ (tz a.natAbs+tz b.natAbs):=by
    rw [wU];have h1:=q14 a;have h2:=q14 b;generalize (2:Int) ^ tz a.natAbs=x at *;generalize (2:Int) ^ tz b.natAbs=y at *;generalize od a=p at *;generalize od b=q at *;rw [<- h1,<- h2];simp only [x8,Int.mul_left_comm,Int.mul_comm]
   rw [this,q1x];unfold dyE;rw [if_neg ha,if_neg hb]; congr 1; omega
def rq (mode:Int) (neg:Bool) (N D:Nat):Nat :=
 if N % D=0 then N / D
 else if mode=1 then (if neg then N / D+1 else N / D)
 else if mode=2 then (if neg then N / D else N / D+1)
 else if mode=3 then N / D
 else if D < 2*(N % D)\/(2*(N % D)=D/\N / D % 2=1) then N / D+1 else N / D
def lgq (N D:Nat):Int:=(bl (N*2 ^ bl D / D):Int)-1-bl D
def rat (mode:Int) (neg:Bool) (N D:Nat) (q:Int):Nat:=rq mode neg (N*2 ^ (-q).toNat) (D*2 ^ q.toNat)
def sb (neg:Bool) (x:Nat):Nat:=if neg then x+9223372036854775808 else x
def qaY (mode:Int) (neg:Bool):Nat:=if mode=3\/(mode=1/\neg=false)\/(mode=2/\neg=true) then sb neg 9218868437227405311 else sb neg 9218868437227405312
def q5F (mode:Int) (neg:Bool) (n:Nat) (q:Int):Nat :=
 if n < 4503599627370496 then sb neg n else if 2047<=q+1075 then qaY mode neg else sb neg ((q+1075).toNat*4503599627370496+(n-4503599627370496))
def fin (mode:Int) (neg:Bool) (n:Nat) (q:Int):Nat:=if n=9007199254740992 then q5F mode neg 4503599627370496 (q+1) else q5F mode neg n q
def qgE (N D:Nat):Int:=max (lgq N D-52) (-1074)
def rF (mode:Int) (neg:Bool) (N D:Nat):Nat:=fin mode neg (rat mode neg N D (qgE N D)) (qgE N D)
def ofF (f:Nat):Option Int :=
 if f / 4503599627370496 % 2048=2047 then none
 else if f / 4503599627370496 % 2048=0 then some (sgn (decide (9223372036854775808<=f)) (f % 4503599627370496)*(2:Int) ^ 64462)
 else some (sgn (decide (9223372036854775808<=f)) (4503599627370496+f % 4503599627370496)*(2:Int) ^ (64461+f / 4503599627370496 % 2048))
def qxh {q b:Nat} (hq:q≠0) (hb:b < 2):bl (2*q+b)=bl q+1:=by
 have:=qcg (n:=2*q+b) (k:=1) Oq;rw [this,show (2*q+b) / 2 ^ 1=q by omega]; omega
def qp2 {N D:Nat} (hD:0 < D) (h:D<=N):bl (N*2 / D)=bl (N / D)+1:=by
 have h1:=yA N D;have h2:=zZ N hD;have h3:N / D≠0:=by have:=wM h hD; omega
 have h4:N*2 / D=2*(N / D)+2*(N % D) / D:=by
  have e:N*2=2*(N % D)+D*(2*(N / D)):=by
   have:D*(2*(N / D))=2*(D*(N / D)):=by rw [z0]
   omega
  rw [e,y6 _ _ hD]; omega
 rw [h4];refine qxh h3 ?_;rw [xO hD]; omega
def qd2 {N D:Nat} (hD:0 < D) (h:D<=N):∀ k,bl (N*2 ^ k / D)=bl (N / D)+k
 | 0=>by simp
 | k+1=>by
  have h2:D<=N*2 ^ k:=zL h (xG _ (q0H k));rw [zE,<- zB,qp2 hD h2,qd2 hD h k]; omega
def qgD {N D k:Nat} (hD:0 < D) (h:D<=N*2 ^ k):lgq N D=(bl (N*2 ^ k / D):Int)-1-k:=by
 have hN:N≠0:=by rintro rfl; simp at h; omega
 have h1:D<=N*2 ^ bl D:=zL (xA (q2e D)) (wD _ Oq);have a:=qd2 hD h (bl D);have b:=qd2 hD h1 k;rw [zB,<- zJ] at a b;rw [wE k] at a;unfold lgq; omega
def qgC {N D c:Nat} (hN:0 < N) (hD:0 < D) (hc:0 < c):lgq (N*c) (D*c)=lgq N D:=by
 have h1:D<=N*2 ^ bl D:=zL (xA (q2e D)) (wD _ hN);have h2:D*c<=N*c*2 ^ bl D:=by rw [yG]; exact zK _ h1
 rw [qgD (zQ hD hc) h2,qgD hD h1,yG,xP _ _ hc]
def q3v {mode:Int} {neg:Bool} {N D c:Nat} (hc:0 < c):rq mode neg (N*c) (D*c)=rq mode neg N D:=by
 have e1:(N*c % (D*c)=0)=(N % D=0):=by
  rw [xQ,xD]; simp only [eq_iff_iff]; constructor
  ·rintro (h | h) <;> omega
  ·exact λh=>.inl h
 have e2:(D*c < 2*(N*c % (D*c)))=(D < 2*(N % D)):=by
  rw [xQ,<- zB]; simp only [eq_iff_iff];exact Nat.mul_lt_mul_right hc
 have e3:(2*(N*c % (D*c))=D*c)=(2*(N % D)=D):=by
  rw [xQ,<- zB]; simp only [eq_iff_iff];exact Nat.mul_left_inj Oq
 unfold rq;simp only [e1,e2,e3,xP _ _ hc]
def q3M {mode:Int} {neg:Bool} {N D c:Nat} (hN:0 < N) (hD:0 < D) (hc:0 < c):rF mode neg (N*c) (D*c)=rF mode neg N D:=by
 unfold rF rat qgE;rw [qgC hN hD hc,yG N c,yG D c,q3v hc]
def q55 {mode:Int} {neg:Bool} {N D N' D':Nat} (hN:0 < N) (hD:0 < D) (hN':0 < N') (hD':0 < D') (h:N*D'=N'*D):rF mode neg N D=rF mode neg N' D':=by
 rw [<- q3M (c:=D') hN hD hD',h,zF D D',q3M hN' hD' hD]
def qvS {N D:Nat} (e:Int) (hD:0 < D) (h:D<=N):lgq (N*2 ^ e.toNat) (D*2 ^ (-e).toNat)=e+bl (N / D)-1:=by
 have h1:D*2 ^ (-e).toNat<=N*2 ^ e.toNat*2 ^ (-e).toNat:=zK _ (zL h (xG _ (q0H _)));rw [qgD (zQ hD (q0H _)) h1,xP _ _ (q0H _),qd2 hD h];omega
def qox {mode:Int} {neg:Bool} {N D:Nat} (e q:Int):rat mode neg (N*2 ^ e.toNat) (D*2 ^ (-e).toNat) q=rq mode neg (N*2 ^ (e-q).toNat) (D*2 ^ (q-e).toNat):=by
 unfold rat;rw [zB,zB,<- zJ,<- zJ]
 rcases vB q e with h | h
 ·have e1:e.toNat+(-q).toNat=(e-q).toNat+((-e).toNat+q.toNat):=by omega
  have e2:(q-e).toNat=0:=by omega
  rw [e1,e2,yX,z9,zJ 2 (e-q).toNat,<- zB];exact q3v (q0H _)
 ·have e1:(-e).toNat+q.toNat=(q-e).toNat+(e.toNat+(-q).toNat):=by omega
  have e2:(e-q).toNat=0:=by omega
  rw [e1,e2,yX,z9,zJ 2 (q-e).toNat,<- zB];exact q3v (q0H _)
def q3w {mode:Int} {neg:Bool} {N D:Nat} (h:N % D=0):rq mode neg N D=N / D:=by unfold rq; rw [if_pos h]
def quY {mode:Int} {neg:Bool} {N:Nat}:rq mode neg N 1=N:=by rw [q3w (Nat.mod_one N),vH]
def quZ {mode:Int} {neg:Bool} {N D:Nat}:rq mode neg N D<=N / D+1:=by unfold rq; (repeat' split) <;> omega
def rE (mode:Int) (neg:Bool) (N D:Nat) (e:Int):Nat:=rF mode neg (N*2 ^ e.toNat) (D*2 ^ (-e).toNat)
def qdT {mode:Int} {neg:Bool} {N D:Nat} {e:Int} (hD:0 < D) (h:D<=N) :
  rE mode neg N D e=fin mode neg (rq mode neg (N*2 ^ (e-max (e+bl (N / D)-53) (-1074)).toNat) (D*2 ^ (max (e+bl (N / D)-53) (-1074)-e).toNat)) (max (e+bl (N / D)-53) (-1074)):=by
 unfold rE rF qgE;rw [qvS e hD h,qox,show e+(bl (N / D):Int)-1-52=e+bl (N / D)-53 by omega]
def qao (N D k:Nat):N / (D*2 ^ k)=N / D / 2 ^ k:=(xM N D (2 ^ k)).symm
def qqa (N D k:Nat):N % (D*2 ^ k)=D*(N / D % 2 ^ k)+N % D:=by rw [x5]; omega
def qa8 (N D k:Nat):Int:=if 0 < k/\N / D / 2 ^ (k-1) % 2=1 then (if N % D≠0\/N / D % 2 ^ (k-1)≠0 then 1 else 0) else -1
def upS (mode:Int) (neg:Bool) (half:Int) (odd:Bool):Bool:=if mode=1 then neg else if mode=2 then !neg else if mode=3 then false else (decide (0 < half) || (decide (half=0) && odd))
def qoq {mode:Int} {neg:Bool} {N D k:Nat} (hD:0 < D) (hk:N % D≠0->0 < k):rq mode neg N (D*2 ^ k) =
  N / D / 2 ^ k+(if (N / D % 2 ^ k≠0\/N % D≠0)/\upS mode neg (qa8 N D k) (decide (N / D / 2 ^ k % 2=1))=true then 1 else 0):=by
 have h2:=zZ N hD
 rcases yH k with h0 | h0
 ·subst h0;have hr:N % D=0:=by
   rcases yH (N % D) with h | h
   ·exact h
   ·have:=hk (by omega); omega
  rw [yX,z9,q3w hr,Nat.mod_one,hr]; simp
 have hp:2 ^ k=2 ^ (k-1)*2:=by rw [<- zE]; congr 1; omega
 have hp0:=q0H (k-1);have hs:=x5 (x:=N / D) (a:=2 ^ (k-1)) (b:=2);rw [<- hp] at hs;have hs':=zZ (N / D) hp0;have hb2:N / D / 2 ^ (k-1) % 2 < 2:=zZ _ Oq;unfold rq qa8;rw [qao,qqa];generalize N / D / 2 ^ k=Q;simp only [h0,true_and];generalize N / D % 2 ^ k=s at *;generalize N / D % 2 ^ (k-1)=s' at *;generalize N / D / 2 ^ (k-1) % 2=b at *;generalize N % D=r at *;rw [hp];generalize 2 ^ (k-1)=h at *;have e0:(D*s+r=0)=(s=0/\r=0):=by
  rw [eq_iff_iff,wX,xD]
  constructor
  ·rintro ⟨a | a,c⟩
   ·omega
   ·exact ⟨a,c⟩
  ·rintro ⟨a,c⟩; exact ⟨.inr a,c⟩
 have e1:D*(h*2)=2*(D*h):=by rw [zF h 2,z0]
 have key:∀ a b:Nat,a < b->D*a+D<=D*b:=λa b hab=>by rw [<- wC]; exact zS _ hab
 simp only [e0,e1]
 by_cases hz:s=0/\r=0
 ·obtain ⟨rfl,rfl⟩:=hz;simp
 ·have hz':s≠0\/r≠0:=by omega
  simp only [hz,hz',if_false,true_and];unfold upS
  by_cases m1:mode=1
  ·simp only [m1,if_true]; cases neg <;> rfl
  by_cases m2:mode=2
  ·simp only [m1,m2,if_false,if_true]; cases neg <;> rfl
  by_cases m3:mode=3
  ·simp only [m1,m2,m3,if_false,if_true]; rfl
  simp only [m1,m2,m3,if_false]
  by_cases hb:b=1
  ·subst hb;have hss:D*s=D*h+D*s':=by rw [hs,z9,wE,zD]
   simp only [if_true]
   by_cases hc:r≠0\/s'≠0
   ·have:0 < D*s'+r:=by
     rcases hc with hc | hc
     ·omega
     ·have:=zQ hD (show 0 < s' by omega); omega
    rw [if_pos (.inl Oq),if_pos hc]; simp
   ·have hr0:r=0:=by omega
    have hs0:s'=0:=by omega
    subst hr0; subst hs0;rw [xK,yW] at hss;rw [hss]
    by_cases ho:Q % 2=1 <;> simp [ho]
  ·have hsl:s=s':=by
    have:b=0:=by omega
    rw [hs,this]; simp
   have:=key s h Oq;have c1:¬ (2*(D*h) < 2*(D*s+r)):=by omega
   have c2:¬ (2*(D*s+r)=2*(D*h)):=by omega
   simp [c1,c2,hb]
def qjK {mode:Int} {neg:Bool} {N D:Nat} {e q:Int} (hD:0 < D) (h:D<=N) (hq:e+bl (N / D)-53<=q):rq mode neg (N*2 ^ (e-q).toNat) (D*2 ^ (q-e).toNat)<=9007199254740992:=by
 have h53:(2:Nat) ^ 53=9007199254740992:=by decide
 refine zL quZ ?_;rw [qao];have h1:=qd2 hD h (e-q).toNat;have h2:=q2e (N*2 ^ (e-q).toNat / D);rw [h1] at h2
 rcases vB q e with hqe | hqe
 ·rw [show (q-e).toNat=0 by omega,yX,vH];have:2 ^ (bl (N / D)+(e-q).toNat)<=2 ^ 53:=zN Oq Oq;omega
 ·have:N*2 ^ (e-q).toNat / D / 2 ^ (q-e).toNat < 2 ^ 53:=by
   rw [xO (q0H _),<- zJ];exact z7 h2 (zN Oq Oq)
  omega
def qok {neg:Bool} {x:Nat} (h:x < 9223372036854775808):sb neg x < 18446744073709551616:=by unfold sb; split <;> omega
def qpN {mode:Int} {neg:Bool}:qaY mode neg < 18446744073709551616:=by unfold qaY; split <;> exact qok Oq
def qgr {mode:Int} {neg:Bool} {n:Nat} {q:Int} (hn:n < 9007199254740992):q5F mode neg n q < 18446744073709551616:=by
 unfold q5F
 split
 ·exact qok Oq
 ·split
  ·exact qpN
  ·refine qok ?_;have:(q+1075).toNat<=2046:=by omega
   omega
def qvu {mode:Int} {neg:Bool} {n:Nat} {q:Int} (hn:n<=9007199254740992):fin mode neg n q < 18446744073709551616:=by
 unfold fin
 split
 ·exact qgr Oq
 ·exact qgr Oq
def qui {mode:Int} {neg:Bool} {N D:Nat} {e:Int} (hD:0 < D) (h:D<=N):rE mode neg N D e < 18446744073709551616:=by
 rw [qdT hD h]; exact qvu (qjK hD h Oq)
def q5c {mode:Int} {neg:Bool} {n:Nat} {q:Int} (hn:n < 9007199254740992) (hq : -1074<=q) (hq2:q+1075 < 2047) (h:q = -1074\/4503599627370496<=n) :
  ofF (q5F mode neg n q)=some (sgn neg n*(2:Int) ^ (q+65536).toNat):=by
 unfold q5F
 by_cases h1:n < 4503599627370496
 ·rw [if_pos h1];have hq':q = -1074:=by omega
  subst hq';unfold ofF sb;cases neg
  ·rw [if_neg (by simp; omega),if_pos (by simp; omega)];simp only [w7,if_false];rw [decide_eq_false Oq,zG h1]; rfl
  ·rw [if_neg (by simp; omega),if_pos (by simp; omega)];simp only [if_true];rw [decide_eq_true Oq,show (n+9223372036854775808) % 4503599627370496=n by omega]; rfl
 ·rw [if_neg h1,if_neg (by omega)];obtain ⟨x,hx⟩:∃ x:Nat,x=(q+1075).toNat:=⟨_,rfl⟩;rw [<- hx];have hx1:1<=x:=by omega
  have hx2:x<=2046:=by omega
  have hqx:(q+65536).toNat=64461+x:=by omega
  rw [hqx];unfold ofF sb;cases neg
  ·simp only [w7,if_false];have e1:(x*4503599627370496+(n-4503599627370496)) / 4503599627370496 % 2048=x:=by omega
   rw [e1,if_neg Oq,if_neg Oq,decide_eq_false Oq,show 4503599627370496+(x*4503599627370496+(n-4503599627370496)) % 4503599627370496=n by omega]
  ·simp only [if_true];have e1:(x*4503599627370496+(n-4503599627370496)+9223372036854775808) / 4503599627370496 % 2048=x:=by omega
   rw [e1,if_neg Oq,if_neg Oq,decide_eq_true Oq,show 4503599627370496+(x*4503599627370496+(n-4503599627370496)+9223372036854775808) % 4503599627370496=n by omega]
def qbn {mode:Int} {neg:Bool} {N D M:Nat} {f:Int} (hD:0 < D) (hM:0 < M) (hb:bl M<=53) (h1 : -1074<=f) (h2:f+bl M<=1024) (h:N*2 ^ (-f).toNat=D*M*2 ^ f.toNat) :
  ofF (rF mode neg N D)=some (sgn neg M*(2:Int) ^ (f+65536).toNat)/\rF mode neg N D < 18446744073709551616:=by
 have hN:0 < N:=by
  rcases yH N with h0 | h0
  ·subst h0;have a:=zQ (zQ hD hM) (q0H f.toNat);omega
  ·exact h0
 have e0:rF mode neg N D=rE mode neg M 1 f:=by
  unfold rE;refine q55 hN hD (zQ hM (q0H _)) (zQ Oq (q0H _)) ?_;rw [yB,h,zF D M,yG]
 refine ⟨?_,by rw [e0]; exact qui Oq Oq⟩;rw [e0,qdT Oq Oq,vH];obtain ⟨q,hq⟩:∃ q:Int,q=max (f+bl M-53) (-1074):=⟨_,rfl⟩;rw [<- hq,show (q-f).toNat=0 by omega,yX,z9,quY];have hbn:=q1P (n:=M) Oq (f-q).toNat;obtain ⟨n,hn⟩:∃ n,n=M*2 ^ (f-q).toNat:=⟨_,rfl⟩;rw [<- hn] at hbn ⊢;have hn53:n < 2 ^ 53:=q1k Oq;have h53:(2:Nat) ^ 53=9007199254740992:=by decide
 unfold fin;rw [if_neg Oq,q5c Oq Oq Oq ?_]
 ·rw [hn]
  congr 1
  have:sgn neg (M*2 ^ (f-q).toNat)=sgn neg M*(2:Int) ^ (f-q).toNat:=by
   rw [<- q09]; cases neg <;> simp [sgn,vG]
  rw [this,x8,<- wU]
  congr 2; omega
 ·rcases vB (f+bl M-53) (-1074) with hc | hc
  ·left; omega
  ·right
   have hne:n≠0:=by rw [hn]; exact Nat.ne_of_gt (zQ hM (q0H _))
   have:=q8S hne;have h52:(2:Nat) ^ 52=4503599627370496:=by decide
   rw [show bl n-1=52 by omega] at this;omega
end Go.Sp
namespace Go.E
open Go
structure Fam where
 p:(Nat->Prop)->Value->World->Prop
 kp:∀ {D:Nat->Prop} {w w':World} {v:Value},Kp D w w'->p D v w->p D v w'
 sub:∀ {D D':Nat->Prop} {w:World} {v:Value},(∀ k,k < w.heap.size->D k->D' k)->p D v w->p D' v w
def In (G:Fam) (D:Nat->Prop) (v:Value) (w:World):Prop:=G.p D v w
section
variable {G:Fam} {D D':Nat->Prop} {v:Value} {w w':World}
def In.kp (h:In G D v w) (k:Kp D w w'):In G D v w':=G.kp k h
def In.ext (h:In G D v w) (k:Ext w w'):In G D v w':=G.kp (Kp.of_ext k) h
def In.sub (h:In G D v w) (k:∀ k,k < w.heap.size->D k->D' k):In G D' v w:=G.sub k h
def In.all (h:In G D v w):In G (λ_=>True) v w:=G.sub (λ_ _ _=>trivial) h
def In.st (h:In G (Dx D w.heap.size w'.heap.size) v w) (k:Ext w w'):In G (Dx D w.heap.size w'.heap.size) v w':=h.ext k
def Fam.S (G:Fam) (D:Nat->Prop):q43 (Kp λ_=>True):=⟨In G D,λ_ _ _ k h=>h.ext k⟩
def Rt (G:Fam) (D:Nat->Prop) (w:World):Ending->World->Prop:=λe w'=>∃ v,e=.returned v/\Ext w w'/\In G D v w'
def Cr {P:Program} {f:FuncId} {args:List Value} {G:Fam} {D:Nat->Prop} {w:World} {K:Value->World->Prop} (hc:q0I P f=true) (h:Calls P f args.toArray w (Rt G D w)) (k:∀ v w',Ext w w'->In G D v w'->K v w'):q9e P f args w K:=q8P hc h λx w' ⟨v,h1,h2,h3⟩=>⟨v,h1,k v w' h2 h3⟩
def In.own {w1 w2:World} {g a b:Nat} (h:In G (Dx D a b) v w1) (k:Kp (λk=>k≠g) w1 w2) (h1:a<=g) (h2:g < b):In G (Dx D a b) v w2:=h.kp (k.mono λ_ _ h=>Dx.ne h h1 h2)
def In.un {a b:Nat} (h:In G (Dx D a b) v w):In G D v w:=h.sub λ_ _ h=>h.1
end
def Dl (D:Nat->Prop) (L:List Nat):Nat->Prop:=λk=>D k/\k ∉ L
section
variable {G:Fam} {D:Nat->Prop} {L:List Nat} {v:Value} {w w0 w1 w2:World} {g:Nat}
def In.ow (h:In G (Dl D L) v w1) (k:Kp (λk=>k≠g) w1 w2) (hg:g ∈ L):In G (Dl D L) v w2:=h.kp (k.mono λj _ hj e=>hj.2 (e ▸ hg))
def In.ul (h:In G (Dl D L) v w):In G D v w:=h.sub λ_ _ h=>h.1
def Fr.ow (h:Fr D w1) (k:Kp (λk=>k≠g) w1 w2):Fr D w2:=h.kp k
def Kp.all (h:Kp (λk=>k ∉ ([]:List Nat)) w w1):Ext w w1:=h.mono λ_ _ _=>by simp
def In.wk (h:In G (Dl D (g :: L)) v w):In G (Dl D L) v w:=h.sub λ_ _ h=>⟨h.1,λhm=>h.2 (zP _ hm)⟩
def Fr.wk (h:Fr (Dl D (g :: L)) w):Fr (Dl D L) w:=λk hk=>⟨(h k hk).1,λhm=>(h k hk).2 (zP _ hm)⟩
def Rt.fin (hx:Ext w w0) (h:In G (Dl D L) v w0) (k:Kp (λk=>k≠g) w0 w1) (hg:g ∈ L) (hw:w.heap.size<=g):Rt G D w (.returned v) w1 :=
 ⟨v,rfl,hx.under k λk hk=>by omega,(h.ow k hg).ul⟩
def Rt.fin1 (hx:Ext w w0) (h:In G D v w0):Rt G D w (.returned v) w0:=⟨v,rfl,hx,h⟩
end
section
variable {w:World} {g t:Nat} {a b c d e f h i:Value} {l:List Value}
def Blk.c0 (hb:Blk w g t ⟨a :: l⟩):w.cell? ⟨g,0,none⟩=some a:=hb.cell 0
def Blk.c1 (hb:Blk w g t ⟨a :: b :: l⟩):w.cell? ⟨g,1,none⟩=some b:=hb.cell 1
def Blk.c2 (hb:Blk w g t ⟨a :: b :: c :: l⟩):w.cell? ⟨g,2,none⟩=some c:=hb.cell 2
def Blk.c3 (hb:Blk w g t ⟨a :: b :: c :: d :: l⟩):w.cell? ⟨g,3,none⟩=some d:=hb.cell 3
def Blk.c4 (hb:Blk w g t ⟨a :: b :: c :: d :: e :: l⟩):w.cell? ⟨g,4,none⟩=some e:=hb.cell 4
def Blk.c5 (hb:Blk w g t ⟨a :: b :: c :: d :: e :: f :: l⟩):w.cell? ⟨g,5,none⟩=some f:=hb.cell 5
def Blk.c6 (hb:Blk w g t ⟨a :: b :: c :: d :: e :: f :: h :: l⟩):w.cell? ⟨g,6,none⟩=some h:=hb.cell 6
def Blk.c7 (hb:Blk w g t ⟨a :: b :: c :: d :: e :: f :: h :: i :: l⟩):w.cell? ⟨g,7,none⟩=some i:=hb.cell 7
def Blk.l2 (hb:Blk w g t ⟨[a,b]⟩):ldV w (some (some 2)) (.pointer (some ⟨g,0,none⟩))=some (.agg #[a,b]):=qa4 hb rfl
def Blk.l3 (hb:Blk w g t ⟨[a,b,c]⟩):ldV w (some (some 3)) (.pointer (some ⟨g,0,none⟩))=some (.agg #[a,b,c]):=qa4 hb rfl
def Blk.l4 (hb:Blk w g t ⟨[a,b,c,d]⟩):ldV w (some (some 4)) (.pointer (some ⟨g,0,none⟩))=some (.agg #[a,b,c,d]):=qa4 hb rfl
end
def Rt.own {G:Fam} {D:Nat->Prop} {v:Value} {w w0 w1:World} {g a b:Nat} (hx:Ext w w0) (h:In G (Dx D a b) v w0) (k:Kp (λk=>k≠g) w0 w1) (h1:a<=g) (h2:g < b) (hw:w.heap.size<=g):Rt G D w (.returned v) w1 :=
 ⟨v,rfl,hx.under k λk hk=>by omega,(h.own k h1 h2).un⟩
end Go.E
namespace Go.Proofs.YtpbaikoblfcmdaaGreatDoor
open Go Go.E Go.Sp
def fB (z:Int):Fam:=⟨λD v w=>∃ s A n c,v=.agg #[.bool s,.slice A n c]/\Big w D s A n c z,λk ⟨s,A,n,c,e,h⟩=>⟨s,A,n,c,e,h.kp k⟩,λk ⟨s,A,n,c,e,h⟩=>⟨s,A,n,c,e,h.sub k⟩⟩
def fU (l:List Nat):Fam:=⟨λD v w=>∃ A n c,v=.slice A n c/\U32 w D A n c l,λk ⟨A,n,c,e,h⟩=>⟨A,n,c,e,h.kp k⟩,λk ⟨A,n,c,e,h⟩=>⟨A,n,c,e,h.sub k⟩⟩
def fV (V:Int):Fam:=⟨λD v w=>∃ s A n c,v=.agg #[.bool false,.bool s,.slice A n c,.int .i64 (dyE V)]/\Big w D s A n c (od V)/\q0Q V,λk ⟨s,A,n,c,e,h,o⟩=>⟨s,A,n,c,e,h.kp k,o⟩,λk ⟨s,A,n,c,e,h,o⟩=>⟨s,A,n,c,e,h.sub k,o⟩⟩
section
variable {D:Nat->Prop} {v:Value} {w w':World} {z V m e:Int} {l:List Nat} {s:Bool} {A:Option Addr} {n c:Nat}
def Big.in (h:Big w D s A n c z):In (fB z) D (.agg #[.bool s,.slice A n c]) w:=⟨s,A,n,c,rfl,h⟩
def U32.in (h:U32 w D A n c l):In (fU l) D (.slice A n c) w:=⟨A,n,c,rfl,h⟩
def Big.own {w1 w2:World} {g a b:Nat} (h:Big w1 (Dx D a b) s A n c z) (k:Kp (λk=>k≠g) w1 w2) (h1:a<=g) (h2:g < b):Big w2 (Dx D a b) s A n c z:=h.kp (k.mono λ_ _ h=>Dx.ne h h1 h2)
def Big.un {a b:Nat} (h:Big w (Dx D a b) s A n c z):Big w D s A n c z:=h.sub λ_ _ h=>h.1
def U32.own {w1 w2:World} {g a b:Nat} (h:U32 w1 (Dx D a b) A n c l) (k:Kp (λk=>k≠g) w1 w2) (h1:a<=g) (h2:g < b):U32 w2 (Dx D a b) A n c l:=h.kp (k.mono λ_ _ h=>Dx.ne h h1 h2)
end
end Go.Proofs.YtpbaikoblfcmdaaGreatDoor
namespace Go.E
open Go.Proofs.YtpbaikoblfcmdaaGreatDoor Go.Sp
section
variable {D:Nat->Prop} {v:Value} {w w':World} {z V m e:Int} {l:List Nat} {s:Bool} {A:Option Addr} {n c:Nat}
def In.big (h:In (fB z) D (.agg #[.bool s,.slice A n c]) w):Big w D s A n c z:=by
 obtain ⟨_,_,_,_,e,h⟩:=h; cases e; exact h
def In.u32 (h:In (fU l) D (.slice A n c) w):U32 w D A n c l:=by
 obtain ⟨_,_,_,e,h⟩:=h; cases e; exact h
def In.sg (h:In (fB z) D (.agg #[.bool s,.slice A n c]) w):s=decide (z < 0):=h.big.1
def In.ok (h:In (fV V) D v w):q0Q V:=by obtain ⟨_,_,_,_,_,_,h⟩:=h; exact h
end
end Go.E
namespace Go.Proofs.YtpbaikoblfcmdaaGreatDoor
open Go Go.E Go.Sp
section
variable {D:Nat->Prop} {v:Value} {w w':World} {z V m e:Int} {l:List Nat} {s:Bool} {A:Option Addr} {n c:Nat}
end
section
variable {D:Nat->Prop} {v v':Value} {w:World} {a b:Int}
end
end Go.Proofs.YtpbaikoblfcmdaaGreatDoor
namespace Go.E
open Go Go.RowKit
def q0d (vs:List Value):List Value:=vs.flatMap λv=>v.cells.toList
def Cel (sz:Nat) (v:Value):Prop:=v.cells.size=sz/\v.cells.toList.all (·.oneCell')=true
structure Els {α:Type} (G:α->Fam) (D:Nat->Prop) (sz:Nat) (w:World) (l:List α) (vs:List Value):Prop where
 len:vs.length=l.length
 get:∀ (i:Nat) (x:α),l[i]?=some x->∃ v,vs[i]?=some v/\In (G x) D v w/\Cel sz v
section
variable {α:Type} {G:α->Fam} {D D':Nat->Prop} {sz:Nat} {w w':World} {l:List α} {vs:List Value}
def Els.kp (h:Els G D sz w l vs) (k:Kp D w w'):Els G D sz w' l vs:=⟨h.len,λi x hx=>by obtain ⟨v,a,b,c⟩:=h.get i x hx; exact ⟨v,a,b.kp k,c⟩⟩
def Els.sub (h:Els G D sz w l vs) (k:∀ k,k < w.heap.size->D k->D' k):Els G D' sz w l vs:=⟨h.len,λi x hx=>by obtain ⟨v,a,b,c⟩:=h.get i x hx; exact ⟨v,a,b.sub k,c⟩⟩
def Els.nil:Els G D sz w [] []:=⟨rfl,λi x hx=>by simp at hx⟩
def Els.snoc (h:Els G D sz w l vs) {x:α} {v:Value} (hv:In (G x) D v w) (hc:Cel sz v):Els G D sz w (l ++ [x]) (vs ++ [v]):=by
 refine ⟨by simp [h.len],λi y hy=>?_⟩
 rcases zR i l.length with hi | hi
 ·rw [yR hi] at hy;obtain ⟨u,a,b⟩:=h.get i y hy;exact ⟨u,by rw [yR (by rw [h.len]; exact hi)]; exact a,b⟩
 ·rw [yQ hi] at hy;have h0:i-l.length=0:=by
   rcases yH (i-l.length) with h0 | h0
   ·exact h0
   ·rw [zT (by simp; omega)] at hy; cases hy
  rw [h0] at hy;simp only [xF,zH.injEq] at hy;subst hy;refine ⟨v,?_,hv,hc⟩;rw [yQ (by rw [h.len]; exact hi),h.len,h0]; rfl
def q5a {vs:List Value} {sz:Nat} (hv:∀ v ∈ vs,v.cells.size=sz) {i j:Nat} {v:Value} (hi:vs[i]?=some v) (hj:j < sz):(q0d vs)[i*sz+j]?=v.cells[j]?:=by
 induction vs generalizing i with
 | nil=>simp at hi
 | cons u vs ih =>
  have h1:=hv u z6;unfold q0d at *;rw [List.flatMap_cons];cases i with
  | zero =>
   simp at hi; subst hi;rw [yR (by simp; omega)]; simp
  | succ i =>
   rw [yQ (by rw [wZ,h1,Nat.succ_mul]; omega),wZ,h1];have:=ih (λx hx=>hv x (zP _ hx)) (i:=i) (by simpa using hi);rw [<- this]; congr 1; rw [Nat.succ_mul]; omega
end
def fSl {α : Type} (sz : Nat) (G : α -> Fam) (l : List α) : Fam :=
  ⟨λD v w => ∃ A n c vs, v = .slice A n c /\ Row w D sz A n c (q0d vs) /\ Els G D sz w l vs /\ l.length = n,
   λk ⟨A, n, c, vs, e, h1, h2, h3⟩ => ⟨A, n, c, vs, e, h1.kp k, h2.kp k, h3⟩,
   λk ⟨A, n, c, vs, e, h1, h2, h3⟩ => ⟨A, n, c, vs, e, h1.sub k, h2.sub k, h3⟩⟩
def fSc {α:Type} (f:α->Value) (l:List α):Fam :=
 ⟨λD v w=>∃ A n c,v=.slice A n c/\Row w D 1 A n c (l.map f),λk ⟨A,n,c,e,h⟩=>⟨A,n,c,e,h.kp k⟩,λk ⟨A,n,c,e,h⟩=>⟨A,n,c,e,h.sub k⟩⟩
section
variable {α:Type} {G:α->Fam} {f:α->Value} {D D':Nat->Prop} {sz:Nat} {w w':World} {l:List α} {vs:List Value} {A:Option Addr} {n c:Nat} {v:Value}
def In.sc_row (h:In (fSc f l) D (.slice A n c) w):Row w D 1 A n c (l.map f):=by
 obtain ⟨_,_,_,e,h⟩:=h; cases e; exact h
def In.sc_len (h:In (fSc f l) D (.slice A n c) w):l.length=n:=by have:=h.sc_row.len; simpa using this
def Row.sc (h:Row w D 1 A n c (l.map f)):In (fSc f l) D (.slice A n c) w:=⟨A,n,c,rfl,h⟩
def In.sc_nil:In (fSc f ([]:List α)) D (.slice none 0 0) w:=⟨none,0,0,rfl,Row.nil _ _ _⟩
def qmV {w:World} {p:Addr}:∀ (cs:List Value) (i:Nat),(∀ j u,cs[j]?=some u->w.cell? (p.add (i+j))=some u)->q0y w p i cs.length=some cs
 | [],_,_=>rfl
 | c :: cs,i,h=>by
  rw [y9,rd_s,show w.cell? (p.add i)=some c from h 0 c rfl,qmV cs (i+1) (λj u hu=>by rw [show i+1+j=i+(j+1) by omega]; exact h (j+1) u (by simpa using hu))]; rfl
def qcp {α:Type} (G:α->Fam) (T sz:Nat) (w:World) (D:Nat->Prop) (B:Nat) (A:Option Addr) (n c:Nat) (l:List α):Prop :=
 ∃ vs,Own w B T sz A n c (q0d vs)/\Els G (λk=>D k/\nb A k) sz w l vs/\l.length=n
variable {T B:Nat}
def qcp.nil:qcp G T sz w D B none 0 0 []:=⟨[],Own.nil _ _ _ _,Els.nil,rfl⟩
def qcp.in (h:qcp G T sz w D B A n c l) (hd:∀ k,B<=k->D k):In (fSl sz G l) D (.slice A n c) w:=by
 obtain ⟨vs,h1,h2,h3⟩:=h;exact ⟨A,n,c,vs,rfl,h1.row.sub λk _ hk=>hd k hk,h2.sub λk _ hk=>hk.1,h3⟩
def qcp.len (h:qcp G T sz w D B A n c l):l.length=n:=by obtain ⟨_,_,_,h⟩:=h; exact h
def qcp.ext (h:qcp G T sz w D B A n c l) (k:Ext w w'):qcp G T sz w' D B A n c l:=by
 obtain ⟨vs,h1,h2,h3⟩:=h;exact ⟨vs,h1.ext k,h2.kp (Kp.of_ext k),h3⟩
def qcp.kp (h:qcp G T sz w D B A n c l) {D':Nat->Prop} (k:Kp D' w w') (hd:∀ k,D k->D' k) (ha:∀ a,A=some a->D' a.block):qcp G T sz w' D B A n c l:=by
 obtain ⟨vs,h1,h2,h3⟩:=h;exact ⟨vs,h1.kp k ha,h2.kp (k.mono λj _ hj=>hd j hj.1),h3⟩
end
section
variable {P:Program} {w:World} {α:Type} {G:α->Fam}
end
end Go.E
namespace Go.Sp
def qcl (q r a b:Nat) (ha:a < 2) (hb:b < 2):(2*q+a) &&& (2*r+b)=2*(q &&& r)+(a*b):=by
 have hab:a*b < 2:=by
  rcases zR a 1 with h | h
  ·rw [show a=0 by omega]; simp
  ·rw [show a=1 by omega]; omega
 apply y7
 intro i;cases i with
 | zero =>
  rw [yK,x9,x9,x9];have e1:(2*q+a) % 2=a:=by omega
  have e2:(2*r+b) % 2=b:=by omega
  have e3:(2*(q &&& r)+a*b) % 2=a*b:=by omega
  rw [e1,e2,e3]
  rcases zR a 1 with h | h
  ·rw [show a=0 by omega]; simp
  ·rw [show a=1 by omega]; simp
 | succ i =>
  rw [yK,wA,wA,wA];have e1:(2*q+a) / 2=q:=by omega
  have e2:(2*r+b) / 2=r:=by omega
  have e3:(2*(q &&& r)+a*b) / 2=q &&& r:=by omega
  rw [e1,e2,e3,yK]
def qlT {q n:Nat} (h:q < 2 ^ n):q &&& (2 ^ n-(q+1))=0:=by
 apply y7
 intro i;rw [yK,Nat.testBit_two_pow_sub_succ h,Nat.zero_testBit];cases q.testBit i <;> simp
def iso:∀ {n x:Nat},0 < x->x < 2 ^ n->x &&& (2 ^ n-x)=2 ^ tz x
 | 0,x,h1,h2=>by simp at h2; omega
 | n+1,x,h1,h2=>by
  rw [zE] at h2
  by_cases ho:x % 2=1
  ·rw [qbS ho];have hq:x / 2 < 2 ^ n:=by omega
   have e1:x=2*(x / 2)+1:=by omega
   have e2:2 ^ (n+1)-x=2*(2 ^ n-(x / 2+1))+1:=by rw [zE]; omega
   rw [e2];generalize hy:x / 2=y at *;rw [e1,qcl _ _ 1 1 Oq Oq,qlT hq]
  ·have hq:x / 2 < 2 ^ n:=by omega
   have e1:x=2*(x / 2)+0:=by omega
   have e2:2 ^ (n+1)-x=2*(2 ^ n-x / 2)+0:=by rw [zE]; omega
   have ht:tz x=tz (x / 2)+1:=by
    have:=qlj (n:=x / 2) Oq 1
    rwa [show x / 2*2 ^ 1=x by omega] at this
   have ih:=iso (n:=n) (x:=x / 2) Oq hq;rw [ht,e2,zE,<- ih];generalize hy:x / 2=y at *;rw [e1,qcl _ _ 0 0 Oq (by omega)]; omega
def qed:List Nat:=[0,1,28,2,29,14,24,3,30,22,20,15,25,17,4,8,31,27,13,23,21,19,16,7,26,12,18,6,11,5,10,9]
def qoR:((List.range 32).all λk=>y2 (qed.getD (2 ^ k*125613361 % 4294967296 / 134217728) 99) k)=true:=by decide
def qoQ {k:Nat} (h:k < 32):qed.getD (2 ^ k*125613361 % 4294967296 / 134217728) 99=k:=by
 have:=qoR;rw [zM] at this;exact zO (this k (z4.2 h))
end Go.Sp
namespace Go.Proofs.YtpbaikoblfcmdaaGreatDoor
open Go Go.E Go.Sp
def q6h (w:World):Prop:=∀ k,k < 32->w.cell? ⟨0,k,none⟩=some (.int .u8 ((qed.getD k 99:Nat):Int))
def q6h.ext {w w':World} (h:q6h w) (k:Ext w w'):q6h w':=λi hi=>k.cell (D:=λ_=>True) trivial (h i hi)
def qxk:qdr Tryz.prog 349=some (32,1):=by kernel_rfl
def qoJ {x:Nat} {w:World} (hT:q6h w) (hx0:0 < x) (hx:x < 4294967296) :
  Calls Tryz.prog 306 #[.int .u32 x] w λe w'=>e=.returned (.int .i64 (tz x:Nat))/\w=w':=by
 refine q65 Tryz.func306 rfl Tryz.ntmps306 (by kernel_rfl) ?_;refine Wz ?_;refine qbB λK0 hK0=>?_;have h0:((x:Int) == 0)=false:=by rw [beq0]; exact decide_eq_false Oq
 refine Wz ?_;refine q9l rfl (λhc=>by rw [h0] at hc; cases hc) (λhc=>qcn (hK0 _ _ ?_));clear hK0;have ht:=q75 Oq hx;have hp:2 ^ tz x < 4294967296:=wS Oq ht;have e1:IntKind.u32.wrap (0-(x:Int))=((4294967296-x:Nat):Int):=by rw [q26]; omega
 have e2:q0m .and .u32 (x:Int) ((4294967296-x:Nat):Int)=((2 ^ tz x:Nat):Int):=by
  rw [qcm hx (by omega)];exact congrArg Nat.cast (iso (n:=32) hx0 hx)
 have e3:IntKind.u32.wrap (((2 ^ tz x:Nat):Int)*125613361)=((2 ^ tz x*125613361 % 4294967296:Nat):Int):=by rw [q26]; omega
 have hi:2 ^ tz x*125613361 % 4294967296 / 134217728 < 32:=by omega
 have e4:(0:Int)<=((2 ^ tz x*125613361 % 4294967296 / 134217728:Nat):Int)/\((2 ^ tz x*125613361 % 4294967296 / 134217728:Nat):Int) < (32:Nat):=by omega
 have hg:=hT _ hi;rw [qoQ ht] at hg;have e5:IntKind.i64.wrap ((tz x:Nat):Int)=((tz x:Nat):Int):=i64_in Oq Oq;refine q1R λK hK=>?_;simp -implicitDefEqProofs (disch:=omega) only [go_sem,Nat.reduceEqDiff,Nat.reduceAdd,↓reduceIte,e1,e2,e3,e4,qxk,hg,e5,ev];refine hK _ _ ?_; clear hK K;refine ql0 ?_
 try simp only [qaJ,qp9]
 refine ret1 rfl ⟨rfl,rfl⟩


def q1C {V:Int} (h:q0Q V) : -65536<=dyE V/\dyE V<=65536/\bl (od V).natAbs<=131072:=⟨q7K,by have:=q7J h; omega,q2d h⟩
end Go.Proofs.YtpbaikoblfcmdaaGreatDoor
namespace Go.Sp
def qez (a k:Nat):shI (a:Int) (-(k:Int))=((a / 2 ^ k:Nat):Int):=by
 unfold shI
 split
 ·rename_i h;have:k=0:=by omega
  subst this; simp
 ·rw [show (- -(k:Int)).toNat=k by omega,<- q09]; rfl
def q37 {a:Nat}:(tz a=0/\a≠0) ↔ a % 2=1:=by
 constructor
 ·rintro ⟨h1,h2⟩;obtain ⟨q,hq,he⟩:=q2n h2;rw [h1] at he; omega
 ·intro h; exact ⟨qbS h,by omega⟩
def q1J (l:List Int):Int:=l.foldl (·+·) 0
def q0x (l:List Int) (x:Int):q1J (l ++ [x])=q1J l+x:=by simp [q1J,List.foldl_append]
def q29:q1J []=0:=rfl
def q5y (l:List Int) (i:Nat) (x:Int) (h:l[i]?=some x):q1J (l.take (i+1))=q1J (l.take i)+x:=by
 obtain ⟨hlt,he⟩:=zY.1 h;rw [xJ hlt,q0x,he]
def qek {K:Nat}:∀ (i:Nat) (l:List Int),(∀ x ∈ l,bl x.natAbs<=K)->(q1J (l.take i)).natAbs<=i*2 ^ K
 | 0,l,_=>by rw [List.take_zero]; exact wN _
 | i+1,l,h=>by
  have ih:=qek i l h;cases hx:l[i]? with
  | none =>
   have:l.take (i+1)=l.take i:=by rw [yN (by have:=xZ.1 hx; omega),yN (xZ.1 hx)]
   rw [this,yY,yB]; exact zL ih (Nat.le_add_right _ _)
  | some x =>
   rw [q5y l i x hx,yY,yB];have h1:=q1k (h x (wO hx));refine zL (Int.natAbs_add_le _ _) ?_;exact Nat.add_le_add ih (xA h1)
def q5x {K i:Nat} {l:List Int} (h:∀ x ∈ l,bl x.natAbs<=K) (hi:i<=1024):bl (q1J (l.take i)).natAbs<=K+11:=by
 refine q0P (yF (qek i l h) ?_);have h2:i*2 ^ K<=1024*2 ^ K:=zK _ hi;have h3:2 ^ (K+11)=2 ^ K*2048:=by rw [zJ]
 have:=q0H K;omega
def qlt {i:Nat} {l:List Int} (h:∀ x ∈ l,q0Q x) (hi:i<=1024):bl (q1J (l.take i)).natAbs<=131083:=q5x h hi
def q4U {m S:Int} {k:Nat} (h:m*(2:Int) ^ k=S):bl m.natAbs<=bl S.natAbs:=by
 rw [<- h,q0J];exact q0z (xG _ (q0H k))
end Go.Sp
namespace Go.E
open Go Go.Sp
section
variable {P:Program} {t:TypeId} {k':IntKind} {a b:Nat}
def qip:q1A P .shr t (.int .u64 (a:Int)) (.int k' 52)=some (.int .u64 ((a / 4503599627370496:Nat):Int)):=by
 rw [q2G,if_neg (by omega)];exact congrArg (λx=>some (Value.int .u64 x)) (q92 a 4503599627370496)
def qoe:q1A P .shr t (.int .u64 (a:Int)) (.int k' 1)=some (.int .u64 ((a / 2:Nat):Int)):=by
 rw [q2G,if_neg (by omega)];exact congrArg (λx=>some (Value.int .u64 x)) (q92 a 2)
def q4X (ha:a < 18446744073709551616):q0m .and .u64 (a:Int) 2047=((a % 2048:Nat):Int):=by
 have:=q4Z ha (show 2047 < 18446744073709551616 by omega);rw [zX a 11] at this;exact this
def q8V (ha:a < 18446744073709551616):q0m .and .u64 (a:Int) 4503599627370495=((a % 4503599627370496:Nat):Int):=by
 have:=q4Z ha (show 4503599627370495 < 18446744073709551616 by omega);rw [zX a 52] at this;exact this
def q1c (ha:a < 18446744073709551616):q0m .and .u64 (a:Int) 4294967295=((a % 4294967296:Nat):Int):=by
 have:=q4Z ha (show 4294967295 < 18446744073709551616 by omega);rw [zX a 32] at this;exact this
def q8U (ha:a < 18446744073709551616):q0m .and .u64 (a:Int) 1=((a % 2:Nat):Int):=by
 have:=q4Z ha (show 1 < 18446744073709551616 by omega);rw [zX a 1] at this;exact this
def qrf (a k:Nat):a &&& 2 ^ k=if a.testBit k=true then 2 ^ k else 0:=by
 apply y7; intro i
 rw [yK,yL]
 by_cases h:k=i
 ·subst h; cases ht:a.testBit k <;> simp [yL]
 ·simp only [h,decide_false,Bool.and_false]
  split <;> simp [yL,h]
def qlS (ha:a < 18446744073709551616):q0m .and .u64 (a:Int) 9223372036854775808=if 9223372036854775808<=a then 9223372036854775808 else 0:=by
 have:=q4Z ha (show 9223372036854775808 < 18446744073709551616 by omega);have h2:a &&& 9223372036854775808=if 9223372036854775808<=a then 9223372036854775808 else 0:=by
  have key:=qrf a 63;rw [yZ] at key;rw [show (9223372036854775808:Nat)=2 ^ 63 by rfl,key]
  by_cases h:9223372036854775808<=a
  ·rw [if_pos (decide_eq_true Oq),if_pos (by omega)]
  ·rw [if_neg (by rw [decide_eq_true_eq]; omega),if_neg (by omega)]
 rw [h2] at this;rw [show (9223372036854775808:Int)=((9223372036854775808:Nat):Int) by rfl,this]
 split <;> rfl
def qa1 (ha:a < 18446744073709551616):(q0m .and .u64 (a:Int) 9223372036854775808 != 0)=decide (9223372036854775808<=a):=by
 rw [qlS ha]
 split
 ·rename_i h; rw [decide_eq_true h]; rfl
 ·rename_i h; rw [decide_eq_false h]; rfl
def qm2 (ha:a < 4503599627370496):q0m .or .u64 (a:Int) 4503599627370496=((4503599627370496+a:Nat):Int):=by
 have:=qdW (a:=a) (b:=4503599627370496) Oq Oq;have h2:=q2L (c:=a) (m:=1) (k:=52) Oq;rw [yB] at h2;rw [show a ||| 4503599627370496=a+4503599627370496 from h2] at this;rw [show (4503599627370496:Int)=((4503599627370496:Nat):Int) by rfl,this,wE]
def qfa (ha:a < 9223372036854775808):q0m .or .u64 (a:Int) 9223372036854775808=((a+9223372036854775808:Nat):Int):=by
 have:=qdW (a:=a) (b:=9223372036854775808) Oq Oq;have h2:=q2L (c:=a) (m:=1) (k:=63) Oq;rw [yB] at h2;rw [show a ||| 9223372036854775808=a+9223372036854775808 from h2] at this;rw [show (9223372036854775808:Int)=((9223372036854775808:Nat):Int) by rfl,this]
def q7f (h:a < 4096):q1A P .shl t (.int .u64 (a:Int)) (.int k' 52)=some (.int .u64 ((a*4503599627370496:Nat):Int)):=by
 have:=qey (P:=P) (t:=t) (k':=k') (a:=a) (b:=52) Oq;rw [show a*2 ^ 52 % 18446744073709551616=a*4503599627370496 by omega] at this;exact this
def qfb (ha:a < 2048) (hb:b < 4503599627370496):q0m .or .u64 ((a*4503599627370496:Nat):Int) (b:Int)=((a*4503599627370496+b:Nat):Int):=by
 have:=qdW (a:=a*4503599627370496) (b:=b) Oq Oq;have h2:=q2L (c:=b) (m:=a) (k:=52) Oq;rw [this,vE,show b ||| a*4503599627370496=b+a*4503599627370496 from h2,wE]
end
attribute [go_sem high] qip qoe
end Go.E
namespace Go.Sp
open Go.E
def q0F (f:Nat):Prop:=f / 4503599627370496 % 2048≠2047
instance (f:Nat):Decidable (q0F f):=by unfold q0F; infer_instance
def q6N {m E:Int} (hE : -65536<=E) (hb:bl m.natAbs+(E+65536).toNat<=131072):mkV m E=some (m*(2:Int) ^ (E+65536).toNat):=by
 rw [q4E hE rfl];refine q2N ?_;unfold q0Q
 by_cases h:m=0
 ·subst h; rw [vC]; exact wN _
 ·rw [q0J,q1P (by omega)]; exact hb
def qaZ {f:Nat} (hf:q0F f):∃ V,ofF f=some V/\mkV (sgn (decide (9223372036854775808<=f)) (if f / 4503599627370496 % 2048=0 then f % 4503599627370496 else 4503599627370496+f % 4503599627370496)) (if f / 4503599627370496 % 2048=0 then -1074 else (f / 4503599627370496 % 2048:Nat)-1075)=some V:=by
 unfold q0F at hf;have hx:=zZ (f / 4503599627370496) (show 0 < 2048 by omega);have hm:=zZ f (show 0 < 4503599627370496 by omega);unfold ofF;rw [if_neg hf];generalize f / 4503599627370496 % 2048=x at *;generalize f % 4503599627370496=m at *
 split
 ·refine ⟨_,rfl,?_⟩;have hb:bl m<=52:=q0P hm;rw [q6N Oq (by rw [q19]; omega)]; rfl
 ·refine ⟨_,rfl,?_⟩;have hb:bl (4503599627370496+m)<=53:=q0P (z7 (show 4503599627370496+m < 9007199254740992 by omega) (yJ _));rw [q6N Oq (by rw [q19]; omega)];rw [show ((x:Int)-1075+65536).toNat=64461+x by omega]
def fR (mode V:Int):Nat:=if V=0 then 0 else rF mode (decide (V < 0)) V.natAbs (2 ^ 65536)
def fQ (mode a b:Int):Nat:=if a=0 then 0 else rF mode (decide (a < 0) != decide (b < 0)) a.natAbs b.natAbs
def rE_VK {mode V:Int} {neg:Bool} {K:Nat} (hK:K=65536) (h:V≠0):rE mode neg (od V).natAbs 1 (dyE V)=rF mode neg V.natAbs (2 ^ K):=by
 have h1:=q7C V;have h2:=q3c h;have ho:0 < (od V).natAbs:=by omega
 have hd:dyE V=(tz V.natAbs:Int)-65536:=by unfold dyE; rw [if_neg h]
 have hV:0 < V.natAbs:=by omega
 unfold rE;refine q55 (zQ ho (q0H _)) (zQ Nat.one_pos (q0H _)) hV (q0H _) ?_;generalize dyE V=e at *;generalize tz V.natAbs=k at *;rw [<- h1,yB,zB,zB,<- zJ,<- zJ]
 congr 2; omega
def rE_V {mode V:Int} {neg:Bool} (h:V≠0):rE mode neg (od V).natAbs 1 (dyE V)=rF mode neg V.natAbs (2 ^ 65536):=rE_VK (K:=65536) rfl h
def qor {mode:Int} {neg:Bool} {N D:Nat}:N / D<=rq mode neg N D:=by unfold rq; (repeat' split) <;> omega
def n_ge {mode:Int} {neg:Bool} {N D:Nat} {e q:Int} (hD:0 < D) (h:D<=N) (hq:q=e+bl (N / D)-53):4503599627370496<=rq mode neg (N*2 ^ (e-q).toNat) (D*2 ^ (q-e).toNat):=by
 refine zL ?_ qor;rw [qao];have h1:=qd2 hD h (e-q).toNat;have hp:=wM h hD;have hb:=q4V (n:=N / D) Oq;have h52:(2:Nat) ^ 52=4503599627370496:=by decide
 rw [<- h52,wK (q0H _),<- zJ];have hne:N*2 ^ (e-q).toNat / D≠0:=λh0=>by
  rw [h0,q0f] at h1; omega
 have h2:=q8S hne;rw [h1] at h2;rw [show 52+(q-e).toNat=bl (N / D)+(e-q).toNat-1 by omega];exact h2
def qoy {mode:Int} {neg:Bool} {N D:Nat} {e:Int} (hD:0 < D) (h:D<=N) (ht:1024<=e+bl (N / D)-1):rE mode neg N D e=qaY mode neg:=by
 rw [qdT hD h];have hq:max (e+(bl (N / D):Int)-53) (-1074)=e+bl (N / D)-53:=by omega
 rw [hq];have hn:=n_ge (mode:=mode) (neg:=neg) hD h (q:=e+bl (N / D)-53) rfl;unfold fin q5F
 split
 ·rw [if_neg Oq,if_pos (by omega)]
 ·rw [if_neg Oq,if_pos (by omega)]
end Go.Sp
namespace Go.Proofs.YtpbaikoblfcmdaaGreatDoor
open Go Go.E Go.Sp
def qrw.len {w:World} {Bd n c:Nat} {A:Option Addr} {o:List Nat} (h:qrw w Bd A n c o):o.length=n:=by have:=h.1.len; simpa using this
def qrw.ext {w w':World} {Bd n c:Nat} {A:Option Addr} {o:List Nat} (h:qrw w Bd A n c o) (k:Ext w w'):qrw w' Bd A n c o:=⟨h.1.ext k,h.2⟩
end Go.Proofs.YtpbaikoblfcmdaaGreatDoor
namespace Go.E
open Go
end Go.E
namespace Go.Proofs.YtpbaikoblfcmdaaGreatDoor
open Go Go.E Go.Sp


section
variable {D:Nat->Prop} {v v':Value} {w:World} {x y:Nat} {l:List Nat}
end
section
variable {D:Nat->Prop} {v v':Value} {w:World} {x y:Nat} {a b:Int}
end
def q68:bl 1=1:=rfl
section
variable {D:Nat->Prop} {v v':Value} {w:World} {x y d:Nat} {a b:Int}
end
end Go.Proofs.YtpbaikoblfcmdaaGreatDoor
namespace Go.E
open Go
end Go.E
namespace Go.Proofs.YtpbaikoblfcmdaaGreatDoor
open Go Go.E Go.Sp
section
variable {D:Nat->Prop} {v v':Value} {w:World} {x y d:Nat} {a b:Int}
end
end Go.Proofs.YtpbaikoblfcmdaaGreatDoor
namespace Go.Sp
open Go.E
section
variable {p T U V v1 v0 q rest top u0:Nat}
def qqY (hU:U < (T+1)*p) (hV:(v1*B+v0)*p<=V) (hT:T=top*B+u0) (hr:rest+q*v1=top) (hc:rest*B+u0 < q*v0):U < q*V:=by
 have h1:T+1<=q*(v1*B+v0):=by
  rw [hT,<- hr,yY,zD,<- zB];generalize q*v1*B=x at *;generalize rest*B=y at *;omega
 refine z7 hU (zL (zK p h1) ?_);rw [zB];exact zS q hV
def qhB (hU:T*p<=U) (hV:V<=(v1*B+v0+1)*p) (hT:T=top*B+u0) (hr:rest+q*v1=top) (hc:q*v0<=rest*B+u0) (hq:q<=v1*B+v0+1):(q-1)*V<=U:=by
 rcases yH q with h0 | h0
 ·subst h0; simp
 have h1:q*(v1*B+v0)<=T:=by
  rw [hT,<- hr,yY,zD,<- zB];generalize q*v1*B=x at *;generalize rest*B=y at *;omega
 have h2:(q-1)*(v1*B+v0+1)<=q*(v1*B+v0):=by
  generalize v1*B+v0=W at *;obtain ⟨k,rfl⟩:∃ k,q=k+1:=⟨q-1,by omega⟩;rw [y3,zD,yY,z9,yB];omega
 refine zL (zS (q-1) hV) (zL ?_ hU);rw [<- zB];exact zK p (zL h2 h1)
end
def qfm {u P b t:Nat} (hu:u < 4294967296) (hb:b<=1) (ht:t=(u+18446744073709551616-P % 4294967296-b) % 18446744073709551616) :
  P % 4294967296+b+t % 4294967296=u+4294967296*(t / 4294967296 % 2)/\t / 4294967296 % 2<=1:=by
 have:=zZ P (show 0 < 4294967296 by omega);omega
def q9M {W i c b x u q Ui Vi t:Nat} (h:W+q*Vi=Ui+B ^ i*(c+b)) (hu:u < 4294967296) (hb:b<=1) (ht:t=(u+18446744073709551616-(q*x+c) % 4294967296-b) % 18446744073709551616) :
  W+B ^ i*(t % 4294967296)+q*(Vi+B ^ i*x)=Ui+B ^ i*u+B ^ (i+1)*((q*x+c) / 4294967296+t / 4294967296 % 2):=by
 obtain ⟨h1,_⟩:=qfm hu hb ht;have h2:=yA (q*x+c) 4294967296;have hB:B=4294967296:=rfl;rw [zE,zD q,z0 q];generalize (q*x+c) / 4294967296=d at *;generalize (q*x+c) % 4294967296=m at *;generalize hy:q*x=y at *;generalize t / 4294967296 % 2=b' at *;generalize t % 4294967296=r at *;generalize B ^ i=X at *;have e1:X*B*(d+b')=X*(4294967296*d)+X*(4294967296*b'):=by rw [hB,zB,<- zD,zD]
 have e2:X*(c+b)+X*r+X*y=X*u+X*(4294967296*d)+X*(4294967296*b'):=by
  rw [<- zD,<- zD,<- zD,<- zD]
  congr 1
  omega
 rw [e1];omega
def qjU {W n c b u q Un V t:Nat} (h:W+q*V=Un+B ^ n*(c+b)) (hu:u < 4294967296) (hc:c+b<=4294967296) (ht:t=(u+18446744073709551616-c-b) % 18446744073709551616) :
  W+B ^ n*(t % 4294967296)+q*V=Un+B ^ n*u+B ^ (n+1)*(t / 4294967296 % 2)/\t / 4294967296 % 2<=1:=by
 have h1:c+b+t % 4294967296=u+4294967296*(t / 4294967296 % 2)/\t / 4294967296 % 2<=1:=by omega
 refine ⟨?_,h1.2⟩;have hB:B=4294967296:=rfl;rw [zE];generalize t / 4294967296 % 2=b' at *;generalize t % 4294967296=r at *;generalize B ^ n=X at *;have e1:X*B*b'=X*(4294967296*b'):=by rw [hB,zB]
 have e2:X*(c+b)+X*r=X*u+X*(4294967296*b'):=by
  rw [<- zD,<- zD]
  congr 1
  omega
 rw [e1];omega
def qhO {U V q M W ng:Nat} (hV:0 < V) (hle:(q-1)*V<=U) (hlt:U < (q+1)*V) (hW:W < M) (hVM:V<=M) (h:W+q*V=U+M*ng) (hn:ng<=1) :
  (ng=0->U / V=q/\U % V=W)/\(ng=1->0 < q/\U / V=q-1/\(W+V) % M=U % V/\U % V < V):=by
 refine ⟨λh0=>?_,λh1=>?_⟩
 ·subst h0;rw [xK,yW] at h;have hWV:W < V:=by
   rw [yY,yB] at hlt;omega
  have e:U=V*q+W:=by rw [zF]; omega
  rw [e];exact ⟨by rw [Nat.mul_add_div hV,yO hWV,yW],by rw [Nat.mul_add_mod,zG hWV]⟩
 ·subst h1;rw [z9] at h;have hq:0 < q:=by
   rcases yH q with h0 | h0
   ·subst h0; rw [w8] at h; omega
   ·exact h0
  obtain ⟨k,rfl⟩:∃ k,q=k+1:=⟨q-1,by omega⟩;rw [y3] at hle ⊢;rw [yY,yB] at h;have hr:U-k*V < V:=by omega
  have e:U=V*k+(U-k*V):=by rw [zF]; omega
  have e1:U / V=k:=by rw [e,Nat.mul_add_div hV,yO hr,yW]
  have e2:U % V=U-k*V:=by
   have:=yA U V;rw [e1,zF] at this;omega
  refine ⟨hq,e1,?_,zZ _ hV⟩;rw [e2,show W+V=U-k*V+M*1 by omega,yD,zG (by omega)]
def q2T (o:List Nat) (j i:Nat):val ((o.drop j).take (i+1))=val ((o.drop j).take i)+B ^ i*o.getD (j+i) 0:=by
 rw [vts,zI,yP,<- zI]
def qbb (o:List Nat) (j i d:Nat):((o.set (j+i) d).drop j).take i=(o.drop j).take i:=by
 apply x6
 intro k;rw [z8,z8]
 split
 ·rw [yP,yP,wQ (by omega)]
 ·rfl
def top2 {l:List Nat} {n:Nat} (ha:q03 l) (hn:2<=n):∃ low,low < B ^ (n-2)/\val (l.take n)=low+B ^ (n-2)*(l.getD (n-2) 0+B*l.getD (n-1) 0):=by
 refine ⟨val (l.take (n-2)),?_,?_⟩
 ·have h1:=q1f (ha.take (n-2));refine z7 h1 (zN q1I ?_);rw [zV]; omega
 ·have h1:=vts l (n-2);have h2:=vts l (n-2+1);rw [show n-2+1+1=n by omega,h1,show n-2+1=n-1 by omega] at h2;rw [h2,show n-1=(n-2)+1 by omega,zE,zD,<- zB,y0]
def qhA {p T U V v1 v0 top u0:Nat} (hU:U < (T+1)*p) (hV:(v1*B+v0)*p<=V) (hT:T=top*B+u0) (hu:u0 < B) (hv:0 < v1):U < (top / v1+1)*V:=by
 have h1:T+1<=(top / v1+1)*(v1*B+v0):=by
  have h2:top+1<=(top / v1+1)*v1:=by
   have:=yA top v1;have h3:=zZ top hv;rw [yY,yB,zF]; omega
  have h4:(top+1)*B<=(top / v1+1)*v1*B:=zK B h2;rw [zD,<- zB];rw [yY,yB] at h4;omega
 refine z7 hU (zL (zK p h1) ?_);rw [zB];exact zS _ hV
def qkh {v1 v0 top q rest u0:Nat} (hr:rest+q*v1=top) (ht:top < v1*B+B) (hb:B<=rest) (hv0:v0 < B):q < B/\q*v0<=rest*B+u0:=by
 have h1:q*v1 < v1*B:=by omega
 have hq:q < B:=by
  rcases zR q B with h | h
  ·exact h
  ·have:=zS v1 h;rw [zF q v1] at h1; omega
 have h2:q*v0<=B*B:=Nat.mul_le_mul (xA hq) (xA hv0);have h3:B*B<=rest*B:=zK B hb;exact ⟨hq,by omega⟩
def qrm {Z S i cr a x:Nat} (h:Z+B ^ i*cr=S):Z+B ^ i*((a+x+cr) % 4294967296)+B ^ (i+1)*((a+x+cr) / 4294967296)=S+B ^ i*a+B ^ i*x:=by
 have h2:=yA (a+x+cr) 4294967296;have hB:B=4294967296:=rfl;rw [zE];generalize (a+x+cr) / 4294967296=d at *;generalize (a+x+cr) % 4294967296=r at *;generalize B ^ i=X at *;have e1:X*B*d=X*(4294967296*d):=by rw [hB,zB]
 have e2:X*r+X*(4294967296*d)=X*a+X*x+X*cr:=by
  rw [<- zD,<- zD,<- zD]
  congr 1
  omega
 rw [e1];omega
def qi4 {Z n a cr S:Nat} (hZ:Z < B ^ n) (h:Z+B ^ n*(a+cr)=S):Z+B ^ n*((a+cr) % 4294967296)=S % B ^ (n+1):=by
 have hB:B=4294967296:=rfl;rw [<- h,zE,x5,yD,zG hZ,y6 _ _ Oq,yO hZ,zW,hB]
end Go.Sp
namespace Go.E
open Go
end Go.E
namespace Go.Proofs.YtpbaikoblfcmdaaGreatDoor
open Go Go.E Go.Sp
end Go.Proofs.YtpbaikoblfcmdaaGreatDoor
namespace Go.E
open Go
def qhX (P:Program) (tys:Array TypeId) (ty:TypeId) (args:List Value) (w:World) (K:Value->World->Prop):Prop:=∃ v w',(Builtin.copy_ tys ty args.toArray).run P w=.ok v w'/\K v w'
section
variable {P:Program} {e:Env} {w:World} {K:Value->World->Prop} {d:Option Nat} {ty:TypeId} {pos:String} {af:Array Edge} {g:Option (Nat × Bool)}
@[congr] theorem qqb {tys:Array TypeId} {ty:TypeId} {args args':List Value} {w:World} {K:Value->World->Prop} (h:args=args'):qhX P tys ty args w K=qhX P tys ty args' w K:=by rw [h]
def qoC {s x:Operand} {tys:Array TypeId}:wo P ⟨d,.call ⟨.builtin .copy,#[s,x],tys⟩,ty,pos,af,g⟩ e w K=qhX P tys ty [ev e s,ev e x] w K:=by
 simp only [wo,WO,execOp,resolve,invoke,builtin,Sem.run_bind,Sem.run_pure,Result.andThen_ok,xS,xB,xH,qhX];cases hr:(Builtin.copy_ tys ty #[ev e s,ev e x]).run P w with
 | ok v w' =>
  simp only [Result.andThen_ok,Sem.run_pure,RO];exact propext ⟨λh=>⟨v,w',rfl,h⟩,λ⟨v',w'',h,hk⟩=>by injection h with h1 h2; subst h1; subst h2; exact hk⟩
 | halt x w' =>
  simp only [Result.andThen_halt,RO];exact propext ⟨λh=>h.elim,λ⟨_,_,h,_⟩=>by cases h⟩
end
attribute [go_sem ↓] qoC
attribute [irreducible] qhX
end Go.E
namespace Go.Proofs.YtpbaikoblfcmdaaGreatDoor
open Go Go.E Go.Sp
def lz_ok {x:Nat} {w:World} (hx:x < 4294967296):Calls Tryz.prog 358 #[.int .u32 x] w λe w'=>e=.returned (.int .i64 (32-bl x:Nat))/\w=w':=by
 have hb:bl x<=32:=q0P hx;refine q65 Tryz.func358 rfl Tryz.ntmps358 (by kernel_rfl) ?_;refine Wz ?_;refine q1R λK hK=>?_;refine Zz ?_;refine q8P qnE (qcG hx) ?_;rintro _ _ ⟨rfl,rfl⟩; refine ⟨_,rfl,?_⟩;have e1:IntKind.i64.wrap (32-((bl x:Nat):Int))=((32-bl x:Nat):Int):=by rw [i64_in Oq (by omega)]; omega
 refine Zz1 e1 ?_;refine hK _ _ ?_; clear hK;refine ql0 ?_
 try simp only [qaJ,qp9]
 refine ret1 rfl ⟨rfl,rfl⟩
end Go.Proofs.YtpbaikoblfcmdaaGreatDoor
namespace Go.Sp
open Go.E
def qcW {a b:List Nat} {j:Nat} (hl:a.length=b.length) (h:∀ k,k < j->a.getD k 0=b.getD k 0):a.take j=b.take j:=by
 apply x6
 intro k;rw [z8,z8]
 split
 ·rename_i hk
  rcases zR k a.length with h1 | h1
  ·have:=h k hk;rw [q0s h1,q0s (by omega)] at this;rw [zC h1,zC Oq,this]
  ·rw [zT h1,zT (by omega)]
 ·rfl
def q8I {a b:List Nat} {j:Nat} (hl:a.length=b.length) (h:∀ k,j<=k->a.getD k 0=b.getD k 0):a.drop j=b.drop j:=by
 apply x6
 intro k;rw [yP,yP]
 rcases zR (j+k) a.length with h1 | h1
 ·have:=h (j+k) Oq;rw [q0s h1,q0s (by omega)] at this;rw [zC h1,zC Oq,this]
 ·rw [zT h1,zT (by omega)]
def qvQ {b d v V:Nat} (h1:d < b) (h2:v < V):d+b*v < b*V:=by
 have h3:b*(v+1)<=b*V:=zS b h2;rw [zD,z9] at h3;omega
def qwF {a p V r d q X:Nat} (h:a+p*(V*d+r)+V*q=X):a+p*r+V*(q+p*d)=X:=by
 rw [<- h,zD,zD,z0 V p d];omega
section
variable {o o' qs:List Nat} {j n V X:Nat}
def q6F (ha:q03 o) (hV:V < B ^ n) (h:val (o.drop (j+1)) < V):val ((o.drop j).take (n+1)) < B*V/\val (o.drop (j+n+1))=0/\val (o.drop j)=val ((o.drop j).take (n+1)):=by
 have h1:val (o.drop (j+n+1))=0:=by
  have:=q25 (ha.drop (j+1)) n;rw [wW,show j+1+n=j+n+1 by omega] at this;rw [this];exact yO (Nat.lt_trans h hV)
 have h2:val (o.drop j)=val ((o.drop j).take (n+1)):=by
  rcases zR (n+1) (o.drop j).length with hl | hl
  ·have:=q1N (o.drop j) (n+1) Oq;rw [wW,show j+(n+1)=j+n+1 by omega,h1,xK,yW] at this;exact this
  ·rw [q0G _ _ hl]
 refine ⟨?_,h1,h2⟩;rw [<- h2,q1j];exact qvQ (ha.get j) h
def q6y (ha:q03 o) (hV0:0 < V) (hV:V < B ^ n) (hl:o'.length=o.length) (h:val (o.drop (j+1)) < V) (hun:∀ k,k < j\/j+n < k->o'.getD k 0=o.getD k 0) (hr:val ((o'.drop j).take (n+1))=val ((o.drop j).take (n+1)) % V) (hj:j < qs.length) (hq:qs.getD j 0=0) (hjo:j<=o.length)
  (hX:val o+V*val qs=X):val o'+V*val (qs.set j (val ((o.drop j).take (n+1)) / V))=X/\val (o'.drop j) < V:=by
 obtain ⟨_,h1,h2⟩:=q6F ha hV h;have e1:=qcW hl λk hk=>hun k (.inl hk);have e2:o'.drop (j+n+1)=o.drop (j+n+1):=q8I hl λk hk=>hun k (.inr Oq);have h3:val (o'.drop j)=val ((o'.drop j).take (n+1)):=by
  rcases zR (n+1) (o'.drop j).length with hl2 | hl2
  ·have:=q1N (o'.drop j) (n+1) Oq;rw [wW,show j+(n+1)=j+n+1 by omega,e2,h1,xK,yW] at this;exact this
  ·rw [q0G _ _ hl2]
 have s1:=q1N o j hjo;have s2:=q1N o' j Oq;rw [h2] at s1;rw [h3,e1,hr] at s2;have s3:=q36 (o:=qs) (p:=j) (val ((o.drop j).take (n+1)) / V) hj;rw [hq,xK,yW] at s3;refine ⟨?_,by rw [h3,hr]; exact zZ _ hV0⟩;rw [s2,s3];rw [s1] at hX;have hdm:=yA (val ((o.drop j).take (n+1))) V;generalize val ((o.drop j).take (n+1)) / V=d at *;generalize val ((o.drop j).take (n+1)) % V=r at *;rw [<- hdm] at hX;exact qwF hX
end
open Go
def q0Y (f:Nat):Nat:=if f / 4503599627370496 % 2048=2047/\f % 4503599627370496≠0 then 3 else if f / 4503599627370496 % 2048=2047 then 2 else if f / 4503599627370496 % 2048=0/\f % 4503599627370496=0 then 0 else 1
def u64v (x:Nat):Value:=.int .u64 (x:Int)
def q02 (a:Int) (n:Nat):Nat:=(a % 18446744073709551616).toNat % n
def qfn {a:Int} {n:Nat} (h:0 < n):q02 a n < n:=zZ _ h
def qnw (raw:List Nat) (k:Int):Int :=
 if raw.length=0 then IntKind.u64.wrap (IntKind.u64.wrap (IntKind.i64.wrap (k+1))*11400714819323198485)
 else q0m .xor .u64 (IntKind.u64.wrap (IntKind.u64.wrap (IntKind.i64.wrap (k+1))*11400714819323198485)) ((raw.getD (q02 k raw.length) 0:Nat):Int)
def qnv (x:Int):Int:=IntKind.u64.wrap (q0m .xor .u64 x (x.fdiv (2 ^ 31))*13787848793156543929)
def qaF (raw:List Nat) (k:Int):Int:=q0m .xor .u64 (qnv (qnw raw k)) ((qnv (qnw raw k)).fdiv (2 ^ 29))
def q47 (raw:List Nat) (k:Int):Nat:=(qaF raw k).toNat
def q8h (raw:List Nat) (k:Int):((q47 raw k:Nat):Int)=qaF raw k:=by
 have:0<=qaF raw k:=by
  unfold qaF
  show 0<=IntKind.u64.wrap _
  rw [q0p]; omega
 unfold q47; omega
def q2l (raw:List Nat) (k:Int):q47 raw k < 18446744073709551616:=by
 have h:=q8h raw k;have:qaF raw k < 18446744073709551616:=by
  unfold qaF
  show IntKind.u64.wrap _ < _
  rw [q0p]; omega
 omega
def flz (z:Int):Nat:=fR 0 (z*(2:Int) ^ 65536)
def q4d (x:Nat):Int:=(x % 19:Nat)-9
def q7e (x:Nat) : -9<=q4d x/\q4d x<=9:=by unfold q4d; omega
def q7v {z:Int} (h:bl z.natAbs<=65536):mkV z 0=some (z*(2:Int) ^ 65536):=q6N Oq Oq
def flzK {z:Int} {K:Nat} (hK:K=65536) (hz:z.natAbs < 9007199254740992):ofF (if z*(2:Int) ^ K=0 then 0 else rF 0 (decide (z*(2:Int) ^ K < 0)) (z*(2:Int) ^ K).natAbs (2 ^ K))=some (z*(2:Int) ^ K)/\(if z*(2:Int) ^ K=0 then 0 else rF 0 (decide (z*(2:Int) ^ K < 0)) (z*(2:Int) ^ K).natAbs (2 ^ K)) < 18446744073709551616:=by
 by_cases h0:z=0
 ·subst h0;rw [vC,if_pos rfl];refine ⟨?_,by omega⟩;unfold ofF;rw [if_neg (by decide),if_pos (by decide),show sgn (decide (9223372036854775808<=0)) (0 % 4503599627370496)=0 from rfl,vC]
 ·have hp:=q0M K;have hne:z*(2:Int) ^ K≠0:=xE h0 (xN hp);have hsg:decide (z*(2:Int) ^ K < 0)=decide (z < 0):=by
   rw [decide_eq_decide]
   constructor
   ·intro h
    rcases w9 z 0 with h1 | h1
    ·exact h1
    ·have:=wV h1 (vA hp); omega
   ·intro h; exact yS h hp
  rw [if_neg hne,hsg,q0J];have hb:bl z.natAbs<=53:=q0P hz;have:=qbn (mode:=0) (neg:=decide (z < 0)) (N:=z.natAbs*2 ^ K) (D:=2 ^ K) (M:=z.natAbs) (f:=0) (q0H K) Oq hb Oq Oq (by simp [zF]);rw [q08] at this;refine ⟨?_,this.2⟩;rw [this.1,hK]; rfl
def qg4 {z:Int} (hz:z.natAbs < 9007199254740992):ofF (flz z)=some (z*(2:Int) ^ 65536):=(flzK rfl hz).1
def qvi {z:Int} (hz:z.natAbs < 9007199254740992):flz z < 18446744073709551616:=(flzK rfl hz).2
def qg5 {z:Int} (hz:z.natAbs < 9007199254740992):q0F (flz z):=λh=>by
 have:=qg4 hz;unfold ofF at this; rw [if_pos h] at this; cases this
def qgu {x y:Int} {K:Nat} (hK:K=65536) (hy:y≠0) (hx:x.natAbs < 9007199254740992):(if x*y*(2:Int) ^ K=0 then 0 else rF 0 (decide (x*y*(2:Int) ^ K < 0) != decide (y*(2:Int) ^ K < 0)) (x*y*(2:Int) ^ K).natAbs (y*(2:Int) ^ K).natAbs)=(if x*(2:Int) ^ K=0 then 0 else rF 0 (decide (x*(2:Int) ^ K < 0)) (x*(2:Int) ^ K).natAbs (2 ^ K)):=by
 have hp:=q0M K;have hsgn:∀ z:Int,decide (z*(2:Int) ^ K < 0)=decide (z < 0):=λz=>by
  rw [decide_eq_decide]
  constructor
  ·intro h
   rcases w9 z 0 with h1 | h1
   ·exact h1
   ·have:=wV h1 (vA hp); omega
  ·intro h; exact yS h hp
 by_cases h0:x=0
 ·subst h0; simp
 ·have hne:x*(2:Int) ^ K≠0:=xE h0 (xN hp);have hxy:x*y≠0:=xE h0 hy;have hne2:x*y*(2:Int) ^ K≠0:=xE hxy (xN hp);rw [if_neg hne,if_neg hne2,hsgn,hsgn,hsgn,q0J,q0J,q0J];have hs:(decide (x*y < 0) != decide (y < 0))=decide (x < 0):=by
   rcases Int.lt_or_gt_of_ne h0 with h1 | h1 <;> rcases Int.lt_or_gt_of_ne hy with h2 | h2
   ·have:=Int.mul_pos_of_neg_of_neg h1 h2;rw [decide_eq_false Oq,decide_eq_true h2,decide_eq_true h1]; rfl
   ·have:=yS h1 h2;rw [decide_eq_true this,decide_eq_false Oq,decide_eq_true h1]; rfl
   ·have:=Int.mul_neg_of_pos_of_neg h1 h2;rw [decide_eq_true this,decide_eq_true h2,decide_eq_false (by omega)]; rfl
   ·have:=Int.mul_pos h1 h2;rw [decide_eq_false Oq,decide_eq_false Oq,decide_eq_false (by omega)]; rfl
  rw [hs];have hxp:0 < x.natAbs:=by omega
  have hyp:0 < y.natAbs:=by omega
  refine q55 (by rw [wT]; exact zQ (zQ hxp hyp) (q0H _)) (zQ hyp (q0H _)) (zQ hxp (q0H _)) (q0H _) ?_;rw [wT];simp only [zB,z0,zF]
def qkd {x y:Int} (hy:y≠0) (hx:x.natAbs < 9007199254740992):fQ 0 (x*y*(2:Int) ^ 65536) (y*(2:Int) ^ 65536)=flz x:=qgu rfl hy hx
def qck (x i:Nat):x &&& 2 ^ i=x / 2 ^ i % 2*2 ^ i:=by
 apply y7
 intro j;rw [yK,yL]
 rcases xX (x / 2 ^ i) with h | h
 ·rw [h,w8,Nat.zero_testBit]
  by_cases hj:i=j
  ·subst hj;rw [yZ,h]; simp
  ·simp [hj]
 ·rw [h,yB,yL]
  by_cases hj:i=j
  ·subst hj;rw [yZ,h]; simp
  ·simp [hj]
def qfB {x:Nat} (h:x < 18446744073709551616):x &&& 9223372036854775808=x / 9223372036854775808*9223372036854775808:=by
 have h1:=qck x 63;have e:(2:Nat) ^ 63=9223372036854775808:=rfl;rw [e,zG (show x / 9223372036854775808 < 2 by omega)] at h1;exact h1
def qjm {x:Nat}:x &&& 2251799813685248=x / 2251799813685248 % 2*2251799813685248:=by
 have h1:=qck x 51;have e:(2:Nat) ^ 51=2251799813685248:=rfl;rw [e] at h1;exact h1
def qjr {x:Nat}:x &&& 4503599627370495=x % 4503599627370496:=zX x 52
def qbW {a e s:Nat} (ha:a < 4503599627370496) (he:e < 2048):s*9223372036854775808 ||| a ||| e*4503599627370496=s*9223372036854775808+e*4503599627370496+a:=by
 have h1:a ||| e*4503599627370496=a+e*4503599627370496:=q2L (k:=52) ha;have h2:(a+e*4503599627370496) ||| s*9223372036854775808=a+e*4503599627370496+s*9223372036854775808:=q2L (k:=63) Oq;rw [Nat.or_assoc,h1,vE,h2];omega
def q20 (k x:Nat):Nat :=
 if k=1 then x / 9223372036854775808*9223372036854775808+(1019+x / 4503599627370496 % 8)*4503599627370496+x % 4503599627370496
 else if k=2 then x / 9223372036854775808*9223372036854775808+(983+x / 256 % 81)*4503599627370496+x / 2251799813685248 % 2*2251799813685248
 else if k=3 then (if x / 4503599627370496 % 2048=2047 then 0 else x)
 else flz (q4d x)
def num_1 {x:Nat} (h:x < 18446744073709551616):(x &&& 9227875636482146303) ||| (1019+x / 4503599627370496 % 8)*4503599627370496=q20 1 x:=by
 have e:9227875636482146303=9223372036854775808 ||| 4503599627370495:=by decide
 rw [e,wB,qfB h,qjr,qbW (zZ _ Oq) (by omega)];unfold q20; rw [if_pos rfl]
def num_2 {x:Nat} (h:x < 18446744073709551616):(x &&& 9225623836668461056) ||| (983+x / 256 % 81)*4503599627370496=q20 2 x:=by
 have e:9225623836668461056=9223372036854775808 ||| 2251799813685248:=by decide
 rw [e,wB,qfB h,qjm,qbW Oq (by omega)];unfold q20; rw [if_neg Oq,if_pos rfl]
end Go.Sp
namespace Go.Proofs.YtpbaikoblfcmdaaGreatDoor
open Go Go.E Go.Sp
end Go.Proofs.YtpbaikoblfcmdaaGreatDoor
namespace Go.Sp
open Go.E
def hf (q k:Nat) (inx:Bool):Int:=if (((q % 2 ^ k:Nat):Int)-2 ^ (k-1)).sign=0/\inx=true then 1 else (((q % 2 ^ k:Nat):Int)-2 ^ (k-1)).sign
def qpV (q:Nat) (e p:Int) (inx:Bool):Nat :=
 if p<=e then q*2 ^ (e-p).toNat
 else q / 2 ^ (p-e).toNat+(if ¬ (q % 2 ^ (p-e).toNat=0/\inx=false)/\(0 < hf q (p-e).toNat inx\/(hf q (p-e).toNat inx=0/\q / 2 ^ (p-e).toNat % 2=1)) then 1 else 0)
def qgK {a b:Prop} [Decidable a] [Decidable b] (h:a ↔ b) (x y:Nat):(if a then x else y)=if b then x else y:=by
 by_cases ha:a
 ·rw [if_pos ha,if_pos (h.1 ha)]
 ·rw [if_neg ha,if_neg (λhb=>ha (h.2 hb))]
def qpn {N M k:Nat} (hk:0 < k):hf (N / M) k (decide (N % M≠0))=qa8 N M k:=by
 have hp:2 ^ k=2 ^ (k-1)*2:=by rw [<- zE]; congr 1; omega
 have hp0:=q0H (k-1);have hs:=x5 (x:=N / M) (a:=2 ^ (k-1)) (b:=2);rw [<- hp] at hs;have hs':=zZ (N / M) hp0;have hb2:N / M / 2 ^ (k-1) % 2 < 2:=zZ _ Oq;unfold hf qa8;rw [<- q09];generalize N / M % 2 ^ k=s at *;generalize N / M % 2 ^ (k-1)=s' at *;generalize N / M / 2 ^ (k-1) % 2=b at *;generalize N % M=r at *;generalize 2 ^ (k-1)=h at *
 by_cases hb:b=1
 ·subst hb;have hss:((s:Nat):Int)-(h:Nat)=(s':Nat):=by omega
  rw [hss,if_pos (show 0 < k/\1=1 from ⟨hk,rfl⟩)]
  by_cases h0:s'=0
  ·subst h0
   by_cases hr:r=0
   ·subst hr; simp
   ·simp [hr]
  ·have h1:(((s':Nat):Int)).sign=1:=Int.sign_eq_one_of_pos Oq;rw [h1,if_neg (by simp),if_pos (.inr h0)]
 ·have:b=0:=by omega
  subst this;have h1:(((s:Nat):Int)-(h:Nat)).sign = -1:=Int.sign_eq_neg_one_of_neg Oq;rw [h1,if_neg (by omega)]; simp
def qpU {neg:Bool} {N M:Nat} {e p:Int} (hM:0 < M) (hk:N % M≠0->e < p):qpV (N / M) e p (decide (N % M≠0))=rq 0 neg (N*2 ^ (e-p).toNat) (M*2 ^ (p-e).toNat):=by
 unfold qpV
 by_cases hpe:p<=e
 ·rw [if_pos hpe,show (p-e).toNat=0 by omega,yX,z9];have hr:N % M=0:=by
   rcases yH (N % M) with h | h
   ·exact h
   ·have:=hk (by omega); omega
  have hd:N=N / M*M:=by have:=yA N M; rw [zF] at this; omega
  rw [q3w (by rw [hd,yG]; exact Nat.mul_mod_left _ _)]
  conv=>rhs; rw [hd,yG,Nat.mul_div_cancel _ hM]
 ·rw [if_neg hpe,show (e-p).toNat=0 by omega,yX,z9];have hk0:0 < (p-e).toNat:=by omega
  rw [qoq hM (λ_=>hk0),qpn hk0]
  congr 1
  unfold upS;have z1:¬ (0:Int)=1:=by omega
  have z2:¬ (0:Int)=2:=by omega
  have z3:¬ (0:Int)=3:=by omega
  simp only [z1,z2,z3,if_false,y4,zA,decide_eq_true_eq,decide_eq_false_iff_not,Decidable.not_not];refine qgK (and_congr ?_ Iff.rfl) _ _
  constructor
  ·intro h
   by_cases h0:N / M % 2 ^ (p-e).toNat=0
   ·exact .inr λh1=>h ⟨h0,h1⟩
   ·exact .inl h0
  ·rintro (h | h) ⟨h1,h2⟩
   ·exact h h1
   ·exact h h2
def q9h {N M:Nat} (hM:M≠0) {k:Nat} (h:bl M+k < bl N):k < bl (N / M):=by
 rcases zR k (bl (N / M)) with h1 | h1
 ·exact h1
 ·exfalso
  have h2:=q1k h1;have h3:=q2e M;have h4:N < 2 ^ k*2 ^ bl M:=by
   have h5:=yA N M;have h6:=zZ N (show 0 < M by omega);have h7:M*(N / M)+M<=M*2 ^ k:=by rw [<- wC]; exact zS _ h2
   have h8:M*2 ^ k<=2 ^ bl M*2 ^ k:=zK _ (xA h3);rw [zF (2 ^ k)]; omega
  rw [<- zJ] at h4;have:=q0P h4;omega
def qmW {mode:Int} {neg:Bool} {a b:Int} {k:Nat} (ha:a≠0) (hb:b≠0):rE mode neg ((od a).natAbs*2 ^ k) (od b).natAbs (dyE a-k-dyE b)=rF mode neg a.natAbs b.natAbs:=by
 have ha1:=q7C a;have hb1:=q7C b;have ha2:=q3c ha;have hb2:=q3c hb;have hoa:0 < (od a).natAbs:=by omega
 have hob:0 < (od b).natAbs:=by omega
 have hda:dyE a=(tz a.natAbs:Int)-65536:=by unfold dyE; rw [if_neg ha]
 have hdb:dyE b=(tz b.natAbs:Int)-65536:=by unfold dyE; rw [if_neg hb]
 unfold rE;refine q55 (zQ (zQ hoa (q0H _)) (q0H _)) (zQ hob (q0H _)) Oq Oq ?_;rw [hda,hdb];generalize tz a.natAbs=x at *;generalize tz b.natAbs=y at *;generalize (od a).natAbs=p at *;generalize (od b).natAbs=r at *;rw [<- ha1,<- hb1];have e1:p*2 ^ k*2 ^ (((x:Int)-65536-k-((y:Int)-65536)).toNat)*(r*2 ^ y)=p*r*2 ^ (k+((x:Int)-65536-k-((y:Int)-65536)).toNat+y):=by
  rw [zJ,zJ];simp only [zB,z0,zF]
 have e2:p*2 ^ x*(r*2 ^ (-((x:Int)-65536-k-((y:Int)-65536))).toNat)=p*r*2 ^ (x+(-((x:Int)-65536-k-((y:Int)-65536))).toNat):=by
  rw [zJ];simp only [zB,z0,zF]
 rw [e1,e2]
 congr 2
 omega
end Go.Sp
namespace Go.Dt
abbrev Mx:=Nat->Nat->Rat
def sq (g:Nat->Rat):Nat->Rat
 | 0=>0
 | n+1=>sq g n+g n
def q51 {g h:Nat->Rat}:∀ n,(∀ i,i < n->g i=h i)->sq g n=sq h n
 | 0,_=>rfl
 | n+1,e=>by rw [sq,sq,q51 n λi hi=>e i Oq,e n (by omega)]
def qeu {g h:Nat->Rat} {a b:Rat}:∀ n,sq (λi=>a*g i+b*h i) n=a*sq g n+b*sq h n
 | 0=>by simp [sq]; grind
 | n+1=>by rw [sq,sq,sq,qeu n]; grind
def q4c {g:Nat->Rat}:∀ n,(∀ i,i < n->g i=0)->sq g n=0
 | 0,_=>rfl
 | n+1,e=>by rw [sq,q4c n λi hi=>e i Oq,e n (by omega)]; grind
def qmK {g:Nat->Rat} {k:Nat}:∀ n,k < n->(∀ i,i < n->i≠k->g i=0)->sq g n=g k
 | 0,h,_=>by omega
 | n+1,h,e=>by
  rw [sq]
  by_cases hk:k=n
  ·subst hk; rw [q4c k λi hi=>e i Oq (by omega)]; grind
  ·rw [qmK n Oq λi hi hn=>e i Oq hn,e n Oq (by omega)]; grind
def qmJ {g:Nat->Rat} {k:Nat}:∀ n,k+1 < n->g k+g (k+1)=0->(∀ i,i < n->i≠k->i≠k+1->g i=0)->sq g n=0
 | 0,h,_,_=>by omega
 | n+1,h,h2,e=>by
  rw [sq]
  by_cases hk:k+1=n
  ·subst hk;rw [sq,q4c k λi hi=>e i Oq Oq (by omega)]; grind
  ·rw [qmJ n Oq h2 λi hi a b=>e i Oq a b,e n Oq Oq (by omega)]; grind
def sg1 (i:Nat):Rat:=if i % 2=0 then 1 else -1
def sg1_s (i:Nat):sg1 (i+1) = -sg1 i:=by unfold sg1; rcases xX i with h | h <;> simp [h,Nat.add_mod]
def mn (A:Mx) (i:Nat):Mx:=λr c=>A (if r < i then r else r+1) (c+1)
def det:Nat->Mx->Rat
 | 0,_=>1
 | n+1,A=>sq (λi=>sg1 i*A i 0*det n (mn A i)) (n+1)
def rw' (A:Mx) (k:Nat) (u:Nat->Rat):Mx:=λi j=>if i=k then u j else A i j
def q7s {A:Mx} {k:Nat} {u:Nat->Rat}:mn (rw' A k u) k=mn A k:=by
 funext r c
 unfold mn rw';rw [if_neg (by split <;> omega)]
def q7r {A:Mx} {k i:Nat} {u:Nat->Rat} (h:i≠k):mn (rw' A k u) i=rw' (mn A i) (if k < i then k else k-1) λc=>u (c+1):=by
 funext r c
 unfold mn rw'
 by_cases e:(if r < i then r else r+1)=k
 ·rw [if_pos e,if_pos (by split at e <;> split <;> omega)]
 ·have e2:¬ r=if k < i then k else k-1:=λq=>e (by
   by_cases h1:k < i
   ·rw [if_pos h1] at q; rw [if_pos (by omega)]; exact q
   ·rw [if_neg h1] at q; rw [if_neg (by omega)]; omega)
  rw [if_neg e,if_neg e2]
def q61:∀ (n:Nat) {A:Mx} {k:Nat} {u v:Nat->Rat} {a b:Rat},k < n->det n (rw' A k λj=>a*u j+b*v j)=a*det n (rw' A k u)+b*det n (rw' A k v)
 | 0,_,_,_,_,_,_,h=>by omega
 | n+1,A,k,u,v,a,b,h=>by
  rw [det,det,det,<- qeu];refine q51 _ λi hi=>?_
  by_cases e:i=k
  ·subst e;rw [q7s,q7s,q7s];simp only [rw',if_true]
   grind
  ·rw [q7r e,q7r e,q7r e,q61 n (by split <;> omega)];simp only [rw',if_neg e]
   grind
def qan:∀ (n:Nat) {A:Mx} {k:Nat},k+1 < n->(∀ j,A k j=A (k+1) j)->det n A=0
 | 0,_,_,h,_=>by omega
 | n+1,A,k,h,e=>by
  rw [det];refine qmJ (k:=k) _ h ?_ λi hi a b=>?_
  ·have:mn A k=mn A (k+1):=by
    funext r c
    unfold mn
    by_cases hr:r=k
    ·subst hr; rw [if_neg Oq,if_pos Oq,e]
    ·by_cases h2:r < k
     ·rw [if_pos h2,if_pos (by omega)]
     ·rw [if_neg h2,if_neg (by omega)]
   rw [this,sg1_s,e]
   grind
  ·rw [qan n (A:=mn A i) (k:=if i < k then k-1 else k) (by split <;> omega) λj=>?_]
   ·grind
   ·unfold mn
    by_cases q:i < k
    ·rw [if_pos q,if_neg Oq,if_neg (by omega)];rw [show k-1+1=k by omega];exact e _
    ·rw [if_neg q,if_pos Oq,if_pos (by omega)];exact e _
def qdL {A:Mx} {i k:Nat} {u v:Nat->Rat} (h:i≠k):rw' (rw' A i u) k v=rw' (rw' A k v) i u:=by
 funext r c
 unfold rw'
 by_cases h1:r=k
 ·rw [if_pos h1,if_neg Oq,if_pos h1]
 ·rw [if_neg h1]
  by_cases h2:r=i
  ·rw [if_pos h2,if_pos h2]
  ·rw [if_neg h2,if_neg h2,if_neg h1]
def qaS {A:Mx} {k:Nat}:rw' A k (A k)=A:=by
 funext r c
 unfold rw'
 split
 ·rename_i h; rw [h]
 ·rfl
def swp (A:Mx) (i k:Nat):Mx:=λr=>if r=i then A k else if r=k then A i else A r
def qtb {A:Mx} {i k:Nat} (h:i≠k):swp A i k=rw' (rw' A i (A k)) k (A i):=by
 funext r c
 unfold swp rw'
 by_cases h1:r=i
 ·rw [if_pos h1,if_neg Oq,if_pos h1]
 ·rw [if_neg h1]
  by_cases h2:r=k
  ·rw [if_pos h2,if_pos h2]
  ·rw [if_neg h2,if_neg h2,if_neg h1]
def q7L {n:Nat} {A:Mx} {i k:Nat} (hi:i < n) (hk:k < n) (h:i≠k) (hz:∀ u,det n (rw' (rw' A i u) k u)=0):det n (swp A i k) = -det n A:=by
 have e:=hz λj=>1*A i j+1*A k j;rw [q61 n hk,qdL h,qdL h,q61 n hi,q61 n hi] at e;rw [qdL (Ne.symm h),qdL (Ne.symm h),qdL (Ne.symm h),qdL (Ne.symm h)] at e;have z1:=hz (A i);have z2:=hz (A k);have s1:rw' (rw' A i (A i)) k (A k)=A:=by rw [qaS,qaS]
 rw [z1,z2,s1,<- qtb h] at e
 grind
def qhQ:∀ (d:Nat) {n:Nat} {A:Mx} {i:Nat},i+d+1 < n->(∀ j,A i j=A (i+d+1) j)->det n A=0
 | 0,n,A,i,h,e=>qan n h e
 | d+1,n,A,i,h,e=>by
  have s:=q7L (n:=n) (A:=A) (i:=i+d+1) (k:=i+d+2) Oq Oq Oq λu=>qan n (k:=i+d+1) Oq λj=>by
   unfold rw';rw [if_neg Oq,if_pos rfl,if_pos rfl]
  have z:=qhQ d (n:=n) (A:=swp A (i+d+1) (i+d+2)) (i:=i) Oq λj=>by
   unfold swp;rw [if_neg Oq,if_neg Oq,if_pos rfl];exact e j
  grind
def qc3 {n:Nat} {A:Mx} {i k:Nat} (hi:i < n) (hk:k < n) (h:i≠k) (e:∀ j,A i j=A k j):det n A=0:=by
 rcases Nat.lt_or_gt_of_ne h with q | q
 ·obtain ⟨d,rfl⟩:∃ d,k=i+d+1:=⟨k-i-1,by omega⟩;exact qhQ d hk e
 ·obtain ⟨d,rfl⟩:∃ d,i=k+d+1:=⟨i-k-1,by omega⟩;exact qhQ d hi λj=>(e j).symm
def qq8 {n:Nat} {A:Mx} {i k:Nat} (hi:i < n) (hk:k < n) (h:i≠k):det n (swp A i k) = -det n A :=
 q7L hi hk h λu=>qc3 hi hk h λj=>by
  unfold rw';rw [if_neg h,if_pos rfl,if_pos rfl]
def qkv {n:Nat} {A:Mx} {m k:Nat} {c:Rat} (hm:m < n) (hk:k < n) (h:m≠k):det n (rw' A m λj=>A m j+c*A k j)=det n A:=by
 have e:=q61 n (A:=A) (k:=m) (u:=A m) (v:=A k) (a:=1) (b:=c) hm;rw [qaS,qc3 (A:=rw' A m (A k)) hm hk h λj=>by unfold rw'; rw [if_pos rfl,if_neg (Ne.symm h)]] at e;have e2:(λj=>A m j+c*A k j)=λj=>1*A m j+c*A k j:=by funext j; grind
 rw [e2,e]
 grind
def pr (g:Nat->Rat):Nat->Rat
 | 0=>1
 | n+1=>pr g n*g n
def qbq {g:Nat->Rat}:∀ n,pr g (n+1)=g 0*pr (λi=>g (i+1)) n
 | 0=>by simp [pr]
 | n+1=>by rw [pr,qbq n,pr]; grind
def mv (n:Nat) (A:Mx) (x:Nat->Rat) (i:Nat):Rat:=sq (λc=>A i c*x c) n
structure RE (n:Nat) (A B:Mx) (s:Rat):Prop where
 d:det n A=s*det n B
 k:∀ x,(∀ i,i < n->mv n B x i=0)->∀ i,i < n->mv n A x i=0
 k':∀ x,(∀ i,i < n->mv n A x i=0)->∀ i,i < n->mv n B x i=0
 b:∀ b:Nat->Rat,∃ b':Nat->Rat,∀ x,(∀ i,i < n->mv n B x i=b' i)->∀ i,i < n->mv n A x i=b i
def RE.refl {n:Nat} {A:Mx}:RE n A A 1:=⟨by grind,λ_ h=>h,λ_ h=>h,λb=>⟨b,λ_ h=>h⟩⟩
def RE.trans {n:Nat} {A B C:Mx} {s t:Rat} (h:RE n A B s) (g:RE n B C t):RE n A C (s*t) :=
 ⟨by rw [h.d,g.d]; grind,λx q=>h.k x (g.k x q),λx q=>g.k' x (h.k' x q),λb=>by
  obtain ⟨b',hb⟩:=h.b b;obtain ⟨c,hc⟩:=g.b b';exact ⟨c,λx q=>hb x (hc x q)⟩⟩
def q6L {n:Nat} {A:Mx} {x:Nat->Rat} {i k r:Nat}:mv n (swp A i k) x r=if r=i then mv n A x k else if r=k then mv n A x i else mv n A x r:=by
 unfold mv swp
 split
 ·rfl
 ·split <;> rfl
def RE.swp {n:Nat} {A:Mx} {i k:Nat} (hi:i < n) (hk:k < n):RE n A (swp A i k) (if i=k then 1 else -1):=by
 refine ⟨?_,λx h r hr=>?_,λx h r hr=>?_,λb=>⟨λr=>if r=i then b k else if r=k then b i else b r,λx h r hr=>?_⟩⟩
 ·by_cases e:i=k
  ·subst e;have:Go.Dt.swp A i i=A:=by
    funext r
    unfold Go.Dt.swp
    by_cases h:r=i
    ·rw [if_pos h,h]
    ·rw [if_neg h,if_neg h]
   rw [this,if_pos rfl]; grind
  ·rw [if_neg e,qq8 hi hk e]; grind
 ·by_cases h1:r=i
  ·have:=h k hk;rw [q6L] at this
   by_cases h2:k=i
   ·rw [if_pos h2] at this; rw [h1,<- h2]; exact this
   ·rw [if_neg h2,if_pos rfl] at this; rw [h1]; exact this
  ·by_cases h2:r=k
   ·have:=h i hi;rw [q6L,if_pos rfl] at this;rw [h2]; exact this
   ·have:=h r hr;rw [q6L,if_neg h1,if_neg h2] at this;exact this
 ·rw [q6L]
  split
  ·exact h k hk
  ·split
   ·exact h i hi
   ·exact h r hr
 ·by_cases h1:r=i
  ·have:=h k hk;rw [q6L] at this;dsimp only at this
   by_cases h2:k=i
   ·rw [if_pos h2,if_pos h2] at this; rw [h1,<- h2]; rw [h2] at this ⊢; exact this
   ·rw [if_neg h2,if_pos rfl,if_neg h2,if_pos rfl] at this; rw [h1]; exact this
  ·by_cases h2:r=k
   ·have:=h i hi;rw [q6L] at this;dsimp only at this;rw [if_pos rfl,if_pos rfl] at this;rw [h2]; exact this
   ·have:=h r hr;rw [q6L] at this;dsimp only at this;rw [if_neg h1,if_neg h2,if_neg h1,if_neg h2] at this;exact this
def qfi {n:Nat} {A:Mx} {x:Nat->Rat} {m k r:Nat} {c:Rat}:mv n (rw' A m λj=>A m j+c*A k j) x r=if r=m then mv n A x m+c*mv n A x k else mv n A x r:=by
 unfold mv rw'
 split
 ·have:(λj=>(A m j+c*A k j)*x j)=λj=>1*(A m j*x j)+c*(A k j*x j):=by funext j; grind
  rw [this,qeu]; grind
 ·rfl
def RE.add {n:Nat} {A:Mx} {m k:Nat} {c:Rat} (hm:m < n) (hk:k < n) (h:m≠k):RE n A (rw' A m λj=>A m j+c*A k j) 1:=by
 refine ⟨?_,λx q r hr=>?_,λx q r hr=>?_,λb=>⟨λr=>if r=m then b m+c*b k else b r,λx q r hr=>?_⟩⟩
 ·rw [qkv hm hk h]; grind
 ·have h1:=q m hm;have h2:=q k hk;have h3:=q r hr;rw [qfi] at h1 h2 h3;rw [if_pos rfl] at h1;rw [if_neg (Ne.symm h)] at h2
  by_cases e:r=m
  ·subst e; grind
  ·rw [if_neg e] at h3; exact h3
 ·rw [qfi]
  split
  ·rw [q m hm,q k hk]; grind
  ·exact q r hr
 ·have h1:=q m hm;have h2:=q k hk;have h3:=q r hr;rw [qfi] at h1 h2 h3;dsimp only at h1 h2 h3;rw [if_pos rfl,if_pos rfl] at h1;rw [if_neg (Ne.symm h),if_neg (Ne.symm h)] at h2
  by_cases e:r=m
  ·subst e; grind
  ·rw [if_neg e,if_neg e] at h3; exact h3
def el (A:Mx) (k j m:Nat):Mx:=λr c=>if k < r/\r < m/\j<=c then A r c-A r j*A k c / A k j else A r c
def el_s {A:Mx} {k j m:Nat} (hkm:k < m) (h0:∀ c,c < j->A k c=0):el A k j (m+1)=rw' (el A k j m) m λc=>el A k j m m c+(-(A m j / A k j))*el A k j m k c:=by
 funext r c
 unfold el rw';dsimp only
 by_cases h:r=m
 ·subst h;have e1:¬ (k < r/\r < r/\j<=c):=by omega
  have e2:¬ (k < k/\k < r/\j<=c):=by omega
  rw [if_pos rfl,if_neg e1,if_neg e2]
  by_cases hc:j<=c
  ·rw [if_pos (by omega)];have:A r j*A k c / A k j=A r j / A k j*A k c:=by rw [Rat.div_def,Rat.div_def]; grind
   rw [this]; grind
  ·rw [if_neg Oq,h0 c (by omega)]; grind
 ·rw [if_neg h]
  by_cases hc:k < r/\r < m/\j<=c
  ·rw [if_pos hc,if_pos (by omega)]
  ·rw [if_neg hc,if_neg (by omega)]
def el_0 {A:Mx} {k j m:Nat} (h:m<=k+1):el A k j m=A:=by
 funext r c
 unfold el;rw [if_neg (by omega)]
def RE.el {n:Nat} {A:Mx} {k j:Nat} (hk:k < n) (h0:∀ c,c < j->A k c=0):∀ m,m<=n->RE n A (el A k j m) 1
 | 0,_=>by rw [el_0 (by omega)]; exact RE.refl
 | m+1,hm=>by
  by_cases h:k < m
  ·rw [el_s h h0];have:=(RE.el hk h0 m Oq).trans (RE.add (A:=Go.Dt.el A k j m) (m:=m) (k:=k) (c := -(A m j / A k j)) Oq hk Oq);have e:(1:Rat)*1=1:=by grind
   rwa [e] at this
  ·rw [el_0 (by omega)]; exact RE.refl
structure Up (n j:Nat) (A:Mx):Prop where
 z:∀ i c,i < n->c < j->c < i->A i c=0
 d:∀ c,c < j->A c c≠0
def qb6 {g:Nat->Rat} {m:Nat}:∀ d,(∀ i,m<=i->i < m+d->g i=0)->sq g (m+d)=sq g m
 | 0,_=>rfl
 | d+1,h=>by rw [<- y0,sq,qb6 d λi h1 h2=>h i h1 Oq,h (m+d) Oq (by omega)]; grind
def qlg:∀ (n:Nat) {A:Mx},Up n n A->∀ b:Nat->Rat,∃ x,∀ i,i < n->mv n A x i=b i
 | 0,_,_,_=>⟨λ_=>0,λ_ h=>by omega⟩
 | n+1,A,h,b=>by
  obtain ⟨x,hx⟩:=qlg n (A:=A) ⟨λi c hi hc q=>h.z i c Oq Oq q,λc hc=>h.d c Oq⟩ λi=>b i-A i n*(b n / A n n);refine ⟨λc=>if c=n then b n / A n n else x c,λi hi=>?_⟩;unfold mv;rw [sq];dsimp only;rw [if_pos rfl]
  by_cases e:i=n
  ·subst e;rw [q4c i λc hc=>by rw [h.z i c Oq Oq hc]; grind];have:=h.d i Oq;have e2:A i i*(b i / A i i)=b i:=by rw [Rat.mul_comm]; exact Rat.div_mul_cancel this
   rw [e2]; grind
  ·have:=hx i Oq;unfold mv at this;rw [q51 n λc hc=>by rw [if_neg (show c≠n by omega)],this]
   grind
def shf (A:Mx) (j:Nat):Mx:=λr c=>A (r+j) (c+j)
def qwj {n:Nat} {A:Mx} (h:∀ i,i < n+1->i≠0->A i 0=0):det (n+1) A=A 0 0*det n (shf A 1):=by
 have e:mn A 0=shf A 1:=by
  funext r c
  unfold mn shf;rw [if_neg (by omega)]
 rw [det,qmK (k:=0) _ Oq λi hi h0=>by rw [h i hi h0]; grind,e];simp [sg1]
def qhR:∀ (j:Nat) {d:Nat} {A:Mx},(∀ i c,i < j+d->c < j->c < i->A i c=0)->det (j+d) A=pr (λi=>A i i) j*det d (shf A j)
 | 0,d,A,_=>by
  have:shf A 0=A:=rfl;rw [this,zW,pr]; grind
 | j+1,d,A,h=>by
  rw [show j+1+d=(j+d)+1 by omega,qwj λi hi h0=>h i 0 Oq Oq Oq,qhR j (d:=d) (A:=shf A 1) λi c hi hc q=>h (i+1) (c+1) Oq Oq Oq,qbq];have:shf (shf A 1) j=shf A (j+1):=by
   funext r c
   unfold shf;rw [y0,y0]
  rw [this];unfold shf
  grind
def qhP {n j:Nat} {A:Mx} (hj:j < n) (h:∀ i c,i < n->c < j->c < i->A i c=0) (hz:∀ i,i < n->j<=i->A i j=0):det n A=0:=by
 obtain ⟨d,rfl⟩:∃ d,n=j+(d+1):=⟨n-j-1,by omega⟩;rw [qhR j h,det,q4c _ λi hi=>by
  have:shf A j i 0=0:=by unfold shf; rw [zW]; exact hz (i+j) Oq Oq
  rw [this]; grind]
 grind
def qgJ {n j:Nat} {A:Mx} (hj:j < n) (h:Up n j A) (hz:∀ i,i < n->j<=i->A i j=0):∃ x:Nat->Rat,(∀ i,i < n->mv n A x i=0)/\x j≠0:=by
 obtain ⟨y,hy⟩:=qlg j (A:=A) ⟨λi c hi hc q=>h.z i c Oq hc q,h.d⟩ λi => -(A i j);refine ⟨λc=>if c < j then y c else if c=j then 1 else 0,λi hi=>?_,?_⟩
 ·obtain ⟨d,rfl⟩:∃ d,n=(j+1)+d:=⟨n-j-1,by omega⟩;unfold mv;rw [qb6 d λc h1 h2=>by dsimp only; rw [if_neg Oq,if_neg (by omega)]; grind,sq];dsimp only;rw [if_neg (Nat.lt_irrefl _),if_pos rfl,q51 j (h:=λc=>A i c*y c) λc hc=>by rw [if_pos hc]]
  by_cases e:i < j
  ·have:=hy i e;unfold mv at this;rw [this]; grind
  ·rw [q4c j λc hc=>by rw [h.z i c hi hc (by omega)]; grind,hz i hi (by omega)]; grind
 ·dsimp only;rw [if_neg (Nat.lt_irrefl _),if_pos rfl]; decide
def fnz (A:Mx) (j:Nat):Nat->Nat->Nat
 | i,0=>i
 | i,m+1=>if A i j=0 then fnz A j (i+1) m else i
def qmr {A:Mx} {j:Nat}:∀ m i,(fnz A j i m=i+m/\∀ t,i<=t->t < i+m->A t j=0)\/(i<=fnz A j i m/\fnz A j i m < i+m/\A (fnz A j i m) j≠0)
 | 0,i=>.inl ⟨rfl,λt h1 h2=>by omega⟩
 | m+1,i=>by
  rw [fnz]
  by_cases h:A i j=0
  ·rw [if_pos h]
   rcases qmr (A:=A) (j:=j) m (i+1) with ⟨q1,q2⟩ | ⟨q1,q2,q3⟩
   ·refine .inl ⟨by omega,λt h1 h2=>?_⟩
    by_cases e:t=i
    ·rw [e]; exact h
    ·exact q2 t Oq Oq
   ·exact .inr ⟨by omega,by omega,q3⟩
  ·rw [if_neg h];exact .inr ⟨yJ _,by omega,h⟩
def est (n j:Nat) (s:Mx × Nat × Rat):Mx × Nat × Rat :=
 if fnz s.1 j s.2.1 (n-s.2.1)=n then s else
  (el (swp s.1 (fnz s.1 j s.2.1 (n-s.2.1)) s.2.1) s.2.1 j n,s.2.1+1,(if fnz s.1 j s.2.1 (n-s.2.1)=s.2.1 then s.2.2 else -s.2.2)*swp s.1 (fnz s.1 j s.2.1 (n-s.2.1)) s.2.1 s.2.1 j)
def ech (n:Nat) (A:Mx):Nat->Mx × Nat × Rat
 | 0=>(A,0,1)
 | j+1=>est n j (ech n A j)
def EI (n j:Nat) (A:Mx) (s:Mx × Nat × Rat):Prop:=(s.2.1=j/\∃ g:Rat,g≠0/\RE n A s.1 g/\Up n j s.1/\s.2.2=g*pr (λt=>s.1 t t) j)\/(s.2.1 < j/\det n A=0/\∃ x t,t < n/\(∀ i,i < n->mv n A x i=0)/\x t≠0)
def qbr {g h:Nat->Rat}:∀ n,(∀ i,i < n->g i=h i)->pr g n=pr h n
 | 0,_=>rfl
 | n+1,e=>by rw [pr,pr,qbr n λi hi=>e i Oq,e n (by omega)]
def EI.s {n j:Nat} {A:Mx} {s:Mx × Nat × Rat} (hj:j < n) (h:EI n j A s):EI n (j+1) A (est n j s):=by
 obtain ⟨B,k,d⟩:=s;unfold est;dsimp only
 rcases h with ⟨h1,g,hg,hR,hU,hd⟩ | ⟨h1,h2⟩
 ·dsimp only at h1 hR hU hd;subst h1
  rcases qmr (A:=B) (j:=k) (n-k) k with ⟨q1,q2⟩ | ⟨q1,q2,q3⟩
  ·rw [if_pos (by omega)];obtain ⟨x,hx,ht⟩:=qgJ hj hU λi hi hk=>q2 i hk Oq;refine .inr ⟨by dsimp only; omega,?_,x,k,hj,hR.k x hx,ht⟩;rw [hR.d,qhP hj hU.z λi hi hk=>q2 i hk (by omega)]; grind
  ·generalize fnz B k k (n-k)=i at *;rw [if_neg (by omega)];have hS:=RE.swp (A:=B) (i:=i) (k:=k) (n:=n) Oq hj;have hSU:Up n k (swp B i k):=⟨λr c hr hc q=>by
    unfold swp
    split
    ·exact hU.z k c hj hc hc
    ·split
     ·exact hU.z i c Oq hc Oq
     ·exact hU.z r c hr hc q,λc hc=>by
    unfold swp;rw [if_neg Oq,if_neg (by omega)];exact hU.d c hc⟩
   have hkk:swp B i k k k≠0:=by
    unfold swp
    split
    ·rename_i e; rw [e,<- e]; rw [<- e] at q3; exact q3
    ·rw [if_pos rfl]; exact q3
   have hsd:∀ t,t < k->swp B i k t t=B t t:=λt ht=>by unfold swp; rw [if_neg Oq,if_neg (by omega)]
   generalize swp B i k=W at *;have hE:=RE.el (n:=n) (A:=W) (k:=k) (j:=k) hj (λc hc=>hSU.z k c hj hc hc) n (yJ _);have hed:∀ t,t<=k->el W k k n t t=W t t:=λt ht=>by unfold el; rw [if_neg (by omega)]
   refine .inl ⟨rfl,_,?_,(hR.trans hS).trans hE,⟨λr c hr hc q=>?_,λc hc=>?_⟩,?_⟩
   ·split <;> grind
   ·dsimp only;unfold el
    by_cases e:c=k
    ·subst e;rw [if_pos ⟨q,hr,yJ _⟩];have e2:W r c*W c c / W c c=W r c:=by rw [Rat.div_def,Rat.mul_assoc,Rat.mul_inv_cancel _ hkk]; grind
     rw [e2]; grind
    ·rw [if_neg (by omega)];exact hSU.z r c hr Oq q
   ·dsimp only;rw [hed c (by omega)]
    by_cases e:c=k
    ·rw [e]; exact hkk
    ·exact hSU.d c Oq
   ·dsimp only;rw [pr,hed k (yJ _),qbr k (h:=λt=>B t t) λt ht=>by rw [hed t Oq,hsd t ht],hd]
    split <;> grind
 ·dsimp only at h1
  split
  ·exact .inr ⟨by dsimp only; omega,h2⟩
  ·exact .inr ⟨by dsimp only; omega,h2⟩
def EI.all {n:Nat} {A:Mx}:∀ j,j<=n->EI n j A (ech n A j)
 | 0,_=>.inl ⟨rfl,1,by decide,RE.refl,⟨λ_ _ _ h=>by omega,λ_ h=>by omega⟩,by simp [ech,pr]⟩
 | j+1,h=>(EI.all j Oq).s Oq
end Go.Dt
