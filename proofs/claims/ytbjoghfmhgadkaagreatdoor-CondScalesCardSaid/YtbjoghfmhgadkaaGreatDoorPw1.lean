/- CondScales is proved. 1/7. -/
import Derived.Carry
import Derived.LaidMore
import Derived.Laws.CopyRow
import Derived.Laws.OwnMore
import Derived.Laws.Strings
import Derived.MapKept
import Derived.Maps.AppendAt
import Derived.OpenShut
import Derived.Orders
import Derived.ProofKit
import Derived.Stop.Joined
import Derived.Test.YtbjoghfmhgadkaaGreatDoorProg
import Derived.Test.YtbjoghfmhgadkaaGreatDoorRows
import Derived.WalkKit
open Array renaming length_toList->zX,getD_eq_getD_getElem?->yI,getElem?_toList->yN,getElem?_setIfInBounds->yX,getElem?_eq_getElem->y9,getElem?_eq_none->xE,size_setIfInBounds->vE,toList_map->vF,replicate->wH,mem_of_getElem?->wK,mem_toList_iff->wO
open Bool renaming and_eq_true->zG,or_eq_false_iff->yQ,false_eq_true->w7
open Int renaming mul_neg_of_neg_of_pos->xW,mul_assoc->vG,ne_of_gt->wE,natCast_mul->wJ,natAbs_neg->wN,ediv_emod_unique->wT,neg_mul->wV,pow_add->wW,mul_ediv_cancel->w4,le_total->w9,zero_mul->vA,mul_neg->vC
open List renaming getElem?_eq_getElem->zD,getElem?_drop->zP,getD_eq_getElem?_getD->zR,getElem?_take->vH,length_take->zU,mem_cons_of_mem->zY,getElem?_eq_none->z8,mem_cons_self->z9,length_cons->yA,take_of_length_le->yJ,drop_of_length_le->yK,getElem?_eq_some_iff->yO,mem_of_getElem?->yR,map_cons->yU,getElem?_toArray->vI,flatMap_cons->vJ,mem_of_mem_take->vM,map_nil->y6,all_eq_true->y7,cons->xC,take_succ_eq_append_getElem->xF,ext_getElem?->xI,any_eq_true->xN,map_toArray->xO,mem_of_mem_drop->xP,mem_append_left->xQ,getElem?_append->xR,drop_eq_getElem_cons->xV,getElem?_eq_none_iff->xX,getElem?_cons_succ->x8,mem_append->wI,mem_append_right->wL,mem_range->wQ,getElem?_set_ne->wS,drop_drop->wX,take_succ_cons->w5,mem_singleton->w6,length_append->w8
open Nat renaming mul_assoc->zB,mul_add->zC,pow_succ->zF,mod_eq_of_lt->zH,mul_comm->zI,pow_add->zJ,mul_le_mul_right->zK,le_trans->zL,pow_le_pow_right->zM,lt_or_ge->zN,mul_le_mul_left->zQ,mul_pos->zS,and_two_pow_sub_one_eq_mod->zV,mod_lt->zW,mul_one->vN,mul_left_comm->vO,add_zero->vP,div_add_mod->vQ,one_mul->z6,add_mul_mod_self_left->z7,add_sub_cancel->yB,lt_of_le_of_lt->yC,lt_of_lt_of_le->vR,mul_right_comm->yE,eq_zero_or_pos->yF,pow_lt_pow_iff_right->yG,add_mul->yH,le_refl->yL,div_eq_of_lt->yM,min_eq_left->yP,pow_zero->yS,testBit_eq_decide_div_mod_eq->vS,testBit_two_pow->yV,zero_add->yW,testBit_and->yZ,eq_of_beq_eq_true->vT,add_mul_div_left->vV,eq_of_testBit_eq->vW,le_of_lt->y8,add_assoc->xA,mul_eq_zero->xB,le_mul_of_pos_right->xD,mul_zero->xG,div_div_eq_div_mul->xH,div_lt_iff_lt_mul->xJ,mul_div_mul_right->xK,mul_mod_mul_right->xL,mod_add_div->xS,succ_mul->xT,eq_of_mul_eq_mul_right->xU,pow_pos->xY,mod_mul->xZ,testBit_zero->x9,testBit_succ->vX,and_or_distrib_left->vY,zero_mul->wC,mul_succ->wD,le_mul_of_pos_left->wF,add_comm->wG,le_div_iff_mul_le->wM,div_pos->wP,pow_mul->wR,pow_lt_pow_right->wU,beq->wY,add_eq_zero_iff->wZ,or_comm->vB,div_one->vZ
open Option renaming map_eq_some_iff->zA,some->zE,bind_eq_some_iff->zO,map_some->yY,bind_some->xM,isSome_iff_exists->v5
set_option linter.unusedSimpArgs false
set_option linter.unusedVariables false
set_option maxRecDepth 20000
set_option maxHeartbeats 2000000
set_option linter.defProp false
theorem Go.ω {p:Prop} (e:p:=by omega):p:=e
theorem Go.κ {p:Prop} (e:p:=by kernel_rfl):p:=e
theorem Go.σ {p:Prop} (e:p:=by simp):p:=e
namespace Go
def Zz {p q : Prop} (k : q) (e : p = q := by simp -implicitDefEqProofs (disch := omega) only [go_sem, Nat.reduceEqDiff, Nat.reduceAdd, ↓reduceIte]; exact rfl) : p := e.mpr k
def Ue {p : Prop} (e : p := by (try simp only [qjQ, Nat.reduceEqDiff, ↓reduceIte]); first | done | assumption | exact rfl) : p := e
def Rf {p : Prop} (e : p := by first | exact rfl | assumption | exact Ue) : p := e
theorem Oq {p : Prop} (e : p := by omega) : p := e
def Om {p : Prop} (e : p := by first | omega | (simp only [Int.natAbs_natCast, Int.natAbs_neg]; omega)) : p := e
def Lk {p : Prop} (e : p := by first | (simp -implicitDefEqProofs (disch := omega) only [go_sem, Nat.reduceEqDiff, Nat.reduceAdd, ↓reduceIte, ↓List.map_cons, ↓List.map_nil]; done) | (simp -implicitDefEqProofs (disch := omega) only [go_sem, Nat.reduceEqDiff, Nat.reduceAdd, ↓reduceIte, ↓List.map_cons, ↓List.map_nil]; rfl) | rfl) : p := e
def Lq {p : Prop} (e : p := by first | (simp -implicitDefEqProofs (disch := omega) only [go_sem, Nat.reduceEqDiff, Nat.reduceAdd, ↓reduceIte]; done) | (simp -implicitDefEqProofs (disch := omega) only [go_sem, Nat.reduceEqDiff, Nat.reduceAdd, ↓reduceIte]; rfl) | rfl) : p := e
def Cz {p : Prop} (e : p := by simp only [go_sem, Nat.reduceEqDiff, ↓reduceIte]) : p := e
def Zy {p : Prop}  (e : p := by simp -implicitDefEqProofs (disch := omega) only [go_sem, Nat.reduceEqDiff, Nat.reduceAdd, ↓reduceIte]) : p := e
def Zy1 {p F1 : Prop} (f1 : F1) (e : F1 -> p := by intro g1; simp -implicitDefEqProofs (disch := omega) only [go_sem, Nat.reduceEqDiff, Nat.reduceAdd, ↓reduceIte, g1]) : p := e f1
def Zy2 {p F1 F2 : Prop} (f1 : F1) (f2 : F2) (e : F1 -> F2 -> p := by intro g1 g2; simp -implicitDefEqProofs (disch := omega) only [go_sem, Nat.reduceEqDiff, Nat.reduceAdd, ↓reduceIte, g1, g2]) : p := e f1 f2
def Zy3 {p F1 F2 F3 : Prop} (f1 : F1) (f2 : F2) (f3 : F3) (e : F1 -> F2 -> F3 -> p := by intro g1 g2 g3; simp -implicitDefEqProofs (disch := omega) only [go_sem, Nat.reduceEqDiff, Nat.reduceAdd, ↓reduceIte, g1, g2, g3]) : p := e f1 f2 f3
def Zy4 {p F1 F2 F3 F4 : Prop} (f1 : F1) (f2 : F2) (f3 : F3) (f4 : F4) (e : F1 -> F2 -> F3 -> F4 -> p := by intro g1 g2 g3 g4; simp -implicitDefEqProofs (disch := omega) only [go_sem, Nat.reduceEqDiff, Nat.reduceAdd, ↓reduceIte, g1, g2, g3, g4]) : p := e f1 f2 f3 f4
def Zy5 {p F1 F2 F3 F4 F5 : Prop} (f1 : F1) (f2 : F2) (f3 : F3) (f4 : F4) (f5 : F5) (e : F1 -> F2 -> F3 -> F4 -> F5 -> p := by intro g1 g2 g3 g4 g5; simp -implicitDefEqProofs (disch := omega) only [go_sem, Nat.reduceEqDiff, Nat.reduceAdd, ↓reduceIte, g1, g2, g3, g4, g5]) : p := e f1 f2 f3 f4 f5
def Zy6 {p F1 F2 F3 F4 F5 F6 : Prop} (f1 : F1) (f2 : F2) (f3 : F3) (f4 : F4) (f5 : F5) (f6 : F6) (e : F1 -> F2 -> F3 -> F4 -> F5 -> F6 -> p := by intro g1 g2 g3 g4 g5 g6; simp -implicitDefEqProofs (disch := omega) only [go_sem, Nat.reduceEqDiff, Nat.reduceAdd, ↓reduceIte, g1, g2, g3, g4, g5, g6]) : p := e f1 f2 f3 f4 f5 f6
def Zy7 {p F1 F2 F3 F4 F5 F6 F7 : Prop} (f1 : F1) (f2 : F2) (f3 : F3) (f4 : F4) (f5 : F5) (f6 : F6) (f7 : F7) (e : F1 -> F2 -> F3 -> F4 -> F5 -> F6 -> F7 -> p := by intro g1 g2 g3 g4 g5 g6 g7; simp -implicitDefEqProofs (disch := omega) only [go_sem, Nat.reduceEqDiff, Nat.reduceAdd, ↓reduceIte, g1, g2, g3, g4, g5, g6, g7]) : p := e f1 f2 f3 f4 f5 f6 f7
def Zy8 {p F1 F2 F3 F4 F5 F6 F7 F8 : Prop} (f1 : F1) (f2 : F2) (f3 : F3) (f4 : F4) (f5 : F5) (f6 : F6) (f7 : F7) (f8 : F8) (e : F1 -> F2 -> F3 -> F4 -> F5 -> F6 -> F7 -> F8 -> p := by intro g1 g2 g3 g4 g5 g6 g7 g8; simp -implicitDefEqProofs (disch := omega) only [go_sem, Nat.reduceEqDiff, Nat.reduceAdd, ↓reduceIte, g1, g2, g3, g4, g5, g6, g7, g8]) : p := e f1 f2 f3 f4 f5 f6 f7 f8
def Zy9 {p F1 F2 F3 F4 F5 F6 F7 F8 F9 : Prop} (f1 : F1) (f2 : F2) (f3 : F3) (f4 : F4) (f5 : F5) (f6 : F6) (f7 : F7) (f8 : F8) (f9 : F9) (e : F1 -> F2 -> F3 -> F4 -> F5 -> F6 -> F7 -> F8 -> F9 -> p := by intro g1 g2 g3 g4 g5 g6 g7 g8 g9; simp -implicitDefEqProofs (disch := omega) only [go_sem, Nat.reduceEqDiff, Nat.reduceAdd, ↓reduceIte, g1, g2, g3, g4, g5, g6, g7, g8, g9]) : p := e f1 f2 f3 f4 f5 f6 f7 f8 f9
def Zy10 {p F1 F2 F3 F4 F5 F6 F7 F8 F9 F10 : Prop} (f1 : F1) (f2 : F2) (f3 : F3) (f4 : F4) (f5 : F5) (f6 : F6) (f7 : F7) (f8 : F8) (f9 : F9) (f10 : F10) (e : F1 -> F2 -> F3 -> F4 -> F5 -> F6 -> F7 -> F8 -> F9 -> F10 -> p := by intro g1 g2 g3 g4 g5 g6 g7 g8 g9 g10; simp -implicitDefEqProofs (disch := omega) only [go_sem, Nat.reduceEqDiff, Nat.reduceAdd, ↓reduceIte, g1, g2, g3, g4, g5, g6, g7, g8, g9, g10]) : p := e f1 f2 f3 f4 f5 f6 f7 f8 f9 f10
def Zy11 {p F1 F2 F3 F4 F5 F6 F7 F8 F9 F10 F11 : Prop} (f1 : F1) (f2 : F2) (f3 : F3) (f4 : F4) (f5 : F5) (f6 : F6) (f7 : F7) (f8 : F8) (f9 : F9) (f10 : F10) (f11 : F11) (e : F1 -> F2 -> F3 -> F4 -> F5 -> F6 -> F7 -> F8 -> F9 -> F10 -> F11 -> p := by intro g1 g2 g3 g4 g5 g6 g7 g8 g9 g10 g11; simp -implicitDefEqProofs (disch := omega) only [go_sem, Nat.reduceEqDiff, Nat.reduceAdd, ↓reduceIte, g1, g2, g3, g4, g5, g6, g7, g8, g9, g10, g11]) : p := e f1 f2 f3 f4 f5 f6 f7 f8 f9 f10 f11
def Zy12 {p F1 F2 F3 F4 F5 F6 F7 F8 F9 F10 F11 F12 : Prop} (f1 : F1) (f2 : F2) (f3 : F3) (f4 : F4) (f5 : F5) (f6 : F6) (f7 : F7) (f8 : F8) (f9 : F9) (f10 : F10) (f11 : F11) (f12 : F12) (e : F1 -> F2 -> F3 -> F4 -> F5 -> F6 -> F7 -> F8 -> F9 -> F10 -> F11 -> F12 -> p := by intro g1 g2 g3 g4 g5 g6 g7 g8 g9 g10 g11 g12; simp -implicitDefEqProofs (disch := omega) only [go_sem, Nat.reduceEqDiff, Nat.reduceAdd, ↓reduceIte, g1, g2, g3, g4, g5, g6, g7, g8, g9, g10, g11, g12]) : p := e f1 f2 f3 f4 f5 f6 f7 f8 f9 f10 f11 f12
def Zy13 {p F1 F2 F3 F4 F5 F6 F7 F8 F9 F10 F11 F12 F13 : Prop} (f1 : F1) (f2 : F2) (f3 : F3) (f4 : F4) (f5 : F5) (f6 : F6) (f7 : F7) (f8 : F8) (f9 : F9) (f10 : F10) (f11 : F11) (f12 : F12) (f13 : F13) (e : F1 -> F2 -> F3 -> F4 -> F5 -> F6 -> F7 -> F8 -> F9 -> F10 -> F11 -> F12 -> F13 -> p := by intro g1 g2 g3 g4 g5 g6 g7 g8 g9 g10 g11 g12 g13; simp -implicitDefEqProofs (disch := omega) only [go_sem, Nat.reduceEqDiff, Nat.reduceAdd, ↓reduceIte, g1, g2, g3, g4, g5, g6, g7, g8, g9, g10, g11, g12, g13]) : p := e f1 f2 f3 f4 f5 f6 f7 f8 f9 f10 f11 f12 f13
def Zy14 {p F1 F2 F3 F4 F5 F6 F7 F8 F9 F10 F11 F12 F13 F14 : Prop} (f1 : F1) (f2 : F2) (f3 : F3) (f4 : F4) (f5 : F5) (f6 : F6) (f7 : F7) (f8 : F8) (f9 : F9) (f10 : F10) (f11 : F11) (f12 : F12) (f13 : F13) (f14 : F14) (e : F1 -> F2 -> F3 -> F4 -> F5 -> F6 -> F7 -> F8 -> F9 -> F10 -> F11 -> F12 -> F13 -> F14 -> p := by intro g1 g2 g3 g4 g5 g6 g7 g8 g9 g10 g11 g12 g13 g14; simp -implicitDefEqProofs (disch := omega) only [go_sem, Nat.reduceEqDiff, Nat.reduceAdd, ↓reduceIte, g1, g2, g3, g4, g5, g6, g7, g8, g9, g10, g11, g12, g13, g14]) : p := e f1 f2 f3 f4 f5 f6 f7 f8 f9 f10 f11 f12 f13 f14
def Zz1 {p q F1 : Prop} (f1 : F1) (k : q) (e : F1 -> p = q := by intro g1; simp -implicitDefEqProofs (disch := omega) only [go_sem, Nat.reduceEqDiff, Nat.reduceAdd, ↓reduceIte, g1]; exact rfl) : p := (e f1).mpr k
def Zz2 {p q F1 F2 : Prop} (f1 : F1) (f2 : F2) (k : q) (e : F1 -> F2 -> p = q := by intro g1 g2; simp -implicitDefEqProofs (disch := omega) only [go_sem, Nat.reduceEqDiff, Nat.reduceAdd, ↓reduceIte, g1, g2]; exact rfl) : p := (e f1 f2).mpr k
def Zz3 {p q F1 F2 F3 : Prop} (f1 : F1) (f2 : F2) (f3 : F3) (k : q) (e : F1 -> F2 -> F3 -> p = q := by intro g1 g2 g3; simp -implicitDefEqProofs (disch := omega) only [go_sem, Nat.reduceEqDiff, Nat.reduceAdd, ↓reduceIte, g1, g2, g3]; exact rfl) : p := (e f1 f2 f3).mpr k
def Zz4 {p q F1 F2 F3 F4 : Prop} (f1 : F1) (f2 : F2) (f3 : F3) (f4 : F4) (k : q) (e : F1 -> F2 -> F3 -> F4 -> p = q := by intro g1 g2 g3 g4; simp -implicitDefEqProofs (disch := omega) only [go_sem, Nat.reduceEqDiff, Nat.reduceAdd, ↓reduceIte, g1, g2, g3, g4]; exact rfl) : p := (e f1 f2 f3 f4).mpr k
def Zz5 {p q F1 F2 F3 F4 F5 : Prop} (f1 : F1) (f2 : F2) (f3 : F3) (f4 : F4) (f5 : F5) (k : q) (e : F1 -> F2 -> F3 -> F4 -> F5 -> p = q := by intro g1 g2 g3 g4 g5; simp -implicitDefEqProofs (disch := omega) only [go_sem, Nat.reduceEqDiff, Nat.reduceAdd, ↓reduceIte, g1, g2, g3, g4, g5]; exact rfl) : p := (e f1 f2 f3 f4 f5).mpr k
def Zz6 {p q F1 F2 F3 F4 F5 F6 : Prop} (f1 : F1) (f2 : F2) (f3 : F3) (f4 : F4) (f5 : F5) (f6 : F6) (k : q) (e : F1 -> F2 -> F3 -> F4 -> F5 -> F6 -> p = q := by intro g1 g2 g3 g4 g5 g6; simp -implicitDefEqProofs (disch := omega) only [go_sem, Nat.reduceEqDiff, Nat.reduceAdd, ↓reduceIte, g1, g2, g3, g4, g5, g6]; exact rfl) : p := (e f1 f2 f3 f4 f5 f6).mpr k
def Zz7 {p q F1 F2 F3 F4 F5 F6 F7 : Prop} (f1 : F1) (f2 : F2) (f3 : F3) (f4 : F4) (f5 : F5) (f6 : F6) (f7 : F7) (k : q) (e : F1 -> F2 -> F3 -> F4 -> F5 -> F6 -> F7 -> p = q := by intro g1 g2 g3 g4 g5 g6 g7; simp -implicitDefEqProofs (disch := omega) only [go_sem, Nat.reduceEqDiff, Nat.reduceAdd, ↓reduceIte, g1, g2, g3, g4, g5, g6, g7]; exact rfl) : p := (e f1 f2 f3 f4 f5 f6 f7).mpr k
def Zz8 {p q F1 F2 F3 F4 F5 F6 F7 F8 : Prop} (f1 : F1) (f2 : F2) (f3 : F3) (f4 : F4) (f5 : F5) (f6 : F6) (f7 : F7) (f8 : F8) (k : q) (e : F1 -> F2 -> F3 -> F4 -> F5 -> F6 -> F7 -> F8 -> p = q := by intro g1 g2 g3 g4 g5 g6 g7 g8; simp -implicitDefEqProofs (disch := omega) only [go_sem, Nat.reduceEqDiff, Nat.reduceAdd, ↓reduceIte, g1, g2, g3, g4, g5, g6, g7, g8]; exact rfl) : p := (e f1 f2 f3 f4 f5 f6 f7 f8).mpr k
def Zz9 {p q F1 F2 F3 F4 F5 F6 F7 F8 F9 : Prop} (f1 : F1) (f2 : F2) (f3 : F3) (f4 : F4) (f5 : F5) (f6 : F6) (f7 : F7) (f8 : F8) (f9 : F9) (k : q) (e : F1 -> F2 -> F3 -> F4 -> F5 -> F6 -> F7 -> F8 -> F9 -> p = q := by intro g1 g2 g3 g4 g5 g6 g7 g8 g9; simp -implicitDefEqProofs (disch := omega) only [go_sem, Nat.reduceEqDiff, Nat.reduceAdd, ↓reduceIte, g1, g2, g3, g4, g5, g6, g7, g8, g9]; exact rfl) : p := (e f1 f2 f3 f4 f5 f6 f7 f8 f9).mpr k
def Zz10 {p q F1 F2 F3 F4 F5 F6 F7 F8 F9 F10 : Prop} (f1 : F1) (f2 : F2) (f3 : F3) (f4 : F4) (f5 : F5) (f6 : F6) (f7 : F7) (f8 : F8) (f9 : F9) (f10 : F10) (k : q) (e : F1 -> F2 -> F3 -> F4 -> F5 -> F6 -> F7 -> F8 -> F9 -> F10 -> p = q := by intro g1 g2 g3 g4 g5 g6 g7 g8 g9 g10; simp -implicitDefEqProofs (disch := omega) only [go_sem, Nat.reduceEqDiff, Nat.reduceAdd, ↓reduceIte, g1, g2, g3, g4, g5, g6, g7, g8, g9, g10]; exact rfl) : p := (e f1 f2 f3 f4 f5 f6 f7 f8 f9 f10).mpr k
def Zz11 {p q F1 F2 F3 F4 F5 F6 F7 F8 F9 F10 F11 : Prop} (f1 : F1) (f2 : F2) (f3 : F3) (f4 : F4) (f5 : F5) (f6 : F6) (f7 : F7) (f8 : F8) (f9 : F9) (f10 : F10) (f11 : F11) (k : q) (e : F1 -> F2 -> F3 -> F4 -> F5 -> F6 -> F7 -> F8 -> F9 -> F10 -> F11 -> p = q := by intro g1 g2 g3 g4 g5 g6 g7 g8 g9 g10 g11; simp -implicitDefEqProofs (disch := omega) only [go_sem, Nat.reduceEqDiff, Nat.reduceAdd, ↓reduceIte, g1, g2, g3, g4, g5, g6, g7, g8, g9, g10, g11]; exact rfl) : p := (e f1 f2 f3 f4 f5 f6 f7 f8 f9 f10 f11).mpr k
def Zz12 {p q F1 F2 F3 F4 F5 F6 F7 F8 F9 F10 F11 F12 : Prop} (f1 : F1) (f2 : F2) (f3 : F3) (f4 : F4) (f5 : F5) (f6 : F6) (f7 : F7) (f8 : F8) (f9 : F9) (f10 : F10) (f11 : F11) (f12 : F12) (k : q) (e : F1 -> F2 -> F3 -> F4 -> F5 -> F6 -> F7 -> F8 -> F9 -> F10 -> F11 -> F12 -> p = q := by intro g1 g2 g3 g4 g5 g6 g7 g8 g9 g10 g11 g12; simp -implicitDefEqProofs (disch := omega) only [go_sem, Nat.reduceEqDiff, Nat.reduceAdd, ↓reduceIte, g1, g2, g3, g4, g5, g6, g7, g8, g9, g10, g11, g12]; exact rfl) : p := (e f1 f2 f3 f4 f5 f6 f7 f8 f9 f10 f11 f12).mpr k
def Zz13 {p q F1 F2 F3 F4 F5 F6 F7 F8 F9 F10 F11 F12 F13 : Prop} (f1 : F1) (f2 : F2) (f3 : F3) (f4 : F4) (f5 : F5) (f6 : F6) (f7 : F7) (f8 : F8) (f9 : F9) (f10 : F10) (f11 : F11) (f12 : F12) (f13 : F13) (k : q) (e : F1 -> F2 -> F3 -> F4 -> F5 -> F6 -> F7 -> F8 -> F9 -> F10 -> F11 -> F12 -> F13 -> p = q := by intro g1 g2 g3 g4 g5 g6 g7 g8 g9 g10 g11 g12 g13; simp -implicitDefEqProofs (disch := omega) only [go_sem, Nat.reduceEqDiff, Nat.reduceAdd, ↓reduceIte, g1, g2, g3, g4, g5, g6, g7, g8, g9, g10, g11, g12, g13]; exact rfl) : p := (e f1 f2 f3 f4 f5 f6 f7 f8 f9 f10 f11 f12 f13).mpr k
def Zz14 {p q F1 F2 F3 F4 F5 F6 F7 F8 F9 F10 F11 F12 F13 F14 : Prop} (f1 : F1) (f2 : F2) (f3 : F3) (f4 : F4) (f5 : F5) (f6 : F6) (f7 : F7) (f8 : F8) (f9 : F9) (f10 : F10) (f11 : F11) (f12 : F12) (f13 : F13) (f14 : F14) (k : q) (e : F1 -> F2 -> F3 -> F4 -> F5 -> F6 -> F7 -> F8 -> F9 -> F10 -> F11 -> F12 -> F13 -> F14 -> p = q := by intro g1 g2 g3 g4 g5 g6 g7 g8 g9 g10 g11 g12 g13 g14; simp -implicitDefEqProofs (disch := omega) only [go_sem, Nat.reduceEqDiff, Nat.reduceAdd, ↓reduceIte, g1, g2, g3, g4, g5, g6, g7, g8, g9, g10, g11, g12, g13, g14]; exact rfl) : p := (e f1 f2 f3 f4 f5 f6 f7 f8 f9 f10 f11 f12 f13 f14).mpr k
end Go
namespace Go.E
open Go
abbrev Env:=Nat->Value
def upd (e:Env) (d:Nat) (v:Value):Env:=λi=>if i=d then v else e i
def put (e:Env):Option Nat->Value->Env
 | some d,v=>upd e d v
 | none,_=>e
def ev (e:Env):Operand->Value
 | .tmp t=>e t
 | .const v=>v
 | .global g=>.pointer (some ⟨g,0,none⟩)
 | .func f=>.func (.func f) #[] #[]
def q4T (l:List Value):Env:=λi=>l.getD i undef
structure Rel (n:Nat) (a:Act) (e:Env):Prop where
 defs:a.defers=[]
 size:a.tmps.size=n
 get:∀ i,a.tmps.getD i undef=e i
def q8Q (n:Nat) (o:Oper):Bool:=match o.dst with | some d=>decide (d < n) | none=>true
def q6x (n:Nat):Code->Bool
 | .skip | .exit _ | .ret=>true
 | .region _ ops _=>ops.toList.all (q8Q n)
 | .seq a b=>q6x n a && q6x n b
 | .cond _ a b=>q6x n a && q6x n b
 | .block _ c=>q6x n c
 | .loop c=>q6x n c
 | _=>false
def wrO (i:Nat) (o:Oper):Bool:=match o.dst with | some d=>wY d i | none=>false
def wr (i:Nat):Code->Bool
 | .region _ ops _=>ops.toList.any (wrO i)
 | .seq a b=>wr i a || wr i b
 | .cond _ a b=>wr i a || wr i b
 | .block _ c=>wr i c
 | .loop c=>wr i c
 | _=>false
def Rel.eval {n:Nat} {a:Act} {e:Env} (h:Rel n a e):a.eval=ev e:=by
 funext x
 cases x <;> simp only [Act.eval,ev];exact h.get _
def Rel.put {n:Nat} {a:Act} {e:Env} (h:Rel n a e) (dst:Option Nat) (v:Value) (hd:(match dst with | some d=>decide (d < n) | none=>true)=true):Rel n (a.put dst v) (E.put e dst v):=by
 cases dst with
 | none=>exact h
 | some d =>
  have hd':d < n:=by simpa using hd
  refine ⟨h.defs,by simpa [Act.put] using h.size,λi=>?_⟩;have hg:=h.get i;have hs:=h.size;simp only [E.put,upd,Act.put,yI,yX] at hg ⊢
  by_cases hi:i=d
  .subst hi; simp [hs,hd']
  .simp [hi,Ne.symm hi]; simpa using hg
section
variable {P:Program} {n:Nat}
def qjI (n:Nat) (c:Code) (e:Env) (Q:Exit->Env->World->Prop) (x:Exit) (a:Act) (w:World):Prop :=
 ∃ e',Rel n a e'/\(∀ i,wr i c=false->e' i=e i)/\Q x e' w
def W (P:Program) (n:Nat) (c:Code) (Q:Exit->Env->World->Prop) (e:Env) (w:World):Prop :=
 q6x n c=true->∀ a,Rel n a e->c.wp P (qjI n c e Q) a w
def qgd (next:Env->World->Prop) (Q:Exit->Env->World->Prop):Exit->Env->World->Prop
 | .normal,e,w=>next e w
 | x,e,w=>Q x e w
def inB (id:Nat) (Q:Exit->Env->World->Prop):Exit->Env->World->Prop
 | .exit id',e,w=>if id'=id then Q .normal e w else Q (.exit id') e w
 | x,e,w=>Q x e w
def q5e {c:Code} {Q Q':Exit->Env->World->Prop} {e:Env} {w:World} (hq:∀ x e w,Q x e w->Q' x e w) (h:W P n c Q e w):W P n c Q' e w :=
 λhd a hr=>wp_mono (h hd a hr) λ_ _ _ ⟨e',r,f,q⟩=>⟨e',r,f,hq _ _ _ q⟩
def qpa {a b:Code} {Q:Exit->Env->World->Prop} {e:Env} {w:World} (h:W P n a (qgd (W P n b Q) Q) e w):W P n (.seq a b) Q e w:=by
 intro hd act hr;simp only [q6x,zG] at hd;have key:∀ (x:Exit) (a':Act) (w':World),qjI n a e (qgd (W P n b Q) Q) x a' w'->Exit.then (b.wp P (qjI n (.seq a b) e Q)) (qjI n (.seq a b) e Q) x a' w':=by
  rintro x a' w' ⟨e',r,f,q⟩;cases x with
  | normal =>
   refine wp_mono (q hd.2 a' r) λx2 a2 w2 ⟨e2,r2,f2,q2⟩=>⟨e2,r2,λi hi=>?_,q2⟩;simp only [wr,yQ] at hi;rw [f2 i hi.2,f i hi.1]
  | _=>exact ⟨e',r,λi hi=>f i (by simp only [wr,yQ] at hi; exact hi.1),q⟩
 exact wp_seq (wp_mono (h hd.1 act hr) key)
def q9m {a b:Code} {Q:Exit->Env->World->Prop} {e:Env} {w:World} (h:∀ K:Env->World->Prop,(∀ e w,W P n b Q e w->K e w)->W P n a (qgd K Q) e w):W P n (.seq a b) Q e w :=
 qpa (h _ λ_ _ h=>h)
def q83 {c:Operand} {x y:Code} {Q:Exit->Env->World->Prop} {e:Env} {w:World} {t:Bool} (hc:ev e c=.bool t) (ht:t=true->W P n x Q e w) (hf:t=false->W P n y Q e w):W P n (.cond c x y) Q e w:=by
 intro hd a hr;simp only [q6x,zG] at hd;refine wp_cond_split (t:=t) (by rw [hr.eval]; exact hc) (λh=>?_) (λh=>?_)
 .exact wp_mono (ht h hd.1 a hr) λx2 a2 w2 ⟨e2,r2,f2,q2⟩=>⟨e2,r2,λi hi=>f2 i (by simp only [wr,yQ] at hi; exact hi.1),q2⟩
 .exact wp_mono (hf h hd.2 a hr) λx2 a2 w2 ⟨e2,r2,f2,q2⟩=>⟨e2,r2,λi hi=>f2 i (by simp only [wr,yQ] at hi; exact hi.2),q2⟩
def Wt {c:Operand} {x y:Code} {Q:Exit->Env->World->Prop} {e:Env} {w:World} (ht:W P n x Q e w) (hc:ev e c=.bool true:=by exact rfl):W P n (.cond c x y) Q e w:=q83 hc (λ_=>ht) (λh=>by cases h)
def Wf {c:Operand} {x y:Code} {Q:Exit->Env->World->Prop} {e:Env} {w:World} (ht:W P n y Q e w) (hc:ev e c=.bool false:=by exact rfl):W P n (.cond c x y) Q e w:=q83 hc (λh=>by cases h) (λ_=>ht)
def qpb {id:Nat} {c:Code} {Q:Exit->Env->World->Prop} {e:Env} {w:World} (h:W P n c (inB id Q) e w):W P n (.block id c) Q e w:=by
 intro hd a hr;refine wp_block (wp_mono (h hd a hr) ?_);rintro x a2 w2 ⟨e2,r2,f2,q2⟩;cases x with
 | exit id' =>
  simp only [inB] at q2;simp only [Exit.inBlock]
  split
  .rename_i hid; rw [if_pos hid] at q2; exact ⟨e2,r2,f2,q2⟩
  .rename_i hid; rw [if_neg hid] at q2; exact ⟨e2,r2,f2,q2⟩
 | _=>exact ⟨e2,r2,f2,q2⟩
def qbZ {Q:Exit->Env->World->Prop} {e:Env} {w:World} (h:Q .normal e w):W P n .skip Q e w :=
 λ_ _ hr=>wp_skip ⟨e,hr,λ_ _=>rfl,h⟩
def qvz {id:Nat} {Q:Exit->Env->World->Prop} {e:Env} {w:World} (h:Q (.exit id) e w):W P n (.exit id) Q e w :=
 λ_ _ hr=>wp_exit ⟨e,hr,λ_ _=>rfl,h⟩
def qjF {Q:Exit->Env->World->Prop} {e:Env} {w:World} (h:Q .ret e w):W P n .ret Q e w :=
 λ_ _ hr=>wp_ret ⟨e,hr,λ_ _=>rfl,h⟩
def RO (P:Program) (K:Value->World->Prop):Result Next->Prop
 | .ok (.value v) w=>K v w
 | .ok .skip w=>K undef w
 | .ok (.enter f args) w=>Calls P f args w λx w'=>match x with | .returned v=>K v w' | _=>False
 | _=>False
def WO (P:Program) (o:Oper) (e:Env) (w:World) (K:Value->World->Prop):Prop:=RO P K ((execOp (ev e) o).run P w)
def qpf {K K':Value->World->Prop} (hk:∀ v w,K v w->K' v w) {r:Result Next} (h:RO P K r):RO P K' r:=by
 cases r with
 | ok x w =>
  cases x <;> simp only [RO] at h ⊢
  .exact hk _ _ h
  .exact hk _ _ h
  .exact h.mono λx w' hx=>by cases x <;> first | exact hk _ _ hx | exact hx
 | halt=>exact h
def qfz {o:Oper} {e:Env} {w:World} {K K':Value->World->Prop} (hk:∀ v w,K v w->K' v w) (h:WO P o e w K):WO P o e w K':=qpf hk h
def q3W (ops:Array Oper) (e:Env) (j:Nat):Option Bool :=
 match (ops[j]?).bind (·.dst) with
 | some d=>match e d with | .bool b=>some b | _=>none
 | none=>none
def q5j (ops:Array Oper) (e:Env) (o:Oper):Bool :=
 match o.guard with
 | none=>true
 | some (j,want)=>q3W ops e j == some want
def WG (P:Program) (ops:Array Oper) (o:Oper) (e:Env) (w:World) (K:Value->World->Prop):Prop :=
 if q5j ops e o then WO P o e w K else K undef w
def q9o {ops:Array Oper} {o:Oper} {e:Env} {w:World} {K K':Value->World->Prop} (hk:∀ v w,K v w->K' v w) (h:WG P ops o e w K):WG P ops o e w K':=by
 unfold WG at *; split
 .rename_i hw; rw [if_pos hw] at h; exact qfz hk h
 .rename_i hw; rw [if_neg hw] at h; exact hk _ _ h
def WL (P:Program) (ops:Array Oper) (K:Env->World->Prop):List Oper->Env->World->Prop
 | [],e,w=>K e w
 | o :: rest,e,w=>WG P ops o e w λv w'=>WL P ops K rest (put e o.dst v) w'
def qgU {ops:Array Oper} {a:Act} {e:Env} (hr:Rel n a e) (hd:ops.toList.all (q8Q n)=true) (j:Nat):yielded ops a.tmps j=q3W ops e j:=by
 unfold yielded q3W;cases hj:ops[j]? with
 | none=>simp
 | some o =>
  have ho:q8Q n o=true:=by
   rw [y7] at hd;exact hd o (wO.2 (wK hj))
  simp only [xM];unfold q8Q at ho;cases hdst:o.dst with
  | none=>simp
  | some d =>
   rw [hdst] at ho;have hlt:d < a.tmps.size:=by rw [hr.size]; simpa using ho
   have hg:=hr.get d;simp only [xM,y9 hlt];have hv:a.tmps[d]=e d:=by rw [<- hg,yI,y9 hlt]; rfl
   rw [hv];cases e d <;> rfl
def q6U {ops:Array Oper} {a:Act} {e:Env} (hr:Rel n a e) (hd:ops.toList.all (q8Q n)=true) (o:Oper):Region.wanted o (yielded ops a.tmps)=q5j ops e o:=by
 unfold Region.wanted q5j;cases o.guard with
 | none=>rfl
 | some g=>obtain ⟨j,want⟩:=g; simp only [qgU hr hd j]
def q6S {o:Oper} {a:Act} {e:Env} {w:World} {K:Value->World->Prop} {K':Act->World->Prop} {Q:Exit->Act->World->Prop} (hr:Rel n a e) (h:WO P o e w K) (hk:∀ v w',K v w'->K' (a.put o.dst v) w'):o.wp P a w K' Q:=by
 unfold Oper.wp;rw [hr.eval];unfold WO at h;generalize (execOp (ev e) o).run P w=r at *;cases r with
 | ok x w' =>
  cases x <;> simp only [RO] at h <;> simp only [Oper.upon]
  .exact hk _ _ h
  .exact hk _ _ h
  .refine h.mono λx w'' hx=>?_;cases x with
   | returned v=>exact hk _ _ hx
   | _=>exact hx.elim
 | halt=>exact h.elim
def q4Y {ops:Array Oper} {K:Env->World->Prop} {Q:Exit->Act->World->Prop} (hd:ops.toList.all (q8Q n)=true):∀ (l:List Oper),(∀ o ∈ l,q8Q n o=true)->∀ (a:Act) (e:Env) (w:World),
  Rel n a e->(∀ (a':Act) (e':Env) (w':World),Rel n a' e'->(∀ i,l.any (wrO i)=false->e' i=e i)->K e' w'->Q .normal a' w')->WL P ops K l e w->wpList P ops Q l a w
 | [],_,a,e,w,hr,hq,h=>hq a e w hr (λ_ _=>rfl) h
 | o :: rest,hl,a,e,w,hr,hq,h=>by
  have hdo:=hl o z9;have hput:∀ v,Rel n (a.put o.dst v) (put e o.dst v):=λv=>hr.put o.dst v (by unfold q8Q at hdo; cases hx:o.dst <;> simp_all);have hrec:∀ v w',WL P ops K rest (put e o.dst v) w'->wpList P ops Q rest (a.put o.dst v) w':=λv w' hw=>by
   refine q4Y hd rest (λo ho=>hl o (zY _ ho)) _ _ _ (hput v) (λa' e' w'' r' f' k'=>hq a' e' w'' r' (λi hi=>?_) k') hw;simp only [List.any_cons,yQ] at hi;rw [f' i hi.2];unfold wrO at hi;cases hx:o.dst with
   | none=>rfl
   | some d =>
    rw [hx] at hi;have hne:i≠d:=λhe=>by subst he; simp at hi
    simp [put,upd,hne]
  simp only [WL,WG] at h;unfold wpList;rw [q6U hr hd o]
  split
  .rename_i hw;rw [if_pos hw] at h;exact .inl (q6S hr h hrec)
  .rename_i hw;rw [if_neg hw] at h;exact hrec _ _ h
def q3x {id:Nat} {ops:Array Oper} {Q:Exit->Env->World->Prop} {e:Env} {w:World} (h:WL P ops (Q .normal) ops.toList e w):W P n (.region id ops false) Q e w:=by
 intro hd a hr;have hd':ops.toList.all (q8Q n)=true:=hd;refine wp_region_list (q4Y hd' ops.toList (λo ho=>by rw [y7] at hd'; exact hd' o ho) a e w hr ?_ h);intro a' e' w' r' f' k';exact ⟨e',r',f',k'⟩
end
abbrev qjH (R:World->World->Prop):={ p:Value->World->Prop // ∀ v w w',R w w'->p v w->p v w' }
section
variable {R:World->World->Prop}
def is (v:Value):qjH R:=⟨λx _=>x=v,λ_ _ _ _ h=>h⟩
def anyV:qjH R:=⟨λ_ _=>True,λ_ _ _ _ h=>h⟩
def look:List (Nat × qjH R)->Nat->qjH R
 | [],_=>anyV
 | (k,p) :: l,t=>if k=t then p else look l t
end
def looks (ops:Array Oper) (o:Oper) (t:Nat):Bool:=(o.looksAt ops).any (wY t)
def q5X (ops:Array Oper) (t:Nat):Bool:=ops.toList.any (wrO t)
section
variable {P:Program} {n:Nat} {R:World->World->Prop}
def ql9 {o:Oper} {t:Nat}:wrO t o=true ↔ o.dst=some t:=by
 unfold wrO; cases o.dst <;> simp
def q5W {ops:Array Oper} {t:Nat} (h:q5X ops t=false) (i:Nat) (o:Oper) (ho:ops[i]?=some o):o.dst≠some t:=by
 intro hd;have:q5X ops t=true:=by
  unfold q5X; rw [xN];exact ⟨o,wO.2 (wK ho),ql9.2 hd⟩
 rw [h] at this; cases this
def q3d {listed:Array Bool} {i j:Nat} (hi:i < listed.size) {b:Bool}:(listed.setIfInBounds i true).getD j b=if i=j then true else listed.getD j b:=by
 simp only [yI,yX]
 by_cases h:i=j
 .subst h; simp [hi]
 .simp [h]
def qhV:List Oper->Oper
 | []=>default
 | [o]=>o
 | _ :: o :: os=>qhV (o :: os)
def qeU {o:Oper}:qhV [o]=o:=rfl
def qbq {o p:Oper} {os:List Oper}:qhV (o :: p :: os)=qhV (p :: os):=rfl
end
def q20 {α:Type} (o:Option α) (K:α->Prop):Prop:=match o with | some a=>K a | none=>False
def q2l {α:Type} (a:α) (K:α->Prop):q20 (some a) K=K a:=rfl
def q0d (op:BinOp) (k:IntKind) (a b:Int):Int :=
 match op with
 | .and=>k.wrap (BitVec.ofInt k.bits a &&& BitVec.ofInt k.bits b).toNat
 | .or=>k.wrap (BitVec.ofInt k.bits a ||| BitVec.ofInt k.bits b).toNat
 | .xor=>k.wrap (BitVec.ofInt k.bits a ^^^ BitVec.ofInt k.bits b).toNat
 | _=>k.wrap (BitVec.ofInt k.bits a &&& ~~~(BitVec.ofInt k.bits b)).toNat
def q2o (op:BinOp) (k:IntKind) (a b:Int):Option Value :=
 match op with
 | .add=>some (.int k (k.wrap (a+b)))
 | .sub=>some (.int k (k.wrap (a-b)))
 | .mul=>some (.int k (k.wrap (a*b)))
 | .quo=>if b=0 then none else some (.int k (k.wrap (a.tdiv b)))
 | .rem=>if b=0 then none else some (.int k (a.tmod b))
 | .and=>some (.int k (q0d .and k a b))
 | .or=>some (.int k (q0d .or k a b))
 | .xor=>some (.int k (q0d .xor k a b))
 | .andNot=>some (.int k (q0d .andNot k a b))
 | .eql=>some (.bool (a == b))
 | .neq=>some (.bool (a != b))
 | .lss=>some (.bool (decide (a < b)))
 | .leq=>some (.bool (decide (a<=b)))
 | .gtr=>some (.bool (decide (a > b)))
 | .geq=>some (.bool (decide (a ≥ b)))
 | _=>none
def q7H (op:BinOp) (k k':IntKind) (a b:Int):Option Value :=
 match op with
 | .shl=>if b < 0 then none else some (.int k (k.wrap (a*2 ^ (min b.toNat k.bits))))
 | .shr=>if b < 0 then none else some (.int k (a.fdiv (2 ^ (min b.toNat k.bits))))
 | op=>if k=k' then q2o op k a b else none
def q90 (P:Program) (t:TypeId):Bool:=!P.stoodInHeld t && !P.eqGuardType P.depth t && match P.underlying t with
 | some (.struct fs)=>match fs.toList with
  | [f, g] => f.name != "_" && g.name != "_" && f.offset == 0 && g.offset == 1 && (match P.underlying f.type, P.underlying g.type with | some (.int _), some (.int _) => true | _, _ => false) && (match P.info? f.type, P.info? g.type with | some i, some j => i.size == 1 && j.size == 1 | _, _ => false)
  | _=>false
 | _=>false
def prV:List Value->Option (IntKind × Int × IntKind × Int)
 | [.int k a,.int l b]=>some (k,a,l,b)
 | _=>none
def q0q (P:Program) (op:BinOp) (t:TypeId):Value->Value->Option Value
 | .int k a,.int k' b=>q7H op k k' a b
 | .bool a,.bool b=>match op,P.underlying t with
  | .eql,some .bool=>some (.bool (a == b))
  | .neq,some .bool=>some (.bool (a != b))
  | _,_=>none
 | .slice a _ _,.slice none _ _=>match op,P.underlying t with
  | .eql,some (.slice _)=>some (.bool a.isNone)
  | .neq,some (.slice _)=>some (.bool a.isSome)
  | _,_=>none
 | .agg xs,.agg ys=>if q90 P t=true then match prV xs.toList,prV ys.toList with
  | some (k,a,l,b),some (k',c,l',d)=>if k=k'/\l=l' then (match op with | .eql=>some (.bool (a == c && b == d)) | .neq=>some (.bool !(a == c && b == d)) | _=>none) else none
  | _,_=>none
  else none
 | _,_=>none
def unV (op:UnOp):Value->Option Value
 | .bool b=>match op with | .not=>some (.bool !b) | _=>none
 | .int k n=>match op with | .neg=>some (.int k (k.wrap (0-n))) | _=>none
 | _=>none
def qcE (s d:Option TypeDesc):Value->Option Value
 | .int _ n=>match s,d with | some _,some (.int k)=>some (.int k (k.wrap n)) | _,_=>none
 | _=>none
def q09 (P:Program) (t:TypeId):Option (Option Nat) :=
 match P.underlying t,P.info? t with
 | some (.struct _),some i=>some (some i.size)
 | some (.array _ _),some i=>some (some i.size)
 | some _,some _=>some none
 | _,_=>none
def q0X (P:Program) (t:TypeId) (f:Nat):Option Nat :=
 match P.underlying t with
 | some (.struct fs)=>match fs[f]? with
  | some d=>match P.info? d.type with | some i=>if i.size=0 then none else some d.offset | none=>none
  | none=>none
 | _=>none
def q0f (P:Program) (t:TypeId):Option Nat :=
 match P.underlying t with
 | some (.slice e)=>(P.info? e).map (·.size)
 | _=>none
def q0a (P:Program) (t:TypeId):Option (TypeId × Nat × Nat × Array Value) :=
 match P.underlying t with
 | some (.slice e)=>(P.info? e).bind λi=>i.zero.map λz=>(e,i.size,i.bytes,z.cells)
 | _=>none
def q1h (P:Program) (t:TypeId):Option (Array Value):=match P.info? t with | some i=>i.zero.map (·.cells) | none=>none
def q03 (P:Program) (t:TypeId):Option Nat:=(P.info? t).map (·.size)
def q1I (w:World) (p:Addr):Nat->Nat->Option (List Value)
 | _,0=>some []
 | i,k+1=>match w.cell? (p.add i),q1I w p (i+1) k with | some v,some l=>some (v :: l) | _,_=>none
def ldV (w:World) (k:Option (Option Nat)):Value->Option Value
 | .pointer (some p)=>match k with
  | some none=>w.cell? p
  | some (some k)=>(q1I w p 0 k).map λl=>.agg l.toArray
  | none=>none
 | _=>none
def stN (w:World) (p:Addr):Nat->List Value->World
 | _,[]=>w
 | i,v :: vs=>stN (w.setCell (p.add i) v) p (i+1) vs
def qjj (w:World) (p:Addr):Nat->List Value->Prop
 | _,[]=>True
 | i,v :: vs=>(w.cell? (p.add i)).isSome=true/\w.frozen? (p.add i)=false/\v.oneCell'=true/\qjj w p (i+1) vs
def qcK (P:Program) (t:TypeId):Option (Nat × Nat) :=
 match P.underlying t with
 | some (.array n e)=>(P.info? e).map λi=>(n,i.size)
 | _=>none
def qh0 (sz:Option Nat) (ar:Option (Nat × Nat)):Value->Value->Option Value
 | .slice (some a) n _,.int _ i=>match sz with | some s=>if 0<=i/\i < n then some (.pointer (some (a.add (i.toNat*s)))) else none | none=>none
 | .pointer (some a),.int _ i=>match ar with | some (n,s)=>if 0<=i/\i < n then some (.pointer (some (a.add (i.toNat*s)))) else none | none=>none
 | _,_=>none
def q3I (y:Nat):Option Value->Nat->Option Nat
 | none,d=>some d
 | some (.int _ i),_=>if 0<=i/\i<=y then some i.toNat else none
 | some _,_=>none
def q1x (sz:Option Nat) (lo hi:Option Value):Value->Option Value
 | .slice a n c=>match sz,q3I c hi n with
  | some s,some h=>match q3I h lo 0 with
   | some l=>some (.slice (if c=l then a else a.map (·.add (l*s))) (h-l) (c-l))
   | none=>none
  | _,_=>none
 | _=>none
def qtL (sz:Option Nat):Value->Option Value
 | .slice _ n _=>match sz with | some _=>some (.int .i64 n) | none=>none
 | _=>none
def qke (i:Nat):Value->Option Value
 | .tuple vs=>vs[i]?
 | _=>none
def bsV (P:Program) (t:TypeId) (len:Nat) (parts:List (Nat × Value)):Option (TypeId × Array Value) :=
 match q0a P t with
 | some (e,s,_,z)=>if len*s=0 then (if parts.isEmpty then some (e,#[]) else none) else if len*s > 16777216 then none else (Instr.fill (λi=>some (i*s,s)) ((Array.range (len*s)).map (z[· % z.size]!)) parts).map λcs=>(e,cs)
 | none=>none
def mmV (isMax:Bool):List Value->Option Value
 | [.int k a,.int k' b]=>if k=k' then some (.int k (if isMax then max a b else min a b)) else none
 | _=>none
def q0J (P : Program) (f : FuncId) : Bool := match P.funcs[f]? with | some fn => fn.body.isSome && !(fn.name == "runtime.NumGoroutine") | none => false
def wo (P:Program) (o:Oper) (e:Env) (w:World) (K:Value->World->Prop):Prop :=
 match o.op with
 | .move x=>K (ev e x) w
 | .assign x=>K (ev e x) w
 | .pick c a b=>match ev e c with | .bool true=>K (ev e a) w | .bool false=>K (ev e b) w | _=>False
 | .alloc t=>q20 (q1h P t) λz=>K (.pointer (some ⟨w.heap.size,0,none⟩)) (w.alloc (.cells z t))
 | .box t x=>K (.pointer (some ⟨w.heap.size,0,none⟩)) (w.alloc (.cells (ev e x).cells t))
 | .build t ps=>q20 (P.built t (ps.map λ(i,x)=>(i,ev e x)).toList) λcs=>K (.agg cs) w
 | .buildSlice t len ps=>q20 (bsV P t len (ps.map λ(i,x)=>(i,ev e x)).toList) λ(el,cs)=>K (.slice (some ⟨w.heap.size,0,none⟩) len len) (w.alloc (.cells cs el))
 | .load t a=>q20 (ldV w (q09 P t) (ev e a)) λv=>K v w
 | .store t a x=>match ev e a with
  | .pointer (some p)=>q03 P t=some (ev e x).cells.size/\qjj w p 0 (ev e x).cells.toList/\K undef (stN w p 0 (ev e x).cells.toList)
  | _=>False
 | .binOp op t x y _=>q20 (q0q P op t (ev e x) (ev e y)) λv=>K v w
 | .unOp op _ x=>q20 (unV op (ev e x)) λv=>K v w
 | .convert s d x=>q20 (qcE (P.underlying s) (P.underlying d) (ev e x)) λv=>K v w
 | .fieldAddr t x f=>match ev e x with
  | .pointer (some p)=>q20 (q0X P t f) λoff=>K (.pointer (some (p.add off))) w
  | _=>False
 | .indexAddr t x i=>q20 (qh0 (q0f P t) (qcK P t) (ev e x) (ev e i)) λv=>K v w
 | .slice t x lo hi none=>q20 (q1x (q0f P t) (lo.map (ev e)) (hi.map (ev e)) (ev e x)) λv=>K v w
 | .makeSlice t l c=>match ev e l,ev e c with
  | .int _ l,.int _ c=>q20 (q0a P t) λ(el,s,b,z)=>(0<=l/\l<=c/\(b:Int)*c<=281474976710656/\c<=9223372036854775807)/\K (.slice (some ⟨w.heap.size,0,none⟩) l.toNat c.toNat) (w.alloc (.cells (madeCells z (c.toNat*s)) el))
  | _,_=>False
 | .nilCheck x=>match ev e x with
  | .pointer (some p)=>K (.pointer (some p)) w
  | _=>False
 | .extract x i=>q20 (qke i (ev e x)) λv=>K v w
 | .call c=>match c.callee with
  | .builtin .len=>match c.args.toList,c.argTypes.toList with
   | [x],[t]=>q20 (qtL (q0f P t) (ev e x)) λv=>K v w
   | _,_=>False
  | .builtin .max=>q20 (mmV true (c.args.toList.map (ev e))) λv=>K v w
  | .builtin .min=>q20 (mmV false (c.args.toList.map (ev e))) λv=>K v w
  | .value (.func f)=>q0J P f=true/\Calls P f (c.args.map (ev e)) w λx w'=>match x with | .returned v=>K v w' | _=>False
  | _=>WO P o e w K
 | _=>WO P o e w K
section
variable {P:Program} {o:Oper} {e:Env} {w:World} {K:Value->World->Prop}
def q0Q {α:Type} {o:Option α} {K:α->Prop} (h:q20 o K):∃ a,o=some a/\K a:=by
 cases o with
 | none=>exact h.elim
 | some a=>exact ⟨a,rfl,h⟩
def q5O (w:World) (p:Addr):∀ (k i:Nat) (l:List Value) (acc:Array Value),q1I w p i k=some l->(loadCellsFrom p i k acc).run P w=.ok (acc ++ l.toArray) w
 | 0,i,l,acc,h=>by simp [q1I] at h; subst h; simp [loadCellsFrom]
 | k+1,i,l,acc,h=>by
  simp only [q1I] at h;cases hc:w.cell? (p.add i) with
  | none=>simp [hc] at h
  | some v =>
   cases hr:q1I w p (i+1) k with
   | none=>simp [hc,hr] at h
   | some l' =>
    simp [hc,hr] at h;subst h;have:=q5O w p k (i+1) l' (acc.push v) hr;simp only [loadCellsFrom,Sem.run_bind,run_load,hc,Result.andThen,this];simp
def qd1 (P:Program) (p:Addr):∀ (vs:List Value) (i:Nat) (w:World),qjj w p i vs->(storeCells p vs i).run P w=.ok () (stN w p i vs)
 | [],i,w,_=>by simp [storeCells,stN]
 | v :: vs,i,w,⟨h1,h2,h3,h4⟩=>by
  have hkeep:∀ (vs:List Value) (j:Nat),i < j->qjj w p j vs->qjj (w.setCell (p.add i) v) p j vs:=by
   intro vs
   induction vs with
   | nil=>intro _ _ _; exact trivial
   | cons u vs ih =>
    rintro j hj ⟨a1,a2,a3,a4⟩;have hne:p.add i≠p.add j:=λhe=>by
     unfold Addr.add at he
     split at he <;> split at he <;> first | omega | (have:=congrArg Addr.off he; simp at this; omega)
    refine ⟨?_,by rw [World.frozen?_setCell]; exact a2,a3,ih (j+1) Oq a4⟩;rw [World.cell?_setCell_other _ _ _ _ hne];exact a1
  have ih:=qd1 P p vs (i+1) (w.setCell (p.add i) v) (hkeep vs (i+1) Oq h4);obtain ⟨u,hu⟩:=v5.1 h1;have hst:(store (p.add i) v).run P w=.ok () (w.setCell (p.add i) v):=by
   rw [run_store P w _ v _ h3];simp [hu,h2]
  simp only [storeCells,Sem.run_bind,hst,Result.andThen_ok,ih,stN]
def q6A {t:TypeId} {a b:Bool} (w:World) (hu:P.underlying t=some .bool):(Op.equal t (.bool a) (.bool b)).run P w=.ok (a == b) w:=by
 have h:∀ d:Nat,(Op.equalIn (d+1) t (.bool a) (.bool b)).run P w=.ok (a == b) w:=λd=>by
  simp [Op.equalIn,run_underlying hu]
 exact h 9999
def q7k {t el:TypeId} {a:Option Addr} {n c n' c':Nat} (w:World) (hu:P.underlying t=some (.slice el)):(Op.equal t (.slice a n c) (.slice none n' c')).run P w=.ok a.isNone w:=by
 have h:∀ d:Nat,(Op.equalIn (d+1) t (.slice a n c) (.slice none n' c')).run P w=.ok a.isNone w:=λd=>by
  cases a <;> simp [Op.equalIn,run_underlying hu]
 exact h 9999
def q7l {t:TypeId} {k0 k:IntKind} {a b:Int} (w:World) (hu:P.underlying t=some (.int k0)) (d:Nat):(Op.equalIn (d+1) t (.int k a) (.int k b)).run P w=.ok (a == b) w:=by
 simp [Op.equalIn,run_underlying hu]
def q5z {t:TypeId} {k l:IntKind} {a b c d:Int} (w:World) (h:q90 P t=true):(Op.equal t (.agg #[.int k a,.int l b]) (.agg #[.int k c,.int l d])).run P w=.ok (a == c && b == d) w:=by
 unfold q90 at h;simp only [zG] at h;obtain ⟨⟨h1,h2⟩,h3⟩:=h
 split at h3
 case h_2=>cases h3
 rename_i fs hu
 split at h3
 case h_2=>cases h3
 rename_i f g hfs;simp only [zG] at h3;obtain ⟨⟨⟨⟨⟨n1,n2⟩,o1⟩,o2⟩,u⟩,s⟩:=h3
 split at u
 case h_2=>cases u
 rename_i k1 k2 u1 u2
 split at s
 case h_2=>cases s
 rename_i i j i1 i2;have hfs2:fs=#[f,g]:=by cases fs; simp at hfs; subst hfs; rfl
 subst hfs2;have e:∀ dd:Nat,(Op.equalIn (dd+2) t (.agg #[.int k a,.int l b]) (.agg #[.int k c,.int l d])).run P w=.ok (a == c && b == d) w:=λdd=>by
  have x1:=λw=>q7l (k:=k) (a:=a) (b:=c) w u1 dd;have x2:=λw=>q7l (k:=l) (a:=b) (b:=d) w u2 dd;have h1:P.stoodInHeld t=false:=by simpa using h1
  have n1 : f.name ≠ "_" := by simpa using n1
  have n2 : g.name ≠ "_" := by simpa using n2
  have o1:f.offset=0:=by simpa using o1
  have o2:g.offset=1:=by simpa using o2
  have p1:∀ (v u:Value) (w:World),(part f.type #[v,u] 0).run P w=.ok v w:=λv u w=>by simp [part,isAgg,run_underlying u1]
  have p2:∀ (v u:Value) (w:World),(part g.type #[v,u] 1).run P w=.ok u w:=λv u w=>by simp [part,isAgg,run_underlying u2]
  rw [Op.equalIn];simp only [Sem.run_bind,run_underlying hu,Result.andThen_ok];cases e1:(a == c) <;> cases e2:(b == d) <;> simp [h1,n1,n2,o1,o2,p1,p2,x1,x2,e1,e2]
 exact e 9998
def qiZ {op:BinOp} {t:TypeId} {x y:Operand} {xs ys:Array Value} (w:World) (h:q90 P t=true):(eqGuard op t x y (.agg xs) (.agg ys)).run P w=.ok () w:=by
 unfold q90 at h;simp only [zG] at h;obtain ⟨⟨h1,h2⟩,h3⟩:=h;have h2:P.eqGuardType P.depth t=false:=by simpa using h2
 unfold eqGuard;cases op <;> simp [h2]
def qkB {xs:Array Value} {k l:IntKind} {a b:Int} (h:prV xs.toList=some (k,a,l,b)):xs=#[.int k a,.int l b]:=by
 cases xs with
 | mk xs =>
  unfold prV at h
  split at h
  .rename_i q;cases h;simp at q;subst q; rfl
  .cases h
def qgu {op : BinOp} {t : TypeId} {x y : Operand} {vx vy v : Value} (w : World) (hv : q0q P op t vx vy = some v) :
    (do eqGuard op t x y vx vy; binOp op t vx vy : Sem Value).run P w = .ok v w := by
  unfold q0q at hv
  split at hv
  . rename_i k a k' b
    unfold q7H at hv
    have hg : (eqGuard op t x y (.int k a) (.int k' b)).run P w = .ok () w := by
      unfold eqGuard; cases op <;> simp
    rw [Sem.run_bind, hg, Result.andThen_ok]
    split at hv
    . split at hv
      . cases hv
      . rename_i hb; obtain rfl := zE.inj hv; simp [binOp, Op.shift, hb]
    . split at hv
      . cases hv
      . rename_i hb; obtain rfl := zE.inj hv; simp [binOp, Op.shift, hb]
    . rename_i hs1 hs2
      split at hv
      . rename_i hk
        subst hk
        cases op <;> simp only [q2o] at hv <;> first
          | exact absurd rfl hs1
          | exact absurd rfl hs2
          | (split at hv
             . cases hv
             . rename_i hb; obtain rfl := zE.inj hv; simp [binOp, Op.intDiv, hb])
          | (obtain rfl := zE.inj hv; simp [binOp, Op.intArith, Op.intBits, Op.intCmp, q0d])
          | cases hv
      . cases hv
  . rename_i a b
    split at hv
    . rename_i hu
      obtain rfl := zE.inj hv
      have hg : (eqGuard .eql t x y (.bool a) (.bool b)).run P w = .ok () w := by unfold eqGuard; simp
      rw [Sem.run_bind, hg, Result.andThen_ok]
      have hb : binOp .eql t (.bool a) (.bool b) = (do pure (.bool (<- Op.equal t (.bool a) (.bool b))) : Sem Value) := rfl
      rw [hb, Sem.run_bind, q6A w hu]
      rfl
    . rename_i hu
      obtain rfl := zE.inj hv
      have hg : (eqGuard .neq t x y (.bool a) (.bool b)).run P w = .ok () w := by unfold eqGuard; simp
      rw [Sem.run_bind, hg, Result.andThen_ok]
      have hb : binOp .neq t (.bool a) (.bool b) = (do pure (.bool (!(<- Op.equal t (.bool a) (.bool b)))) : Sem Value) := rfl
      rw [hb, Sem.run_bind, q6A w hu]
      rfl
    . cases hv
  . rename_i a n c n' c'
    split at hv
    . rename_i hu
      obtain rfl := zE.inj hv
      have hg : (eqGuard .eql t x y (.slice a n c) (.slice none n' c')).run P w = .ok () w := by unfold eqGuard; simp
      rw [Sem.run_bind, hg, Result.andThen_ok]
      have hb : binOp .eql t (.slice a n c) (.slice none n' c') = (do pure (.bool (<- Op.equal t (.slice a n c) (.slice none n' c'))) : Sem Value) := rfl
      rw [hb, Sem.run_bind, q7k w hu]
      rfl
    . rename_i hu
      obtain rfl := zE.inj hv
      have hg : (eqGuard .neq t x y (.slice a n c) (.slice none n' c')).run P w = .ok () w := by unfold eqGuard; simp
      rw [Sem.run_bind, hg, Result.andThen_ok]
      have hb : binOp .neq t (.slice a n c) (.slice none n' c') = (do pure (.bool (!(<- Op.equal t (.slice a n c) (.slice none n' c')))) : Sem Value) := rfl
      rw [hb, Sem.run_bind, q7k w hu]
      cases a <;> rfl
    . cases hv
  . rename_i xs ys
    split at hv
    case isFalse => cases hv
    rename_i hk
    split at hv
    case h_2 => cases hv
    rename_i k a l b k' c l' d hx hy
    have ex := qkB hx
    have ey := qkB hy
    subst ex; subst ey
    split at hv
    case isFalse => cases hv
    rename_i hkk
    obtain ⟨rfl, rfl⟩ := hkk
    rw [Sem.run_bind, qiZ w hk, Result.andThen_ok]
    split at hv
    . obtain rfl := zE.inj hv
      have hb : binOp .eql t (.agg #[.int k a, .int l b]) (.agg #[.int k c, .int l d]) = (do pure (.bool (<- Op.equal t (.agg #[.int k a, .int l b]) (.agg #[.int k c, .int l d]))) : Sem Value) := rfl
      rw [hb, Sem.run_bind, q5z w hk]
      rfl
    . obtain rfl := zE.inj hv
      have hb : binOp .neq t (.agg #[.int k a, .int l b]) (.agg #[.int k c, .int l d]) = (do pure (.bool (!(<- Op.equal t (.agg #[.int k a, .int l b]) (.agg #[.int k c, .int l d])))) : Sem Value) := rfl
      rw [hb, Sem.run_bind, q5z w hk]
      rfl
    . cases hv
  . cases hv
def q1m {y d h:Nat} (hv:q3I y none d=some h):d=h:=zE.inj hv
def q1P {w:World} {y d h:Nat} {v:Value} (code:BoundsCode) (hv:q3I y (some v) d=some h):(Instr.sliceBound v y code).run P w=.ok h w:=by
 cases v <;> simp only [q3I] at hv <;> try (cases hv; done)
 split at hv
 .rename_i hb;obtain rfl:=zE.inj hv;exact run_sliceBound w _ _ _ _ hb.1 hb.2
 .cases hv
def qbd {t:TypeId} {lo hi:Option Value} {x v:Value} (w:World) (hv:q1x (q0f P t) lo hi x=some v) :
  ∃ el,P.underlying t=some (.slice el)/\∃ i,P.info? el=some i/\(Instr.sliceAt t x lo hi none).run P w=.ok v w:=by
 unfold q1x at hv
 split at hv
 .rename_i a n c
  split at hv
  .rename_i s h hs hh
   split at hv
   .rename_i l hl;obtain rfl:=zE.inj hv;unfold q0f at hs
    split at hs
    .rename_i el hu;obtain ⟨i,hi',hsz⟩:=zA.1 hs;refine ⟨el,hu,i,hi',?_⟩;have hsize:(sizeOf el).run P w=.ok s w:=by simp [sizeOf,typeInfo,hi',hsz]
     have hb:(Instr.sliceBounds true n c lo hi none).run P w=.ok (l,h,c) w:=by
      unfold Instr.sliceBounds;cases hi with
      | none =>
       obtain rfl:=q1m hh;cases lo with
       | none=>obtain rfl:=q1m hl; simp
       | some lv=>simp [q1P (P:=P) (w:=w) .sliceB hl]
      | some hv' =>
       cases lo with
       | none=>obtain rfl:=q1m hl; simp [q1P (P:=P) (w:=w) .sliceAcap hh]
       | some lv=>simp [q1P (P:=P) (w:=w) .sliceAcap hh,q1P (P:=P) (w:=w) .sliceB hl]
     simp [Instr.sliceAt,Instr.slice,run_underlying hu,hb,hsize]
    .cases hs
   .cases hv
  .cases hv
 .cases hv
def qbe {t:TypeId} {f off:Nat} (w:World) (p:Addr) (h:q0X P t f=some off):(Instr.fieldAt t (.pointer (some p)) f).run P w=.ok (.pointer (some (p.add off))) w:=by
 unfold q0X at h
 split at h
 .rename_i fs hu
  split at h
  .rename_i d hd
   split at h
   .rename_i i hi
    split at h
    .cases h
    .rename_i hn;obtain rfl:=zE.inj h;simp [Instr.fieldAt,run_underlying hu,hd,Instr.sureAddr,fieldPlace,sizeOf,typeInfo,hi,hn]
   .cases h
  .cases h
 .cases h
def qgt {t:TypeId} {x i v:Value} (w:World) (h:qh0 (q0f P t) (qcK P t) x i=some v):(Instr.indexAt t x i).run P w=.ok v w:=by
 unfold qh0 at h
 split at h
 .split at h
  .rename_i s hs
   split at h
   .rename_i hb;obtain rfl:=zE.inj h;unfold q0f at hs
    split at hs
    .rename_i el hu;obtain ⟨i,hi,hsz⟩:=zA.1 hs;simp [Instr.indexAt,asIntOf,run_underlying hu,hb,sizeOf,typeInfo,hi,hsz]
    .cases hs
   .cases h
  .cases h
 .split at h
  .rename_i n s hs
   split at h
   .rename_i hb;obtain rfl:=zE.inj h;unfold qcK at hs
    split at hs
    .rename_i n' el hu;obtain ⟨i,hi,hsz⟩:=zA.1 hs;cases hsz;simp [Instr.indexAt,Instr.sureAddr,asIntOf,run_underlying hu,hb,sizeOf,typeInfo,hi]
    .cases hs
   .cases h
  .cases h
 .cases h
def q9y (h:wo P o e w K):WO P o e w K:=by
 unfold wo at h;unfold WO;obtain ⟨dst,op,ty,pos,af,g⟩:=o;cases op <;> try exact h
 case pick c a b =>
  simp only [] at h;simp only [execOp,Sem.run_bind]
  split at h
  .rename_i hc; rw [hc]; exact h
  .rename_i hc; rw [hc]; exact h
  .exact h.elim
 case alloc t =>
  obtain ⟨z,hz,h⟩:=q0Q h;unfold q1h at hz;cases hi:P.info? t with
  | none=>rw [hi] at hz; cases hz
  | some i =>
   rw [hi] at hz;cases hzz:i.zero with
   | none=>simp [hzz] at hz
   | some v =>
    simp [hzz] at hz;subst hz;simp [execOp,Instr.alloc,zeroValue,typeInfo,hi,hzz,newVar,newRow,RO];exact h
 case build t ps =>
  obtain ⟨z,hz,h⟩:=q0Q h;have:=run_build (P:=P) w t (ps.map λ(i,x)=>(i,ev e x)) z hz;simp only [execOp,Sem.run_bind,this];exact h
 case buildSlice t len ps =>
  obtain ⟨z,hz,h⟩:=q0Q h;unfold bsV q0a at hz;cases hu:P.underlying t with
  | none=>simp [hu] at hz
  | some d =>
   cases d with
   | slice el =>
    cases hi:P.info? el with
    | none=>simp [hu,hi] at hz
    | some i =>
     cases hzz:i.zero with
     | none=>simp [hu,hi,hzz] at hz
     | some v =>
      simp only [hu,hi,hzz,xM,yY] at hz;have e1:(sizeOf el).run P w=.ok i.size w:=by simp [sizeOf,typeInfo,hi]
      have e2:(zeroValue el).run P w=.ok v w:=by simp [zeroValue,typeInfo,hi,hzz]
      have hrun:(Instr.buildSlice t len (ps.map λ(i,x)=>(i,ev e x))).run P w=.ok (.slice (some ⟨w.heap.size,0,none⟩) len len) (w.alloc (.cells z.2 z.1)):=by
       unfold Instr.buildSlice;rw [Sem.run_bind,run_underlying hu,Result.andThen_ok];simp only [];rw [Sem.run_bind,e1,Result.andThen_ok]
       split at hz
       .rename_i h0
        split at hz
        .rename_i hp;obtain rfl:=zE.inj hz;have hp':(ps.map λ(i,x)=>(i,ev e x)).toList=[]:=by simpa using hp
         have h2':¬ len*i.size > 2 ^ 24:=ω
         rw [if_neg h2',if_pos h0];simp only [pure_bind];have hr0:Array.range 0=#[]:=rfl;rw [hp',h0,hr0];simp [Instr.fill,newRow]
        .cases hz
       .rename_i h1
        split at hz
        .cases hz
        .rename_i h2;have h2':¬ len*i.size > 2 ^ 24:=by simpa using h2
         obtain ⟨cs,hcs,rfl⟩:=zA.1 hz;rw [if_neg h2',if_neg h1];simp only [pure_bind,Sem.run_bind,e2,Result.andThen_ok];rw [hcs];simp [newRow]
      simp only [execOp,Sem.run_bind,hrun];exact h
   | _=>simp [hu] at hz
 case load t a =>
  obtain ⟨v,hv,h⟩:=q0Q h;have key:(Instr.loadAt t (ev e a)).run P w=.ok v w:=by
   generalize ev e a=va at *;unfold ldV at hv
   split at hv
   .rename_i p
    split at hv
    .rename_i hk;unfold q09 at hk;have hagg:(isAgg t).run P w=.ok false w:=by
      unfold isAgg;cases hu:P.underlying t with
      | none=>simp [hu] at hk
      | some d =>
       rw [Sem.run_bind,run_underlying hu w];cases hi:P.info? t <;> cases d <;> simp_all
     simp [Instr.loadAt,Instr.sureAddr,loadVar,hagg,hv]
    .rename_i k hk;unfold q09 at hk;obtain ⟨l,hl,rfl⟩:=zA.1 hv;have hagg:(isAgg t).run P w=.ok true w/\(sizeOf t).run P w=.ok k w:=by
      unfold isAgg sizeOf typeInfo;cases hu:P.underlying t with
      | none=>simp [hu] at hk
      | some d =>
       rw [Sem.run_bind,run_underlying hu w];cases hi:P.info? t <;> cases d <;> simp_all
     have hrun:=q5O (P:=P) w p k 0 l #[] hl;simp [Instr.loadAt,Instr.sureAddr,loadVar,hagg.1,hagg.2,loadCells,hrun]
    .cases hv
   .cases hv
  simp only [execOp,Sem.run_bind,key];exact h
 case store t a x =>
  simp only [] at h
  split at h
  .rename_i p hp;obtain ⟨h1,h2,h3⟩:=h;unfold q03 at h1;obtain ⟨i,hi,hs⟩:=zA.1 h1;have hrun:=qd1 P p (ev e x).cells.toList 0 w h2;simp [execOp,Instr.storeAt,Instr.sureAddr,storeVar,sizeOf,typeInfo,hi,hs,hp,hrun,RO];exact h3
  .exact h.elim
 case nilCheck x =>
  simp only [] at h
  split at h
  .rename_i p hp; simp [execOp,hp,RO]; exact h
  .exact h.elim
 case binOp op t x y t' =>
  obtain ⟨v,hv,h⟩:=q0Q h;have key:=qgu (P:=P) (x:=x) (y:=y) w hv;simp only [execOp];rw [Sem.run_bind,key];exact h
 case unOp op t x =>
  obtain ⟨v,hv,h⟩:=q0Q h;unfold unV at hv
  split at hv
  .rename_i hx
   split at hv
   .obtain rfl:=zE.inj hv;simp [execOp,hx,Op.unary,RO]; exact h
   .cases hv
  .rename_i hx
   split at hv
   .obtain rfl:=zE.inj hv;simp only [execOp,hx,Op.unary,Op.intArith,Sem.run_bind]; exact h
   .cases hv
  .cases hv
 case convert s d x =>
  obtain ⟨v,hv,h⟩:=q0Q h;unfold qcE at hv
  split at hv
  .rename_i k0 n0 hx
   split at hv
   .rename_i sd k hs hd;obtain rfl:=zE.inj hv;have key:(convert s d (ev e x)).run P w=.ok (.int k (k.wrap n0)) w:=by
     rw [hx]; simp [convert,run_underlying hs,run_underlying hd,Conv.intToInt]
    simp only [execOp,Sem.run_bind,key];exact h
   .cases hv
  .cases hv
 case makeSlice t l c =>
  simp only [] at h
  split at h
  .rename_i kl l' kc c' hl hc;obtain ⟨⟨el,s,b,z⟩,hz,⟨h0,h1,h2,h3⟩,h⟩:=q0Q h;unfold q0a at hz;cases hu:P.underlying t with
   | none=>simp [hu] at hz
   | some d =>
    cases d with
    | slice el' =>
     cases hi:P.info? el' with
     | none=>simp [hu,hi] at hz
     | some i =>
      cases hzz:i.zero with
      | none=>simp [hu,hi,hzz] at hz
      | some v =>
       simp [hu,hi,hzz] at hz;obtain ⟨rfl,rfl,rfl,rfl⟩:=hz;have:=run_make (P:=P) w t el' i v hu hi hzz kl kc l' c' h0 h1 h2 h3;simp only [execOp,hl,hc,Sem.run_bind,this];exact h
    | _=>simp [hu] at hz
  .exact h.elim
 case slice t x lo hi mx =>
  cases mx with
  | some _=>exact h
  | none =>
   obtain ⟨v,hv,h⟩:=q0Q h;obtain ⟨el,hu,i,hi',hrun⟩:=qbd (P:=P) w hv;simp only [execOp,Sem.run_bind,Option.map_none,hrun];exact h
 case fieldAddr t x f =>
  simp only [] at h
  split at h
  .rename_i p hp;obtain ⟨off,ho,h⟩:=q0Q h;have key:=qbe (P:=P) w p ho;simp only [execOp,Sem.run_bind,hp,key];exact h
  .exact h.elim
 case indexAddr t x i =>
  obtain ⟨v,hv,h⟩:=q0Q h;have key:=qgt (P:=P) w hv;simp only [execOp,Sem.run_bind,key];exact h
 case extract x i =>
  obtain ⟨v,hv,h⟩:=q0Q h;unfold qke at hv
  split at hv
  .rename_i hx; simp [execOp,hx,Instr.extract,hv,RO]; exact h
  .cases hv
 case call c =>
  simp only [] at h;obtain ⟨callee,args,tys⟩:=c;simp only [] at h
  split at h
  .split at h
   .rename_i x t ha ht;obtain ⟨v,hv,h⟩:=q0Q h;obtain ⟨args⟩:=args;obtain ⟨tys⟩:=tys;simp only at ha ht;subst ha; subst ht;have key:(Builtin.len_ #[t] ty #[ev e x]).run P w=.ok v w:=by
     unfold qtL at hv
     split at hv
     .rename_i hx
      split at hv
      .rename_i hs;obtain rfl:=zE.inj hv;unfold q0f at hs
       split at hs
       .rename_i el hu;simp [Builtin.len_,hx,run_underlying hu,goInt]
       .cases hs
      .cases hv
     .cases hv
    simp [execOp,resolve,invoke,builtin,key,RO];exact h
   .exact h.elim
  .obtain ⟨v,hv,h⟩:=q0Q h;have key:(Builtin.max_ tys ty (args.map (ev e))).run P w=.ok v w:=by
    unfold mmV at hv;unfold Builtin.max_;rw [vF]
    split at hv
    .rename_i k a k' b hl
     split at hv
     .rename_i hk;obtain rfl:=zE.inj hv;simp [hl,Builtin.max2]
      split <;> omega
     .cases hv
    .cases hv
   simp [execOp,resolve,invoke,builtin,key,RO];exact h
  .obtain ⟨v,hv,h⟩:=q0Q h;have key:(Builtin.min_ tys ty (args.map (ev e))).run P w=.ok v w:=by
    unfold mmV at hv;unfold Builtin.min_;rw [vF]
    split at hv
    .rename_i k a k' b hl
     split at hv
     .rename_i hk;obtain rfl:=zE.inj hv;simp [hl,Builtin.min2]
      split <;> omega
     .cases hv
    .cases hv
   simp [execOp,resolve,invoke,builtin,key,RO];exact h
  .rename_i f;obtain ⟨hf,h⟩:=h;have key:(callFunc f (args.map (ev e))).run P w=.ok (.enter f (args.map (ev e))) w:=by
    unfold q0J at hf;cases hfn:P.funcs[f]? with
    | none=>simp [hfn] at hf
    | some fn =>
     simp only [hfn,zG] at hf;obtain ⟨h1,h2⟩:=hf;obtain ⟨b,hb⟩:=v5.1 h1;simp only [Bool.not_eq_true',beq_eq_false_iff_ne,ne_eq] at h2;simp [callFunc,hfn,hb,h2]
   have key2:(execOp (ev e) ⟨dst,.call ⟨.value (.func f),args,tys⟩,ty,pos,af,g⟩).run P w=.ok (.enter f (args.map (ev e))) w:=by
    simp only [execOp,resolve,Deferred.ofValue,ev,pure_bind,invoke];simp [key]
   rw [key2];exact h
  .exact h
end
def wg (P:Program) (ops:Array Oper) (o:Oper) (e:Env) (w:World) (K:Value->World->Prop):Prop :=
 if q5j ops e o then wo P o e w K else K undef w
def WLo (P:Program) (ops:Array Oper) (K:Env->World->Prop):List Oper->Env->World->Prop
 | [],e,w=>K e w
 | o :: rest,e,w=>wg P ops o e w λv w'=>WLo P ops K rest (put e o.dst v) w'
section
variable {P:Program} {n:Nat} {ops:Array Oper} {Q:Exit->Env->World->Prop} {K:Env->World->Prop} {e:Env} {w:World}
def q3A {o:Oper} {K:Value->World->Prop} (h:wg P ops o e w K):WG P ops o e w K:=by
 unfold wg at h; unfold WG
 split
 .rename_i hw; rw [if_pos hw] at h; exact q9y h
 .rename_i hw; rw [if_neg hw] at h; exact h
def q84:∀ (l:List Oper) (e:Env) (w:World),WLo P ops K l e w->WL P ops K l e w
 | [],_,_,h=>h
 | _ :: rest,_,_,h=>q9o (λ_ _ h=>q84 rest _ _ h) (q3A h)
def qvy {id:Nat} {l:List Oper} (h:WLo P l.toArray (Q .normal) l e w):W P n (.region id l.toArray false) Q e w:=q3x (q84 _ _ _ (by simpa using h))
def qlK {id:Nat} {l:List Oper} (h:∀ K:Env->World->Prop,(∀ e w,Q .normal e w->K e w)->WLo P l.toArray K l e w):W P n (.region id l.toArray false) Q e w:=qvy (h _ λ_ _ h=>h)
def q1H {id:Nat} {l:List Oper} {b:Code} (h:∀ K:Env->World->Prop,(∀ e w,W P n b Q e w->K e w)->WLo P l.toArray K l e w):W P n (.seq (.region id l.toArray false) b) Q e w :=
 qpa (qvy (h _ λ_ _ h=>h))
def Wz {id:Nat} {l:List Oper} {b:Code} {e1:Env} {w1:World}  (k:W P n b Q e1 w1) (ee:∀ K:Env->World->Prop,WLo P l.toArray K l e w=K e1 w1:=by intro K; simp -implicitDefEqProofs (disch:=omega) only [go_sem,Nat.reduceEqDiff,Nat.reduceAdd,↓reduceIte]; exact rfl):W P n (.seq (.region id l.toArray false) b) Q e w:=q1H λK hK=>(ee K).mpr (hK _ _ k)
def Wz1 {id:Nat} {l:List Oper} {b:Code} {e1:Env} {w1:World} {F1:Prop} (f1:F1) (k:W P n b Q e1 w1) (ee:F1->∀ K:Env->World->Prop,WLo P l.toArray K l e w=K e1 w1:=by intro g1 K; simp -implicitDefEqProofs (disch:=omega) only [go_sem,Nat.reduceEqDiff,Nat.reduceAdd,↓reduceIte,g1]; exact rfl):W P n (.seq (.region id l.toArray false) b) Q e w:=q1H λK hK=>(ee f1 K).mpr (hK _ _ k)
def Wz2 {id:Nat} {l:List Oper} {b:Code} {e1:Env} {w1:World} {F1 F2:Prop} (f1:F1) (f2:F2) (k:W P n b Q e1 w1) (ee:F1->F2->∀ K:Env->World->Prop,WLo P l.toArray K l e w=K e1 w1:=by intro g1 g2 K; simp -implicitDefEqProofs (disch:=omega) only [go_sem,Nat.reduceEqDiff,Nat.reduceAdd,↓reduceIte,g1,g2]; exact rfl):W P n (.seq (.region id l.toArray false) b) Q e w:=q1H λK hK=>(ee f1 f2 K).mpr (hK _ _ k)
def Wz3 {id:Nat} {l:List Oper} {b:Code} {e1:Env} {w1:World} {F1 F2 F3:Prop} (f1:F1) (f2:F2) (f3:F3) (k:W P n b Q e1 w1) (ee:F1->F2->F3->∀ K:Env->World->Prop,WLo P l.toArray K l e w=K e1 w1:=by intro g1 g2 g3 K; simp -implicitDefEqProofs (disch:=omega) only [go_sem,Nat.reduceEqDiff,Nat.reduceAdd,↓reduceIte,g1,g2,g3]; exact rfl):W P n (.seq (.region id l.toArray false) b) Q e w:=q1H λK hK=>(ee f1 f2 f3 K).mpr (hK _ _ k)
def Wz4 {id:Nat} {l:List Oper} {b:Code} {e1:Env} {w1:World} {F1 F2 F3 F4:Prop} (f1:F1) (f2:F2) (f3:F3) (f4:F4) (k:W P n b Q e1 w1) (ee:F1->F2->F3->F4->∀ K:Env->World->Prop,WLo P l.toArray K l e w=K e1 w1:=by intro g1 g2 g3 g4 K; simp -implicitDefEqProofs (disch:=omega) only [go_sem,Nat.reduceEqDiff,Nat.reduceAdd,↓reduceIte,g1,g2,g3,g4]; exact rfl):W P n (.seq (.region id l.toArray false) b) Q e w:=q1H λK hK=>(ee f1 f2 f3 f4 K).mpr (hK _ _ k)
def Wz5 {id:Nat} {l:List Oper} {b:Code} {e1:Env} {w1:World} {F1 F2 F3 F4 F5:Prop} (f1:F1) (f2:F2) (f3:F3) (f4:F4) (f5:F5) (k:W P n b Q e1 w1) (ee:F1->F2->F3->F4->F5->∀ K:Env->World->Prop,WLo P l.toArray K l e w=K e1 w1:=by intro g1 g2 g3 g4 g5 K; simp -implicitDefEqProofs (disch:=omega) only [go_sem,Nat.reduceEqDiff,Nat.reduceAdd,↓reduceIte,g1,g2,g3,g4,g5]; exact rfl):W P n (.seq (.region id l.toArray false) b) Q e w:=q1H λK hK=>(ee f1 f2 f3 f4 f5 K).mpr (hK _ _ k)
def Wz6 {id:Nat} {l:List Oper} {b:Code} {e1:Env} {w1:World} {F1 F2 F3 F4 F5 F6:Prop} (f1:F1) (f2:F2) (f3:F3) (f4:F4) (f5:F5) (f6:F6) (k:W P n b Q e1 w1) (ee:F1->F2->F3->F4->F5->F6->∀ K:Env->World->Prop,WLo P l.toArray K l e w=K e1 w1:=by intro g1 g2 g3 g4 g5 g6 K; simp -implicitDefEqProofs (disch:=omega) only [go_sem,Nat.reduceEqDiff,Nat.reduceAdd,↓reduceIte,g1,g2,g3,g4,g5,g6]; exact rfl):W P n (.seq (.region id l.toArray false) b) Q e w:=q1H λK hK=>(ee f1 f2 f3 f4 f5 f6 K).mpr (hK _ _ k)
end
def resF (e:Env):ResultVar->Sem Value
 | .tmp t=>pure (e t)
 | .cell a t=>do loadVar t (<- asAddr (e a))
def qgw (fn:Func) (e:Env):Sem Value:=do
 let vs <- fn.results.mapM (resF e)
 pure (if h:vs.size=1 then vs[0] else .tuple vs)
def qgN (P:Program) (fn:Func) (R:Ending->World->Prop) (x:Exit) (e:Env) (w:World):Prop :=
 match x with
 | .normal | .ret=>∃ v,(qgw fn e).run P w=.ok v w/\R (.returned v) w
 | _=>False
section
variable {P:Program} {n:Nat}
def q6C {fn:Func} {a:Act} {e:Env} (hr:Rel n a e):results fn a.tmps=qgw fn e:=by
 have:(λi=>a.tmps.getD i undef)=e:=funext hr.get;unfold results qgw
 congr 1
 congr 1
 subst this
 funext r
 cases r <;> rfl
def q57 {f:FuncId} {fn:Func} {c:Code} {args:Array Value} {w:World} {R:Ending->World->Prop}
  (hf:P.funcs[f]?=some fn) (hb:fn.body=some c) (hn:fn.ntmps=n) (hd:(decide (args.size<=n) && q6x n c)=true)
  (h:W P n c (qgN P fn R) (q4T args.toList) w):Calls P f args w R:=by
 rw [zG,decide_eq_true_eq] at hd;refine calls_of_wp hf hb (wp_mono (h hd.2 ⟨args ++ wH (fn.ntmps-args.size) undef,[]⟩ ⟨rfl,by simp; omega,λi=>?_⟩) ?_)
 .simp only [q4T,yI,zR,Array.getElem?_append,Array.getElem?_replicate]
  by_cases hi:i < args.size
  .simp [hi]
  .simp only [hi,if_false,yN,xE (Nat.le_of_not_lt hi),Option.getD_none]
   split <;> rfl
 .rintro x a' w' ⟨e',hr,_,hq⟩;cases x <;> simp only [qgN] at hq <;> try exact hq.elim
  .obtain ⟨v,hv,hR⟩:=hq;exact ⟨hr.defs,v,by rw [q6C hr]; exact hv,hR⟩
  .obtain ⟨v,hv,hR⟩:=hq;exact ⟨hr.defs,v,by rw [q6C hr]; exact hv,hR⟩
def ret1 {fn:Func} {R:Ending->World->Prop} {e:Env} {w:World} {t:Nat} (h:fn.results=#[.tmp t]) (hR:R (.returned (e t)) w):qgN P fn R .ret e w :=
 ⟨e t,by simp [qgw,h,resF],hR⟩
def ret0 {fn:Func} {R:Ending->World->Prop} {e:Env} {w:World} (h:fn.results=#[]) (hR:R (.returned (.tuple #[])) w):qgN P fn R .ret e w :=
 ⟨.tuple #[],by simp [qgw,h],hR⟩
def q89 (P:Program) (w:World) (e:Env):ResultVar->Option Value
 | .tmp t=>some (e t)
 | .cell a t=>match e a with
  | .pointer (some p)=>match q09 P t with
   | some (some k)=>(q1I w p 0 k).map λl=>.agg l.toArray
   | some none=>w.cell? p
   | none=>none
  | _=>none
def q1Y {w:World} {e:Env} {r:ResultVar} {v:Value} (h:q89 P w e r=some v) :
  (resF e r).run P w=.ok v w:=by
 cases r with
 | tmp t=>simp only [q89] at h; obtain rfl:=zE.inj h; rfl
 | cell a t =>
  simp only [q89] at h
  split at h
  .rename_i p hp;have:ldV w (q09 P t) (.pointer (some p))=some v:=by
    unfold ldV; simp only []
    split at h <;> simp_all
   have h2 : WO P ⟨none, .load t (.const (.pointer (some p))), 0, "", #[], none⟩ e w (λv' w' => v' = v /\ w' = w) := q9y (by simp only [wo, ev, this, q2l]; exact ⟨trivial, trivial⟩);unfold WO at h2;simp only [execOp,ev,Sem.run_bind] at h2;simp only [resF,Sem.run_bind,hp,asAddr,Sem.run_pure,Result.andThen_ok];simp only [Instr.loadAt,Instr.sureAddr,Sem.run_bind,Sem.run_pure,Result.andThen_ok] at h2;cases hr:(loadVar t p).run P w with
   | ok x w'=>rw [hr] at h2; simp only [Result.andThen_ok,RO] at h2; rw [h2.1,h2.2]
   | halt=>rw [hr] at h2; simp only [Result.andThen_halt,RO] at h2
  .cases h
def qsI {fn:Func} {R:Ending->World->Prop} {e:Env} {w:World} {r:ResultVar} {v:Value} (h:fn.results=#[r]) (h0:q89 P w e r=some v) (hR:R (.returned v) w):qgN P fn R .ret e w:=by
 have:=q1Y h0;exact ⟨v,by simp [qgw,h,this],hR⟩
def qsH {fn:Func} {R:Ending->World->Prop} {e:Env} {w:World} {r s:ResultVar} {v u:Value} (h:fn.results=#[r,s]) (h0:q89 P w e r=some v) (h1:q89 P w e s=some u) (hR:R (.returned (.tuple #[v,u])) w):qgN P fn R .ret e w:=by
 have a0:=q1Y h0;have a1:=q1Y h1;exact ⟨.tuple #[v,u],by simp [qgw,h,a0,a1],hR⟩
def qsG {fn:Func} {R:Ending->World->Prop} {e:Env} {w:World} {r s q:ResultVar} {v u x:Value} (h:fn.results=#[r,s,q]) (h0:q89 P w e r=some v) (h1:q89 P w e s=some u) (h2:q89 P w e q=some x) (hR:R (.returned (.tuple #[v,u,x])) w):qgN P fn R .ret e w:=by
 have a0:=q1Y h0;have a1:=q1Y h1;have a2:=q1Y h2;exact ⟨.tuple #[v,u,x],by simp [qgw,h,a0,a1,a2],hR⟩
end
def qg7 (v:Value) (K:Value->Prop):Prop:=K v
def qbk (c a b:Value) (K:Value->Prop):Prop:=match c with | .bool true=>K a | .bool false=>K b | _=>False
def q3c (o:Option Bool) (b:Bool) (A B:Prop):Prop:=if o == some b then A else B
def qaI (P:Program) (t:TypeId) (w:World) (a x:Value) (K:World->Prop):Prop:=match a with
  | .pointer (some p)=>q03 P t=some x.cells.size/\qjj w p 0 x.cells.toList/\K (stN w p 0 x.cells.toList)
  | _=>False
def qt3 (off:Option Nat) (x:Value) (K:Value->Prop):Prop:=match x with
  | .pointer (some p)=>q20 off λoff=>K (.pointer (some (p.add off)))
  | _=>False
def mkW (eo:Option (TypeId × Nat × Nat × Array Value)) (l c:Value) (w:World) (K:Value->World->Prop):Prop:=match l,c with
  | .int _ l,.int _ c=>q20 eo λ(el,s,b,z)=>(0<=l/\l<=c/\(b:Int)*c<=281474976710656/\c<=9223372036854775807)/\K (.slice (some ⟨w.heap.size,0,none⟩) l.toNat c.toNat) (w.alloc (.cells (madeCells z (c.toNat*s)) el))
  | _,_=>False
def boxW (t:TypeId) (v:Value) (w:World) (K:Value->World->Prop):Prop:=K (.pointer (some ⟨w.heap.size,0,none⟩)) (w.alloc (.cells v.cells t))
def bsW (o:Option (TypeId × Array Value)) (len:Nat) (w:World) (K:Value->World->Prop):Prop:=q20 o λ(el,cs)=>K (.slice (some ⟨w.heap.size,0,none⟩) len len) (w.alloc (.cells cs el))
def alW (o:Option (Array Value)) (t:TypeId) (w:World) (K:Value->World->Prop):Prop:=q20 o λz=>K (.pointer (some ⟨w.heap.size,0,none⟩)) (w.alloc (.cells z t))
def q9b (P:Program) (f:FuncId) (args:List Value) (w:World) (K:Value->World->Prop):Prop:=q0J P f=true/\Calls P f args.toArray w λx w'=>match x with | .returned v=>K v w' | _=>False
def qpP (P:Program) (tys:Array TypeId) (ty:TypeId) (args:List Value) (w:World) (K:Value->World->Prop):Prop:=∃ v w',(Builtin.append_ tys ty args.toArray).run P w=.ok v w'/\K v w'
section
variable {P:Program}
@[congr] theorem qqD {α:Type} {o o':Option α} {K:α->Prop} (h:o=o'):q20 o K=q20 o' K:=by rw [h]
@[congr] theorem qpv {v v':Value} {K:Value->Prop} (h:v=v'):qg7 v K=qg7 v' K:=by rw [h]
@[congr] theorem qmi {c c' a b:Value} {K:Value->Prop} (h:c=c'):qbk c a b K=qbk c' a b K:=by rw [h]
@[congr] theorem qk8 {o o':Option Bool} {b:Bool} {A B:Prop} (h:o=o'):q3c o b A B=q3c o' b A B:=by rw [h]
@[congr] theorem qj5 {t:TypeId} {w w':World} {a a' x x':Value} {K:World->Prop} (hw:w=w') (h:a=a') (h':x=x'):qaI P t w a x K=qaI P t w' a' x' K:=by rw [h,h',hw]
@[congr] theorem qqN {o o':Option Nat} {x x':Value} {K:Value->Prop} (h:o=o') (h':x=x'):qt3 o x K=qt3 o' x' K:=by rw [h,h']
@[congr] theorem qsv {o o':Option (TypeId × Nat × Nat × Array Value)} {l l' c c':Value} {w:World} {K:Value->World->Prop} (h:o=o') (h1:l=l') (h2:c=c'):mkW o l c w K=mkW o' l' c' w K:=by rw [h,h1,h2]
@[congr] theorem qqR {t:TypeId} {v v':Value} {w:World} {K:Value->World->Prop} (h:v=v'):boxW t v w K=boxW t v' w K:=by rw [h]
@[congr] theorem qvC {o o':Option (TypeId × Array Value)} {len:Nat} {w:World} {K:Value->World->Prop} (h:o=o'):bsW o len w K=bsW o' len w K:=by rw [h]
@[congr] theorem qvd {o o':Option (Array Value)} {t:TypeId} {w:World} {K:Value->World->Prop} (h:o=o'):alW o t w K=alW o' t w K:=by rw [h]
@[congr] theorem qoc {f:FuncId} {args args':List Value} {w:World} {K:Value->World->Prop} (h:args=args'):q9b P f args w K=q9b P f args' w K:=by rw [h]
@[congr] theorem qqS {tys:Array TypeId} {ty:TypeId} {args args':List Value} {w:World} {K:Value->World->Prop} (h:args=args'):qpP P tys ty args w K=qpP P tys ty args' w K:=by rw [h]
@[congr] theorem qwC {ops:Array Oper} {l:List Oper} {e e':Env} {w:World} {K:Env->World->Prop} (h:e=e'):WLo P ops K l e w=WLo P ops K l e' w:=by rw [h]
@[congr] theorem W_congr {n:Nat} {c:Code} {Q:Exit->Env->World->Prop} {e e':Env} {w:World} (h:e=e'):W P n c Q e w=W P n c Q e' w:=by rw [h]
@[congr] theorem wo_congr {o:Oper} {e e':Env} {w:World} {K:Value->World->Prop} (h:e=e'):wo P o e w K=wo P o e' w K:=by rw [h]
variable {d:Option Nat} {ty t s:TypeId} {pos:String} {af:Array Edge} {g:Option (Nat × Bool)} {e:Env} {w:World} {K:Value->World->Prop}
def qqa {v:Value} {K:Value->Prop}:qg7 v K=K v:=rfl
def qmg {a b:Value} {K:Value->Prop}:qbk (.bool true) a b K=qg7 a K:=rfl
def qmh {a b:Value} {K:Value->Prop}:qbk (.bool false) a b K=qg7 b K:=rfl
def qe5 {A B:Prop}:q3c (some true) true A B=A:=rfl
def qe6 {A B:Prop}:q3c (some true) false A B=B:=rfl
def qe7 {A B:Prop}:q3c (some false) true A B=B:=rfl
def qe8 {A B:Prop}:q3c (some false) false A B=A:=rfl
def qhd {A B:Prop} {b:Bool}:q3c none b A B=B:=rfl
def qt2 {off:Nat} {p:Addr} {K:Value->Prop}:qt3 (some off) (.pointer (some p)) K=qg7 (.pointer (some (p.add off))) K:=rfl
def qa2 {i:Nat} {v:Value}:put e (some i) v=upd e i v:=rfl
def qle {x}:wo P ⟨d,.move x,ty,pos,af,g⟩ e w K=qg7 (ev e x) λv=>K v w:=rfl
def qci {x}:wo P ⟨d,.assign x,ty,pos,af,g⟩ e w K=qg7 (ev e x) λv=>K v w:=rfl
def qld {c a b}:wo P ⟨d,.pick c a b,ty,pos,af,g⟩ e w K=qbk (ev e c) (ev e a) (ev e b) λv=>K v w:=rfl
def qg5:wo P ⟨d,.alloc t,ty,pos,af,g⟩ e w K=alW (q1h P t) t w K:=rfl
def qq7 {x}:wo P ⟨d,.box t x,ty,pos,af,g⟩ e w K=boxW t (ev e x) w K:=rfl
def qg3 {ps}:wo P ⟨d,.build t ps,ty,pos,af,g⟩ e w K=q20 (P.built t (ps.map λ(i,x)=>(i,ev e x)).toList) λcs=>K (.agg cs) w:=rfl
def q3Y {len ps}:wo P ⟨d,.buildSlice t len ps,ty,pos,af,g⟩ e w K=bsW (bsV P t len (ps.map λ(i,x)=>(i,ev e x)).toList) len w K:=rfl
def qlg {a}:wo P ⟨d,.load t a,ty,pos,af,g⟩ e w K=q20 (ldV w (q09 P t) (ev e a)) λv=>K v w:=rfl
def qg0 {a x}:wo P ⟨d,.store t a x,ty,pos,af,g⟩ e w K=qaI P t w (ev e a) (ev e x) λw'=>K undef w':=rfl
def qg4 {op x y t'}:wo P ⟨d,.binOp op t x y t',ty,pos,af,g⟩ e w K=q20 (q0q P op t (ev e x) (ev e y)) λv=>K v w:=rfl
def qlc {op x}:wo P ⟨d,.unOp op t x,ty,pos,af,g⟩ e w K=q20 (unV op (ev e x)) λv=>K v w:=rfl
def qb8 {x}:wo P ⟨d,.convert s t x,ty,pos,af,g⟩ e w K=q20 (qcE (P.underlying s) (P.underlying t) (ev e x)) λv=>K v w:=rfl
def q72 {x f}:wo P ⟨d,.fieldAddr t x f,ty,pos,af,g⟩ e w K=qt3 (q0X P t f) (ev e x) λv=>K v w:=rfl
def q71 {x i}:wo P ⟨d,.indexAddr t x i,ty,pos,af,g⟩ e w K=q20 (qh0 (q0f P t) (qcK P t) (ev e x) (ev e i)) λv=>K v w:=rfl
def qg1 {x lo hi}:wo P ⟨d,.slice t x lo hi none,ty,pos,af,g⟩ e w K=q20 (q1x (q0f P t) (lo.map (ev e)) (hi.map (ev e)) (ev e x)) λv=>K v w:=rfl
def q70 {l c}:wo P ⟨d,.makeSlice t l c,ty,pos,af,g⟩ e w K=mkW (q0a P t) (ev e l) (ev e c) w K:=rfl
def qb7 {x i}:wo P ⟨d,.extract x i,ty,pos,af,g⟩ e w K=q20 (qke i (ev e x)) λv=>K v w:=rfl
def q8k {x}:wo P ⟨d,.nilCheck x,ty,pos,af,g⟩ e w K=q20 (match ev e x with | .pointer (some p)=>some (.pointer (some p)) | _=>none) λv=>K v w:=by
 simp only [wo]
 split <;> rename_i h <;> first | rfl | (simp only [h]; done) | (simp only [h]; rfl)
def qq6 {x}:wo P ⟨d,.call ⟨.builtin .len,#[x],#[t]⟩,ty,pos,af,g⟩ e w K=q20 (qtL (q0f P t) (ev e x)) λv=>K v w:=rfl
def qq5 {xs ts}:wo P ⟨d,.call ⟨.builtin .max,xs,ts⟩,ty,pos,af,g⟩ e w K=q20 (mmV true (xs.toList.map (ev e))) λv=>K v w:=rfl
def qq4 {xs ts}:wo P ⟨d,.call ⟨.builtin .min,xs,ts⟩,ty,pos,af,g⟩ e w K=q20 (mmV false (xs.toList.map (ev e))) λv=>K v w:=rfl
def qli {f} {xs:List Operand} {ts}:wo P ⟨d,.call ⟨.value (.func f),xs.toArray,ts⟩,ty,pos,af,g⟩ e w K=q9b P f (xs.map (ev e)) w K:=by
 simp only [wo,q9b,xO]
 try rfl
def qbI {f:FuncId} {args:List Value} {R:Ending->World->Prop} (hc:q0J P f=true) (h:Calls P f args.toArray w R) (hk:∀ x w',R x w'->∃ v,x=.returned v/\K v w'):q9b P f args w K :=
 ⟨hc,h.mono λx w' hx=>by obtain ⟨v,rfl,h⟩:=hk x w' hx; exact h⟩
def q5E {s x:Operand} {tys:Array TypeId}:wo P ⟨d,.call ⟨.builtin .append,#[s,x],tys⟩,ty,pos,af,g⟩ e w K=qpP P tys ty [ev e s,ev e x] w K:=by
 simp only [wo,WO,execOp,resolve,invoke,builtin,Sem.run_bind,Sem.run_pure,Result.andThen_ok,xO,yU,y6,qpP];cases hr:(Builtin.append_ tys ty #[ev e s,ev e x]).run P w with
 | ok v w' =>
  simp only [Result.andThen_ok,Sem.run_pure,RO];exact propext ⟨λh=>⟨v,w',rfl,h⟩,λ⟨v',w'',h,hk⟩=>by injection h with h1 h2; subst h1; subst h2; exact hk⟩
 | halt x w' =>
  simp only [Result.andThen_halt,RO];exact propext ⟨λh=>h.elim,λ⟨_,_,h,_⟩=>by cases h⟩
def qdk (P:Program) (T ty:TypeId) (s x:Value) (w:World) (K:Value->Value->World->Prop):Prop :=
 bsW (bsV P T 1 [(0,x)]) 1 w λv1 w1=>qpP P #[T,T] ty [s,v1] w1 λv2 w2=>K v1 v2 w2
@[congr] theorem qmd {T ty:TypeId} {s s' x x':Value} {w:World} {K:Value->Value->World->Prop} (h:s=s') (h':x=x'):qdk P T ty s x w K=qdk P T ty s' x' w K:=by rw [h,h']
def q6T {ops:Array Oper} {op:Op}:wg P ops ⟨d,op,ty,pos,af,none⟩ e w K=wo P ⟨d,op,ty,pos,af,none⟩ e w K:=rfl
def qlj {ops:Array Oper} {op:Op} {j:Nat} {b:Bool}:wg P ops ⟨d,op,ty,pos,af,some (j,b)⟩ e w K=q3c (q3W ops e j) b (wo P ⟨d,op,ty,pos,af,some (j,b)⟩ e w K) (K undef w):=rfl
def qpc {ops:Array Oper} {K:Env->World->Prop}:WLo P ops K [] e w=K e w:=rfl
def q7N {ops:Array Oper} {K:Env->World->Prop} {o:Oper} {rest:List Oper}:WLo P ops K (o :: rest) e w=wg P ops o e w λv w'=>WLo P ops K rest (put e o.dst v) w':=rfl
def qjG {ops:Array Oper} {K:Env->World->Prop} {d1 d2 s T ty1 ty2:Nat} {x:Operand} {p1 p2:String} {a1 a2:Array Edge} {rest:List Oper} :
  WLo P ops K (⟨some d1,.buildSlice T 1 #[(0,x)],ty1,p1,a1,none⟩ :: ⟨some d2,.call ⟨.builtin .append,#[.tmp s,.tmp d1],#[T,T]⟩,ty2,p2,a2,none⟩ :: rest) e w =
   if s=d1 then wg P ops ⟨some d1,.buildSlice T 1 #[(0,x)],ty1,p1,a1,none⟩ e w (λv w'=>WLo P ops K (⟨some d2,.call ⟨.builtin .append,#[.tmp s,.tmp d1],#[T,T]⟩,ty2,p2,a2,none⟩ :: rest) (put e (some d1) v) w')
   else qdk P T ty2 (e s) (ev e x) w λv1 v2 w'=>WLo P ops K rest (upd (upd e d1 v1) d2 v2) w':=by
 split
 .rfl
 rename_i hne;have h:∀ v1,ev (upd e d1 v1) (.tmp s)=e s:=λv1=>by
  simp [ev,upd,hne]
 have h2:∀ v1,ev (upd e d1 v1) (.tmp d1)=v1:=λv1=>by simp [ev,upd]
 rw [q7N,q6T,q3Y];unfold qdk;have hp:(Array.map (λx=>match x with | (i,x)=>(i,ev e x)) #[(0,x)]).toList=[(0,ev e x)]:=σ
 rw [hp]
 congr 1
 funext v1 w1
 rw [q7N,q6T,qa2,q5E,h,h2]
 rfl
def qhE {v:Value}:put e none v=e:=rfl
def qtn {i:Nat}:ev e (.tmp i)=e i:=rfl
def qiX {v:Value}:ev e (.const v)=v:=rfl
def qjQ {i j:Nat} {v:Value}:upd e i v j=if j=i then v else e j:=rfl
def q8n {next:Env->World->Prop} {Q:Exit->Env->World->Prop}:qgd next Q .ret e w=Q .ret e w:=rfl
def qnR {Q:Exit->Env->World->Prop} {i:Nat}:inB i Q .ret e w=Q .ret e w:=rfl
def env_z {v:Value} {l:List Value}:q4T (v :: l) 0=v:=rfl
def env_s {v:Value} {l:List Value} {i:Nat}:q4T (v :: l) (i+1)=q4T l i:=rfl
def qpO {tys:Array TypeId} {ty':TypeId} {args:List Value} {v:Value} {w':World} (h:(Builtin.append_ tys ty' args.toArray).run P w=.ok v w') (hk:K v w'):qpP P tys ty' args w K:=⟨v,w',h,hk⟩
end
attribute [irreducible] qdk bsW qpP q9b mkW boxW alW qaI qt3 q3c qbk qg7 WLo wg
section
variable {P:Program} {t:TypeId} {k k':IntKind} {a b:Int}
def qpL:q0q P .add t (.int k a) (.int k b)=some (.int k (k.wrap (a+b))):=by simp [q0q,q7H,q2o]
def qpC:q0q P .sub t (.int k a) (.int k b)=some (.int k (k.wrap (a-b))):=by simp [q0q,q7H,q2o]
def qpE:q0q P .mul t (.int k a) (.int k b)=some (.int k (k.wrap (a*b))):=by simp [q0q,q7H,q2o]
def qfo:q0q P .quo t (.int k a) (.int k b)=if b=0 then none else some (.int k (k.wrap (a.tdiv b))):=by simp [q0q,q7H,q2o]
def qfn:q0q P .rem t (.int k a) (.int k b)=if b=0 then none else some (.int k (a.tmod b)):=by simp [q0q,q7H,q2o]
def qpK:q0q P .and t (.int k a) (.int k b)=some (.int k (q0d .and k a b)):=by simp [q0q,q7H,q2o]
def qvR:q0q P .or t (.int k a) (.int k b)=some (.int k (q0d .or k a b)):=by simp [q0q,q7H,q2o]
def qpB:q0q P .xor t (.int k a) (.int k b)=some (.int k (q0d .xor k a b)):=by simp [q0q,q7H,q2o]
def qcJ:q0q P .andNot t (.int k a) (.int k b)=some (.int k (q0d .andNot k a b)):=by simp [q0q,q7H,q2o]
def qpJ:q0q P .eql t (.int k a) (.int k b)=some (.bool (a == b)):=by simp [q0q,q7H,q2o]
def qpD:q0q P .neq t (.int k a) (.int k b)=some (.bool (a != b)):=by simp [q0q,q7H,q2o]
def qpF:q0q P .lss t (.int k a) (.int k b)=some (.bool (decide (a < b))):=by simp [q0q,q7H,q2o]
def qpG:q0q P .leq t (.int k a) (.int k b)=some (.bool (decide (a<=b))):=by simp [q0q,q7H,q2o]
def qpH:q0q P .gtr t (.int k a) (.int k b)=some (.bool (decide (b < a))):=by simp [q0q,q7H,q2o]
def qpI:q0q P .geq t (.int k a) (.int k b)=some (.bool (decide (b<=a))):=by simp [q0q,q7H,q2o]
def q9h:q0q P .shl t (.int k a) (.int k' b)=if b < 0 then none else some (.int k (k.wrap (a*2 ^ (min b.toNat k.bits)))):=by simp [q0q,q7H]
def q1t:q0q P .shr t (.int k a) (.int k' b)=if b < 0 then none else some (.int k (a.fdiv (2 ^ (min b.toNat k.bits)))):=by simp [q0q,q7H]
def qbT {x y:Bool} (h:P.underlying t=some .bool):q0q P .eql t (.bool x) (.bool y)=some (.bool (x == y)):=by simp [q0q,h]
def qbS {x y:Bool} (h:P.underlying t=some .bool):q0q P .neq t (.bool x) (.bool y)=some (.bool (x != y)):=by simp [q0q,h]
def q9i {A:Option Addr} {n c n' c' el:Nat} (h:P.underlying t=some (.slice el)):q0q P .eql t (.slice A n c) (.slice none n' c')=some (.bool A.isNone):=by simp [q0q,h]
def qbR {A:Option Addr} {n c n' c' el:Nat} (h:P.underlying t=some (.slice el)):q0q P .neq t (.slice A n c) (.slice none n' c')=some (.bool A.isSome):=by simp [q0q,h]
def qqi {x:Bool}:unV .not (.bool x)=some (.bool !x):=rfl
def qqj:unV .neg (.int k a)=some (.int k (k.wrap (0-a))):=rfl
def qib {s:TypeDesc}:qcE (some s) (some (.int k)) (.int k' a)=some (.int k (k.wrap a)):=rfl
def idx_s {ad:Addr} {n c s:Nat} {ar:Option (Nat × Nat)} {i:Int}:qh0 (some s) ar (.slice (some ad) n c) (.int k i)=if 0<=i/\i < n then some (.pointer (some (ad.add (i.toNat*s)))) else none:=rfl
def idx_a {ad:Addr} {n s:Nat} {sz:Option Nat} {i:Int}:qh0 sz (some (n,s)) (.pointer (some ad)) (.int k i)=if 0<=i/\i < n then some (.pointer (some (ad.add (i.toNat*s)))) else none:=rfl
def len_s {A:Option Addr} {n c s:Nat}:qtL (some s) (.slice A n c)=some (.int .i64 n):=rfl
def ext_0 {v:Value} {l:List Value}:qke 0 (.tuple ⟨v :: l⟩)=some v:=rfl
def ext_1 {v u:Value} {l:List Value}:qke 1 (.tuple ⟨v :: u :: l⟩)=some u:=rfl
def ext_2 {v u x:Value} {l:List Value}:qke 2 (.tuple ⟨v :: u :: x :: l⟩)=some x:=rfl
def ext_3 {v u x y:Value} {l:List Value}:qke 3 (.tuple ⟨v :: u :: x :: y :: l⟩)=some y:=rfl
def ld_1 {w:World} {p:Addr}:ldV w (some none) (.pointer (some p))=w.cell? p:=rfl
def ld_k {w:World} {p:Addr} {n:Nat}:ldV w (some (some n)) (.pointer (some p))=(q1I w p 0 n).map λl=>.agg l.toArray:=rfl
def rd_z {w:World} {p:Addr} {i:Nat}:q1I w p i 0=some []:=rfl
def qu0 (a:Option Value) (b:Option (List Value)):Option (List Value):=match a,b with | some v,some l=>some (v :: l) | _,_=>none
def qoT {v:Value} {l:List Value}:qu0 (some v) (some l)=some (v :: l):=rfl
def rd_s {w:World} {p:Addr} {i n:Nat}:q1I w p i (n+1)=qu0 (w.cell? (p.add i)) (q1I w p (i+1) n):=rfl
def sl_hi {A:Option Addr} {n c s:Nat} {h:Int}:q1x (some s) none (some (.int k h)) (.slice A n c)=if 0<=h/\h<=c then some (.slice (if c=0 then A else A.map (·.add (0*s))) (h.toNat-0) (c-0)) else none:=by
 simp only [q1x,q3I]
 split <;> rename_i hh <;> split at hh <;> simp_all
def sl_lo {A:Option Addr} {n c s:Nat} {l:Int}:q1x (some s) (some (.int k l)) none (.slice A n c)=if 0<=l/\l<=n then some (.slice (if c=l.toNat then A else A.map (·.add (l.toNat*s))) (n-l.toNat) (c-l.toNat)) else none:=by
 simp only [q1x,q3I]
 split <;> rename_i hh <;> split at hh <;> simp_all
def sl_lh {A:Option Addr} {n c s:Nat} {l h:Int}:q1x (some s) (some (.int k l)) (some (.int k' h)) (.slice A n c) =
  if (0<=h/\h<=c)/\0<=l/\l<=h then some (.slice (if c=l.toNat then A else A.map (·.add (l.toNat*s))) (h.toNat-l.toNat) (c-l.toNat)) else none:=by
 simp only [q1x,q3I]
 by_cases h1:0<=h/\h<=(c:Int)
 .have e:((h.toNat:Nat):Int)=h:=ω
  simp only [h1,and_self,if_true,e,true_and]
  by_cases h2:0<=l/\l<=h <;> simp [h2]
 .simp [h1]
def qfv (A:Option Addr) (s:Nat):A.map (·.add (0*s))=A:=by
 rw [wC]; cases A <;> simp [Addr.add]
def qr2 {A:Option Addr} {n c s:Nat} {h:Int}:q1x (some s) none (some (.int k h)) (.slice A n c)=if 0<=h/\h<=c then some (.slice A h.toNat c) else none:=by
 rw [sl_hi,qfv]; simp
def qbN:Value->Option Bool | .bool b=>some b | _=>none
def qin {b:Bool}:qbN (.bool b)=some b:=rfl
def qim:qbN undef=none:=rfl
def q5r:List Oper->Nat->Env->Option Bool
 | [],_,_=>none
 | o :: _,0,e=>match o.dst with | some d=>qbN (e d) | none=>none
 | _ :: os,j+1,e=>q5r os j e
def qgW {o:Oper} {os:List Oper} {j:Nat} {e:Env}:q5r (o :: os) (j+1) e=q5r os j e:=rfl
def qgV {d:Nat} {op:Op} {ty:TypeId} {pos:String} {af:Array Edge} {g:Option (Nat × Bool)} {os:List Oper} {e:Env}:q5r (⟨some d,op,ty,pos,af,g⟩ :: os) 0 e=qbN (e d):=rfl
def qgX {l:List Oper} {e:Env} {j:Nat}:q3W l.toArray e j=q5r l j e:=by
 unfold q3W;rw [vI]
 induction l generalizing j with
 | nil=>rfl
 | cons o os ih =>
  cases j with
  | zero =>
   simp only [List.getElem?_cons_zero,xM,q5r];cases o.dst with
   | none=>rfl
   | some d=>simp only []; cases e d <;> rfl
  | succ j=>rw [x8]; exact ih
end
def i64_in {n:Int} (h1 : -9223372036854775808<=n) (h2:n<=9223372036854775807):IntKind.i64.wrap n=n:=IntWalk.i64_in n ⟨h1,h2⟩
def u64_in {n:Int} (h1:0<=n) (h2:n<=18446744073709551615):IntKind.u64.wrap n=n:=IntWalk.u64_in n ⟨h1,h2⟩
def u8_in {n:Int} (h1:0<=n) (h2:n<=255):IntKind.u8.wrap n=n:=IntWalk.u8_in n ⟨h1,h2⟩
def q0s (n:Int):IntKind.u64.wrap n=n % 18446744073709551616:=by simp [IntKind.wrap,IntKind.bits,IntKind.signed]
def q2W (n:Int):IntKind.u32.wrap n=n % 4294967296:=by simp [IntKind.wrap,IntKind.bits,IntKind.signed]
def qha (n:Int):IntKind.i64.wrap n=(n+9223372036854775808) % 18446744073709551616-9223372036854775808:=IntKind.wrap_i64 n
attribute [go_sem] qpL qpC qpE qfo qfn qpK qvR qpB qcJ qpJ qpD qpF qpG qpH qpI q9h q1t qbT qbS qqi qqj qib idx_s idx_a len_s ext_0 ext_1 ext_2 ext_3 ld_1 ld_k rd_z qoT rd_s qr2 sl_lo sl_lh
attribute [go_sem ↓] qle qci qld qg5 qq7 qg3 q3Y qlg qg0 qg4 qlc qb8 q72 q71 qg1 q70 qb7 q8k qq6 qq5 qq4 q5E qli q6T qlj qpc q7N qgX qgW qgV
attribute [go_sem ↓ high] qjG
attribute [go_sem ↓] qeU qbq
attribute [go_sem] qqa qmg qmh qe5 qe6 qe7 qe8 qhd qim qt2 qa2 qhE qtn qiX qjQ q2l env_z env_s qin decide_true decide_false Bool.not_false Bool.not_true ite_true ite_false beq_self_eq_true yU y6 yY Option.map_none Int.toNat_natCast vN and_self xO List.toList_toArray
end Go.E
namespace Go.Sp
def B:Nat:=4294967296
def q1A:0 < B:=by decide
def q85:1 < B:=by decide
def q4A (k:Nat):0 < B ^ k:=xY q1A
def val:List Nat->Nat
 | []=>0
 | d :: l=>d+B*val l
def qhR:Nat->Nat->List Nat
 | 0,_=>[]
 | f+1,n=>if n=0 then [] else n % B :: qhR f (n / B)
def lim (n:Nat):List Nat:=qhR n n
def q0Y (l:List Nat):Prop:=∀ d ∈ l,d < B
def q6y {n:Nat} (h:n≠0):n / B < n:=Nat.div_lt_self Oq q85
def q8A : ∀ (f g n : Nat), n <= f -> n <= g -> qhR f n = qhR g n
  | 0, 0, _, _, _ => rfl
  | 0, g + 1, n, h, _ => by have : n = 0 := by omega
                            subst this; simp [qhR]
  | f + 1, 0, n, _, h => by have : n = 0 := by omega
                            subst this; simp [qhR]
  | f + 1, g + 1, n, h1, h2 => by
    by_cases h : n = 0
    . subst h; simp [qhR]
    . simp only [qhR, if_neg h]
      have := q6y h
      rw [q8A f g (n / B) Oq ω]
def q2C:lim 0=[]:=rfl
def q3Q {n:Nat} (h:n≠0):lim n=n % B :: lim (n / B):=by
 obtain ⟨m,rfl⟩:∃ m,n=m+1:=⟨n-1,ω⟩;unfold lim;simp only [qhR,if_neg h];have:=q6y h;rw [q8A m ((m+1) / B) ((m+1) / B) Oq (yL _)]
def q6l {P:Nat->Prop} (h0:P 0) (hs:∀ n,n≠0->P (n / B)->P n) (n:Nat):P n:=by
 induction n using Nat.strongRecOn with
 | _ n ih =>
  by_cases h:n=0
  .subst h; exact h0
  .exact hs n h (ih _ (q6y h))
def q0D (n:Nat):val (lim n)=n:=by
 induction n using q6l with
 | h0=>rfl
 | hs n h ih=>rw [q3Q h,val,ih]; exact xS n B
def q0C (n:Nat):q0Y (lim n):=by
 induction n using q6l with
 | h0=>intro d h; cases h
 | hs n h ih =>
  rw [q3Q h]; intro d hd
  rcases List.mem_cons.1 hd with rfl | hd
  .exact zW _ q1A
  .exact ih d hd
def qbo {n:Nat} (h:n≠0):lim n≠[]:=by rw [q3Q h]; simp
def q9M {n:Nat}:lim n=[] ↔ n=0:=by
 constructor
 .intro h; by_cases h0:n=0
  .exact h0
  .exact absurd h (qbo h0)
 .rintro rfl; rfl
def q0K {n:Nat}:0 < (lim n).length ↔ n≠0:=by
 constructor
 .intro h h0; subst h0; simp [q2C] at h
 .intro h; rw [q3Q h]; simp
def q12 {l:List Nat} (h:q0Y l):val l < B ^ l.length:=by
 induction l with
 | nil=>simp [val]
 | cons d l ih =>
  have h1:=ih (λx hx=>h x (zY _ hx));have h2:=h d (z9);simp only [val,yA,zF];have h3:B*val l+B<=B*B ^ l.length:=by
   rw [<- wD]; exact zQ _ h1
  rw [zI (B ^ l.length)]; omega
def q4I (a b:List Nat):val (a ++ b)=val a+B ^ a.length*val b:=by
 induction a with
 | nil=>simp [val]
 | cons d a ih =>
  simp only [List.cons_append,val,ih,yA,zF,zC];rw [zI (B ^ a.length) B,zB]; omega
def q11 (n:Nat):val (List.replicate n 0)=0:=by
 induction n with
 | zero=>rfl
 | succ n ih=>simp [List.replicate_succ,val,ih]
def q0Y.nil:q0Y []:=λ_ h=>by cases h
def q0Y.take {l:List Nat} (h:q0Y l) (n:Nat):q0Y (l.take n):=λd hd=>h d (vM hd)
def q0Y.drop {l:List Nat} (h:q0Y l) (n:Nat):q0Y (l.drop n):=λd hd=>h d (xP hd)
def q0Y.append {a b:List Nat} (h:q0Y a) (k:q0Y b):q0Y (a ++ b):=λd hd=>by
 rcases wI.1 hd with hd | hd
 .exact h d hd
 .exact k d hd
def q0Y.one {d:Nat} (h:d < B):q0Y [d]:=λx hx=>by simp at hx; subst hx; exact h
def q0Y.snoc {a:List Nat} {d:Nat} (h:q0Y a) (k:d < B):q0Y (a ++ [d]):=h.append (.one k)
def q0k {l:List Nat} {i:Nat} (h:i < l.length):l.getD i 0=l[i]:=(List.getElem_eq_getD 0).symm
def q0Y.get {l:List Nat} (h:q0Y l) (i:Nat):l.getD i 0 < B:=by
 rcases zN i l.length with hi | hi
 .rw [q0k hi]; exact h _ (List.getElem_mem hi)
 .simp [List.getD,z8 hi,q1A]
def q0Y.set {l:List Nat} (h:q0Y l) (i d:Nat) (hd:d < B):q0Y (l.set i d):=λx hx=>by
 rcases List.mem_or_eq_of_mem_set hx with hx | rfl
 .exact h x hx
 .exact hd
def q0Y.replicate (n:Nat):q0Y (List.replicate n 0):=λd hd=>by
 rw [List.mem_replicate] at hd; rw [hd.2]; exact q1A
def qcs {α:Type} (l:List α) (i:Nat) (h:i < l.length):l.take (i+1)=l.take i ++ [l[i]]:=xF h
def q2K (l:List Nat) (i:Nat) (h:i < l.length):l.take (i+1)=l.take i ++ [l.getD i 0]:=by
 rw [qcs l i h,q0k h]
def q5G (d:Nat):val [d]=d:=by simp [val]
def q2U (l:List Nat) (d:Nat):val (l ++ [d])=val l+B ^ l.length*d:=by rw [q4I,q5G]
def q1c (l:List Nat) (i:Nat) (h:i < l.length):val (l.take (i+1))=val (l.take i)+B ^ i*l.getD i 0:=by
 rw [q2K l i h,q2U,zU,yP ω]
def q0F (l:List Nat) (i:Nat) (h:l.length<=i):val (l.take i)=val l:=by rw [yJ h]
def q1D (l:List Nat) (i:Nat) (h:i<=l.length):val l=val (l.take i)+B ^ i*val (l.drop i):=by
 have:=q4I (l.take i) (l.drop i);rw [List.take_append_drop,zU,yP h] at this;exact this
def q2X (l:List Nat) (i d:Nat):(l.set i d).take i=l.take i:=List.take_set_of_le (yL i)
def q3a {n : Nat} (h : n ≠ 0) : (lim n).getD ((lim n).length - 1) 0 ≠ 0 := by
  induction n using q6l with
  | h0 => exact absurd rfl h
  | hs n h ih =>
    rw [q3Q h]
    by_cases h0 : n / B = 0
    . rw [h0, q2C]
      have : n < B := by rcases zN n B with h1 | h1
                         . exact h1
                         . have := wP h1 q1A; omega
      simp [zH this, h]
    . have := ih h0
      have hp := q0K.2 h0
      simp only [yA, yB]
      obtain ⟨k, hk⟩ : ∃ k, (lim (n / B)).length = k + 1 := ⟨(lim (n / B)).length - 1, by omega⟩
      rw [hk] at this ⊢
      simpa using this
def q9N {d m:Nat} (hd:d < B) (h:d+B*m≠0):lim (d+B*m)=d :: lim m:=by
 rw [q3Q h];rw [z7,zH hd,vV _ _ q1A,yM hd,yW]
def q2e:∀ {l:List Nat},l≠[]->l.getD (l.length-1) 0≠0->val l≠0
 | [],h,_=>absurd rfl h
 | [d],_,k=>by simpa [val] using k
 | d :: e :: l,_,k=>by
  have:=q2e (l:=e :: l) σ (by simpa using k);have hB:=q1A;have:0 < B*val (e :: l):=zS hB Oq;rw [val]; omega
def qeO:∀ {l:List Nat},q0Y l->(l=[]\/l.getD (l.length-1) 0≠0)->lim (val l)=l
 | [],_,_=>rfl
 | d :: l,h,k=>by
  have hd:=h d z9;have hl:q0Y l:=λx hx=>h x (zY _ hx);have k':(d :: l).getD ((d :: l).length-1) 0≠0:=k.resolve_left σ;have hv:=q2e (l:=d :: l) σ k';rw [val] at hv ⊢;rw [q9N hd hv,qeO hl];cases l with
  | nil=>exact .inl rfl
  | cons e l=>exact .inr (by simpa using k')
def q6X {l:List Nat} {n:Nat} (h:q0Y l) (hn:n<=l.length) (hz:∀ i,n<=i->i < l.length->l.getD i 0=0) (hl:n=0\/l.getD (n-1) 0≠0):l.take n=lim (val l):=by
 have hd:val (l.drop n)=0:=by
  have:l.drop n=List.replicate (l.length-n) 0:=by
   apply List.ext_getElem σ
   intro i h1 h2;have:=hz (n+i) Oq (by simp at h1; omega);rw [q0k (by simp at h1; omega)] at this;simp [this]
  rw [this,q11]
 have hv:val l=val (l.take n):=by rw [q1D l n hn,hd]; simp
 rw [hv,qeO (h.take n)]
 rcases hl with rfl | hl
 .exact .inl σ
 .by_cases h0:n=0
  .exact .inl (by simp [h0])
  .refine .inr ?_;rw [zU,yP hn];rw [q0k ω] at hl;rw [q0k (by simp; omega)];simpa using hl
def q00 (n:Nat):n < B ^ (lim n).length:=by
 have:=q12 (q0C n); rwa [q0D] at this
def q2v {n:Nat} (h:n≠0):B ^ ((lim n).length-1)<=n:=by
 induction n using q6l with
 | h0=>exact absurd rfl h
 | hs n h ih =>
  rw [q3Q h];simp only [yA,yB]
  by_cases h0:n / B=0
  .rw [h0,q2C]; simp; omega
  .have:=ih h0;have hp:=q0K.2 h0;obtain ⟨k,hk⟩:∃ k,(lim (n / B)).length=k+1:=⟨(lim (n / B)).length-1,ω⟩;rw [hk] at this ⊢;simp only [yB] at this;rw [zF];exact zL (zK B this) (Nat.div_mul_le_self n B)
def q0e {n k:Nat} (h:n < B ^ k):(lim n).length<=k:=by
 by_cases h0:n=0
 .subst h0; simp [q2C]
 .have h1:=q2v h0;have h2:B ^ ((lim n).length-1) < B ^ k:=yC h1 h;have:=(yG q85).1 h2;omega
def q0b {m n:Nat} (h:m<=n):(lim m).length<=(lim n).length:=q0e (yC h (q00 n))
def q2B {m n:Nat} (h:(lim m).length < (lim n).length):m < n:=by
 rcases zN m n with k | k
 .exact k
 .have:=q0b k; omega
def q3Z {a b:List Nat} {i:Nat} (ha:q0Y a) (hl:a.length=b.length) (hi:i < a.length)
  (hs:a.drop (i+1)=b.drop (i+1)) (hlt:a.getD i 0 < b.getD i 0):val a < val b:=by
 rw [q1D a (i+1) Oq,q1D b (i+1) Oq,hs,q1c a i hi,q1c b i ω];have h1:=q12 (ha.take i);rw [zU,yP ω] at h1;have h2:B ^ i*a.getD i 0+B ^ i<=B ^ i*b.getD i 0:=by rw [<- wD]; exact zQ _ hlt
 omega
end Go.Sp
namespace Go.E
open Go Go.RowKit
structure Kp (D:Nat->Prop) (w w':World):Prop where
 os:w'.os=w.os
 tape:w'.tape=w.tape
 output:w'.output=w.output
 size:w.heap.size<=w'.heap.size
 block:∀ k,k < w.heap.size->D k->w'.heap[k]?=w.heap[k]?
abbrev Ext (w w':World):Prop:=Kp (λ_=>True) w w'
def Ck {P:Program} {f:FuncId} {args:List Value} {v:Value} {w:World} {K:Value->World->Prop} (hc:q0J P f=true) (h:Calls P f args.toArray w λe w'=>e=.returned v/\Ext w w') (k:∀ w',Ext w w'->K v w'):q9b P f args w K:=qbI hc h λx w' ⟨h1,h2⟩=>⟨v,h1,k w' h2⟩
def Fr (D:Nat->Prop) (w:World):Prop:=∀ k,w.heap.size<=k->D k
section
variable {D D':Nat->Prop} {w w' w'':World}
def Kp.refl (D:Nat->Prop) (w:World):Kp D w w:=⟨rfl,rfl,rfl,yL _,λ_ _ _=>rfl⟩
def Kp.trans (h:Kp D w w') (k:Kp D w' w''):Kp D w w'' :=
 ⟨k.os.trans h.os,k.tape.trans h.tape,k.output.trans h.output,zL h.size k.size,λi hi hd=>(k.block i (vR hi h.size) hd).trans (h.block i hi hd)⟩
def Kp.mono (h:Kp D w w') (hd:∀ k,k < w.heap.size->D' k->D k):Kp D' w w':=⟨h.os,h.tape,h.output,h.size,λk hk hk'=>h.block k hk (hd k hk hk')⟩
def Kp.of_ext (h:Ext w w'):Kp D w w':=h.mono λ_ _ _=>trivial
def Kp.drew (w:World) (k:Nat):Kp D w { w with drawn:=k }:=⟨rfl,rfl,rfl,yL _,λ_ _ _=>rfl⟩
def Kp.alloc (w:World) (o:Obj):Kp D w (w.alloc o):=⟨rfl,rfl,rfl,σ,λk hk _=>Below.heap_alloc w o k hk⟩
def Kp.setCell (w:World) {p:Addr} (hp:p.block < w.heap.size->¬ D p.block) (v:Value):Kp D w (w.setCell p v) :=
 ⟨rfl,rfl,rfl,by simp [World.setCell],λk hk hd=>Below.heap_setCell w p v k (λe=>by subst e; exact hp hk hd)⟩
def Kp.cell (h:Kp D w w') {p:Addr} {v:Value} (hd:D p.block) (hc:w.cell? p=some v):w'.cell? p=some v:=by
 have hlt:=World.block_lt_of_cell? w p hc;rw [<- hc];exact World.cell?_of_block (h.block p.block hlt hd)
def Kp.below (h:Ext w w'):Below w.heap.size w w':=⟨h.os,h.tape,h.output,h.size,λk hk=>h.block k hk trivial⟩
def Fr.triv (w:World):Fr (λ_=>True) w:=λ_ _=>trivial
def Blk (w:World) (g:Nat) (t:TypeId) (cs:Array Value):Prop:=w.heap[g]?=some (.cells cs t (0,0))
variable {g:Nat} {t:TypeId} {cs:Array Value}
def Blk.lt (h:Blk w g t cs):g < w.heap.size:=by
 rcases zN g w.heap.size with hlt | hge
 .exact hlt
 .unfold Blk at h; rw [xE hge] at h; cases h
def Blk.cell (h:Blk w g t cs) (i:Nat):w.cell? ⟨g,i,none⟩=cs[i]?:=cell_of_row w g i cs t (0,0) h
def Blk.frozen (h:Blk w g t cs) (i:Nat):w.frozen? ⟨g,i,none⟩=false:=by unfold Blk at h; simp [World.frozen?,h]
def Blk.new (w:World) (t:TypeId) (cs:Array Value):Blk (w.alloc (.cells cs t)) w.heap.size t cs:=heap_alloc_new w _
def Blk.kp (h:Blk w g t cs) (hk:Kp D w w') (hd:D g):Blk w' g t cs:=(hk.block g h.lt hd).trans h
def Blk.ext (h:Blk w g t cs) (hk:Ext w w'):Blk w' g t cs:=(hk.block g h.lt trivial).trans h
def Blk.set (h:Blk w g t cs) (i:Nat) (u:Value):Blk (w.setCell ⟨g,i,none⟩ u) g t (cs.setIfInBounds i u):=by
 unfold Blk at h ⊢;simp [World.setCell,Array.getElem?_modify,h]
def q19 {b o i:Nat}:(⟨b,o,none⟩:Addr).add i=⟨b,o+i,none⟩:=by unfold Addr.add; split <;> simp_all
def q7L (a:Addr) (i j:Nat):(a.add i).add j=a.add (i+j):=by
 unfold Addr.add
 by_cases hi:i=0 <;> by_cases hj:j=0 <;> simp [hi,hj,xA]
def q1G (a:Addr) (n:Nat):(a.add n).block=a.block:=by unfold Addr.add; split <;> rfl
def add_zero (a:Addr):a.add 0=a:=by simp [Addr.add]
def qjk {p:Addr}:∀ (vs:List Value) (i:Nat) (w:World),(p.block < w.heap.size->¬ D p.block)->Kp D w (stN w p i vs)
 | [],_,w,_=>Kp.refl D w
 | v :: vs,i,w,hp=>by
  have h1:Kp D w (w.setCell (p.add i) v):=Kp.setCell w (by rw [q1G]; exact hp) v;exact h1.trans (qjk vs (i+1) _ (by simpa [World.setCell] using hp))
end
structure Row (w:World) (D:Nat->Prop) (sz:Nat) (A:Option Addr) (n c:Nat) (xs:List Value):Prop where
 cap:n<=c
 len:xs.length=n*sz
 at_:0 < xs.length->∃ ad,A=some ad/\D ad.block/\∀ j u,xs[j]?=some u->w.cell? (ad.add j)=some u
section
variable {D D':Nat->Prop} {w w':World} {sz n c:Nat} {A:Option Addr} {xs:List Value}
def Row.nil (w:World) (D:Nat->Prop) (sz:Nat):Row w D sz none 0 0 []:=⟨yL _,σ,λh=>by simp at h⟩
def Row.kp (h:Row w D sz A n c xs) (hk:Kp D w w'):Row w' D sz A n c xs :=
 ⟨h.cap,h.len,λhx=>by
  obtain ⟨ad,rfl,hd,hc⟩:=h.at_ hx;exact ⟨ad,rfl,hd,λj u hu=>hk.cell (by rw [q1G]; exact hd) (hc j u hu)⟩⟩
def Row.sub (h:Row w D sz A n c xs) (hs:∀ k,k < w.heap.size->D k->D' k):Row w D' sz A n c xs :=
 ⟨h.cap,h.len,λhx=>by
  obtain ⟨ad,rfl,hd,hc⟩:=h.at_ hx;refine ⟨ad,rfl,hs _ ?_ hd,hc⟩;have:=hc 0 xs[0] (zD hx);have hlt:=World.block_lt_of_cell? w _ this
  rwa [q1G] at hlt⟩
def Row.lt (h:Row w D sz A n c xs):Row w (λk=>D k/\k < w.heap.size) sz A n c xs:=h.sub λ_ hk hd=>⟨hd,hk⟩
def Row.take (h:Row w D sz A n c xs) {m:Nat} (hm:m<=n):Row w D sz A m c (xs.take (m*sz)) :=
 ⟨zL hm h.cap,by rw [zU,h.len,yP (zK _ hm)],λhx=>by
  obtain ⟨ad,rfl,hd,hc⟩:=h.at_ (by rw [zU] at hx; omega);refine ⟨ad,rfl,hd,λj u hu=>hc j u ?_⟩;rw [vH] at hu
  split at hu
  .exact hu
  .cases hu⟩
def Row.drop (h:Row w D sz A n c xs) {m:Nat} (hm:m<=n):Row w D sz (if c=m then A else A.map (·.add (m*sz))) (n-m) (c-m) (xs.drop (m*sz)) :=
 ⟨Nat.sub_le_sub_right h.cap m,by rw [List.length_drop,h.len,Nat.sub_mul],λhx=>by
  rw [List.length_drop,h.len] at hx;obtain ⟨ad,rfl,hd,hc⟩:=h.at_ (by rw [h.len]; omega);have hne:¬ c=m:=λe=>by
   subst e;have hcn:n=c:=Nat.le_antisymm h.cap hm;subst hcn; omega
  rw [if_neg hne];refine ⟨ad.add (m*sz),rfl,by rw [q1G]; exact hd,λj u hu=>?_⟩;rw [q7L];exact hc _ u (by rw [<- hu,zP])⟩
end
attribute [go_sem] q19 yW
def qdm (o:Oper):Bool:=match o.op with
 | .move _ | .assign _ | .pick _ _ _ | .build _ _ | .load _ _ | .binOp _ _ _ _ _ | .unOp _ _ _ | .convert _ _ _ | .fieldAddr _ _ _ | .indexAddr _ _ _ | .extract _ _=>true
 | .slice _ _ _ _ none=>true
 | .call c=>match c.callee with | .builtin .len | .builtin .max | .builtin .min=>true | _=>false
 | _=>false
def qeY (o:Oper):Bool:=match o.op with | .load _ _=>true | _=>false
section
variable {P:Program} {n:Nat} {R:World->World->Prop}
def qju {w w':World} (hx:Ext w w') {p:Addr}:∀ (k i:Nat) (l:List Value),q1I w p i k=some l->q1I w' p i k=some l
 | 0,_,_,h=>h
 | k+1,i,l,h=>by
  simp only [q1I] at h ⊢
  split at h
  .rename_i v l' h1 h2;rw [hx.cell (D:=λ_=>True) trivial h1,qju hx k (i+1) l' h2];exact h
  .cases h
def qtM {w w':World} (hx:Ext w w') {k:Option (Option Nat)} {a v:Value} (h:ldV w k a=some v):ldV w' k a=some v:=by
 unfold ldV at h ⊢
 split at h
 .split at h
  .exact hx.cell (D:=λ_=>True) trivial h
  .rw [zA] at h;obtain ⟨l,h1,h2⟩:=h;rw [qju hx _ _ _ h1,<- h2]; rfl
  .cases h
 .cases h
def qq3 {o:Oper} (hp:qdm o=true) {e:Env} {w:World} {K:Value->World->Prop} (h:wo P o e w K) :
  ∃ v,K v w/\∀ (e2:Env) (w':World),(∀ x ∈ o.op.operands.toList,ev e2 x=ev e x)->(qeY o=true->Ext w w')->∀ K':Value->World->Prop,K' v w'->wo P o e2 w' K':=by
 obtain ⟨d,op,ty,pos,af,g⟩:=o;cases op <;> (try (cases hp; done)) <;> simp only [wo] at h
 case move x=>exact ⟨_,h,λe2 w' hop _ K' hk=>by simp only [wo]; rw [hop x (by simp [Op.operands])]; exact hk⟩
 case assign x=>exact ⟨_,h,λe2 w' hop _ K' hk=>by simp only [wo]; rw [hop x (by simp [Op.operands])]; exact hk⟩
 case pick c a b =>
  split at h
  .rename_i hc;exact ⟨_,h,λe2 w' hop _ K' hk=>by simp only [wo]; rw [hop c (by simp [Op.operands]),hc,hop a (by simp [Op.operands])]; exact hk⟩
  .rename_i hc;exact ⟨_,h,λe2 w' hop _ K' hk=>by simp only [wo]; rw [hop c (by simp [Op.operands]),hc,hop b (by simp [Op.operands])]; exact hk⟩
  .exact h.elim
 case build t ps =>
  obtain ⟨cs,h1,h2⟩:=q0Q h;refine ⟨_,h2,λe2 w' hop _ K' hk=>?_⟩;simp only [wo];have:(ps.map λ(i,x)=>(i,ev e2 x))=ps.map λ(i,x)=>(i,ev e x):=by
   apply Array.map_congr_left
   intro a ha;obtain ⟨i,x⟩:=a;simp only [Prod.mk.injEq,true_and];exact hop x (by simp only [Op.operands,List.mem_map]; exact ⟨(i,x),by simpa using ha,rfl⟩)
  rw [this,h1]; exact hk
 case load t a =>
  obtain ⟨v,h1,h2⟩:=q0Q h;refine ⟨_,h2,λe2 w' hop hx K' hk=>?_⟩;simp only [wo];rw [hop a (by simp [Op.operands]),qtM (hx rfl) h1]; exact hk
 case binOp op t x y t' =>
  obtain ⟨v,h1,h2⟩:=q0Q h;refine ⟨_,h2,λe2 w' hop hx K' hk=>?_⟩;simp only [wo];rw [hop x (by simp [Op.operands]),hop y (by simp [Op.operands]),h1]; exact hk
 case unOp op t x =>
  obtain ⟨v,h1,h2⟩:=q0Q h;refine ⟨_,h2,λe2 w' hop hx K' hk=>?_⟩;simp only [wo];rw [hop x (by simp [Op.operands]),h1]; exact hk
 case convert s t x =>
  obtain ⟨v,h1,h2⟩:=q0Q h;refine ⟨_,h2,λe2 w' hop hx K' hk=>?_⟩;simp only [wo];rw [hop x (by simp [Op.operands]),h1]; exact hk
 case fieldAddr t x f =>
  split at h
  .rename_i p hp';obtain ⟨v,h1,h2⟩:=q0Q h;refine ⟨_,h2,λe2 w' hop hx K' hk=>?_⟩;simp only [wo];rw [hop x (by simp [Op.operands]),hp'];simp only [h1]; exact hk
  .exact h.elim
 case indexAddr t x i =>
  obtain ⟨v,h1,h2⟩:=q0Q h;refine ⟨_,h2,λe2 w' hop hx K' hk=>?_⟩;simp only [wo];rw [hop x (by simp [Op.operands]),hop i (by simp [Op.operands]),h1]; exact hk
 case slice t x lo hi m =>
  cases m with
  | some m=>cases hp
  | none =>
   obtain ⟨v,h1,h2⟩:=q0Q h;refine ⟨_,h2,λe2 w' hop hx K' hk=>?_⟩;have hl:lo.map (ev e2)=lo.map (ev e):=by
    cases lo with
    | none=>rfl
    | some y=>simp only [yY]; rw [hop y (by simp [Op.operands])]
   have hh:hi.map (ev e2)=hi.map (ev e):=by
    cases hi with
    | none=>rfl
    | some y=>simp only [yY]; rw [hop y (by simp [Op.operands])]
   simp only [wo];rw [hop x (by simp [Op.operands]),hl,hh,h1]; exact hk
 case extract x i =>
  obtain ⟨v,h1,h2⟩:=q0Q h;refine ⟨_,h2,λe2 w' hop hx K' hk=>?_⟩;simp only [wo];rw [hop x (by simp [Op.operands]),h1]; exact hk
 case call c =>
  obtain ⟨ca,ar,ts⟩:=c;have hargs:∀ e2:Env,(∀ x ∈ (Op.call ⟨ca,ar,ts⟩).operands.toList,ev e2 x=ev e x)->ar.toList.map (ev e2)=ar.toList.map (ev e):=λe2 hop=>by
   apply List.map_congr_left
   intro x hx;exact hop x (by simp only [Op.operands,Call.operands,Array.toList_append,wI]; exact .inr hx)
  cases ca with
  | builtin b =>
   cases b <;> (try (cases hp; done)) <;> simp only [] at h
   case len =>
    split at h
    .rename_i x t hx ht;obtain ⟨v,h1,h2⟩:=q0Q h;refine ⟨_,h2,λe2 w' hop _ K' hk=>?_⟩;have:=hargs e2 hop;rw [hx] at this;simp only [wo,hx,ht];simp only [yU,y6,xC.injEq,and_true] at this;rw [this,h1]; exact hk
    .exact h.elim
   case max =>
    obtain ⟨v,h1,h2⟩:=q0Q h;refine ⟨_,h2,λe2 w' hop _ K' hk=>?_⟩;simp only [wo];rw [hargs e2 hop,h1]; exact hk
   case min =>
    obtain ⟨v,h1,h2⟩:=q0Q h;refine ⟨_,h2,λe2 w' hop _ K' hk=>?_⟩;simp only [wo];rw [hargs e2 hop,h1]; exact hk
  | _=>cases hp
def qhQ {ops:Array Oper} {o:Oper} {e e2:Env} (h:∀ t,looks ops o t=true->e2 t=e t):∀ x ∈ o.op.operands.toList,ev e2 x=ev e x:=by
 intro x hx;cases x with
 | tmp t =>
  refine h t ?_;unfold looks Oper.looksAt;rw [xN];exact ⟨t,xQ _ (List.mem_filterMap.2 ⟨_,hx,rfl⟩),σ⟩
 | const v=>rfl
 | global v=>rfl
 | func v=>rfl
def q6I {ops:Array Oper} {o:Oper} {e e2:Env} (h:∀ t,looks ops o t=true->e2 t=e t):q5j ops e2 o=q5j ops e o:=by
 unfold q5j;cases hg:o.guard with
 | none=>rfl
 | some g =>
  obtain ⟨j,b⟩:=g;simp only;unfold q3W;cases hd:(ops[j]?).bind (·.dst) with
  | none=>rfl
  | some d =>
   have:e2 d=e d:=h d (by
    unfold looks Oper.looksAt;rw [xN];exact ⟨d,wL _ (by rw [hg]; simp only [hd]; simp),σ⟩)
   simp only [this]
def qq8 {ops:Array Oper} {o:Oper} (hp:qdm o=true) {e:Env} {w:World} {K:Value->World->Prop} (h:wg P ops o e w K) :
  ∃ v,K v w/\∀ (e2:Env) (w':World),(∀ t,looks ops o t=true->e2 t=e t)->(qeY o=true->Ext w w')->∀ K':Value->World->Prop,K' v w'->wg P ops o e2 w' K':=by
 unfold wg at h
 split at h
 .rename_i hw;obtain ⟨v,h1,h2⟩:=qq3 hp h;refine ⟨v,h1,λe2 w' hl hx K' hk=>?_⟩;unfold wg;rw [q6I hl,if_pos hw];exact h2 e2 w' (qhQ hl) hx K' hk
 .rename_i hw;refine ⟨_,h,λe2 w' hl hx K' hk=>?_⟩;unfold wg;rw [q6I hl,if_neg hw];exact hk
def WLm (P:Program) (ops:Array Oper) (K:Env->Prop):List Bool->List Oper->Env->World->Prop
 | true :: m,o :: os,e,w=>wg P ops o e w λv _=>WLm P ops K m os (put e o.dst v) w
 | false :: m,_ :: os,e,w=>WLm P ops K m os e w
 | _,_,e,_=>K e
end
section
variable {P:Program} {ops:Array Oper} {K:Env->Prop} {e:Env} {w:World} {d:Option Nat} {o:Oper} {os:List Oper} {m:List Bool}
def WLm_t:WLm P ops K (true :: m) (o :: os) e w=wg P ops o e w λv _=>WLm P ops K m os (put e o.dst v) w:=rfl
def WLm_f:WLm P ops K (false :: m) (o :: os) e w=WLm P ops K m os e w:=rfl
def WLm_n:WLm P ops K [] [] e w=K e:=rfl
@[congr] theorem qwD {e':Env} (h:e=e'):WLm P ops K m os e w=WLm P ops K m os e' w:=by rw [h]
attribute [go_sem ↓] WLm_t WLm_f WLm_n
attribute [irreducible] WLm
end
section
variable {P:Program} {n:Nat} {R:World->World->Prop}
def q7o {ops:Array Oper} {listed:Array Bool} {i:Nat} (hi:i ∈ Region.ready .any ops listed):∃ hlt:i < ops.size,listed.getD i true=false/\∀ x ∈ ops[i].after,Region.binds .any x=true->listed.getD x.on false=true:=by
 unfold Region.ready at hi;rw [List.mem_filter] at hi;obtain ⟨hir,hrd⟩:=hi;have hlt:=wQ.1 hir;have hio:ops[i]?=some ops[i]:=y9 hlt;simp only [hio,yY,Option.getD_some,zG] at hrd;obtain ⟨hnl,haf⟩:=hrd;rw [Array.all_eq_true'] at haf;exact ⟨hlt,by simpa using hnl,λx hx hb=>by have:=haf x hx; simpa [hb] using this⟩
end
section
variable {P:Program} {n:Nat} {R:World->World->Prop}
def WLc (P:Program) (ops:Array Oper) (R R2:World->Prop) (K:Env->World->Prop):List (Nat × Oper)->Env->World->Prop
 | [],e,w=>K e w
 | (0,o) :: rest,e,w=>wg P ops o e w λv w'=>R w'/\WLc P ops R R2 K rest (put e o.dst v) w'
 | (1,o) :: rest,e,w=>wg P ops o e w λv w'=>WLc P ops R R2 K rest (put e o.dst v) w'
 | (_+2,o) :: rest,e,w=>wg P ops o e w λv w'=>R2 w'/\WLc P ops R R2 K rest (put e o.dst v) w'
end
section
variable {P:Program} {ops:Array Oper} {R R2:World->Prop} {K:Env->World->Prop} {e:Env} {w:World} {o:Oper} {os:List Oper} {m:List Bool} {b:Nat} {pm:List Nat} {l:List (Nat × Oper)}
def qpd:WLc P ops R R2 K [] e w=K e w:=rfl
def WLc_0:WLc P ops R R2 K ((0,o) :: l) e w=wg P ops o e w λv w'=>R w'/\WLc P ops R R2 K l (put e o.dst v) w':=rfl
def WLc_1:WLc P ops R R2 K ((1,o) :: l) e w=wg P ops o e w λv w'=>WLc P ops R R2 K l (put e o.dst v) w':=rfl
def WLc_2:WLc P ops R R2 K ((2,o) :: l) e w=wg P ops o e w λv w'=>R2 w'/\WLc P ops R R2 K l (put e o.dst v) w':=rfl
@[congr] theorem qwE {e':Env} (h:e=e'):WLc P ops R R2 K l e w=WLc P ops R R2 K l e' w:=by rw [h]
attribute [go_sem ↓] qpd WLc_0 WLc_1 WLc_2
attribute [irreducible] WLc
end
section
variable {P:Program} {n:Nat} {R:World->World->Prop}
def qjz {f:Env} {x:Option Nat} {v:Value} {t:Nat} (h0:x≠some t):put f x v t=f t:=by
 cases hx:x with
 | none=>rfl
 | some d' =>
  have:t≠d':=λh=>h0 (by rw [hx,h]);simp [put,upd,this]
end
inductive Sch where
 | fin:Sch
 | one:Nat->Sch->Sch
 | alt:Sch->Sch->Sch
def q6r:Sch->List Nat
 | .fin=>[]
 | .one i _=>[i]
 | .alt s t=>q6r s ++ q6r t
def qbm:List Oper->Nat->Oper
 | o :: _,0=>o
 | _ :: l,i+1=>qbm l i
 | [], _ => ⟨none, .move (.const undef), 0, "", #[], none⟩
def qkH {o:Oper} {l:List Oper}:qbm (o :: l) 0=o:=rfl
def qsf {o:Oper} {l:List Oper} {i:Nat}:qbm (o :: l) (i+1)=qbm l i:=rfl
def q9I:∀ {l:List Oper} {i:Nat} {o:Oper},l[i]?=some o->qbm l i=o
 | o :: _,0,_,h=>by rw [qkH]; simpa using h
 | _ :: l,i+1,_,h=>q9I (l:=l) (by simpa using h)
 | [],i,_,h=>by simp at h
def qvS:List Nat->List Nat->Bool
 | [],[]=>true
 | a :: l,b :: m=>wY a b && qvS l m
 | _,_=>false
def q9j:∀ {l m:List Nat},qvS l m=true->l=m
 | [],[],_=>rfl
 | a :: l,b :: m,h=>by
  simp only [qvS,zG] at h;rw [vT h.1,q9j h.2]
 | [],_ :: _,h=>by cases h
 | _ :: _,[],h=>by cases h
def qev (ops:List Oper) (l:Array Bool) (i:Nat):Bool :=
 qdm (qbm ops i) && !qeY (qbm ops i) && Region.free .any ops.toArray l i && (Region.ready .any ops.toArray l).any (wY i)
def q5N (ops:List Oper):Sch->Bool->Nat->Array Bool->Bool
 | .fin,b,_,l=>!b && (Region.ready .any ops.toArray l).isEmpty
 | .one i s,b,f+1,l=>(b || qev ops l i || qvS (Region.ready .any ops.toArray l) [i]) && q5N ops s false f (l.setIfInBounds i true)
 | .one _ _,_,0,_=>false
 | .alt s t,b,f,l=>(b || qvS (Region.ready .any ops.toArray l) (q6r s ++ q6r t)) && !(q6r s).isEmpty && !(wY f 0) && q5N ops s true f l && q5N ops t true f l
def WS (P:Program) (ops:List Oper) (K:Env->World->Prop):Sch->Env->World->Prop
 | .fin,e,w=>K e w
 | .one i s,e,w=>wg P ops.toArray (qbm ops i) e w λv w'=>WS P ops K s (put e (qbm ops i).dst v) w'
 | .alt s t,e,w=>WS P ops K s e w/\WS P ops K t e w
section
variable {P:Program} {n:Nat}
def qwA {ops:List Oper} {K:Env->World->Prop} {e:Env} {w:World} {i:Nat} {s:Sch}:WS P ops K (.one i s) e w=wg P ops.toArray (qbm ops i) e w λv w'=>WS P ops K s (put e (qbm ops i).dst v) w':=rfl
def qwB {ops:List Oper} {K:Env->World->Prop} {e:Env} {w:World} {s t:Sch}:WS P ops K (.alt s t) e w=(WS P ops K s e w/\WS P ops K t e w):=rfl
@[congr] theorem WS_congr {ops:List Oper} {K:Env->World->Prop} {e e':Env} {w:World} {s:Sch} (h:e=e'):WS P ops K s e w=WS P ops K s e' w:=by rw [h]
def q3v {r:Result Value} {x:Next} {w':World} (h:r.andThen (λa w=>.ok (.value a) w)=.ok x w'):∃ v,x=.value v:=by
 cases r with
 | ok a w=>simp only [Result.andThen_ok] at h; cases h; exact ⟨_,rfl⟩
 | halt=>cases h
def qd2 {o:Oper} (hp:qdm o=true) {ρ:Operand->Value} {w:World} {x:Next} {w':World} (h:(execOp ρ o).run P w=.ok x w'):∃ v,x=.value v:=by
 obtain ⟨d,op,ty,pos,af,g⟩:=o;cases op <;> (try (cases hp; done)) <;> simp only [execOp,Sem.run_bind,Sem.run_pure] at h
 case move=>cases h; exact ⟨_,rfl⟩
 case assign=>cases h; exact ⟨_,rfl⟩
 case pick c a b =>
  cases hr:(asBool (ρ c)).run P w with
  | ok b w1 =>
   rw [hr] at h;cases b <;> (simp only [Result.andThen_ok] at h; cases h; exact ⟨_,rfl⟩)
  | halt=>rw [hr] at h; cases h
 case call c =>
  unfold qdm at hp;simp only at hp;cases hc:c.callee with
  | builtin b =>
   rw [hc] at hp;simp only [resolve,hc,Sem.run_pure,Result.andThen_ok,invoke] at h;cases b <;> (try (cases hp; done)) <;> simp only [builtin,Sem.run_bind,Sem.run_pure] at h <;> exact q3v h
  | invoke=>rw [hc] at hp; cases hp
  | value f=>rw [hc] at hp; cases hp
 all_goals exact q3v h
def q6b {ops:Array Oper} {l:Array Bool} {i:Nat} (h:i ∈ Region.ready .any ops l):i < ops.size:=(q7o h).1
def qmX {ops:List Oper} {Q:Exit->Act->World->Prop} {K:Env->World->Prop} {e0:Env} (hs:Region.noSelect ops.toArray=true) (hd:ops.all (q8Q n)=true)
  (hQp:∀ c a a' w,Q (.panic c) a w->Q (.panic c) a' w)
  (hQ:∀ a e' w',Rel n a e'->(∀ t,q5X ops.toArray t=false->e' t=e0 t)->K e' w'->Q .normal a w') :
  ∀ (s:Sch) (b:Bool) (f:Nat) (l:Array Bool) (a:Act) (e:Env) (w:World),q5N ops s b f l=true->Rel n a e->(∀ t,q5X ops.toArray t=false->e t=e0 t)->WS P ops K s e w ->
   (b=false->wpAny P .any ops.toArray Q f l a w)/\(b=true->∀ i ∈ q6r s,(∃ o,ops[i]?=some o)->∀ f',f=f'+1->wpOp P ops.toArray Q i (wpAny P .any ops.toArray Q f' (l.setIfInBounds i true)) a w):=by
 intro s;have hdo:∀ (i:Nat) (o:Oper),ops[i]?=some o->∀ {a:Act} {e:Env} (v:Value),Rel n a e->Rel n (a.put o.dst v) (put e o.dst v):=λi o ho a e v hr=>by
  have h1:q8Q n o=true:=by rw [y7] at hd; exact hd _ (yR ho)
  exact hr.put _ v (by unfold q8Q at h1; cases hx:o.dst <;> simp_all)
 have hold:∀ (i:Nat) (o:Oper),ops[i]?=some o->∀ {e:Env} (v:Value),(∀ t,q5X ops.toArray t=false->e t=e0 t)->∀ t,q5X ops.toArray t=false->put e o.dst v t=e0 t:=λi o ho e v h t ht=>by
  rw [qjz (q5W ht i o (by simpa using ho))]; exact h t ht
 have hop:∀ (i:Nat) (o:Oper),ops[i]?=some o->∀ {a:Act} {e:Env} {w:World} {Kv:Value->World->Prop} {K':Act->World->Prop},Rel n a e->wg P ops.toArray o e w Kv->(∀ v w',Kv v w'->K' (a.put o.dst v) w')->wpOp P ops.toArray Q i K' a w:=λi o ho a e w Kv K' hr h hk=>by
  have h1:=q3A h;unfold wpOp;have hio2:ops.toArray[i]?=some o:=by simpa using ho
  simp only [hio2];rw [q6U hr (by simpa using hd)];unfold WG at h1
  split
  .rename_i hw;rw [if_pos hw] at h1;exact .inl (q6S hr h1 hk)
  .rename_i hw;rw [if_neg hw] at h1;exact hk _ _ h1
 induction s with
 | fin =>
  intro b f l a e w hok hr hold0 h;simp only [q5N,zG,List.isEmpty_iff,Bool.not_eq_true'] at hok;exact ⟨λ_=>wpAny_done hok.2 (hQ a e w hr hold0 h) f,λhb=>by rw [hb] at hok; cases hok.1⟩
 | one i s ih =>
  intro b f l a e w hok hr hold0 h;cases f with
  | zero=>cases b <;> simp [q5N] at hok
  | succ f =>
   simp only [q5N,zG] at hok;obtain ⟨hok1,hok2⟩:=hok;rw [qwA] at h;have step:∀ o,ops[i]?=some o->wpOp P ops.toArray Q i (wpAny P .any ops.toArray Q f (l.setIfInBounds i true)) a w:=λo ho=>by
    rw [q9I ho] at h;exact hop i o ho hr h λv w' hv=>(ih false f _ _ _ _ hok2 (hdo i o ho v hr) (hold i o ho v hold0) hv).1 rfl
   refine ⟨λhb=>?_,λhb j hj ⟨o,ho⟩ f' hf=>?_⟩
   .subst hb;rw [Bool.false_or,Bool.or_eq_true] at hok1
    rcases hok1 with hf | hf
    .unfold qev at hf;rw [zG,zG,zG] at hf;obtain ⟨⟨⟨h1,h2⟩,h3⟩,h4⟩:=hf;rw [xN] at h4;obtain ⟨j,hj,hji⟩:=h4;obtain rfl:i=j:=vT hji;have hlt:i < ops.length:=by simpa using q6b hj
     have ho:ops[i]?=some ops[i]:=zD hlt;generalize ops[i]=o at ho;rw [q9I ho] at h h1 h2;obtain ⟨v,hv,hev⟩:=qq8 h1 h;have hio2:ops.toArray[i]?=some o:=by simpa using ho
     have hstep:∀ w2,WG P ops.toArray o e w2 λv' w3=>v'=v/\w3=w2:=λw2=>q3A (hev e w2 (λ_ _=>rfl) (λhl=>by rw [hl] at h2; cases h2) _ ⟨rfl,rfl⟩);have hy:Yields P ops.toArray o v a:=by
      unfold Yields;rw [q6U hr (by simpa using hd)];cases hw:q5j ops.toArray e o with
      | true =>
       refine .inl ⟨rfl,λw2=>?_⟩;have h5:=hstep w2;unfold WG at h5;rw [if_pos hw] at h5;unfold WO at h5;rw [hr.eval];cases hx:(execOp (ev e) o).run P w2 with
       | ok x w3 =>
        obtain ⟨v3,rfl⟩:=qd2 h1 hx;rw [hx] at h5;simp only [RO] at h5;rw [h5.1,h5.2]
       | halt=>rw [hx] at h5; exact h5.elim
      | false =>
       refine .inr ⟨rfl,?_⟩;have h5:=hstep w;unfold WG at h5;rw [if_neg (by rw [hw]; simp)] at h5;exact h5.1.symm
     refine wpAny_take hio2 hs h3 (by simpa using hj) (λc a' w' hq=>hQp c _ _ w' hq) hy ?_;exact (ih false f _ _ _ _ hok2 (hdo i o ho v hr) (hold i o ho v hold0) hv).1 rfl
    .have hrd:=q9j hf;refine wpAny_all hrd σ λj hj=>?_;simp only [w6] at hj;subst hj;have hlt:j < ops.length:=by simpa using q6b (show j ∈ Region.ready .any ops.toArray l by rw [hrd]; simp)
     exact step _ (zD hlt)
   .simp only [q6r,w6] at hj;subst hj;obtain rfl:f=f':=ω
    exact step o ho
 | alt s t ihs iht =>
  intro b f l a e w hok hr hold0 h;simp only [q5N,zG] at hok;obtain ⟨⟨⟨⟨hok1,hok2⟩,hok3⟩,hok4⟩,hok5⟩:=hok;rw [qwB] at h;have hs1:=(ihs true f l a e w hok4 hr hold0 h.1).2 rfl;have ht1:=(iht true f l a e w hok5 hr hold0 h.2).2 rfl;have key:∀ i ∈ q6r s ++ q6r t,(∃ o,ops[i]?=some o)->∀ f',f=f'+1->wpOp P ops.toArray Q i (wpAny P .any ops.toArray Q f' (l.setIfInBounds i true)) a w:=λi hi ho f' hf=>by
   rcases wI.1 hi with hi | hi
   .exact hs1 i hi ho f' hf
   .exact ht1 i hi ho f' hf
  refine ⟨λhb=>?_,λ_=>key⟩;subst hb;rw [Bool.false_or] at hok1;have hrd:=q9j hok1;cases f with
  | zero=>simp at hok3
  | succ f =>
   refine wpAny_all hrd (by intro hn; rw [List.append_eq_nil_iff] at hn; rw [hn.1] at hok2; simp at hok2) λj hj=>?_;have hlt:j < ops.length:=by simpa using q6b (show j ∈ Region.ready .any ops.toArray l by rw [hrd]; exact hj)
   exact key j hj ⟨_,zD hlt⟩ f rfl
def W_dA {id:Nat} {ops:List Oper} {Q:Exit->Env->World->Prop} {e:Env} {w:World} (hm:P.follows .mixedOrders=true) (s:Sch) (hok:(Region.noSelect ops.toArray && q5N ops s false ops.length (wH ops.length false))=true)
  (h:∀ (K:Env->World->Prop) (w1:World),(∀ e w,Q .normal e w->K e w)->Ext w w1->WS P ops K s e w1):W P n (.region id ops.toArray true) Q e w:=by
 rw [zG] at hok;intro hd a hr;have hd':ops.all (q8Q n)=true:=hd;refine wp_mono (Q:=λx a' w'=>x=.normal/\qjI n (.region id ops.toArray true) e Q .normal a' w') (wp_region_any hm ?_) λx a' w' hq=>by rw [hq.1]; exact hq.2
 have:=(qmX (n:=n) (P:=P) (e0:=e) (K:=Q .normal) (Q:=λx a' w'=>x=.normal/\qjI n (.region id ops.toArray true) e Q .normal a' w') hok.1 hd' (λc a a' w hq=>by cases hq.1) (λa' e' w' r' h2 h3=>⟨rfl,e',r',h2,h3⟩) s false ops.length (wH ops.length false) a e { w with drawn:=w.drawn+1 } hok.2 hr (λ_ _=>rfl) (h _ _ (λ_ _ h=>h) (Kp.drew w _))).1 rfl;simpa using this
end
section
variable {w w':World} {B E sz n c:Nat} {A:Option Addr} {xs:List Value} {D D':Nat->Prop}
end
section
variable {P:Program} {w:World} {K:Value->World->Prop}
end
end Go.E
namespace Go.Proofs.YtbjoghfmhgadkaaGreatDoor
open Go Go.E
set_option maxRecDepth 100000
def agg3:q09 Tryz.prog 3=some none:=κ
def agg4:q09 Tryz.prog 4=some none:=κ
def agg5:q09 Tryz.prog 5=some none:=κ
def agg23:q09 Tryz.prog 23=some none:=κ
def agg24:q09 Tryz.prog 24=some none:=κ
def agg26:q09 Tryz.prog 26=some (some 5):=κ
def agg28:q09 Tryz.prog 28=some (some 3):=κ
def agg31:q09 Tryz.prog 31=some none:=κ
def agg32:q09 Tryz.prog 32=some none:=κ
def agg34:q09 Tryz.prog 34=some (some 2):=κ
def agg40:q09 Tryz.prog 40=some none:=κ
def agg42:q09 Tryz.prog 42=some (some 2):=κ
def agg46:q09 Tryz.prog 46=some (some 4):=κ
def agg63:q09 Tryz.prog 63=some (some 8):=κ
def agg84:q09 Tryz.prog 84=some none:=κ
def agg87:q09 Tryz.prog 87=some none:=κ
def qvu:q09 Tryz.prog 131=some none:=κ
def qvt:q09 Tryz.prog 133=some (some 5):=κ
def qvs:q09 Tryz.prog 134=some none:=κ
def qvr:q09 Tryz.prog 142=some none:=κ
def qvq:q09 Tryz.prog 240=some (some 5):=κ
def qvp:q09 Tryz.prog 273=some (some 32):=κ
def qny:q0X Tryz.prog 26 0=some 0:=κ
def qnx:q0X Tryz.prog 26 1=some 1:=κ
def qnw:q0X Tryz.prog 26 2=some 2:=κ
def qnv:q0X Tryz.prog 26 3=some 3:=κ
def qnu:q0X Tryz.prog 26 4=some 4:=κ
def qnt:q0X Tryz.prog 28 0=some 0:=κ
def qns:q0X Tryz.prog 28 1=some 1:=κ
def qnr:q0X Tryz.prog 28 2=some 2:=κ
def qnq:q0X Tryz.prog 34 0=some 0:=κ
def qnp:q0X Tryz.prog 34 1=some 1:=κ
def qno:q0X Tryz.prog 42 0=some 0:=κ
def qnn:q0X Tryz.prog 42 1=some 1:=κ
def qnm:q0X Tryz.prog 46 0=some 0:=κ
def qnl:q0X Tryz.prog 46 1=some 1:=κ
def qnk:q0X Tryz.prog 46 2=some 3:=κ
def qnj:q0X Tryz.prog 63 0=some 0:=κ
def qni:q0X Tryz.prog 63 1=some 1:=κ
def qnh:q0X Tryz.prog 63 2=some 2:=κ
def qng:q0X Tryz.prog 63 3=some 3:=κ
def qnf:q0X Tryz.prog 63 4=some 4:=κ
def qne:q0X Tryz.prog 63 5=some 5:=κ
def qnd:q0X Tryz.prog 63 6=some 6:=κ
def qnc:q0X Tryz.prog 63 7=some 7:=κ
def qiQ:q0X Tryz.prog 133 0=some 0:=κ
def qiP:q0X Tryz.prog 133 1=some 1:=κ
def qiO:q0X Tryz.prog 133 2=some 2:=κ
def qiN:q0X Tryz.prog 133 3=some 3:=κ
def qiM:q0X Tryz.prog 133 4=some 4:=κ
def qiK:q0X Tryz.prog 240 0=some 0:=κ
def qiJ:q0X Tryz.prog 240 1=some 1:=κ
def qiI:q0X Tryz.prog 240 2=some 3:=κ
def qiH:q0X Tryz.prog 240 3=some 4:=κ
def esz22:q0f Tryz.prog 22=some 1:=κ
def esz23:q0f Tryz.prog 23=some 1:=κ
def esz24:q0f Tryz.prog 24=some 1:=κ
def esz40:q0f Tryz.prog 40=some 1:=κ
def esz84:q0f Tryz.prog 84=some 1:=κ
def esz87:q0f Tryz.prog 87=some 4:=κ
def qtq:q0f Tryz.prog 131=some 1:=κ
def qtp:q0f Tryz.prog 134=some 1:=κ
def qto:q0f Tryz.prog 167=some 1:=κ
def elm22:q0a Tryz.prog 22=some (31,1,8,#[.int .u64 0]):=κ
def elm23:q0a Tryz.prog 23=some (3,1,8,#[.int .i64 0]):=κ
def elm24:q0a Tryz.prog 24=some (32,1,8,#[.int .u64 0]):=κ
def elm40:q0a Tryz.prog 40=some (142,1,4,#[.int .u32 0]):=κ
def elm84:q0a Tryz.prog 84=some (24,1,24,#[.slice none 0 0]):=κ
def elm87:q0a Tryz.prog 87=some (46,4,48,#[.bool false,.bool false,.slice none 0 0,.int .i64 0]):=κ
def qtv:q0a Tryz.prog 131=some (134,1,24,#[.slice none 0 0]):=κ
def qtu:q0a Tryz.prog 134=some (4,1,1,#[.bool false]):=κ
def qtt:q0a Tryz.prog 167=some (87,1,24,#[.slice none 0 0]):=κ
def zer3:q1h Tryz.prog 3=some #[.int .i64 0]:=κ
def zer26:q1h Tryz.prog 26=some #[.int .i64 0,.int .i64 0,.slice none 0 0,.slice none 0 0,.slice none 0 0]:=κ
def zer28:q1h Tryz.prog 28=some #[.int .i64 0,.int .i64 0,.slice none 0 0]:=κ
def zer34:q1h Tryz.prog 34=some #[.int .u64 0,.int .u64 0]:=κ
def zer42:q1h Tryz.prog 42=some #[.bool false,.slice none 0 0]:=κ
def zer46:q1h Tryz.prog 46=some #[.bool false,.bool false,.slice none 0 0,.int .i64 0]:=κ
def zer63:q1h Tryz.prog 63=some #[.slice none 0 0,.slice none 0 0,.slice none 0 0,.slice none 0 0,.slice none 0 0,.slice none 0 0,.slice none 0 0,.slice none 0 0]:=κ
def qq1:q1h Tryz.prog 133=some #[.slice none 0 0,.slice none 0 0,.slice none 0 0,.slice none 0 0,.slice none 0 0]:=κ
def qq0:q1h Tryz.prog 240=some #[.bool false,.bool false,.slice none 0 0,.int .i64 0,.bool false]:=κ
def qqZ:q1h Tryz.prog 273=some #[.int .u8 0,.int .u8 0,.int .u8 0,.int .u8 0,.int .u8 0,.int .u8 0,.int .u8 0,.int .u8 0,.int .u8 0,.int .u8 0,.int .u8 0,.int .u8 0,.int .u8 0,.int .u8 0,.int .u8 0,.int .u8 0,.int .u8 0,.int .u8 0,.int .u8 0,.int .u8 0,.int .u8 0,.int .u8 0,.int .u8 0,.int .u8 0,.int .u8 0,.int .u8 0,.int .u8 0,.int .u8 0,.int .u8 0,.int .u8 0,.int .u8 0,.int .u8 0]:=κ
def siz3:q03 Tryz.prog 3=some 1:=κ
def siz4:q03 Tryz.prog 4=some 1:=κ
def siz23:q03 Tryz.prog 23=some 1:=κ
def siz24:q03 Tryz.prog 24=some 1:=κ
def siz26:q03 Tryz.prog 26=some 5:=κ
def siz28:q03 Tryz.prog 28=some 3:=κ
def siz32:q03 Tryz.prog 32=some 1:=κ
def siz34:q03 Tryz.prog 34=some 2:=κ
def siz42:q03 Tryz.prog 42=some 2:=κ
def siz46:q03 Tryz.prog 46=some 4:=κ
def siz63:q03 Tryz.prog 63=some 8:=κ
def siz84:q03 Tryz.prog 84=some 1:=κ
def siz87:q03 Tryz.prog 87=some 1:=κ
def qr7:q03 Tryz.prog 131=some 1:=κ
def qr6:q03 Tryz.prog 133=some 5:=κ
def qr5:q03 Tryz.prog 142=some 1:=κ
def qr4:q03 Tryz.prog 240=some 5:=κ
def qr3:q03 Tryz.prog 273=some 32:=κ
def qqf:Tryz.prog.underlying 3=some (.int .i64):=κ
def und4:Tryz.prog.underlying 4=some .bool:=κ
def beq4 {x y:Bool}:q0q Tryz.prog .eql 4 (.bool x) (.bool y)=some (.bool (x == y)):=qbT und4
def bne4 {x y:Bool}:q0q Tryz.prog .neq 4 (.bool x) (.bool y)=some (.bool (x != y)):=qbS und4
def und5:Tryz.prog.underlying 5=some (.int .u8):=κ
def qqg:Tryz.prog.underlying 23=some (.slice 3):=κ
def nil23 {A:Option Addr} {n c n2 c2:Nat}:q0q Tryz.prog .eql 23 (.slice A n c) (.slice none n2 c2)=some (.bool A.isNone):=q9i qqg
def qsh {A:Option Addr} {n c n2 c2:Nat}:q0q Tryz.prog .neq 23 (.slice A n c) (.slice none n2 c2)=some (.bool A.isSome):=qbR qqg
def qqe:Tryz.prog.underlying 31=some (.int .u64):=κ
def und32:Tryz.prog.underlying 32=some (.int .u64):=κ
def und35:Tryz.prog.underlying 35=some (.int .i64):=κ
def qqd:Tryz.prog.underlying 40=some (.slice 142):=κ
def nil40 {A:Option Addr} {n c n2 c2:Nat}:q0q Tryz.prog .eql 40 (.slice A n c) (.slice none n2 c2)=some (.bool A.isNone):=q9i qqd
def qsg {A:Option Addr} {n c n2 c2:Nat}:q0q Tryz.prog .neq 40 (.slice A n c) (.slice none n2 c2)=some (.bool A.isSome):=qbR qqd
def und57:Tryz.prog.underlying 57=some (.int .u64):=κ
def qqh:Tryz.prog.underlying 142=some (.int .u32):=κ
def qvP  : Tryz.prog.built 26 []=some #[.int .i64 0,.int .i64 0,.slice none 0 0,.slice none 0 0,.slice none 0 0]:=κ
def q9f {x0:Int} {x1:Int} {x2A:Option Addr} {x2n x2c:Nat}:Tryz.prog.built 26 [(0,(.int .i64 x0)),(1,(.int .i64 x1)),(2,(.slice x2A x2n x2c))]=some #[.int .i64 x0,.int .i64 x1,.slice x2A x2n x2c,.slice none 0 0,.slice none 0 0]:=κ
def q7F {x0:Int} {x1:Int} {x2A:Option Addr} {x2n x2c:Nat} {x3A:Option Addr} {x3n x3c:Nat}:Tryz.prog.built 26 [(0,(.int .i64 x0)),(1,(.int .i64 x1)),(2,(.slice x2A x2n x2c)),(3,(.slice x3A x3n x3c))]=some #[.int .i64 x0,.int .i64 x1,.slice x2A x2n x2c,.slice x3A x3n x3c,.slice none 0 0]:=κ
def q58 {x0:Int} {x1:Int} {x2A:Option Addr} {x2n x2c:Nat} {x3A:Option Addr} {x3n x3c:Nat} {x4A:Option Addr} {x4n x4c:Nat}:Tryz.prog.built 26 [(0,(.int .i64 x0)),(1,(.int .i64 x1)),(2,(.slice x2A x2n x2c)),(3,(.slice x3A x3n x3c)),(4,(.slice x4A x4n x4c))]=some #[.int .i64 x0,.int .i64 x1,.slice x2A x2n x2c,.slice x3A x3n x3c,.slice x4A x4n x4c]:=κ
def qvO  : Tryz.prog.built 28 []=some #[.int .i64 0,.int .i64 0,.slice none 0 0]:=κ
def qfj {x0:Int} {x1:Int}:Tryz.prog.built 28 [(0,(.int .i64 x0)),(1,(.int .i64 x1))]=some #[.int .i64 x0,.int .i64 x1,.slice none 0 0]:=κ
def q9e {x0:Int} {x1:Int} {x2A:Option Addr} {x2n x2c:Nat}:Tryz.prog.built 28 [(0,(.int .i64 x0)),(1,(.int .i64 x1)),(2,(.slice x2A x2n x2c))]=some #[.int .i64 x0,.int .i64 x1,.slice x2A x2n x2c]:=κ
def qvN  : Tryz.prog.built 34 []=some #[.int .u64 0,.int .u64 0]:=κ
def qfi {x0:Int} {x1:Int}:Tryz.prog.built 34 [(0,(.int .u64 x0)),(1,(.int .u64 x1))]=some #[.int .u64 x0,.int .u64 x1]:=κ
def qvM  : Tryz.prog.built 42 []=some #[.bool false,.slice none 0 0]:=κ
def qfh {x0:Bool} {x1A:Option Addr} {x1n x1c:Nat}:Tryz.prog.built 42 [(0,(.bool x0)),(1,(.slice x1A x1n x1c))]=some #[.bool x0,.slice x1A x1n x1c]:=κ
def qvL  : Tryz.prog.built 46 []=some #[.bool false,.bool false,.slice none 0 0,.int .i64 0]:=κ
def qoy {x0:Bool}:Tryz.prog.built 46 [(0,(.bool x0))]=some #[.bool x0,.bool false,.slice none 0 0,.int .i64 0]:=κ
def qfg {x10:Bool} {x11A:Option Addr} {x11n x11c:Nat} {x2:Int}:Tryz.prog.built 46 [(1,.agg #[.bool x10,.slice x11A x11n x11c]),(2,(.int .i64 x2))]=some #[.bool false,.bool x10,.slice x11A x11n x11c,.int .i64 x2]:=κ
def qvK  : Tryz.prog.built 63 []=some #[.slice none 0 0,.slice none 0 0,.slice none 0 0,.slice none 0 0,.slice none 0 0,.slice none 0 0,.slice none 0 0,.slice none 0 0]:=κ
def qff {x0A:Option Addr} {x0n x0c:Nat} {x1A:Option Addr} {x1n x1c:Nat}:Tryz.prog.built 63 [(0,(.slice x0A x0n x0c)),(1,(.slice x1A x1n x1c))]=some #[.slice x0A x0n x0c,.slice x1A x1n x1c,.slice none 0 0,.slice none 0 0,.slice none 0 0,.slice none 0 0,.slice none 0 0,.slice none 0 0]:=κ
def q7E {x0A:Option Addr} {x0n x0c:Nat} {x1A:Option Addr} {x1n x1c:Nat} {x2A:Option Addr} {x2n x2c:Nat} {x5A:Option Addr} {x5n x5c:Nat}:Tryz.prog.built 63 [(0,(.slice x0A x0n x0c)),(1,(.slice x1A x1n x1c)),(2,(.slice x2A x2n x2c)),(5,(.slice x5A x5n x5c))]=some #[.slice x0A x0n x0c,.slice x1A x1n x1c,.slice x2A x2n x2c,.slice none 0 0,.slice none 0 0,.slice x5A x5n x5c,.slice none 0 0,.slice none 0 0]:=κ
def q8W {x0:Bool} {x10:Bool} {x11A:Option Addr} {x11n x11c:Nat} {x2:Int}:Tryz.prog.built 240 [(0,(.bool x0)),(1,.agg #[.bool x10,.slice x11A x11n x11c]),(2,(.int .i64 x2))]=some #[.bool x0,.bool x10,.slice x11A x11n x11c,.int .i64 x2,.bool false]:=κ
def q5p {x0:Bool} {x10:Bool} {x11A:Option Addr} {x11n x11c:Nat} {x2:Int} {x3:Bool}:Tryz.prog.built 240 [(0,(.bool x0)),(1,.agg #[.bool x10,.slice x11A x11n x11c]),(2,(.int .i64 x2)),(3,(.bool x3))]=some #[.bool x0,.bool x10,.slice x11A x11n x11c,.int .i64 x2,.bool x3]:=κ
def qow:bsV Tryz.prog 23 0 []=some (3,#[]):=κ
def qov {x0:Int}:bsV Tryz.prog 23 1 [(0,(.int .i64 x0))]=some (3,#[.int .i64 x0]):=κ
def qou {x0:Int} {x1:Int}:bsV Tryz.prog 23 2 [(0,(.int .i64 x0)),(1,(.int .i64 x1))]=some (3,#[.int .i64 x0,.int .i64 x1]):=κ
def qot {x0:Int} {x1:Int} {x2:Int}:bsV Tryz.prog 23 3 [(0,(.int .i64 x0)),(1,(.int .i64 x1)),(2,(.int .i64 x2))]=some (3,#[.int .i64 x0,.int .i64 x1,.int .i64 x2]):=κ
def qos {x0:Int} {x1:Int} {x2:Int} {x3:Int}:bsV Tryz.prog 23 4 [(0,(.int .i64 x0)),(1,(.int .i64 x1)),(2,(.int .i64 x2)),(3,(.int .i64 x3))]=some (3,#[.int .i64 x0,.int .i64 x1,.int .i64 x2,.int .i64 x3]):=κ
def qor:bsV Tryz.prog 24 0 []=some (32,#[]):=κ
def qoq {x0:Int}:bsV Tryz.prog 24 1 [(0,(.int .u64 x0))]=some (32,#[.int .u64 x0]):=κ
def qop {x0:Int} {x1:Int}:bsV Tryz.prog 24 2 [(0,(.int .u64 x0)),(1,(.int .u64 x1))]=some (32,#[.int .u64 x0,.int .u64 x1]):=κ
def qoo {x0:Int} {x1:Int} {x2:Int} {x3:Int}:bsV Tryz.prog 24 4 [(0,(.int .u64 x0)),(1,(.int .u64 x1)),(2,(.int .u64 x2)),(3,(.int .u64 x3))]=some (32,#[.int .u64 x0,.int .u64 x1,.int .u64 x2,.int .u64 x3]):=κ
def qon:bsV Tryz.prog 40 0 []=some (142,#[]):=κ
def qom {x0:Int}:bsV Tryz.prog 40 1 [(0,(.int .u32 x0))]=some (142,#[.int .u32 x0]):=κ
def qol {x0:Int} {x1:Int}:bsV Tryz.prog 40 2 [(0,(.int .u32 x0)),(1,(.int .u32 x1))]=some (142,#[.int .u32 x0,.int .u32 x1]):=κ
def qok {x0A:Option Addr} {x0n x0c:Nat}:bsV Tryz.prog 84 1 [(0,(.slice x0A x0n x0c))]=some (24,#[.slice x0A x0n x0c]):=κ
def qoj {x0A:Option Addr} {x0n x0c:Nat} {x1A:Option Addr} {x1n x1c:Nat}:bsV Tryz.prog 84 2 [(0,(.slice x0A x0n x0c)),(1,(.slice x1A x1n x1c))]=some (24,#[.slice x0A x0n x0c,.slice x1A x1n x1c]):=κ
def qoi {x00:Bool} {x010:Bool} {x011A:Option Addr} {x011n x011c:Nat} {x02:Int}:bsV Tryz.prog 87 1 [(0,.agg #[.bool x00,.bool x010,.slice x011A x011n x011c,.int .i64 x02])]=some (46,#[.bool x00,.bool x010,.slice x011A x011n x011c,.int .i64 x02]):=κ
def qoh {x00:Bool} {x010:Bool} {x011A:Option Addr} {x011n x011c:Nat} {x02:Int} {x10:Bool} {x110:Bool} {x111A:Option Addr} {x111n x111c:Nat} {x12:Int}:bsV Tryz.prog 87 2 [(0,.agg #[.bool x00,.bool x010,.slice x011A x011n x011c,.int .i64 x02]),(1,.agg #[.bool x10,.bool x110,.slice x111A x111n x111c,.int .i64 x12])]=some (46,#[.bool x00,.bool x010,.slice x011A x011n x011c,.int .i64 x02,.bool x10,.bool x110,.slice x111A x111n x111c,.int .i64 x12]):=κ
def qil {x0A:Option Addr} {x0n x0c:Nat}:bsV Tryz.prog 131 1 [(0,(.slice x0A x0n x0c))]=some (134,#[.slice x0A x0n x0c]):=κ
def quv:q0J Tryz.prog 13=true:=κ
def quu:q0J Tryz.prog 44=true:=κ
def qut:q0J Tryz.prog 46=true:=κ
def qus:q0J Tryz.prog 62=true:=κ
def qur:q0J Tryz.prog 91=true:=κ
def quq:q0J Tryz.prog 95=true:=κ
def qf7:q0J Tryz.prog 111=true:=κ
def qkx:q0J Tryz.prog 112=true:=κ
def qbK:q0J Tryz.prog 114=true:=κ
def qkw:q0J Tryz.prog 121=true:=κ
def qkv:q0J Tryz.prog 124=true:=κ
def qbJ:q0J Tryz.prog 129=true:=κ
def qku:q0J Tryz.prog 130=true:=κ
def qf6:q0J Tryz.prog 156=true:=κ
def qkt:q0J Tryz.prog 160=true:=κ
def qks:q0J Tryz.prog 205=true:=κ
def qkr:q0J Tryz.prog 207=true:=κ
def qkq:q0J Tryz.prog 216=true:=κ
def qf5:q0J Tryz.prog 223=true:=κ
def q5m:Tryz.prog.follows .mixedOrders=true:=κ
attribute [go_sem] agg3 agg4 agg5 agg23 agg24 agg26 agg28 agg31 agg32 agg34 agg40 agg42 agg46 agg63 agg84 agg87 qvu qvt qvs qvr qvq qvp qny qnx qnw
attribute [go_sem] qnv qnu qnt qns qnr qnq qnp qno qnn qnm qnl qnk qnj qni qnh qng qnf qne qnd qnc qiQ qiP qiO qiN qiM
attribute [go_sem] qiK qiJ qiI qiH esz22 esz23 esz24 esz40 esz84 esz87 qtq qtp qto elm22 elm23 elm24 elm40 elm84 elm87 qtv qtu
attribute [go_sem] qtt zer3 zer26 zer28 zer34 zer42 zer46 zer63 qq1 qq0 qqZ siz3 siz4 siz23 siz24 siz26 siz28 siz32 siz34 siz42 siz46 siz63 siz84 siz87 qr7 qr6
attribute [go_sem] qr5 qr4 qr3 qqf und4 beq4 bne4 und5 nil23 qsh qqe und32 und35 nil40 qsg und57 qqh qvP q9f q7F q58 qvO qfj q9e qvN
attribute [go_sem] qfi qvM qfh qvL qoy qfg qvK qff q7E q8W q5p qow qov qou qot qos qor qoq qop qoo qon qom qol qok qoj qoi qoh qil
attribute [go_sem] quv
attribute [go_sem] quu qut qus
attribute [go_sem] qur quq qf7 qkx qbK
attribute [go_sem] qkw qkv qbJ qku qf6
attribute [go_sem] qkt
attribute [go_sem] qks qkr qkq qf5
attribute [go_sem] q5m
open Go.Sp
def dg (l:List Nat) (i:Nat):Nat:=l.getD i 0
def u32v (d:Nat):Value:=.int .u32 d
def U32 (w:World) (D:Nat->Prop) (A:Option Addr) (n c:Nat) (l:List Nat):Prop:=Row w D 1 A n c (l.map u32v)/\q0Y l
section
variable {w w':World} {D D':Nat->Prop} {A:Option Addr} {n c:Nat} {l:List Nat}
def U32.kp (h:U32 w D A n c l) (k:Kp D w w'):U32 w' D A n c l:=⟨h.1.kp k,h.2⟩
def U32.sub (h:U32 w D A n c l) (hs:∀ k,k < w.heap.size->D k->D' k):U32 w D' A n c l:=⟨h.1.sub hs,h.2⟩
def U32.nil:U32 w D none 0 0 []:=⟨Row.nil _ _ _,q0Y.nil⟩
end
section
variable {w w':World} {D D':Nat->Prop} {A:Option Addr} {n c B:Nat} {l:List Nat}
end
section
variable {P:Program} {w:World} {K:Value->World->Prop}
end
end Go.Proofs.YtbjoghfmhgadkaaGreatDoor
namespace Go.E
def sgn (b:Bool) (m:Nat):Int:=if b then -(m:Int) else m
def q0h (b:Bool) (m:Nat):(sgn b m).natAbs=m:=by unfold sgn; split <;> omega
def q8u (b:Bool) (m:Nat):decide (sgn b m < 0)=(b && decide (0 < m)):=by
 unfold sgn; cases b <;> simp
def q07 (z:Int):sgn (decide (z < 0)) z.natAbs=z:=by
 unfold sgn; by_cases h:z < 0 <;> simp [h] <;> omega
end Go.E
namespace Go.Sp
open Go.E
def q4h {l:List Nat} {i:Nat} (h:l.length<=i):l.getD i 0=0:=by simp [List.getD,z8 h]
def vts (l:List Nat) (i:Nat):val (l.take (i+1))=val (l.take i)+B ^ i*l.getD i 0:=by
 rcases zN i l.length with h | h
 .exact q1c l i h
 .rw [q0F l (i+1) Oq,q0F l i h,q4h h]; simp
def q7K {o:List Nat} {i c x y A:Nat} (hl:o.length=i) (h:val o+B ^ i*c=A):val (o ++ [(c+x+y) % B])+B ^ (i+1)*((c+x+y) / B)=A+B ^ i*x+B ^ i*y:=by
 rw [q2U,hl,<- h,zF];have:=xS (c+x+y) B;have h2:B ^ i*((c+x+y) % B)+B ^ i*B*((c+x+y) / B)=B ^ i*(c+x+y):=by
  rw [zB,<- zC,this]
 rw [zC,zC] at h2;omega
def qaH {o:List Nat} {i br x y U V t:Nat} (hl:o.length=i) (h:val o+V=U+B ^ i*br) (hbr:br<=1) (hx:x < 4294967296) (hy:y < 4294967296)
  (ht:t=((x+(18446744073709551616-br)) % 18446744073709551616+(18446744073709551616-y)) % 18446744073709551616) :
  val (o ++ [t % 4294967296])+(V+B ^ i*y)=U+B ^ i*x+B ^ (i+1)*(t / 9223372036854775808)/\t / 9223372036854775808<=1:=by
 have key:x+t / 9223372036854775808*4294967296=t % 4294967296+br+y/\t / 9223372036854775808<=1:=ω
 refine ⟨?_,key.2⟩;rw [q2U,hl,zF];have h2:B ^ i*(x+t / 9223372036854775808*4294967296)=B ^ i*(t % 4294967296+br+y):=by rw [key.1]
 rw [zC,zC,zC] at h2;have h3:B ^ i*B*(t / 9223372036854775808)=B ^ i*(t / 9223372036854775808*4294967296):=by
  rw [zB,zI B]; rfl
 omega
def q2c (x y:Nat):Int:=if x < y then -1 else if x=y then 0 else 1
def q9r:B=2 ^ 32:=rfl
def q1z {c m k:Nat} (hc:c < 2 ^ k):c ||| m*2 ^ k=c+m*2 ^ k:=by
 rw [vB,zI,<- Nat.two_pow_add_eq_or_of_lt hc];omega
def qgo {o:List Nat} {i c x k V:Nat} (hl:o.length=i) (h:val o+B ^ i*c=2 ^ k*V) :
  val (o ++ [(c+x*2 ^ k) % 4294967296])+B ^ (i+1)*((c+x*2 ^ k) / 4294967296)=2 ^ k*(V+B ^ i*x):=by
 have:=q7K (x:=x*2 ^ k) (y:=0) hl h;have e:B ^ i*(x*2 ^ k)=2 ^ k*(B ^ i*x):=by rw [zI x,vO]
 rw [vP,xG,vP,e,<- zC] at this;exact this
def qmP {X k:Nat} (hk:k<=32):(X / 2 ^ k) % 4294967296=(X % 18446744073709551616 / 2 ^ k) % 4294967296:=by
 have e:18446744073709551616=2 ^ k*(2 ^ (32-k)*4294967296):=by
  rw [<- zB,<- zJ,show k+(32-k)=32 by omega]
 rw [e,Nat.mod_mul_right_div_self,Nat.mod_mul_left_mod]
def q15 (l:List Nat) (i:Nat):val (l.drop i)=l.getD i 0+B*val (l.drop (i+1)):=by
 rcases zN i l.length with h | h
 .rw [xV h,val,q0k h]
 .rw [yK h,yK Oq,q4h h]; rfl
def q2V {l:List Nat} (h:q0Y l) (z:Nat):val (l.drop z)=val l / B ^ z:=by
 rcases Nat.le_total z l.length with hz | hz
 .rw [q1D l z hz];have h1:=q12 (h.take z);rw [zU,yP hz] at h1;rw [vV _ _ (q4A z),yM h1,yW]
 .have h1:=q12 h;have h2:B ^ l.length<=B ^ z:=zM q1A hz;rw [yK hz,yM ω]; rfl
def q1v {l:List Nat} (h:q0Y l) (z:Nat):val (l.take z)=val l % B ^ z:=by
 rcases Nat.le_total z l.length with hz | hz
 .have h1:=q12 (h.take z);rw [zU,yP hz] at h1;have:=q1D l z hz;rw [this,z7,zH h1]
 .have h1:=q12 h;have h2:B ^ l.length<=B ^ z:=zM q1A hz;rw [yJ hz,zH ω]
def qaN {o l:List Nat} {j i k V:Nat} (hk:k<=32) (ha:q0Y l) (hl:o.length=j) (h:val o+B ^ j*(val (l.drop i) / 2 ^ k)=V) :
  val (o ++ [(l.getD i 0+l.getD (i+1) 0*4294967296) / 2 ^ k % 4294967296])+B ^ (j+1)*(val (l.drop (i+1)) / 2 ^ k)=V:=by
 have h0:=ha.get i;have h1:=ha.get (i+1);unfold B at h0 h1;have e1:=q15 l i;have e2:=q15 l (i+1);have e3:val (l.drop i) % 18446744073709551616=l.getD i 0+l.getD (i+1) 0*4294967296:=by
  unfold B at e1 e2; omega
 have e4:val (l.drop i) / 2 ^ k / 4294967296=val (l.drop (i+1)) / 2 ^ k:=by
  rw [xH,zI,<- xH]
  congr 1
  unfold B at e1; omega
 rw [q2U,hl,<- e3,<- qmP hk,<- e4,zF,xA,zB,<- zC];have:B*(val (l.drop i) / 2 ^ k / 4294967296)=4294967296*(val (l.drop i) / 2 ^ k / 4294967296):=rfl;rw [this,xS];exact h
def qad {l:List Nat} (ha:q0Y l) (z k:Nat) (hk:k<=32):val l % 2 ^ (32*z+k)=0 ↔ (val (l.take z)=0/\l.getD z 0 % 2 ^ k=0):=by
 have e1:val l / B ^ z % 2 ^ k=l.getD z 0 % 2 ^ k:=by
  rw [<- q2V ha,q15,q9r,show 2 ^ 32=2 ^ k*2 ^ (32-k) by rw [<- zJ]; congr 1; omega,zB,z7]
 rw [zJ,wR,<- q9r,xZ,e1,<- q1v ha];have:=q4A z
 constructor
 .intro h;have h1:val (l.take z)=0:=ω
  refine ⟨h1,?_⟩;rw [h1,yW] at h
  rcases xB.1 h with h | h
  .omega
  .exact h
 .rintro ⟨h1,h2⟩; rw [h1,h2]; simp
def qae {l:List Nat} (ha:q0Y l) (z k:Nat) (h:l.length<=z):val l % 2 ^ (32*z+k)=val l:=by
 have h1:=q12 ha;have h2:B ^ l.length<=B ^ z:=zM q1A h;have h3:B ^ z<=2 ^ (32*z+k):=by rw [q9r,<- wR]; exact zM Oq Oq
 exact zH Oq
def q3K:∀ {o:List Nat} {p:Nat} (d:Nat),p < o.length->val (o.set p d)+B ^ p*o.getD p 0=val o+B ^ p*d
 | [],p,d,h=>by simp at h
 | x :: o,0,d,_=>by simp [val]; omega
 | x :: o,p+1,d,h=>by
  have ih:=q3K (o:=o) (p:=p) d (by simpa using h);simp only [List.set_cons_succ,val,List.getD_cons_succ,zF];have e1:B ^ p*B*o.getD p 0=B*(B ^ p*o.getD p 0):=by rw [zI (B ^ p) B,zB]
  have e2:B ^ p*B*d=B*(B ^ p*d):=by rw [zI (B ^ p) B,zB]
  rw [e1,e2,xA,xA,<- zC,<- zC,ih]
def qa8 {o:List Nat} {p c x y V:Nat} (hp:p < o.length) (h:val o+B ^ p*c=V) :
  val (o.set p ((c+x*y+o.getD p 0) % 4294967296))+B ^ (p+1)*((c+x*y+o.getD p 0) / 4294967296)=V+B ^ p*(x*y):=by
 have h1:=q3K (o:=o) (p:=p) ((c+x*y+o.getD p 0) % 4294967296) hp;have h2:B ^ p*((c+x*y+o.getD p 0) % 4294967296)+B ^ (p+1)*((c+x*y+o.getD p 0) / 4294967296)=B ^ p*c+B ^ p*(x*y)+B ^ p*o.getD p 0:=by
  rw [zF,zB,<- zC,<- zC,<- zC]
  congr 1
  exact xS _ 4294967296
 omega
def q7t {c x y z:Nat} (hc:c < 4294967296) (hx:x < 4294967296) (hy:y < 4294967296) (hz:z < 4294967296):c+x*y+z < 18446744073709551616/\x*y < 18446744065119617026:=by
 have:x*y<=4294967295*4294967295:=Nat.mul_le_mul Oq Oq;omega
def q0j {o:List Nat} {p q d:Nat} (h:q≠p):(o.set p d).getD q 0=o.getD q 0:=by
 simp only [zR];rw [wS (λe=>h e.symm)]
def shI (z n:Int):Int:=if 0<=n then z*2 ^ n.toNat else z / 2 ^ (-n).toNat
def qek (v p:Nat) (hp:0 < p):(-(v:Int)) / (p:Int) = -((v / p:Nat):Int)-(if v % p≠0 then 1 else 0):=by
 have h:=vQ v p;have hr:=zW v hp;have h':(p:Int)*((v / p:Nat):Int)+((v % p:Nat):Int)=(v:Int):=by
  rw [<- wJ,<- Int.natCast_add,h]
 generalize v / p=q at *;generalize hrr:v % p=r at *
 by_cases h0:r=0
 .rw [if_neg (by simpa using h0)];refine ((wT (by omega:(0:Int) < p) (r:=0)).2 ⟨?_,ω,ω⟩).1;rw [Int.sub_zero,vC]; omega
 .rw [if_pos h0];refine ((wT (by omega:(0:Int) < p) (r:=(p:Int)-r)).2 ⟨?_,ω,ω⟩).1;rw [Int.mul_sub,vC,Int.mul_one]; omega
def q0N (k:Nat):((2 ^ k:Nat):Int)=(2:Int) ^ k:=σ
def qmU (v k:Nat):(-(v:Int)) / (2:Int) ^ k = -((v / 2 ^ k:Nat):Int)-(if v % 2 ^ k≠0 then 1 else 0):=by
 rw [<- q0N]; exact qek v (2 ^ k) (xY Oq)
def bl (n:Nat):Nat:=if n=0 then 0 else Nat.log2 n+1
def q27 (n:Nat):n < 2 ^ bl n:=by
 unfold bl; split
 .omega
 .exact Nat.lt_log2_self
def q7G {n:Nat} (h:n≠0):2 ^ (bl n-1)<=n:=by
 unfold bl; rw [if_neg h]; exact Nat.log2_self_le h
def q0m:bl 0=0:=rfl
def qfk {n k:Nat} (h1:n < 2 ^ k) (h2:k=0\/2 ^ (k-1)<=n):bl n=k:=by
 by_cases h0:n=0
 .subst h0
  rcases h2 with h2 | h2
  .rw [h2]; rfl
  .have:=xY (n:=k-1) (show 0 < 2 by omega); omega
 .have a:=q27 n;have b:=q7G h0;have c:bl n≠0:=by unfold bl; rw [if_neg h0]; omega
  have d:k≠0:=by intro e; subst e; simp at h1; omega
  have h2:=h2.resolve_left d;have e1:=(yG (a:=2) Oq).1 (yC b h1);have e2:=(yG (a:=2) Oq).1 (yC h2 a);omega
def qbQ {n k:Nat} (h:2 ^ k<=n):bl n=k+bl (n / 2 ^ k):=by
 have hp:=xY (n:=k) (show 0 < 2 by omega);have h0:n / 2 ^ k≠0:=by have:=wP h hp; omega
 have a:=q27 (n / 2 ^ k);have b:=q7G h0;have c:bl (n / 2 ^ k)≠0:=by unfold bl; rw [if_neg h0]; omega
 refine qfk ?_ (.inr ?_)
 .rw [zJ,zI];exact (xJ hp).1 a
 .rw [show k+bl (n / 2 ^ k)-1=k+(bl (n / 2 ^ k)-1) by omega,zJ,zI];exact (wM hp).1 b
def q0r {m n:Nat} (h:m<=n):bl m<=bl n:=by
 by_cases h0:m=0
 .subst h0; simp [q0m]
 .have a:=q7G h0;have b:=q27 n;have:=(yG (a:=2) Oq).1 (yC (zL a h) b);omega
def q0O {n k:Nat} (h:n < 2 ^ k):bl n<=k:=by
 by_cases h0:n=0
 .subst h0; simp [q0m]
 .have:=(yG (a:=2) Oq).1 (yC (q7G h0) h);omega
def q6O {n:Nat} (h:n≠0):bl n=32*((lim n).length-1)+bl ((lim n).getD ((lim n).length-1) 0):=by
 have hp:=q0K.2 h;have h1:2 ^ (32*((lim n).length-1))=B ^ ((lim n).length-1):=by rw [q9r,<- wR]
 have h2:n / B ^ ((lim n).length-1)=(lim n).getD ((lim n).length-1) 0:=by
  have:=q2V (q0C n) ((lim n).length-1);rw [q0D] at this;rw [<- this,q15,show (lim n).length-1+1=(lim n).length by omega,List.drop_length]; simp [val]
 rw [<- h2,<- h1];exact qbQ (by rw [h1]; exact q2v h)
end Go.Sp
namespace Go.E
open Go
section
variable {P:Program} {w:World} {K:Value->World->Prop} {D:Nat->Prop}
end
end Go.E
namespace Go.Proofs.YtbjoghfmhgadkaaGreatDoor
open Go Go.E Go.Sp
def Big (w:World) (D:Nat->Prop) (s:Bool) (A:Option Addr) (n c:Nat) (z:Int):Prop:=s=decide (z < 0)/\U32 w D A n c (lim z.natAbs)
section
variable {w w':World} {D D':Nat->Prop} {A:Option Addr} {n c B:Nat} {l:List Nat} {s:Bool} {z:Int}
def Big.kp (h:Big w D s A n c z) (k:Kp D w w'):Big w' D s A n c z:=⟨h.1,h.2.kp k⟩
def Big.sub (h:Big w D s A n c z) (hs:∀ k,k < w.heap.size->D k->D' k):Big w D' s A n c z:=⟨h.1,h.2.sub hs⟩
end
end Go.Proofs.YtbjoghfmhgadkaaGreatDoor
namespace Go.E
open Go
section
variable {P:Program} {t:TypeId} {k':IntKind} {a b:Nat}
def q8K (a b:Nat):Int.fdiv (a:Int) (b:Int)=((a / b:Nat):Int):=by
 rw [Int.fdiv_eq_ediv_of_nonneg _ (Int.natCast_nonneg b)]; rfl
def qgk:q0q P .shr t (.int .u64 (a:Int)) (.int k' 32)=some (.int .u64 ((a / 4294967296:Nat):Int)):=by
 rw [q1t,if_neg ω];exact congrArg (λx=>some (Value.int .u64 x)) (q8K a 4294967296)
def qgi:q0q P .shr t (.int .u64 (a:Int)) (.int k' 63)=some (.int .u64 ((a / 9223372036854775808:Nat):Int)):=by
 rw [q1t,if_neg ω];exact congrArg (λx=>some (Value.int .u64 x)) (q8K a 9223372036854775808)
def qmR:q0q P .shr t (.int .u32 (a:Int)) (.int k' 8)=some (.int .u32 ((a / 256:Nat):Int)):=by
 rw [q1t,if_neg ω];exact congrArg (λx=>some (Value.int .u32 x)) (q8K a 256)
def qgm:q0q P .shr t (.int .u32 (a:Int)) (.int k' 16)=some (.int .u32 ((a / 65536:Nat):Int)):=by
 rw [q1t,if_neg ω];exact congrArg (λx=>some (Value.int .u32 x)) (q8K a 65536)
def qgl:q0q P .shr t (.int .u32 (a:Int)) (.int k' 27)=some (.int .u32 ((a / 134217728:Nat):Int)):=by
 rw [q1t,if_neg ω];exact congrArg (λx=>some (Value.int .u32 x)) (q8K a 134217728)
def w32N:IntKind.u32.wrap (a:Int)=((a % 4294967296:Nat):Int):=by rw [q2W]; omega
def qvv (h:a+b < 18446744073709551616):IntKind.u64.wrap ((a:Int)+(b:Int))=((a+b:Nat):Int):=by rw [q0s]; omega
def q40 (hb:b < 18446744073709551616):IntKind.u64.wrap ((a:Int)-(b:Int))=(((a+(18446744073709551616-b)) % 18446744073709551616:Nat):Int):=by rw [q0s]; omega
def id64N (h:a < 18446744073709551616):IntKind.u64.wrap (a:Int)=(a:Int):=by rw [q0s]; omega
def qsq (h:a*b < 18446744073709551616):IntKind.u64.wrap ((a:Int)*(b:Int))=((a*b:Nat):Int):=by rw [q0s,<- wJ]; omega
def i64N (h:a < 9223372036854775808):IntKind.i64.wrap (a:Int)=(a:Int):=by rw [qha]; omega
end
def q3q {n x:Nat}:(BitVec.ofInt n (x:Int))=BitVec.ofNat n x:=σ
def qbl {a b:Nat} (ha:a < 18446744073709551616) (hb:b < 18446744073709551616):q0d .or .u64 (a:Int) (b:Int)=((a ||| b:Nat):Int):=by
 have h:a ||| b < 2 ^ 64:=Nat.or_lt_two_pow ha hb;have h2:(BitVec.ofInt 64 (a:Int) ||| BitVec.ofInt 64 (b:Int)).toNat=a ||| b:=by
  rw [q3q,q3q,BitVec.toNat_or,BitVec.toNat_ofNat,BitVec.toNat_ofNat,zH ha,zH hb]
 show IntKind.u64.wrap ((BitVec.ofInt 64 (a:Int) ||| BitVec.ofInt 64 (b:Int)).toNat:Int)=_
 rw [h2,q0s]; omega
def or32N {a b:Nat} (ha:a < 4294967296) (hb:b < 4294967296):q0d .or .u32 (a:Int) (b:Int)=((a ||| b:Nat):Int):=by
 have h:a ||| b < 2 ^ 32:=Nat.or_lt_two_pow ha hb;have h2:(BitVec.ofInt 32 (a:Int) ||| BitVec.ofInt 32 (b:Int)).toNat=a ||| b:=by
  rw [q3q,q3q,BitVec.toNat_or,BitVec.toNat_ofNat,BitVec.toNat_ofNat,zH ha,zH hb]
 show IntKind.u32.wrap ((BitVec.ofInt 32 (a:Int) ||| BitVec.ofInt 32 (b:Int)).toNat:Int)=_
 rw [h2,q2W]; omega
def q3w {a b:Nat} (ha:a < 18446744073709551616) (hb:b < 18446744073709551616):q0d .and .u64 (a:Int) (b:Int)=((a &&& b:Nat):Int):=by
 have h:a &&& b < 2 ^ 64:=Nat.and_lt_two_pow a hb;have h2:(BitVec.ofInt 64 (a:Int) &&& BitVec.ofInt 64 (b:Int)).toNat=a &&& b:=by
  rw [q3q,q3q,BitVec.toNat_and,BitVec.toNat_ofNat,BitVec.toNat_ofNat,zH ha,zH hb]
 show IntKind.u64.wrap ((BitVec.ofInt 64 (a:Int) &&& BitVec.ofInt 64 (b:Int)).toNat:Int)=_
 rw [h2,q0s]; omega
def qbX {a b:Nat} (ha:a < 4294967296) (hb:b < 4294967296):q0d .and .u32 (a:Int) (b:Int)=((a &&& b:Nat):Int):=by
 have h:a &&& b < 2 ^ 32:=Nat.and_lt_two_pow a hb;have h2:(BitVec.ofInt 32 (a:Int) &&& BitVec.ofInt 32 (b:Int)).toNat=a &&& b:=by
  rw [q3q,q3q,BitVec.toNat_and,BitVec.toNat_ofNat,BitVec.toNat_ofNat,zH ha,zH hb]
 show IntKind.u32.wrap ((BitVec.ofInt 32 (a:Int) &&& BitVec.ofInt 32 (b:Int)).toNat:Int)=_
 rw [h2,q2W]; omega
section
variable {P:Program} {t:TypeId} {k':IntKind} {a b:Nat}
def qdS (hb:b<=64):q0q P .shl t (.int .u64 (a:Int)) (.int k' (b:Int))=some (.int .u64 ((a*2 ^ b % 18446744073709551616:Nat):Int)):=by
 rw [q9h,if_neg ω];have:min (b:Int).toNat IntKind.u64.bits=b:=by simp [IntKind.bits]; omega
 rw [this,q0s]
 congr 2
def qjm (hb:b<=32):q0q P .shl t (.int .u32 (a:Int)) (.int k' (b:Int))=some (.int .u32 ((a*2 ^ b % 4294967296:Nat):Int)):=by
 rw [q9h,if_neg ω];have:min (b:Int).toNat IntKind.u32.bits=b:=by simp [IntKind.bits]; omega
 rw [this,q2W]
 congr 2
def qr9 (hb:b<=64):q0q P .shr t (.int .u64 (a:Int)) (.int k' (b:Int))=some (.int .u64 ((a / 2 ^ b:Nat):Int)):=by
 rw [q1t,if_neg ω];have:min (b:Int).toNat IntKind.u64.bits=b:=by simp [IntKind.bits]; omega
 rw [this];have:=q8K a (2 ^ b);rw [<- this]; simp
def qsS (h:a < 9223372036854775808):q0q P .quo t (.int .i64 (a:Int)) (.int .i64 32)=some (.int .i64 ((a / 32:Nat):Int)):=by
 rw [qfo,if_neg ω];have:Int.tdiv (a:Int) 32=((a / 32:Nat):Int):=rfl;rw [this,i64_in Oq ω]
def qsK:q0q P .rem t (.int .i64 (a:Int)) (.int .i64 32)=some (.int .i64 ((a % 32:Nat):Int)):=by
 rw [qfn,if_neg ω]; rfl
end
section
variable {P:Program} {t:TypeId} {k':IntKind} {a b:Nat}
def qgp:q0q P .shl t (.int .u64 (a:Int)) (.int k' 32)=some (.int .u64 ((a*4294967296 % 18446744073709551616:Nat):Int)):=qdS (b:=32) Oq
def qmS (hb:b < 32):q0q P .shl t (.int .u32 1) (.int k' (b:Int))=some (.int .u32 ((2 ^ b:Nat):Int)):=by
 have:=qjm (P:=P) (t:=t) (k':=k') (a:=1) (b:=b) Oq;rw [z6,zH (show 2 ^ b < 4294967296 from wU Oq hb)] at this;exact this
def qdH (h:0 < a) (h2:a < 4294967296):IntKind.u32.wrap ((a:Int)-1)=((a-1:Nat):Int):=by rw [q2W]; omega
end
attribute [go_sem high] qgp qmS qbl or32N q3w qbX qdS qjm qr9 qsS qsK
def beqN {a b:Nat}:((a:Int) == (b:Int))=decide (a=b):=by rw [Bool.eq_iff_iff,beq_iff_eq,decide_eq_true_eq]; omega
def bneN {a b:Nat}:((a:Int) != (b:Int))=decide (a≠b):=by rw [Bool.eq_iff_iff,bne_iff_ne,decide_eq_true_eq]; omega
def bne0 {a:Nat}:((a:Int) != 0)=decide (a≠0):=bneN (b:=0)
def beq0 {a:Nat}:((a:Int) == 0)=decide (a=0):=beqN (b:=0)
def qkR {k:IntKind} {a b:Int}:mmV true [.int k a,.int k b]=some (.int k (max a b)):=by simp [mmV]
def qkQ {k:IntKind} {a b:Int}:mmV false [.int k a,.int k b]=some (.int k (min a b)):=by simp [mmV]
attribute [go_sem high] qkR qkQ
attribute [go_sem high] qmR qgm qgl qgk qgi w32N qvv qsq id64N
end Go.E
namespace Go.Proofs.YtbjoghfmhgadkaaGreatDoor
open Go Go.E Go.Sp




def qdV (s s':Bool) (a b:Nat):sgn s a*sgn s' b=sgn (s != s') (a*b):=by
 cases s <;> cases s' <;> simp [sgn,wV,vC]
end Go.Proofs.YtbjoghfmhgadkaaGreatDoor
namespace Go.E
open Go
def qb6 {P:Program} {d:Option Nat} {t ty:TypeId} {x i:Operand} {pos:String} {af:Array Edge} {g:Option (Nat × Bool)} {e:Env} {w:World} {K:Value->World->Prop} {s:ByteArray} {k:IntKind} {n:Nat}
  (ht:P.underlying t=some .string) (hx:ev e x=.string s) (hi:ev e i=.int k n) (hn:n < s.size) (hK:K (.int .u8 s[n].toNat) w):wo P ⟨d,.index t x i,ty,pos,af,g⟩ e w K:=by
 show WO P ⟨d,.index t x i,ty,pos,af,g⟩ e w K
 unfold WO;have:(execOp (ev e) ⟨d,.index t x i,ty,pos,af,g⟩).run P w=(.ok (.value (.int .u8 s[n].toNat)) w):=by
  simp only [execOp,hx,hi];simp [go_sem,run_index_string,ht,hn]
 rw [this];exact hK
end Go.E
namespace Go.Proofs.YtbjoghfmhgadkaaGreatDoor
open Go Go.E Go.Sp
def qqM:ByteArray:=⟨(((List.range 256).map λi=>UInt8.ofNat (bl i))).toArray⟩
def q8C:qqM.size=256:=κ
def qhT:((List.range 256).all λi=>wY ((qqM.data.toList.getD i 0).toNat) (bl i))=true:=κ
def qhS {y:Nat} (h:y < qqM.size):qqM[y].toNat=bl y:=by
 have h1:=qhT;rw [y7] at h1;have h2:=vT (h1 y (wQ.2 (by rw [q8C] at h; exact h)));rw [<- h2]
 congr 1
 have:y < qqM.data.toList.length:=by simpa using h
 rw [zR,zD this];simp
 rfl
def qag {x:Nat} {w:World} (hx:x < 4294967296) :
  Calls Tryz.prog 216 #[.int .u32 x] w λe w'=>e=.returned (.int .i64 (bl x:Nat))/\w=w':=by
 refine q57 Tryz.func216 rfl Tryz.ntmps216 κ ?_;refine Wz ?_;refine q9m λK1 hK1=>?_;have st1:∀ (e1:Env) (a y:Nat),y < 65536->a+bl y=bl x->a<=16->e1 0=.int .u32 y->e1 2=.int .i64 a->K1 e1 w:=by
  intro e1 a y hy hab ha h0 h2;refine hK1 _ _ ?_; clear hK1;refine q9m λK1 hK1=>?_;have st2:∀ (e1:Env) (a y:Nat),y < 256->a+bl y=bl x->a<=24->e1 0=.int .u32 y->e1 2=.int .i64 a->K1 e1 w:=by
   intro e1 a y hy hab ha h0 h2;refine hK1 _ _ ?_; clear hK1;have hw:IntKind.u8.wrap (y:Int)=(y:Int):=u8_in Oq Oq;refine q1H λK hK=>?_
   set_option maxRecDepth 4000 in
   refine Zz3 h0 h2 hw ?_;refine qb6 (s:=qqM) κ κ rfl (by rw [q8C]; exact hy) ?_;rw [qhS];have hby:bl y<=8:=q0O Oq;have hs:IntKind.i64.wrap ((a:Int)+(bl y:Int))=(bl x:Int):=by rw [i64_in Oq ω]; omega
   simp -implicitDefEqProofs (disch:=omega) only [go_sem,Nat.reduceEqDiff,Nat.reduceAdd,↓reduceIte,i64N,hs];refine hK _ _ ?_; clear hK;refine qjF ?_
   try simp only [q8n,qnR]
   refine ret1 rfl ⟨rfl,rfl⟩
  by_cases hb:256<=y
  .have hb':((y:Int) ≥ 256):=ω
   refine Wz2 h0 hb' ?_;refine Wt ?_;refine Wz1 h0 ?_;refine qlK λK9 hK9=>?_;refine Zz2 h2 @i64_in ?_;refine hK9 _ _ ?_; clear hK9 K9;have h8:bl y=8+bl (y / 256):=qbQ (n:=y) (k:=8) hb;exact st2 _ (a+8) (y / 256) Oq Oq Oq Ue Ue
  .have hb':¬ ((y:Int) ≥ 256):=ω
   refine Wz2 h0 hb' ?_;refine Wf (qbZ ?_);exact st2 _ a y Oq hab Oq Ue Ue
 by_cases hb:65536<=x
 .have hb':((x:Int) ≥ 65536):=ω
  refine Wz1 hb' ?_;refine Wt ?_;refine Wz ?_;refine qlK λK9 hK9=>?_;refine Zz ?_;refine hK9 _ _ ?_; clear hK9 K9;have h8:bl x=16+bl (x / 65536):=qbQ (n:=x) (k:=16) hb;exact st1 _ 16 (x / 65536) Oq Oq Oq Ue Ue
 .have hb':¬ ((x:Int) ≥ 65536):=ω
  refine Wz1 hb' ?_;refine Wf (qbZ ?_);exact st1 _ 0 x Oq Oq Oq Ue Ue


end Go.Proofs.YtbjoghfmhgadkaaGreatDoor
namespace Go.Sp
open Go.E
def q0E (k:Nat):0 < 2 ^ k:=xY Oq
def tzF:Nat->Nat->Nat
 | 0,_=>0
 | f+1,n=>if n % 2=1 then 0 else tzF f (n / 2)+1
def tz (n:Nat):Nat:=if n=0 then 0 else tzF n n
def qaB:∀ (f n:Nat),n≠0->n<=f->∃ q,q % 2=1/\n=q*2 ^ tzF f n
 | 0,n,h,hf=>by omega
 | f+1,n,h,hf=>by
  unfold tzF
  by_cases ho:n % 2=1
  .rw [if_pos ho]; exact ⟨n,ho,σ⟩
  .rw [if_neg ho];obtain ⟨q,hq,he⟩:=qaB f (n / 2) Oq Oq;refine ⟨q,hq,?_⟩;rw [zF,<- zB,<- he]; omega
def q2f {n:Nat} (h:n≠0):∃ q,q % 2=1/\n=q*2 ^ tz n:=by
 unfold tz; rw [if_neg h]; exact qaB n n h (yL _)
def qa5:∀ {a b q r:Nat},q % 2=1->r % 2=1->q*2 ^ a=r*2 ^ b->a=b
 | 0,0,_,_,_,_,_=>rfl
 | 0,b+1,q,r,hq,hr,h=>by
  rw [zF,<- zB,yS,vN] at h;generalize r*2 ^ b=x at h; omega
 | a+1,0,q,r,hq,hr,h=>by
  rw [zF,<- zB,yS,vN] at h;generalize q*2 ^ a=x at h; omega
 | a+1,b+1,q,r,hq,hr,h=>by
  rw [zF,zF,<- zB,<- zB] at h;have:=qa5 hq hr (xU Oq h);omega
def q6V {n q k:Nat} (hq:q % 2=1) (h:n=q*2 ^ k):tz n=k:=by
 have h0:n≠0:=by
  rintro rfl;have:=q0E k
  rcases xB.1 h.symm with h | h <;> omega
 obtain ⟨r,hr,he⟩:=q2f h0;exact qa5 hr hq (he.symm.trans h)
def qaA {n:Nat} (h:n % 2=1):tz n=0:=q6V h σ
def qjU {n:Nat} (h:n≠0) (k:Nat):tz (n*2 ^ k)=tz n+k:=by
 obtain ⟨q,hq,he⟩:=q2f h;refine q6V hq ?_;rw [zJ,<- zB,<- he]
def q3s {n:Nat} (h:n≠0):0 < bl n:=by unfold bl; rw [if_neg h]; omega
def q1F {n:Nat} (h:n≠0) (k:Nat):bl (n*2 ^ k)=bl n+k:=by
 have a:=q27 n;have b:=q7G h;have c:=q3s h;refine qfk ?_ (.inr ?_)
 .rw [zJ]; exact Nat.mul_lt_mul_of_pos_right a (q0E k)
 .rw [show bl n+k-1=(bl n-1)+k by omega,zJ]; exact zK _ b
def q1s (a b:Nat):bl (a*b)<=bl a+bl b:=by
 refine q0O ?_;rw [zJ];exact Nat.mul_lt_mul_of_lt_of_le (q27 a) (y8 (q27 b)) (q0E _)
def q5a {a b k:Nat} (ha:bl a<=k) (hb:bl b<=k):bl (a+b)<=k+1:=by
 refine q0O ?_;have h1:=q27 a;have h2:=q27 b;have h3:2 ^ bl a<=2 ^ k:=zM Oq ha;have h4:2 ^ bl b<=2 ^ k:=zM Oq hb;rw [zF]; omega
def q17 {n k:Nat} (h:bl n<=k):n < 2 ^ k:=vR (q27 n) (zM Oq h)
def q8X {n k:Nat}:bl n<=k ↔ n < 2 ^ k:=⟨q17,q0O⟩
def qg8 {n:Nat} (h:n≠0):tz n < bl n:=by
 obtain ⟨q,hq,he⟩:=q2f h;have h1:bl n=bl q+tz n:=by
  have:=q1F (n:=q) Oq (tz n)
  rwa [<- he] at this
 have:=q3s (n:=q) Oq;omega
def q8B (n:Nat):(lim n).length=(bl n+31) / 32:=by
 by_cases h:n=0
 .subst h; rfl
 .have h1:=q6O h;have h2:=q3a h;have h3:=(q0C n).get ((lim n).length-1);have h4:=q3s h2;have h5:bl ((lim n).getD ((lim n).length-1) 0)<=32:=q0O h3;have h6:=q0K.2 h;omega
def q6W {x:Nat} (h:x≠0) (hx:x < 4294967296):tz x < 32:=by
 have:=qg8 h;have:bl x<=32:=q0O hx;omega
def qjT {l:List Nat} {i:Nat} (ha:q0Y l) (hi:i < l.length) (h0:val (l.take i)=0) (hd:l.getD i 0≠0):tz (val l)=32*i+tz (l.getD i 0):=by
 have h1:=q1D l i Oq;rw [h0,yW,q15] at h1;obtain ⟨q,hq,he⟩:=q2f hd;have hk:=q6W hd (ha.get i);refine q6V (q:=q+2 ^ (32-tz (l.getD i 0))*val (l.drop (i+1))) ?_ ?_
 .rw [show 32-tz (l.getD i 0)=(31-tz (l.getD i 0))+1 by omega,zF,zI (2 ^ _) 2,zB];omega
 .rw [h1];have e1:B ^ i=2 ^ (32*i):=by rw [q9r,<- wR]
  have e2:B=2 ^ (32-tz (l.getD i 0))*2 ^ tz (l.getD i 0):=by rw [<- zJ,q9r]; congr 1; omega
  rw [e1,zJ,yH];generalize val (l.drop (i+1))=X;generalize hk':tz (l.getD i 0)=k at *;rw [he,e2];generalize 2 ^ (32-k)=Y;generalize 2 ^ k=Z;generalize 2 ^ (32*i)=U;simp only [zC,vO,zI]
def q4Z {l:List Nat} {i:Nat}:(val (l.take (i+1))=0) ↔ (val (l.take i)=0/\l.getD i 0=0):=by
 have hB:=q4A i;have hv:val (l.take (i+1))=val (l.take i)+B ^ i*l.getD i 0:=by
  rcases zN i l.length with h | h
  .exact q1c l i h
  .rw [q0F l (i+1) Oq,q0F l i h,q4h h]; simp
 rw [hv,wZ,xB]
 constructor
 .rintro ⟨a,b⟩; exact ⟨a,ω⟩
 .rintro ⟨a,b⟩; exact ⟨a,.inr b⟩
def od (m:Int):Int:=m / (2:Int) ^ tz m.natAbs
def q0L (k:Nat):0 < (2:Int) ^ k:=by rw [<- q0N]; exact_mod_cast q0E k
def natAbs_pow (k:Nat):((2:Int) ^ k).natAbs=2 ^ k:=by rw [<- q0N]; rfl
def q0G (m:Int) (k:Nat):(m*(2:Int) ^ k).natAbs=m.natAbs*2 ^ k:=by rw [Int.natAbs_mul,natAbs_pow]
def q1K (m:Int):od m*(2:Int) ^ tz m.natAbs=m:=by
 unfold od
 by_cases h:m=0
 .subst h; simp
 .obtain ⟨q,hq,he⟩:=q2f (n:=m.natAbs) Oq;refine Int.ediv_mul_cancel ?_;rw [<- q0N];exact Int.ofNat_dvd_left.2 ⟨q,by rw [zI]; exact he⟩
def q18:od 0=0:=by simp [od]
def q39 {m:Int} (h:m≠0):od m≠0:=λh0=>h (by rw [<- q1K m,h0]; simp)
def q6G (m:Int):(od m).natAbs*2 ^ tz m.natAbs=m.natAbs:=by
 rw [<- q0G,q1K]
def qdt {m:Int} (h:m≠0):(od m).natAbs % 2=1:=by
 obtain ⟨q,hq,he⟩:=q2f (n:=m.natAbs) Oq;have:=xU (q0E _) ((q6G m).trans he);rw [this]; exact hq
def qmv {m o:Int} {k:Nat} (ho:o.natAbs % 2=1) (h:m=o*(2:Int) ^ k):od m=o/\tz m.natAbs=k:=by
 have h1:tz m.natAbs=k:=q6V ho (by rw [h,q0G]);refine ⟨?_,h1⟩;unfold od;rw [h1,h,w4 _ (wE (q0L k))]
def qhI {m:Int} (k:Nat):od (m*(2:Int) ^ k)=od m:=by
 by_cases h:m=0
 .subst h; simp
 .refine (qmv (k:=tz m.natAbs+k) (qdt h) ?_).1;rw [wW,<- vG,q1K]
def q21 (m:Int):decide (od m < 0)=decide (m < 0):=by
 have h1:=q1K m;have h2:=q0L (tz m.natAbs);rw [decide_eq_decide]
 constructor
 .intro h; rw [<- h1]; exact xW h h2
 .intro h
  rcases Int.lt_or_le (od m) 0 with h3 | h3
  .exact h3
  .have:=Int.mul_nonneg h3 (Int.le_of_lt h2);omega
def q9g {m:Int} (h:m≠0):bl (od m).natAbs+tz m.natAbs=bl m.natAbs:=by
 have:=q1F (n:=(od m).natAbs) (by have:=q39 h; omega) (tz m.natAbs);rw [q6G] at this;exact this.symm
def q7e (a:Int) (k:Nat):shI (a*(2:Int) ^ k) (-(k:Int))=a:=by
 unfold shI
 split
 .rename_i h0;have:k=0:=ω
  subst this; simp
 .rw [show (- -(k:Int)).toNat=k by omega];exact w4 _ (wE (q0L k))
def qrb (m:Int):shI (m.natAbs:Int) (-((tz m.natAbs:Nat):Int))=((od m).natAbs:Nat):=by
 have h1:=q6G m;generalize tz m.natAbs=k at *;rw [<- h1,wJ,q0N,q7e]
def qmT (m:Int):shI m (-((tz m.natAbs:Nat):Int))=od m:=by
 have h1:=q1K m;generalize tz m.natAbs=k at *;generalize od m=q at *;rw [<- h1,q7e]
def dyE (V:Int):Int:=if V=0 then 0 else (tz V.natAbs:Int)-65536
def q0Z (V:Int):Prop:=bl V.natAbs<=131072
def mkV (m e:Int):Option Int:=if m=0 then some 0 else if -65536<=e+tz m.natAbs/\e+bl m.natAbs<=65536 then some (od m*(2:Int) ^ (e+tz m.natAbs+65536).toNat) else none
def q1R (e:Int):mkV 0 e=some 0:=by simp [mkV]
def q4t {m e V:Int} (hm:m≠0) (h:mkV m e=some V) : -65536<=e+tz m.natAbs/\e+bl m.natAbs<=65536/\V=od m*(2:Int) ^ (e+tz m.natAbs+65536).toNat:=by
 unfold mkV at h;rw [if_neg hm] at h
 split at h
 .rename_i hc; exact ⟨hc.1,hc.2,(zE.inj h).symm⟩
 .cases h
def q43 {m e V:Int} (h:mkV m e=some V):od V=od m/\(m≠0->V≠0/\dyE V=e+tz m.natAbs)/\(m=0->V=0)/\q0Z V:=by
 by_cases hm:m=0
 .subst hm;rw [q1R] at h;obtain rfl:=zE.inj h;exact ⟨rfl,λh=>absurd rfl h,λ_=>rfl,by simp [q0Z,q0m]⟩
 .obtain ⟨h1,h2,h3⟩:=q4t hm h;obtain ⟨h4,h5⟩:=qmv (qdt hm) h3;have h6:V≠0:=λh0=>by
   rw [h0,q18] at h4; exact q39 hm h4.symm
  refine ⟨h4,λ_=>⟨h6,?_⟩,λh=>absurd h hm,?_⟩
  .unfold dyE; rw [if_neg h6,h5]; omega
  .unfold q0Z;have h7:=q9g h6;have h8:=q9g hm;rw [h4,h5] at h7;omega
def q1S {m e:Int} (k:Nat):mkV (m*(2:Int) ^ k) e=mkV m (e+k):=by
 by_cases hm:m=0
 .subst hm; simp [mkV]
 .have hm':m*(2:Int) ^ k≠0:=Int.mul_ne_zero hm (wE (q0L k));unfold mkV;rw [if_neg hm,if_neg hm',q0G,qjU Oq,q1F Oq,qhI];have e1:e+((tz m.natAbs+k:Nat):Int)=e+k+tz m.natAbs:=ω
  have e2:e+((bl m.natAbs+k:Nat):Int)=e+k+bl m.natAbs:=ω
  rw [e1,e2]
def q23 {V:Int} (h:q0Z V):mkV V (-65536)=some V:=by
 by_cases h0:V=0
 .subst h0; exact q1R _
 .unfold mkV q0Z at *;rw [if_neg h0,if_pos ω];rw [show (-65536+(tz V.natAbs:Int)+65536).toNat=tz V.natAbs by omega,q1K]
def qa9 {V:Int} (h:q0Z V):mkV (od V) (dyE V)=some V:=by
 by_cases h0:V=0
 .subst h0; rw [q18]; exact q1R _
 .have h1:=q1S (m:=od V) (e := -65536) (tz V.natAbs);rw [q1K,q23 h] at h1;unfold dyE;rw [if_neg h0,h1,Int.add_comm]; rfl
def q22 {V E:Int} (hE : -65536<=E) (hv:E<=dyE V):od V*(2:Int) ^ (dyE V-E).toNat*(2:Int) ^ (E+65536).toNat=V:=by
 by_cases h0:V=0
 .subst h0; rw [q18]; simp
 .unfold dyE at *;rw [if_neg h0] at *;rw [vG,<- wW,show ((tz V.natAbs:Int)-65536-E).toNat+(E+65536).toNat=tz V.natAbs by omega,q1K]
def q4u {m V E:Int} (hE : -65536<=E) (h:m*(2:Int) ^ (E+65536).toNat=V):mkV m E=mkV V (-65536):=by
 rw [<- h,q1S]; congr 1; omega
def q8P {V:Int} : -65536<=dyE V:=by unfold dyE; split <;> omega
def q6M {V:Int} (h:q0Z V):dyE V+bl (od V).natAbs<=65536:=by
 unfold dyE q0Z at *
 split
 .rename_i h0; subst h0; rw [q18]; simp [q0m]
 .rename_i h0; have:=q9g h0; omega
def q26 {V:Int} (h:q0Z V):bl (od V).natAbs<=131072:=by
 by_cases h0:V=0
 .subst h0; rw [q18]; simp [q0m]
 .have:=q9g h0; unfold q0Z at h; omega
def qdu (V:Int):od (-V) = -od V:=by
 by_cases h0:V=0
 .subst h0; simp [q18]
 .refine (qmv (k:=tz V.natAbs) (by rw [wN]; exact qdt h0) ?_).1;rw [wV,q1K]
def q92 (V:Int):dyE (-V)=dyE V:=by unfold dyE; simp [Int.neg_eq_zero]
def qi3 {V:Int} (h:q0Z V):q0Z (-V):=by unfold q0Z at *; rwa [wN]
def qeF (a b:Int):mkV (od a*od b) (dyE a+dyE b)=mkV (a*b) (-131072):=by
 by_cases ha:a=0
 .subst ha; rw [q18]; simp [mkV]
 .by_cases hb:b=0
  .subst hb; rw [q18]; simp [mkV]
  .have:a*b=od a*od b*(2:Int) ^ (tz a.natAbs+tz b.natAbs):=by
    rw [wW];have h1:=q1K a;have h2:=q1K b;generalize (2:Int) ^ tz a.natAbs=x at *;generalize (2:Int) ^ tz b.natAbs=y at *;generalize od a=p at *;generalize od b=q at *;rw [<- h1,<- h2];simp only [vG,Int.mul_left_comm,Int.mul_comm]
   rw [this,q1S];unfold dyE;rw [if_neg ha,if_neg hb]; congr 1; omega
def rq (mode:Int) (neg:Bool) (N D:Nat):Nat :=
 if N % D=0 then N / D
 else if mode=1 then (if neg then N / D+1 else N / D)
 else if mode=2 then (if neg then N / D else N / D+1)
 else if mode=3 then N / D
 else if D < 2*(N % D)\/(2*(N % D)=D/\N / D % 2=1) then N / D+1 else N / D
def lgq (N D:Nat):Int:=(bl (N*2 ^ bl D / D):Int)-1-bl D
def rat (mode:Int) (neg:Bool) (N D:Nat) (q:Int):Nat:=rq mode neg (N*2 ^ (-q).toNat) (D*2 ^ q.toNat)
def sb (neg:Bool) (x:Nat):Nat:=if neg then x+9223372036854775808 else x
def q6f (mode:Int) (neg:Bool):Nat:=if mode=3\/(mode=1/\neg=false)\/(mode=2/\neg=true) then sb neg 9218868437227405311 else sb neg 9218868437227405312
def q4g (mode:Int) (neg:Bool) (n:Nat) (q:Int):Nat :=
 if n < 4503599627370496 then sb neg n else if 2047<=q+1075 then q6f mode neg else sb neg ((q+1075).toNat*4503599627370496+(n-4503599627370496))
def fin (mode:Int) (neg:Bool) (n:Nat) (q:Int):Nat:=if n=9007199254740992 then q4g mode neg 4503599627370496 (q+1) else q4g mode neg n q
def qeT (N D:Nat):Int:=max (lgq N D-52) (-1074)
def rF (mode:Int) (neg:Bool) (N D:Nat):Nat:=fin mode neg (rat mode neg N D (qeT N D)) (qeT N D)
def ofF (f:Nat):Option Int :=
 if f / 4503599627370496 % 2048=2047 then none
 else if f / 4503599627370496 % 2048=0 then some (sgn (decide (9223372036854775808<=f)) (f % 4503599627370496)*(2:Int) ^ 64462)
 else some (sgn (decide (9223372036854775808<=f)) (4503599627370496+f % 4503599627370496)*(2:Int) ^ (64461+f / 4503599627370496 % 2048))
def qvQ {q b:Nat} (hq:q≠0) (hb:b < 2):bl (2*q+b)=bl q+1:=by
 have:=qbQ (n:=2*q+b) (k:=1) Oq;rw [this,show (2*q+b) / 2 ^ 1=q by omega]; omega
def qnM {N D:Nat} (hD:0 < D) (h:D<=N):bl (N*2 / D)=bl (N / D)+1:=by
 have h1:=vQ N D;have h2:=zW N hD;have h3:N / D≠0:=by have:=wP h hD; omega
 have h4:N*2 / D=2*(N / D)+2*(N % D) / D:=by
  have e:N*2=2*(N % D)+D*(2*(N / D)):=by
   have:D*(2*(N / D))=2*(D*(N / D)):=by rw [vO]
   omega
  rw [e,vV _ _ hD]; omega
 rw [h4];refine qvQ h3 ?_;rw [xJ hD]; omega
def qbp {N D:Nat} (hD:0 < D) (h:D<=N):∀ k,bl (N*2 ^ k / D)=bl (N / D)+k
 | 0=>by simp
 | k+1=>by
  have h2:D<=N*2 ^ k:=zL h (xD _ (q0E k));rw [zF,<- zB,qnM hD h2,qbp hD h k]; omega
def qeR {N D k:Nat} (hD:0 < D) (h:D<=N*2 ^ k):lgq N D=(bl (N*2 ^ k / D):Int)-1-k:=by
 have hN:N≠0:=by rintro rfl; simp at h; omega
 have h1:D<=N*2 ^ bl D:=zL (y8 (q27 D)) (wF _ Oq);have a:=qbp hD h (bl D);have b:=qbp hD h1 k;rw [zB,<- zJ] at a b;rw [wG k] at a;unfold lgq; omega
def qeQ {N D c:Nat} (hN:0 < N) (hD:0 < D) (hc:0 < c):lgq (N*c) (D*c)=lgq N D:=by
 have h1:D<=N*2 ^ bl D:=zL (y8 (q27 D)) (wF _ hN);have h2:D*c<=N*c*2 ^ bl D:=by rw [yE]; exact zK _ h1
 rw [qeR (zS hD hc) h2,qeR hD h1,yE,xK _ _ hc]
def q33 {mode:Int} {neg:Bool} {N D c:Nat} (hc:0 < c):rq mode neg (N*c) (D*c)=rq mode neg N D:=by
 have e1:(N*c % (D*c)=0)=(N % D=0):=by
  rw [xL,xB]; simp only [eq_iff_iff]; constructor
  .rintro (h | h) <;> omega
  .exact λh=>.inl h
 have e2:(D*c < 2*(N*c % (D*c)))=(D < 2*(N % D)):=by
  rw [xL,<- zB]; simp only [eq_iff_iff];exact Nat.mul_lt_mul_right hc
 have e3:(2*(N*c % (D*c))=D*c)=(2*(N % D)=D):=by
  rw [xL,<- zB]; simp only [eq_iff_iff];exact Nat.mul_left_inj Oq
 unfold rq;simp only [e1,e2,e3,xK _ _ hc]
def q38 {mode:Int} {neg:Bool} {N D c:Nat} (hN:0 < N) (hD:0 < D) (hc:0 < c):rF mode neg (N*c) (D*c)=rF mode neg N D:=by
 unfold rF rat qeT;rw [qeQ hN hD hc,yE N c,yE D c,q33 hc]
def q6d {mode:Int} {neg:Bool} {N D N' D':Nat} (hN:0 < N) (hD:0 < D) (hN':0 < N') (hD':0 < D') (h:N*D'=N'*D):rF mode neg N D=rF mode neg N' D':=by
 rw [<- q38 (c:=D') hN hD hD',h,zI D D',q38 hN' hD' hD]
def qtG {N D:Nat} (e:Int) (hD:0 < D) (h:D≤N):lgq (N*2 ^ e.toNat) (D*2 ^ (-e).toNat)=e+bl (N / D)-1:=by
 have h1:D*2 ^ (-e).toNat≤N*2 ^ e.toNat*2 ^ (-e).toNat:=Nat.mul_le_mul_right _ (Nat.le_trans h (Nat.le_mul_of_pos_right _ (q0E _)));rw [qeR (Nat.mul_pos hD (q0E _)) h1,Nat.mul_div_mul_right _ _ (q0E _),qbp hD h];omega
def qm7 {mode:Int} {neg:Bool} {N D:Nat} (e q:Int):rat mode neg (N*2 ^ e.toNat) (D*2 ^ (-e).toNat) q=rq mode neg (N*2 ^ (e-q).toNat) (D*2 ^ (q-e).toNat):=by
 unfold rat;rw [zB,zB,<- zJ,<- zJ]
 rcases w9 q e with h | h
 .have e1:e.toNat+(-q).toNat=(e-q).toNat+((-e).toNat+q.toNat):=ω
  have e2:(q-e).toNat=0:=ω
  rw [e1,e2,yS,vN,zJ 2 (e-q).toNat,<- zB];exact q33 (q0E _)
 .have e1:(-e).toNat+q.toNat=(q-e).toNat+(e.toNat+(-q).toNat):=ω
  have e2:(e-q).toNat=0:=ω
  rw [e1,e2,yS,vN,zJ 2 (q-e).toNat,<- zB];exact q33 (q0E _)
def q34 {mode:Int} {neg:Bool} {N D:Nat} (h:N % D=0):rq mode neg N D=N / D:=by unfold rq; rw [if_pos h]
def qry {mode:Int} {neg:Bool} {N:Nat}:rq mode neg N 1=N:=by rw [q34 (Nat.mod_one N),vZ]
def qrz {mode:Int} {neg:Bool} {N D:Nat}:rq mode neg N D<=N / D+1:=by unfold rq; (repeat' split) <;> omega
def rE (mode:Int) (neg:Bool) (N D:Nat) (e:Int):Nat:=rF mode neg (N*2 ^ e.toNat) (D*2 ^ (-e).toNat)
def qbj {mode:Int} {neg:Bool} {N D:Nat} {e:Int} (hD:0 < D) (h:D<=N) :
  rE mode neg N D e=fin mode neg (rq mode neg (N*2 ^ (e-max (e+bl (N / D)-53) (-1074)).toNat) (D*2 ^ (max (e+bl (N / D)-53) (-1074)-e).toNat)) (max (e+bl (N / D)-53) (-1074)):=by
 unfold rE rF qeT;rw [qtG e hD h,qm7,show e+(bl (N / D):Int)-1-52=e+bl (N / D)-53 by omega]
def q97 (N D k:Nat):N / (D*2 ^ k)=N / D / 2 ^ k:=(xH N D (2 ^ k)).symm
def qoQ (N D k:Nat):N % (D*2 ^ k)=D*(N / D % 2 ^ k)+N % D:=by rw [xZ]; omega
def q9R (N D k:Nat):Int:=if 0 < k/\N / D / 2 ^ (k-1) % 2=1 then (if N % D≠0\/N / D % 2 ^ (k-1)≠0 then 1 else 0) else -1
def upS (mode:Int) (neg:Bool) (half:Int) (odd:Bool):Bool:=if mode=1 then neg else if mode=2 then !neg else if mode=3 then false else (decide (0 < half) || (decide (half=0) && odd))
def qm1 {mode:Int} {neg:Bool} {N D k:Nat} (hD:0 < D) (hk:N % D≠0->0 < k):rq mode neg N (D*2 ^ k) =
  N / D / 2 ^ k+(if (N / D % 2 ^ k≠0\/N % D≠0)/\upS mode neg (q9R N D k) (decide (N / D / 2 ^ k % 2=1))=true then 1 else 0):=by
 have h2:=zW N hD
 rcases yF k with h0 | h0
 .subst h0;have hr:N % D=0:=by
   rcases yF (N % D) with h | h
   .exact h
   .have:=hk ω; omega
  rw [yS,vN,q34 hr,Nat.mod_one,hr]; simp
 have hp:2 ^ k=2 ^ (k-1)*2:=by rw [<- zF]; congr 1; omega
 have hp0:=q0E (k-1);have hs:=xZ (x:=N / D) (a:=2 ^ (k-1)) (b:=2);rw [<- hp] at hs;have hs':=zW (N / D) hp0;have hb2:N / D / 2 ^ (k-1) % 2 < 2:=zW _ Oq;unfold rq q9R;rw [q97,qoQ];generalize N / D / 2 ^ k=Q;simp only [h0,true_and];generalize N / D % 2 ^ k=s at *;generalize N / D % 2 ^ (k-1)=s' at *;generalize N / D / 2 ^ (k-1) % 2=b at *;generalize N % D=r at *;rw [hp];generalize 2 ^ (k-1)=h at *;have e0:(D*s+r=0)=(s=0/\r=0):=by
  rw [eq_iff_iff,wZ,xB]
  constructor
  .rintro ⟨a | a,c⟩
   .omega
   .exact ⟨a,c⟩
  .rintro ⟨a,c⟩; exact ⟨.inr a,c⟩
 have e1:D*(h*2)=2*(D*h):=by rw [zI h 2,vO]
 have key:∀ a b:Nat,a < b->D*a+D<=D*b:=λa b hab=>by rw [<- wD]; exact zQ _ hab
 simp only [e0,e1]
 by_cases hz:s=0/\r=0
 .obtain ⟨rfl,rfl⟩:=hz;simp
 .have hz':s≠0\/r≠0:=ω
  simp only [hz,hz',if_false,true_and];unfold upS
  by_cases m1:mode=1
  .simp only [m1,if_true]; cases neg <;> rfl
  by_cases m2:mode=2
  .simp only [m1,m2,if_false,if_true]; cases neg <;> rfl
  by_cases m3:mode=3
  .simp only [m1,m2,m3,if_false,if_true]; rfl
  simp only [m1,m2,m3,if_false]
  by_cases hb:b=1
  .subst hb;have hss:D*s=D*h+D*s':=by rw [hs,vN,wG,zC]
   simp only [if_true]
   by_cases hc:r≠0\/s'≠0
   .have:0 < D*s'+r:=by
     rcases hc with hc | hc
     .omega
     .have:=zS hD (show 0 < s' by omega); omega
    rw [if_pos (.inl Oq),if_pos hc]; simp
   .have hr0:r=0:=ω
    have hs0:s'=0:=ω
    subst hr0; subst hs0;rw [xG,vP] at hss;rw [hss]
    by_cases ho:Q % 2=1 <;> simp [ho]
  .have hsl:s=s':=by
    have:b=0:=ω
    rw [hs,this]; simp
   have:=key s h Oq;have c1:¬ (2*(D*h) < 2*(D*s+r)):=ω
   have c2:¬ (2*(D*s+r)=2*(D*h)):=ω
   simp [c1,c2,hb]
def qhD {mode:Int} {neg:Bool} {N D:Nat} {e q:Int} (hD:0 < D) (h:D<=N) (hq:e+bl (N / D)-53<=q):rq mode neg (N*2 ^ (e-q).toNat) (D*2 ^ (q-e).toNat)<=9007199254740992:=by
 have h53:(2:Nat) ^ 53=9007199254740992:=by decide
 refine zL qrz ?_;rw [q97];have h1:=qbp hD h (e-q).toNat;have h2:=q27 (N*2 ^ (e-q).toNat / D);rw [h1] at h2
 rcases w9 q e with hqe | hqe
 .rw [show (q-e).toNat=0 by omega,yS,vZ];have:2 ^ (bl (N / D)+(e-q).toNat)<=2 ^ 53:=zM Oq Oq;omega
 .have:N*2 ^ (e-q).toNat / D / 2 ^ (q-e).toNat < 2 ^ 53:=by
   rw [xJ (q0E _),<- zJ];exact vR h2 (zM Oq Oq)
  omega
def qmY {neg:Bool} {x:Nat} (h:x < 9223372036854775808):sb neg x < 18446744073709551616:=by unfold sb; split <;> omega
def qmo {mode:Int} {neg:Bool}:q6f mode neg < 18446744073709551616:=by unfold q6f; split <;> exact qmY Oq
def qez {mode:Int} {neg:Bool} {n:Nat} {q:Int} (hn:n < 9007199254740992):q4g mode neg n q < 18446744073709551616:=by
 unfold q4g
 split
 .exact qmY Oq
 .split
  .exact qmo
  .refine qmY ?_;have:(q+1075).toNat<=2046:=ω
   omega
def qtg {mode:Int} {neg:Bool} {n:Nat} {q:Int} (hn:n<=9007199254740992):fin mode neg n q < 18446744073709551616:=by
 unfold fin
 split
 .exact qez Oq
 .exact qez Oq
def qsP {mode:Int} {neg:Bool} {N D:Nat} {e:Int} (hD:0 < D) (h:D<=N):rE mode neg N D e < 18446744073709551616:=by
 rw [qbj hD h]; exact qtg (qhD hD h Oq)
def q3h {mode:Int} {neg:Bool} {n:Nat} {q:Int} (hn:n < 9007199254740992) (hq : -1074<=q) (hq2:q+1075 < 2047) (h:q = -1074\/4503599627370496<=n) :
  ofF (q4g mode neg n q)=some (sgn neg n*(2:Int) ^ (q+65536).toNat):=by
 unfold q4g
 by_cases h1:n < 4503599627370496
 .rw [if_pos h1];have hq':q = -1074:=ω
  subst hq';unfold ofF sb;cases neg
  .rw [if_neg (by simp; omega),if_pos (by simp; omega)];simp only [w7,if_false];rw [decide_eq_false Oq,zH h1]; rfl
  .rw [if_neg (by simp; omega),if_pos (by simp; omega)];simp only [if_true];rw [decide_eq_true Oq,show (n+9223372036854775808) % 4503599627370496=n by omega]; rfl
 .rw [if_neg h1,if_neg ω];obtain ⟨x,hx⟩:∃ x:Nat,x=(q+1075).toNat:=⟨_,rfl⟩;rw [<- hx];have hx1:1<=x:=ω
  have hx2:x<=2046:=ω
  have hqx:(q+65536).toNat=64461+x:=ω
  rw [hqx];unfold ofF sb;cases neg
  .simp only [w7,if_false];have e1:(x*4503599627370496+(n-4503599627370496)) / 4503599627370496 % 2048=x:=ω
   rw [e1,if_neg Oq,if_neg Oq,decide_eq_false Oq,show 4503599627370496+(x*4503599627370496+(n-4503599627370496)) % 4503599627370496=n by omega]
  .simp only [if_true];have e1:(x*4503599627370496+(n-4503599627370496)+9223372036854775808) / 4503599627370496 % 2048=x:=ω
   rw [e1,if_neg Oq,if_neg Oq,decide_eq_true Oq,show 4503599627370496+(x*4503599627370496+(n-4503599627370496)+9223372036854775808) % 4503599627370496=n by omega]
def qaZ {mode:Int} {neg:Bool} {N D M:Nat} {f:Int} (hD:0 < D) (hM:0 < M) (hb:bl M<=53) (h1 : -1074<=f) (h2:f+bl M<=1024) (h:N*2 ^ (-f).toNat=D*M*2 ^ f.toNat) :
  ofF (rF mode neg N D)=some (sgn neg M*(2:Int) ^ (f+65536).toNat)/\rF mode neg N D < 18446744073709551616:=by
 have hN:0 < N:=by
  rcases yF N with h0 | h0
  .subst h0;have a:=zS (zS hD hM) (q0E f.toNat);omega
  .exact h0
 have e0:rF mode neg N D=rE mode neg M 1 f:=by
  unfold rE;refine q6d hN hD (zS hM (q0E _)) (zS Oq (q0E _)) ?_;rw [z6,h,zI D M,yE]
 refine ⟨?_,by rw [e0]; exact qsP Oq Oq⟩;rw [e0,qbj Oq Oq,vZ];obtain ⟨q,hq⟩:∃ q:Int,q=max (f+bl M-53) (-1074):=⟨_,rfl⟩;rw [<- hq,show (q-f).toNat=0 by omega,yS,vN,qry];have hbn:=q1F (n:=M) Oq (f-q).toNat;obtain ⟨n,hn⟩:∃ n,n=M*2 ^ (f-q).toNat:=⟨_,rfl⟩;rw [<- hn] at hbn ⊢;have hn53:n < 2 ^ 53:=q17 Oq;have h53:(2:Nat) ^ 53=9007199254740992:=by decide
 unfold fin;rw [if_neg Oq,q3h Oq Oq Oq ?_]
 .rw [hn]
  congr 1
  have:sgn neg (M*2 ^ (f-q).toNat)=sgn neg M*(2:Int) ^ (f-q).toNat:=by
   rw [<- q0N]; cases neg <;> simp [sgn,wV]
  rw [this,vG,<- wW]
  congr 2; omega
 .rcases w9 (f+bl M-53) (-1074) with hc | hc
  .left; omega
  .right
   have hne:n≠0:=by rw [hn]; exact Nat.ne_of_gt (zS hM (q0E _))
   have:=q7G hne;have h52:(2:Nat) ^ 52=4503599627370496:=by decide
   rw [show bl n-1=52 by omega] at this;omega
end Go.Sp
namespace Go.E
open Go
structure Fam where
 p:(Nat->Prop)->Value->World->Prop
 kp:∀ {D:Nat->Prop} {w w':World} {v:Value},Kp D w w'->p D v w->p D v w'
 sub:∀ {D D':Nat->Prop} {w:World} {v:Value},(∀ k,k < w.heap.size->D k->D' k)->p D v w->p D' v w
def In (G:Fam) (D:Nat->Prop) (v:Value) (w:World):Prop:=G.p D v w
section
variable {G:Fam} {D D':Nat->Prop} {v:Value} {w w':World}
def In.kp (h:In G D v w) (k:Kp D w w'):In G D v w':=G.kp k h
def In.sub (h:In G D v w) (k:∀ k,k < w.heap.size->D k->D' k):In G D' v w:=G.sub k h
end
section
variable {G:Fam} {D:Nat->Prop} {L:List Nat} {v:Value} {w w0 w1 w2:World} {g:Nat}
end
section
variable {w:World} {g t:Nat} {a b c d e f h i:Value} {l:List Value}
end
end Go.E
namespace Go.Proofs.YtbjoghfmhgadkaaGreatDoor
open Go Go.E Go.Sp
def fU (l:List Nat):Fam:=⟨λD v w=>∃ A n c,v=.slice A n c/\U32 w D A n c l,λk ⟨A,n,c,e,h⟩=>⟨A,n,c,e,h.kp k⟩,λk ⟨A,n,c,e,h⟩=>⟨A,n,c,e,h.sub k⟩⟩
def fV (V:Int):Fam:=⟨λD v w=>∃ s A n c,v=.agg #[.bool false,.bool s,.slice A n c,.int .i64 (dyE V)]/\Big w D s A n c (od V)/\q0Z V,λk ⟨s,A,n,c,e,h,o⟩=>⟨s,A,n,c,e,h.kp k,o⟩,λk ⟨s,A,n,c,e,h,o⟩=>⟨s,A,n,c,e,h.sub k,o⟩⟩
section
variable {D:Nat->Prop} {v:Value} {w w':World} {z V m e:Int} {l:List Nat} {s:Bool} {A:Option Addr} {n c:Nat}
end
end Go.Proofs.YtbjoghfmhgadkaaGreatDoor
namespace Go.E
open Go.Proofs.YtbjoghfmhgadkaaGreatDoor Go.Sp
section
variable {D:Nat->Prop} {v:Value} {w w':World} {z V m e:Int} {l:List Nat} {s:Bool} {A:Option Addr} {n c:Nat}
end
end Go.E
namespace Go.Proofs.YtbjoghfmhgadkaaGreatDoor
open Go Go.E Go.Sp
section
variable {D:Nat->Prop} {v:Value} {w w':World} {z V m e:Int} {l:List Nat} {s:Bool} {A:Option Addr} {n c:Nat}
end
section
variable {D:Nat->Prop} {v v':Value} {w:World} {a b:Int}
end
end Go.Proofs.YtbjoghfmhgadkaaGreatDoor
namespace Go.E
open Go Go.RowKit
def q01 (vs:List Value):List Value:=vs.flatMap λv=>v.cells.toList
section
variable {α:Type} {G:α->Fam} {D D':Nat->Prop} {sz:Nat} {w w':World} {l:List α} {vs:List Value}
def q4v {vs:List Value} {sz:Nat} (hv:∀ v ∈ vs,v.cells.size=sz) {i j:Nat} {v:Value} (hi:vs[i]?=some v) (hj:j < sz):(q01 vs)[i*sz+j]?=v.cells[j]?:=by
 induction vs generalizing i with
 | nil=>simp at hi
 | cons u vs ih =>
  have h1:=hv u z9;unfold q01 at *;rw [vJ];cases i with
  | zero =>
   simp at hi; subst hi;rw [List.getElem?_append_left (by simp; omega)]; simp
  | succ i =>
   rw [List.getElem?_append_right (by rw [zX,h1,xT]; omega),zX,h1];have:=ih (λx hx=>hv x (zY _ hx)) (i:=i) (by simpa using hi);rw [<- this]; congr 1; rw [xT]; omega
end
def fSc {α:Type} (f:α->Value) (l:List α):Fam :=
 ⟨λD v w=>∃ A n c,v=.slice A n c/\Row w D 1 A n c (l.map f),λk ⟨A,n,c,e,h⟩=>⟨A,n,c,e,h.kp k⟩,λk ⟨A,n,c,e,h⟩=>⟨A,n,c,e,h.sub k⟩⟩
section
variable {α:Type} {G:α->Fam} {f:α->Value} {D D':Nat->Prop} {sz:Nat} {w w':World} {l:List α} {vs:List Value} {A:Option Addr} {n c:Nat} {v:Value}
def In.sc_row (h:In (fSc f l) D (.slice A n c) w):Row w D 1 A n c (l.map f):=by
 obtain ⟨_,_,_,e,h⟩:=h; cases e; exact h
def In.sc_len (h:In (fSc f l) D (.slice A n c) w):l.length=n:=by have:=h.sc_row.len; simpa using this
def In.sc_nil:In (fSc f ([]:List α)) D (.slice none 0 0) w:=⟨none,0,0,rfl,Row.nil _ _ _⟩
def qjv {w:World} {p:Addr}:∀ (cs:List Value) (i:Nat),(∀ j u,cs[j]?=some u->w.cell? (p.add (i+j))=some u)->q1I w p i cs.length=some cs
 | [],_,_=>rfl
 | c :: cs,i,h=>by
  rw [yA,rd_s,show w.cell? (p.add i)=some c from h 0 c rfl,qjv cs (i+1) (λj u hu=>by rw [show i+1+j=i+(j+1) by omega]; exact h (j+1) u (by simpa using hu))]; rfl
variable {T B:Nat}
end
section
variable {P:Program} {w:World} {α:Type} {G:α->Fam}
end
end Go.E
namespace Go.Sp
def qbW (q r a b:Nat) (ha:a < 2) (hb:b < 2):(2*q+a) &&& (2*r+b)=2*(q &&& r)+(a*b):=by
 have hab:a*b < 2:=by
  rcases zN a 1 with h | h
  .rw [show a=0 by omega]; simp
  .rw [show a=1 by omega]; omega
 apply vW
 intro i;cases i with
 | zero =>
  rw [yZ,x9,x9,x9];have e1:(2*q+a) % 2=a:=ω
  have e2:(2*r+b) % 2=b:=ω
  have e3:(2*(q &&& r)+a*b) % 2=a*b:=ω
  rw [e1,e2,e3]
  rcases zN a 1 with h | h
  .rw [show a=0 by omega]; simp
  .rw [show a=1 by omega]; simp
 | succ i =>
  rw [yZ,vX,vX,vX];have e1:(2*q+a) / 2=q:=ω
  have e2:(2*r+b) / 2=r:=ω
  have e3:(2*(q &&& r)+a*b) / 2=q &&& r:=ω
  rw [e1,e2,e3,yZ]
def qiw {q n:Nat} (h:q < 2 ^ n):q &&& (2 ^ n-(q+1))=0:=by
 apply vW
 intro i;rw [yZ,Nat.testBit_two_pow_sub_succ h,Nat.zero_testBit];cases q.testBit i <;> simp
def iso:∀ {n x:Nat},0 < x->x < 2 ^ n->x &&& (2 ^ n-x)=2 ^ tz x
 | 0,x,h1,h2=>by simp at h2; omega
 | n+1,x,h1,h2=>by
  rw [zF] at h2
  by_cases ho:x % 2=1
  .rw [qaA ho];have hq:x / 2 < 2 ^ n:=ω
   have e1:x=2*(x / 2)+1:=ω
   have e2:2 ^ (n+1)-x=2*(2 ^ n-(x / 2+1))+1:=by rw [zF]; omega
   rw [e2];generalize hy:x / 2=y at *;rw [e1,qbW _ _ 1 1 Oq Oq,qiw hq]
  .have hq:x / 2 < 2 ^ n:=ω
   have e1:x=2*(x / 2)+0:=ω
   have e2:2 ^ (n+1)-x=2*(2 ^ n-x / 2)+0:=by rw [zF]; omega
   have ht:tz x=tz (x / 2)+1:=by
    have:=qjU (n:=x / 2) Oq 1
    rwa [show x / 2*2 ^ 1=x by omega] at this
   have ih:=iso (n:=n) (x:=x / 2) Oq hq;rw [ht,e2,zF,<- ih];generalize hy:x / 2=y at *;rw [e1,qbW _ _ 0 0 Oq ω]; omega
def qcw:List Nat:=[0,1,28,2,29,14,24,3,30,22,20,15,25,17,4,8,31,27,13,23,21,19,16,7,26,12,18,6,11,5,10,9]
def qlw:((List.range 32).all λk=>wY (qcw.getD (2 ^ k*125613361 % 4294967296 / 134217728) 99) k)=true:=by decide
def qlv {k:Nat} (h:k < 32):qcw.getD (2 ^ k*125613361 % 4294967296 / 134217728) 99=k:=by
 have:=qlw;rw [y7] at this;exact vT (this k (wQ.2 h))
end Go.Sp
namespace Go.Proofs.YtbjoghfmhgadkaaGreatDoor
open Go Go.E Go.Sp
def q5i (w:World):Prop:=∀ k,k < 32->w.cell? ⟨0,k,none⟩=some (.int .u8 ((qcw.getD k 99:Nat):Int))
def q5i.ext {w w':World} (h:q5i w) (k:Ext w w'):q5i w':=λi hi=>k.cell (D:=λ_=>True) trivial (h i hi)
def qvT:qcK Tryz.prog 273=some (32,1):=κ
def qlo {x:Nat} {w:World} (hT:q5i w) (hx0:0 < x) (hx:x < 4294967296) :
  Calls Tryz.prog 215 #[.int .u32 x] w λe w'=>e=.returned (.int .i64 (tz x:Nat))/\w=w':=by
 refine q57 Tryz.func215 rfl Tryz.ntmps215 κ ?_;refine Wz ?_;refine q9m λK0 hK0=>?_;have h0:((x:Int) == 0)=false:=by rw [beq0]; exact decide_eq_false Oq
 refine Wz ?_;refine q83 rfl (λhc=>by rw [h0] at hc; cases hc) (λhc=>qbZ (hK0 _ _ ?_));clear hK0;have ht:=q6W Oq hx;have hp:2 ^ tz x < 4294967296:=wU Oq ht;have e1:IntKind.u32.wrap (0-(x:Int))=((4294967296-x:Nat):Int):=by rw [q2W]; omega
 have e2:q0d .and .u32 (x:Int) ((4294967296-x:Nat):Int)=((2 ^ tz x:Nat):Int):=by
  rw [qbX hx ω];exact congrArg Nat.cast (iso (n:=32) hx0 hx)
 have e3:IntKind.u32.wrap (((2 ^ tz x:Nat):Int)*125613361)=((2 ^ tz x*125613361 % 4294967296:Nat):Int):=by rw [q2W]; omega
 have hi:2 ^ tz x*125613361 % 4294967296 / 134217728 < 32:=ω
 have e4:(0:Int)<=((2 ^ tz x*125613361 % 4294967296 / 134217728:Nat):Int)/\((2 ^ tz x*125613361 % 4294967296 / 134217728:Nat):Int) < (32:Nat):=ω
 have hg:=hT _ hi;rw [qlv ht] at hg;have e5:IntKind.i64.wrap ((tz x:Nat):Int)=((tz x:Nat):Int):=i64_in Oq Oq;refine q1H λK hK=>?_;simp -implicitDefEqProofs (disch:=omega) only [go_sem,Nat.reduceEqDiff,Nat.reduceAdd,↓reduceIte,e1,e2,e3,e4,qvT,hg,e5,ev];refine hK _ _ ?_; clear hK K;refine qjF ?_
 try simp only [q8n,qnR]
 refine ret1 rfl ⟨rfl,rfl⟩


def q1B {V:Int} (h:q0Z V) : -65536<=dyE V/\dyE V<=65536/\bl (od V).natAbs<=131072:=⟨q8P,by have:=q6M h; omega,q26 h⟩
end Go.Proofs.YtbjoghfmhgadkaaGreatDoor
namespace Go.Sp
def qdT (a k:Nat):shI (a:Int) (-(k:Int))=((a / 2 ^ k:Nat):Int):=by
 unfold shI
 split
 .rename_i h;have:k=0:=ω
  subst this; simp
 .rw [show (- -(k:Int)).toNat=k by omega,<- q0N]; rfl
def q3L {a:Nat}:(tz a=0/\a≠0) ↔ a % 2=1:=by
 constructor
 .rintro ⟨h1,h2⟩;obtain ⟨q,hq,he⟩:=q2f h2;rw [h1] at he; omega
 .intro h; exact ⟨qaA h,ω⟩
def q1M (l:List Int):Int:=l.foldl (·+·) 0
def q0c (l:List Int) (x:Int):q1M (l ++ [x])=q1M l+x:=by simp [q1M,List.foldl_append]
def q1w:q1M []=0:=rfl
def q5K (l:List Int) (i:Nat) (x:Int) (h:l[i]?=some x):q1M (l.take (i+1))=q1M (l.take i)+x:=by
 obtain ⟨hlt,he⟩:=yO.1 h;rw [xF hlt,q0c,he]
def qdG {K:Nat}:∀ (i:Nat) (l:List Int),(∀ x ∈ l,bl x.natAbs<=K)->(q1M (l.take i)).natAbs<=i*2 ^ K
 | 0,l,_=>by rw [List.take_zero]; exact Nat.zero_le _
 | i+1,l,h=>by
  have ih:=qdG i l h;cases hx:l[i]? with
  | none =>
   have:l.take (i+1)=l.take i:=by rw [yJ (by have:=xX.1 hx; omega),yJ (xX.1 hx)]
   rw [this,yH,z6]; exact zL ih (Nat.le_add_right _ _)
  | some x =>
   rw [q5K l i x hx,yH,z6];have h1:=q17 (h x (yR hx));refine zL (Int.natAbs_add_le _ _) ?_;exact Nat.add_le_add ih (y8 h1)
def q5J {K i:Nat} {l:List Int} (h:∀ x ∈ l,bl x.natAbs<=K) (hi:i<=1024):bl (q1M (l.take i)).natAbs<=K+11:=by
 refine q0O (yC (qdG i l h) ?_);have h2:i*2 ^ K<=1024*2 ^ K:=zK _ hi;have h3:2 ^ (K+11)=2 ^ K*2048:=by rw [zJ]
 have:=q0E K;omega
def qj3 {i:Nat} {l:List Int} (h:∀ x ∈ l,q0Z x) (hi:i<=1024):bl (q1M (l.take i)).natAbs<=131083:=q5J h hi
def q3r {m S:Int} {k:Nat} (h:m*(2:Int) ^ k=S):bl m.natAbs<=bl S.natAbs:=by
 rw [<- h,q0G];exact q0r (xD _ (q0E k))
end Go.Sp
namespace Go.E
open Go Go.Sp
section
variable {P:Program} {t:TypeId} {k':IntKind} {a b:Nat}
def qgj:q0q P .shr t (.int .u64 (a:Int)) (.int k' 52)=some (.int .u64 ((a / 4503599627370496:Nat):Int)):=by
 rw [q1t,if_neg ω];exact congrArg (λx=>some (Value.int .u64 x)) (q8K a 4503599627370496)
def qmQ:q0q P .shr t (.int .u64 (a:Int)) (.int k' 1)=some (.int .u64 ((a / 2:Nat):Int)):=by
 rw [q1t,if_neg ω];exact congrArg (λx=>some (Value.int .u64 x)) (q8K a 2)
def q3u (ha:a < 18446744073709551616):q0d .and .u64 (a:Int) 2047=((a % 2048:Nat):Int):=by
 have:=q3w ha (show 2047 < 18446744073709551616 by omega);rw [zV a 11] at this;exact this
def q7J (ha:a < 18446744073709551616):q0d .and .u64 (a:Int) 4503599627370495=((a % 4503599627370496:Nat):Int):=by
 have:=q3w ha (show 4503599627370495 < 18446744073709551616 by omega);rw [zV a 52] at this;exact this
def q1W (ha:a < 18446744073709551616):q0d .and .u64 (a:Int) 4294967295=((a % 4294967296:Nat):Int):=by
 have:=q3w ha (show 4294967295 < 18446744073709551616 by omega);rw [zV a 32] at this;exact this
def q7I (ha:a < 18446744073709551616):q0d .and .u64 (a:Int) 1=((a % 2:Nat):Int):=by
 have:=q3w ha (show 1 < 18446744073709551616 by omega);rw [zV a 1] at this;exact this
def qp1 (a k:Nat):a &&& 2 ^ k=if a.testBit k=true then 2 ^ k else 0:=by
 apply vW; intro i
 rw [yZ,yV]
 by_cases h:k=i
 .subst h; cases ht:a.testBit k <;> simp [yV]
 .simp only [h,decide_false,Bool.and_false]
  split <;> simp [yV,h]
def qiv (ha:a < 18446744073709551616):q0d .and .u64 (a:Int) 9223372036854775808=if 9223372036854775808<=a then 9223372036854775808 else 0:=by
 have:=q3w ha (show 9223372036854775808 < 18446744073709551616 by omega);have h2:a &&& 9223372036854775808=if 9223372036854775808<=a then 9223372036854775808 else 0:=by
  have key:=qp1 a 63;rw [vS] at key;rw [show (9223372036854775808:Nat)=2 ^ 63 by rfl,key]
  by_cases h:9223372036854775808<=a
  .rw [if_pos (decide_eq_true Oq),if_pos ω]
  .rw [if_neg (by rw [decide_eq_true_eq]; omega),if_neg ω]
 rw [h2] at this;rw [show (9223372036854775808:Int)=((9223372036854775808:Nat):Int) by rfl,this]
 split <;> rfl
def qdv (ha:a < 18446744073709551616):(q0d .and .u64 (a:Int) 9223372036854775808 != 0)=decide (9223372036854775808<=a):=by
 rw [qiv ha]
 split
 .rename_i h; rw [decide_eq_true h]; rfl
 .rename_i h; rw [decide_eq_false h]; rfl
def qkD (ha:a < 4503599627370496):q0d .or .u64 (a:Int) 4503599627370496=((4503599627370496+a:Nat):Int):=by
 have:=qbl (a:=a) (b:=4503599627370496) Oq Oq;have h2:=q1z (c:=a) (m:=1) (k:=52) Oq;rw [z6] at h2;rw [show a ||| 4503599627370496=a+4503599627370496 from h2] at this;rw [show (4503599627370496:Int)=((4503599627370496:Nat):Int) by rfl,this,wG]
def qdq (ha:a < 9223372036854775808):q0d .or .u64 (a:Int) 9223372036854775808=((a+9223372036854775808:Nat):Int):=by
 have:=qbl (a:=a) (b:=9223372036854775808) Oq Oq;have h2:=q1z (c:=a) (m:=1) (k:=63) Oq;rw [z6] at h2;rw [show a ||| 9223372036854775808=a+9223372036854775808 from h2] at this;rw [show (9223372036854775808:Int)=((9223372036854775808:Nat):Int) by rfl,this]
def q68 (h:a < 4096):q0q P .shl t (.int .u64 (a:Int)) (.int k' 52)=some (.int .u64 ((a*4503599627370496:Nat):Int)):=by
 have:=qdS (P:=P) (t:=t) (k':=k') (a:=a) (b:=52) Oq;rw [show a*2 ^ 52 % 18446744073709551616=a*4503599627370496 by omega] at this;exact this
def qdr (ha:a < 2048) (hb:b < 4503599627370496):q0d .or .u64 ((a*4503599627370496:Nat):Int) (b:Int)=((a*4503599627370496+b:Nat):Int):=by
 have:=qbl (a:=a*4503599627370496) (b:=b) Oq Oq;have h2:=q1z (c:=b) (m:=a) (k:=52) Oq;rw [this,vB,show b ||| a*4503599627370496=b+a*4503599627370496 from h2,wG]
end
attribute [go_sem high] qgj qmQ
end Go.E
namespace Go.Sp
open Go.E
def q0I (f:Nat):Prop:=f / 4503599627370496 % 2048≠2047
instance (f:Nat):Decidable (q0I f):=by unfold q0I; infer_instance
def q5V {m E:Int} (hE : -65536<=E) (hb:bl m.natAbs+(E+65536).toNat<=131072):mkV m E=some (m*(2:Int) ^ (E+65536).toNat):=by
 rw [q4u hE rfl];refine q23 ?_;unfold q0Z
 by_cases h:m=0
 .subst h; rw [vA]; exact Nat.zero_le _
 .rw [q0G,q1F ω]; exact hb
def q9G {f:Nat} (hf:q0I f):∃ V,ofF f=some V/\mkV (sgn (decide (9223372036854775808<=f)) (if f / 4503599627370496 % 2048=0 then f % 4503599627370496 else 4503599627370496+f % 4503599627370496)) (if f / 4503599627370496 % 2048=0 then -1074 else (f / 4503599627370496 % 2048:Nat)-1075)=some V:=by
 unfold q0I at hf;have hx:=zW (f / 4503599627370496) (show 0 < 2048 by omega);have hm:=zW f (show 0 < 4503599627370496 by omega);unfold ofF;rw [if_neg hf];generalize f / 4503599627370496 % 2048=x at *;generalize f % 4503599627370496=m at *
 split
 .refine ⟨_,rfl,?_⟩;have hb:bl m<=52:=q0O hm;rw [q5V Oq (by rw [q0h]; omega)]; rfl
 .refine ⟨_,rfl,?_⟩;have hb:bl (4503599627370496+m)<=53:=q0O (vR (show 4503599627370496+m < 9007199254740992 by omega) (yL _));rw [q5V Oq (by rw [q0h]; omega)];rw [show ((x:Int)-1075+65536).toNat=64461+x by omega]
def fR (mode V:Int):Nat:=if V=0 then 0 else rF mode (decide (V < 0)) V.natAbs (2 ^ 65536)
def fQ (mode a b:Int):Nat:=if a=0 then 0 else rF mode (decide (a < 0) != decide (b < 0)) a.natAbs b.natAbs
def rE_VK {mode V:Int} {neg:Bool} {K:Nat} (hK:K=65536) (h:V≠0):rE mode neg (od V).natAbs 1 (dyE V)=rF mode neg V.natAbs (2 ^ K):=by
 have h1:=q6G V;have h2:=q39 h;have ho:0 < (od V).natAbs:=ω
 have hd:dyE V=(tz V.natAbs:Int)-65536:=by unfold dyE; rw [if_neg h]
 have hV:0 < V.natAbs:=ω
 unfold rE;refine q6d (zS ho (q0E _)) (zS Nat.one_pos (q0E _)) hV (q0E _) ?_;generalize dyE V=e at *;generalize tz V.natAbs=k at *;rw [<- h1,z6,zB,zB,<- zJ,<- zJ]
 congr 2; omega
def rE_V {mode V:Int} {neg:Bool} (h:V≠0):rE mode neg (od V).natAbs 1 (dyE V)=rF mode neg V.natAbs (2 ^ 65536):=rE_VK (K:=65536) rfl h
def qm2 {mode:Int} {neg:Bool} {N D:Nat}:N / D<=rq mode neg N D:=by unfold rq; (repeat' split) <;> omega
def n_ge {mode:Int} {neg:Bool} {N D:Nat} {e q:Int} (hD:0 < D) (h:D<=N) (hq:q=e+bl (N / D)-53):4503599627370496<=rq mode neg (N*2 ^ (e-q).toNat) (D*2 ^ (q-e).toNat):=by
 refine zL ?_ qm2;rw [q97];have h1:=qbp hD h (e-q).toNat;have hp:=wP h hD;have hb:=q3s (n:=N / D) Oq;have h52:(2:Nat) ^ 52=4503599627370496:=by decide
 rw [<- h52,wM (q0E _),<- zJ];have hne:N*2 ^ (e-q).toNat / D≠0:=λh0=>by
  rw [h0,q0m] at h1; omega
 have h2:=q7G hne;rw [h1] at h2;rw [show 52+(q-e).toNat=bl (N / D)+(e-q).toNat-1 by omega];exact h2
def qm9 {mode:Int} {neg:Bool} {N D:Nat} {e:Int} (hD:0 < D) (h:D<=N) (ht:1024<=e+bl (N / D)-1):rE mode neg N D e=q6f mode neg:=by
 rw [qbj hD h];have hq:max (e+(bl (N / D):Int)-53) (-1074)=e+bl (N / D)-53:=ω
 rw [hq];have hn:=n_ge (mode:=mode) (neg:=neg) hD h (q:=e+bl (N / D)-53) rfl;unfold fin q4g
 split
 .rw [if_neg Oq,if_pos ω]
 .rw [if_neg Oq,if_pos ω]
end Go.Sp
namespace Go.Proofs.YtbjoghfmhgadkaaGreatDoor
open Go Go.E Go.Sp

end Go.Proofs.YtbjoghfmhgadkaaGreatDoor
namespace Go.E
open Go
end Go.E
namespace Go.Proofs.YtbjoghfmhgadkaaGreatDoor
open Go Go.E Go.Sp


section
variable {D:Nat->Prop} {v v':Value} {w:World} {x y:Nat} {l:List Nat}
end
section
variable {D:Nat->Prop} {v v':Value} {w:World} {x y:Nat} {a b:Int}
end
def qdU (s:Bool) (x k:Nat):sgn s (x*2 ^ k)=sgn s x*(2:Int) ^ k:=by
 cases s <;> simp [sgn,wV]
def q59:bl 1=1:=rfl
section
variable {D:Nat->Prop} {v v':Value} {w:World} {x y d:Nat} {a b:Int}
end
end Go.Proofs.YtbjoghfmhgadkaaGreatDoor
namespace Go.E
open Go
end Go.E
namespace Go.Proofs.YtbjoghfmhgadkaaGreatDoor
open Go Go.E Go.Sp
section
variable {D:Nat->Prop} {v v':Value} {w:World} {x y d:Nat} {a b:Int}
end
end Go.Proofs.YtbjoghfmhgadkaaGreatDoor
namespace Go.Sp
open Go.E
section
variable {p T U V v1 v0 q rest top u0:Nat}
def qoI (hU:U < (T+1)*p) (hV:(v1*B+v0)*p<=V) (hT:T=top*B+u0) (hr:rest+q*v1=top) (hc:rest*B+u0 < q*v0):U < q*V:=by
 have h1:T+1<=q*(v1*B+v0):=by
  rw [hT,<- hr,yH,zC,<- zB];generalize q*v1*B=x at *;generalize rest*B=y at *;omega
 refine vR hU (zL (zK p h1) ?_);rw [zB];exact zQ q hV
def qfF (hU:T*p<=U) (hV:V<=(v1*B+v0+1)*p) (hT:T=top*B+u0) (hr:rest+q*v1=top) (hc:q*v0<=rest*B+u0) (hq:q<=v1*B+v0+1):(q-1)*V<=U:=by
 rcases yF q with h0 | h0
 .subst h0; simp
 have h1:q*(v1*B+v0)<=T:=by
  rw [hT,<- hr,yH,zC,<- zB];generalize q*v1*B=x at *;generalize rest*B=y at *;omega
 have h2:(q-1)*(v1*B+v0+1)<=q*(v1*B+v0):=by
  generalize v1*B+v0=W at *;obtain ⟨k,rfl⟩:∃ k,q=k+1:=⟨q-1,ω⟩;rw [yB,zC,yH,vN,z6];omega
 refine zL (zQ (q-1) hV) (zL ?_ hU);rw [<- zB];exact zK p (zL h2 h1)
end
def qeB {u P b t:Nat} (hu:u < 4294967296) (hb:b<=1) (ht:t=(u+18446744073709551616-P % 4294967296-b) % 18446744073709551616) :
  P % 4294967296+b+t % 4294967296=u+4294967296*(t / 4294967296 % 2)/\t / 4294967296 % 2<=1:=by
 have:=zW P (show 0 < 4294967296 by omega);omega
def q7w {W i c b x u q Ui Vi t:Nat} (h:W+q*Vi=Ui+B ^ i*(c+b)) (hu:u < 4294967296) (hb:b<=1) (ht:t=(u+18446744073709551616-(q*x+c) % 4294967296-b) % 18446744073709551616) :
  W+B ^ i*(t % 4294967296)+q*(Vi+B ^ i*x)=Ui+B ^ i*u+B ^ (i+1)*((q*x+c) / 4294967296+t / 4294967296 % 2):=by
 obtain ⟨h1,_⟩:=qeB hu hb ht;have h2:=vQ (q*x+c) 4294967296;have hB:B=4294967296:=rfl;rw [zF,zC q,vO q];generalize (q*x+c) / 4294967296=d at *;generalize (q*x+c) % 4294967296=m at *;generalize hy:q*x=y at *;generalize t / 4294967296 % 2=b' at *;generalize t % 4294967296=r at *;generalize B ^ i=X at *;have e1:X*B*(d+b')=X*(4294967296*d)+X*(4294967296*b'):=by rw [hB,zB,<- zC,zC]
 have e2:X*(c+b)+X*r+X*y=X*u+X*(4294967296*d)+X*(4294967296*b'):=by
  rw [<- zC,<- zC,<- zC,<- zC]
  congr 1
  omega
 rw [e1];omega
def qhK {W n c b u q Un V t:Nat} (h:W+q*V=Un+B ^ n*(c+b)) (hu:u < 4294967296) (hc:c+b<=4294967296) (ht:t=(u+18446744073709551616-c-b) % 18446744073709551616) :
  W+B ^ n*(t % 4294967296)+q*V=Un+B ^ n*u+B ^ (n+1)*(t / 4294967296 % 2)/\t / 4294967296 % 2<=1:=by
 have h1:c+b+t % 4294967296=u+4294967296*(t / 4294967296 % 2)/\t / 4294967296 % 2<=1:=ω
 refine ⟨?_,h1.2⟩;have hB:B=4294967296:=rfl;rw [zF];generalize t / 4294967296 % 2=b' at *;generalize t % 4294967296=r at *;generalize B ^ n=X at *;have e1:X*B*b'=X*(4294967296*b'):=by rw [hB,zB]
 have e2:X*(c+b)+X*r=X*u+X*(4294967296*b'):=by
  rw [<- zC,<- zC]
  congr 1
  omega
 rw [e1];omega
def qfO {U V q M W ng:Nat} (hV:0 < V) (hle:(q-1)*V<=U) (hlt:U < (q+1)*V) (hW:W < M) (hVM:V<=M) (h:W+q*V=U+M*ng) (hn:ng<=1) :
  (ng=0->U / V=q/\U % V=W)/\(ng=1->0 < q/\U / V=q-1/\(W+V) % M=U % V/\U % V < V):=by
 refine ⟨λh0=>?_,λh1=>?_⟩
 .subst h0;rw [xG,vP] at h;have hWV:W < V:=by
   rw [yH,z6] at hlt;omega
  have e:U=V*q+W:=by rw [zI]; omega
  rw [e];exact ⟨by rw [Nat.mul_add_div hV,yM hWV,vP],by rw [Nat.mul_add_mod,zH hWV]⟩
 .subst h1;rw [vN] at h;have hq:0 < q:=by
   rcases yF q with h0 | h0
   .subst h0; rw [wC] at h; omega
   .exact h0
  obtain ⟨k,rfl⟩:∃ k,q=k+1:=⟨q-1,ω⟩;rw [yB] at hle ⊢;rw [yH,z6] at h;have hr:U-k*V < V:=ω
  have e:U=V*k+(U-k*V):=by rw [zI]; omega
  have e1:U / V=k:=by rw [e,Nat.mul_add_div hV,yM hr,vP]
  have e2:U % V=U-k*V:=by
   have:=vQ U V;rw [e1,zI] at this;omega
  refine ⟨hq,e1,?_,zW _ hV⟩;rw [e2,show W+V=U-k*V+M*1 by omega,z7,zH ω]
def q2E (o:List Nat) (j i:Nat):val ((o.drop j).take (i+1))=val ((o.drop j).take i)+B ^ i*o.getD (j+i) 0:=by
 rw [vts,zR,zP,<- zR]
def qaO (o:List Nat) (j i d:Nat):((o.set (j+i) d).drop j).take i=(o.drop j).take i:=by
 apply xI
 intro k;rw [vH,vH]
 split
 .rw [zP,zP,wS ω]
 .rfl
def top2 {l:List Nat} {n:Nat} (ha:q0Y l) (hn:2<=n):∃ low,low < B ^ (n-2)/\val (l.take n)=low+B ^ (n-2)*(l.getD (n-2) 0+B*l.getD (n-1) 0):=by
 refine ⟨val (l.take (n-2)),?_,?_⟩
 .have h1:=q12 (ha.take (n-2));refine vR h1 (zM q1A ?_);rw [zU]; omega
 .have h1:=vts l (n-2);have h2:=vts l (n-2+1);rw [show n-2+1+1=n by omega,h1,show n-2+1=n-1 by omega] at h2;rw [h2,show n-1=(n-2)+1 by omega,zF,zC,<- zB,xA]
def qfE {p T U V v1 v0 top u0:Nat} (hU:U < (T+1)*p) (hV:(v1*B+v0)*p<=V) (hT:T=top*B+u0) (hu:u0 < B) (hv:0 < v1):U < (top / v1+1)*V:=by
 have h1:T+1<=(top / v1+1)*(v1*B+v0):=by
  have h2:top+1<=(top / v1+1)*v1:=by
   have:=vQ top v1;have h3:=zW top hv;rw [yH,z6,zI]; omega
  have h4:(top+1)*B<=(top / v1+1)*v1*B:=zK B h2;rw [zC,<- zB];rw [yH,z6] at h4;omega
 refine vR hU (zL (zK p h1) ?_);rw [zB];exact zQ _ hV
def qiY {v1 v0 top q rest u0:Nat} (hr:rest+q*v1=top) (ht:top < v1*B+B) (hb:B<=rest) (hv0:v0 < B):q < B/\q*v0<=rest*B+u0:=by
 have h1:q*v1 < v1*B:=ω
 have hq:q < B:=by
  rcases zN q B with h | h
  .exact h
  .have:=zQ v1 h;rw [zI q v1] at h1; omega
 have h2:q*v0<=B*B:=Nat.mul_le_mul (y8 hq) (y8 hv0);have h3:B*B<=rest*B:=zK B hb;exact ⟨hq,ω⟩
def qp7 {Z S i cr a x:Nat} (h:Z+B ^ i*cr=S):Z+B ^ i*((a+x+cr) % 4294967296)+B ^ (i+1)*((a+x+cr) / 4294967296)=S+B ^ i*a+B ^ i*x:=by
 have h2:=vQ (a+x+cr) 4294967296;have hB:B=4294967296:=rfl;rw [zF];generalize (a+x+cr) / 4294967296=d at *;generalize (a+x+cr) % 4294967296=r at *;generalize B ^ i=X at *;have e1:X*B*d=X*(4294967296*d):=by rw [hB,zB]
 have e2:X*r+X*(4294967296*d)=X*a+X*x+X*cr:=by
  rw [<- zC,<- zC,<- zC]
  congr 1
  omega
 rw [e1];omega
def qgZ {Z n a cr S:Nat} (hZ:Z < B ^ n) (h:Z+B ^ n*(a+cr)=S):Z+B ^ n*((a+cr) % 4294967296)=S % B ^ (n+1):=by
 have hB:B=4294967296:=rfl;rw [<- h,zF,xZ,z7,zH hZ,vV _ _ Oq,yM hZ,yW,hB]
end Go.Sp
namespace Go.E
open Go
end Go.E
namespace Go.Proofs.YtbjoghfmhgadkaaGreatDoor
open Go Go.E Go.Sp
end Go.Proofs.YtbjoghfmhgadkaaGreatDoor
namespace Go.E
open Go
def qfV (P:Program) (tys:Array TypeId) (ty:TypeId) (args:List Value) (w:World) (K:Value->World->Prop):Prop:=∃ v w',(Builtin.copy_ tys ty args.toArray).run P w=.ok v w'/\K v w'
section
variable {P:Program} {e:Env} {w:World} {K:Value->World->Prop} {d:Option Nat} {ty:TypeId} {pos:String} {af:Array Edge} {g:Option (Nat × Bool)}
@[congr] theorem qoS {tys:Array TypeId} {ty:TypeId} {args args':List Value} {w:World} {K:Value->World->Prop} (h:args=args'):qfV P tys ty args w K=qfV P tys ty args' w K:=by rw [h]
def qlh {s x:Operand} {tys:Array TypeId}:wo P ⟨d,.call ⟨.builtin .copy,#[s,x],tys⟩,ty,pos,af,g⟩ e w K=qfV P tys ty [ev e s,ev e x] w K:=by
 simp only [wo,WO,execOp,resolve,invoke,builtin,Sem.run_bind,Sem.run_pure,Result.andThen_ok,xO,yU,y6,qfV];cases hr:(Builtin.copy_ tys ty #[ev e s,ev e x]).run P w with
 | ok v w' =>
  simp only [Result.andThen_ok,Sem.run_pure,RO];exact propext ⟨λh=>⟨v,w',rfl,h⟩,λ⟨v',w'',h,hk⟩=>by injection h with h1 h2; subst h1; subst h2; exact hk⟩
 | halt x w' =>
  simp only [Result.andThen_halt,RO];exact propext ⟨λh=>h.elim,λ⟨_,_,h,_⟩=>by cases h⟩
end
attribute [go_sem ↓] qlh
attribute [irreducible] qfV
end Go.E
namespace Go.Proofs.YtbjoghfmhgadkaaGreatDoor
open Go Go.E Go.Sp
def lz_ok {x:Nat} {w:World} (hx:x < 4294967296):Calls Tryz.prog 294 #[.int .u32 x] w λe w'=>e=.returned (.int .i64 (32-bl x:Nat))/\w=w':=by
 have hb:bl x<=32:=q0O hx;refine q57 Tryz.func294 rfl Tryz.ntmps294 κ ?_;refine Wz ?_;refine q1H λK hK=>?_;refine Zz ?_;refine qbI qkq (qag hx) ?_;rintro _ _ ⟨rfl,rfl⟩; refine ⟨_,rfl,?_⟩;have e1:IntKind.i64.wrap (32-((bl x:Nat):Int))=((32-bl x:Nat):Int):=by rw [i64_in Oq ω]; omega
 refine Zz1 e1 ?_;refine hK _ _ ?_; clear hK;refine qjF ?_
 try simp only [q8n,qnR]
 refine ret1 rfl ⟨rfl,rfl⟩
end Go.Proofs.YtbjoghfmhgadkaaGreatDoor
namespace Go.Sp
open Go.E
def qav {a b:List Nat} {j:Nat} (hl:a.length=b.length) (h:∀ k,k < j->a.getD k 0=b.getD k 0):a.take j=b.take j:=by
 apply xI
 intro k;rw [vH,vH]
 split
 .rename_i hk
  rcases zN k a.length with h1 | h1
  .have:=h k hk;rw [q0k h1,q0k ω] at this;rw [zD h1,zD Oq,this]
  .rw [z8 h1,z8 ω]
 .rfl
def q6w {a b:List Nat} {j:Nat} (hl:a.length=b.length) (h:∀ k,j<=k->a.getD k 0=b.getD k 0):a.drop j=b.drop j:=by
 apply xI
 intro k;rw [zP,zP]
 rcases zN (j+k) a.length with h1 | h1
 .have:=h (j+k) Oq;rw [q0k h1,q0k ω] at this;rw [zD h1,zD Oq,this]
 .rw [z8 h1,z8 ω]
def qtF {b d v V:Nat} (h1:d < b) (h2:v < V):d+b*v < b*V:=by
 have h3:b*(v+1)<=b*V:=zQ b h2;rw [zC,vN] at h3;omega
def qts {a p V r d q X:Nat} (h:a+p*(V*d+r)+V*q=X):a+p*r+V*(q+p*d)=X:=by
 rw [<- h,zC,zC,vO V p d];omega
section
variable {o o' qs:List Nat} {j n V X:Nat}
def q5P (ha:q0Y o) (hV:V < B ^ n) (h:val (o.drop (j+1)) < V):val ((o.drop j).take (n+1)) < B*V/\val (o.drop (j+n+1))=0/\val (o.drop j)=val ((o.drop j).take (n+1)):=by
 have h1:val (o.drop (j+n+1))=0:=by
  have:=q2V (ha.drop (j+1)) n;rw [wX,show j+1+n=j+n+1 by omega] at this;rw [this];exact yM (Nat.lt_trans h hV)
 have h2:val (o.drop j)=val ((o.drop j).take (n+1)):=by
  rcases zN (n+1) (o.drop j).length with hl | hl
  .have:=q1D (o.drop j) (n+1) Oq;rw [wX,show j+(n+1)=j+n+1 by omega,h1,xG,vP] at this;exact this
  .rw [q0F _ _ hl]
 refine ⟨?_,h1,h2⟩;rw [<- h2,q15];exact qtF (ha.get j) h
def q6B (ha:q0Y o) (hV0:0 < V) (hV:V < B ^ n) (hl:o'.length=o.length) (h:val (o.drop (j+1)) < V) (hun:∀ k,k < j\/j+n < k->o'.getD k 0=o.getD k 0) (hr:val ((o'.drop j).take (n+1))=val ((o.drop j).take (n+1)) % V) (hj:j < qs.length) (hq:qs.getD j 0=0) (hjo:j<=o.length)
  (hX:val o+V*val qs=X):val o'+V*val (qs.set j (val ((o.drop j).take (n+1)) / V))=X/\val (o'.drop j) < V:=by
 obtain ⟨_,h1,h2⟩:=q5P ha hV h;have e1:=qav hl λk hk=>hun k (.inl hk);have e2:o'.drop (j+n+1)=o.drop (j+n+1):=q6w hl λk hk=>hun k (.inr Oq);have h3:val (o'.drop j)=val ((o'.drop j).take (n+1)):=by
  rcases zN (n+1) (o'.drop j).length with hl2 | hl2
  .have:=q1D (o'.drop j) (n+1) Oq;rw [wX,show j+(n+1)=j+n+1 by omega,e2,h1,xG,vP] at this;exact this
  .rw [q0F _ _ hl2]
 have s1:=q1D o j hjo;have s2:=q1D o' j Oq;rw [h2] at s1;rw [h3,e1,hr] at s2;have s3:=q3K (o:=qs) (p:=j) (val ((o.drop j).take (n+1)) / V) hj;rw [hq,xG,vP] at s3;refine ⟨?_,by rw [h3,hr]; exact zW _ hV0⟩;rw [s2,s3];rw [s1] at hX;have hdm:=vQ (val ((o.drop j).take (n+1))) V;generalize val ((o.drop j).take (n+1)) / V=d at *;generalize val ((o.drop j).take (n+1)) % V=r at *;rw [<- hdm] at hX;exact qts hX
end
open Go
def q2P (f:Nat):Nat:=if f / 4503599627370496 % 2048=2047/\f % 4503599627370496≠0 then 3 else if f / 4503599627370496 % 2048=2047 then 2 else if f / 4503599627370496 % 2048=0/\f % 4503599627370496=0 then 0 else 1
def u64v (x:Nat):Value:=.int .u64 (x:Int)
def q06 (a:Int) (n:Nat):Nat:=(a % 18446744073709551616).toNat % n
def qeC {a:Int} {n:Nat} (h:0 < n):q06 a n < n:=zW _ h
def qlb (raw:List Nat) (k:Int):Int :=
 if raw.length=0 then IntKind.u64.wrap (IntKind.u64.wrap (IntKind.i64.wrap (k+1))*11400714819323198485)
 else q0d .xor .u64 (IntKind.u64.wrap (IntKind.u64.wrap (IntKind.i64.wrap (k+1))*11400714819323198485)) ((raw.getD (q06 k raw.length) 0:Nat):Int)
def qla (x:Int):Int:=IntKind.u64.wrap (q0d .xor .u64 x (x.fdiv (2 ^ 31))*13787848793156543929)
def q8j (raw:List Nat) (k:Int):Int:=q0d .xor .u64 (qla (qlb raw k)) ((qla (qlb raw k)).fdiv (2 ^ 29))
def q5s (raw:List Nat) (k:Int):Nat:=(q8j raw k).toNat
def q7Z (raw:List Nat) (k:Int):((q5s raw k:Nat):Int)=q8j raw k:=by
 have:0<=q8j raw k:=by
  unfold q8j
  show 0<=IntKind.u64.wrap _
  rw [q0s]; omega
 unfold q5s; omega
def q4G (raw:List Nat) (k:Int):q5s raw k < 18446744073709551616:=by
 have h:=q7Z raw k;have:q8j raw k < 18446744073709551616:=by
  unfold q8j
  show IntKind.u64.wrap _ < _
  rw [q0s]; omega
 omega
def flz (z:Int):Nat:=fR 0 (z*(2:Int) ^ 65536)
def q31 (x:Nat):Int:=(x % 19:Nat)-9
def q4p (x:Nat) : -9<=q31 x/\q31 x<=9:=by unfold q31; omega
def q6h {z:Int} (h:bl z.natAbs<=65536):mkV z 0=some (z*(2:Int) ^ 65536):=q5V Oq Oq
def flzK {z:Int} {K:Nat} (hK:K=65536) (hz:z.natAbs < 9007199254740992):ofF (if z*(2:Int) ^ K=0 then 0 else rF 0 (decide (z*(2:Int) ^ K < 0)) (z*(2:Int) ^ K).natAbs (2 ^ K))=some (z*(2:Int) ^ K)/\(if z*(2:Int) ^ K=0 then 0 else rF 0 (decide (z*(2:Int) ^ K < 0)) (z*(2:Int) ^ K).natAbs (2 ^ K)) < 18446744073709551616:=by
 by_cases h0:z=0
 .subst h0;rw [vA,if_pos rfl];refine ⟨?_,ω⟩;unfold ofF;rw [if_neg (by decide),if_pos (by decide),show sgn (decide (9223372036854775808<=0)) (0 % 4503599627370496)=0 from rfl,vA]
 .have hp:=q0L K;have hne:z*(2:Int) ^ K≠0:=Int.mul_ne_zero h0 (wE hp);have hsg:decide (z*(2:Int) ^ K < 0)=decide (z < 0):=by
   rw [decide_eq_decide]
   constructor
   .intro h
    rcases Int.lt_or_le z 0 with h1 | h1
    .exact h1
    .have:=Int.mul_nonneg h1 (Int.le_of_lt hp); omega
   .intro h; exact xW h hp
  rw [if_neg hne,hsg,q0G];have hb:bl z.natAbs<=53:=q0O hz;have:=qaZ (mode:=0) (neg:=decide (z < 0)) (N:=z.natAbs*2 ^ K) (D:=2 ^ K) (M:=z.natAbs) (f:=0) (q0E K) Oq hb Oq Oq (by simp [zI]);rw [q07] at this;refine ⟨?_,this.2⟩;rw [this.1,hK]; rfl
def qej {z:Int} (hz:z.natAbs < 9007199254740992):ofF (flz z)=some (z*(2:Int) ^ 65536):=(flzK rfl hz).1
def qt0 {z:Int} (hz:z.natAbs < 9007199254740992):flz z < 18446744073709551616:=(flzK rfl hz).2
def qnb {z:Int} (hz:z.natAbs < 9007199254740992):q0I (flz z):=λh=>by
 have:=qej hz;unfold ofF at this; rw [if_pos h] at this; cases this
def qbV (x i:Nat):x &&& 2 ^ i=x / 2 ^ i % 2*2 ^ i:=by
 apply vW
 intro j;rw [yZ,yV]
 rcases Nat.mod_two_eq_zero_or_one (x / 2 ^ i) with h | h
 .rw [h,wC,Nat.zero_testBit]
  by_cases hj:i=j
  .subst hj;rw [vS,h]; simp
  .simp [hj]
 .rw [h,z6,yV]
  by_cases hj:i=j
  .subst hj;rw [vS,h]; simp
  .simp [hj]
def qdW {x:Nat} (h:x < 18446744073709551616):x &&& 9223372036854775808=x / 9223372036854775808*9223372036854775808:=by
 have h1:=qbV x 63;have e:(2:Nat) ^ 63=9223372036854775808:=rfl;rw [e,zH (show x / 9223372036854775808 < 2 by omega)] at h1;exact h1
def qhc {x:Nat}:x &&& 2251799813685248=x / 2251799813685248 % 2*2251799813685248:=by
 have h1:=qbV x 51;have e:(2:Nat) ^ 51=2251799813685248:=rfl;rw [e] at h1;exact h1
def qhh {x:Nat}:x &&& 4503599627370495=x % 4503599627370496:=zV x 52
def qaC {a e s:Nat} (ha:a < 4503599627370496) (he:e < 2048):s*9223372036854775808 ||| a ||| e*4503599627370496=s*9223372036854775808+e*4503599627370496+a:=by
 have h1:a ||| e*4503599627370496=a+e*4503599627370496:=q1z (k:=52) ha;have h2:(a+e*4503599627370496) ||| s*9223372036854775808=a+e*4503599627370496+s*9223372036854775808:=q1z (k:=63) Oq;rw [Nat.or_assoc,h1,vB,h2];omega
def q2J (k x:Nat):Nat :=
 if k=1 then x / 9223372036854775808*9223372036854775808+(1019+x / 4503599627370496 % 8)*4503599627370496+x % 4503599627370496
 else if k=2 then x / 9223372036854775808*9223372036854775808+(983+x / 256 % 81)*4503599627370496+x / 2251799813685248 % 2*2251799813685248
 else if k=3 then (if x / 4503599627370496 % 2048=2047 then 0 else x)
 else flz (q31 x)
def num_1 {x:Nat} (h:x < 18446744073709551616):(x &&& 9227875636482146303) ||| (1019+x / 4503599627370496 % 8)*4503599627370496=q2J 1 x:=by
 have e:9227875636482146303=9223372036854775808 ||| 4503599627370495:=by decide
 rw [e,vY,qdW h,qhh,qaC (zW _ Oq) ω];unfold q2J; rw [if_pos rfl]
def num_2 {x:Nat} (h:x < 18446744073709551616):(x &&& 9225623836668461056) ||| (983+x / 256 % 81)*4503599627370496=q2J 2 x:=by
 have e:9225623836668461056=9223372036854775808 ||| 2251799813685248:=by decide
 rw [e,vY,qdW h,qhc,qaC Oq ω];unfold q2J; rw [if_neg Oq,if_pos rfl]
end Go.Sp
namespace Go.Proofs.YtbjoghfmhgadkaaGreatDoor
open Go Go.E Go.Sp
end Go.Proofs.YtbjoghfmhgadkaaGreatDoor
namespace Go.Sp
open Go.E
def hf (q k:Nat) (inx:Bool):Int:=if (((q % 2 ^ k:Nat):Int)-2 ^ (k-1)).sign=0/\inx=true then 1 else (((q % 2 ^ k:Nat):Int)-2 ^ (k-1)).sign
def qnC (q:Nat) (e p:Int) (inx:Bool):Nat :=
 if p<=e then q*2 ^ (e-p).toNat
 else q / 2 ^ (p-e).toNat+(if ¬ (q % 2 ^ (p-e).toNat=0/\inx=false)/\(0 < hf q (p-e).toNat inx\/(hf q (p-e).toNat inx=0/\q / 2 ^ (p-e).toNat % 2=1)) then 1 else 0)
def qeX {a b:Prop} [Decidable a] [Decidable b] (h:a ↔ b) (x y:Nat):(if a then x else y)=if b then x else y:=by
 by_cases ha:a
 .rw [if_pos ha,if_pos (h.1 ha)]
 .rw [if_neg ha,if_neg (λhb=>ha (h.2 hb))]
def qn5 {N M k:Nat} (hk:0 < k):hf (N / M) k (decide (N % M≠0))=q9R N M k:=by
 have hp:2 ^ k=2 ^ (k-1)*2:=by rw [<- zF]; congr 1; omega
 have hp0:=q0E (k-1);have hs:=xZ (x:=N / M) (a:=2 ^ (k-1)) (b:=2);rw [<- hp] at hs;have hs':=zW (N / M) hp0;have hb2:N / M / 2 ^ (k-1) % 2 < 2:=zW _ Oq;unfold hf q9R;rw [<- q0N];generalize N / M % 2 ^ k=s at *;generalize N / M % 2 ^ (k-1)=s' at *;generalize N / M / 2 ^ (k-1) % 2=b at *;generalize N % M=r at *;generalize 2 ^ (k-1)=h at *
 by_cases hb:b=1
 .subst hb;have hss:((s:Nat):Int)-(h:Nat)=(s':Nat):=ω
  rw [hss,if_pos (show 0 < k/\1=1 from ⟨hk,rfl⟩)]
  by_cases h0:s'=0
  .subst h0
   by_cases hr:r=0
   .subst hr; simp
   .simp [hr]
  .have h1:(((s':Nat):Int)).sign=1:=Int.sign_eq_one_of_pos Oq;rw [h1,if_neg σ,if_pos (.inr h0)]
 .have:b=0:=ω
  subst this;have h1:(((s:Nat):Int)-(h:Nat)).sign = -1:=Int.sign_eq_neg_one_of_neg Oq;rw [h1,if_neg ω]; simp
def qnB {neg:Bool} {N M:Nat} {e p:Int} (hM:0 < M) (hk:N % M≠0->e < p):qnC (N / M) e p (decide (N % M≠0))=rq 0 neg (N*2 ^ (e-p).toNat) (M*2 ^ (p-e).toNat):=by
 unfold qnC
 by_cases hpe:p<=e
 .rw [if_pos hpe,show (p-e).toNat=0 by omega,yS,vN];have hr:N % M=0:=by
   rcases yF (N % M) with h | h
   .exact h
   .have:=hk ω; omega
  have hd:N=N / M*M:=by have:=vQ N M; rw [zI] at this; omega
  rw [q34 (by rw [hd,yE]; exact Nat.mul_mod_left _ _)]
  conv=>rhs; rw [hd,yE,Nat.mul_div_cancel _ hM]
 .rw [if_neg hpe,show (e-p).toNat=0 by omega,yS,vN];have hk0:0 < (p-e).toNat:=ω
  rw [qm1 hM (λ_=>hk0),qn5 hk0]
  congr 1
  unfold upS;have z1:¬ (0:Int)=1:=ω
  have z2:¬ (0:Int)=2:=ω
  have z3:¬ (0:Int)=3:=ω
  simp only [z1,z2,z3,if_false,Bool.or_eq_true,zG,decide_eq_true_eq,decide_eq_false_iff_not,Decidable.not_not];refine qeX (and_congr ?_ Iff.rfl) _ _
  constructor
  .intro h
   by_cases h0:N / M % 2 ^ (p-e).toNat=0
   .exact .inr λh1=>h ⟨h0,h1⟩
   .exact .inl h0
  .rintro (h | h) ⟨h1,h2⟩
   .exact h h1
   .exact h h2
def q8Y {N M:Nat} (hM:M≠0) {k:Nat} (h:bl M+k < bl N):k < bl (N / M):=by
 rcases zN k (bl (N / M)) with h1 | h1
 .exact h1
 .exfalso
  have h2:=q17 h1;have h3:=q27 M;have h4:N < 2 ^ k*2 ^ bl M:=by
   have h5:=vQ N M;have h6:=zW N (show 0 < M by omega);have h7:M*(N / M)+M<=M*2 ^ k:=by rw [<- wD]; exact zQ _ h2
   have h8:M*2 ^ k<=2 ^ bl M*2 ^ k:=zK _ (y8 h3);rw [zI (2 ^ k)]; omega
  rw [<- zJ] at h4;have:=q0O h4;omega
def qjw {mode:Int} {neg:Bool} {a b:Int} {k:Nat} (ha:a≠0) (hb:b≠0):rE mode neg ((od a).natAbs*2 ^ k) (od b).natAbs (dyE a-k-dyE b)=rF mode neg a.natAbs b.natAbs:=by
 have ha1:=q6G a;have hb1:=q6G b;have ha2:=q39 ha;have hb2:=q39 hb;have hoa:0 < (od a).natAbs:=ω
 have hob:0 < (od b).natAbs:=ω
 have hda:dyE a=(tz a.natAbs:Int)-65536:=by unfold dyE; rw [if_neg ha]
 have hdb:dyE b=(tz b.natAbs:Int)-65536:=by unfold dyE; rw [if_neg hb]
 unfold rE;refine q6d (zS (zS hoa (q0E _)) (q0E _)) (zS hob (q0E _)) Oq Oq ?_;rw [hda,hdb];generalize tz a.natAbs=x at *;generalize tz b.natAbs=y at *;generalize (od a).natAbs=p at *;generalize (od b).natAbs=r at *;rw [<- ha1,<- hb1];have e1:p*2 ^ k*2 ^ (((x:Int)-65536-k-((y:Int)-65536)).toNat)*(r*2 ^ y)=p*r*2 ^ (k+((x:Int)-65536-k-((y:Int)-65536)).toNat+y):=by
  rw [zJ,zJ];simp only [zB,vO,zI]
 have e2:p*2 ^ x*(r*2 ^ (-((x:Int)-65536-k-((y:Int)-65536))).toNat)=p*r*2 ^ (x+(-((x:Int)-65536-k-((y:Int)-65536))).toNat):=by
  rw [zJ];simp only [zB,vO,zI]
 rw [e1,e2]
 congr 2
 omega
end Go.Sp
namespace Go.Proofs.YtbjoghfmhgadkaaGreatDoor
open Go Go.E Go.Sp Go.ChangeShapes Go.WideShapes Go.ChangeAt Go.WideMaps Go.WideElems Go.RowKit
section
variable {H:Type} {enc:TypeId × Value->H}
def q3t {P:Program} (hl:laidOutB P=true) {W W':World} (hb:Below W.heap.size W W') :
  ∀ {ts:List TypeId} {vs:List Value} {ds:List (DataW H)} {ps:List MemPlace},(ts.all λt=>P.readableRec t && decide (t < P.types.size))=true->DataW.TrodAll enc P W 0 (λ_=>true) true ts vs ds ps->(∀ x ∈ ps,x.block < W.heap.size)->DataW.TrodAll enc P W' 0 (λb=>decide (b < W.heap.size)) true ts vs ds ps
 | [],[],[],_,_,h,_=>h
 | [],_ :: _,_,_,_,h,_=>h.elim
 | [],[],_ :: _,_,_,h,_=>h.elim
 | _ :: _,[],_,_,_,h,_=>h.elim
 | _ :: _,_ :: _,[],_,_,h,_=>h.elim
 | t :: ts,v :: vs,d :: ds,ps,hr,⟨p,q,h1,h2,e⟩,hlt=>by
  subst e;rw [List.all_cons,zG,zG,decide_eq_true_eq] at hr;exact ⟨p,q,Below.trod hl hr.1.1 hr.1.2 h1 hb λx hx=>hlt x (xQ _ hx),q3t hl hb hr.2 h2 λx hx=>hlt x (wL _ hx),rfl⟩
def qnP:laidOutB Tryz.prog=true:=κ
def qhU {fn:Func} {s:ChangeSpec} {W W':World} {args:Array Value} {ds:List (DataW H)} {before:List MemPlace} (hv:s.vars=[]) (hW:DataW.Whole enc Tryz.prog fn.params.toList s.vars false W args.toList ds [] before)
  (hp:(fn.params.toList.all λt=>Tryz.prog.readableRec t && decide (t < Tryz.prog.types.size))=true) (hr:fn.resultTypes=#[4]) (hs:s.fn H (ds ++ [])={ results:=[.lit (.bool true)],args:=ds }) (hx:Ext W W'):s.post enc Tryz.prog fn false true false false W args (.bool true) W':=by
 have hlt:∀ p ∈ before,p.block < W.heap.size:=λp hp=>by simpa using hW.lt p hp
 have hW2:=hW;obtain ⟨p,q,hA,hV,rfl,hz,hn⟩:=hW2;rw [hv] at hV;obtain ⟨_,rfl⟩:=trodVars_none hV;have hb:=Kp.below hx;refine ⟨ds,[],p ++ [],[],p,[],hW,?_,?_,?_,Below.frame hb _,λh=>by cases h⟩
 .rw [hr,hs];exact trodAll_mk1 (shut_bool und4 _)
 .rw [hs];exact q3t qnP hb hp hA λx hx=>hlt x (xQ _ hx)
 .rw [hs,hv]; rfl
end
def gTab : Tryz.prog.globalNamed "math/bits.deBruijn32tab" = some 0 := by kernel_rfl
def tTab:(Tryz.prog.globals[0]?).map (·.type)=some 273:=κ
def qqc:Tryz.prog.underlying 273=some (.array 32 5):=κ
def cell5:Tryz.prog.cellsOf 5=1:=κ
def qnO:(Rows.laid_math_bits_deBruijn32tab:DataW Unit)=.agg (qcw.map λn:Nat=>.lit (.int .u8 (n:Int))):=rfl
def qlu {W : World} (h : laidMetH Tryz.prog [("math/bits.deBruijn32tab", Rows.laid_math_bits_deBruijn32tab)] W) : q5i W := by
 rw [MakeChecks.laidMetH_plain _ _ _ κ] at h;obtain ⟨ps,⟨g0,t0,cs0,f0,p0,q0,hg0,ht0,hv0,hd0,_⟩,_⟩:=h;obtain rfl:=zE.inj (gTab.symm.trans hg0);obtain rfl:=zE.inj (tTab.symm.trans ht0);obtain ⟨xs,m,_,hx,hlen,hn,hel⟩:=DataW.trod_array qqc hd0;rw [qnO] at hx;simp only [Prod.mk.injEq,DataW.agg.injEq] at hx;intro k hk;have h1:=hel k hk;rw [cell5,vN] at h1;have hkx:k < xs.length:=ω
 rw [zD hkx] at h1;obtain ⟨n,e1,e2,_⟩:=DataW.trod_int und5 h1;have h2:(qcw.map λn:Nat=>(DataW.lit (.int .u8 (n:Int)):DataW Unit))[k]?=some (.lit (.int .u8 n)):=by
  rw [hx.1,List.getElem?_map,zD hkx,e2]; rfl
 rw [List.getElem?_map] at h2;obtain ⟨y,hy,hyn⟩:=zA.1 h2;have hyn':(y:Int)=n:=by injection hyn with h; injection h with h
 have h3:=World.var?_cell hg0 hv0 k;have h4:cs0.toList.drop k≠[]:=λh0=>by rw [h0] at e1; cases e1
 have hkc:k < cs0.toList.length:=by
  rcases zN k cs0.toList.length with h | h
  .exact h
  .exact absurd (yK h) h4
 rw [xV hkc,w5,List.take_zero] at e1
 injection e1 with e1 _
 rw [h3,zR,hy];have h5:cs0[k]?=some cs0.toList[k]:=by rw [<- yN,zD hkc]
 rw [h5,e1,<- hyn']; rfl
end Go.Proofs.YtbjoghfmhgadkaaGreatDoor
namespace Go.E
open Go Go.RowKit
abbrev Kd:=Option Nat
def ksz (k:Kd):Nat:=k.getD 1
class NL where
 f:Value->Bool
 ok:∀ v,(∀ d:Int,v≠.int .u32 d)->f v=true
def q4E [NL] (v:Value):Bool:=NL.f v
def nlo [NL] {v:Value} (h:∀ d:Int,v≠.int .u32 d:=by intro d e; cases e):q4E v=true:=NL.ok v h
def q2T [NL] (k:Kd) (v:Value):Prop:=match k with
 | none=>v.cells=#[v]/\v.oneCell'=true/\q4E v=true
 | some n=>∃ cs:Array Value,v=.agg cs/\cs.size=n/\∀ u ∈ cs.toList,u.oneCell'=true/\q4E u=true
def q2T.size [NL] {k:Kd} {v:Value} (h:q2T k v):v.cells.size=ksz k:=by
 unfold q2T at h;cases k with
 | none=>rw [h.1]; rfl
 | some n=>obtain ⟨cs,rfl,h1,_⟩:=h; exact h1
def q2T.one [NL] {k:Kd} {v:Value} (h:q2T k v):∀ u ∈ v.cells.toList,u.oneCell'=true/\q4E u=true:=by
 unfold q2T at h;cases k with
 | none=>rw [h.1]; intro u hu; simp at hu; subst hu; exact h.2
 | some n=>obtain ⟨cs,rfl,_,h2⟩:=h; exact h2
inductive PV where
 | un
 | vl (x:Value)
 | fm (G:Fam)
 | sl (k:Kd) (l:List PV)
 | ow (id:Nat) (k:Kd) (off n:Nat)
 | pt (id i j:Nat)
 | qt (k:Kd) (x:PV)
 | mp (id:Nat)
 | ag (l:List PV)
 | tu (l:List PV)
structure Bk where
 T:TypeId
 k:Kd
 xs:List PV
 st:Bool
abbrev Hp:=Nat->Option Bk
def h0:Hp:=λ_=>none
def BSz (w:World) (g m:Nat):Prop:=∃ (cs:Array Value) (T:TypeId),Blk w g T cs/\cs.size=m
def AtO (w:World) (r:Option Nat) (A:Option Addr) (a m:Nat):Prop:=∃ g,r=some g/\A=some ⟨g,a,none⟩/\BSz w g m
mutual
def Rd [NL] (w:World) (D:Nat->Prop):PV->(Nat->Option Nat)->Hp->Value->Prop
 | .un,_,_,_=>True
 | .vl x,_,_,y=>y=x
 | .fm G,_,_,y=>In G D y w
 | .sl k l,_,_,y=>∃ A n c vs,y=.slice A n c/\Row w D (ksz k) A n c (q01 vs)/\l.length=n/\RdL w D l (λ_=>none) h0 vs/\∀ v ∈ vs,q2T k v
 | .ow id k off n,ρ,h,y=>∃ b A c,h id=some b/\b.k=k/\y=.slice A n c/\n<=c/\c<=maxLen/\off+n<=b.xs.length/\(c=0\/AtO w (ρ id) A (off*ksz k) ((off+c)*ksz k))/\(off=0->(A=none/\c=0)\/AtO w (ρ id) A (off*ksz k) ((off+c)*ksz k))
 | .pt id i j,ρ,h,y=>∃ b g,h id=some b/\ρ id=some g/\i < b.xs.length/\y=.pointer (some ⟨g,i*ksz b.k+j,none⟩)
 | .qt k x,_,_,y=>∃ ad z,y=.pointer (some ad)/\D ad.block/\Rd w D x (λ_=>none) h0 z/\(q2T k z/\0 < ksz k)/\∀ j u,z.cells.toList[j]?=some u->w.cell? (ad.add j)=some u
 | .mp id,ρ,h,y=>∃ b g,h id=some b/\ρ id=some g/\y=.map (some g)
 | .ag l,ρ,h,y=>∃ vs,y=.agg ⟨vs⟩/\RdL w D l ρ h vs
 | .tu l,ρ,h,y=>∃ vs,y=.tuple ⟨vs⟩/\RdL w D l ρ h vs
def RdL [NL] (w:World) (D:Nat->Prop):List PV->(Nat->Option Nat)->Hp->List Value->Prop
 | [],_,_,vs=>vs=[]
 | x :: l,ρ,h,vs=>∃ y ys,vs=y :: ys/\Rd w D x ρ h y/\RdL w D l ρ h ys
end
def Cpt (w w':World) (ρ:Nat->Option Nat) (h:Hp) (ρ':Nat->Option Nat) (h':Hp):Prop :=
 ∀ i b,h i=some b->ρ' i=ρ i/\(∃ b',h' i=some b'/\b'.k=b.k/\b.xs.length<=b'.xs.length)/\∀ g m,ρ i=some g->BSz w g m->BSz w' g m
def Cpt.h0 {w w':World} {ρ ρ':Nat->Option Nat} {h':Hp}:Cpt w w' ρ h0 ρ' h':=λ_ _ h=>by cases h
section
variable {w w':World} {D D':Nat->Prop} {ρ ρ':Nat->Option Nat} {h h':Hp}
def BSz.ext {g m:Nat} (hb:BSz w g m) (hx:Ext w w'):BSz w' g m:=by
 obtain ⟨cs,T,h1,h2⟩:=hb; exact ⟨cs,T,h1.ext hx,h2⟩
def BSz.kp {g m:Nat} (hb:BSz w g m) (hx:Kp D w w') (hd:D g):BSz w' g m:=by
 obtain ⟨cs,T,h1,h2⟩:=hb; exact ⟨cs,T,h1.kp hx hd,h2⟩
mutual
def Rd.mv [NL] (hk:Kp D w w') (hd:∀ k,k < w.heap.size->D k->D' k):∀ (x:PV) (ρ:Nat->Option Nat) (h:Hp) (ρ':Nat->Option Nat) (h':Hp) (y:Value),Cpt w w' ρ h ρ' h'->Rd w D x ρ h y->Rd w' D' x ρ' h' y
 | .un,_,_,_,_,_,_,_=>by unfold Rd; trivial
 | .vl x,_,_,_,_,y,_,hr=>by unfold Rd at hr ⊢; exact hr
 | .fm G,_,_,_,_,y,_,hr=>by
  unfold Rd at hr ⊢;have h1:In G (λk=>D k/\k < w.heap.size) y w:=hr.sub λk hk hq=>⟨hq,hk⟩;exact (h1.kp (hk.mono λk _ hq=>hq.1)).sub λk _ hq=>hd k hq.2 hq.1
 | .sl k l,_,_,_,_,y,_,hr=>by
  unfold Rd at hr ⊢;obtain ⟨A,n,c,vs,h1,h2,h3,h4,h5⟩:=hr;have h6:Row w' D' (ksz k) A n c (q01 vs):=(h2.lt.kp (hk.mono λk _ hq=>hq.1)).sub λk _ hq=>hd k hq.2 hq.1;exact ⟨A,n,c,vs,h1,h6,h3,RdL.mv hk hd l _ _ _ _ vs Cpt.h0 h4,h5⟩
 | .ow id k off n,ρ,h,ρ',h',y,hc,hr=>by
  unfold Rd at hr ⊢;obtain ⟨b,A,c,h1,h2,h3,h4,h4b,h5,h6,h7⟩:=hr;obtain ⟨e1,⟨b',e2,e3,e4⟩,e5⟩:=hc id b h1;have mv:∀ {A:Option Addr} {a m:Nat},AtO w (ρ id) A a m->AtO w' (ρ' id) A a m:=λ⟨g,a1,a2,a3⟩=>⟨g,e1.trans a1,a2,e5 g _ a1 a3⟩;exact ⟨b',A,c,e2,by rw [e3,h2],h3,h4,h4b,ω,h6.imp (λh=>h) mv,λh0=>(h7 h0).imp (λh=>h) mv⟩
 | .pt id i j,ρ,h,ρ',h',y,hc,hr=>by
  unfold Rd at hr ⊢;obtain ⟨b,g,h1,h2,h3,h4⟩:=hr;obtain ⟨e1,⟨b',e2,e3,e4⟩,e5⟩:=hc id b h1;exact ⟨b',g,e2,e1.trans h2,ω,by rw [e3]; exact h4⟩
 | .qt k x,_,_,_,_,y,_,hr=>by
  unfold Rd at hr ⊢;obtain ⟨ad,z,h1,h2,h3,h4,h5⟩:=hr;refine ⟨ad,z,h1,?_,Rd.mv hk hd x _ _ _ _ z Cpt.h0 h3,h4,λj u hu=>hk.cell (by rw [q1G]; exact h2) (h5 j u hu)⟩;cases hz:z.cells.toList[0]? with
  | none =>
   have:=q2T.size h4.1;simp at hz;rw [hz] at this;have:=h4.2;simp at *;omega
  | some u =>
   have:=World.block_lt_of_cell? w _ (h5 0 u hz);rw [q1G] at this;exact hd _ this h2
 | .mp id,ρ,h,ρ',h',y,hc,hr=>by
  unfold Rd at hr ⊢;obtain ⟨b,g,h1,h2,h3⟩:=hr;obtain ⟨e1,⟨b',e2,e3,e4⟩,e5⟩:=hc id b h1;exact ⟨b',g,e2,e1.trans h2,h3⟩
 | .ag l,ρ,h,ρ',h',y,hc,hr=>by
  unfold Rd at hr ⊢;obtain ⟨vs,h1,h2⟩:=hr;exact ⟨vs,h1,RdL.mv hk hd l _ _ _ _ vs hc h2⟩
 | .tu l,ρ,h,ρ',h',y,hc,hr=>by
  unfold Rd at hr ⊢;obtain ⟨vs,h1,h2⟩:=hr;exact ⟨vs,h1,RdL.mv hk hd l _ _ _ _ vs hc h2⟩
def RdL.mv [NL] (hk:Kp D w w') (hd:∀ k,k < w.heap.size->D k->D' k):∀ (l:List PV) (ρ:Nat->Option Nat) (h:Hp) (ρ':Nat->Option Nat) (h':Hp) (vs:List Value),Cpt w w' ρ h ρ' h'->RdL w D l ρ h vs->RdL w' D' l ρ' h' vs
 | [],_,_,_,_,vs,_,hr=>by unfold RdL at hr ⊢; exact hr
 | x :: l,ρ,h,ρ',h',vs,hc,hr=>by
  unfold RdL at hr ⊢;obtain ⟨y,ys,h1,h2,h3⟩:=hr;exact ⟨y,ys,h1,Rd.mv hk hd x _ _ _ _ y hc h2,RdL.mv hk hd l _ _ _ _ ys hc h3⟩
end
end
section
variable {w w':World} {D D':Nat->Prop} {ρ ρ':Nat->Option Nat} {h h':Hp} {l m:List PV} {vs us:List Value}
def RdL.iff [NL]:∀ {l:List PV} {vs:List Value},RdL w D l ρ h vs ↔ l.length=vs.length/\∀ (i:Nat) (x:PV) (v:Value),l[i]?=some x->vs[i]?=some v->Rd w D x ρ h v
 | [],vs=>by
  unfold RdL
  constructor
  .rintro rfl; exact ⟨rfl,λi x v hx=>by simp at hx⟩
  .rintro ⟨h1,_⟩; exact List.eq_nil_of_length_eq_zero h1.symm
 | x :: l,vs=>by
  unfold RdL
  constructor
  .rintro ⟨y,ys,rfl,h1,h2⟩;obtain ⟨h3,h4⟩:=RdL.iff.1 h2;refine ⟨by simp [h3],λi z v hz hv=>?_⟩;cases i with
   | zero=>simp at hz hv; subst hz; subst hv; exact h1
   | succ i=>exact h4 i z v (by simpa using hz) (by simpa using hv)
  .rintro ⟨h1,h2⟩;cases vs with
   | nil=>simp at h1
   | cons y ys=>exact ⟨y,ys,rfl,h2 0 x y rfl rfl,RdL.iff.2 ⟨by simpa using h1,λi z v hz hv=>h2 (i+1) z v (by simpa using hz) (by simpa using hv)⟩⟩
def RdL.len [NL] (hl:RdL w D l ρ h vs):vs.length=l.length:=(RdL.iff.1 hl).1.symm
def RdL.get [NL] (hl:RdL w D l ρ h vs) {i:Nat} {x:PV} (hx:l[i]?=some x):∃ v,vs[i]?=some v/\Rd w D x ρ h v:=by
 obtain ⟨h1,h2⟩:=RdL.iff.1 hl;have hlt:=(yO.1 hx).1;have hv:vs[i]?=some vs[i]:=zD Oq;exact ⟨_,hv,h2 i x _ hx hv⟩
def RdL.take [NL] (hl:RdL w D l ρ h vs) (n:Nat):RdL w D (l.take n) ρ h (vs.take n):=by
 obtain ⟨h1,h2⟩:=RdL.iff.1 hl;refine RdL.iff.2 ⟨by simp [h1],λi x v hx hv=>?_⟩;rw [vH] at hx hv
 split at hx
 .rw [if_pos ‹_›] at hv; exact h2 i x v hx hv
 .cases hx
def RdL.drop [NL] (hl:RdL w D l ρ h vs) (n:Nat):RdL w D (l.drop n) ρ h (vs.drop n):=by
 obtain ⟨h1,h2⟩:=RdL.iff.1 hl;refine RdL.iff.2 ⟨by simp [h1],λi x v hx hv=>?_⟩;rw [zP] at hx hv;exact h2 _ x v hx hv
def RdL.app [NL] (hl:RdL w D l ρ h vs) (hm:RdL w D m ρ h us):RdL w D (l ++ m) ρ h (vs ++ us):=by
 obtain ⟨h1,h2⟩:=RdL.iff.1 hl;obtain ⟨h3,h4⟩:=RdL.iff.1 hm;refine RdL.iff.2 ⟨by simp [h1,h3],λi x v hx hv=>?_⟩;rw [xR] at hx hv
 split at hx
 .rw [if_pos ω] at hv; exact h2 i x v hx hv
 .rw [if_neg ω,<- h1] at hv; exact h4 _ x v hx hv
def RdL.set [NL] (hl:RdL w D l ρ h vs) {x:PV} {v:Value} (hx:Rd w D x ρ h v) (i:Nat):RdL w D (l.set i x) ρ h (vs.set i v):=by
 obtain ⟨h1,h2⟩:=RdL.iff.1 hl;refine RdL.iff.2 ⟨by simp [h1],λj y u hy hu=>?_⟩;rw [List.getElem?_set] at hy hu
 split at hy
 .rename_i hij;rw [if_pos hij] at hu
  split at hy
  .split at hu
   .cases hy; cases hu; exact hx
   .cases hu
  .cases hy
 .rename_i hij;rw [if_neg hij] at hu;exact h2 j y u hy hu
def RdL.one [NL] {x:PV} {v:Value} (hx:Rd w D x ρ h v):RdL w D [x] ρ h [v]:=by unfold RdL; exact ⟨v,[],rfl,hx,by unfold RdL; rfl⟩
def q3e {vs:List Value} {sz:Nat} (hv:∀ v ∈ vs,v.cells.size=sz) (n:Nat):q01 (vs.take n)=(q01 vs).take (n*sz):=by
 induction vs generalizing n with
 | nil=>simp [q01]
 | cons u vs ih =>
  cases n with
  | zero=>simp [q01]
  | succ n =>
   have h1:=hv u z9;have:=ih (λx hx=>hv x (zY _ hx)) n;unfold q01 at *;have hu:u.cells.toList.length=sz:=by rw [zX,h1]
   have e1:(n+1)*sz=n*sz+sz:=xT _ _;rw [w5,vJ,vJ,this,List.take_append,hu,e1,yB,yJ (l:=u.cells.toList) ω]
def q3f {vs:List Value} {sz:Nat} (hv:∀ v ∈ vs,v.cells.size=sz) (n:Nat):q01 (vs.drop n)=(q01 vs).drop (n*sz):=by
 induction vs generalizing n with
 | nil=>simp [q01]
 | cons u vs ih =>
  cases n with
  | zero=>simp [q01]
  | succ n =>
   have h1:=hv u z9;have:=ih (λx hx=>hv x (zY _ hx)) n;unfold q01 at *;have hu:u.cells.toList.length=sz:=by rw [zX,h1]
   have e1:(n+1)*sz=n*sz+sz:=xT _ _;rw [List.drop_succ_cons,vJ,this,List.drop_append,hu,e1,yB,yK (l:=u.cells.toList) ω,List.nil_append]
def q0l {vs:List Value} {sz:Nat} (hv:∀ v ∈ vs,v.cells.size=sz):(q01 vs).length=vs.length*sz:=by
 induction vs with
 | nil=>simp [q01]
 | cons v vs ih =>
  have:=ih λu hu=>hv u (zY _ hu);have h1:=hv v z9;unfold q01 at *;rw [vJ,w8,this,yA,xT,zX,h1]; omega
def q3g (vs us:List Value):q01 (vs ++ us)=q01 vs ++ q01 us:=by simp [q01]
def qiR {vs:List Value} {sz:Nat} (hv:∀ v ∈ vs,v.cells.size=sz) {i:Nat} {u:Value} (hu:u.cells.size=sz) (hi:i < vs.length):q01 (vs.set i u)=(q01 vs).take (i*sz) ++ u.cells.toList ++ (q01 vs).drop ((i+1)*sz):=by
 rw [List.set_eq_take_append_cons_drop,if_pos hi,<- q3e hv,<- q3f hv,q3g];simp [q01]
end
def upo {α:Type} (f:Nat->α) (d:Nat) (x:α):Nat->α:=λi=>if i=d then x else f i
def q0P (h:Hp) (i:Nat) (b:Bk):Hp:=λj=>if j=i then some b else h j
def pu (s:Nat->PV) (i:Nat) (x:PV):Nat->PV:=λj=>if j=i then x else s j
def q2u (s:Nat->PV):Option Nat->PV->Nat->PV
 | some d,x=>pu s d x
 | none,_=>s
def dm (D0:Nat->Prop) (ρ:Nat->Option Nat) (h:Hp):Nat->Prop:=λk=>D0 k/\∀ i b,h i=some b->ρ i≠some k
structure MapWf [NL] (es:Array MapEntry) (clock:Nat):Prop where
 st:MapKept.Stamped es clock
 key:∀ e ∈ es.toList,MapKept.IsKey (.int .i64) e.key
 nl:∀ e ∈ es.toList,∀ u ∈ e.val.cells.toList,q4E u=true
def qqK (e:MapEntry):Value:=.tuple #[e.key,e.val]
def qcP [NL] (w:World) (D:Nat->Prop) (ρ:Nat->Option Nat) (h:Hp) (g:Nat) (b:Bk):Prop :=
 b.k=some 0/\b.st=false/\∃ (es:Array MapEntry) (clock:Nat) (el:List MapEntry),w.heap[g]?=some (.map es clock)/\MapWf es clock/\RdL w D b.xs ρ h [.tuple ⟨el.map qqK⟩]/\es.toList.Perm el
def qgG [NL] (w:World) (D:Nat->Prop) (ρ:Nat->Option Nat) (h:Hp) (g:Nat) (b:Bk):Prop :=
 qcP w D ρ h g b\/∃ cs,Blk w g b.T cs/\(∀ u ∈ cs.toList,q4E u=true)/\(b.st=false->∃ vs,cs.toList.take (b.xs.length*ksz b.k)=q01 vs/\RdL w D b.xs ρ h vs/\∀ v ∈ vs,q2T b.k v)
structure Base where
 w:World
 F:Nat->Prop
 I:Nat->TypeId->Nat->Prop
 J:Nat->Option Nat->Prop
 lt:∀ k,F k->k < w.heap.size
 lo:∀ i r,J i r->5000<=i/\i < 1000000
structure Sat [NL] (D0:Nat->Prop) (w0:Base) (s:Nat->PV) (h:Hp) (ρ:Nat->Option Nat) (e:Env) (w:World):Prop where
 inj:∀ i j b c g,h i=some b->h j=some c->c.st=false->ρ i=some g->ρ j=some g->i=j\/b.st=true
 own:∀ i b g,h i=some b->ρ i=some g->(¬ w0.F g/\D0 g)/\qgG w (dm D0 ρ h) ρ h g b
 vir:∀ i b,h i=some b->ρ i=none->b.xs=[]
 rd:∀ t,Rd w (dm D0 ρ h) (s t) ρ h (e t)
 ext:Kp w0.F w0.w w
 fr:Fr D0 w0.w
 imp:∀ g T m,w0.I g T m->∃ cs,Blk w g T cs/\cs.size=m/\∀ u ∈ cs.toList,q4E u=true
 pin:∀ i r,w0.J i r->ρ i=r
section
variable {w w':World} {w0:Base} {D D' D0:Nat->Prop} {ρ ρ':Nat->Option Nat} {h h':Hp} {s:Nat->PV} {e:Env} {g:Nat} {b:Bk}
def q0p {α:Type} {f:Nat->α} {d:Nat} {x:α}:upo f d x d=x:=by simp [upo]
def q08 {α:Type} {f:Nat->α} {d i:Nat} {x:α} (hi:i≠d):upo f d x i=f i:=by simp [upo,hi]
def q0H {i:Nat}:q0P h i b i=some b:=by simp [q0P]
def q0A {i j:Nat} (hj:j≠i):q0P h i b j=h j:=by simp [q0P,hj]
def qgG.mv [NL] (hb:qgG w D ρ h g b) (hg:w'.heap[g]?=w.heap[g]?) (hk:Kp D w w') (hd:∀ k,k < w.heap.size->D k->D' k) (hc:Cpt w w' ρ h ρ' h'):qgG w' D' ρ' h' g b:=by
 rcases hb with ⟨m1,m2,es,cl,ps,m3,m4,m5,m6⟩ | ⟨cs,h1,h2,h3⟩
 .exact .inl ⟨m1,m2,es,cl,ps,hg.trans m3,m4,RdL.mv hk hd _ _ _ _ _ _ hc m5,m6⟩
 refine .inr ⟨cs,hg.trans h1,h2,λhs=>?_⟩;obtain ⟨vs,h4,h5,h6⟩:=h3 hs;exact ⟨vs,h4,RdL.mv hk hd _ _ _ _ _ _ hc h5,h6⟩
def qgG.lt [NL] (hb:qgG w D ρ h g b):g < w.heap.size:=by
 rcases hb with ⟨_,_,es,cl,ps,m3,_⟩ | ⟨cs,h1,_⟩
 .rcases zN g w.heap.size with h | h
  .exact h
  .rw [xE h] at m3; cases m3
 .exact h1.lt
def qcP.no [NL] (hm:qcP w D ρ h g b) {T:TypeId} {cs:Array Value} (hb:Blk w g T cs):False:=by
 obtain ⟨_,_,es,cl,ps,m3,_⟩:=hm;have:=m3.symm.trans hb;cases this
def qcP.noS [NL] (hm:qcP w D ρ h g b) {m:Nat} (hb:BSz w g m):False:=by
 obtain ⟨cs,T,h1,_⟩:=hb;exact hm.no h1
def qgG.reg [NL] (hb:qgG w D ρ h g b) (hk:b.k≠some 0):∃ cs,Blk w g b.T cs/\(∀ u ∈ cs.toList,q4E u=true)/\(b.st=false->∃ vs,cs.toList.take (b.xs.length*ksz b.k)=q01 vs/\RdL w D b.xs ρ h vs/\∀ v ∈ vs,q2T b.k v):=hb.resolve_left λhm=>hk hm.1
def Sat.put [NL] (S:Sat D0 w0 s h ρ e w) {x:PV} {y:Value} (d:Nat) (hx:Rd w (dm D0 ρ h) x ρ h y):Sat D0 w0 (pu s d x) h ρ (upd e d y) w :=
 ⟨S.inj,S.own,S.vir,λt=>by
  unfold pu upd
  split
  .exact hx
  .exact S.rd t,S.ext,S.fr,S.imp,S.pin⟩
def Sat.puto [NL] (S:Sat D0 w0 s h ρ e w) {x:PV} {y:Value} (d:Option Nat) (hx:Rd w (dm D0 ρ h) x ρ h y):Sat D0 w0 (q2u s d x) h ρ (E.put e d y) w:=by
 cases d with
 | none=>exact S
 | some d=>exact S.put d hx
def Sat.impx [NL] (S:Sat D0 w0 s h ρ e w) (hx:Ext w w'):∀ g T m,w0.I g T m->∃ cs,Blk w' g T cs/\cs.size=m/\∀ u ∈ cs.toList,q4E u=true:=λg T m hi=>by
 obtain ⟨cs,h1,h2⟩:=S.imp g T m hi;exact ⟨cs,h1.ext hx,h2⟩
def Sat.pino [NL] (S:Sat D0 w0 s h ρ e w) {d:Nat} (hd:d < 5000) {r:Option Nat}:∀ i r',w0.J i r'->upo ρ d r i=r':=λi g hj=>by
 rw [q08 (by have:=w0.lo i g hj; omega)]; exact S.pin i g hj
def Cpt.ext (hx:Ext w w'):Cpt w w' ρ h ρ h:=λi b hi=>⟨rfl,⟨b,hi,rfl,yL _⟩,λg m _ hb=>hb.ext hx⟩
def Sat.extend [NL] (S:Sat D0 w0 s h ρ e w) (hx:Ext w w'):Sat D0 w0 s h ρ e w' :=
 ⟨S.inj,λi b g h1 h2=>by
  obtain ⟨a1,a2⟩:=S.own i b g h1 h2;exact ⟨a1,a2.mv (hx.block g a2.lt trivial) (Kp.of_ext hx) (λ_ _ h=>h) (Cpt.ext hx)⟩,S.vir,λt=>Rd.mv (Kp.of_ext hx) (λ_ _ h=>h) _ _ _ _ _ _ (Cpt.ext hx) (S.rd t),S.ext.trans (Kp.of_ext hx),S.fr,S.impx hx,S.pin⟩
def Sat.alloc [NL] (S:Sat D0 w0 s h ρ e w) {d:Nat} (hd:h d=none) (hd5:d < 5000) (hx:Ext w w') (hg:w.heap.size<=g) {cs:Array Value} (hb:Blk w' g b.T cs) (hn:∀ u ∈ cs.toList,q4E u=true) (hst:b.st=false)
  {vs:List Value} (h1:cs.toList.take (b.xs.length*ksz b.k)=q01 vs) (h2:RdL w (dm D0 ρ h) b.xs ρ h vs) (h3:∀ v ∈ vs,q2T b.k v) :
  Sat D0 w0 s (q0P h d b) (upo ρ d (some g)) e w'/\(∀ k,k < w.heap.size->dm D0 ρ h k->dm D0 (upo ρ d (some g)) (q0P h d b) k)/\Cpt w w' ρ h (upo ρ d (some g)) (q0P h d b):=by
 have hne:∀ i c,h i=some c->i≠d:=λi c hi e=>by subst e; rw [hd] at hi; cases hi
 have hc:Cpt w w' ρ h (upo ρ d (some g)) (q0P h d b):=λi c hi=>⟨q08 (hne i c hi),⟨c,by rw [q0A (hne i c hi)]; exact hi,rfl,yL _⟩,λ_ _ _ hb=>hb.ext hx⟩;have hdd:∀ k,k < w.heap.size->dm D0 ρ h k->dm D0 (upo ρ d (some g)) (q0P h d b) k:=λk hk hq=>⟨hq.1,λi c hi=>by
  by_cases hi':i=d
  .subst hi'; rw [q0p]; intro e; cases e; omega
  .rw [q0A hi'] at hi; rw [q08 hi']; exact hq.2 i c hi⟩
 have hk:Kp (dm D0 ρ h) w w':=Kp.of_ext hx;refine ⟨⟨λi j c c' g' hi hj hs ri rj=>?_,λi c g' hi ri=>?_,λi c hi ri=>?_,λt=>Rd.mv hk hdd _ _ _ _ _ _ hc (S.rd t),S.ext.trans (Kp.of_ext hx),S.fr,S.impx hx,S.pino hd5⟩,hdd,hc⟩
 .have hold:∀ i c,h i=some c->ρ i=some g->False:=λi c hi ri=>by
   have:=(S.own i c g hi ri).2.lt; omega
  by_cases hi':i=d <;> by_cases hj':j=d
  .exact .inl (hi'.trans hj'.symm)
  .subst hi';rw [q0p] at ri; cases ri;rw [q0A hj'] at hj; rw [q08 hj'] at rj;exact (hold j _ hj rj).elim
  .subst hj';rw [q0p] at rj; cases rj;rw [q0A hi'] at hi; rw [q08 hi'] at ri;exact (hold i _ hi ri).elim
  .rw [q0A hi'] at hi; rw [q08 hi'] at ri;rw [q0A hj'] at hj; rw [q08 hj'] at rj;exact S.inj i j c c' g' hi hj hs ri rj
 .by_cases hi':i=d
  .subst hi';rw [q0p] at ri; cases ri;rw [q0H] at hi; cases hi;exact ⟨⟨λhF=>by have:=w0.lt g hF; have:=S.ext.size; omega,S.fr g (zL S.ext.size hg)⟩,.inr ⟨cs,hb,hn,λ_=>⟨vs,h1,RdL.mv hk hdd _ _ _ _ _ _ hc h2,h3⟩⟩⟩
  .rw [q0A hi'] at hi; rw [q08 hi'] at ri;obtain ⟨a1,a2⟩:=S.own i c g' hi ri;exact ⟨a1,a2.mv (hx.block g' a2.lt trivial) hk hdd hc⟩
 .by_cases hi':i=d
  .subst hi'; rw [q0p] at ri; cases ri
  .rw [q0A hi'] at hi; rw [q08 hi'] at ri; exact S.vir i c hi ri
def Sat.virt [NL] (S:Sat D0 w0 s h ρ e w) {d:Nat} (hd:h d=none) (hd5:d < 5000) (hxs:b.xs=[]) :
  Sat D0 w0 s (q0P h d b) (upo ρ d none) e w/\(∀ k,dm D0 ρ h k->dm D0 (upo ρ d none) (q0P h d b) k)/\Cpt w w ρ h (upo ρ d none) (q0P h d b):=by
 have hne:∀ i c,h i=some c->i≠d:=λi c hi e=>by subst e; rw [hd] at hi; cases hi
 have hc:Cpt w w ρ h (upo ρ d none) (q0P h d b):=λi c hi=>⟨q08 (hne i c hi),⟨c,by rw [q0A (hne i c hi)]; exact hi,rfl,yL _⟩,λ_ _ _ hb=>hb⟩;have hdd:∀ k,dm D0 ρ h k->dm D0 (upo ρ d none) (q0P h d b) k:=λk hq=>⟨hq.1,λi c hi=>by
  by_cases hi':i=d
  .subst hi'; rw [q0p]; intro e; cases e
  .rw [q0A hi'] at hi; rw [q08 hi']; exact hq.2 i c hi⟩
 have hk:Kp (dm D0 ρ h) w w:=Kp.refl _ _;refine ⟨⟨λi j c c' g' hi hj hs ri rj=>?_,λi c g' hi ri=>?_,λi c hi ri=>?_,λt=>Rd.mv hk (λk _=>hdd k) _ _ _ _ _ _ hc (S.rd t),S.ext,S.fr,S.imp,S.pino hd5⟩,hdd,hc⟩
 .have hi':i≠d:=λe=>by subst e; rw [q0p] at ri; cases ri
  have hj':j≠d:=λe=>by subst e; rw [q0p] at rj; cases rj
  rw [q0A hi'] at hi; rw [q08 hi'] at ri;rw [q0A hj'] at hj; rw [q08 hj'] at rj;exact S.inj i j c c' g' hi hj hs ri rj
 .have hi':i≠d:=λe=>by subst e; rw [q0p] at ri; cases ri
  rw [q0A hi'] at hi; rw [q08 hi'] at ri;obtain ⟨a1,a2⟩:=S.own i c g' hi ri;exact ⟨a1,a2.mv rfl hk (λk _=>hdd k) hc⟩
 .by_cases hi':i=d
  .subst hi'; rw [q0H] at hi; cases hi; exact hxs
  .rw [q0A hi'] at hi; rw [q08 hi'] at ri; exact S.vir i c hi ri
def Sat.write [NL] (S:Sat D0 w0 s h ρ e w) {id:Nat} {b':Bk} (hi:h id=some b) (hr:ρ id=some g) (hst:b.st=false) (hk:Kp (λk=>k≠g) w w') {cs cs':Array Value} (hb0:Blk w g b.T cs) (hsz:cs'.size=cs.size) (hb:Blk w' g b.T cs')
  (hn:∀ u ∈ cs'.toList,q4E u=true) (hT:b'.T=b.T) (hkk:b'.k=b.k) (hs':b'.st=false) (hl:b.xs.length<=b'.xs.length)
  {vs:List Value} (h1:cs'.toList.take (b'.xs.length*ksz b.k)=q01 vs) (h2:RdL w (dm D0 ρ h) b'.xs ρ h vs) (h3:∀ v ∈ vs,q2T b.k v) :
  Sat D0 w0 s (q0P h id b') ρ e w'/\(∀ k,dm D0 ρ h k->dm D0 ρ (q0P h id b') k)/\Cpt w w' ρ h ρ (q0P h id b'):=by
 have hbs:∀ g' m,BSz w g' m->BSz w' g' m:=λg' m hq=>by
  by_cases hg:g'=g
  .subst hg;obtain ⟨c,T,q1,q2⟩:=hq;have:c=cs:=by unfold Blk at q1 hb0; rw [hb0] at q1; cases q1; rfl
   subst this;exact ⟨cs',_,hb,ω⟩
  .exact hq.kp hk hg
 have hc:Cpt w w' ρ h ρ (q0P h id b'):=λi c hc=>⟨rfl,by
  by_cases he:i=id
  .subst he; rw [hi] at hc; cases hc;exact ⟨b',q0H,hkk,hl⟩
  .exact ⟨c,by rw [q0A he]; exact hc,rfl,yL _⟩,λg m _ hb=>hbs g m hb⟩
 have hdd:∀ k,dm D0 ρ h k->dm D0 ρ (q0P h id b') k:=λk hq=>⟨hq.1,λi c hc=>by
  by_cases he:i=id
  .subst he; exact hq.2 i b hi
  .rw [q0A he] at hc; exact hq.2 i c hc⟩
 have hkd:Kp (dm D0 ρ h) w w':=hk.mono λk _ hq e=>hq.2 id b hi (by rw [hr,e]);have hge:=(S.own id b g hi hr).1;refine ⟨⟨λi j c c' g' ci cj hs ri rj=>?_,λi c g' ci ri=>?_,λi c ci ri=>?_,λt=>Rd.mv hkd (λk _=>hdd k) _ _ _ _ _ _ hc (S.rd t),S.ext.trans (hk.mono λk _ hF e=>hge.1 (e ▸ hF)),S.fr,λg' T m hi=>by
  obtain ⟨c,q1,q2,q3⟩:=S.imp g' T m hi
  by_cases hg:g'=g
  .subst hg;have h5:=q1.symm.trans hb0
   injection h5 with h5
   injection h5 with h5 h6
   subst h5;subst h6;exact ⟨cs',hb,ω,hn⟩
  .exact ⟨c,q1.kp hk hg,q2,q3⟩,S.pin⟩,hdd,hc⟩
 .by_cases ei:i=id <;> by_cases ej:j=id
  .exact .inl (ei.trans ej.symm)
  .subst ei;rw [q0A ej] at cj;have:=S.inj j i c' b g' cj hi hst rj ri
   rcases this with h | h
   .exact .inl h.symm
   .rw [hs] at h; cases h
  .subst ej;rw [q0A ei] at ci;exact S.inj i j c b g' ci hi hst ri rj
  .rw [q0A ei] at ci; rw [q0A ej] at cj;exact S.inj i j c c' g' ci cj hs ri rj
 .by_cases ei:i=id
  .subst ei;rw [q0H] at ci; cases ci;rw [hr] at ri; cases ri;refine ⟨hge,.inr ⟨cs',by rw [hT]; exact hb,hn,λ_=>⟨vs,by rw [hkk]; exact h1,RdL.mv hkd (λk _=>hdd k) _ _ _ _ _ _ hc h2,by rw [hkk]; exact h3⟩⟩⟩
  .rw [q0A ei] at ci;obtain ⟨a1,a2⟩:=S.own i c g' ci ri
   by_cases eg:g'=g
   .subst eg;have hs:=S.inj i id c b g' ci hi hst ri hr
    rcases hs with h | h
    .exact absurd h ei
    .obtain ⟨c1,c2,c3,_⟩:=a2.resolve_left λhm=>hm.no hb0;have:c.T=b.T:=by
      have h5:=hb0.symm.trans c2
      injection h5 with h5
      injection h5 with h5 h6
      exact h6.symm
     exact ⟨a1,.inr ⟨cs',by rw [this]; exact hb,hn,λhf=>by rw [h] at hf; cases hf⟩⟩
   .exact ⟨a1,a2.mv (hk.block g' a2.lt eg) hkd (λk _=>hdd k) hc⟩
 .by_cases ei:i=id
  .subst ei; rw [hr] at ri; cases ri
  .rw [q0A ei] at ci; exact S.vir i c ci ri
end
def pe (s:Nat->PV):Operand->PV
 | .tmp t=>s t
 | .const v=>.vl v
 | .global g=>.vl (.pointer (some ⟨g,0,none⟩))
 | .func f=>.vl (.func (.func f) #[] #[])
def qkF [NL] (v:Value):Prop:=v.oneCell'=true/\q4E v=true
def qbz [NL]:PV->Prop
 | .vl x=>qkF x
 | .fm G=>∀ D v w,In G D v w->q2T none v
 | .sl _ _ | .ow _ _ _ _ | .pt _ _ _ | .qt _ _ | .mp _=>True
 | _=>False
def q44 [NL]:Kd->PV->Prop
 | none,x=>qbz x
 | some n,.ag l=>(l.length=n/\n≠0)/\∀ x ∈ l,qbz x
 | some n,.fm G=>n≠0/\∀ D v w,In G D v w->q2T (some n) v
 | some _,_=>False
def q2a (P:Program) (t:TypeId) (f:Nat):Option (Nat × Kd) :=
 match P.underlying t with
 | some (.struct fs)=>match fs[f]? with
  | some d=>match q0X P t f,q09 P d.type with | some off,some k=>some (off,k) | _,_=>none
  | none=>none
 | _=>none
def ldU (bk k:Kd) (j:Nat) (u:PV):Option PV :=
 if bk=k/\j=0 then some u else
  match bk,k,u with
  | some _,none,.ag l=>l[j]?
  | some _,some m,.ag l=>if j+m<=l.length then some (.ag ((l.drop j).take m)) else none
  | _,_,_=>none
def qqO (P:Program) (t:TypeId) (f:Nat):PV->Option PV
 | .pt id i j=>(q2a P t f).map λr=>.pt id i (j+r.1)
 | .qt (some _) (.ag l)=>(q2a P t f).bind λr=>match r.2 with
  | none=>(l[r.1]?).map (.qt none)
  | some m=>if r.1+m<=l.length/\0 < m then some (.qt (some m) (.ag ((l.drop r.1).take m))) else none
 | _=>none
def qai (sz:Option Nat):PV->PV->Option PV
 | .sl k l,.vl (.int _ z)=>if sz=some (ksz k)/\0 < ksz k/\0<=z then (l[z.toNat]?).map (.qt k) else none
 | .ow id k off n,.vl (.int _ z)=>if sz=some (ksz k)/\0<=z/\z < n then some (.pt id (off+z.toNat) 0) else none
 | _,_=>none
def qbP (d:Nat):Option PV->Option Nat
 | none=>some d
 | some (.vl (.int _ z))=>if 0<=z then some z.toNat else none
 | _=>none
def slP (sz:Option Nat) (lo hi:Option PV):PV->Option PV
 | .sl k l=>(qbP l.length hi).bind λb=>(qbP 0 lo).bind λa=>if sz=some (ksz k)/\a<=b/\b<=l.length then some (.sl k ((l.take b).drop a)) else none
 | .ow id k off n=>(qbP n hi).bind λb=>(qbP 0 lo).bind λa=>if sz=some (ksz k)/\a<=b/\b<=n then some (.ow id k (off+a) (b-a)) else none
 | _=>none
def qqL (sz:Option Nat):PV->Option PV
 | .sl _ l=>sz.map λ_=>.vl (.int .i64 l.length)
 | .ow _ _ _ n=>sz.map λ_=>.vl (.int .i64 n)
 | .vl x=>(qtL sz x).map .vl
 | _=>none
def val?:PV->Option Value | .vl x=>some x | _=>none
def q73:List PV->Option (List Value)
 | []=>some []
 | x :: l=>match x,q73 l with | .vl a,some r=>some (a :: r) | _,_=>none
def pkP (c a b:PV):Option PV:=match c with | .vl (.bool true)=>some a | .vl (.bool false)=>some b | _=>none
def fNil (n:Nat):Fam:=⟨λ_ v _=>∃ b,v=.bool b/\(b=true->n=0),λ_ h=>h,λ_ h=>h⟩
def bnP (P:Program) (op:BinOp) (t:TypeId):PV->PV->Option PV
 | .vl a,.vl b=>(q0q P op t a b).map .vl
 | .sl k l,.vl (.slice none _ _)=>match op,P.underlying t with | .eql,some (.slice _)=>if 0 < ksz k then some (.fm (fNil l.length)) else none | _,_=>none
 | .ag l,.ag m=>match q73 l,q73 m with | some xs,some ys=>(q0q P op t (.agg ⟨xs⟩) (.agg ⟨ys⟩)).map .vl | _,_=>none
 | _,_=>none
def unP (op:UnOp):PV->Option PV | .vl a=>(unV op a).map .vl | _=>none
def cvP (s d:Option TypeDesc):PV->Option PV | .vl a=>(qcE s d a).map .vl | _=>none
def fdP (P:Program) (t:TypeId) (f:Nat):PV->Option PV
 | .ag l=>match P.underlying t with
  | some (.struct fs)=>match fs[f]? with
   | some d=>match P.underlying d.type with
    | some (.int _)=>l[d.offset]?
    | _=>none
   | none=>none
  | _=>none
 | _=>none
def exP (i:Nat):PV->Option PV | .tu l=>l[i]? | _=>none
def nlP:PV->Option PV | .pt id i j=>some (.pt id i j) | .qt k x=>some (.qt k x) | _=>none
def mmP (b:Bool) (l:List PV):Option PV:=(q73 l).bind λr=>(mmV b r).map .vl
def fFun (f:FuncId) (z:Int):Fam:=⟨λD v w=>∃ ad,v=.func (.func f) #[] #[.pointer (some ad)]/\D ad.block/\w.cell? ad=some (.int .i64 z),λk ⟨ad,h1,h2,h3⟩=>⟨ad,h1,h2,k.cell h2 h3⟩,λ{_ _ w _} k ⟨ad,h1,h2,h3⟩=>⟨ad,h1,k _ (World.block_lt_of_cell? w _ h3) h2,h3⟩⟩
def qtm [NL] (f:FuncId) (l:List PV):Fam:=⟨λD v w=>∃ vs,v=.func (.func f) #[] ⟨vs⟩/\RdL w D l (λ_=>none) h0 vs,λk ⟨vs,h1,h2⟩=>⟨vs,h1,RdL.mv k (λ_ _ h=>h) _ _ _ _ _ _ Cpt.h0 h2⟩,λk ⟨vs,h1,h2⟩=>⟨vs,h1,RdL.mv (Kp.refl _ _) k _ _ _ _ _ _ Cpt.h0 h2⟩⟩
def fnP [NL] (fn:Fn) (first:Array Operand):List PV->Option PV
 | [.qt none (.vl (.int .i64 z))]=>match fn with | .func f=>if first.isEmpty then some (.fm (fFun f z)) else none | _=>none
 | [.qt k x,.qt k' y]=>match fn with | .func f=>if first.isEmpty then some (.fm (qtm f [.qt k x,.qt k' y])) else none | _=>none
 | _=>none
def flP (pl:List (Nat × Nat)):List PV->List (Nat × PV)->Option (List PV)
 | cs,[]=>some cs
 | cs,(i,x) :: r=>match pl[i]? with
  | some (off,1)=>match x with
   | .vl y=>if y.oneCell'=true/\off < cs.length then flP pl (cs.set off (.vl y)) r else none
   | .sl k l=>if off < cs.length then flP pl (cs.set off (.sl k l)) r else none
   | .ow id k a n=>if off < cs.length then flP pl (cs.set off (.ow id k a n)) r else none
   | .pt id a n=>if off < cs.length then flP pl (cs.set off (.pt id a n)) r else none
   | .mp id=>if off < cs.length then flP pl (cs.set off (.mp id)) r else none
   | _=>none
  | some (off,m)=>match x with
   | .ag l=>if l.length=m/\off+m<=cs.length then flP pl (cs.take off ++ l ++ cs.drop (off+m)) r else none
   | _=>none
  | none=>none
def plc (P:Program) (t:TypeId):Option (List (Nat × Nat) × List Value) :=
 match P.info? t,P.underlying t with
 | some it,some (.struct fields) =>
  match it.zero,fields.toList.mapM (λf=>(P.info? f.type).map λi=>(f.offset,i.size)) with
  | some z,some places=>some (places,z.cells.toList)
  | _,_=>none
 | _,_=>none
def blP (P:Program) (t:TypeId) (ps:List (Nat × PV)):Option PV:=(plc P t).bind λr=>(flP r.1 (r.2.map .vl) ps).map .ag
def q48 [NL] (P:Program) (o:Op) (e:Operand->PV):Option PV :=
 match o with
 | .move x=>some (e x)
 | .assign x=>some (e x)
 | .pick c a b=>pkP (e c) (e a) (e b)
 | .binOp op t x y _=>bnP P op t (e x) (e y)
 | .unOp op _ x=>unP op (e x)
 | .convert s d x=>cvP (P.underlying s) (P.underlying d) (e x)
 | .fieldAddr t x f=>qqO P t f (e x)
 | .extract x i=>exP i (e x)
 | .field t x f=>fdP P t f (e x)
 | .nilCheck x=>nlP (e x)
 | .indexAddr t x i=>qai (q0f P t) (e x) (e i)
 | .slice t x lo hi mx=>match mx with | none=>slP (q0f P t) (lo.map e) (hi.map e) (e x) | some _=>none
 | .build t ps=>blP P t (ps.toList.map λp=>(p.1,e p.2))
 | .makeFunc fn first cap=>fnP fn first (cap.toList.map e)
 | .call c=>match c.callee with
  | .builtin .len=>match c.args.toList,c.argTypes.toList with
   | [x],[t]=>qqL (q0f P t) (e x)
   | _,_=>none
  | .builtin .max=>mmP true (c.args.toList.map e)
  | .builtin .min=>mmP false (c.args.toList.map e)
  | _=>none
 | _=>none
section
variable {w:World} {w0:Base} {D D0:Nat->Prop} {ρ:Nat->Option Nat} {h:Hp} {s:Nat->PV} {e:Env} {P:Program}
def Sat.pex [NL] (S:Sat D0 w0 s h ρ e w) (x:Operand):Rd w (dm D0 ρ h) (pe s x) ρ h (ev e x):=by
 cases x <;> simp only [E.pe,ev]
 case tmp t=>exact S.rd t
 all_goals (unfold Rd; rfl)
def q2T.cell [NL] {n:Nat} {cs:List Value} (hf:q2T (some n) (.agg ⟨cs⟩)) {j:Nat} {u:Value} (hu:cs[j]?=some u):q2T none u:=by
 obtain ⟨c,h1,h2,h3⟩:=hf;cases h1;have:=h3 u (by simpa using yR hu);refine ⟨?_,this.1,this.2⟩;obtain ⟨h4,_⟩:=this;cases u <;> first | rfl | cases h4
def q16 {u:Value} (h:u.oneCell'=true):u.cells=#[u]:=by cases u <;> first | rfl | cases h
def q2T.part [NL] {n j m:Nat} {cs:List Value} (hf:q2T (some n) (.agg ⟨cs⟩)) (hj:j+m<=cs.length):q2T (some m) (.agg ⟨(cs.drop j).take m⟩):=by
 obtain ⟨c,h1,h2,h3⟩:=hf;cases h1;refine ⟨_,rfl,by simp; omega,λu hu=>h3 u ?_⟩;simp only at hu;exact xP (vM hu)
def qkZ [NL] {bk k:Kd} {j:Nat} {u x:PV} {y:Value} (hl:ldU bk k j u=some x) (hr:Rd w D u ρ h y) (hf:q2T bk y) (hk:0 < ksz k):∃ z,Rd w D x ρ h z/\q2T k z/\∀ i v,z.cells.toList[i]?=some v->y.cells.toList[j+i]?=some v:=by
 unfold ldU at hl
 split at hl
 .rename_i hh;obtain ⟨rfl,rfl⟩:=hh;cases hl;exact ⟨y,hr,hf,λi v hv=>by rw [yW]; exact hv⟩
 .split at hl
  .rename_i n l _;unfold Rd at hr;obtain ⟨vs,rfl,h1⟩:=hr;obtain ⟨z,h2,h3⟩:=h1.get hl;have h4:=hf.cell h2;refine ⟨z,h3,h4,λi v hv=>?_⟩;rw [h4.1] at hv;cases i with
   | zero=>simp at hv; subst hv; simpa [Value.cells] using h2
   | succ i=>simp at hv
  .rename_i n m l _
   split at hl
   .rename_i hjm;cases hl;unfold Rd at hr;obtain ⟨vs,rfl,h1⟩:=hr;have:=h1.len;refine ⟨.agg ⟨(vs.drop j).take m⟩,by unfold Rd; exact ⟨_,rfl,(h1.drop j).take m⟩,hf.part Oq,λi v hv=>?_⟩;simp only [Value.cells,vH] at hv ⊢
    split at hv
    .rw [zP] at hv; exact hv
    .cases hv
   .cases hl
  .cases hl
def qan {t f:Nat} {r:Nat × Kd} (hh:q2a P t f=some r):q0X P t f=some r.1:=by
 unfold q2a at hh
 split at hh
 .split at hh
  .split at hh
   .rename_i h1 _; cases hh; exact h1
   .cases hh
  .cases hh
 .cases hh
def q5F [NL]:∀ {l:List PV} {r:List Value} {ys:List Value},q73 l=some r->RdL w D l ρ h ys->ys=r
 | [],r,ys,hv,hr=>by unfold RdL at hr; unfold q73 at hv; cases hv; exact hr
 | x :: l,r,ys,hv,hr=>by
  unfold RdL at hr;obtain ⟨y,zs,rfl,h1,h2⟩:=hr;unfold q73 at hv
  split at hv
  .rename_i a r' hx;cases hv;unfold Rd at h1;rw [h1,q5F hx h2]
  .cases hv
def q4V [NL] {f:Operand->PV} {g:Operand->Value} (hfg:∀ x,Rd w D (f x) ρ h (g x)):∀ (l:List Operand),RdL w D (l.map f) ρ h (l.map g)
 | []=>by unfold RdL; rfl
 | x :: l=>by unfold RdL; exact ⟨_,_,rfl,hfg x,q4V hfg l⟩
def q3y [NL] (l:List Value):RdL w D (l.map .vl) ρ h l:=by
 induction l with
 | nil=>unfold RdL; rfl
 | cons x l ih=>rw [yU]; unfold RdL; exact ⟨_,_,rfl,by unfold Rd; rfl,ih⟩
def q3S (off:Nat):∀ (l:List Value) (k:Nat) (cs:Array Value),off+k+l.length<=cs.size->∃ r,(l.zipIdx k).foldl (λcs p=>cs.setIfInBounds (off+p.2) p.1) cs=r/\r.size=cs.size/\∀ i:Nat,r[i]?=if off+k<=i/\i < off+k+l.length then l[i-(off+k)]? else cs[i]?
 | [],k,cs,_=>⟨cs,rfl,rfl,λi=>by rw [if_neg σ]⟩
 | v :: l,k,cs,hl=>by
  rw [yA] at hl;obtain ⟨r,h1,h2,h3⟩:=q3S off l (k+1) (cs.setIfInBounds (off+k) v) (by rw [vE]; omega);refine ⟨r,by rw [List.zipIdx_cons,List.foldl_cons]; exact h1,by rw [h2,vE],λi=>?_⟩;rw [h3 i,yX,yA]
  by_cases c1:off+(k+1)<=i/\i < off+(k+1)+l.length
  .rw [if_pos c1,if_pos ω,show i-(off+k)=(i-(off+(k+1)))+1 by omega,x8]
  .rw [if_neg c1]
   by_cases c2:off+k=i
   .subst c2;rw [if_pos rfl,if_pos ω,if_pos ω,Nat.sub_self]
    rfl
   .rw [if_neg c2,if_neg ω]
def q9U [NL] {pl:List (Nat × Nat)}:∀ (ps:List (Nat × Operand)) {f:Operand->PV} {g:Operand->Value} (hfg:∀ x,Rd w D (f x) ρ h (g x)) (cs:List PV) (vs:Array Value) (r:List PV),flP pl cs (ps.map λp=>(p.1,f p.2))=some r->RdL w D cs ρ h vs.toList ->
  ∃ us,Instr.fill (pl.toArray[·]?) vs (ps.map λp=>(p.1,g p.2))=some us/\RdL w D r ρ h us.toList
 | [],f,g,hfg,cs,vs,r,hf,hr=>by
  rw [y6] at hf;unfold flP at hf;cases hf;exact ⟨vs,rfl,hr⟩
 | (i,x) :: ps,f,g,hfg,cs,vs,r,hf,hr=>by
  have hlen:=hr.len;rw [yU] at hf ⊢;unfold flP at hf;simp only at hf;have key:∀ off,pl[i]?=some (off,1)->(g x).oneCell'=true->off < cs.length->flP pl (cs.set off (f x)) (ps.map λp=>(p.1,f p.2))=some r->∃ us,Instr.fill (pl.toArray[·]?) vs ((i,g x) :: ps.map λp=>(p.1,g p.2))=some us/\RdL w D r ρ h us.toList:=λoff ho h1 h2 h3=>by
   obtain ⟨us,e1,e2⟩:=q9U ps hfg (cs.set off (f x)) (vs.setIfInBounds off (g x)) r h3 (by rw [Array.toList_setIfInBounds]; exact hr.set (hfg x) off);refine ⟨us,?_,e2⟩;unfold Instr.fill;rw [vI,ho];simp only [q16 h1];rw [if_neg (by simp at hlen ⊢; omega)];simpa using e1
  split at hf
  .rename_i off ho;have hx:=hfg x
   split at hf <;> rename_i hfx
   .split at hf
    .rename_i hc;have hx':=hx;rw [hfx] at hx';unfold Rd at hx';exact key off ho (by rw [hx']; exact hc.1) hc.2 (by rw [hfx]; exact hf)
    .cases hf
   .split at hf
    .rename_i hc;have hx':=hx;rw [hfx] at hx';unfold Rd at hx';obtain ⟨_,_,_,_,e,_⟩:=hx';exact key off ho (by rw [e]; rfl) hc (by rw [hfx]; exact hf)
    .cases hf
   .split at hf
    .rename_i hc;have hx':=hx;rw [hfx] at hx';unfold Rd at hx';obtain ⟨_,_,_,_,_,e,_⟩:=hx';exact key off ho (by rw [e]; rfl) hc (by rw [hfx]; exact hf)
    .cases hf
   .split at hf
    .rename_i hc;have hx':=hx;rw [hfx] at hx';unfold Rd at hx';obtain ⟨_,_,_,_,_,e⟩:=hx';exact key off ho (by rw [e]; rfl) hc (by rw [hfx]; exact hf)
    .cases hf
   .split at hf
    .rename_i hc;have hx':=hx;rw [hfx] at hx';unfold Rd at hx';obtain ⟨_,_,_,_,e⟩:=hx';exact key off ho (by rw [e]; rfl) hc (by rw [hfx]; exact hf)
    .cases hf
   .cases hf
  .rename_i off m _ ho
   split at hf
   .rename_i l hfx
    split at hf
    .rename_i hc;have hx:=hfg x;rw [hfx] at hx;unfold Rd at hx;obtain ⟨rs,e,hr2⟩:=hx;have hrl:=hr2.len;have hvs:vs.toList.length=cs.length:=hlen;obtain ⟨q,q1,q2,q3⟩:=q3S off rs 0 vs (by rw [zX] at hvs; omega);have hq:q.toList=vs.toList.take off ++ rs ++ vs.toList.drop (off+m):=by
      apply xI
      intro n;rw [yN,q3 n,xR,xR,vH,zP];have ht:(List.take off vs.toList).length=off:=by rw [zU]; omega
      rw [w8,ht]
      by_cases c1:n < off
      .rw [if_neg ω,if_pos ω,if_pos c1,if_pos c1,yN]
      .by_cases c2:n < off+rs.length
       .rw [if_pos ω,if_pos c2,if_neg c1,vP]
       .rw [if_neg ω,if_neg c2,yN,show off+m+(n-(off+rs.length))=n by omega]
     obtain ⟨us,e1,e2⟩:=q9U ps hfg _ q r hf (by rw [hq]; exact ((hr.take off).app hr2).app (hr.drop (off+m)));refine ⟨us,?_,e2⟩;unfold Instr.fill;rw [vI,ho];simp only [e,Value.cells];rw [if_neg (by rw [zX] at hvs; simp; omega)];rw [<- Array.foldl_toList,Array.toList_zipIdx];rw [q1];exact e1
    .cases hf
   .cases hf
  .cases hf
def qbO [NL] {d y:Nat} {o:Option PV} {b:Nat} {ov:Option Value} (hb:qbP d o=some b) (ho:(o=none/\ov=none)\/∃ x v,o=some x/\ov=some v/\Rd w D x ρ h v) (hy:b<=y):q3I y ov d=some b:=by
 rcases ho with ⟨rfl,rfl⟩ | ⟨x,v,rfl,rfl,hr⟩
 .exact hb
 .unfold qbP at hb
  split at hb
  .rename_i hx; cases hx
  .rename_i hx;cases hx;unfold Rd at hr;subst hr
   split at hb
   .cases hb;simp only [q3I];rw [if_pos ω]
   .cases hb
  .cases hb
def sl_ok [NL] {sz:Option Nat} {lo hi:Option Operand} {x:Operand} {r:PV} {f:Operand->PV} {g:Operand->Value} (hfg:∀ x,Rd w D (f x) ρ h (g x)) (hp:slP sz (lo.map f) (hi.map f) (f x)=some r):∃ v,q1x sz (lo.map g) (hi.map g) (g x)=some v/\Rd w D r ρ h v:=by
 have hlo:∀ o:Option Operand,(o.map f=none/\o.map g=none)\/∃ x v,o.map f=some x/\o.map g=some v/\Rd w D x ρ h v:=λo=>by
  cases o with
  | none=>exact .inl ⟨rfl,rfl⟩
  | some o=>exact .inr ⟨_,_,rfl,rfl,hfg o⟩
 have hx:=hfg x;unfold slP at hp
 split at hp
 .rename_i k l hfx;rw [hfx] at hx;unfold Rd at hx;obtain ⟨A,n,c,vs,e,h1,h2,h3,h4⟩:=hx;obtain ⟨b,hb,hp1⟩:=zO.1 hp;obtain ⟨a,ha,hp2⟩:=zO.1 hp1;clear hp hp1
  split at hp2
  .rename_i hc;obtain ⟨hsz,hab,hbn⟩:=hc;subst hsz;obtain rfl:=zE.inj hp2;have hvl:=h3.len;have hcap:=h1.cap;rw [h2] at hb;have q1:=qbO (y:=c) hb (hlo hi) Oq;have q2:=qbO (y:=b) ha (hlo lo) Oq;rw [e];refine ⟨_,by unfold q1x; simp only [q1,q2]; rfl,?_⟩;unfold Rd;have hcs:∀ v ∈ vs,v.cells.size=ksz k:=λv hv=>(h4 v hv).size;have r1:=(h1.take (m:=b) Oq).drop (m:=a) Oq;rw [<- q3e hcs,<- q3f (λv hv=>hcs v (vM hv))] at r1;exact ⟨_,_,_,(vs.take b).drop a,rfl,r1,by simp; omega,(h3.take b).drop a,λv hv=>h4 v (vM (xP hv))⟩
  .cases hp2
 .rename_i id k off n hfx;rw [hfx] at hx;unfold Rd at hx;obtain ⟨bk,A,c,e1,e2,e,hn,hm,hl,h6,h7⟩:=hx;obtain ⟨b,hb,hp1⟩:=zO.1 hp;obtain ⟨a,ha,hp2⟩:=zO.1 hp1;clear hp hp1
  split at hp2
  .rename_i hc;obtain ⟨hsz,hab,hbn⟩:=hc;subst hsz;obtain rfl:=zE.inj hp2;have q1:=qbO (y:=c) hb (hlo hi) Oq;have q2:=qbO (y:=b) ha (hlo lo) Oq;rw [e];refine ⟨_,by unfold q1x; simp only [q1,q2]; rfl,?_⟩;unfold Rd;have mv:∀ {A:Option Addr},AtO w (ρ id) A (off*ksz k) ((off+c)*ksz k)->¬ c=a->AtO w (ρ id) (if c=a then A else A.map (·.add (a*ksz k))) ((off+a)*ksz k) ((off+a+(c-a))*ksz k):=λ⟨g,g1,g2,g3⟩ hca=>by
    refine ⟨g,g1,?_,by rw [show off+a+(c-a)=off+c by omega]; exact g3⟩;rw [if_neg hca,g2];simp only [yY,q19,yH]
   refine ⟨bk,_,c-a,e1,e2,rfl,ω,ω,ω,?_,λh0=>?_⟩
   .by_cases hca:c=a
    .exact .inl Oq
    .rcases h6 with h6 | h6
     .omega
     .exact .inr (mv h6 hca)
   .have h0a:a=0:=ω
    have h00:off=0:=ω
    subst h0a;subst h00;simp only [wC,Nat.sub_zero,vP,yW] at h7 ⊢;have hA:(if c=0 then A else A.map (·.add 0))=A:=by
     split
     .rfl
     .cases A <;> simp [Addr.add]
    rw [hA];exact h7 trivial
  .cases hp2
 .cases hp
def qtT [NL] {sz:Option Nat} {ar:Option (Nat × Nat)} {x i r:PV} {a b:Value} (ha:Rd w D x ρ h a) (hb:Rd w D i ρ h b) (hp:qai sz x i=some r):∃ v,qh0 sz ar a b=some v/\Rd w D r ρ h v:=by
 unfold qai at hp
 split at hp
 .rename_i k l kk z
  split at hp
  .rename_i hc;obtain ⟨rfl,hk,hz⟩:=hc;obtain ⟨y,hy,hp⟩:=zA.1 hp;subst hp;unfold Rd at ha hb;subst hb;obtain ⟨A,n,c,vs,rfl,h1,h2,h3,h4⟩:=ha;obtain ⟨u,hu,hur⟩:=h3.get hy;have hlt:=(yO.1 hy).1;have hcs:∀ v ∈ vs,v.cells.size=ksz k:=λv hv=>(h4 v hv).size;have hfl:=q0l hcs;have hvl:=h3.len;have hpos:0 < (q01 vs).length:=by rw [hfl]; exact zS ω hk
   obtain ⟨ad,rfl,hd,hcell⟩:=h1.at_ hpos;have hcl:∀ (ρ':Nat->Option Nat) (h':Hp),Rd w D y ρ' h' u:=λρ' h'=>Rd.mv (Kp.refl _ _) (λ_ _ h=>h) _ _ _ _ _ _ Cpt.h0 hur;refine ⟨.pointer (some (ad.add (z.toNat*ksz k))),?_,?_⟩
   .simp only [qh0];rw [if_pos ω]
   .unfold Rd;refine ⟨_,u,rfl,by rw [q1G]; exact hd,hcl _ _,⟨h4 u (yR hu),hk⟩,λj t ht=>?_⟩;rw [q7L];refine hcell _ t ?_;have hj:j < ksz k:=by
     have:=(yO.1 ht).1;rw [zX,hcs u (yR hu)] at this;exact this
    rw [q4v hcs hu hj];simpa using ht
  .cases hp
 .rename_i id k off n kk z
  split at hp
  .rename_i hc;obtain ⟨rfl,hz,hzn⟩:=hc;cases hp;unfold Rd at ha hb;subst hb;obtain ⟨bk,A,c,e1,e2,rfl,hn,hm,hl,h6,h7⟩:=ha;have hc0:c≠0:=ω
   rcases h6 with h6 | ⟨g,g1,g2,g3⟩
   .exact absurd h6 hc0
   .subst g2;refine ⟨.pointer (some ⟨g,off*ksz k+z.toNat*ksz k,none⟩),?_,?_⟩
    .simp only [qh0,q19];rw [if_pos ω]
    .unfold Rd;exact ⟨bk,g,e1,g1,ω,by rw [e2,yH,vP]⟩
  .cases hp
 .cases hp
def qme [NL] (S:Sat D0 w0 s h ρ e w) {o:Oper} {x:PV} (hp:q48 P o.op (pe s)=some x) {K:Value->World->Prop} (hK:∀ v,Rd w (dm D0 ρ h) x ρ h v->K v w):wo P o e w K:=by
 obtain ⟨dst,op,ty,pos,af,gd⟩:=o;have hS:=S.pex;unfold q48 at hp;unfold wo;cases op <;> (try (cases hp; done)) <;> simp only at hp ⊢
 case move=>cases hp; exact hK _ (hS _)
 case assign=>cases hp; exact hK _ (hS _)
 case pick c a b =>
  unfold pkP at hp;have hc:=hS c
  split at hp
  .rename_i hx; rw [hx] at hc; unfold Rd at hc; cases hp; rw [hc]; exact hK _ (hS _)
  .rename_i hx; rw [hx] at hc; unfold Rd at hc; cases hp; rw [hc]; exact hK _ (hS _)
  .cases hp
 case binOp op t a b _ =>
  unfold bnP at hp;have ha:=hS a;have hb:=hS b
  split at hp
  .rename_i h1 h2;rw [h1] at ha; rw [h2] at hb;unfold Rd at ha hb;obtain ⟨v,hv,rfl⟩:=zA.1 hp;rw [ha,hb,hv];exact hK _ (by unfold Rd; rfl)
  .rename_i k l _ _ h1 h2;rw [h1] at ha; rw [h2] at hb;unfold Rd at ha hb;obtain ⟨A,n,c,vs,q1,q2,q3,q4,q5⟩:=ha
   split at hp
   .rename_i hu
    split at hp
    .rename_i hk;cases hp;rw [hb,q1,q9i hu];refine hK _ ?_;unfold Rd;refine ⟨_,rfl,λh=>?_⟩
     rcases yF n with h0 | h0
     .omega
     .obtain ⟨ad,e,_⟩:=q2.at_ (by rw [q2.len]; exact zS h0 hk);rw [e] at h; cases h
    .cases hp
   .cases hp
  .rename_i l m h1 h2;rw [h1] at ha; rw [h2] at hb;unfold Rd at ha hb
   split at hp
   .rename_i xs ys hx hy;obtain ⟨vs,q1,q2⟩:=ha;obtain ⟨us,q3,q4⟩:=hb;have e1:=q5F hx q2;have e2:=q5F hy q4;subst e1; subst e2;obtain ⟨v,hv,rfl⟩:=zA.1 hp;rw [q1,q3,hv];exact hK _ (by unfold Rd; rfl)
   .cases hp
  .cases hp
 case unOp op t a =>
  unfold unP at hp;have ha:=hS a
  split at hp
  .rename_i h1;rw [h1] at ha;unfold Rd at ha;obtain ⟨v,hv,rfl⟩:=zA.1 hp;rw [ha,hv];exact hK _ (by unfold Rd; rfl)
  .cases hp
 case convert a b c =>
  unfold cvP at hp;have ha:=hS c
  split at hp
  .rename_i h1;rw [h1] at ha;unfold Rd at ha;obtain ⟨v,hv,rfl⟩:=zA.1 hp;rw [ha,hv];exact hK _ (by unfold Rd; rfl)
  .cases hp
 case fieldAddr t a f =>
  unfold qqO at hp;have ha:=hS a
  split at hp
  .rename_i id i j h1;rw [h1] at ha;unfold Rd at ha;obtain ⟨b,g,g1,g2,g3,g4⟩:=ha;obtain ⟨r,hr,rfl⟩:=zA.1 hp;rw [g4];simp only [qan hr,q2l,q19];exact hK _ (by unfold Rd; exact ⟨b,g,g1,g2,g3,by rw [xA]⟩)
  .rename_i n l h1;rw [h1] at ha;unfold Rd at ha;obtain ⟨ad,z,q1,q2,q3,q4,q5⟩:=ha;obtain ⟨r,hr,hp⟩:=zO.1 hp;rw [q1];simp only [qan hr,q2l];unfold Rd at q3;obtain ⟨vs,rfl,q6⟩:=q3
   split at hp
   .obtain ⟨y,hy,rfl⟩:=zA.1 hp;obtain ⟨u,hu,hur⟩:=q6.get hy;have hfu:=q4.1.cell hu;refine hK _ ?_;unfold Rd;refine ⟨_,u,rfl,by rw [q1G]; exact q2,hur,⟨hfu,Nat.one_pos⟩,λj t ht=>?_⟩;rw [hfu.1] at ht;rw [q7L];cases j with
    | zero=>simp at ht; subst ht; exact q5 _ _ (by simpa [Value.cells] using hu)
    | succ j=>simp at ht
   .rename_i m _
    split at hp
    .rename_i hrm;cases hp;have:=q6.len;refine hK _ ?_;unfold Rd;refine ⟨_,.agg ⟨(vs.drop r.1).take m⟩,rfl,by rw [q1G]; exact q2,by unfold Rd; exact ⟨_,rfl,(q6.drop _).take _⟩,⟨q4.1.part ω,hrm.2⟩,λj t ht=>?_⟩;rw [q7L];refine q5 _ t ?_;simp only [Value.cells,vH] at ht ⊢
     split at ht
     .rw [zP] at ht; exact ht
     .cases ht
    .cases hp
  .cases hp
 case field t a f =>
  unfold fdP at hp;have ha:=hS a
  split at hp
  .rename_i l h1
   split at hp
   .rename_i fs hu
    split at hp
    .rename_i d hd
     split at hp
     .rename_i k hk;rw [h1] at ha;unfold Rd at ha;obtain ⟨vs,q1,q2⟩:=ha;obtain ⟨v,hv,hr⟩:=q2.get hp;have key:(Instr.field t (ev e a) f).run P w=.ok v w:=by
       rw [q1];simp [Instr.field,run_underlying hu,hd,asAgg,part,isAgg,run_underlying hk,hv]
      unfold WO;simp only [execOp,Sem.run_bind,key];exact hK _ hr
     .cases hp
    .cases hp
   .cases hp
  .cases hp
 case extract a i =>
  unfold exP at hp;have ha:=hS a
  split at hp
  .rename_i l h1;rw [h1] at ha;unfold Rd at ha;obtain ⟨vs,q1,q2⟩:=ha;obtain ⟨v,hv,hr⟩:=q2.get hp;rw [q1];simp only [qke];rw [vI,hv];exact hK _ hr
  .cases hp
 case nilCheck a =>
  unfold nlP at hp;have ha:=hS a
  split at hp
  .rename_i h1;cases hp;rw [h1] at ha;have ha':=ha;unfold Rd at ha';obtain ⟨b,g,g1,g2,g3,g4⟩:=ha';rw [g4] at ha ⊢;exact hK _ ha
  .rename_i h1;cases hp;rw [h1] at ha;have ha':=ha;unfold Rd at ha';obtain ⟨ad,z,q1,_⟩:=ha';rw [q1] at ha ⊢;exact hK _ ha
  .cases hp
 case indexAddr t a i =>
  obtain ⟨v,h1,h2⟩:=qtT (ar:=qcK P t) (hS a) (hS i) hp;rw [h1];exact hK _ h2
 case slice t a lo hi mx =>
  cases mx with
  | some _=>cases hp
  | none =>
   obtain ⟨v,h1,h2⟩:=sl_ok hS hp;simp only;rw [h1];exact hK _ h2
 case build t ps =>
  unfold blP at hp;obtain ⟨r,hr,hp⟩:=zO.1 hp;obtain ⟨cs,hcs,rfl⟩:=zA.1 hp;unfold plc at hr;unfold Program.built
  split at hr
  .rename_i it fs h1 h2
   split at hr
   .rename_i z pl h3 h4;cases hr;rw [h1,h2];simp only [h3,h4];rw [vF];obtain ⟨us,e1,e2⟩:=q9U (w:=w) (D:=dm D0 ρ h) (ρ:=ρ) (h:=h) (g:=ev e) ps.toList hS (z.cells.toList.map .vl) z.cells cs hcs (q3y _);rw [e1];exact hK _ (by unfold Rd; exact ⟨us.toList,rfl,e2⟩)
   .cases hr
  .cases hr
 case makeFunc fn first cap =>
  unfold fnP at hp
  split at hp
  .rename_i z hz
   split at hp
   .rename_i f
    split at hp
    .rename_i hf;cases hp;have hf:first=#[]:=by cases first with | mk fl=>cases fl with | nil=>rfl | cons a b=>cases hf
     obtain ⟨c,hc,hcz⟩:∃ c,cap.toList=[c]/\pe s c=.qt none (.vl (.int .i64 z)):=by
      obtain ⟨cl⟩:=cap
      match cl,hz with
      | [],hz=>cases hz
      | [a],hz=>exact ⟨a,rfl,(xC.inj hz).1⟩
      | a :: a' :: b',hz=>cases (xC.inj hz).2
     have hr:=hS c;rw [hcz] at hr;unfold Rd at hr;obtain ⟨ad,z',q1,q2,q3,q4,q5⟩:=hr;unfold Rd at q3;subst q3;have hcv:cap.map (ev e)=#[.pointer (some ad)]:=by
      cases cap;simp only at hc;subst hc;simp [q1]
     unfold WO;subst hf;simp only [execOp,Instr.makeFunc,hcv];refine hK _ ?_;unfold Rd;refine ⟨ad,σ,q2,?_⟩;have:=q5 0 (.int .i64 z) rfl
     rwa [add_zero] at this
    .cases hp
   .cases hp
  .rename_i k x k' y hz
   split at hp
   .rename_i f
    split at hp
    .rename_i hf;cases hp;have hf:first=#[]:=by cases first with | mk fl=>cases fl with | nil=>rfl | cons a b=>cases hf
     obtain ⟨a,b,hc,ha,hb⟩:∃ a b,cap.toList=[a,b]/\pe s a=.qt k x/\pe s b=.qt k' y:=by
      obtain ⟨cl⟩:=cap
      match cl,hz with
      | [],hz=>cases hz
      | [a],hz=>cases (xC.inj hz).2
      | [a,b],hz=>exact ⟨a,b,rfl,(xC.inj hz).1,(xC.inj (xC.inj hz).2).1⟩
      | a :: b :: c :: r,hz=>cases (xC.inj (xC.inj hz).2).2
     have ra:=hS a;have rb:=hS b;rw [ha] at ra;rw [hb] at rb;have hcv:cap.map (ev e)=#[ev e a,ev e b]:=by
      cases cap;simp only at hc;subst hc;simp
     unfold WO;subst hf;simp only [execOp,Instr.makeFunc,hcv];refine hK _ ?_;unfold Rd;refine ⟨[ev e a,ev e b],σ,?_⟩;unfold RdL;refine ⟨_,_,rfl,by unfold Rd at ra ⊢; exact ra,?_⟩;unfold RdL;exact ⟨_,_,rfl,by unfold Rd at rb ⊢; exact rb,by unfold RdL; rfl⟩
    .cases hp
   .cases hp
  .cases hp
 case call c =>
  obtain ⟨callee,args,tys⟩:=c;simp only at hp ⊢
  split at hp
  .split at hp
   .rename_i a t hat htt;simp only [hat,htt];have ha:=hS a;unfold qqL at hp
    split at hp
    .rename_i h1;rw [h1] at ha;unfold Rd at ha;obtain ⟨A,n,c,vs,e1,_,e2,_⟩:=ha;obtain ⟨q,hq,rfl⟩:=zA.1 hp;rw [e1,hq];refine hK _ ?_;unfold Rd;rw [e2]
    .rename_i h1;rw [h1] at ha;unfold Rd at ha;obtain ⟨b,A,c,_,_,e1,_⟩:=ha;obtain ⟨q,hq,rfl⟩:=zA.1 hp;rw [e1,hq];exact hK _ (by unfold Rd; rfl)
    .rename_i h1;rw [h1] at ha;unfold Rd at ha;obtain ⟨v,hv,rfl⟩:=zA.1 hp;rw [ha,hv];exact hK _ (by unfold Rd; rfl)
    .cases hp
   .cases hp
  .unfold mmP at hp;obtain ⟨r,hr,hp⟩:=zO.1 hp;obtain ⟨v,hv,rfl⟩:=zA.1 hp;have:=q5F hr (q4V (g:=ev e) hS args.toList);simp only [this,hv];exact hK _ (by unfold Rd; rfl)
  .unfold mmP at hp;obtain ⟨r,hr,hp⟩:=zO.1 hp;obtain ⟨v,hv,rfl⟩:=zA.1 hp;have:=q5F hr (q4V (g:=ev e) hS args.toList);simp only [this,hv];exact hK _ (by unfold Rd; rfl)
  .cases hp
end
end Go.E
