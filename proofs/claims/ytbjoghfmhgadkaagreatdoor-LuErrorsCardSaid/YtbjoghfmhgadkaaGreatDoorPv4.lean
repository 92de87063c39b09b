/- LuBounded and LuErrors are proved. 4/6. -/
import Derived.Test.YtbjoghfmhgadkaaGreatDoorPv3
open Bool renaming false_eq_true->wL
open Int renaming toNat_natCast->zD,sign_eq_zero_iff_zero->zN,natAbs_natCast->yB,natAbs_neg->yG,sign_eq_one_of_pos->yJ,zero_mul->yP,le_refl->yW,mul_comm->yY,toNat->xF,tmod_eq_emod_of_nonneg->xG,fdiv_eq_ediv_of_nonneg->xH,mul_assoc->xP,natAbs_mul->wH,neg_mul->wR
open List renaming getElem?_eq_getElem->zA,getElem?_eq_some_iff->zB,getD_eq_getElem?_getD->zC,mem_of_getElem?->zF,mem_map->zH,mem_append->zJ,getElem?_append_left->zM,getElem?_range->zO,map_congr_left->zP,getElem?_map->zQ,map_cons->zR,mem_cons_of_mem->zS,mem_range->uO,getElem?_eq_none->zU,getElem?_append_right->zV,mem_cons_self->zW,take_length->zY,mem_cons->uP,map_append->z7,length_append->z8,length_range->yA,length_map->yC,take_succ_eq_append_getElem->uQ,mem_append_left->yE,not_mem_nil->yH,length_singleton->yL,length_take->yO,pairwise_iff_getElem->yR,find?_cons->yS,take_of_length_le->uS,nodup_append->y6,length_drop->xA,getElem?_concat_length->xE,mem_singleton->xI,getElem?_take->xK,append_assoc->xM,ext_getElem?->xN,getElem?_set->xO,cons_append->uU,map_nil->xX,nodup_cons->x7,range_succ->x8,mem_iff_getElem?->x9,mem_append_right->wC,drop->wI,mem_map_of_mem->wJ,find?_eq_none->wK,getElem?_drop->wM,take->wO
open Nat renaming zero_le->zI,le_refl->zL,le_trans->z6,pow_add->z9,mul_assoc->yF,lt_of_le_of_lt->yI,pow_le_pow_right->yM,add_zero->yN,mul_right_comm->uW,lt_of_lt_of_le->yU,add_sub_cancel->yV,mul_comm->yX,mul_le_mul->yZ,mul_left_comm->y7,and_two_pow_sub_one_eq_mod->y8,mod_lt->y9,sub_self->xC,mul_lt_mul_of_pos_right->xD,le_of_mul_le_mul_right->xJ,mul_one->xL,add_sub_cancel_left->xQ,pow_zero->xT,le_of_lt->xU,le_mul_of_pos_left->xW,div_add_mod->xY,div_le_self->xZ,div_lt_iff_lt_mul->wD,le_div_iff_mul_le->wE,div_pos->wF,div_one->wG,lt_or_ge->wN,mod_one->wP,mul_pos->wQ
open Option renaming ne_none_iff_exists'->zE,some_ne_none->zG,some->zK,map_some->zX,getD_some->uX,toList_some->yK,getD_none->yQ,bind_some->xB,bind_eq_some_iff->xS,map_eq_some_iff->xV
set_option linter.unusedSimpArgs false
set_option linter.unusedVariables false
set_option maxRecDepth 20000
set_option maxHeartbeats 2000000
set_option linter.defProp false
namespace Go.Proofs.YtbjoghfmhgadkaaGreatDoor
open Go Go.E Go.Sp
def q9u (q:Int) (n:Nat) (h1:0<=q+1075) (h2:¬ 2047<=q+1075) (h3:4503599627370496<=n) (h4:n < 9007199254740992):∃ x:Nat,q+1075=x/\(q+1075).toNat=x/\IntKind.u64.wrap (x:Int)=x/\(q0k Tryz.prog .shl 32 (.int .u64 (x:Int)) (.int .u64 52)=some (.int .u64 ((x*4503599627370496:Nat):Int)))/\IntKind.u64.wrap ((n:Int)-4503599627370496)=((n-4503599627370496:Nat):Int)/\q0g .or .u64 ((x*4503599627370496:Nat):Int) ((n-4503599627370496:Nat):Int)=((x*4503599627370496+(n-4503599627370496):Nat):Int)/\x*4503599627370496+(n-4503599627370496) < 9223372036854775808 :=
 ⟨(q+1075).toNat,ω,rfl,u64_in ω ω,q9Q ω,by rw [u64_in ω ω]; omega,qic ω ω,ω⟩
def q8T {N M:Nat} {neg more s:Bool} {mode e:Int} (hs:s=decide (((N / M:Nat):Int) < 0)) (hM:0 < M) (hN:M<=N) (hm:more=decide (N % M≠0)) (hmb:more=true->55<=bl (N / M)) (hb:bl (N / M)<=200000) (he1 : -200000<=e) (he2:e<=200000) :
  ACt 149 [bv neg,sT s (N / M:Nat),iv e,bv more,iv mode] (uv (rE mode neg N M e:Nat)):=by
 obtain rfl:s=false:=hs.trans negN;have hp:=wF hN hM;have hL1:=q5D (n:=N / M) Oq;have C1:=@qaw;have C3:=@q30;have C4:=@qmU;have C5:=@q3j;have C6:=@qf4
 by_cases ht:1024<=e+(bl (N / M):Int)-1
 .rw [qkt (mode:=mode) (neg:=neg) hM hN (e:=e) ht];obtain ⟨L,hL⟩:∃ L,bl (N / M)=L:=⟨_,rfl⟩;rw [hL] at ht hb hL1;refine ac0 Tryz.func149 Tryz.ntmps149 [.tmp 10] ?_;exact wk1 hL trivial
 .have hval:=qcN (mode:=mode) (neg:=neg) (e:=e) hM hN;have hnle:=qku (mode:=mode) (neg:=neg) (e:=e) (q:=max (e+(bl (N / M):Int)-53) (-1074)) hM hN Oq;obtain ⟨L,hL⟩:∃ L,bl (N / M)=L:=⟨_,rfl⟩;rw [hL] at hmb hb hval hnle hL1 ht;obtain ⟨q,hq⟩:∃ q,max (e+(L:Int)-53) (-1074)=q:=⟨_,rfl⟩;rw [hq] at hval hnle;have hq':max (e+(L:Int)-1-52) (-1074)=q:=by omega
  have C2:=λh:e<=q=>qmV (neg:=neg) (mode:=mode) (k:=(q-e).toNat) negN.symm hM hm (λh=>by have:=hmb h; omega) Oq Oq;have hr2:q < e->shI ((N / M:Nat):Int) (e-q)=(rq mode neg (N*2 ^ (e-q).toNat) (M*2 ^ (q-e).toNat):Nat):=λhqe=>by
   have hmo:N % M=0:=by
    cases more
    .simpa using hm.symm
    .have:=hmb rfl; omega
   have hd:N=N / M*M:=by have:=xY N M; rw [yX] at this; omega
   rw [show (q-e).toNat=0 by omega,xT,xL];unfold shI;rw [if_pos ω,q4Q (by rw [hd,uW]; exact Nat.mul_mod_left _ _)]
   conv=>rhs; rw [hd,uW,Nat.mul_div_cancel _ hM]
   rw [Int.natCast_mul,q0V]
  have hr3:e<=q->N*2 ^ (e-q).toNat=N:=λh=>by rw [show (e-q).toNat=0 by omega,xT,xL]
  obtain ⟨r,hr⟩:∃ r,rq mode neg (N*2 ^ (e-q).toNat) (M*2 ^ (q-e).toNat)=r:=⟨_,rfl⟩;rw [hr] at hval hnle hr2;have hbr:bl r<=54:=q0M (yI hnle (by decide));have C2':e<=q->ACt _ _ (bT r):=λh=>by
   have:=C2 h;rw [<- hr3 h,hr] at this
   rwa [hr3 h] at this
  rw [hval];generalize N / M=d at *;clear hval hr hr3 C2 hm hmb;unfold Go.Sp.fin Go.Sp.q5M;refine ac0 Tryz.func149 Tryz.ntmps149 [.tmp 10] ?_;refine wk1 (x2 hL hq') ?_;refine A_jn λK hK=>?_;have fin0:∀ (s:Nat->PV) (h:Hp),s 0=bv neg->s 4=iv mode->s 12=iv q->s 13=.pt 13 0 0->h 13=some ⟨42,some 2,[bT r],false⟩->K s h:=by
   intro s h s0 s4 s12 s13 h13;refine hK _ _ ?_; clear hK K;have e2:IntKind.u64.wrap ((r:Nat):Int)=r:=u64_in Oq Oq
   by_cases h53:r=9007199254740992
   .rw [if_pos h53,if_neg ω]
    by_cases hov:2047<=q+1+1075
    .rw [if_pos hov];exact wk1 (x6 s0 s4 s12 s13 h13 h53) trivial
    .rw [if_neg hov];obtain ⟨x,f1,f2,f3,f4,f5,f6,f7⟩:=q9u (q+1) 4503599627370496 Oq hov Oq Oq;rw [f2,xC,yN];rw [xC,yN] at f6 f7;replace f6:q0g .or .u64 ((x*4503599627370496:Nat):Int) 0=((x*4503599627370496:Nat):Int):=f6;replace f5:IntKind.u64.wrap 0=0:=f5;have f8:IntKind.i64.wrap (4503599627370496-4503599627370496)=0:=rfl;exact wk1 (x6 s0 s4 s12 s13 h13 (x6 h53 f1 f3 f4 f5 (x2 f6 f8))) trivial
   .rw [if_neg h53]
    by_cases h52:r < 4503599627370496
    .rw [if_pos h52];exact wk1 (x6 s0 s4 s12 s13 h13 e2) trivial
    .rw [if_neg h52]
     by_cases hov:2047<=q+1075
     .rw [if_pos hov];exact wk1 (x6 s0 s4 s12 s13 h13 e2) trivial
     .rw [if_neg hov];obtain ⟨x,f1,f2,f3,f4,f5,f6,f7⟩:=q9u q r Oq hov Oq Oq;rw [f2];exact wk1 (x6 s0 s4 s12 s13 h13 (x6 e2 f1 f3 f4 f5 f6)) trivial
  by_cases hqe:e<=q
  .have C2:=C2' hqe;obtain ⟨k,f0⟩:∃ k:Nat,q-e=(k:Int):=⟨(q-e).toNat,ω⟩;rw [show (q-e).toNat=k by omega] at C2;refine wk1 f0 ?_;refine fin0 _ _ ?_ ?_ ?_ ?_ ?_ <;> simp -implicitDefEqProofs (disch:=omega) only [go_sem,Nat.reduceEqDiff,Nat.reduceAdd,↓reduceIte,f0]
  .have f0:=hr2 Oq;refine wk1 f0 ?_;refine fin0 _ _ ?_ ?_ ?_ ?_ ?_ <;> simp -implicitDefEqProofs (disch:=omega) only [go_sem,Nat.reduceEqDiff,Nat.reduceAdd,↓reduceIte,f0]
def qbh {V mode:Int} (ho:q00 V):ACt 83 [dT V,iv mode] (uv (fR mode V:Nat)):=by
 obtain ⟨hd1,hd2,hd3⟩:=q0s ho;have C1:=q0y ho;have C2:=@q3Z;have C3:=@qmW;refine ac0 Tryz.func83 Tryz.ntmps83 [.tmp 4] ?_
 by_cases hz:V=0
 .have q1:((od V).sign == 0)=true:=by rw [hz]; rfl
  rw [show ((fR mode V:Nat):Int)=0 by rw [show fR mode V=0 from if_pos hz]; rfl];exact wk1 q1 trivial
 .have q1:=qrF hz;have hod:=q3P hz;have C4:=q8T (N:=(od V).natAbs) (M:=1) (neg:=decide (od V < 0)) (more:=false) (s:=false) (mode:=mode) (e:=dyE V) negN.symm Nat.one_pos ω (by rw [wP]; rfl) (λh=>by cases h) (by rw [wG]; omega) ω ω;rw [wG,rE_V hz,q21,show rF mode (decide (V < 0)) V.natAbs (2 ^ 65536)=fR mode V from (if_neg hz).symm] at C4;rw [<- q21] at C4;exact wk1 q1 trivial
def q7L {V mode:Int}:ACt 83 [pV V,iv mode] (uv (fR mode V:Nat)):=que κ λho=>qbh ho
def q5e {z V mode:Int} (h1 : -9223372036854775808<=z) (h2:z<=9223372036854775807) (hv:mkV z 0=some V):ACt 68 [iv z,iv mode] (uv (fR mode V:Nat)):=by
 have C1:=q4d h1 h2 hv;have C2:=q7L (V:=V) (mode:=mode);refine ac0 Tryz.func68 Tryz.ntmps68 [.tmp 4] ?_;exact wk trivial
def qf8 {f:Nat} (hf:f < 18446744073709551616):ACt 82 [uv f] (iv (q2O f:Nat)):=by
 have h1:=q39 (a:=f / 4503599627370496) Oq;have h2:=q6d (a:=f) hf;unfold q2O;generalize f / 4503599627370496 % 2048=x at *;generalize f % 4503599627370496=m at *;refine ac0 Tryz.func82 Tryz.ntmps82 [.tmp 2] ?_
 by_cases hx2:x=2047
 .by_cases hm0:m=0
  .rw [if_neg (by simp [hm0]),if_pos hx2];exact wk1 (x3 h1 h2 (show ((2:Nat):Int)=2 from rfl)) trivial
  .rw [if_pos ⟨hx2,hm0⟩];exact wk1 (x3 h1 h2 (show ((3:Nat):Int)=3 from rfl)) trivial
 .rw [if_neg λh=>hx2 h.1,if_neg hx2]
  by_cases hx0:x=0
  .by_cases hm0:m=0
   .rw [if_pos ⟨hx0,hm0⟩];exact wk1 (x3 h1 h2 (show ((0:Nat):Int)=0 from rfl)) trivial
   .rw [if_neg λh=>hm0 h.2];exact wk1 (x3 h1 h2 (show ((1:Nat):Int)=1 from rfl)) trivial
  .rw [if_neg λh=>hx0 h.1];exact wk1 (x3 h1 h2 (show ((1:Nat):Int)=1 from rfl)) trivial
def qks {f:Nat} (hf:f < 18446744073709551616):ACt 81 [uv f] (bv (decide (q2O f=3))):=by
 have C1:=qf8 hf;have q:(((q2O f:Nat):Int) == 3)=decide (q2O f=3):=beqN (b:=3);refine ac0 Tryz.func81 Tryz.ntmps81 [.tmp 2] ?_;exact wk1 q trivial
def q4h {a:Int} {n:Nat} (h1 : -9223372036854775808<=a) (h2:a<=9223372036854775807) (hn:0 < n) (hn2:n<=9223372036854775807):ACt 23 [iv a,iv n] (iv (q09 a n:Nat)):=by
 have e1:IntKind.u64.wrap a=a % 18446744073709551616:=q0o a;have e2:IntKind.u64.wrap (n:Int)=n:=u64_in Oq Oq;have e3:¬ ((n:Int)=0):=ω
 have hlt:=q4i (a:=a) hn;have e4:(a % 18446744073709551616).tmod (n:Int)=((q09 a n:Nat):Int):=by
  unfold q09;rw [xG ω,Int.natCast_emod]
  congr 1; omega
 refine ac0 Tryz.func23 Tryz.ntmps23 [.tmp 4] ?_;exact wk1 (x4 e1 e2 e3 e4) trivial
def qbX {raw:List Nat} {k:Int} (hr:raw.length<=9223372036854775807) (h1 : -9223372036854775808<=k) (h2:k<=9223372036854775807):ACt 52 [pF raw,iv k] (uv (q42 raw k:Nat)):=by
 rw [q6u raw k];unfold q8G qjz qkA;have q1:∀ x:Int,q0k Tryz.prog .shr 31 (.int .u64 x) (.int .u64 31)=some (.int .u64 (x.fdiv (2 ^ 31))):=λx=>by rw [q17,if_neg ω]; rfl
 have q2:∀ x:Int,q0k Tryz.prog .shr 31 (.int .u64 x) (.int .u64 29)=some (.int .u64 (x.fdiv (2 ^ 29))):=λx=>by rw [q17,if_neg ω]; rfl
 refine ac0 Tryz.func52 Tryz.ntmps52 [.tmp 4] ?_
 by_cases h0:raw.length=0
 .rw [if_pos h0];exact wk1 (x2 q1 q2) trivial
 .rw [if_neg h0];have C1:=q4h (n:=raw.length) h1 h2 Oq hr;have hlt:=q4i (a:=k) (n:=raw.length) Oq;have hx:raw[q09 k raw.length]?=some (raw.getD (q09 k raw.length) 0):=by rw [zC,zA hlt]; rfl
  generalize raw.getD (q09 k raw.length) 0=x at *;generalize q09 k raw.length=m at *;exact wk1 (x3 hx q1 q2) trivial
def qfN {x:Nat} (hx:x < 18446744073709551616):ACt 150 [uv x] (uv (flz (q3i x):Nat)):=by
 have hs:=q6G x;have e1:((x:Nat):Int).tmod 19=((x % 19:Nat):Int):=rfl;have e3:IntKind.i64.wrap (((x % 19:Nat):Int)-9)=q3i x:=by rw [i64_in ω ω]; rfl
 have hb:bl (q3i x).natAbs<=4:=q0M (show (q3i x).natAbs < 2 ^ 4 by omega);have C1:=q5e (z:=q3i x) (mode:=0) Oq Oq (q6S Oq);rw [show fR 0 (q3i x*2 ^ 65536)=flz (q3i x) from rfl] at C1;generalize flz (q3i x)=y at *;refine ac0 Tryz.func150 Tryz.ntmps150 [.tmp 2] ?_;exact wk1 (x2 e1 e3) trivial
def qrG {x:Nat} {st:Int} (hx:x < 18446744073709551616) (h1 : -9223372036854775808<=st) (h2:st<=9223372036854775807):ACt 84 [uv x,iv st] (uv (q2c (q09 st 4) x:Nat)):=by
 have C1:=q4h (n:=4) h1 h2 Oq Oq;have hm4:q09 st 4 < 4:=by unfold q09; omega
 generalize q09 st 4=m at *
 rcases (by omega:m=1\/m=2\/m=3\/m=0) with h | h | h | h <;> subst h
 .have a1:q0g .and .u64 (x:Int) 9227875636482146303=((x &&& 9227875636482146303:Nat):Int):=q3b hx (b:=9227875636482146303) Oq;have a2:q0g .and .u64 ((x / 4503599627370496:Nat):Int) 7=((x / 4503599627370496 % 8:Nat):Int):=by
   have:=q3b (a:=x / 4503599627370496) (b:=7) Oq Oq;rw [show x / 4503599627370496 &&& 7=x / 4503599627370496 % 8 from y8 _ 3] at this;exact this
  obtain ⟨e,he⟩:∃ e,e=x / 4503599627370496 % 8:=⟨_,rfl⟩;rw [<- he] at a2;have a3:IntKind.u64.wrap (1019+(e:Int))=((1019+e:Nat):Int):=by rw [u64_in (by omega) (by omega)]; omega
  have a4':IntKind.u64.wrap (((1019+e:Nat):Int)*2 ^ min (xF 52) 64)=(((1019+e)*4503599627370496:Nat):Int):=by
   rw [show (2:Int) ^ min (xF 52) 64=4503599627370496 from rfl,u64_in ω ω]; omega
  have ha:x &&& 9227875636482146303 < 18446744073709551616:=yI Nat.and_le_left hx;have a5:q0g .or .u64 ((x &&& 9227875636482146303:Nat):Int) (((1019+e)*4503599627370496:Nat):Int)=((q2c 1 x:Nat):Int):=by
   rw [qac ha ω,he,num_1 hx]
  generalize q2c 1 x=r at *;generalize x &&& 9227875636482146303=y at *;refine ac0 Tryz.func84 Tryz.ntmps84 [.tmp 4] ?_;exact wk1 (x5 a1 a2 a3 a4' a5) trivial
 .have a1:q0g .and .u64 (x:Int) 9225623836668461056=((x &&& 9225623836668461056:Nat):Int):=q3b hx (b:=9225623836668461056) Oq;obtain ⟨e,he⟩:∃ e,e=x / 256 % 81:=⟨_,rfl⟩;have a0:Int.fdiv (x:Int) (2 ^ min (xF 8) 64)=((x / 256:Nat):Int):=by
   rw [show (2:Int) ^ min (xF 8) 64=((256:Nat):Int) from rfl,xH _ ω]; rfl
  have a2:Int.tmod ((x / 256:Nat):Int) 81=(e:Int):=by rw [he]; rfl
  have a3:IntKind.u64.wrap (983+(e:Int))=((983+e:Nat):Int):=by rw [u64_in (by omega) (by omega)]; omega
  have a4:IntKind.u64.wrap (((983+e:Nat):Int)*2 ^ min (xF 52) 64)=(((983+e)*4503599627370496:Nat):Int):=by
   rw [show (2:Int) ^ min (xF 52) 64=4503599627370496 from rfl,u64_in ω ω]; omega
  have ha:x &&& 9225623836668461056 < 18446744073709551616:=yI Nat.and_le_left hx;have a5:q0g .or .u64 ((x &&& 9225623836668461056:Nat):Int) (((983+e)*4503599627370496:Nat):Int)=((q2c 2 x:Nat):Int):=by
   rw [qac ha ω,he,num_2 hx]
  generalize q2c 2 x=r at *;generalize x &&& 9225623836668461056=y at *;generalize x / 256=z at *;refine ac0 Tryz.func84 Tryz.ntmps84 [.tmp 4] ?_;exact wk1 (x6 a0 a1 a2 a3 a4 a5) trivial
 .have C2:=qcM hx;refine ac0 Tryz.func84 Tryz.ntmps84 [.tmp 4] ?_
  by_cases hfi:q0L x
  .rw [show q2c 3 x=x by unfold q0L at hfi; simp [q2c,hfi]];rw [decide_eq_true hfi] at C2;exact wk trivial
  .rw [show ((q2c 3 x:Nat):Int)=0 by rw [show q2c 3 x=0 by unfold q0L at hfi; simp [q2c]; omega]; rfl];rw [decide_eq_false hfi] at C2;exact wk trivial
 .have C2:=qfN hx;rw [show flz (q3i x)=q2c 0 x by simp [q2c]] at C2;generalize q2c 0 x=r at *;refine ac0 Tryz.func84 Tryz.ntmps84 [.tmp 4] ?_;exact wk trivial
def qrE (V:Int):(od V).sign=V.sign:=by
 conv=>rhs; rw [<- q1W V,Int.sign_mul,yJ (q0P _),Int.mul_one]
section
variable {a b m e V:Int}
def q3H {s:Bool} (hs:s=decide (a < 0)) (ha:bl a.natAbs<=10000000) (h1 : -1048576<=m) (h2:m<=1048576):ACt 203 [sT s a,iv m] (bT (shI a m)):=by
 have C1:=@q7Y;refine ac0 Tryz.func203 Tryz.ntmps203 [.cell 4 42] ?_;exact wk trivial
def q6t {s:Bool} {N:Nat} (hs:s=decide (a < 0)) (ha:bl a.natAbs<=10000000) (hn:N<=1048576):ACt 234 [sT s a,iv N] (bT (shI a (-(N:Int)))):=by
 have C1:=@q7Y;refine ac0 Tryz.func234 Tryz.ntmps234 [.cell 4 42] ?_;refine wk ?_;refine q0C (λ_:Unit=>True) [1,2,4] [2,4] Lk Lk (λ_=>[]) (λ_=>[]) (λ_=>0) () trivial ?_ ?_
 .refine LeM [] rfl rfl ?_;exact Zy
 .intro _ _;exact wk1 @Int.zero_sub trivial
def qrM {D:Nat->Prop} {v:Value} {w:World} (h:Rd w D (.ag [bv false,bv false,q1R,iv 0]) (λ_=>none) h0 v):Rd w D (dT 0) (λ_=>none) h0 v:=by
 unfold Rd at h;obtain ⟨vs,rfl,h1⟩:=h;obtain ⟨_,_,_,_,rfl,h2,h3,h4,h5⟩:=rd_4 h1;rw [q9S h2,q9S h3,q9S h4,q9S h5];have h6:In (fV 0) D (.agg #[.bool false,.bool false,.slice none 0 0,.int .i64 0]) w:=⟨false,none,0,0,rfl,⟨rfl,U32.nil⟩,by simp [q00,q0m]⟩;exact (q6J.2 h6).1
def qoo {s:Bool} (hs:s=decide (m < 0)) (hb:bl m.natAbs<=1000000) (he1 : -1000000<=e) (he2:e<=1000000) (hv:mkV m e=some V):ACt 190 [.ag [bv false,bv s,.fm (fL m),iv e]] (.tu [dT V,bv true]):=by
 have C1:=@qgG;have C2:=@q3R
 by_cases hz:m=0
 .obtain rfl:V=0:=by rw [hz,q10] at hv; exact (zK.inj hv).symm
  refine qjd (r:=.tu [.ag [bv false,bv false,q1R,iv 0],bv true]) (λD w v h=>?_) ?_
  .unfold Rd at h ⊢;obtain ⟨vs,rfl,h1⟩:=h;obtain ⟨_,_,rfl,h2,h3⟩:=rd_2 h1;refine ⟨_,rfl,?_⟩;unfold RdL;exact ⟨_,_,rfl,qrM h2,RdL.one h3⟩
  .have e1:(m.sign == 0)=true:=by rw [hz]; rfl
   refine ac0 Tryz.func190 Tryz.ntmps190 [.cell 2 46,.tmp 3] ?_;exact wk1 e1 trivial
 .have hz':(m.sign == 0)=false:=by
   rw [beq_eq_false_iff_ne]; intro h0; exact hz (zN.1 h0)
  obtain ⟨hv1,hv2,hv3⟩:=q6R hz hv;obtain ⟨hv4,hv5,_,hv6⟩:=q4j hv;have htl:=qfI (n:=m.natAbs) Oq;have hbo:=q7r hz;have C3:=@qjB;have C4:=@q2f;have C5:=@q6t;have f1:=(qkh m).trans hv4.symm;have f2:=(hv5 hz).2.symm;refine ac0 Tryz.func190 Tryz.ntmps190 [.cell 2 46,.tmp 3] ?_;exact wk1 (x3 hz' f1 f2) trivial
def qaZ (hV:q00 V):ACt 190 [dT V] (.tu [dT V,bv true]):=by
 obtain ⟨h1,h2,h3⟩:=q0s hV;exact qoo rfl Oq Oq Oq (q94 hV)
def q5s (hV:q00 V):ACt 209 [dT V] (dT V):=by
 have C1:=qaZ hV;refine ac0 Tryz.func209 Tryz.ntmps209 [.cell 2 46] ?_;exact wk trivial
def q3G (hV:q00 V):ACt 156 [dT V] (iv V.sign):=by
 have C1:=qaZ hV;have C2:=@q3R;have:=(q0s hV).2.2;refine ac0 Tryz.func156 Tryz.ntmps156 [.tmp 2] ?_;exact wk1 (qrE V) trivial
def qjw (hV:q00 V):ACt 192 [dT V] (dT (-V)):=by
 have C1:=qaZ hV;have C2:=@q8c;have:=(q0s hV).2.2;have f1:=(qif V).symm;have f2:=qdo V;refine ac0 Tryz.func192 Tryz.ntmps192 [.cell 2 46] ?_;exact wk1 (x2 f1 f2) trivial
def q4M {s:Bool} (hs:s=decide (m < 0)) (hb:bl m.natAbs<=1000000) (he1 : -1000000<=e) (he2:e<=1000000) (hv:mkV m e=some V):ACt 131 [sT s m,iv e] (dT V):=by
 have C1:=qoo hs hb he1 he2 hv;refine ac0 Tryz.func131 Tryz.ntmps131 [.cell 4 46] ?_;exact wk trivial
def qbU (ha:q00 a) (hb:q00 b):ACt 195 [dT a,dT b] (.tu [dT a,dT b,bv true]):=by
 have C1:=qaZ ha;have C2:=qaZ hb;refine ac0 Tryz.func195 Tryz.ntmps195 [.cell 4 46,.cell 5 46,.tmp 6] ?_;exact wk trivial
def q8E (ha:q00 a) (hb:q00 b) (hv:mkV (a*b) (-131072)=some V):ACt 121 [dT a,dT b] (dT V):=by
 obtain ⟨ha1,ha2,ha3⟩:=q0s ha;obtain ⟨hb1,hb22,hb33⟩:=q0s hb;have hmul:=q1y (od a).natAbs (od b).natAbs;rw [<- wH] at hmul;have C1:=qbU ha hb;have C2:=@qlg;have C3:=q4M (m:=od a*od b) (e:=dyE a+dyE b) rfl Oq Oq Oq ((qcd a b).trans hv);refine ac0 Tryz.func121 Tryz.ntmps121 [.cell 4 46] ?_;exact wk trivial
end
abbrev reT (neg:Bool) (q:Nat) (e:Int) (inx:Bool):PV:=.ag [bv neg,bv false,.fm (fL q),iv e,bv inx]
section
variable {neg inx:Bool} {q k:Nat} {e p:Int}
def qew (hb:bl q<=1000000) (he1 : -1000000<=e) (he2:e<=1000000):ACt 246 [reT neg q e inx] (iv (e+bl q-1)):=by
 have C1:=@q2f;refine ac0 Tryz.func246 Tryz.ntmps246 [.tmp 2] ?_;exact wk trivial
def qjx (hq:q≠0) (hb:bl q<=1000000) (hk:0 < k) (hk2:k<=5000000):ACt 275 [reT neg q e inx,iv k] (.tu [bT (q / 2 ^ k:Nat),iv (Go.Sp.hf q k inx),bv (decide (q % 2 ^ k=0) && !inx)]):=by
 have C1:=@q2f
 by_cases hkb:bl q < k
 .have hqp:=q2L q;have hp1:2 ^ bl q<=2 ^ (k-1):=yM Oq Oq;have hp2:2 ^ (k-1)<=2 ^ k:=yM Oq Oq;have hmod:q % 2 ^ k=q:=Nat.mod_eq_of_lt Oq;have hdiv:q / 2 ^ k=0:=Nat.div_eq_of_lt Oq;have hhf:Go.Sp.hf q k inx = -1:=by
   unfold Go.Sp.hf;have:(((q % 2 ^ k:Nat):Int)-2 ^ (k-1)).sign = -1:=by
    refine Int.sign_eq_neg_one_of_neg ?_;rw [hmod,<- q0V]; omega
   rw [this]; simp
  have hex:(decide (q % 2 ^ k=0) && !inx)=false:=by rw [hmod,decide_eq_false hq]; rfl
  rw [hdiv,hhf,hex];refine ac0 Tryz.func275 Tryz.ntmps275 [.cell 4 42,.tmp 5,.tmp 6] ?_;exact wk trivial
 .have C2:=@q6t;have C3:=@q3H;have C4:=@qlf;have C5:=@q2H;have C6:=@qdG;have C7:=@q3R;have hsh:shI ((q:Nat):Int) (-(k:Int))=((q / 2 ^ k:Nat):Int):=by
   unfold shI; rw [if_neg ω,show (- -(k:Int)).toNat=k by omega,<- q0V]; rfl
  have hql:bl (q / 2 ^ k)<=1000000:=z6 (q1T (xZ _ _)) hb;have hsl:shI ((q / 2 ^ k:Nat):Int) (k:Int)=((q / 2 ^ k*2 ^ k:Nat):Int):=by
   unfold shI; rw [if_pos ω,zD,<- q0V]; simp
  have hbm:bl (q / 2 ^ k*2 ^ k)<=1000000:=z6 (q1T (Nat.div_mul_le_self _ _)) hb;have hrs:((q:Nat):Int)-((q / 2 ^ k*2 ^ k:Nat):Int)=((q % 2 ^ k:Nat):Int):=by
   have:=xY q (2 ^ k);rw [yX] at this; omega
  have hbr:bl (q % 2 ^ k)<=1000000:=z6 (q1T (Nat.mod_le _ _)) hb;have hs1:shI 1 ((k:Int)-1)=(2:Int) ^ (k-1):=by
   unfold shI; rw [if_pos ω,show ((k:Int)-1).toNat=k-1 by omega,Int.one_mul]
  have hb1:bl ((2:Int) ^ (k-1)).natAbs<=k:=by
   rw [q3n]; exact q0M (Nat.pow_lt_pow_right ω ω)
  have hb2:bl (1:Int).natAbs<=1:=by show bl 1<=_; rw [q7q]; omega
  have sE:(((q % 2 ^ k:Nat):Int).sign == 0)=decide (q % 2 ^ k=0):=by
   by_cases h0:q % 2 ^ k=0
   .rw [h0]; rfl
   .rw [decide_eq_false h0,beq_eq_false_iff_ne];intro h; exact h0 (by have:=zN.1 h; omega)
  have hhf:Go.Sp.hf q k inx=if (((q % 2 ^ k:Nat):Int)-2 ^ (k-1)).sign=0/\inx=true then 1 else (((q % 2 ^ k:Nat):Int)-2 ^ (k-1)).sign:=rfl
  rw [hhf];generalize hr:q % 2 ^ k=r at *;generalize hz:q / 2 ^ k=z at *;generalize hw:z*2 ^ k=zw at *;generalize hP:(2:Int) ^ (k-1)=P at *;refine ac0 Tryz.func275 Tryz.ntmps275 [.cell 4 42,.tmp 5,.tmp 6] ?_;refine wk1 (x4 hsh hsl hrs hs1) ?_
  by_cases hS:((r:Int)-P).sign=0
  .rw [hS];cases inx
   .rw [if_neg λh=>Bool.noConfusion h.2]
    by_cases h0:r=0
    .exact wk1 (x2 sE (decide_eq_true h0)) trivial
    .exact wk1 (x2 sE (decide_eq_false h0)) trivial
   .rw [if_pos ⟨rfl,rfl⟩]
    by_cases h0:r=0
    .exact wk1 (x2 sE (decide_eq_true h0)) trivial
    .exact wk1 (x2 sE (decide_eq_false h0)) trivial
  .rw [if_neg λh=>hS h.1]
   by_cases h0:r=0
   .exact wk1 (x2 sE (decide_eq_true h0)) trivial
   .exact wk1 (x2 sE (decide_eq_false h0)) trivial
def qev (hq:q≠0) (hb:bl q<=900000) (he1 : -900000<=e) (he2:e<=900000) (hp1 : -100000<=p) (hp2:p<=1000000):ACt 248 [reT neg q e inx,iv p,iv 0] (bT (sgn neg (qlS q e p inx))):=by
 have C1:=@q3H;have C2:=@q8c;have s0:∀ n:Nat,sgn false n=n:=λn=>rfl;have s1:∀ n:Nat,sgn true n = -(n:Int):=λn=>rfl
 by_cases hpe:p<=e
 .have hsl:shI ((q:Nat):Int) (e-p)=((q*2 ^ (e-p).toNat:Nat):Int):=by
   unfold shI; rw [if_pos ω,<- q0V]; simp
  have hbq:bl (q*2 ^ (e-p).toNat)<=2000000:=by rw [q1X hq]; omega
  rw [show qlS q e p inx=q*2 ^ (e-p).toNat from if_pos hpe];generalize q*2 ^ (e-p).toNat=z at *;refine ac0 Tryz.func248 Tryz.ntmps248 [.cell 6 42] ?_;cases neg
  .exact wk1 (x2 hsl s0) trivial
  .exact wk1 (x2 hsl s1) trivial
 .obtain ⟨k,hk⟩:∃ k:Nat,p-e=k:=⟨(p-e).toNat,by omega⟩;have hbq:bl (q / 2 ^ k)<=2000000:=z6 (q1T (xZ _ _)) Oq;have C3:=qjx (neg:=neg) (inx:=inx) (e:=e) (q:=q) (k:=k) hq Oq Oq Oq;have C4:=@q2H;have C5:=@qdH;have C6:=@q3R;have C7:=@qjB;have hb2:bl (1:Int).natAbs<=1:=by show bl 1<=_; rw [q7q]; omega
  have hm:qlS q e p inx=q / 2 ^ k+(if ¬ (q % 2 ^ k=0/\inx=false)/\(0 < Go.Sp.hf q k inx\/(Go.Sp.hf q k inx=0/\q / 2 ^ k % 2=1)) then 1 else 0):=by
   unfold qlS; rw [if_neg hpe,show (p-e).toNat=k by omega]
  generalize qlS q e p inx=m at *;generalize Go.Sp.hf q k inx=H at *;generalize hr:q % 2 ^ k=r at *;generalize hz:q / 2 ^ k=z at *;have hbz:bl ((z:Int)+1).natAbs<=2000001:=by
   have:=q5E (k:=2000000) (a:=z) (b:=1) ω (by rw [q7q]; omega);exact this
  have e2:((z+1:Nat):Int)=(z:Int)+1:=rfl;refine ac0 Tryz.func248 Tryz.ntmps248 [.cell 6 42] ?_
  by_cases hex:r=0/\inx=false
  .have f:(decide (r=0) && !inx)=true:=by simp [hex]
   rw [if_neg λh=>h.1 hex,yN] at hm;subst hm;cases neg
   .exact wk1 (x3 hk f s0) trivial
   .exact wk1 (x3 hk f s1) trivial
  .have f:(decide (r=0) && !inx)=false:=by
    rw [Bool.and_eq_false_iff]
    by_cases h:r=0
    .exact .inr (by cases inx <;> simp_all)
    .exact .inl (decide_eq_false h)
   by_cases hh:0 < H
   .rw [if_pos ⟨hex,.inl hh⟩] at hm;subst hm;cases neg
    .exact wk1 (x4 hk f s0 e2) trivial
    .exact wk1 (x4 hk f s1 e2) trivial
   .by_cases h0:H=0
    .by_cases hodd:z % 2=1
     .rw [if_pos ⟨hex,.inr ⟨h0,hodd⟩⟩] at hm;subst hm;have q3:(((z:Nat):Int).sign != 0)=true:=by rw [yJ ω]; rfl
      have q4:(((tz z:Nat):Int) == 0)=true:=by rw [q9F hodd]; rfl
      cases neg
      .exact wk1 (x6 hk f q3 q4 s0 e2) trivial
      .exact wk1 (x6 hk f q3 q4 s1 e2) trivial
     .rw [if_neg λh=>h.2.elim hh λh=>hodd h.2,yN] at hm;subst hm
      by_cases hz0:m=0
      .have q3:(((m:Nat):Int).sign != 0)=false:=by rw [hz0]; rfl
       cases neg
       .exact wk1 (x4 hk f q3 s0) trivial
       .exact wk1 (x4 hk f q3 s1) trivial
      .have q3:(((m:Nat):Int).sign != 0)=true:=by rw [yJ ω]; rfl
       have q4:(((tz m:Nat):Int) == 0)=false:=by
        rw [beq0];refine decide_eq_false λh0=>hodd ?_;obtain ⟨r,hr,he⟩:=q2T hz0;rw [h0,xT,xL] at he;omega
       cases neg
       .exact wk1 (x5 hk f q3 q4 s0) trivial
       .exact wk1 (x5 hk f q3 q4 s1) trivial
    .rw [if_neg λh=>h.2.elim hh λh=>h0 h.1,yN] at hm;subst hm;cases neg
     .exact wk1 (x3 hk f s0) trivial
     .exact wk1 (x3 hk f s1) trivial
end
def qbV {a b:Int} (hA:q00 a) (hB:q00 b) (ha:a≠0) (hb:b≠0):∃ k:Nat,(bl (od b).natAbs+58 < bl ((od a).natAbs*2 ^ k)/\k<=140000/\bl ((od a).natAbs*2 ^ k)<=140000) /\
  ACt 211 [dT a,dT b,iv 56] (reT (decide (a < 0) != decide (b < 0)) ((od a).natAbs*2 ^ k / (od b).natAbs) (dyE a-k-dyE b) (decide ((od a).natAbs*2 ^ k % (od b).natAbs≠0))):=by
 obtain ⟨ha1,ha2,ha3⟩:=q0s hA;obtain ⟨hb1,hb2,hb3⟩:=q0s hB;have hoa:=q3P ha;have hob:=q3P hb;rw [<- q21 a,<- q21 b];have C1:=@q2f;have C2:=@q8f;have C3:=@q3H;have C4:=@qan;have C5:=@q3R;obtain ⟨p,hp⟩:∃ p,(od a).natAbs=p:=⟨_,rfl⟩;obtain ⟨r,hr⟩:∃ r,(od b).natAbs=r:=⟨_,rfl⟩;have hbp:=hp ▸ ha3;have hbr:=hr ▸ hb3;rw [hp,hr];have hp0:p≠0:=ω
 have hr0:r≠0:=ω
 obtain ⟨k,hk⟩:∃ k:Nat,max 0 (56+3+((bl r:Nat):Int)-((bl p:Nat):Int))=k:=⟨(max 0 (56+3+((bl r:Nat):Int)-((bl p:Nat):Int))).toNat,ω⟩;have hbN:bl (p*2 ^ k)=bl p+k:=q1X hp0 k;refine ⟨k,⟨ω,ω,ω⟩,?_⟩;have hsh:shI ((p:Nat):Int) (k:Int)=((p*2 ^ k:Nat):Int):=by
  unfold shI; rw [if_pos ω,zD,<- q0V]; simp
 have hml:bl (p*2 ^ k % r)<=300000:=z6 (q1T (Nat.mod_le _ _)) Oq;have sE:(((p*2 ^ k % r:Nat):Int).sign != 0)=decide (p*2 ^ k % r≠0):=by
  by_cases h0:p*2 ^ k % r=0
  .rw [h0]; rfl
  .rw [decide_eq_true h0,bne_iff_ne];intro h; exact h0 (by have:=zN.1 h; omega)
 refine ac0 Tryz.func211 Tryz.ntmps211 [.cell 6 240] ?_;exact wk1 (x6 hp hr @qio hk hsh sE) trivial
def clD {l:List Int}:ClL (l.map λx=>dT x):=λx hx=>by
 obtain ⟨z,_,rfl⟩:=zH.1 hx;intro y hy;simp at hy
 rcases hy with rfl | rfl | rfl | rfl <;> trivial
def q5r {l:List Int} (hn:l.length<=1000) (ho:∀ x ∈ l,q00 x) (hv:q00 (q1Z l)):ACt 122 [.sl (some 4) (l.map λV=>pV V)] (dT (q1Z l)):=by
 refine ac0 Tryz.func122 Tryz.ntmps122 [.cell 2 46] ?_;refine wk ?_;refine q0C (λq:Nat × Int=>q.1<=l.length /\ -65536<=q.2/\q.2<=0/\∀ x ∈ l.take q.1,q.2<=dyE x) [0,2,12,13] [2] Lk Lk (λq=>[(14,iv q.1),(4,iv q.2),(3,.ow 1001 (some 4) 0 q.1)]) (λq=>[(1001,⟨46,some 4,(l.take q.1).map λx=>dT x,false⟩)]) (λq=>l.length-q.1) (0,0) ⟨zI _,ω,ω,λx hx=>by simp at hx⟩ ?_ ?_
 .refine LeM [(1001,none)] rfl rfl ?_;refine Zz ?_
  rfl
 .rintro ⟨i,lo⟩ ⟨hi,hlo1,hlo2,hmin⟩;simp only at hi hlo1 hlo2 hmin ⊢
  by_cases hlt:i < l.length
  .obtain ⟨x,hxi⟩:∃ x,l[i]?=some x:=⟨_,zA Oq⟩;have hox:=ho x (zF hxi);obtain ⟨hd1,hd2,hd3⟩:=q0s hox;have C1:=quf κ λh=>qaZ h (V:=x);have htk:l.take (i+1)=l.take i ++ [x]:=by
    obtain ⟨hlt,he⟩:=zB.1 hxi;rw [uQ hlt,he]
   have ht:(l.take i).length=i:=by rw [yO]; omega
   refine wk1 (x3 hxi @qin ht) ?_;refine ⟨(i+1,min lo (dyE x)),⟨by simp only; omega,by simp only; omega,by simp only; omega,λy hy=>?_⟩,by simp only; omega,?_⟩
   .simp only at hy ⊢;rw [htk] at hy
    rcases zJ.1 hy with hy | hy
    .have:=hmin y hy; omega
    .simp at hy; subst hy; omega
   .simp only;refine LeM [(1001,some 33)] rfl rfl ?_;refine Zz ?_;exact ⟨ω,q0J (by rw [htk,z7]; rfl) clD⟩
  .obtain rfl:i=l.length:=ω
   rw [zY] at hmin;refine wk ?_;refine q0C (λq:Nat × Int=>q.1<=l.length/\q.2*(2:Int) ^ (lo+65536).toNat=q1Z (l.take q.1)) [2,4,9,35,36] [2,1001] Lk Lk (λq=>[(37,iv q.1)]) (λq=>[(9,⟨42,some 2,[bT q.2],false⟩)]) (λq=>l.length-q.1) (0,0) ⟨zI _,by rw [yP]; rfl⟩ ?_ ?_
   .refine LeM [] rfl rfl ?_;refine Zz ?_;exact ⟨rfl,rfl,q0J rfl clD⟩
   .rintro ⟨j,tot⟩ ⟨hj,hs⟩;simp only at hj hs ⊢;have hbs:=qiO (i:=j) ho Oq;have hbt:=q36 hs
    by_cases hlt:j < l.length
    .obtain ⟨x,hxi⟩:∃ x,l[j]?=some x:=⟨_,zA Oq⟩;have hox:=ho x (zF hxi);obtain ⟨hd1,hd2,hd3⟩:=q0s hox;have hst:=q47 l j x hxi;have hlo:=hmin x (zF hxi);have hsh:shI (od x) (dyE x-lo)=od x*(2:Int) ^ (dyE x-lo).toNat:=by unfold shI; rw [if_pos ω]
     have hlf:=q2F (V:=x) (E:=lo) Oq Oq;have hb12:=q36 hlf;have hbx:bl x.natAbs<=131072:=hox;have C1:=@q3H;have C2:=@qdH;refine wk1 (x2 hxi hsh) ?_;refine ⟨(j+1,tot+od x*(2:Int) ^ (dyE x-lo).toNat),⟨by simp only; omega,by simp only; rw [hst,Int.add_mul,hs,hlf]⟩,by simp only; omega,?_⟩;simp only;refine LeM [] rfl rfl ?_;refine Zz ?_;exact ⟨ω,q0J rfl clD⟩
    .obtain rfl:j=l.length:=ω
     rw [zY] at hs hbs hbt;have C1:=@q4M;have hmk:mkV tot lo=some (q1Z l):=by rw [q4U ω hs]; exact q2e hv
     exact wk trivial
section
variable {f:Nat} {neg:Bool}
def q4v (hf:f < 18446744073709551616):ACt 155 [uv f] (.tu [iv (f / 4503599627370496 % 2048:Nat),uv (f % 4503599627370496:Nat)]):=by
 have h1:=q39 (a:=f / 4503599627370496) Oq;have h2:=q6d hf;refine ac0 Tryz.func155 Tryz.ntmps155 [.tmp 2,.tmp 3] ?_;exact wk1 (x2 h1 h2) trivial
def qmQ (hf:f < 18446744073709551616):ACt 193 [uv f] (bv (decide (9223372036854775808<=f))):=by
 have h2:=qc5 hf;refine ac0 Tryz.func193 Tryz.ntmps193 [.tmp 2] ?_;exact wk1 h2 trivial
def q5l (hf:f < 9223372036854775808):ACt 249 [uv f,bv neg] (uv (sb neg f:Nat)):=by
 have h:=qcZ hf;refine ac0 Tryz.func249 Tryz.ntmps249 [.tmp 4] ?_;cases neg
 .exact wk1 (show sb false f=f from rfl) trivial
 .exact wk1 (x2 h (show sb true f=f+9223372036854775808 from rfl)) trivial
def q4w (hf:f < 18446744073709551616):ACt 88 [uv f] (bv (decide (q0L f))):=by
 have C1:=q4v hf;have h2:(((f / 4503599627370496 % 2048:Nat):Int) != 2047)=decide (q0L f):=bneN (b:=2047);refine ac0 Tryz.func88 Tryz.ntmps88 [.tmp 2] ?_;exact wk1 h2 trivial
def qhA:ACt 250 [bv neg,iv 0] (uv (qcY 0 neg:Nat)):=by
 have C1:=q5l (f:=9218868437227405312) (neg:=neg) Oq;have e:qcY 0 neg=sb neg 9218868437227405312:=by simp [qcY]
 refine ac0 Tryz.func250 Tryz.ntmps250 [.tmp 4] ?_;exact wk1 e trivial
def q78 {V:Int} (hf:f < 18446744073709551616) (hv:ofF f=some V):ACt 113 [uv f] (dT V):=by
 have hfin:q0L f:=λh=>by unfold ofF at hv; rw [if_pos h] at hv; cases hv
 obtain ⟨V',hv',hmk⟩:=q8Y hfin;rw [hv] at hv'; cases hv';have C1:=q4v hf;have C2:=qmQ hf;have C3:=@q2H;have C4:=@q8c;have C5:=@q4M;have hxm:=y9 (f / 4503599627370496) (show 0 < 2048 by omega);have hm:=y9 f (show 0 < 4503599627370496 by omega);unfold q0L at hfin;generalize f / 4503599627370496 % 2048=x at *;generalize f % 4503599627370496=m at *;generalize decide (9223372036854775808<=f)=sg at *;have h4:=qib hm;obtain ⟨M,hM⟩:∃ M,M=if x=0 then m else 4503599627370496+m:=⟨_,rfl⟩
 have hMl:M < 9007199254740992:=by rw [hM]; split <;> omega
 have hbl:bl M<=53:=q0M (show M < 2 ^ 53 by omega);have hbn:bl (-(M:Int)).natAbs<=53:=by rw [yG]; exact hbl
 refine ac0 Tryz.func113 Tryz.ntmps113 [.cell 2 46] ?_
 by_cases hx0:x=0
 .rw [if_pos hx0] at hM;subst hM;rw [if_pos hx0,if_pos hx0] at hmk;cases sg
  .exact wk trivial
  .exact wk trivial
 .rw [if_neg hx0] at hM;rw [if_neg hx0,if_neg hx0,<- hM] at hmk;rw [<- hM] at h4;cases sg
  .exact wk1 h4 trivial
  .exact wk1 h4 trivial
end
def qlh {a:Int} {s:Bool} (hs:s=decide (a < 0)) (h0:0<=a) (ha:a<=9223372036854775807):ACt 247 [sT s a] (.tu [iv a,bv true]):=q3E (qgJ hs h0 ha)
def q4t {N M:Nat} {neg:Bool} {e:Int} (hM:0 < M) (hN:M<=N) (hmb:N % M≠0->55<=bl (N / M)) (hb:bl (N / M)<=200000) (he1 : -400000<=e) (he2:e<=400000):ACt 210 [reT neg (N / M) e (decide (N % M≠0)),iv 0] (uv (rE 0 neg N M e:Nat)):=by
 have hp:=wF hN hM;have hL1:=q5D (n:=N / M) Oq;have hval:=qcN (mode:=0) (neg:=neg) (e:=e) hM hN;have hnle:=qku (mode:=0) (neg:=neg) (e:=e) (q:=max (e+(bl (N / M):Int)-53) (-1074)) hM hN Oq;have hmul:=qlR (neg:=neg) (e:=e) (p:=max (e+(bl (N / M):Int)-53) (-1074)) hM (λh=>by have:=hmb h; omega);have C1:=qew (neg:=neg) (q:=N / M) (e:=e) (inx:=decide (N % M≠0)) Oq Oq Oq;obtain ⟨L,hL⟩:∃ L,bl (N / M)=L:=⟨_,rfl⟩;rw [hL] at hmb hb hval hnle hmul hL1 C1;obtain ⟨q,hq⟩:∃ q,max (e+(L:Int)-53) (-1074)=q:=⟨_,rfl⟩;rw [hq] at hval hnle hmul;have hq':max (e+(L:Int)-1-52) (-1074)=q:=by omega
 have C2:=qev (neg:=neg) (inx:=decide (N % M≠0)) (q:=N / M) (e:=e) (p:=q) Oq Oq Oq Oq Oq Oq;rw [hmul] at C2;obtain ⟨r,hr⟩:∃ r,rq 0 neg (N*2 ^ (e-q).toNat) (M*2 ^ (q-e).toNat)=r:=⟨_,rfl⟩;rw [hr] at hval hnle C2;have hbr:bl r<=54:=q0M (yI hnle (by decide));have hsn:=q0z neg r;have hbs:bl (sgn neg r).natAbs<=54:=by rw [hsn]; exact hbr
 have C3:=@q8f;have C4:=@qlh;have C5:=@q5l;have C6:=@qhA;have e2:IntKind.u64.wrap ((r:Nat):Int)=r:=u64_in Oq Oq;rw [hval];generalize N / M=d at *;generalize decide (N % M≠0)=ix at *;clear hmul hmb hp hval hr;unfold Go.Sp.fin Go.Sp.q5M;have comp:∀ (q2:Int) (n2:Nat),0<=q2+1075->¬ 2047<=q2+1075->4503599627370496<=n2->n2 < 9007199254740992->∃ x:Nat,q2+1075=x/\(q2+1075).toNat=x/\IntKind.u64.wrap (x:Int)=x/\(q0k Tryz.prog .shl 32 (.int .u64 (x:Int)) (.int .u64 52)=some (.int .u64 ((x*4503599627370496:Nat):Int)))/\IntKind.u64.wrap ((n2:Int)-4503599627370496)=((n2-4503599627370496:Nat):Int)/\q0g .or .u64 ((x*4503599627370496:Nat):Int) ((n2-4503599627370496:Nat):Int)=((x*4503599627370496+(n2-4503599627370496):Nat):Int)/\x*4503599627370496+(n2-4503599627370496) < 9223372036854775808:=λq2 n2 h1 h2 h3 h4 =>
  ⟨(q2+1075).toNat,ω,rfl,u64_in ω ω,q9Q ω,by rw [u64_in ω ω]; omega,qic ω ω,ω⟩
 refine ac0 Tryz.func210 Tryz.ntmps210 [.tmp 4] ?_
 by_cases h53:r=9007199254740992
 .rw [if_pos h53,if_neg ω]
  by_cases hov:2047<=q+1+1075
  .rw [if_pos hov];exact wk1 (x3 hq' hsn e2) trivial
  .rw [if_neg hov];obtain ⟨x,f1,f2,f3,f4,f5,f6,f7⟩:=comp (q+1) 4503599627370496 Oq hov Oq Oq;rw [f2,xC,yN];rw [xC,yN] at f6 f7;replace f5:IntKind.u64.wrap (4503599627370496-4503599627370496)=0:=f5;replace f6:q0g .or .u64 ((x*4503599627370496:Nat):Int) 0=((x*4503599627370496:Nat):Int):=f6;exact wk1 (x6 hq' hsn e2 f1 f3 (x3 f4 f5 f6)) trivial
 .rw [if_neg h53]
  by_cases h52:r < 4503599627370496
  .rw [if_pos h52];exact wk1 (x3 hq' hsn e2) trivial
  .rw [if_neg h52]
   by_cases hov:2047<=q+1075
   .rw [if_pos hov];exact wk1 (x3 hq' hsn e2) trivial
   .rw [if_neg hov];obtain ⟨x,f1,f2,f3,f4,f5,f6,f7⟩:=comp q r Oq hov Oq Oq;rw [f2];exact wk1 (x6 hq' hsn e2 f1 f3 (x3 f4 f5 f6)) trivial
def qmP {a b:Int} (hA:q00 a) (hB:q00 b) (hb0:b≠0):ACt 129 [dT a,dT b,iv 0] (uv (fQ 0 a b:Nat)):=by
 have C1:=q5s hA;have C2:=q5s hB;have C3:=q3G hA;have C4:=q3G hB;have q1:(b.sign == 0)=false:=by
  rw [beq_eq_false_iff_ne]; intro h; exact hb0 (zN.1 h)
 refine ac0 Tryz.func129 Tryz.ntmps129 [.tmp 6] ?_
 by_cases ha0:a=0
 .have q2:(a.sign == 0)=true:=by rw [ha0]; rfl
  rw [show ((fQ 0 a b:Nat):Int)=0 by rw [show fQ 0 a b=0 from if_pos ha0]; rfl];exact wk1 (x2 q1 q2) trivial
 .have q2:(a.sign == 0)=false:=by
   rw [beq_eq_false_iff_ne]; intro h; exact ha0 (zN.1 h)
  obtain ⟨k,⟨c1,c2,c3⟩,C5⟩:=qbV hA hB ha0 hb0;have hob:=q3P hb0;have hd1:=q0s hA;have hd2:=q0s hB;have hge:=qeT (N:=(od a).natAbs*2 ^ k) (M:=(od b).natAbs) Oq (k:=57) Oq;have hle:bl ((od a).natAbs*2 ^ k / (od b).natAbs)<=140000:=z6 (q1T (xZ _ _)) c3;have hMN:(od b).natAbs<=(od a).natAbs*2 ^ k:=by
   rcases wN ((od a).natAbs*2 ^ k) (od b).natAbs with h | h
   .have:=q1T (xU h); omega
   .exact h
  have C6:=q4t (neg:=decide (a < 0) != decide (b < 0)) (e:=dyE a-k-dyE b) Oq hMN (λ_=>by omega) Oq Oq Oq;rw [qqj ha0 hb0,show rF 0 (decide (a < 0) != decide (b < 0)) a.natAbs b.natAbs=fQ 0 a b from (if_neg ha0).symm] at C6;exact wk1 (x2 q1 q2) trivial
end Go.Proofs.YtbjoghfmhgadkaaGreatDoor
namespace Go.E
open Go
section
variable {G:Fam} {D:Nat->Prop} {A:Option Addr} {v:Value} {w w':World} {L:List Nat} {α:Type} {H:α->Fam} {T sz B n c:Nat} {l:List α}
end
end Go.E
namespace Go.Proofs.YtbjoghfmhgadkaaGreatDoor
open Go Go.E Go.Sp
section
variable {f:Nat} {w:World}
end
section
variable {g:FuncId} {al:List PV} {vs:List Value} {V:Int} {c:Value} {D:Nat->Prop} {w:World} {v v':Value} {a b:Int}
end
def fins (l:List Nat):Prop:=∀ f ∈ l,f < 18446744073709551616/\q0L f
section
variable {D:Nat->Prop} {A:Option Addr} {n c:Nat} {l:List Nat} {w:World}
end
end Go.Proofs.YtbjoghfmhgadkaaGreatDoor
namespace Go.E
open Go
end Go.E
namespace Go.Proofs.YtbjoghfmhgadkaaGreatDoor
open Go Go.E Go.Sp
def qsF (l:List Int):Prop:=(∀ x ∈ l,0<=x/\x < l.length)/\l.Nodup
section
variable {D:Nat->Prop} {A:Option Addr} {n c:Nat} {l:List Int} {w:World}
end
end Go.Proofs.YtbjoghfmhgadkaaGreatDoor
namespace Go.E
open Go Go.Sp
section
variable {D:Nat->Prop} {A:Option Addr} {n c:Nat} {w:World}
end
end Go.E
namespace Go.Proofs.YtbjoghfmhgadkaaGreatDoor
open Go Go.E Go.Sp
structure Fac where
 pm:List Int
 cp:List Int
 ri:List Int
 vs:List Nat
section
variable {D:Nat->Prop} {L:List Nat} {N0 g n:Nat} {rows:List (List Int)} {ss:List (Option Addr × Nat × Nat)} {w w':World}
end
section
variable {D:Nat->Prop} {L:List Nat} {N0 g n i:Nat} {rows:List (List Int)} {ss:List (Option Addr × Nat × Nat)} {w w2 w3:World} {A A':Option Addr} {m c m' c':Nat} {r r':List Int}
end
section
variable {D:Nat->Prop} {L:List Nat} {N0 g n i:Nat} {rows:List (List Int)} {ss:List (Option Addr × Nat × Nat)} {w w2 w3:World} {r:List Int} {x y:Nat} {a b V:Int}
end
def rows0 (vals:List Int) (i n:Nat):List (List Int):=(vals.take i).map (λV=>[V]) ++ List.replicate (n-i) []
end Go.Proofs.YtbjoghfmhgadkaaGreatDoor
namespace Go.Sp
open Go Go.E
def q2t (raw:List Nat):Nat->List Int
 | 0=>[]
 | i+1=>(q2t raw i).take (q09 ((q42 raw (700+i) / 2:Nat):Int) (i+1)) ++ [(i:Int)] ++ (q2t raw i).drop (q09 ((q42 raw (700+i) / 2:Nat):Int) (i+1))
def q4f (raw:List Nat):∀ n,(q2t raw n).length=n
 | 0=>rfl
 | n+1=>by
  have ih:=q4f raw n;have:=q4i (a:=((q42 raw (700+n) / 2:Nat):Int)) (n:=n+1) Oq;unfold q2t;simp only [z8,yO,xA,yL,ih];omega
def q6N (raw:List Nat):∀ n (x:Int),x ∈ q2t raw n->0<=x/\x < n
 | 0,x,h=>by simp [q2t] at h
 | n+1,x,h=>by
  unfold q2t at h;rw [zJ,zJ] at h
  rcases h with (h | h) | h
  .have:=q6N raw n x (List.mem_of_mem_take h); omega
  .simp at h; omega
  .have:=q6N raw n x (List.mem_of_mem_drop h); omega
def q7N (raw:List Nat):∀ n,(q2t raw n).Nodup
 | 0=>by simp [q2t]
 | n+1=>by
  have ih:=q7N raw n;unfold q2t;generalize q09 _ _=p;have hp:((q2t raw n).take p ++ [(n:Int)] ++ (q2t raw n).drop p).Perm ((n:Int) :: q2t raw n):=by
   rw [xM];have h1:((q2t raw n).take p ++ (n:Int) :: (q2t raw n).drop p).Perm ((n:Int) :: ((q2t raw n).take p ++ (q2t raw n).drop p)):=List.perm_middle;rw [List.take_append_drop] at h1;exact h1
  rw [hp.nodup_iff,x7];exact ⟨λh=>by have:=q6N raw n _ h; omega,ih⟩
end Go.Sp
namespace Go.Proofs.YtbjoghfmhgadkaaGreatDoor
open Go.Sp
def q90 (raw:List Nat) (n:Nat):qsF (q2t raw n):=⟨λx hx=>by rw [q4f]; exact q6N raw n x hx,q7N raw n⟩
end Go.Proofs.YtbjoghfmhgadkaaGreatDoor
namespace Go.Sp
open Go Go.E
def ofZ (x:Nat):Int:=(ofF x).getD 0
def q1l (x y:Nat):Int:=(mkV (ofZ x*ofZ y) (-131072)).getD 0
def q1d {f:Nat} (hf:q0L f):∃ (m:Int) (k:Nat),ofF f=some (m*(2:Int) ^ k)/\bl m.natAbs<=53/\64462<=k/\k<=66507:=by
 unfold q0L at hf;have hx:=y9 (f / 4503599627370496) (show 0 < 2048 by omega);have hm:=y9 f (show 0 < 4503599627370496 by omega);unfold ofF;rw [if_neg hf];generalize f / 4503599627370496 % 2048=x at *;generalize f % 4503599627370496=m at *;have h53:∀ n:Nat,n < 9007199254740992->bl n<=53:=λn h=>q0M (yU h (zL _))
 split
 .exact ⟨_,64462,rfl,by rw [q0z]; exact h53 _ Oq,ω,ω⟩
 .exact ⟨_,64461+x,rfl,by rw [q0z]; exact h53 _ Oq,ω,ω⟩
def q03 {f:Nat} {V:Int} (h:ofF f=some V):ofZ f=V:=by unfold ofZ; rw [h]; rfl
def q1S {f:Nat} (hf:q0L f):ofF f=some (ofZ f):=by
 obtain ⟨m,k,h,_⟩:=q1d hf;rw [q03 h,h]
def q4C {f:Nat} (hf:q0L f):bl (ofZ f).natAbs<=67600:=by
 obtain ⟨m,k,h,h1,h2,h3⟩:=q1d hf;rw [q03 h]
 by_cases hm:m=0
 .subst hm; rw [yP]; simp [q0m]
 .rw [q0E,q1X ω]; omega
def q2d {x y:Nat} (hx:q0L x) (hy:q0L y):mkV (ofZ x*ofZ y) (-131072)=some (q1l x y)/\bl (q1l x y).natAbs<=67600:=by
 obtain ⟨m,k,h,h1,h2,h3⟩:=q1d hx;obtain ⟨m',k',h',h1',h2',h3'⟩:=q1d hy;have e:ofZ x*ofZ y=m*m'*(2:Int) ^ (k+k'):=by
  rw [q03 h,q03 h',Int.pow_add];simp only [xP,Int.mul_left_comm,yY]
 unfold q1l;rw [e,q1w]
 by_cases hM:m*m'=0
 .rw [hM,q10]; exact ⟨rfl,by simp [q0m]⟩
 .have hb:bl (m*m').natAbs<=106:=by
   rw [wH];exact z6 (q1y _ _) Oq
  generalize m*m'=M at *;have ht:=qfI (n:=M.natAbs) Oq;unfold mkV;rw [if_neg hM,if_pos ω];refine ⟨rfl,?_⟩;have ho:=q7r hM;have hne:=q3P hM;rw [uX,q0E,q1X ω];omega
end Go.Sp
namespace Go.Proofs.YtbjoghfmhgadkaaGreatDoor
open Go Go.E Go.Sp
def getD_some {α:Type} {l:List α} {i:Nat} {x d:α} (h:l[i]?=some x):l.getD i d=x:=by rw [zC,h]; rfl
def q4b {x:Nat} {V:Int} (hx:x < 18446744073709551616) (hv:ofF x=some V):ACt 33 [uv x] (pV V):=by
 obtain ⟨V',hv',hmk⟩:=q8Y (f:=x) λh=>by unfold ofF at hv; rw [if_pos h] at hv; cases hv
 rw [hv] at hv'; cases hv';exact q7M (q3E (qrD hx hv)) (q4j hmk).2.2.2
def clI {l:List Int}:ClL (l.map λz=>iv z):=λx hx=>by
 obtain ⟨e,_,rfl⟩:=zH.1 hx
 trivial
def qkY {a:Int} (ha:bl a.natAbs<=20000000):ACt 76 [bT a] (bT a.natAbs):=q3E (q6M ha)
def qkU {a:Int} (ha:bl a.natAbs<=20000000):ACt 105 [bT a] (bT (-a)):=q3E (q9U rfl ha)
def qcc {V:Int} (h:q00 V):mkV (-od V) (dyE V)=some (-V):=by
 have:=q94 (qhI h)
 rwa [qif,qdo] at this
def qlV {V:Int} (h:q00 V):mkV ((od V).natAbs:Int) (dyE V)=some (V.natAbs:Int):=by
 have hs:=q21 V
 by_cases hv:V < 0
 .rw [decide_eq_true hv] at hs;have ho:od V < 0:=of_decide_eq_true hs;rw [show ((od V).natAbs:Int) = -od V by omega,show (V.natAbs:Int) = -V by omega];exact qcc h
 .rw [decide_eq_false hv] at hs;have ho:¬ od V < 0:=of_decide_eq_false hs;rw [show ((od V).natAbs:Int)=od V by omega,show (V.natAbs:Int)=V by omega];exact q94 h
def qdu {V:Int}:ACt 44 [pV V] (pV (-V)):=quf qt2 λho=>by
 have hb:=q37 ho;have h1:=q7c (V:=V);have h2:=q7b ho;have cN:=q0y ho;have cB:=qkU (a:=od V) Oq;have cM:=q2g rfl (m := -od V) (e:=dyE V) (by rw [yG]; omega) ω ω (qcc ho);unfold dT at cN ⊢;unfold bT at cB cM;refine ac0 Tryz.func44 Tryz.ntmps44 [.cell 2 46] ?_;exact wk trivial
def qdv {V:Int}:ACt 46 [pV V] (pV (V.natAbs:Int)):=quf qt1 λho=>by
 have hb:=q37 ho;have h1:=q7c (V:=V);have h2:=q7b ho;have cN:=q0y ho;have cB:=qkY (a:=od V) Oq;have cM:=q2g rfl (m:=((od V).natAbs:Int)) (e:=dyE V) (by rw [yB]; omega) ω ω (qlV ho);unfold dT at cN ⊢;unfold bT at cB cM;refine ac0 Tryz.func46 Tryz.ntmps46 [.cell 2 46] ?_;exact wk trivial
def q6D {a:Int} (ha:bl a.natAbs<=20000000):ACt 106 [bT a] (iv a.sign):=q3Z rfl ha
def q7B {a m:Int} (ha:bl a.natAbs<=20000000) (h1 : -1000000000<=m) (h2:m<=1000000000):ACt 107 [bT a,iv m] (bT (shI a m)):=q30 rfl ha h1 h2
structure Aln (A B x y e:Int):Prop where
 e1 : -65536<=e
 e2:e<=65536
 a:x*(2:Int) ^ (e+65536).toNat=A
 b:y*(2:Int) ^ (e+65536).toNat=B
def qcq {x V:Int} {k:Nat} (h:x*(2:Int) ^ k=V) (hv:q00 V):bl x.natAbs<=131072:=by
 subst h;unfold q00 at hv;rw [q0E] at hv
 by_cases h0:x.natAbs=0
 .rw [h0]; simp [bl]
 .rw [q1X h0] at hv; omega
def Aln.bl {A B x y e:Int} (h:Aln A B x y e) (ha:q00 A) (hb:q00 B):Sp.bl x.natAbs<=131072/\Sp.bl y.natAbs<=131072:=⟨qcq h.a ha,qcq h.b hb⟩
def q9L {a b:Int} (h1 : -65536<=a/\a<=65536) (h2 : -65536<=b/\b<=65536):IntKind.i64.wrap (a-b)=a-b:=i64_in Oq Oq
def q7f {A B:Int} (hA:q00 A) (hB:q00 B):∃ x y e,ACt 108 [dT A,dT B] (.tu [bT x,bT y,iv e])/\Aln A B x y e:=by
 have a1:=q7c (V:=A);have a2:=q7b hA;have b1:=q7c (V:=B);have b2:=q7b hB;have a3:=q37 hA;have b3:=q37 hB;have sA:=q6D (a:=od A) Oq;have sB:=q6D (a:=od B) Oq;have shA:=q7B (a:=od A) (m:=dyE A-dyE B) Oq Oq Oq;have shB:=q7B (a:=od B) (m:=dyE B-dyE A) Oq Oq Oq;have wA:=q9L (a:=dyE A) (b:=dyE B) Oq Oq;have wB:=q9L (a:=dyE B) (b:=dyE A) Oq Oq;unfold bT at *
 by_cases hA0:od A=0
 .have e1:((od A).sign == 0)=true:=by rw [hA0]; rfl
  refine ⟨od A,od B,dyE B,?_,⟨b1,ω,?_,?_⟩⟩
  .unfold dT;refine ac0 Tryz.func108 Tryz.ntmps108 [.cell 4 42,.cell 5 42,.tmp 6] ?_;exact wk1 e1 trivial
  .have:A=0:=by
    have:=q1W A;rw [hA0] at this; simpa using this.symm
   rw [hA0,this]; simp
  .have:=q2F b1 (yW (dyE B));simpa using this
 have e1:((od A).sign == 0)=false:=by simpa [zN] using hA0
 by_cases hB0:od B=0
 .have e2:((od B).sign == 0)=true:=by rw [hB0]; rfl
  refine ⟨od A,od B,dyE A,?_,⟨a1,ω,?_,?_⟩⟩
  .unfold dT;refine ac0 Tryz.func108 Tryz.ntmps108 [.cell 4 42,.cell 5 42,.tmp 6] ?_;exact wk1 (x2 e1 e2) trivial
  .have:=q2F a1 (yW (dyE A));simpa using this
  .have:B=0:=by
    have:=q1W B;rw [hB0] at this; simpa using this.symm
   rw [hB0,this]; simp
 have e2:((od B).sign == 0)=false:=by simpa [zN] using hB0
 by_cases hlt:dyE B < dyE A
 .refine ⟨shI (od A) (dyE A-dyE B),od B,dyE B,?_,⟨b1,ω,?_,?_⟩⟩
  .unfold dT;refine ac0 Tryz.func108 Tryz.ntmps108 [.cell 4 42,.cell 5 42,.tmp 6] ?_;exact wk1 (x4 e1 e2 hlt wA) trivial
  .unfold shI;rw [if_pos ω];exact q2F b1 Oq
  .have:=q2F b1 (yW (dyE B));simpa using this
 .refine ⟨od A,shI (od B) (dyE B-dyE A),dyE A,?_,⟨a1,ω,?_,?_⟩⟩
  .unfold dT;refine ac0 Tryz.func108 Tryz.ntmps108 [.cell 4 42,.cell 5 42,.tmp 6] ?_;exact wk1 (x4 e1 e2 hlt wB) trivial
  .have:=q2F a1 (yW (dyE A));simpa using this
  .unfold shI;rw [if_pos ω];exact q2F a1 Oq
def qth {a b:Int} {k:Nat} (ha:bl a.natAbs<=k) (hb:bl b.natAbs<=k):bl (a-b).natAbs<=k+1:=by
 have h1:=q1D ha;have h2:=q1D hb;exact q7t.2 (by rw [Nat.pow_succ]; omega)
def qnO {a b:Int} {k:Nat} (ha:bl a.natAbs<=k) (hb:bl b.natAbs<=k):bl (a+b).natAbs<=k+1:=by
 have h1:=q1D ha;have h2:=q1D hb;exact q7t.2 (by rw [Nat.pow_succ]; omega)
def qkX {a b:Int} (ha:bl a.natAbs<=20000000) (hb:bl b.natAbs<=20000000):ACt 75 [bT a,bT b] (bT (a+b)):=q3E (q6L rfl rfl ha hb)
def qkT {a b:Int} (ha:bl a.natAbs<=20000000) (hb:bl b.natAbs<=20000000):ACt 147 [bT a,bT b] (bT (a-b)):=q3E (q9T rfl rfl ha hb)
def qkV {a b:Int} (ha:bl a.natAbs<=10000000) (hb:bl b.natAbs<=10000000):ACt 77 [bT a,bT b] (iv (a-b).sign):=by
 have cS:=qkT (a:=a) (b:=b) Oq Oq;have cG:=q6D (a:=a-b) (by have:=qth ha hb; omega);unfold bT at *;refine ac0 Tryz.func77 Tryz.ntmps77 [.tmp 4] ?_;exact wk trivial
def Aln.sgn {A B x y e:Int} (h:Aln A B x y e):(x-y).sign=(A-B).sign:=by
 rw [<- h.a,<- h.b,<- Int.sub_mul,Int.sign_mul,yJ (q0P _),Int.mul_one]
def Aln.sum {A B x y e:Int} (h:Aln A B x y e) (ho:q00 (A+B)):mkV (x+y) e=some (A+B):=by
 rw [q4U h.e1 (V:=A+B) (by rw [Int.add_mul,h.a,h.b]),q2e ho]
def qmZ {A B:Int}:ACt 95 [pV A,pV B] (.tu [iv (A-B).sign,bv true]):=ac_2 qtZ λ⟨hA,hB⟩=>by
 have cA:=q0y hA;have cB:=q0y hB;obtain ⟨x,y,e,cL,hL⟩:=q7f hA hB;obtain ⟨l1,l2⟩:=hL.bl hA hB;have cC:=qkV (a:=x) (b:=y) Oq Oq;rw [hL.sgn] at cC;unfold dT at cA cB cL ⊢;unfold bT at cL cC;refine ac0 Tryz.func95 Tryz.ntmps95 [.tmp 4,.tmp 5] ?_;exact wk trivial
def q8k {A B:Int} (ho:q00 (A+B)):ACt 48 [pV A,pV B] (pV (A+B)):=ac_2 qt0 λ⟨hA,hB⟩=>by
 have cA:=q0y hA;have cB:=q0y hB;obtain ⟨x,y,e,cL,hL⟩:=q7f hA hB;obtain ⟨l1,l2⟩:=hL.bl hA hB;have cC:=qkX (a:=x) (b:=y) Oq Oq;have cM:=q2g rfl (m:=x+y) (e:=e) (V:=A+B) (by have:=qnO l1 l2; omega) (by have:=hL.e1; omega) (by have:=hL.e2; omega) (hL.sum ho);unfold dT at cA cB cL ⊢;unfold bT at cL cC cM;refine ac0 Tryz.func48 Tryz.ntmps48 [.cell 4 46] ?_;exact wk trivial
def qmY {A B:Int} (ho:q00 (A-B)):ACt 47 [pV A,pV B] (pV (A-B)):=by
 have cN:=qdu (V:=B);have cA:=q8k (A:=A) (B := -B) (by rwa [<- Int.sub_eq_add_neg]);rw [<- Int.sub_eq_add_neg] at cA;refine ac0 Tryz.func47 Tryz.ntmps47 [.cell 4 46] ?_;exact wk trivial
def q9o {A B:Int}:ACt 32 [pV A,pV B] (bv (decide (A < B))):=by
 have cC:=qmZ (A:=A) (B:=B);have es:decide ((A-B).sign < 0)=decide (A < B):=by
  congr 1
  rw [Int.sign_neg_iff];exact propext ⟨λh=>by omega,λh=>by omega⟩
 refine ac0 Tryz.func32 Tryz.ntmps32 [.tmp 4] ?_;exact wk1 es trivial
def q5J (l:List Int) (n:Int):Prop:=(l.length:Int)=n/\(∀ x ∈ l,0<=x/\x < n)/\l.Nodup
def q5P (l:List Int) (i:Nat):List Bool:=(List.range l.length).map λk:Nat=>decide ((k:Int) ∈ l.take i)
def qfX {l:List Int} {i:Nat}:(q5P l i).length=l.length:=by simp [q5P]
def qqU {l:List Int}:List.replicate l.length false=q5P l 0:=by simp [q5P,List.map_const']
def qfY {l:List Int} {i k:Nat} (hk:k < l.length):(q5P l i)[k]?=some (decide ((k:Int) ∈ l.take i)):=by simp [q5P,hk]
def qfW {l:List Int} {i k:Nat} (hi:l[i]?=some (k:Int)):(q5P l i).set k true=q5P l (i+1):=by
 obtain ⟨hlt,he⟩:=zB.1 hi
 apply xN
 intro m;rw [xO];simp only [q5P,zQ,yC,yA,uQ hlt,he,zJ,xI]
 by_cases hm:m < l.length
 .rw [zO hm]
  by_cases hkm:k=m
  .subst hkm; simp [hm]
  .rw [if_neg hkm]; simp; omega
 .rw [zU (by simp; omega)]
  by_cases hkm:k=m <;> simp [hkm] <;> omega
def q3z {α:Type} {l:List α} {i:Nat} {x:α} (hx:l[i]?=some x):l.take (i+1)=l.take i ++ [x]:=by
 obtain ⟨h1,h2⟩:=zB.1 hx;rw [uQ h1,h2]
def qfK {α:Type} {p:α->Prop} {l:List α} {i:Nat} {x:α} (hx:l[i]?=some x) (h:∀ y ∈ l.take i,p y) (hp:p x):∀ y ∈ l.take (i+1),p y:=by
 rw [q3z hx];intro y hy
 rcases zJ.1 hy with hy | hy
 .exact h y hy
 .simp at hy; subst hy; exact hp
open Classical in
def qaa {l:List Nat} (hl:l.length<=9223372036854775807) (hu:∀ x ∈ l,x < 18446744073709551616):ACt 137 [pF l] (bv (decide (∀ x ∈ l,q0L x))):=by
 refine ac0 Tryz.func137 Tryz.ntmps137 [.tmp 2] ?_;refine wk ?_;refine q0C (λi=>i<=l.length/\∀ x ∈ l.take i,q0L x) [0] [] Lk Lk (λi:Nat=>[(3,iv i)]) (λ_=>[]) (λi=>l.length-i) 0 ⟨zI _,σ⟩ ?_ ?_
 .refine LeM [] rfl rfl ?_;refine Zz ?_
  rfl
 .rintro i ⟨hi,hr⟩;refine wk ?_
  by_cases hlt:i < l.length
  .have hlt':(i:Int) < l.length:=ω
   refine wk1 hlt' ?_;obtain ⟨x,hx⟩:∃ x,l[i]?=some x:=⟨_,zA hlt⟩;have hm:=zF hx;have C1:=(qcM (hu x hm));refine wk1 hx ?_
   by_cases hf:q0L x
   .refine wk1 hf ?_;refine ⟨i+1,⟨ω,qfK hx hr hf⟩,ω,?_⟩;refine LeM [] rfl rfl ?_;refine Zz ?_;omega
   .refine wk1 hf ?_;exact (decide_eq_false λh=>hf (h x hm)).symm
  .have hlt':¬ (i:Int) < l.length:=ω
   refine wk1 hlt' ?_;obtain rfl:i=l.length:=ω
   rw [zY] at hr;exact (decide_eq_true hr).symm
def q5S (rows cols:Int) (st ix:List Int) (vl:List Nat):PV:=.ag [iv rows,iv cols,pI st,pI ix,pF vl]
structure MSz (rows cols:Int) (ix:List Int):Prop where
 r0:¬ rows < 0
 r1:¬ 200 < rows
 c0:¬ cols < 0
 c1:¬ 200 < cols
 i1:¬ (10000:Int) < ix.length
structure MPt (cols:Int) (st ix:List Int) (vl:List Nat):Prop where
 v:vl.length=ix.length
 s:(st.length:Int)=cols+1
 f:st[0]?=some 0
 l:st[cols.toNat]?=some (ix.length:Int)
 m:∀ (j:Nat) (x y:Int),st[j]?=some x->st[j+1]?=some y->x<=y
def MIx1 (rows:Int) (ix:List Int) (x:Int) (k:Nat):Prop:=∀ v,ix[k]?=some v->0<=v/\v < rows/\(x < k->∀ u,ix[k-1]?=some u->u < v)
def MIx (rows:Int) (st ix:List Int):Prop:=∀ (j:Nat) (x y:Int),st[j]?=some x->st[j+1]?=some y->∀ k:Nat,x<=k->(k:Int) < y->MIx1 rows ix x k
open Classical in
noncomputable def q5n (rows cols:Int) (st ix:List Int) (vl:List Nat):Int :=
 if MSz rows cols ix then (if MPt cols st ix vl/\MIx rows st ix then (if ∀ x ∈ vl,q0L x then 0 else 4) else 1) else 6
def MPt.nn {cols:Int} {st ix:List Int} {vl:List Nat} (h:MPt cols st ix vl):∀ (j:Nat) (x:Int),st[j]?=some x->0<=x
 | 0,x,hx=>by rw [h.f] at hx; cases hx; omega
 | j+1,x,hx=>by
  have hlt:=(zB.1 hx).1;have hj:st[j]?=some st[j]:=zA Oq;have:=h.m j _ _ hj hx;have:=h.nn j _ hj;omega
def MPt.ub {cols:Int} {st ix:List Int} {vl:List Nat} (h:MPt cols st ix vl) (hc:0<=cols):∀ (d j:Nat) (x:Int),j+d=cols.toNat->st[j]?=some x->x<=ix.length
 | 0,j,x,hd,hx=>by
  have:j=cols.toNat:=ω
  subst this;rw [h.l] at hx; cases hx; omega
 | d+1,j,x,hd,hx=>by
  have hlt:j+1 < st.length:=by have:=h.s; omega
  have hj:st[j+1]?=some st[j+1]:=zA hlt;have:=h.m j _ _ hx hj;have:=h.ub hc d (j+1) _ Oq hj;omega
def qf7 {rows cols:Int} {st ix:List Int} {vl:List Nat} (hl:st.length<=9223372036854775807) (hli:ix.length<=9223372036854775807) (hlv:vl.length<=9223372036854775807) (hu:∀ x ∈ vl,x < 18446744073709551616) :
  ACt 72 [q5S rows cols st ix vl] (iv (q5n rows cols st ix vl)):=by
 have c6:¬ MSz rows cols ix->q5n rows cols st ix vl=6:=λh=>if_neg h;have c1:MSz rows cols ix->¬ (MPt cols st ix vl/\MIx rows st ix)->q5n rows cols st ix vl=1:=λh h2=>by unfold q5n; rw [if_pos h,if_neg h2]
 have c0:MSz rows cols ix->MPt cols st ix vl/\MIx rows st ix->q5n rows cols st ix vl=if ∀ x ∈ vl,q0L x then 0 else 4:=λh h2=>by unfold q5n; rw [if_pos h,if_pos h2]
 generalize q5n rows cols st ix vl=res at *;unfold q5S;refine ac0 Tryz.func72 Tryz.ntmps72 [.tmp 2] ?_;refine wk ?_
 by_cases h1:rows < 0
 .refine wk1 h1 ?_;rw [c6 λh=>h.r0 h1]
 by_cases h2:200 < rows
 .refine wk1 (x2 h1 h2) ?_;rw [c6 λh=>h.r1 h2]
 by_cases h3:cols < 0
 .refine wk1 (x3 h1 h2 h3) ?_;rw [c6 λh=>h.c0 h3]
 by_cases h4:200 < cols
 .refine wk1 (x4 h1 h2 h3 h4) ?_;rw [c6 λh=>h.c1 h4]
 by_cases h5:(10000:Int) < ix.length
 .refine wk1 (x5 h1 h2 h3 h4 h5) ?_;rw [c6 λh=>h.i1 h5]
 refine wk1 (x5 h1 h2 h3 h4 h5) ?_;have hz:MSz rows cols ix:=⟨h1,h2,h3,h4,h5⟩;obtain ⟨n,rfl⟩:∃ n:Nat,cols=n:=⟨cols.toNat,ω⟩;refine wk ?_;have w0:IntKind.i64.wrap ((n:Int)+1)=(n:Int)+1:=i64_in Oq Oq
 by_cases hv:vl.length=ix.length
 case neg =>
  have e1:((vl.length:Int) != ix.length)=true:=by simp; omega
  refine wk1 e1 ?_;rw [c1 hz λh=>hv h.1.v]
 have e1:((vl.length:Int) != ix.length)=false:=by simp; omega
 by_cases hs:st.length=n+1
 case neg =>
  have e2:((st.length:Int) != (n:Int)+1)=true:=by simp; omega
  refine wk1 (x3 e1 w0 e2) ?_;rw [c1 hz λh=>by have:=h.1.s; omega]
 have e2:((st.length:Int) != (n:Int)+1)=false:=by simp; omega
 obtain ⟨x0,hx0⟩:∃ x,st[0]?=some x:=⟨_,zA Oq⟩;obtain ⟨xn,hxn⟩:∃ x,st[n]?=some x:=⟨_,zA Oq⟩
 by_cases h0:x0=0
 case neg =>
  have e3:(x0 != 0)=true:=by simpa using h0
  refine wk1 (x5 e1 w0 e2 hx0 e3) ?_;rw [c1 hz λh=>by have:=h.1.f; rw [hx0] at this; exact h0 (zK.inj this)]
 subst h0;have e3:((0:Int) != 0)=false:=rfl
 by_cases hn:xn=ix.length
 case neg =>
  have e4:(xn != (ix.length:Int))=true:=by simpa using hn
  refine wk1 (x6 e1 w0 e2 hx0 e3 (x2 hxn e4)) ?_;rw [c1 hz λh=>by have:=h.1.l; rw [zD,hxn] at this; exact hn (zK.inj this)]
 subst hn;have e4:((ix.length:Int) != (ix.length:Int))=false:=σ
 refine wk1 (x6 e1 w0 e2 hx0 e3 (x2 hxn e4)) ?_;have hp:∀ {j:Nat} {x:Int},(∀ (j:Nat) (x y:Int),st[j]?=some x->st[j+1]?=some y->x<=y)->MPt n st ix vl:=λhm=>⟨hv,ω,hx0,by rw [zD]; exact hxn,hm⟩;refine q6q [1,3,4] Lk ?_;refine wk ?_;refine q0C (λi=>i<=n/\∀ j x y,j < i->st[j]?=some x->st[j+1]?=some y->x<=y) [1] [1] Lk Lk (λi:Nat=>[(4,iv i)]) (λ_=>[]) (λi=>n-i) 0 ⟨zI _,ω⟩ ?_ ?_
 .refine LeM [] rfl rfl ?_;refine Zz ?_
  rfl
 .rintro i ⟨hi,hr⟩;refine wk ?_
  by_cases hlt:i < n
  .have hlt':(i:Int) < n:=ω
   refine wk1 hlt' ?_;obtain ⟨x,hx⟩:∃ x,st[i]?=some x:=⟨_,zA Oq⟩;obtain ⟨y,hy⟩:∃ x,st[i+1]?=some x:=⟨_,zA Oq⟩;have wi:IntKind.i64.wrap ((i:Int)+1)=((i+1:Nat):Int):=by rw [i64_in ω ω]; omega
   by_cases hxy:y < x
   .refine wk1 (x4 hx hy wi hxy) ?_;rw [c1 hz λh=>by have:=h.1.m i x y hx hy; omega]
   .refine wk1 (x4 hx hy wi hxy) ?_;refine ⟨i+1,⟨ω,λj x' y' hj hx' hy'=>?_⟩,ω,?_⟩
    .by_cases hji:j=i
     .subst hji;rw [hx] at hx'; rw [hy] at hy';cases hx'; cases hy'; omega
     .exact hr j x' y' Oq hx' hy'
    .refine LeM [] rfl rfl ?_;exact Zy
  .have hlt':¬ (i:Int) < n:=ω
   refine wk1 hlt' ?_;obtain rfl:i=n:=ω
   have hP:MPt i st ix vl:=⟨hv,ω,hx0,by rw [zD]; exact hxn,λj x y hx hy=>hr j x y (by have:=(zB.1 hy).1; omega) hx hy⟩;clear hr hp hlt hlt';refine wk ?_;refine q0C (λj=>j<=i/\∀ j' x y,j' < j->st[j']?=some x->st[j'+1]?=some y->∀ k:Nat,x<=k->(k:Int) < y->MIx1 rows ix x k) [1] [1] Lk Lk (λj:Nat=>[(5,iv j)]) (λ_=>[]) (λj=>i-j) 0 ⟨zI _,ω⟩ ?_ ?_
   .refine LeM [] rfl rfl ?_;refine Zz ?_
    rfl
   .rintro j ⟨hj,hr⟩;refine wk ?_
    by_cases hlt:j < i
    .have hlt':(j:Int) < i:=ω
     refine wk1 hlt' ?_;obtain ⟨x,hx⟩:∃ x,st[j]?=some x:=⟨_,zA Oq⟩;obtain ⟨y,hy⟩:∃ x,st[j+1]?=some x:=⟨_,zA Oq⟩;have wi:IntKind.i64.wrap ((j:Int)+1)=((j+1:Nat):Int):=by rw [i64_in ω ω]; omega
     have hxy:=hP.m j x y hx hy;obtain ⟨a,rfl⟩:∃ a:Nat,x=a:=⟨x.toNat,by have:=hP.nn j x hx; omega⟩;obtain ⟨b,rfl⟩:∃ b:Nat,y=b:=⟨y.toNat,ω⟩;have hb:b<=ix.length:=by have:=hP.ub ω (i-(j+1)) (j+1) b (by rw [zD]; omega) hy; omega
     refine wk1 hx ?_;refine q0C (λk=>a<=k/\k<=b/\∀ k':Nat,a<=k'->k' < k->MIx1 rows ix a k') [1,5] [1] Lk Lk (λk:Nat=>[(6,iv k)]) (λ_=>[]) (λk=>b-k) a ⟨zL _,ω,ω⟩ ?_ ?_
     .refine LeM [] rfl rfl ?_;exact Zy
     .rintro k ⟨hk,hkb,hrk⟩;refine wk ?_
      by_cases hltk:k < b
      .have hltk':(k:Int) < b:=ω
       refine wk1 (x3 wi hy hltk') ?_;obtain ⟨v,hv⟩:∃ v,ix[k]?=some v:=⟨_,zA Oq⟩;have fin:(¬ (0<=v/\v < rows/\((a:Int) < k->∀ u,ix[k-1]?=some u->u < v)))->res=1:=λhb'=>c1 hz λh=>hb' (h.2 j a b hx hy k Oq Oq v hv);have ok:0<=v->v < rows->((a:Int) < k->∀ u,ix[k-1]?=some u->u < v)->∀ k':Nat,a<=k'->k' < k+1->MIx1 rows ix a k':=λq1 q2 q3 k' hk' hk1=>by
        by_cases hkk:k'=k
        .subst hkk;intro v' hv';rw [hv] at hv'; cases hv';exact ⟨q1,q2,q3⟩
        .exact hrk k' hk' Oq
       by_cases hv0:v < 0
       .refine wk1 (x2 hv hv0) ?_;rw [fin λh=>by omega]
       .by_cases hvr:rows<=v
        .refine wk1 (x3 hv hv0 hvr) ?_;rw [fin λh=>by omega]
        .by_cases hak:(a:Int) < k
         .obtain ⟨k,rfl⟩:∃ k',k=k'+1:=⟨k-1,ω⟩;obtain ⟨u,hu⟩:∃ v,ix[k]?=some v:=⟨_,zA Oq⟩;have wk:IntKind.i64.wrap (((k+1:Nat):Int)-1)=k:=by rw [i64_in ω ω]; omega
          by_cases huv:v<=u
          .refine wk1 (x6 hv hv0 hvr hx hak (x3 @wk hu huv)) ?_;rw [fin λh=>by have:=h.2.2 hak u hu; omega]
          .refine wk1 (x6 hv hv0 hvr hx hak (x3 @wk hu huv)) ?_;refine ⟨k+1+1,⟨ω,ω,ok Oq Oq λ_ u' hu'=>?_⟩,ω,?_⟩
           .rw [yV,hu] at hu'; cases hu'; omega
           .refine LeM [] rfl rfl ?_;refine Zz ?_;omega
         .refine wk1 (x5 hv hv0 hvr hx hak) ?_;refine ⟨k+1,⟨ω,ω,ok Oq Oq λh=>absurd h hak⟩,ω,?_⟩;refine LeM [] rfl rfl ?_;refine Zz ?_;omega
      .have hltk':¬ (k:Int) < b:=ω
       refine wk1 (x3 wi hy hltk') ?_;refine ⟨j+1,⟨ω,λj' x' y' hj' hx' hy' k' h1' h2'=>?_⟩,ω,?_⟩
       .by_cases hji:j'=j
        .subst hji;rw [hx] at hx'; rw [hy] at hy';cases hx'; cases hy';exact hrk k' Oq Oq
        .exact hr j' x' y' Oq hx' hy' k' h1' h2'
       .refine LeM [] rfl rfl ?_;exact Zy
    .have hlt':¬ (j:Int) < i:=ω
     refine wk1 hlt' ?_;obtain rfl:j=i:=ω
     have hX:MIx rows st ix:=λj' x y hx hy=>hr j' x y (by have:=(zB.1 hy).1; omega) hx hy;have c0:=c0 hz ⟨hP,hX⟩;have C1:=(qaa hlv hu);refine wk ?_
     by_cases hf:∀ x ∈ vl,q0L x
     .rw [if_pos hf] at c0;have ef:∀ (i:Decidable (∀ x ∈ vl,q0L x)),@decide _ i=true:=λ_=>decide_eq_true hf;refine wk1 ef ?_;rw [c0]
     .rw [if_neg hf] at c0;have ef:∀ (i:Decidable (∀ x ∈ vl,q0L x)),@decide _ i=false:=λ_=>decide_eq_false hf;refine wk1 ef ?_;rw [c0]
def q73 (ix:List Int) (i:Int) (a b:Nat):Option Nat:=(List.range' a (b-a)).find? λk=>decide (ix[k]?=some i)
def qjF {ix:List Int} {i v:Int} {a b:Nat} (h:a < b) (hv:ix[a]?=some v) (hn:¬ v=i):q73 ix i a b=q73 ix i (a+1) b:=by
 unfold q73;rw [show b-a=(b-(a+1))+1 by omega,List.range'_succ,yS,hv];have:decide (some v=some i)=false:=decide_eq_false λe=>hn (zK.inj e);rw [this]
def qdO {ix:List Int} {v:Int} {a b:Nat} (h:a < b) (hv:ix[a]?=some v):q73 ix v a b=some a:=by
 unfold q73;rw [show b-a=(b-(a+1))+1 by omega,List.range'_succ,yS,hv];have:decide (some v=some v)=true:=decide_eq_true rfl;rw [this]
def qdP {ix:List Int} {v:Int} {a b:Nat} (h:b<=a):q73 ix v a b=none:=by
 unfold q73;rw [show b-a=0 by omega]; rfl
def qdy (st ix:List Int) (i:Int) (j:Nat):Option Nat:=q73 ix i (st.getD j 0).toNat (st.getD (j+1) 0).toNat
open Classical in
noncomputable def qp7 (rows cols:Int) (st ix:List Int) (i j:Int):Bool:=if 0<=i/\i < rows/\0<=j/\j < cols then (qdy st ix i j.toNat).isSome else false
open Classical in
noncomputable def atM (rows cols:Int) (st ix:List Int) (vl:List Nat) (i j:Int):Nat:=if q5n rows cols st ix vl=0/\0<=j/\j < cols then (match qdy st ix i j.toNat with | some k=>vl.getD k 0 | none=>0) else 0
def chk0 {rows cols:Int} {st ix:List Int} {vl:List Nat} (h:q5n rows cols st ix vl=0):MSz rows cols ix/\MPt cols st ix vl/\MIx rows st ix/\∀ x ∈ vl,q0L x:=by
 unfold q5n at h
 split at h
 .split at h
  .split at h
   .exact ⟨‹_›,(‹_/\_›).1,(‹_/\_›).2,‹_›⟩
   .cases h
  .cases h
 .cases h
def MPt.col {n:Nat} {st ix:List Int} {vl:List Nat} (h:MPt n st ix vl) {j:Nat} (hj:j < n):∃ a b:Nat,st[j]?=some (a:Int)/\st[j+1]?=some (b:Int)/\a<=b/\b<=ix.length/\(st.getD j 0).toNat=a/\(st.getD (j+1) 0).toNat=b:=by
 have hs:=h.s;obtain ⟨x,hx⟩:∃ x,st[j]?=some x:=⟨_,zA Oq⟩;obtain ⟨y,hy⟩:∃ x,st[j+1]?=some x:=⟨_,zA Oq⟩;have h1:=h.nn j x hx;have h2:=h.nn (j+1) y hy;have h3:=h.m j x y hx hy;have h4:=h.ub ω (n-(j+1)) (j+1) y (by rw [zD]; omega) hy;refine ⟨x.toNat,y.toNat,by rw [hx]; congr 1; omega,by rw [hy]; congr 1; omega,ω,ω,?_,?_⟩
 .rw [zC,hx]; rfl
 .rw [zC,hy]; rfl
def qa9 {rows cols i j:Int} {st ix:List Int} {vl:List Nat} (hc:cols<=200) (hi:ix.length<=10000) (hP:MPt cols st ix vl):ACt 102 [q5S rows cols st ix vl,iv i,iv j] (bv (qp7 rows cols st ix i j)):=by
 have c0:¬ (0<=i/\i < rows/\0<=j/\j < cols)->qp7 rows cols st ix i j=false:=λh=>if_neg h;have c1:(0<=i/\i < rows/\0<=j/\j < cols)->qp7 rows cols st ix i j=(qdy st ix i j.toNat).isSome:=λh=>if_pos h;generalize qp7 rows cols st ix i j=res at *;unfold q5S;refine ac0 Tryz.func102 Tryz.ntmps102 [.tmp 6] ?_;refine wk ?_
 by_cases h1:i < 0
 .refine wk1 h1 ?_;rw [c0 λh=>by omega]
 by_cases h2:rows<=i
 .refine wk1 (x2 h1 h2) ?_;rw [c0 λh=>by omega]
 by_cases h3:j < 0
 .refine wk1 (x3 h1 h2 h3) ?_;rw [c0 λh=>by omega]
 by_cases h4:cols<=j
 .refine wk1 (x4 h1 h2 h3 h4) ?_;rw [c0 λh=>by omega]
 refine wk1 (x4 h1 h2 h3 h4) ?_;have d1:=c1 ⟨ω,ω,ω,ω⟩;obtain ⟨j,rfl⟩:∃ j':Nat,j=j':=⟨j.toNat,ω⟩;obtain ⟨n,rfl⟩:∃ n:Nat,cols=n:=⟨cols.toNat,ω⟩;obtain ⟨a,b,hx,hy,hab,hb,ea,eb⟩:=hP.col (show j < n by omega);rw [zD] at d1;unfold qdy at d1;rw [ea,eb] at d1;have wi:IntKind.i64.wrap ((j:Int)+1)=((j+1:Nat):Int):=by rw [i64_in ω ω]; omega
 refine wk1 hx ?_;refine q6q [1,2,3,7] Lk ?_;refine wk ?_;refine q0C (λk=>a<=k/\k<=b/\q73 ix i a b=q73 ix i k b) [1,2,3] [3] Lk Lk (λk:Nat=>[(7,iv k)]) (λ_=>[]) (λk=>b-k) a ⟨zL _,hab,rfl⟩ ?_ ?_
 .refine LeM [] rfl rfl ?_;exact Zy
 .rintro k ⟨hk,hkb,hr⟩;refine wk ?_
  by_cases hlt:k < b
  .have hlt':(k:Int) < b:=ω
   refine wk1 (x3 wi hy hlt') ?_;obtain ⟨v,hv⟩:∃ v,ix[k]?=some v:=⟨_,zA Oq⟩
   by_cases hvi:v=i
   .subst hvi;have e1:(v == v)=true:=σ
    refine wk1 (x2 hv e1) ?_;rw [d1,hr,qdO hlt hv]; rfl
   .have e1:(v == i)=false:=by simpa using hvi
    refine wk1 (x2 hv e1) ?_;refine ⟨k+1,⟨ω,ω,by rw [hr,qjF hlt hv hvi]⟩,ω,?_⟩;refine LeM [] rfl rfl ?_;refine Zz ?_;omega
  .have hlt':¬ (k:Int) < b:=ω
   refine wk1 (x3 wi hy hlt') ?_;rw [d1,hr,qdP ω]; rfl
def qql {rows cols i j:Int} {st ix:List Int} {vl:List Nat} (hl:st.length<=9223372036854775807) (hli:ix.length<=9223372036854775807) (hlv:vl.length<=9223372036854775807) (hu:∀ x ∈ vl,x < 18446744073709551616):ACt 39 [q5S rows cols st ix vl,iv i,iv j] (uv (atM rows cols st ix vl i j:Nat)):=by
 have c0:¬ (q5n rows cols st ix vl=0/\0<=j/\j < cols)->atM rows cols st ix vl i j=0:=λh=>if_neg h;have c1:(q5n rows cols st ix vl=0/\0<=j/\j < cols)->atM rows cols st ix vl i j=(match qdy st ix i j.toNat with | some k=>vl.getD k 0 | none=>0):=λh=>if_pos h;have hA:=qf7 (rows:=rows) (cols:=cols) hl hli hlv hu;generalize atM rows cols st ix vl i j=res at *;unfold q5S at *;refine ac0 Tryz.func39 Tryz.ntmps39 [.tmp 6] ?_;refine wk ?_
 by_cases hz:q5n rows cols st ix vl=0
 case neg =>
  have e1:(q5n rows cols st ix vl != 0)=true:=by simpa using hz
  refine wk1 e1 ?_;rw [c0 λh=>hz h.1]; rfl
 have e1:(q5n rows cols st ix vl != 0)=false:=by simpa using hz
 by_cases h3:j < 0
 .refine wk1 (x2 e1 h3) ?_;rw [c0 λh=>by omega]; rfl
 by_cases h4:cols<=j
 .refine wk1 (x3 e1 h3 h4) ?_;rw [c0 λh=>by omega]; rfl
 refine wk1 (x3 e1 h3 h4) ?_;have d1:=c1 ⟨hz,ω,ω⟩;obtain ⟨hz1,hP,hX,hfn⟩:=chk0 hz;have hc:=hz1.c1;have hi:=hz1.i1;obtain ⟨j,rfl⟩:∃ j':Nat,j=j':=⟨j.toNat,ω⟩;obtain ⟨n,rfl⟩:∃ n:Nat,cols=n:=⟨cols.toNat,ω⟩;obtain ⟨a,b,hx,hy,hab,hb,ea,eb⟩:=hP.col (show j < n by omega);rw [zD] at d1;unfold qdy at d1;rw [ea,eb] at d1;have wi:IntKind.i64.wrap ((j:Int)+1)=((j+1:Nat):Int):=by rw [i64_in ω ω]; omega
 refine wk1 hx ?_;refine q6q [1,2,3,7] Lk ?_;refine wk ?_;refine q0C (λk=>a<=k/\k<=b/\q73 ix i a b=q73 ix i k b) [1,2,3] [3] Lk Lk (λk:Nat=>[(7,iv k)]) (λ_=>[]) (λk=>b-k) a ⟨zL _,hab,rfl⟩ ?_ ?_
 .refine LeM [] rfl rfl ?_;exact Zy
 .rintro k ⟨hk,hkb,hr⟩;refine wk ?_
  by_cases hlt:k < b
  .have hlt':(k:Int) < b:=ω
   refine wk1 (x3 wi hy hlt') ?_;obtain ⟨v,hv⟩:∃ v,ix[k]?=some v:=⟨_,zA Oq⟩
   by_cases hvi:v=i
   .subst hvi;have e1:(v == v)=true:=σ
    refine wk1 (x2 hv e1) ?_;obtain ⟨u,hu'⟩:∃ u,vl[k]?=some u:=⟨_,zA (by have:=hP.v; omega)⟩;refine wk1 hu' ?_;rw [d1,hr,qdO hlt hv];simp only [zC,hu']; rfl
   .have e1:(v == i)=false:=by simpa using hvi
    refine wk1 (x2 hv e1) ?_;refine ⟨k+1,⟨ω,ω,by rw [hr,qjF hlt hv hvi]⟩,ω,?_⟩;refine LeM [] rfl rfl ?_;refine Zz ?_;omega
  .have hlt':¬ (k:Int) < b:=ω
   refine wk1 (x3 wi hy hlt') ?_;rw [d1,hr,qdP ω]; rfl

def tC (f:Nat->Nat->Option Nat) (j:Nat) (p:List Int × List Nat):Nat->List Int × List Nat
 | 0=>p
 | i+1=>match f j i with
  | some x=>((tC f j p i).1 ++ [(i:Int)],(tC f j p i).2 ++ [x])
  | none=>tC f j p i
def tM (f:Nat->Nat->Option Nat) (R:Nat):Nat->List Int × List Int × List Nat
 | 0=>([0],[],[])
 | j+1=>((tM f R j).1 ++ [((tC f j (tM f R j).2 R).1.length:Int)],tC f j (tM f R j).2 R)
def pT (R C:Nat) (f:Nat->Nat->Option Nat):PV:=q5S R C (tM f R C).1 (tM f R C).2.1 (tM f R C).2.2
def qbk {f:Nat->Nat->Option Nat} {j:Nat} {p:List Int × List Nat} (hp:p.1.length=p.2.length):∀ i,(tC f j p i).1.length=(tC f j p i).2.length/\p.1.length<=(tC f j p i).1.length/\(tC f j p i).1.length<=p.1.length+i
 | 0=>⟨hp,zL _,zL _⟩
 | i+1=>by
  have:=qbk (f:=f) (j:=j) hp i;simp only [tC]
  split
  .simp only [z8,List.length_cons,List.length_nil]; omega
  .omega
def q0p {f:Nat->Nat->Option Nat} {R:Nat}:∀ j,(tM f R j).1.length=j+1/\(tM f R j).2.1.length=(tM f R j).2.2.length/\(tM f R j).2.1.length<=j*R
 | 0=>⟨rfl,rfl,by simp [tM]⟩
 | j+1=>by
  have h1:=q0p (f:=f) (R:=R) j;have h2:=qbk (f:=f) (j:=j) h1.2.1 R;simp only [tM];refine ⟨by simp [h1.1],h2.1,?_⟩;rw [Nat.succ_mul]; omega
section
variable {f:Nat->Nat->Option Nat} {R C:Nat}
def tZ (f:Nat->Nat->Option Nat) (j i:Nat):List (Nat × Nat):=(List.range i).filterMap λk=>(f j k).map λx=>(k,x)
def qoL {j i:Nat}:tZ f j (i+1)=tZ f j i ++ (match f j i with | some x=>[(i,x)] | none=>[]):=by
 unfold tZ;rw [x8,List.filterMap_append]
 congr 1
 cases h:f j i <;> simp [h]
def q12 {j i k x:Nat}:(k,x) ∈ tZ f j i ↔ k < i/\f j k=some x:=by
 unfold tZ;rw [List.mem_filterMap]
 constructor
 .rintro ⟨a,ha,h⟩;obtain ⟨y,hy,h2⟩:=xV.1 h;cases h2;exact ⟨uO.1 ha,hy⟩
 .rintro ⟨h1,h2⟩;exact ⟨k,uO.2 h1,by rw [h2]; rfl⟩
def q4A {j:Nat}:∀ i,(tZ f j i).Pairwise λa b=>a.1 < b.1
 | 0=>by simp [tZ]
 | i+1=>by
  rw [qoL,List.pairwise_append];refine ⟨q4A i,?_,λa ha b hb=>?_⟩
  .split <;> simp
  .have h1:=(q12.1 (show (a.1,a.2) ∈ tZ f j i from ha)).1
   split at hb
   .simp at hb; subst hb; exact h1
   .cases hb
def q5O {j:Nat} {p:List Int × List Nat}:∀ i,tC f j p i=(p.1 ++ (tZ f j i).map (λq=>(q.1:Int)),p.2 ++ (tZ f j i).map (·.2))
 | 0=>by simp [tC,tZ]
 | i+1=>by
  rw [tC,qoL,q5O i];cases h:f j i <;> simp
def tO (f:Nat->Nat->Option Nat) (R j:Nat):Nat:=(tM f R j).2.1.length
def q8N {j:Nat}:tO f R (j+1)=tO f R j+(tZ f j R).length:=by simp [tO,tM,q5O]
def tM_st {j:Nat}:(tM f R j).1[j]?=some (tO f R j:Int):=by
 cases j with
 | zero=>simp [tM,tO]
 | succ j =>
  have:=(q0p (f:=f) (R:=R) j).1;simp only [tM,tO];rw [zV ω,this];simp
def qbi {j:Nat}:∀ d,∃ a b c,(tM f R (j+d)).1=(tM f R j).1 ++ a/\(tM f R (j+d)).2.1=(tM f R j).2.1 ++ b/\(tM f R (j+d)).2.2=(tM f R j).2.2 ++ c
 | 0=>⟨[],[],[],σ,σ,σ⟩
 | d+1=>by
  obtain ⟨a,b,c,h1,h2,h3⟩:=qbi (j:=j) d;have e1:(tM f R (j+(d+1))).1=(tM f R (j+d)).1 ++ [((tC f (j+d) (tM f R (j+d)).2 R).1.length:Int)]:=rfl;have e2:(tM f R (j+(d+1))).2=tC f (j+d) (tM f R (j+d)).2 R:=rfl;rw [q5O] at e2;rw [e1,e2,h1,h2,h3];simp only [xM];exact ⟨_,_,_,rfl,rfl,rfl⟩
def q1H {j:Nat} (hj:j<=C):(tM f R C).1[j]?=some (tO f R j:Int):=by
 obtain ⟨a,b,c,h1,_,_⟩:=qbi (f:=f) (R:=R) (j:=j) (C-j);rw [show j+(C-j)=C by omega] at h1;rw [h1,zM (by rw [(q0p j).1]; omega)];exact tM_st
def qbj {j:Nat} (hj:j < C):∃ b c,(tM f R C).2.1=(tM f R j).2.1 ++ (tZ f j R).map (λq=>(q.1:Int)) ++ b/\(tM f R C).2.2=(tM f R j).2.2 ++ (tZ f j R).map (·.2) ++ c:=by
 obtain ⟨a,b,c,_,h2,h3⟩:=qbi (f:=f) (R:=R) (j:=j+1) (C-(j+1));rw [show j+1+(C-(j+1))=C by omega] at h2 h3;refine ⟨b,c,?_,?_⟩
 .rw [h2]; simp only [tM,q5O]
 .rw [h3]; simp only [tM,q5O]
def q6E {j k:Nat} (hj:j < C) (h1:tO f R j<=k) (h2:k < tO f R (j+1)):∃ q,(tZ f j R)[k-tO f R j]?=some q/\(tM f R C).2.1[k]?=some (q.1:Int)/\(tM f R C).2.2[k]?=some q.2:=by
 obtain ⟨b,c,e1,e2⟩:=qbj (f:=f) (R:=R) hj;rw [q8N] at h2;have hl:=(q0p (f:=f) (R:=R) j).2.1;have ho:tO f R j=(tM f R j).2.1.length:=rfl;obtain ⟨q,hq⟩:∃ q,(tZ f j R)[k-tO f R j]?=some q:=⟨_,zA Oq⟩;refine ⟨q,hq,?_,?_⟩
 .rw [e1,zM (by simp; omega),zV ω,zQ,<- ho,hq]; rfl
 .rw [e2,zM (by simp; omega),zV ω,zQ,<- hl,<- ho,hq]; rfl
def qp2:MPt C (tM f R C).1 (tM f R C).2.1 (tM f R C).2.2:=by
 have hl:=q0p (f:=f) (R:=R) C;refine ⟨hl.2.1.symm,ω,?_,by rw [zD]; exact q1H (zL _),λj x y hx hy=>?_⟩
 .rw [q1H (zI _)]; rfl
 .have h1:=(zB.1 hy).1;rw [q1H ω] at hx hy;cases hx; cases hy;have:=q8N (f:=f) (R:=R) (j:=j);omega
def qp3:MIx R (tM f R C).1 (tM f R C).2.1:=λj x y hx hy k h1 h2 v hv=>by
 have hl:=q0p (f:=f) (R:=R) C;have h3:=(zB.1 hy).1;rw [q1H ω] at hx hy;cases hx; cases hy;obtain ⟨q,q1,q2,q3⟩:=q6E (f:=f) (R:=R) (C:=C) (j:=j) (k:=k) Oq Oq Oq;rw [hv] at q2;cases q2;have:=(q12.1 (show (q.1,q.2) ∈ _ from zF q1)).1;refine ⟨ω,ω,λhk u hu=>?_⟩;obtain ⟨p,p1,p2,p3⟩:=q6E (f:=f) (R:=R) (C:=C) (j:=j) (k:=k-1) Oq Oq Oq;rw [hu] at p2;cases p2;have ha:=yR.1 (q4A (f:=f) (j:=j) R);obtain ⟨a1,a2⟩:=zB.1 p1;obtain ⟨b1,b2⟩:=zB.1 q1;have:=ha _ _ a1 b1 Oq;rw [a2,b2] at this;omega
def q2r {x:Nat}:∀ C,x ∈ (tM f R C).2.2->∃ j i,j < C/\i < R/\f j i=some x
 | 0,h=>by simp [tM] at h
 | C+1,h=>by
  simp only [tM,q5O,zJ] at h
  rcases h with h | h
  .obtain ⟨j,i,h1,h2,h3⟩:=q2r C h;exact ⟨j,i,ω,h2,h3⟩
  .obtain ⟨⟨k,y⟩,hq,rfl⟩:=zH.1 h;have:=q12.1 hq;exact ⟨C,k,ω,this.1,this.2⟩
def qp4 (hR:R<=200) (hC:C<=200) (hRC:C*R<=10000) (hf:∀ j i x,j < C->i < R->f j i=some x->q0L x):q5n R C (tM f R C).1 (tM f R C).2.1 (tM f R C).2.2=0:=by
 have hl:=q0p (f:=f) (R:=R) C;have hz:MSz R C (tM f R C).2.1:=⟨ω,ω,ω,ω,ω⟩;unfold q5n;rw [if_pos hz,if_pos ⟨qp2,qp3⟩,if_pos];intro x hx;obtain ⟨j,i,h1,h2,h3⟩:=q2r C hx;exact hf j i x h1 h2 h3
end
structure TOk (f:Nat->Nat->Option Nat) (R C:Nat):Prop where
 r:R<=200
 c:C<=200
 m:C*R<=10000
 u:∀ j i x,j < C->i < R->f j i=some x->x < 18446744073709551616
 v:∀ j i x,j < C->i < R->f j i=some x->q0L x
def TOk.vl {f:Nat->Nat->Option Nat} {R C:Nat} (h:TOk f R C):(tM f R C).1.length<=9223372036854775807/\(tM f R C).2.1.length<=9223372036854775807/\(tM f R C).2.2.length<=9223372036854775807/\(∀ x ∈ (tM f R C).2.2,x < 18446744073709551616):=by
 have:=q0p (f:=f) (R:=R) C;have:=h.c;have:=h.m;refine ⟨ω,ω,ω,λx hx=>?_⟩;obtain ⟨j,i,h1,h2,h3⟩:=q2r C hx;exact h.u j i x h1 h2 h3
def TOk.chk {f:Nat->Nat->Option Nat} {R C:Nat} (h:TOk f R C):q5n R C (tM f R C).1 (tM f R C).2.1 (tM f R C).2.2=0:=qp4 h.r h.c h.m h.v

section
def qns {τ:Nat->Option Nat} {h h':Hp} {a b c d:List PV} (h1:LeL τ h h' a c) (h2:LeL τ h h' b d):LeL τ h h' (a ++ b) (c ++ d):=by
 obtain ⟨l1,e1⟩:=h1;obtain ⟨l2,e2⟩:=h2;refine ⟨by simp [l1,l2],λi x y hx hy=>?_⟩
 by_cases hi:i < a.length
 .rw [zM hi] at hx;rw [zM ω] at hy;exact e1 i x y hx hy
 .rw [zV ω] at hx;rw [zV ω,<- l1] at hy;exact e2 _ x y hx hy
def clR {α:Type} {f:α->List Int} {l:List α}:ClL (l.map λv=>pI (f v)):=λx hx=>by
 obtain ⟨e,_,rfl⟩:=zH.1 hx
 trivial
def qvR {α:Type} {f:α->List Int} {l:List α} {τ:Nat->Option Nat} {h h':Hp}:LeL τ h h' (l.map λv=>pI (f v)) (l.map λv=>pI (f v))=True:=eq_true (q0J rfl clR)
attribute [local go_sem] qvR
end
def q9p {ix:List Int} {i:Int}:∀ {d a:Nat} {k:Nat},q73 ix i a (a+d)=some k->a<=k/\k < a+d/\ix[k]?=some i:=λ{d a k} h=>by
 unfold q73 at h;have h1:=List.find?_some h;have h2:=List.mem_of_find?_eq_some h;rw [List.mem_range'_1] at h2;exact ⟨h2.1,ω,by simpa using h1⟩
def qgU {ix:List Int} {i:Int} {d a:Nat} (h:q73 ix i a (a+d)=none):∀ k,a<=k->k < a+d->¬ ix[k]?=some i:=λk h1 h2 h3=>by
 unfold q73 at h;have:=wK.1 h k (by rw [List.mem_range'_1]; omega);simp [h3] at this
def qiJ {f:Nat->Nat->Option Nat} {R C i j:Nat} (hi:i < R) (hj:j < C):(match qdy (tM f R C).1 (tM f R C).2.1 i j with | some k=>(tM f R C).2.2[k]? | none=>none)=f j i:=by
 have e1:((tM f R C).1.getD j 0).toNat=tO f R j:=by rw [zC,q1H ω]; rfl
 have e2:((tM f R C).1.getD (j+1) 0).toNat=tO f R (j+1):=by rw [zC,q1H ω]; rfl
 unfold qdy;rw [e1,e2,q8N];cases h:q73 (tM f R C).2.1 i (tO f R j) (tO f R j+(tZ f j R).length) with
 | some k =>
  obtain ⟨h1,h2,h3⟩:=q9p h;obtain ⟨q,q1,q2,q3⟩:=q6E (f:=f) (R:=R) (C:=C) (j:=j) (k:=k) hj h1 (by rw [q8N]; exact h2);rw [q2] at h3;have hqi:q.1=i:=by have:=zK.inj h3; omega
  have:=(q12.1 (show (q.1,q.2) ∈ _ from zF q1)).2;simp only;rw [q3,<- this,hqi]
 | none =>
  cases hx:f j i with
  | none=>rfl
  | some x =>
   obtain ⟨m,hm⟩:=List.getElem?_of_mem (q12.2 ⟨hi,hx⟩:(i,x) ∈ tZ f j R);have hml:=(zB.1 hm).1;obtain ⟨q,q1,q2,q3⟩:=q6E (f:=f) (R:=R) (C:=C) (j:=j) (k:=tO f R j+m) hj ω (by rw [q8N]; omega);rw [xQ,hm] at q1;cases q1;exact absurd q2 (qgU h _ Oq Oq)
def qiN {f:Nat->Nat->Option Nat} {R C i j:Nat} (h:TOk f R C) (hi:i < R) (hj:j < C):ACt 39 [pT R C f,iv i,iv j] (uv (((f j i).getD 0:Nat):Int)):=by
 obtain ⟨h1,h2,h3,h4⟩:=h.vl;have:=qql (rows:=R) (cols:=C) (i:=i) (j:=j) h1 h2 h3 h4;unfold atM at this;rw [if_pos ⟨h.chk,ω,ω⟩,zD] at this;have hf:=qiJ (f:=f) hi hj;cases hc:qdy (tM f R C).1 (tM f R C).2.1 i j with
 | some k =>
  rw [hc] at this hf;simp only at this hf;rw [zC,hf] at this;exact this
 | none =>
  rw [hc] at this hf;simp only at this hf;rw [<- hf];exact this
def qa3 {f:Nat->Nat->Option Nat} {R C i j:Nat} (h:TOk f R C) (hi:i < R) (hj:j < C):ACt 102 [pT R C f,iv i,iv j] (bv (f j i).isSome):=by
 have hl:=q0p (f:=f) (R:=R) C;have hm:=h.m;have hcc:=h.c;have:=qa9 (rows:=R) (cols:=C) (i:=i) (j:=j) (st:=(tM f R C).1) (ix:=(tM f R C).2.1) (vl:=(tM f R C).2.2) Oq Oq qp2;unfold qp7 at this;rw [if_pos ⟨ω,ω,ω,ω⟩,zD] at this;have hf:=qiJ (f:=f) hi hj;cases hc:qdy (tM f R C).1 (tM f R C).2.1 i j with
 | some k =>
  rw [hc] at this hf;simp only at this hf;have hk:k < (tM f R C).2.2.length:=by
   unfold qdy at hc;have e1:((tM f R C).1.getD j 0).toNat=tO f R j:=by rw [zC,q1H ω]; rfl
   have e2:((tM f R C).1.getD (j+1) 0).toNat=tO f R (j+1):=by rw [zC,q1H ω]; rfl
   rw [e1,e2,q8N] at hc;have:=(zB.1 (q9p hc).2.2).1;omega
  rw [<- hf,zA hk];exact this
 | none =>
  rw [hc] at this hf;simp only at this hf;rw [<- hf];exact this





def qgA (x:Nat):Prop:=0 < x / 1099511627776 % 3
instance {x:Nat}:Decidable (qgA x):=inferInstanceAs (Decidable (_ < _))
def gC (raw:List Nat) (R st j:Nat) (p:List Int × List Nat):Nat->List Int × List Nat
 | 0=>p
 | i+1=>let q:=gC raw R st j p i
  if qgA (q42 raw (100+j*R+i)) then (q.1 ++ [(i:Int)],q.2 ++ [q2c st (q42 raw (100+j*R+i))]) else q
def gM (raw:List Nat) (R st:Nat):Nat->List Int × List Int × List Nat
 | 0=>([0],[],[])
 | j+1=>let m:=gM raw R st j
  let p:=gC raw R st j m.2 R
  (m.1 ++ [(p.1.length:Int)],p)
abbrev pM (R C:Int) (m:List Int × List Int × List Nat):PV:=.ag [iv R,iv C,pI m.1,pI m.2.1,pF m.2.2]
def qdN {raw:List Nat} {R st j:Nat} {p:List Int × List Nat} (hp:p.1.length=p.2.length):∀ i,(gC raw R st j p i).1.length=(gC raw R st j p i).2.length/\(gC raw R st j p i).1.length<=p.1.length+i
 | 0=>⟨hp,zL _⟩
 | i+1=>by
  have:=qdN (raw:=raw) (R:=R) (st:=st) (j:=j) hp i;simp only [gC]
  split
  .simp only [z8,List.length_cons,List.length_nil]; omega
  .omega
def qjE {raw:List Nat} {R st:Nat}:∀ j,(gM raw R st j).1.length=j+1/\(gM raw R st j).2.1.length=(gM raw R st j).2.2.length/\(gM raw R st j).2.1.length<=j*R
 | 0=>⟨rfl,rfl,by simp [gM]⟩
 | j+1=>by
  have h1:=qjE (raw:=raw) (R:=R) (st:=st) j;have h2:=qdN (raw:=raw) (R:=R) (st:=st) (j:=j) h1.2.1 R;simp only [gM];refine ⟨by simp [h1.1],h2.1,?_⟩;rw [Nat.succ_mul]; omega
def qas {raw : List Nat} {st : Int} {R C : Nat} (hr : raw.length <= 9223372036854775807) (hR : R <= 1000) (hC : C <= 1000) (h3 : -9223372036854775808 <= st) (h4 : st <= 9223372036854775807) :
    ACt 51 [pF raw, iv R, iv C, iv st] (pM R C (gM raw R (q09 st 4) C)) := by
  refine ac0 Tryz.func51 Tryz.ntmps51 [.cell 8 26] ?_
  refine wk ?_
  obtain ⟨sm, hsm⟩ : ∃ sm, sm = q09 st 4 := ⟨_, rfl⟩
  rw [<- hsm]
  refine q0C (λj => j <= C) [0, 1, 2, 3, 8, 9] [8] Lk Lk (λj : Nat => [(10, iv j)]) (λj => [(9, ⟨26, some 5, [.ag [iv R, iv C, .ow 1001 none 0 (gM raw R sm j).1.length, .ow 1002 none 0 (gM raw R sm j).2.1.length, .ow 1003 none 0 (gM raw R sm j).2.2.length]], false⟩), (1001, ⟨3, none, (gM raw R sm j).1.map λz => iv z, false⟩), (1002, ⟨3, none, (gM raw R sm j).2.1.map λz => iv z, false⟩), (1003, ⟨32, none, (gM raw R sm j).2.2.map λz : Nat => uv z, false⟩)]) (λj => C - j) 0 (zI _) ?_ ?_
  . refine LeM [(1001, some 15), (1002, none), (1003, none)] rfl rfl ?_
    refine Zz ?_
    exact ⟨rfl, ⟨rfl, rfl, rfl⟩, rfl, rfl, rfl⟩
  . intro j hj
    have hg := qjE (raw := raw) (R := R) (st := sm) j
    have hjR : j * R <= 1000 * 1000 := yZ Oq hR
    refine wk ?_
    by_cases hlt : j < C
    . have hlt' : (j : Int) < C := by omega
      refine wk1 hlt' ?_
      refine q0C (λi => i <= R) [0, 1, 2, 3, 8, 9, 10] [8, 1001] Lk Lk (λi : Nat => [(11, iv i)]) (λi => [(9, ⟨26, some 5, [.ag [iv R, iv C, .ow 1001 none 0 (gM raw R sm j).1.length, .ow 1002 none 0 (gC raw R sm j (gM raw R sm j).2 i).1.length, .ow 1003 none 0 (gC raw R sm j (gM raw R sm j).2 i).2.length]], false⟩), (1002, ⟨3, none, (gC raw R sm j (gM raw R sm j).2 i).1.map λz => iv z, false⟩), (1003, ⟨32, none, (gC raw R sm j (gM raw R sm j).2 i).2.map λz : Nat => uv z, false⟩)]) (λi => R - i) 0 (zI _) ?_ ?_
      . refine LeM [] rfl rfl ?_
        refine Zz ?_
        exact ⟨rfl, ⟨rfl, rfl⟩, rfl, rfl⟩
      . intro i hi
        have hq := qdN (raw := raw) (R := R) (st := sm) (j := j) hg.2.1 i
        refine wk ?_
        by_cases hlt2 : i < R
        . have hlt2' : (i : Int) < R := by omega
          refine wk1 hlt2' ?_
          have e0 : 0 <= (j : Int) * R := Int.mul_nonneg Oq Oq
          have e1 : (j : Int) * R <= 1000000 := by have : ((j * R : Nat) : Int) <= 1000000 := by omega
                                                   rwa [Int.natCast_mul] at this
          obtain ⟨x, hx⟩ : ∃ x, x = q42 raw (100 + j * R + i) := ⟨_, rfl⟩
          have hxl : x < 18446744073709551616 := by rw [hx]; exact q41 _ _
          have e2 : (((x : Nat) : Int).fdiv (2 ^ min (xF 40) 64)) = ((x / 1099511627776 : Nat) : Int) := by
            show (((x : Nat) : Int).fdiv (2 ^ 40)) = _
            rw [show ((2 : Int) ^ 40) = ((1099511627776 : Nat) : Int) from rfl, xH _ ω]; rfl
          have e3 : (((x / 1099511627776 : Nat) : Int).tmod 3) = ((x / 1099511627776 % 3 : Nat) : Int) := by rw [xG ω]; rfl
          have C1 := @qbX
          have C2 := @qrG
          have ek : (decide (((x / 1099511627776 % 3 : Nat) : Int) > 0)) = decide (qgA x) := by unfold qgA; congr 1; exact propext ⟨λh => by omega, λh => by omega⟩
          by_cases hkp : qgA x
          . refine wk1 (x6 hx.symm hsm.symm e2 e3 ek hkp) ?_
            have eg : gC raw R sm j (gM raw R sm j).2 (i + 1) = ((gC raw R sm j (gM raw R sm j).2 i).1 ++ [(i : Int)], (gC raw R sm j (gM raw R sm j).2 i).2 ++ [q2c sm x]) := by
              simp only [gC]; rw [<- hx, if_pos hkp]
            refine ⟨i + 1, by omega, by omega, ?_⟩
            rw [eg]
            refine LeM [(1002, some 43), (1003, some 51)] rfl rfl ?_
            refine Zz ?_
            omega
          . refine wk1 (x5 hx.symm e2 e3 ek hkp) ?_
            refine ⟨i + 1, by omega, by omega, ?_⟩
            have eg : gC raw R sm j (gM raw R sm j).2 (i + 1) = gC raw R sm j (gM raw R sm j).2 i := by
              simp only [gC]; rw [<- hx, if_neg hkp]
            rw [eg]
            refine LeM [] rfl rfl ?_
            refine Zz ?_
            omega
        . have hlt2' : ¬ (i : Int) < R := by omega
          obtain rfl : i = R := by omega
          refine wk1 hlt2' ?_
          refine ⟨j + 1, by omega, by omega, ?_⟩
          refine LeM [(1001, some 59)] rfl rfl ?_
          refine Zz ?_
          exact ⟨ω, ⟨by simp [gM], rfl, rfl⟩, rfl, rfl, rfl⟩
    . have hlt' : ¬ (j : Int) < C := by omega
      obtain rfl : j = C := by omega
      exact wk1 (x2 hlt' hsm.symm) trivial
def gF (raw:List Nat) (R st:Nat) (j i:Nat):Option Nat:=if qgA (q42 raw (100+j*R+i)) then some (q2c st (q42 raw (100+j*R+i))) else none
def gC_s {raw:List Nat} {R st j i:Nat} {p:List Int × List Nat} {x:Nat} (hx:q42 raw (100+j*R+i)=x):gC raw R st j p (i+1)=if qgA x then ((gC raw R st j p i).1 ++ [(i:Int)],(gC raw R st j p i).2 ++ [q2c st x]) else gC raw R st j p i:=by
 subst hx; rfl
def gF_x {raw:List Nat} {R st j i x:Nat} (hx:q42 raw (100+j*R+i)=x):gF raw R st j i=if qgA x then some (q2c st x) else none:=by
 subst hx; rfl
def qkW {f:Nat->Nat->Option Nat} {j i x:Nat} {p:List Int × List Nat} (h:f j i=some x):tC f j p (i+1)=((tC f j p i).1 ++ [(i:Int)],(tC f j p i).2 ++ [x]):=by simp only [tC,h]
def qp5 {f:Nat->Nat->Option Nat} {j i:Nat} {p:List Int × List Nat} (h:f j i=none):tC f j p (i+1)=tC f j p i:=by simp only [tC,h]
def gC_eq {raw:List Nat} {R st j:Nat} {p:List Int × List Nat} {G:Nat->Nat->Option Nat} (hG:∀ i,G j i=gF raw R st j i) (i:Nat):gC raw R st j p i=tC G j p i:=by
 induction i with
 | zero=>unfold gC tC; rfl
 | succ i ih =>
  obtain ⟨x,hx⟩:∃ x,q42 raw (100+j*R+i)=x:=⟨_,rfl⟩;have e2:=(hG i).trans (gF_x (R:=R) (st:=st) hx);rw [gC_s hx,ih]
  by_cases h:qgA x
  .rw [if_pos h] at e2 ⊢;rw [qkW e2]
  .rw [if_neg h] at e2 ⊢;rw [qp5 e2]
def gM_eq {raw:List Nat} {R st:Nat} (j:Nat):gM raw R st j=tM (gF raw R st) R j:=by
 induction j with
 | zero=>rfl
 | succ j ih =>
  have e1:gM raw R st (j+1)=((gM raw R st j).1 ++ [((gC raw R st j (gM raw R st j).2 R).1.length:Int)],gC raw R st j (gM raw R st j).2 R):=rfl;rw [e1,ih,gC_eq (G:=gF raw R st) λ_=>rfl]; rfl
def q4s {raw:List Nat} {st:Int} {R C:Nat} (hr:raw.length<=9223372036854775807) (hR:R<=1000) (hC:C<=1000) (h3 : -9223372036854775808<=st) (h4:st<=9223372036854775807) :
  ACt 51 [pF raw,iv R,iv C,iv st] (pT R C (gF raw R (q09 st 4))):=by
 have:=qas (R:=R) (C:=C) hr hR hC h3 h4;rw [gM_eq] at this;exact this
def qlN {x:Nat} (hx:x < 18446744073709551616):q0L (q2c 2 x)/\q2c 2 x < 18446744073709551616:=by
 unfold q0L q2c;rw [if_neg ω,if_pos rfl];have h1:x / 9223372036854775808<=1:=ω
 have h2:x / 256 % 81 < 81:=ω
 have h3:x / 2251799813685248 % 2<=1:=ω
 generalize x / 9223372036854775808=a at *;generalize x / 256 % 81=b at *;generalize x / 2251799813685248 % 2=c at *;omega
def qlL {k x:Nat} (hx:x < 18446744073709551616):q0L (q2c k x)/\q2c k x < 18446744073709551616:=by
 by_cases h1:k=1
 .subst h1;unfold q0L q2c;rw [if_pos rfl];omega
 by_cases h2:k=2
 .subst h2; exact qlN hx
 by_cases h3:k=3
 .subst h3;unfold q0L q2c;rw [if_neg ω,if_neg ω,if_pos rfl]
  split <;> omega
 have hs:=q6G x;unfold q2c;rw [if_neg h1,if_neg h2,if_neg h3];exact ⟨qlr Oq,qsL Oq⟩
def qlp {raw:List Nat} {R C st:Nat} (hR:R<=200) (hC:C<=200) (hm:C*R<=10000):TOk (gF raw R st) R C:=by
 have key:∀ j i x,gF raw R st j i=some x->q0L x/\x < 18446744073709551616:=λj i x h=>by
  obtain ⟨u,hu⟩:∃ u,q42 raw (100+j*R+i)=u:=⟨_,rfl⟩;have hl:u < 18446744073709551616:=by rw [<- hu]; exact q41 _ _
  rw [gF_x hu] at h
  split at h
  .have h:=zK.inj h;rw [<- h]; exact qlL hl
  .cases h
 exact ⟨hR,hC,hm,λj i x _ _ h=>(key j i x h).2,λj i x _ _ h=>(key j i x h).1⟩
section
variable {D:Nat->Prop} {L:List Nat} {N0 g n gy:Nat} {rows:List (List Int)} {ss:List (Option Addr × Nat × Nat)} {w w':World}
def qqi {mode:Int} {neg:Bool} {N M:Nat} (hN:0 < N) (hM:0 < M):rF mode neg N M < 18446744073709551616:=by
 have h1:M<=N*2 ^ bl M:=z6 (xU (q2L M)) (xW _ hN);have:=qqk (mode:=mode) (neg:=neg) (e := -((bl M:Nat):Int)) hM h1;unfold rE at this;rw [show (-((bl M:Nat):Int)).toNat=0 by omega,show (- -((bl M:Nat):Int)).toNat=bl M by omega,xT,xL,q3O hN hM (q0F _)] at this;exact this
def qs7 {mode a b:Int} (hb:b≠0):fQ mode a b < 18446744073709551616:=by
 unfold fQ
 split
 .omega
 .exact qqi Oq Oq
end
def qoR {V:Int}:Nz (pV V):=λw D B v hB h=>by
 obtain ⟨s,A,n,c,rfl,⟨h1,h2⟩,h3⟩:=qf3 h;refine qcH ⟨s,A,n,c,rfl,⟨h1,⟨h2.1.cap,h2.1.len,λhx=>?_⟩,h2.2⟩,h3⟩;obtain ⟨ad,hA,hd,hcell⟩:=h2.1.at_ hx;refine ⟨ad,hA,⟨hd,λhb=>?_⟩,hcell⟩;obtain ⟨cs,T,hb,hc⟩:=hB _ hb;obtain ⟨x,hx0⟩:∃ x,((lim (od V).natAbs).map u32v)[0]?=some x:=⟨_,zA hx⟩;have h1:=hcell 0 x hx0;have h2:∃ d:Int,x=.int .u32 d:=by
  rw [zQ] at hx0;cases hl:(lim (od V).natAbs)[0]? with
  | none=>rw [hl] at hx0; cases hx0
  | some d=>rw [hl] at hx0; exact ⟨_,(zK.inj hx0).symm⟩
 obtain ⟨d,rfl⟩:=h2;have h3:w.heap[ad.block]?=some (.cells cs T (0,0)):=hb;have h4:(ad.add 0).block=ad.block:=q0t ad 0;unfold World.cell? at h1;rw [h4,h3] at h1;simp only at h1
 split at h1
 .cases h1
 .have:=hc _ (Array.mem_toList_iff.2 (Array.mem_of_getElem? h1));cases this
abbrev pVs (l:List Int):PV:=.sl (some 4) (l.map λV=>pV V)
def clV {l:List Int}:ClL (l.map λV=>pV V):=λx hx=>by
 obtain ⟨e,_,rfl⟩:=zH.1 hx
 trivial
def qdt {l:List Int} (hn:l.length<=1000) (hv:q00 (q1Z l)):ACt 45 [pVs l] (pV (q1Z l)):=⟨κ,λD w vs hT hF hR=>by
 refine (qmT hn (λx hx=>?_) hv).2 D w vs hT hF hR;obtain ⟨_,rfl,h3⟩:=qkq hR;obtain ⟨i,hi⟩:=x9.1 hx;unfold Rd at h3;obtain ⟨_,_,_,us,_,_,_,h5,_⟩:=h3;obtain ⟨v,_,hr⟩:=h5.get (show (l.map λV=>pV V)[i]?=some (pV x) by simp [hi]);exact ((q6J (ρ:=λ_=>none) (h:=h0)).2 (qf3 hr)).2⟩
def q8B:Int:=(mkV 1 0).getD 0
def q4g:mkV 1 0=some q8B/\bl q8B.natAbs<=67600:=by
 have h1:bl (Int.natAbs 1)<=1:=q0M (by decide);have h:=q4k (m:=1) (E:=0) Oq Oq;unfold q8B;rw [h];refine ⟨rfl,?_⟩;obtain ⟨k,hk⟩:∃ k,k=((0:Int)+65536).toNat:=⟨_,rfl⟩;have hk2:k<=65536:=ω
 rw [<- hk,uX,q0E,q1X (by decide)];omega
def q4u {mode V:Int}:fR mode V < 18446744073709551616:=by
 unfold fR
 split
 .omega
 .exact qqi Oq (by exact Nat.two_pow_pos 65536)
def TOk.fin {f:Nat->Nat->Option Nat} {R C j i:Nat} (h:TOk f R C) (hj:j < C) (hi:i < R):q0L ((f j i).getD 0)/\(f j i).getD 0 < 18446744073709551616:=by
 cases hx:f j i with
 | none=>exact ⟨by unfold q0L; simp,σ⟩
 | some x=>exact ⟨h.v j i x hj hi hx,h.u j i x hj hi hx⟩
def q7C {l:List Int} (h:∀ x ∈ l,bl x.natAbs<=67600) (hl:l.length<=1024):q00 (q1Z l):=by
 have:=q6F h hl;rw [zY] at this;unfold q00;omega




def lfN (l:List Int) (r:Nat):Nat:=(l.getD r 0).toNat
def qct {l:List Int} {r x:Nat} (h:l[r]?=some (x:Int)):lfN l r=x:=by
 unfold lfN; rw [zC,h]; simp
section
variable {n:Nat} {g g':Nat->Nat->Bool} {gn gn':Nat->Bool} {h:Hp}
end

def q3k (mode A B:Int):Nat:=if B=0 then 9221120237041090560 else fQ mode A B
def qkv {mode A B:Int}:q3k mode A B < 18446744073709551616:=by
 unfold q3k
 split
 .omega
 .exact qs7 (by assumption)
end Go.Proofs.YtbjoghfmhgadkaaGreatDoor
namespace Go.E
open Go Go.RowKit
section
variable {P:Program} {J:Nat->Prop} {s:Nat->PV} {h hw:Hp} {τ:Nat->Option Nat} {T1 T2:TypeId} {N R n k m:Nat} {g:Nat->Nat->Nat}
def tabU (T1 T2:TypeId) (N R n k m:Nat) (g:Nat->Nat->Nat):Hp:=λi =>
 if i=N then some ⟨T1,none,(List.range n).map λj=>if j < k then .ow (j+R) none 0 m else .vl (.slice none 0 0),false⟩
 else if R<=i/\i < R+k then some ⟨T2,none,(List.range m).map λc=>.vl (.int .u64 (g (i-R) c:Nat)),false⟩ else none
def qpX:tabU T1 T2 N R n k m g N=some ⟨T1,none,(List.range n).map λj=>if j < k then .ow (j+R) none 0 m else .vl (.slice none 0 0),false⟩:=if_pos rfl
def qpW {j:Nat} (hN:N < R) (hj:j < k):tabU T1 T2 N R n k m g (j+R)=some ⟨T2,none,(List.range m).map λc=>.vl (.int .u64 (g j c:Nat)),false⟩:=by
 unfold tabU;rw [if_neg ω,if_pos ω,yV]
attribute [go_sem ↓] qpX qpW
def q23 (g:Nat->Nat->Nat) (r c v:Nat):Nat->Nat->Nat:=λx y=>if x=r/\y=c then v else g x y
def qf1 {f:Nat->Nat} {c v:Nat}:((List.range m).map λy=>PV.vl (.int .u64 (f y:Nat))).set c (.vl (.int .u64 (v:Nat)))=(List.range m).map λy=>PV.vl (.int .u64 (if y=c then v else f y:Nat)):=by
 apply xN
 intro i;rw [xO];simp only [yC,yA,zQ]
 by_cases hi:i < m
 .rw [zO hi]
  by_cases hc:c=i
  .subst hc; simp [hi]
  .simp [hc,Ne.symm hc]
 .rw [zU (by simpa using hi)]
  by_cases hc:c=i <;> simp [hc]
  omega
def tnU (N o:Nat):Nat->Option Nat:=λi=>if i=N then some o else some i
def qpN {o i:Nat}:tnU N o i=if i=N then some o else some i:=rfl
attribute [go_sem ↓] qpN
end
section
variable {P:Program} {Tb:World->Prop} {J:Nat->Prop} {n:Nat} {Q:SQ} {s:Nat->PV} {h:Hp}
def A_jW [NL] {a b:Code} (xs:List (Nat × PV)) (bs:List (Nat × Bk)) (hw:Hp) (hb:AW P Tb J n b Q (stM xs []) (q0x hw (hpM bs [])))
  (ha:∀ K:(Nat->PV)->Hp->Prop,(∀ s h,Le J s h (stM xs []) (q0x hw (hpM bs []))->K s h)->AW P Tb J n a (thA K Q) s h):AW P Tb J n (.seq a b) Q s h :=
 q4I λK hK=>ha K λs h hl=>hK s h (q2k hl hb)
end
section
variable {J:Nat->Prop} {s:Nat->PV} {h hw:Hp} {τ:Nat->Option Nat}
def LeT [NL] (τ:Nat->Option Nat) {xs kv:List (Nat × PV)} {bs:List (Nat × Bk)} {kb:List (Nat × Option Bk)} (hJ:∀ i,J i->τ i=some i) (hlo:∀ i ∈ bs.map (·.1) ++ kb.map (·.1),¬ win i)
  (hW:∀ i b,win i->hw i=some b->LeB τ h (q0x hw (hpM bs kb)) i b)
  (hi:∀ i j k,(win i/\hw i≠none\/i ∈ bs.map (·.1) ++ kb.map (·.1))->(win j/\hw j≠none\/j ∈ bs.map (·.1) ++ kb.map (·.1))->τ i=some k->τ j=some k->i=j)
  (hh:q6j τ h (q0x hw (hpM bs kb)) s xs/\q6j τ h (q0x hw (hpM bs kb)) s kv/\q9B τ h (q0x hw (hpM bs kb)) bs/\qbM τ h (q0x hw (hpM bs kb)) kb):Le J s h (stM xs kv) (q0x hw (hpM bs kb)):=by
 obtain ⟨h1,h2,h3,h4⟩:=hh;have hm:∀ i b,q0x hw (hpM bs kb) i=some b->(win i/\hw i=some b)\/(¬ win i/\LeB τ h (q0x hw (hpM bs kb)) i b/\i ∈ bs.map (·.1) ++ kb.map (·.1)):=λi b hb=>by
  by_cases hi:win i
  .rw [q0Q hi] at hb; exact .inl ⟨hi,hb⟩
  .rw [q1I hi] at hb; exact .inr ⟨hi,q2o h4 h3 i b hb⟩
 have hm2:∀ i b,q0x hw (hpM bs kb) i=some b->(win i/\hw i≠none\/i ∈ bs.map (·.1) ++ kb.map (·.1)):=λi b hb=>by
  rcases hm i b hb with ⟨a,c⟩ | ⟨_,_,c⟩
  .exact .inl ⟨a,by rw [c]; exact zG _⟩
  .exact .inr c
 refine q8y τ (λi b hb=>?_) (λi j k b c hi' hj ti tj=>hi i j k (hm2 i b hi') (hm2 j c hj) ti tj) (λt=>q5p h2 h1 t) λi q _ _=>hJ i q
 rcases hm i b hb with ⟨q1,q2⟩ | ⟨_,q,_⟩
 .exact hW i b q1 q2
 .exact q
variable {T1 T2:TypeId} {K:Kd} {N R n:Nat} {row:Nat->List PV} {B:Hp}
def q2N (T1 T2:TypeId) (K:Kd) (N R n:Nat) (row:Nat->List PV) (B:Hp):Hp:=λi =>
 if i=N then some ⟨T1,none,(List.range n).map λj=>.ow (j+R) K 0 (row j).length,false⟩
 else if R<=i/\i < R+n then some ⟨T2,K,row (i-R),false⟩ else B i
def q2W:q2N T1 T2 K N R n row B N=some ⟨T1,none,(List.range n).map λj=>.ow (j+R) K 0 (row j).length,false⟩:=if_pos rfl
def q2V {j:Nat} (hN:N < R) (hj:j < n):q2N T1 T2 K N R n row B (j+R)=some ⟨T2,K,row j,false⟩:=by
 unfold q2N;rw [if_neg ω,if_pos ω,yV]
def q0W {i:Nat} (h1:i≠N) (h2:i < R\/R+n<=i):q2N T1 T2 K N R n row B i=B i:=by
 unfold q2N;rw [if_neg h1,if_neg ω]
attribute [go_sem ↓] q2W q2V q0W
def q3L {i:Nat} {b:Bk} (hb:q2N T1 T2 K N R n row B i=some b):(i=N/\b=⟨T1,none,(List.range n).map λj=>.ow (j+R) K 0 (row j).length,false⟩)\/(i≠N/\R<=i/\i < R+n/\b=⟨T2,K,row (i-R),false⟩)\/(i≠N/\(i < R\/R+n<=i)/\B i=some b):=by
 unfold q2N at hb
 split at hb
 .cases hb; exact .inl ⟨‹_›,rfl⟩
 .rename_i h1
  split at hb
  .rename_i hi; cases hb; exact .inr (.inl ⟨h1,hi.1,hi.2,rfl⟩)
  .exact .inr (.inr ⟨h1,ω,hb⟩)
structure BOk (B:Hp) (p:Nat->Prop):Prop where
 b:∀ i b,B i=some b->p i/\b.st=false/\IdL (λj=>B j≠none) b.xs
def BOk.h0 {p:Nat->Prop}:BOk h0 p:=⟨λ_ _ h=>by cases h⟩
def qeJ {p:Nat->Prop} {x:PV} (h:q25 x):IdP p x:=by
 cases x <;> unfold IdP <;> first | trivial | exact h.elim
def q07 {p:Nat->Prop} {x:PV} (h:Cld x):IdP p x:=by
 cases x with
 | ag l=>unfold IdP; exact IdL.of λx hx=>qeJ (h x hx)
 | _=>exact qeJ h
def qbb {p:Nat->Prop} (hB:BOk B p) (hrow:∀ j,j < n->ClL (row j)) (hNR:N < R) (hp:p N/\∀ j,j < n->p (j+R)):BOk (q2N T1 T2 K N R n row B) p:=⟨λi b hb=>by
 rcases q3L hb with ⟨rfl,rfl⟩ | ⟨h0,h1,h2,rfl⟩ | ⟨h1,h2,h3⟩
 .refine ⟨hp.1,rfl,IdL.of λx hx=>?_⟩;obtain ⟨z,hz,rfl⟩:=zH.1 hx;unfold IdP;rw [q2V hNR (uO.1 hz)];exact zG _
 .refine ⟨by have:=hp.2 (i-R) ω; rwa [Nat.sub_add_cancel h1] at this,rfl,IdL.of λx hx=>?_⟩;exact q07 (hrow (i-R) Oq x hx)
 .obtain ⟨q1,q2,q3⟩:=hB.b i b h3;refine ⟨q1,q2,IdL_mono (λj hj=>?_) _ q3⟩;unfold q2N
  split
  .exact zG _
  .split
   .exact zG _
   .exact hj⟩
def qqW (row:Nat->List PV) (k:Nat) (l:List PV):Nat->List PV:=λj=>if j=k then l else row j
def qi0 {k:Nat} {l:List PV}:qqW row k l k=l:=if_pos rfl
def qi1 {k j:Nat} {l:List PV} (h:j≠k):qqW row k l j=row j:=if_neg h
def q9K {j:Nat} {l:List PV} (hNR:N < R) (hj:j < n) (hl:l.length=(row j).length):q0R (q2N T1 T2 K N R n row B) (j+R) ⟨T2,K,l,false⟩=q2N T1 T2 K N R n (qqW row j l) B:=by
 funext i
 unfold q0R
 split
 .rename_i hi; subst hi;rw [q2V hNR hj,qi0]
 .rename_i hi;unfold q2N
  split
  .congr 2
   refine zP λc _=>?_
   by_cases hc:c=j
   .subst hc; rw [qi0,hl]
   .rw [qi1 hc]
  .split
   .rw [qi1 ω]
   .rfl
def qfL {i:Nat} {b:Bk} (h1:i≠N) (h2:i < R\/R+n<=i):q0R (q2N T1 T2 K N R n row B) i b=q2N T1 T2 K N R n row (q0R B i b):=by
 funext j
 unfold q0R q2N
 by_cases hj:j=i
 .subst hj;simp only [if_true];rw [if_neg h1,if_neg ω]
 .simp only [if_neg hj]
variable {xs kv:List (Nat × PV)} {bs:List (Nat × Bk)} {kb:List (Nat × Option Bk)}
def qtT {h:Hp} {i:Nat} {b:Bk} {f:Nat->Nat} (hi:i < R\/R+n<=i):q5W (q0R h i b) n R K f=q5W h n R K f:=by
 have:∀ l:List Nat,(∀ j ∈ l,j < n)->q1L (q0R h i b) (l.map λj=>.ow (j+R) K 0 (f j))=q1L h (l.map λj=>.ow (j+R) K 0 (f j)):=λl=>by
  induction l with
  | nil=>intro _; rfl
  | cons j l ih =>
   intro hl;have hj:=hl j zW;rw [zR,q1L,q1L,ih λk hk=>hl k (zS _ hk)];simp only [qaz];rw [q0A ω]
 exact this _ λj hj=>uO.1 hj
def qjP {h h':Hp} {f:Nat->Nat} (hh:∀ j,j < n->h (j+R)=h' (j+R)):q5W h n R K f=q5W h' n R K f:=by
 have:∀ l:List Nat,(∀ j ∈ l,j < n)->q1L h (l.map λj=>.ow (j+R) K 0 (f j))=q1L h' (l.map λj=>.ow (j+R) K 0 (f j)):=λl=>by
  induction l with
  | nil=>intro _; rfl
  | cons j l ih =>
   intro hl;have hj:=hl j zW;rw [zR,q1L,q1L,ih λk hk=>hl k (zS _ hk)];simp only [qaz];rw [hh j hj]
 exact this _ λj hj=>uO.1 hj
def qtS {h hw:Hp} {f:Nat->Nat} (h5:5000<=R) (h6:R+n<=1000000):q5W (q0x hw h) n R K f=q5W hw n R K f:=qjP λj hj=>q0Q ⟨ω,ω⟩
def q4F {K':Kd} {N' R' n':Nat} {f:Nat->Nat} (h1:N' < R\/R+n<=N') (h2:R'+n'<=R\/R+n<=R'):q5W (q2N T1 T2 K' N' R' n' row B) n R K f=q5W B n R K f:=qjP λj hj=>q0W Oq Oq
def q5A {f:Nat->Nat} (h1:N < R):q5W (q2N T1 T2 K N R n row B) n R K f=cO (∀ j,j < n->ClL (row j)) (some ((List.range n).map λj=>.sl K ((row j).take (f j)),(List.range n).map (·+R))):=by
 unfold cO
 split
 .rename_i hc;have:∀ l:List Nat,(∀ j ∈ l,j < n)->q1L (q2N T1 T2 K N R n row B) (l.map λj=>.ow (j+R) K 0 (f j))=some (l.map λj=>.sl K ((row j).take (f j)),l.map (·+R)):=λl=>by
   induction l with
   | nil=>intro _; rfl
   | cons j l ih =>
    intro hl;have hj:=hl j zW;rw [zR,q1L,ih λk hk=>hl k (zS _ hk)];simp only [qaz];rw [q2V h1 hj,xB,if_pos ⟨rfl,rfl,hc j hj⟩];simp
  exact this _ λj hj=>uO.1 hj
 .rename_i hc;obtain ⟨j,hc⟩:=Classical.not_forall.1 hc;obtain ⟨hj,hc⟩:=Classical.not_forall.1 hc;have:∀ l:List Nat,(∀ i ∈ l,i < n)->j ∈ l->q1L (q2N T1 T2 K N R n row B) (l.map λj=>.ow (j+R) K 0 (f j))=none:=λl=>by
   induction l with
   | nil=>intro _ h; cases h
   | cons i l ih =>
    intro hl hm;have hi:=hl i zW;rw [zR,q1L]
    by_cases hij:j=i
    .subst hij;simp only [qaz];rw [q2V h1 hj,xB,if_neg λh=>hc h.2.2]; rfl
    .rw [ih (λk hk=>hl k (zS _ hk)) (by simpa [hij] using hm)];cases qaz (q2N T1 T2 K N R n row B) (.ow (i+R) K 0 (f i)) <;> rfl
  exact this _ (λj hj=>uO.1 hj) (uO.2 hj)
def q8J {α:Type} {f:Nat->α}:((List.range n).map f).take n=(List.range n).map f:=uS σ
def qlO {x:Nat} {a b:List Nat}:nin x (a ++ b)=(nin x a/\nin x b):=by
 rw [q5h,q5h,q5h,zJ];exact propext not_or
def qrL {x:Nat} (h:x < R\/R+n<=x):nin x ((List.range n).map (·+R))=True:=by
 rw [q5h];refine eq_true λhm=>?_;obtain ⟨j,hj,rfl⟩:=zH.1 hm;have:=uO.1 hj;omega
attribute [go_sem ↓] qtT qtS q4F q5A
attribute [go_sem] q8J qlO qrL
end
section
variable {α:Type} {v:α->PV} {g:Nat->Option α} {A B:List (Int × PV)} {z:Int} {x y:PV}
def cM (v:α->PV) (g:Nat->Option α):Nat->List (Int × PV)
 | 0=>[]
 | n+1=>cM v g n ++ ((g n).map λa=>((n:Int),v a)).toList
def gsT (g:Nat->Option α) (k:Nat) (a:α):Nat->Option α:=λi=>if i=k then some a else g i
def qcb:q05 (A ++ B) z=(q05 A z).or (q05 B z):=by
 induction A with
 | nil=>rfl
 | cons p A ih =>
  show (if p.1=z then some p.2 else q05 (A ++ B) z)=(if p.1=z then some p.2 else q05 A z).or (q05 B z)
  by_cases hp:p.1=z
  .rw [if_pos hp,if_pos hp]; rfl
  .rw [if_neg hp,if_neg hp]; exact ih
def q1v:∀ {A:List (Int × PV)},q05 A z=none->q0v A z x=A ++ [(z,x)]
 | [],_=>rfl
 | p :: A,h=>by
  unfold q05 at h;unfold q0v
  split at h
  .cases h
  .rename_i hp;rw [if_neg hp,q1v h]; rfl
def q5i:∀ {A:List (Int × PV)},q05 A z=some y->q0v (A ++ B) z x=q0v A z x ++ B
 | [],h=>by cases h
 | p :: A,h=>by
  unfold q05 at h;rw [uU];unfold q0v
  split at h
  .rename_i hp;rw [if_pos hp,if_pos hp]; rfl
  .rename_i hp;rw [if_neg hp,if_neg hp,q5i h]; rfl
def q3o:∀ {A:List (Int × PV)},q05 A z=none->q0v (A ++ B) z x=A ++ q0v B z x
 | [],_=>rfl
 | p :: A,h=>by
  unfold q05 at h;rw [uU]
  split at h
  .cases h
  .rename_i hp;rw [q0v,if_neg hp,q3o h]; rfl
def q5B {g':Nat->Option α}:∀ {n:Nat},(∀ i,i < n->g i=g' i)->cM v g n=cM v g' n
 | 0,_=>rfl
 | n+1,h=>by rw [cM,cM,q5B λi hi=>h i ω,h n ω]
def q7k {k:Nat}:∀ {n:Nat},q05 (cM v g n) (k:Int)=if k < n then (g k).map v else none
 | 0=>by rw [if_neg ω]; rfl
 | n+1=>by
  rw [cM,qcb,q7k (n:=n)]
  by_cases h1:k < n
  .rw [if_pos h1,if_pos ω];have:q05 ((g n).map λa=>((n:Int),v a)).toList (k:Int)=none:=by
    cases g n with
    | none=>rfl
    | some a=>simp only [zX,yK,q05]; rw [if_neg ω]
   rw [this];cases (g k).map v <;> rfl
  .rw [if_neg h1]
   by_cases h2:k=n
   .subst h2;rw [if_pos ω];cases g k with
    | none=>rfl
    | some a=>simp [q05]
   .rw [if_neg ω];cases g n with
    | none=>rfl
    | some a=>simp only [zX,yK,q05,Option.none_or]; rw [if_neg ω]
def qeK {k:Nat} {a:α}:∀ {n:Nat},k < n->(q0v (cM v g n) (k:Int) (v a)).Perm (cM v (gsT g k a) n)
 | 0,h=>by omega
 | n+1,h=>by
  have hB:∀ i,i≠k->gsT g k a i=g i:=λi hi=>if_neg hi
  by_cases h2:k=n
  .subst h2;have e1:cM v (gsT g k a) k=cM v g k:=q5B λi hi=>hB i Oq;rw [cM,cM,e1,q3o (by rw [q7k,if_neg ω]),show gsT g k a k=some a from if_pos rfl];cases g k with
   | none=>exact .refl _
   | some b=>simp [q0v]
  .have ih:=qeK (n:=n) (a:=a) (show k < n by omega);rw [cM,cM,hB n ω];cases hg:q05 (cM v g n) (k:Int) with
   | some y=>rw [q5i hg]; exact ih.append_right _
   | none =>
    rw [q1v hg] at ih;rw [q3o hg];have:q0v ((g n).map λa=>((n:Int),v a)).toList (k:Int) (v a)=((g n).map λa=>((n:Int),v a)).toList ++ [((k:Int),v a)]:=q1v (by
     cases g n with
     | none=>rfl
     | some b=>simp only [zX,yK,q05]; rw [if_neg ω])
    rw [this];refine List.Perm.trans ?_ (ih.append_right _);rw [xM];exact List.Perm.append_left _ List.perm_append_comm
def q7j {p:Int × PV}:∀ {n:Nat},p ∈ cM v g n->∃ i a,i < n/\g i=some a/\p=((i:Int),v a)
 | 0,h=>by cases h
 | n+1,h=>by
  rw [cM] at h
  rcases zJ.1 h with h | h
  .obtain ⟨i,a,h1,h2⟩:=q7j h;exact ⟨i,a,ω,h2⟩
  .cases hg:g n with
   | none=>rw [hg] at h; cases h
   | some a=>rw [hg] at h; simp at h; exact ⟨n,a,ω,hg,h⟩
def qip {i:Nat} {a:α}:∀ {n:Nat},i < n->g i=some a->((i:Int),v a) ∈ cM v g n
 | 0,h,_=>by omega
 | n+1,h,hg=>by
  rw [cM]
  by_cases e:i=n
  .subst e; rw [hg]; exact wC _ σ
  .exact yE _ (qip Oq hg)
def qaH:∀ {n:Nat},((cM v g n).map (·.1)).Nodup
 | 0=>List.nodup_nil
 | n+1=>by
  rw [cM,z7,y6];refine ⟨qaH,?_,λa ha b hb=>?_⟩
  .cases g n <;> simp
  .obtain ⟨p,hp,rfl⟩:=zH.1 ha;obtain ⟨i,c,h1,_,rfl⟩:=q7j hp;cases hg:g n with
   | none=>rw [hg] at hb; cases hb
   | some d=>rw [hg] at hb; simp at hb; subst hb; simp; omega
end
section
variable {w w':World} {D D' D0:Nat->Prop} {ρ ρ':Nat->Option Nat} {h h':Hp} {s s':Nat->PV} {J:Nat->Prop} {k:Kd} {l:List PV}
def fClp [NL] (k:Kd) (l:List PV):Fam:=⟨λD v w=>∃ A vs,v=.slice A l.length l.length/\Row w D (ksz k) A l.length l.length (q0X vs)/\RdL w D l (λ_=>none) h0 vs/\∀ u ∈ vs,q1z k u,
 λk ⟨A,vs,h1,h2,h3,h4⟩=>⟨A,vs,h1,(h2.lt.kp (k.mono λk _ hq=>hq.1)).sub λk _ hq=>hq.1,RdL.mv k (λ_ _ h=>h) l _ _ _ _ vs Cpt.h0 h3,h4⟩,
 λk ⟨A,vs,h1,h2,h3,h4⟩=>⟨A,vs,h1,h2.lt.sub λj _ hq=>k j hq.2 hq.1,RdL.mv (Kp.refl _ _) k l _ _ _ _ vs Cpt.h0 h3,h4⟩⟩
def qvi [NL]:ClP (.fm (fClp k l)) k l:=λw D ρ h v hr=>by
 unfold Rd at hr;obtain ⟨A,vs,h1,h2,h3,h4⟩:=hr;exact ⟨A,vs,h1,h2,h3,h4⟩
def hpG:List (Nat × Bk)->Hp->Hp
 | [],B,i=>B i
 | p :: l,B,i=>if i=p.1 then some p.2 else hpG l B i
def q15 {B:Hp} {i:Nat}:hpG [] B i=B i:=rfl
def q1G {a i:Nat} {b:Bk} {L:List (Nat × Bk)} {B:Hp}:hpG ((a,b) :: L) B i=if i=a then some b else hpG L B i:=rfl
attribute [go_sem] q15 q1G
def q1f {B:Hp} {i:Nat} {b:Bk}:∀ {L:List (Nat × Bk)},hpG L B i=some b->(i,b) ∈ L\/(i ∉ L.map (·.1)/\B i=some b)
 | [],h=>.inr ⟨σ,h⟩
 | p :: L,h=>by
  unfold hpG at h
  split at h
  .rename_i hi; cases h; subst hi; exact .inl zW
  .rename_i hi
   rcases q1f h with h | ⟨h1,h2⟩
   .exact .inl (zS _ h)
   .exact .inr ⟨λhm=>by
     rw [zR] at hm
     rcases uP.1 hm with e | hm
     .exact hi e
     .exact h1 hm,h2⟩
def q1C {B:Hp} {i:Nat}:∀ {L:List (Nat × Bk)},B i≠none\/i ∈ L.map (·.1)->hpG L B i≠none
 | [],h=>h.resolve_right σ
 | p :: L,h=>by
  unfold hpG
  split
  .exact zG _
  .rename_i hi;refine q1C (h.imp id λhm=>?_);rw [zR] at hm;exact (uP.1 hm).resolve_left hi
def q71 {B:Hp} {i:Nat}:∀ {L:List (Nat × Bk)},i ∉ L.map (·.1)->hpG L B i=B i
 | [],_=>rfl
 | p :: L,h=>by
  unfold hpG;rw [zR,uP,not_or] at h;rw [if_neg h.1];exact q71 h.2
def q8z {τ:Nat->Option Nat} {z:Int} {x y:PV} (hx:LeV τ h h' x y):LeV τ h h' (mPv (z,x)) (mPv (z,y)):=.tu rfl λi a b ha hb=>by
 rcases i with _ | _ | i
 .cases ha; cases hb; exact .cl trivial
 .cases ha; cases hb; exact hx
 .simp at ha
def q6l {τ:Nat->Option Nat}:∀ {L:List (Nat × Bk)},q9B τ h h' L->∀ p ∈ L,LeB τ h h' p.1 p.2
 | _ :: _,hl,p,hp=>by
  unfold q9B at hl
  rcases uP.1 hp with rfl | hp
  .exact hl.1
  .exact q6l hl.2 p hp
def q2i (τ:Nat->Option Nat) (B:Hp):List Nat->Prop
 | []=>True
 | i :: l=>(∀ j,τ i=some j->¬ win j\/B j=none\/j=i)/\q2i τ B l
def q9I {τ:Nat->Option Nat} {B:Hp}:∀ {l:List Nat},q2i τ B l->∀ i ∈ l,∀ j,τ i=some j->¬ win j\/B j=none\/j=i
 | a :: l,h,i,hi=>by
  rcases uP.1 hi with rfl | hi
  .exact h.1
  .exact q9I h.2 i hi
def LeG0 [NL] {N:List Nat} {B:Hp} (τ:Nat->Option Nat) (hJ:∀ i,J i->τ i=some i) (hB:BOk B win) (hd:∀ i b,h' i=some b->(i ∈ N/\LeB τ h h' i b)\/(i ∉ N/\B i=some b)) (hk:∀ i,B i≠none->τ i=some i/\(i ∈ N\/h i=B i)/\h' i≠none) (hg:q2i τ B N) (ho:q46 τ N) (hs:∀ t,LeV τ h h' (s t) (s' t)):Le J s h s' h':=by
 have hbw:∀ i,B i≠none->win i:=λi hi=>by
  obtain ⟨b,hb⟩:=zE.1 hi;exact (hB.b i b hb).1
 refine q8y τ (λi b hb=>?_) (λi j k b c hi hj ti tj=>?_) hs λi q _ _=>hJ i q
 .rcases hd i b hb with ⟨_,q⟩ | ⟨q0,q⟩
  .exact q
  .obtain ⟨q1,q2,q3⟩:=hB.b i b q;obtain ⟨k1,k2,k3⟩:=hk i (by rw [q]; exact zG _);unfold LeB;rw [k1];refine ⟨b,(k2.resolve_left q0).trans q,rfl,rfl,⟨q2,q2⟩,LeL_self (λj hj=>?_) _ q3⟩;obtain ⟨j1,j2,j3⟩:=hk j hj;exact ⟨j1,zE.1 j3⟩
 .have one:∀ {i j:Nat} {c:Bk},i ∈ N->(j ∉ N/\B j=some c)->τ i=some k->τ j=some k->i=j:=λ{i j c} h1 h2 ti tj=>by
   have hj:=(hk j (by rw [h2.2]; exact zG _)).1;have hkj:j=k:=zK.inj (hj.symm.trans tj);rw [<- hkj] at ti
   rcases q9I hg i h1 j ti with q | q | q
   .exact absurd (hbw j (by rw [h2.2]; exact zG _)) q
   .rw [h2.2] at q; cases q
   .exact q.symm
  rcases hd i b hi with ⟨q1,_⟩ | q1 <;> rcases hd j c hj with ⟨q2,_⟩ | q2
  .rcases q2U ho i q1 j q2 with q | q | q
   .exact q
   .rw [ti] at q; cases q
   .rw [ti,tj] at q; exact absurd rfl q
  .exact one q1 q2 ti tj
  .exact (one q2 q1 tj ti).symm
  .have a1:=(hk i (by rw [q1.2]; exact zG _)).1;have a2:=(hk j (by rw [q2.2]; exact zG _)).1;exact (zK.inj (a1.symm.trans ti)).trans (zK.inj (a2.symm.trans tj)).symm
variable {xs kv:List (Nat × PV)} {bs L:List (Nat × Bk)} {kb:List (Nat × Option Bk)} {B:Hp} {τ:Nat->Option Nat}
def loN:List Nat->Prop
 | []=>True
 | i :: l=>¬ win i/\loN l
def qco:∀ {l:List Nat},loN l->∀ i ∈ l,¬ win i
 | a :: l,h,i,hi=>by
  rcases uP.1 hi with rfl | hi
  .exact h.1
  .exact qco h.2 i hi
def LeG [NL] (l:List (Nat × Option Nat)) (hlt:q04 l=τ) (hJ:∀ i,J i->τ i=some i) (hB:BOk B win) (hk:∀ i,B i≠none->τ i=some i) (hq:∀ i,B i≠none->i ∉ L.map (·.1)->h i=B i) (hL:∀ p ∈ L,win p.1) (hlo:loN (bs.map (·.1) ++ kb.map (·.1))) (hg:q2i τ B (L.map (·.1) ++ (bs.map (·.1) ++ kb.map (·.1))))
  (hh:q6j τ h (q0x (hpG L B) (hpM bs kb)) s xs/\q6j τ h (q0x (hpG L B) (hpM bs kb)) s kv/\q9B τ h (q0x (hpG L B) (hpM bs kb)) L/\q9B τ h (q0x (hpG L B) (hpM bs kb)) bs/\qbM τ h (q0x (hpG L B) (hpM bs kb)) kb/\q46 τ (L.map (·.1) ++ (bs.map (·.1) ++ kb.map (·.1)))):Le J s h (stM xs kv) (q0x (hpG L B) (hpM bs kb)):=by
 obtain ⟨h1,h2,h3,h4,h5,h6⟩:=hh;have hbw:∀ i,B i≠none->win i:=λi hi=>by
  obtain ⟨b,hb⟩:=zE.1 hi;exact (hB.b i b hb).1
 refine LeG0 τ hJ hB (λi b hb=>?_) (λi hi=>⟨hk i hi,?_,?_⟩) hg h6 λt=>q5p h2 h1 t
 .by_cases hi:win i
  .rw [q0Q hi] at hb
   rcases q1f hb with q | ⟨q1,q2⟩
   .exact .inl ⟨yE _ (zH.2 ⟨_,q,rfl⟩),q6l h3 _ q⟩
   .refine .inr ⟨λhm=>?_,q2⟩
    rcases zJ.1 hm with hm | hm
    .exact q1 hm
    .exact qco hlo i hm hi
  .rw [q1I hi] at hb;obtain ⟨q1,q2⟩:=q2o h5 h4 i b hb;exact .inl ⟨wC _ q2,q1⟩
 .by_cases hm:i ∈ L.map (·.1)
  .exact .inl (yE _ hm)
  .exact .inr (hq i hi hm)
 .rw [q0Q (hbw i hi)];exact q1C (.inl hi)
def qbL [NL] {m x:PV} (l:List (Nat × Option Nat)) (hlt:q04 l=τ) (hJ:∀ i,J i->τ i=some i) (hB:BOk B win) (hk:∀ i,B i≠none->τ i=some i) (hq:∀ i,B i≠none->i ∉ L.map (·.1)->h i=B i) (hg:q2i τ B (L.map (·.1)))
  (hh:LeV τ h (hpG L B) m x/\q9B τ h (hpG L B) L/\q46 τ (L.map (·.1))):Le J (λ_=>m) h (λ_=>x) (hpG L B):=by
 obtain ⟨h1,h3,h6⟩:=hh;refine LeG0 τ hJ hB (λi b hb=>?_) (λi hi=>⟨hk i hi,?_,q1C (.inl hi)⟩) hg h6 λt=>h1
 .rcases q1f hb with q | ⟨q1,q2⟩
  .exact .inl ⟨zH.2 ⟨_,q,rfl⟩,q6l h3 _ q⟩
  .exact .inr ⟨q1,q2⟩
 .by_cases hm:i ∈ L.map (·.1)
  .exact .inl hm
  .exact .inr (hq i hi hm)
def qhs {τ:Nat->Option Nat} {x y:PV} {l m:List PV}:LeL τ h h' (x :: l) (y :: m) ↔ LeV τ h h' x y/\LeL τ h h' l m:=by
 rw [<- q0a,<- q0a];exact Iff.rfl
def q18 {τ:Nat->Option Nat}:∀ {l:List (Int × PV)},(∀ p ∈ l,Cld p.2)->LeL τ h h' (mpL l) (mpL l)
 | [],_=>⟨rfl,λi x y hx=>by simp [mpL] at hx⟩
 | p :: l,hl=>qhs.2 ⟨.tu rfl λi x y hx hy=>by
   rw [hx] at hy;cases hy
   rcases i with _ | _ | i
   .cases hx; exact .cl trivial
   .cases hx; exact .cl (hl p zW)
   .simp at hx,q18 λq hq=>hl q (zS _ hq)⟩
def q4Z {τ:Nat->Option Nat} {z:Int} {x y:PV} (hx:LeV τ h h' x y):∀ {l:List (Int × PV)},(∀ p ∈ l,Cld p.2)->LeL τ h h' (mpL (q0v l z x)) (mpL (q0v l z y))
 | [],_=>qhs.2 ⟨q8z hx,q18 (l:=[]) λp hp=>by cases hp⟩
 | p :: l,hl=>by
  unfold q0v
  split
  .exact qhs.2 ⟨q8z hx,q18 λq hq=>hl q (zS _ hq)⟩
  .refine qhs.2 ⟨q8z (.cl (hl p zW)),q4Z hx λq hq=>hl q (zS _ hq)⟩
def qvC {τ:Nat->Option Nat} {i j:Nat}:LeV τ h h' (.mp j) (.mp i)=(τ i=some j/\∃ b,h' i=some b):=by
 refine propext ⟨λq=>?_,λ⟨a,b,c⟩=>.mp a c⟩;cases q with
 | mp a b=>exact ⟨a,_,b⟩
 | cl a=>exact a.elim
attribute [go_sem] qvC
def quq [NL] {h1:Hp} {id:Nat} {T:TypeId} {l l':List (Int × PV)} (hL:Le J s h s' h1) (hi:h1 id=some ⟨T,some 0,[.tu (mpL l)],false⟩) (hp:l.Perm l') (he:q0R h1 id ⟨T,some 0,[.tu (mpL l')],false⟩=h'):Le J s h s' h':=λD0 w0 ρ e w hJ S=>by
 obtain ⟨ρ1,S1⟩:=hL D0 w0 ρ e w hJ S;subst he;exact Le_mp hi hp D0 w0 ρ1 e w hJ S1
def BOk.hi {H:Hp} (hB:BOk H win):∀ i b,H i=some b->win i/\b.st=false/\IdL win b.xs/\∃ b',H i=some b'/\b'.k=b.k/\b.xs.length<=b'.xs.length:=λi b hb=>by
 obtain ⟨h1,h2,h3⟩:=hB.b i b hb;exact ⟨h1,h2,IdL_mono (λj hj=>by
  obtain ⟨c,hc⟩:=zE.1 hj;exact (hB.b j c hc).1) _ h3,b,hb,rfl,zL _⟩
def BOk.ho {H:Hp} (hB:BOk H win):∀ i b,H i=some b->win i:=λi b hb=>(hB.b i b hb).1
end
end Go.E
namespace Go.Proofs.YtbjoghfmhgadkaaGreatDoor
open Go Go.E Go.Sp
abbrev LSt:=(Nat->Nat->Nat) × List Int × List Nat
section
variable {F:Nat->Nat->Option Nat} {l:List Int} {cs:List Nat} {cols:List (List Nat)} {j n:Nat} {p:LSt}
end
end Go.Proofs.YtbjoghfmhgadkaaGreatDoor
namespace Go.E
open Go Go.RowKit
end Go.E
namespace Go.Proofs.YtbjoghfmhgadkaaGreatDoor
open Go Go.E Go.Sp


def qqg {w:World} {D:Nat->Prop} {ρ:Nat->Option Nat} {h:Hp} {v:Value} {l:List Nat} (hr:In (fSc u64v l) D v w):Rd w D (pF l) ρ h v:=qqV (f:=u64v) (λx=>⟨rfl,rfl⟩) hr

def qpv {id m n:Nat} (h:m<=n):slP (some 1) none (some (iv (m:Int))) (.ow id none 0 n)=some (.ow id none 0 m):=by
 simp [slP,qbC,ksz];omega
def qpu {id m n:Nat} (h:m<=n):slP (some 1) (some (iv (m:Int))) none (.ow id none 0 n)=some (.ow id none m (n-m)):=by
 simp [slP,qbC,ksz];omega
def qff {raw:List Nat} {N:Nat} (hr:raw.length<=9223372036854775807) (hN:N<=1000000):ACt 53 [pF raw,iv N] (pI (q2t raw N)):=by
 have hol:=q4f raw;refine ac0 Tryz.func53 Tryz.ntmps53 [.tmp 4] ?_;refine wk ?_;refine q0C (λi=>i<=N) [0,1] [] Lk Lk (λi:Nat=>[(6,iv i),(5,.ow 1001 none 0 i)]) (λi=>[(1001,⟨3,none,(q2t raw i).map λz=>iv z,false⟩)]) (λi=>N-i) 0 (zI _) ?_ ?_
 .refine LeM [(1001,some 8)] rfl rfl ?_;refine Zz ?_;exact ⟨rfl,rfl⟩
 .intro i hi
  by_cases hlt:i < N
  .have C1:=qbX (raw:=raw) (k:=700+(i:Int)) hr Oq Oq;have C2:=q4h (a:=((q42 raw (700+(i:Int)) / 2:Nat):Int)) (n:=i+1) Oq (by have:=q41 raw (700+(i:Int)); omega) Oq Oq;have e2':IntKind.i64.wrap ((i:Int)+1)=((i+1:Nat):Int):=by rw [i64_in ω ω]; omega
   have e3':IntKind.i64.wrap ((q42 raw (700+i) / 2:Nat):Int)=((q42 raw (700+i) / 2:Nat):Int):=i64_in Oq (by have:=q41 raw (700+(i:Int)); omega);have hs:q2t raw (i+1)=(q2t raw i).take (q09 ((q42 raw (700+i) / 2:Nat):Int) (i+1)) ++ [(i:Int)] ++ (q2t raw i).drop (q09 ((q42 raw (700+i) / 2:Nat):Int) (i+1)):=rfl;have hlt2:=q4i (a:=((q42 raw (700+i) / 2:Nat):Int)) (n:=i+1) Oq;have hl:=hol i;generalize q09 ((q42 raw (700+i) / 2:Nat):Int) (i+1)=m at *;generalize q2t raw i=L at *;have f1:slP (some 1) none (some (iv (m:Int))) (.ow 1001 none 0 i)=some (.ow 1001 none 0 m):=qpv Oq;have f2:slP (some 1) (some (iv (m:Int))) none (.ow 1001 none 0 i)=some (.ow 1001 none m (i-m)):=qpu Oq;have f3:(wO m (List.map (λz=>iv z) L)).length=m:=by
    rw [yO,yC];omega
   have f4:(wI m (List.map (λz=>iv z) L)).length=i-m:=by rw [xA,yC,hl]
   have f5:wO (i-m) (wI m (List.map (λz=>iv z) L))=wI m (List.map (λz=>iv z) L):=uS Oq;refine wk1 (x6 e2' e3' hl f1 f2 (x3 f3 f4 f5)) ?_;refine ⟨i+1,ω,ω,?_⟩;rw [hs];have f6:(wO m (List.map (λz=>iv z) L) ++ [iv (i:Int)] ++ wI m (List.map (λz=>iv z) L))=(wO m L ++ [(i:Int)] ++ wI m L).map λz=>iv z:=σ
   refine LeM [(1001,some 34)] rfl rfl ?_;refine Zz ?_;rw [f6];exact ⟨ω,q0J rfl clI⟩
  .obtain rfl:i=N:=ω
   exact wk1 (hol i) trivial
def qi2 {neg:Bool} {A B:Nat} (hB:0 < B):2*A<=2*(B*rq 0 neg A B)+B/\2*(B*rq 0 neg A B)<=2*A+B:=by
 have h1:=xY A B;have h2:=y9 A hB;unfold rq;rw [if_neg (by omega:¬ (0:Int)=1),if_neg (by omega:¬ (0:Int)=2),if_neg (by omega:¬ (0:Int)=3)];have h3:B*(A / B+1)=B*(A / B)+B:=by rw [Nat.mul_add,xL]
 split
 .omega
 .split
  .rw [h3]; omega
  .omega
def qkn {mode:Int} {neg:Bool} {N D:Nat}:N / D<=rq mode neg N D:=by unfold rq; (repeat' split) <;> omega
def q6K {mode:Int} {neg:Bool} {N D K:Nat} (hN:0 < N) (hD:0 < D) (hK:1074<=K):∃ u r:Nat,K<=u+1074/\rF mode neg N D=fin mode neg r ((u:Int)-K)/\r=rq mode neg (N*2 ^ K) (D*2 ^ u)/\r<=9007199254740992/\(u+1074=K\/(4503599627370496<=r/\D*2 ^ (u+52)<=N*2 ^ K)):=by
 obtain ⟨q,hq⟩:∃ q,q=qcv N D:=⟨_,rfl⟩;have hq1:q=max (lgq N D-52) (-1074):=hq;obtain ⟨u,hu⟩:∃ u:Nat,(u:Int)=q+K:=⟨(q+K).toNat,ω⟩;have hbl:D<=N*2 ^ bl D:=z6 (xU (q2L D)) (xW _ hN);obtain ⟨g,hg⟩:∃ g,bl (N*2 ^ bl D / D)=g+1:=⟨bl (N*2 ^ bl D / D)-1,by
  have:bl (N*2 ^ bl D / D)≠0:=λh=>by
   have h1:=q2L (N*2 ^ bl D / D);rw [h] at h1;have:=wF hbl hD;omega
  omega⟩
 have hlg:lgq N D=(g:Int)-bl D:=by unfold lgq; omega
 have f2:N*2 ^ bl D < D*2 ^ (g+1):=by
  have:=q2L (N*2 ^ bl D / D);rw [hg,wD hD] at this;rw [yX D];exact this
 have f1:D*2 ^ g<=N*2 ^ bl D:=by
  have:=q6a (n:=N*2 ^ bl D / D) (by have:=wF hbl hD; omega);rw [hg,wE hD] at this;rw [yX D];exact this
 generalize bl D=b at *;have hr:rat mode neg N D q=rq mode neg (N*2 ^ K) (D*2 ^ u):=by
  unfold rat;rw [<- q3N (c:=2 ^ (K-(-q).toNat)) (q0F _),yF,yF,<- z9,<- z9,show (-q).toNat+(K-(-q).toNat)=K by omega,show q.toNat+(K-(-q).toNat)=u by omega]
 refine ⟨u,_,ω,?_,rfl,?_,?_⟩
 .unfold rF;rw [<- hq,hr,show (u:Int)-K=q by omega]
 .refine z6 qq1 ?_;have:N*2 ^ K / (D*2 ^ u) < 2 ^ 53:=by
   rw [wD (wQ hD (q0F _))];refine Nat.lt_of_mul_lt_mul_right (a:=2 ^ b) ?_;have e1:N*2 ^ K*2 ^ b=N*2 ^ b*2 ^ K:=by rw [uW]
   have e2:2 ^ 53*(D*2 ^ u)*2 ^ b=D*2 ^ (53+u+b):=by rw [y7,yF,<- z9,<- z9]
   rw [e1,e2];refine yU (xD f2 (q0F K)) ?_;rw [yF,<- z9];exact Nat.mul_le_mul_left _ (yM Oq Oq)
  have h53:(2:Nat) ^ 53=9007199254740992:=by decide
  omega
 .by_cases h:u+1074=K
  .exact .inl h
  .right
   have hm:D*2 ^ (u+52)<=N*2 ^ K:=by
    refine xJ (c:=2 ^ b) ?_ (q0F b);have e1:N*2 ^ K*2 ^ b=N*2 ^ b*2 ^ K:=by rw [uW]
    have e2:D*2 ^ (u+52)*2 ^ b=D*2 ^ g*2 ^ K:=by rw [yF,yF,<- z9,<- z9]; congr 2; omega
    rw [e1,e2];exact Nat.mul_le_mul_right _ f1
   refine ⟨z6 ?_ qkn,hm⟩;rw [wE (wQ hD (q0F _))];have h52:(2:Nat) ^ 52=4503599627370496:=by decide
   rw [<- h52,y7,<- z9,Nat.add_comm 52];exact hm
def qdb {mode:Int} {neg:Bool} {r u:Nat} {K:Nat} (hK:K=65536) (h1:K<=u+1074) (h2:r<=9007199254740992) (h3:u+1074=K\/4503599627370496<=r) (h4:u+1076 < 2047+K):ofF (fin mode neg r ((u:Int)-K))=some (sgn neg r*(2:Int) ^ u):=by
 unfold fin
 split
 .rename_i h;rw [q4W Oq Oq Oq Oq,show ((u:Int)-K+1+65536).toNat=u+1 by omega,h]
  congr 1
  cases neg <;> simp [sgn,Int.pow_succ] <;> omega
 .rw [q4W Oq Oq Oq Oq,show ((u:Int)-K+65536).toNat=u by omega]
def q4S {neg:Bool}:¬ q0L (qcY 0 neg):=by
 cases neg <;> exact λh=>h (by decide)
def q9s {neg:Bool} {r u:Nat} {K:Nat} (hK:K=65536) (h1:K<=u+1074) (h2:r<=9007199254740992) (h3:u+1074=K\/4503599627370496<=r) (hf:q0L (fin 0 neg r ((u:Int)-K))):ofF (fin 0 neg r ((u:Int)-K))=some (sgn neg r*(2:Int) ^ u):=by
 by_cases h4:u+1076 < 2047+K
 .exact qdb hK h1 h2 h3 h4
 .unfold fin at hf ⊢
  split
  .rename_i h;rw [if_pos h] at hf;unfold q5M at hf;rw [if_neg Oq,if_pos ω] at hf;exact absurd hf q4S
  .rename_i h;rw [if_neg h] at hf
   by_cases h5:u+1075 < 2047+K
   .rw [q4W Oq Oq Oq Oq,show ((u:Int)-K+65536).toNat=u by omega]
   .unfold q5M at hf;rw [if_neg Oq,if_pos ω] at hf;exact absurd hf q4S
def q4T:ofF 0=some 0:=by
 unfold ofF;rw [if_neg (by decide),if_pos (by decide)];have:sgn (decide (9223372036854775808<=0)) (0 % 4503599627370496)=0:=by decide
 rw [this,yP]
def qgO {L D K u:Nat} {c1 c2:Nat} (h1:c1=52) (h2:c2=53) (hK:c2<=K) (h:L*2 ^ (u+c1)<=D*2 ^ K):L*2 ^ u<=2*(D*2 ^ (K-c2)):=by
 have e1:L*2 ^ (u+c1)=L*2 ^ u*2 ^ c1:=by rw [z9,yF]
 have e2:D*2 ^ K=2*(D*2 ^ (K-c2))*2 ^ c1:=by
  have:2 ^ K=2*2 ^ (K-c2)*2 ^ c1:=by rw [<- Nat.pow_succ',<- z9]; congr 1; omega
  rw [this];generalize 2 ^ (K-c2)=x;generalize 2 ^ c1=y;simp only [yX,y7,yF]
 rw [e1,e2] at h;exact xJ h (q0F c1)
def qcP {d l:Int} {K:Nat} (hK:K=65536) (hl:0 < l) (hf:q0L (fQ 0 d l)):(d*(2:Int) ^ K-l*ofZ (fQ 0 d l)).natAbs<=d.natAbs*2 ^ (K-53)+l.natAbs*2 ^ (K-1075):=by
 by_cases hd:d=0
 .subst hd;have:ofZ (fQ 0 0 l)=0:=by unfold fQ; rw [if_pos rfl]; exact q03 q4T
  rw [this];simp
 .obtain ⟨u,r,h1,h2,h3,h4,h5⟩:=q6K (mode:=0) (neg:=decide (d < 0) != decide (l < 0)) (N:=d.natAbs) (D:=l.natAbs) (K:=K) Oq Oq Oq;have hx:fQ 0 d l=fin 0 (decide (d < 0) != decide (l < 0)) r ((u:Int)-K):=by unfold fQ; rw [if_neg hd,h2]
  rw [hx] at hf ⊢;rw [q03 (q9s hK h1 h4 Oq hf)];have hneg:(decide (d < 0) != decide (l < 0))=decide (d < 0):=by rw [decide_eq_false (by omega:¬ l < 0)]; simp
  rw [hneg] at h3 ⊢;have e:=qi2 (neg:=decide (d < 0)) (A:=d.natAbs*2 ^ K) (B:=l.natAbs*2 ^ u) (wQ Oq (q0F _));rw [<- h3] at e;have hB:l.natAbs*2 ^ u<=2*(d.natAbs*2 ^ (K-53)+l.natAbs*2 ^ (K-1075)):=by
   rcases h5 with h5 | ⟨_,h5⟩
   .have:l.natAbs*2 ^ u=2*(l.natAbs*2 ^ (K-1075)):=by rw [y7,<- Nat.pow_succ',show (K-1075).succ=u by omega]
    omega
   .have:=qgO rfl rfl Oq h5;omega
  have e3:(d*(2:Int) ^ K-l*(sgn (decide (d < 0)) r*(2:Int) ^ u)).natAbs=(((d.natAbs*2 ^ K:Nat):Int)-((l.natAbs*2 ^ u*r:Nat):Int)).natAbs:=by
   obtain ⟨m,rfl⟩:∃ m:Nat,l=m:=⟨l.natAbs,ω⟩;have p1:=q0V u;have p2:=q0V K
   by_cases hn:d < 0
   .rw [decide_eq_true hn];obtain ⟨n,rfl⟩:∃ n:Nat,d = -(n:Int):=⟨d.natAbs,ω⟩;rw [<- p1,<- p2];simp only [sgn,if_true,yG,yB];rw [show (-(n:Int)*((2 ^ K:Nat):Int)-(m:Int)*(-(r:Int)*((2 ^ u:Nat):Int))) = -(((n*2 ^ K:Nat):Int)-((m*2 ^ u*r:Nat):Int)) by
     push_cast
     generalize (2:Int) ^ K=A;generalize (2:Int) ^ u=B;rw [wR,wR,Int.mul_neg,yY (r:Int),xP];omega]
    rw [yG]
   .rw [decide_eq_false hn];obtain ⟨n,rfl⟩:∃ n:Nat,d=(n:Int):=⟨d.natAbs,ω⟩;rw [<- p1,<- p2];simp only [sgn,wL,if_false,yB];rw [show ((n:Int)*((2 ^ K:Nat):Int)-(m:Int)*((r:Int)*((2 ^ u:Nat):Int)))=(((n*2 ^ K:Nat):Int)-((m*2 ^ u*r:Nat):Int)) by
     push_cast
     generalize (2:Int) ^ K=A;generalize (2:Int) ^ u=B;rw [yY (r:Int),xP]]
  rw [e3];generalize d.natAbs*2 ^ K=A at *;generalize l.natAbs*2 ^ u*r=C at *;generalize l.natAbs*2 ^ u=B at *;omega
def qs6 {mode V:Int} {K c:Nat} (hK:K=65536) (hc:c=900) (h:V.natAbs < 2 ^ c*2 ^ K):q0L (fR mode V):=by
 unfold fR
 split
 .unfold q0L; simp
 .rw [<- hK];obtain ⟨u,r,h1,h2,h3,h4,h5⟩:=q6K (mode:=mode) (neg:=decide (V < 0)) (N:=V.natAbs) (D:=2 ^ K) (K:=K) Oq (q0F _) Oq;rw [h2];have hu:u+1076 < 2047+K:=by
   rcases h5 with h5 | ⟨_,h5⟩
   .omega
   .have h6:2 ^ K*2 ^ (u+52) < 2 ^ c*2 ^ K*2 ^ K:=yI h5 (xD h (q0F K));rw [<- z9,<- z9,<- z9] at h6;have:=(Nat.pow_lt_pow_iff_right (by omega:1 < 2)).1 h6;omega
  have:=qdb (mode:=mode) (neg:=decide (V < 0)) hK h1 h4 Oq hu;intro hn;unfold ofF at this;rw [if_pos hn] at this;cases this
def qnN (m:Int) (k:Nat) (h1:m.natAbs < 9007199254740992) (h2:k<=65561):bl (m*(2:Int) ^ k).natAbs<=66000:=by
 have h53:∀ n:Nat,n < 9007199254740992->bl n<=53:=λn h=>q0M (yU h (zL _))
 by_cases hm:m=0
 .subst hm; rw [yP]; simp [q0m]
 .rw [q0E,q1X ω]; have:=h53 _ h1; omega
def qie {f:Nat} (h:f / 4503599627370496 % 2048<=1100):bl (ofZ f).natAbs<=66000:=by
 have hm:=y9 f (show 0 < 4503599627370496 by omega);have hfm:∃ (m:Int) (k:Nat),ofF f=some (m*(2:Int) ^ k)/\m.natAbs < 9007199254740992/\k<=65561:=by
  unfold ofF;rw [if_neg ω];generalize f / 4503599627370496 % 2048=x at *;generalize f % 4503599627370496=m at *
  split
  .exact ⟨_,64462,rfl,by rw [q0z]; omega,ω⟩
  .exact ⟨_,64461+x,rfl,by rw [q0z]; omega,ω⟩
 obtain ⟨m,k,h1,h2,h3⟩:=hfm;rw [q03 h1];exact qnN m k h2 h3
def qlM {k x:Nat} (hk:k < 3) (hx:x < 18446744073709551616):bl (ofZ (q2c k x)).natAbs<=66000:=by
 by_cases h1:k=1
 .subst h1;refine qie ?_;unfold q2c;rw [if_pos rfl];omega
 by_cases h2:k=2
 .subst h2;refine qie ?_;unfold q2c;rw [if_neg ω,if_pos rfl];have h1:x / 9223372036854775808<=1:=ω
  have h2:x / 256 % 81 < 81:=ω
  have h3:x / 2251799813685248 % 2<=1:=ω
  generalize x / 9223372036854775808=a at *;generalize x / 256 % 81=b at *;generalize x / 2251799813685248 % 2=c at *;omega
 have hs:=q6G x;unfold q2c;rw [if_neg h1,if_neg h2,if_neg ω,q03 (qdQ ω)];exact qnN _ 65536 Oq Oq
def qlI:bl q8B.natAbs<=66000:=by
 have h:=q6S (z:=1) (by have:=q0M (n:=Int.natAbs 1) (k:=1) (by decide); omega);rw [q4g.1] at h;rw [zK.inj h];exact qnN 1 65536 (by decide) Oq
def gF_bl {raw:List Nat} {R k:Nat} (hk:k < 3) {j i:Nat}:bl (ofZ ((gF raw R k j i).getD 0)).natAbs<=66000:=by
 unfold gF
 split
 .exact qlM hk (q41 _ _)
 .rw [yQ,q03 q4T]; simp [q0m]
structure LuS where
 rows:List Nat
 l:Nat->Nat->Nat
 iL:Nat->Nat->Bool
 u:Nat->Nat->Nat
 iU:Nat->Nat->Bool
def luL (F:Nat->Nat->Option Nat) (l u:Nat->Nat->Nat) (i j k:Nat):Nat->List Int
 | 0=>[ofZ ((F j i).getD 0)]
 | m+1=>luL F l u i j k m ++ [-(q1l (l i m) (u m k))]
def luZ (F:Nat->Nat->Option Nat) (l u:Nat->Nat->Nat) (i j k m:Nat):Int:=q1Z (luL F l u i j k m)
def q4E (g:Nat->Nat->Nat):Prop:=∀ r c,q0L (g r c)/\g r c < 18446744073709551616
def q85 {F:Nat->Nat->Option Nat} {l u:Nat->Nat->Nat} {i j k:Nat}:∀ m,(luL F l u i j k m).length=m+1
 | 0=>rfl
 | m+1=>by rw [luL,z8,q85 m]; rfl
def qck {F:Nat->Nat->Option Nat} {l u:Nat->Nat->Nat} {i j k:Nat} (hl:q4E l) (hu:q4E u) (hF:q0L ((F j i).getD 0)):∀ m,∀ x ∈ luL F l u i j k m,bl x.natAbs<=67600
 | 0,x,hx=>by unfold luL at hx; simp at hx; subst hx; exact q4C hF
 | m+1,x,hx=>by
  unfold luL at hx
  rcases zJ.1 hx with hx | hx
  .exact qck hl hu hF m x hx
  .simp at hx; subst hx;rw [yG];exact (q2d (hl i m).1 (hu m k).1).2
def qri {F:Nat->Nat->Option Nat} {l u:Nat->Nat->Nat} {i j k m:Nat} (hl:q4E l) (hu:q4E u) (hF:q0L ((F j i).getD 0)) (hm:m<=500):q00 (luZ F l u i j k m):=q7C (qck hl hu hF m) (by rw [q85]; omega)
abbrev pRw (l:List Nat):PV:=.sl none (l.map λz:Nat=>iv z)
abbrev rU (n:Nat) (g:Nat->Nat->Nat) (j:Nat):List PV:=(List.range n).map λc=>.vl (.int .u64 (g j c:Nat))
abbrev rB (n:Nat) (g:Nat->Nat->Bool) (j:Nat):List PV:=(List.range n).map λc=>.vl (.bool (g j c))
abbrev tU (n:Nat) (g:Nat->Nat->Nat):PV:=.sl none ((List.range n).map λj=>.sl none ((List.range n).map λc=>.vl (.int .u64 (g j c:Nat))))
section
variable {F:Nat->Nat->Option Nat} {S:LuS} {n:Nat}
def q3A (l:List Int) (i:Nat):Nat:=(l.filter λx:Int=>decide (x=(i:Int))).length
end
end Go.Proofs.YtbjoghfmhgadkaaGreatDoor
namespace Go.Sp
open Go Go.E
def q5G {a:Nat} (ha:a < 18446744073709551616):q0g .andNot .u64 (a:Int) 9223372036854775808=((a % 9223372036854775808:Nat):Int):=by
 have h2:(BitVec.ofInt 64 (a:Int) &&& ~~~(BitVec.ofInt 64 9223372036854775808)).toNat=a % 9223372036854775808:=by
  rw [show ~~~(BitVec.ofInt 64 9223372036854775808)=BitVec.ofNat 64 9223372036854775807 from rfl,q35,BitVec.toNat_and,BitVec.toNat_ofNat,BitVec.toNat_ofNat,Nat.mod_eq_of_lt ha];exact y8 a 63
 show IntKind.u64.wrap ((BitVec.ofInt 64 (a:Int) &&& ~~~(BitVec.ofInt 64 9223372036854775808)).toNat:Int)=_
 rw [h2,q0o];omega
def q2M (f:Nat):Nat:=f % 9223372036854775808
def qek (a b:Int):Int:=if a < b then -1 else if b < a then 1 else 0
def qe5 {f:Nat}:q2M f < 9223372036854775808:=y9 _ Oq
def qhl {f:Nat} (h:q0L f):q0L (q2M f):=by unfold q0L q2M at *; omega
def q9i {f:Nat} (h:q0L f):q2O f≠3:=by unfold q0L at h; unfold q2O; rw [if_neg λq=>h q.1,if_neg h]; split <;> omega
def q3Q {f:Nat} (hf:f < 18446744073709551616):q2O f=0 ↔ q2M f=0:=by
 unfold q2O q2M
 constructor
 .intro h
  split at h
  .cases h
  .split at h
   .cases h
   .split at h
    .omega
    .cases h
 .intro h;rw [if_neg ω,if_neg ω,if_pos ω]
end Go.Sp
namespace Go.Proofs.YtbjoghfmhgadkaaGreatDoor
open Go Go.E Go.Sp
section
variable {f g:Nat}
def q60 (hf:f < 18446744073709551616):ACt 104 [uv f] (iv (q2O f:Nat)):=by
 have C1:=@q4v f hf;unfold q2O;generalize f / 4503599627370496 % 2048=x at *;generalize f % 4503599627370496=m at *;refine ac0 Tryz.func104 Tryz.ntmps104 [.tmp 2] ?_
 by_cases hx2:x=2047
 .by_cases hm0:m=0
  .rw [if_neg (by simp [hm0]),if_pos hx2];exact wk1 (show ((2:Nat):Int)=2 from rfl) trivial
  .rw [if_pos ⟨hx2,hm0⟩];exact wk1 (show ((3:Nat):Int)=3 from rfl) trivial
 .rw [if_neg λh=>hx2 h.1,if_neg hx2]
  by_cases hx0:x=0
  .by_cases hm0:m=0
   .rw [if_pos ⟨hx0,hm0⟩];exact wk1 (show ((0:Nat):Int)=0 from rfl) trivial
   .rw [if_neg λh=>hm0 h.2];exact wk1 (show ((1:Nat):Int)=1 from rfl) trivial
  .rw [if_neg λh=>hx0 h.1];exact wk1 (show ((1:Nat):Int)=1 from rfl) trivial
def qmR {l:List Nat} (hl:fins l) (hn:l.length<=1000):ACt 172 [pF l] (bv false):=by
 refine ac0 Tryz.func172 Tryz.ntmps172 [.tmp 2] ?_;refine wk ?_;refine q0C (λi=>i<=l.length) [5,6] [] Lk Lk (λi:Nat=>[(7,iv i)]) (λ_=>[]) (λi=>l.length-i) 0 (zI _) ?_ ?_
 .refine LeM [] rfl rfl ?_;refine Zz ?_
  rfl
 .intro i hi
  by_cases hlt:i < l.length
  .obtain ⟨x,hx⟩:∃ x,l[i]?=some x:=⟨_,zA hlt⟩;obtain ⟨h1,h2⟩:=hl x (zF hx);have C1:=q60 h1;have q:(((q2O x:Nat):Int) == 3)=false:=by
    have:=q9i h2;simp; omega
   refine wk1 (x2 hx q) ?_;refine ⟨i+1,ω,ω,?_⟩;refine LeM [] rfl rfl ?_;refine Zz ?_;omega
  .exact wk trivial
def qdg (hf:f < 18446744073709551616) (h:q0L f):ACt 133 [uv f] (uv (q2M f:Nat)):=by
 have C1:ACt 172 [.sl none [uv f]] (bv false):=qmR (l:=[f]) (λx hx=>by simp at hx; subst hx; exact ⟨hf,h⟩) σ;have N1:Nz (bv false):=nz_v;have h1:=q5G hf;rw [show f % 9223372036854775808=q2M f from rfl] at h1;refine ac0 Tryz.func133 Tryz.ntmps133 [.tmp 2] ?_;exact wk1 h1 trivial
def qf5 (hf:f < 18446744073709551616) (h:q0L f):ACt 81 [uv f] (bv false):=by
 have:=qks hf
 rwa [decide_eq_false (q9i h)] at this
def qcO (hf:f < 18446744073709551616) (h:q0L f):ACt 25 [uv f] (uv (q2M f:Nat)):=by
 have C1:=qf5 hf h;have h1:=q5G hf;rw [show f % 9223372036854775808=q2M f from rfl] at h1;refine ac0 Tryz.func25 Tryz.ntmps25 [.tmp 2] ?_;exact wk1 h1 trivial
end
section
variable {A B:Int}
def q8F (hA:q00 A) (hB:q00 B):∃ x y e,ACt 196 [dT A,dT B] (.tu [bT x,bT y,iv e])/\Aln A B x y e:=by
 obtain ⟨a1,a2,a3⟩:=q0s hA;obtain ⟨b1,b2,b3⟩:=q0s hB;have C1:=@q3H;have key:∀ e:Int,e<=dyE A->e<=dyE B -> -65536<=e->e<=65536->Aln A B (shI (od A) (dyE A-e)) (shI (od B) (dyE B-e)) e:=λe h1 h2 h3 h4 =>
  ⟨h3,h4,by unfold shI; rw [if_pos ω]; exact q2F h3 h1,by unfold shI; rw [if_pos ω]; exact q2F h3 h2⟩
 obtain ⟨e,he⟩:∃ e,min (dyE A) (dyE B)=e:=⟨_,rfl⟩;refine ⟨_,_,e,?_,key e Oq Oq Oq Oq⟩;refine ac0 Tryz.func196 Tryz.ntmps196 [.cell 4 42,.cell 5 42,.tmp 6] ?_;exact wk1 he trivial
def qop (hA:q00 A):ACt 259 [dT A] (reT (decide (od A < 0)) (od A).natAbs (dyE A) false):=by
 have C1:=@q8f;have:=(q0s hA).2.2;refine ac0 Tryz.func259 Tryz.ntmps259 [.cell 2 240] ?_;exact wk trivial
def q77 (hA:q00 A):ACt 225 [dT A,iv 0] (uv (fR 0 A:Nat)):=by
 obtain ⟨hd1,hd2,hd3⟩:=q0s hA;have C1:=q5s hA;have C2:=q3G hA;have C3:=qop hA;refine ac0 Tryz.func225 Tryz.ntmps225 [.tmp 4] ?_
 by_cases hz:A=0
 .have q1:(A.sign == 0)=true:=by rw [hz]; rfl
  rw [show ((fR 0 A:Nat):Int)=0 by rw [show fR 0 A=0 from if_pos hz]; rfl];exact wk1 q1 trivial
 .have q1:(A.sign == 0)=false:=by
   rw [beq_eq_false_iff_ne]; intro h; exact hz (zN.1 h)
  have hod:=q3P hz;have C4:=q4t (N:=(od A).natAbs) (M:=1) (neg:=decide (od A < 0)) (e:=dyE A) Nat.one_pos ω (by rw [wP]; intro h; exact absurd rfl h) (by rw [wG]; omega) ω ω;rw [wG,wP,show decide ((0:Nat)≠0)=false from rfl,rE_V hz,q21,show rF 0 (decide (A < 0)) A.natAbs (2 ^ 65536)=fR 0 A from (if_neg hz).symm] at C4;rw [<- q21] at C4;exact wk1 q1 trivial
end
section
variable {l:List Nat}
end




end Go.Proofs.YtbjoghfmhgadkaaGreatDoor
namespace Go.E
open Go Go.RowKit
section
variable {J:Nat->Prop} {h hin hw:Hp} {T1 T2:TypeId} {K:Kd} {N R n:Nat} {row row':Nat->List PV} {B B':Hp}
def qlk {i j R':Nat} {b:Bk} (hne:j+R'≠i+R):q0R h (i+R) b (j+R')=h (j+R'):=q0A hne
attribute [go_sem ↓ 2000] qlk
end
end Go.E
namespace Go.Proofs.YtbjoghfmhgadkaaGreatDoor
open Go Go.E Go.Sp
def inZ (z:Int):Int:=(mkV z 0).getD 0
def inZK {z:Int} {K:Nat} (hK:K=65536) (hz:z.natAbs < 9007199254740992):mkV z 0=some (z*(2:Int) ^ K):=by
 have h1:bl z.natAbs<=53:=q0M Oq;have h:=q4k (m:=z) (E:=0) Oq Oq;rw [h,show ((0:Int)+65536).toNat=K by omega]
def qdC {z:Int} (hz:z.natAbs < 9007199254740992):mkV z 0=some (inZ z):=by
 unfold inZ;rw [inZK rfl hz]; rfl
def mulI {z W:Int} (hz:z.natAbs < 9007199254740992) (hW:bl W.natAbs<=67600):mkV (inZ z*W) (-131072)=some (z*W):=by
 obtain ⟨K,hK⟩:∃ K,K=65536:=⟨_,rfl⟩;unfold inZ;rw [inZK hK hz,uX,show z*(2:Int) ^ K*W=z*W*(2:Int) ^ K by simp only [xP,yY,Int.mul_left_comm],q1w,show (-131072:Int)+K = -65536 by omega];refine q2e ?_;unfold q00;have h1:bl z.natAbs<=53:=q0M Oq;have:=q1y z.natAbs W.natAbs;rw [wH];omega
def q8D (g:Nat->Nat->Bool) (r c:Nat) (v:Bool):Nat->Nat->Bool:=λx y=>if x=r/\y=c then v else g x y
section
open Classical
variable (F:Nat->Nat->Option Nat) (mi:List Int) (n:Nat) (S:LuS) (j k num den:Nat)
noncomputable def upS:Nat->Option LuS
 | 0=>some S
 | m+1=>(upS m).bind λq=>if q0L (fR 0 (luZ F q.l q.u (S.rows.getD m 0) j k m)) then some { q with u:=q23 q.u m k (fR 0 (luZ F q.l q.u (S.rows.getD m 0) j k m)),iU:=q8D q.iU m k (decide (luZ F q.l q.u (S.rows.getD m 0) j k m≠0)) } else none
noncomputable def rsZ (i:Nat):Int:=luZ F S.l S.u i j k k
noncomputable def rsV (i:Nat):Nat:=if i ∈ S.rows then 0 else fR 0 (rsZ F S j k i)
end
section
variable (v:Nat->Nat) (S:LuS) (mi:List Int) (num den:Nat) (w:Int)
def abZ (x:Nat):Int:=((ofZ x).natAbs:Int)
def mxZ:Nat->Int
 | 0=>0
 | i+1=>if mxZ i < abZ (v i) then abZ (v i) else mxZ i
def bsP:Nat->Int
 | 0 => -1
 | i+1=>if i ∈ S.rows\/(v i=0\/v i=9223372036854775808)\/(den:Int)*abZ (v i) < num*w then bsP i else if bsP i < 0\/q3A mi i < q3A mi (bsP i).toNat then (i:Int) else bsP i
end
section
open Classical
variable (F:Nat->Nat->Option Nat) (mi:List Int) (n:Nat) (S:LuS) (j k num den:Nat)
noncomputable def loS (z:Nat->Int) (d:Int):Nat->Option LuS
 | 0=>some S
 | i+1=>(loS z d i).bind λq=>if i ∈ S.rows then some q else if q0L (q3k 0 (z i) d) then some { q with l:=q23 q.l i k (q3k 0 (z i) d),iL:=q8D q.iL i k (decide (z i≠0)) } else none
noncomputable def pvS (v:Nat->Nat) (p:Nat):LuS:={ S with rows:=S.rows ++ [p],u:=q23 S.u k k (v p),iU:=q8D S.iU k k true }
noncomputable def qjM (q:LuS):Int × LuS :=
 if ∀ i,i < n->q0L (rsV F q j k i) then
  (if bsP (rsV F q j k) q mi num den (mxZ (rsV F q j k) n) n < 0 then (9,S) else
   match loS (pvS q k (rsV F q j k) (bsP (rsV F q j k) q mi num den (mxZ (rsV F q j k) n) n).toNat) k (rsZ F q j k) (ofZ (rsV F q j k (bsP (rsV F q j k) q mi num den (mxZ (rsV F q j k) n) n).toNat)) n with
   | none=>(233,S)
   | some r=>(0,r))
 else (233,S)
noncomputable def q2R:Int × LuS:=match upS F S j k k with
 | none=>(233,S)
 | some q=>qjM F mi n S j k num den q
end
structure LUt where
 rows:List Int
 cols:List Int
 ls:List Int
 li:List Int
 lv:List Nat
 us:List Int
 ui:List Int
 uv:List Nat
def pLU (f:LUt):PV:=.ag [pI f.rows,pI f.cols,pI f.ls,pI f.li,pF f.lv,pI f.us,pI f.ui,pF f.uv]
def qep (l:List Int):Prop:=∀ (i:Nat) (x y:Int),l[i]?=some x->l[i+1]?=some y->x < y
structure CmpOk (n:Nat) (st ix:List Int) (G:Nat->List Int->Prop):Prop where
 c0:st[0]?=some 0
 cn:st[n]?=some (ix.length:Int)
 col:∀ j,j < n->∃ a b:Nat,st[j]?=some (a:Int)/\st[j+1]?=some (b:Int)/\a<=b/\b<=ix.length/\qep ((ix.take b).drop a)/\G j ((ix.take b).drop a)
def LoC (n k:Nat) (l:List Int):Prop:=(∀ z,l[0]?=some z->(k:Int) < z)/\∀ z,l[l.length-1]?=some z->z < n
def UpC (k:Nat) (l:List Int):Prop:=(∀ z,l[0]?=some z->0<=z)/\l[l.length-1]?=some (k:Int)
def qjn (f:LUt):Prop:=CmpOk f.rows.length f.ls f.li (LoC f.rows.length)/\CmpOk f.rows.length f.us f.ui UpC
def UDg (n:Nat) (us:List Int) (vs:List Nat):Prop:=∀ k,k < n->∀ (a x:Nat),us[k+1]?=some ((a+1:Nat):Int)->vs[a]?=some x->ofZ x≠0
open Classical in
noncomputable def qmo (f:LUt):Int :=
 if f.rows.length > 200 then 6 else if ¬ (q5J f.rows f.rows.length/\q5J f.cols f.rows.length) then 90
 else if ¬ (f.ls.length=f.rows.length+1/\f.us.length=f.rows.length+1/\f.li.length=f.lv.length/\f.ui.length=f.uv.length) then 2
 else if ¬ qjn f then 240 else if (∀ x ∈ f.lv,q0L x)/\(∀ x ∈ f.uv,q0L x)/\UDg f.rows.length f.us f.uv then 0 else 4
structure LUb (f:LUt):Prop where
 rows:f.rows.length<=1000000
 cols:f.cols.length<=1000000
 ls:f.ls.length<=1000000
 li:f.li.length<=1000000
 lv:f.lv.length<=1000000
 us:f.us.length<=1000000
 ui:f.ui.length<=1000000
 uv:f.uv.length<=1000000
 hl:∀ x ∈ f.lv,x < 18446744073709551616
 hu:∀ x ∈ f.uv,x < 18446744073709551616
open Classical in
def q6W {l:List Int} {n:Nat} (hl:n<=1000000):ACt 97 [pI l,iv n] (bv (decide (q5J l n))):=by
 by_cases hln:l.length=n
 case neg =>
  have q:((l.length:Int) != (n:Int))=true:=by simp; omega
  rw [decide_eq_false λh=>hln (by have:=h.1; omega)];refine ac0 Tryz.func97 Tryz.ntmps97 [.tmp 4] ?_;exact wk1 q trivial
 subst hln;have q:((l.length:Int) != (l.length:Int))=false:=σ
 refine ac0 Tryz.func97 Tryz.ntmps97 [.tmp 4] ?_;refine wk1 q ?_;refine q0C (λi=>i<=l.length/\(∀ x ∈ l.take i,0<=x/\x < l.length)/\(l.take i).Nodup) [0,1,14,15] [] Lk Lk (λi:Nat=>[(16,iv i),(5,.ow 1001 none 0 l.length)]) (λi=>[(1001,⟨4,none,(q5P l i).map λz=>bv z,false⟩)]) (λi=>l.length-i) 0 ⟨zI _,σ,σ⟩ ?_ ?_
 .refine LeM [(1001,some 13)] rfl rfl ?_;refine Zz ?_;exact ⟨rfl,qqU⟩
 .rintro i ⟨hi,hr,hd⟩
  by_cases hlt:i < l.length
  .have hlt':(i:Int) < l.length:=ω
   obtain ⟨x,hx⟩:∃ x,l[i]?=some x:=⟨_,zA hlt⟩;have hmem:=zF hx;have ht:=q3z hx;refine wk1 (x2 hlt' hx) ?_
   by_cases hx0:x < 0
   .refine wk1 hx0 ?_;exact (decide_eq_false λh=>by have:=(h.2.1 x hmem).1; omega).symm
   .obtain ⟨k,rfl⟩:∃ k:Nat,x=k:=⟨x.toNat,ω⟩
    by_cases hxn:(l.length:Int)<=k
    .refine wk1 (x2 hx0 hxn) ?_;exact (decide_eq_false λh=>by have:=(h.2.1 _ hmem).2; omega).symm
    .have hk:k < l.length:=ω
     have hs:=qfY (i:=i) hk
     by_cases hm:(k:Int) ∈ l.take i
     .refine wk1 (x4 hx0 hxn hs hm) ?_;refine (decide_eq_false λh=>?_).symm;have:=(h.2.2.sublist (List.take_sublist (i+1) l));rw [ht,y6] at this;exact this.2.2 _ hm _ σ rfl
     .refine wk1 (x6 hx0 hxn hs hm hx @qfX) ?_;refine ⟨i+1,⟨ω,?_,?_⟩,ω,?_⟩
      .rw [ht];intro y hy
       rcases zJ.1 hy with hy | hy
       .exact hr y hy
       .simp at hy; subst hy; omega
      .rw [ht,y6];exact ⟨hd,σ,λa ha b hb=>by simp at hb; subst hb; exact λe=>hm (e ▸ ha)⟩
      .refine LeM [] rfl rfl ?_;refine Zz ?_;exact ⟨ω,qfW hx⟩
  .have hlt':¬ (i:Int) < l.length:=ω
   refine wk1 hlt' ?_;have hil:i=l.length:=ω
   rw [hil,zY] at hr hd;exact (decide_eq_true ⟨rfl,hr,hd⟩).symm
open Classical in
def qcy {st ix:List Int} {n:Nat} {G:Nat->List Int->Prop} {fv:PV} {f:FuncId} {ys:List PV} (hst:st.length=n+1) (hn:n<=200) (hix:ix.length<=1000000) (hv:FnP fv f ys) (hcv:Cld fv)
  (hcl:∀ (h:Hp) (k:Nat) (col:List Int),q2P h ([iv k,pI col] ++ ys)=some ([iv k,pI col] ++ ys,[]))
  (hf:∀ (k:Nat) (col:List Int),k < n->col.length<=1000000->ACt f ([iv k,pI col] ++ ys) (bv (decide (G k col)))):ACt 184 [pI st,pI ix,iv n,fv] (bv (decide (CmpOk n st ix G))):=by
 obtain ⟨res,hres⟩:∃ res,res=decide (CmpOk n st ix G):=⟨_,rfl⟩;rw [<- hres];have rF:¬ CmpOk n st ix G->res=false:=λh=>by rw [hres]; exact decide_eq_false h
 have rT:CmpOk n st ix G->res=true:=λh=>by rw [hres]; exact decide_eq_true h
 clear hres;obtain ⟨x0,hx0⟩:∃ x,st[0]?=some x:=⟨_,zA Oq⟩;obtain ⟨xn,hxn⟩:∃ x,st[n]?=some x:=⟨_,zA Oq⟩;refine ac0 Tryz.func184 Tryz.ntmps184 [.tmp 8] ?_
 by_cases h0:x0=0
 case neg =>
  have e1:(x0 != 0)=true:=by simpa using h0
  refine wk1 (x2 hx0 e1) ?_;rw [rF λh=>h0 (zK.inj (hx0.symm.trans h.c0))]
 subst h0;have e1:((0:Int) != 0)=false:=rfl
 by_cases hn0:xn=ix.length
 case neg =>
  have e2:(xn != (ix.length:Int))=true:=by simpa using hn0
  refine wk1 (x4 hx0 e1 hxn e2) ?_;rw [rF λh=>hn0 (zK.inj (hxn.symm.trans h.cn))]
 subst hn0;have e2:((ix.length:Int) != (ix.length:Int))=false:=σ
 refine wk1 (x4 hx0 e1 hxn e2) ?_;refine q0C (λj=>j<=n/\(∃ a:Nat,st[j]?=some (a:Int))/\∀ j',j' < j->∃ a b:Nat,st[j']?=some (a:Int)/\st[j'+1]?=some (b:Int)/\a<=b/\b<=ix.length/\qep ((ix.take b).drop a)/\G j' ((ix.take b).drop a)) [0,1,3,25] [] Lk Lk (λj:Nat=>[(26,iv j)]) (λ_=>[]) (λj=>n-j) 0 ⟨zI _,⟨0,hx0⟩,ω⟩ ?_ ?_
 .refine LeM [] rfl rfl ?_;refine Zz ?_;exact ⟨rfl,.cl hcv⟩
 .rintro j ⟨hj,⟨a,ha⟩,hr⟩
  by_cases hlt:j < n
  .have hlt':(j:Int) < n:=ω
   obtain ⟨y,hy⟩:∃ y,st[j+1]?=some y:=⟨_,zA Oq⟩;have w1:IntKind.i64.wrap ((j:Int)+1)=((j+1:Nat):Int):=by rw [i64_in ω ω]; omega
   have bad:(∀ b:Nat,y=b->a<=b->b<=ix.length->¬ (qep ((ix.take b).drop a)/\G j ((ix.take b).drop a)))->res=false:=λh=>rF λhS=>by
    obtain ⟨a',b',h1,h2,h3,h4,h5⟩:=hS.col j hlt;rw [ha] at h1; rw [hy] at h2;have:a'=a:=by have:=zK.inj h1; omega
    subst this;exact h b' (zK.inj h2) h3 h4 h5
   refine wk1 hlt' ?_
   by_cases hay:(a:Int) > y
   .refine wk1 (x4 ha hy w1 hay) ?_;rw [bad λb hb h1 _=>by omega]
   by_cases hyr:y > (ix.length:Int)
   .refine wk1 (x5 ha hy w1 hay hyr) ?_;rw [bad λb hb _ h1=>by omega]
   obtain ⟨b,rfl⟩:∃ b:Nat,y=b:=⟨y.toNat,ω⟩;have bad2:¬ (qep ((ix.take b).drop a)/\G j ((ix.take b).drop a))->res=false:=λh=>bad λb' hb _ _=>by
    have:b'=b:=ω
    subst this; exact h
   clear bad;refine wk1 (x5 ha hy w1 hay hyr) ?_;have es:slP (some 1) (some (iv (a:Int))) (some (iv (b:Int))) (pI ix)=some (pI ((ix.take b).drop a)):=by
    simp [slP,qbC,ksz,List.map_take,List.map_drop];omega
   have hcl2:((ix.take b).drop a).length=b-a:=by simp; omega
   generalize hcol:(ix.take b).drop a=col at bad2 es hcl2;refine wk1 (x4 ha hy w1 es) ?_;refine q0C (λi=>1<=i/\(i=1\/i<=col.length)/\∀ (k:Nat) (x y:Int),k+1 < i->col[k]?=some x->col[k+1]?=some y->x < y) [0,1,3,9,10,25,26] [] Lk Lk (λi:Nat=>[(11,iv i)]) (λ_=>[]) (λi=>col.length-i) 1 ⟨zL _,.inl rfl,ω⟩ ?_ ?_
   .refine LeM [] rfl rfl ?_;refine Zz ?_;exact ⟨rfl,.cl hcv⟩
   .rintro i ⟨hi1,hi2,hm⟩
    by_cases hil:i < col.length
    .have hil':(i:Int) < col.length:=ω
     obtain ⟨x,hx⟩:∃ x,col[i-1]?=some x:=⟨_,zA Oq⟩;obtain ⟨y,hy2⟩:∃ x,col[i]?=some x:=⟨_,zA Oq⟩;have wi:IntKind.i64.wrap ((i:Int)-1)=((i-1:Nat):Int):=by rw [i64_in ω ω]; omega
     have wj:IntKind.i64.wrap ((i:Int)+1)=((i+1:Nat):Int):=by rw [i64_in ω ω]; omega
     refine wk1 hil' ?_
     by_cases hxy:y<=x
     .refine wk1 (x4 hx hy2 wi hxy) ?_;rw [bad2 λh=>by
       have:=h.1 (i-1) x y hx (by rw [show i-1+1=i by omega]; exact hy2);omega]
     .refine wk1 (x5 hx hy2 wi hxy wj) ?_;refine ⟨i+1,⟨ω,ω,?_⟩,ω,?_⟩
      .intro k u v hk hu hv
       by_cases hki:k+1 < i
       .exact hm k u v hki hu hv
       .obtain rfl:k=i-1:=ω
        rw [show i-1+1=i by omega] at hv;have h1:=zK.inj (hx.symm.trans hu);have h2:=zK.inj (hy2.symm.trans hv);omega
      .refine LeM [] rfl rfl ?_;refine Zz ?_;exact .cl hcv
    .have hil':¬ (i:Int) < col.length:=ω
     have hA:qep col:=λk u v hu hv=>by
      have hk:k+1 < col.length:=(zB.1 hv).1;exact hm k u v Oq hu hv
     have C1:=hf j col hlt Oq;refine wk1 (x2 hil' w1) ?_;refine qbR λK hK=>?_;refine Zz ?_;refine q4X hv ?_;rw [hcl];refine q0K C1 ?_
     try refine Zz ?_
     refine hK _ _ ?_; clear hK K
     by_cases hG:G j col
     .rw [decide_eq_true hG];refine wk1 w1 ?_;refine ⟨j+1,⟨ω,⟨b,hy⟩,?_⟩,ω,?_⟩
      .intro j' hj'
       by_cases hjj:j' < j
       .exact hr j' hjj
       .obtain rfl:j'=j:=ω
        refine ⟨a,b,ha,hy,ω,ω,?_⟩;rw [hcol];exact ⟨hA,hG⟩
      .refine LeM [] rfl rfl ?_;refine Zz ?_;exact .cl hcv
     .rw [decide_eq_false hG];refine wk ?_;rw [bad2 λh=>hG h.2]
  .have hlt':¬ (j:Int) < n:=ω
   obtain rfl:n=j:=ω
   refine wk1 hlt' ?_;exact (rT ⟨hx0,hxn,hr⟩).symm
open Classical in
def qfz {n k:Nat} {l:List Int} (hl:l.length<=1000000):ACt 182 [iv k,pI l,.qt none (iv n)] (bv (decide (LoC n k l))):=by
 by_cases h0:l.length=0
 .have q:((l.length:Int) == 0)=true:=by simp [h0]
  rw [decide_eq_true (p:=LoC n k l) ⟨λz hz=>(by rw [zU ω] at hz; cases hz),λz hz=>(by rw [zU ω] at hz; cases hz)⟩];refine ac0 Tryz.func182 Tryz.ntmps182 [.tmp 5] ?_;exact wk1 q trivial
 have q:((l.length:Int) == 0)=false:=by simpa using h0
 obtain ⟨x,hx⟩:∃ x,l[0]?=some x:=⟨_,zA Oq⟩;obtain ⟨y,hy⟩:∃ x,l[l.length-1]?=some x:=⟨_,zA Oq⟩;have wi:IntKind.i64.wrap ((l.length:Int)-1)=((l.length-1:Nat):Int):=by rw [i64_in ω ω]; omega
 have e:decide (LoC n k l)=decide ((k:Int) < x/\y < n):=decide_eq_decide.2 ⟨λh=>⟨h.1 x hx,h.2 y hy⟩,λh=>⟨λz hz=>by rw [hx] at hz; cases hz; exact h.1,λz hz=>by rw [hy] at hz; cases hz; exact h.2⟩⟩;rw [e]
 by_cases h1:x > (k:Int)
 case neg =>
  rw [decide_eq_false λh=>h1 h.1];refine ac0 Tryz.func182 Tryz.ntmps182 [.tmp 5] ?_;exact wk1 (x3 q hx h1) trivial
 by_cases h2:y < (n:Int)
 .rw [decide_eq_true ⟨h1,h2⟩];refine ac0 Tryz.func182 Tryz.ntmps182 [.tmp 5] ?_;exact wk1 (x6 q hx h1 wi hy h2) trivial
 .rw [decide_eq_false λh=>h2 h.2];refine ac0 Tryz.func182 Tryz.ntmps182 [.tmp 5] ?_;exact wk1 (x6 q hx h1 wi hy h2) trivial
open Classical in
def qfy {k:Nat} {l:List Int} (hl:l.length<=1000000):ACt 183 [iv k,pI l] (bv (decide (UpC k l))):=by
 by_cases h0:l.length=0
 .have q:¬ (l.length:Int) > 0:=ω
  rw [decide_eq_false (p:=UpC k l) λh=>by have:=h.2; rw [zU ω] at this; cases this];refine ac0 Tryz.func183 Tryz.ntmps183 [.tmp 4] ?_;exact wk1 q trivial
 have q:(l.length:Int) > 0:=ω
 obtain ⟨x,hx⟩:∃ x,l[0]?=some x:=⟨_,zA Oq⟩;obtain ⟨y,hy⟩:∃ x,l[l.length-1]?=some x:=⟨_,zA Oq⟩;have wi:IntKind.i64.wrap ((l.length:Int)-1)=((l.length-1:Nat):Int):=by rw [i64_in ω ω]; omega
 have e:decide (UpC k l)=decide (0<=x/\y=k):=decide_eq_decide.2 ⟨λh=>⟨h.1 x hx,zK.inj (hy.symm.trans h.2)⟩,λh=>⟨λz hz=>by rw [hx] at hz; cases hz; exact h.1,by rw [hy,h.2]⟩⟩;rw [e]
 by_cases h1:0<=x
 case neg =>
  rw [decide_eq_false λh=>h1 h.1];refine ac0 Tryz.func183 Tryz.ntmps183 [.tmp 4] ?_;exact wk1 (x3 q hx h1) trivial
 by_cases h2:y=k
 .have q2:(y == (k:Int))=true:=by simp [h2]
  rw [decide_eq_true ⟨h1,h2⟩];refine ac0 Tryz.func183 Tryz.ntmps183 [.tmp 4] ?_;exact wk1 (x6 q hx h1 wi hy q2) trivial
 .have q2:(y == (k:Int))=false:=by simpa using h2
  rw [decide_eq_false λh=>h2 h.2];refine ac0 Tryz.func183 Tryz.ntmps183 [.tmp 4] ?_;exact wk1 (x6 q hx h1 wi hy q2) trivial
open Classical in
def ql4 {f:LUt} (hb:LUb f) (hn:f.rows.length<=200) (h1:f.ls.length=f.rows.length+1) (h2:f.us.length=f.rows.length+1):ACt 103 [pLU f] (bv (decide (qjn f))):=by
 have q1:∀ (h:Hp) (k:Nat) (col:List Int),q2P h ([iv k,pI col] ++ [.qt none (iv f.rows.length)])=some ([iv k,pI col] ++ [.qt none (iv f.rows.length)],[]):=λh k col=>by
  simp only [uU,List.nil_append]
  try simp -implicitDefEqProofs (disch:=omega) only [go_sem,Nat.reduceEqDiff,Nat.reduceAdd,↓reduceIte]
 have q2:∀ (h:Hp) (k:Nat) (col:List Int),q2P h ([iv k,pI col] ++ [])=some ([iv k,pI col] ++ [],[]):=λh k col=>by
  simp only [List.append_nil]
  try simp -implicitDefEqProofs (disch:=omega) only [go_sem,Nat.reduceEqDiff,Nat.reduceAdd,↓reduceIte]
 have C1:=qcy (G:=LoC f.rows.length) h1 hn hb.li (FnP_f (f:=182) (z:=(f.rows.length:Int))) trivial q1 (λk col hk hc=>qfz hc);have C2:=qcy (G:=UpC) h2 hn hb.ui (qnv (f:=183)) trivial q2 (λk col hk hc=>qfy hc);clear q1 q2;have eT:CmpOk f.rows.length f.ls f.li (LoC f.rows.length)->CmpOk f.rows.length f.us f.ui UpC->decide (qjn f)=true:=λa b=>decide_eq_true ⟨a,b⟩;have eA:¬ CmpOk f.rows.length f.ls f.li (LoC f.rows.length)->decide (qjn f)=false:=λa=>decide_eq_false λh=>a h.1;have eB:¬ CmpOk f.rows.length f.us f.ui UpC->decide (qjn f)=false:=λa=>decide_eq_false λh=>a h.2;unfold pLU;generalize CmpOk f.rows.length f.ls f.li (LoC f.rows.length)=A at *;generalize CmpOk f.rows.length f.us f.ui UpC=B at *;generalize decide (qjn f)=res at *;refine ac0 Tryz.func103 Tryz.ntmps103 [.tmp 2] ?_;refine wk ?_;refine q2k (LeM [] rfl rfl (xs:=[(1,.pt 1 0 0),(3,.qt none (iv f.rows.length))]) (kv:=[]) (bs:=[(1,⟨63,some 8,[.ag [pI f.rows,pI f.cols,pI f.ls,pI f.li,pF f.lv,pI f.us,pI f.ui,pF f.uv]],false⟩)]) (kb:=[]) ?_) ?_
 .try refine Zz ?_
  exact .pq rfl rfl rfl rfl λi hi=>by unfold q04 at hi; cases hi; rfl
 by_cases a:A
 .rw [decide_eq_true a] at C1
  by_cases b:B
  .rw [decide_eq_true b] at C2;rw [eT a b];exact wk trivial
  .rw [decide_eq_false b] at C2;rw [eB b];exact wk trivial
 .rw [decide_eq_false a] at C1;rw [eA a];exact wk trivial

end Go.Proofs.YtbjoghfmhgadkaaGreatDoor
namespace Go.Sp
open Go.E Go.Proofs.YtbjoghfmhgadkaaGreatDoor
def qqN {s:Bool} {m K:Nat}:sgn s m*(2:Int) ^ K=0 ↔ m=0:=by
 constructor
 .intro h
  rcases Int.mul_eq_zero.1 h with h | h
  .have:=q0z s m; rw [h] at this; exact this.symm
  .exact absurd h (Int.ne_of_gt (q0P _))
 .rintro rfl;have:sgn s 0=0:=by unfold sgn; split <;> rfl
  rw [this,yP]
def q6Q {f:Nat} (h:q0L f):ofZ f=0 ↔ q2M f=0:=by
 unfold ofZ ofF q2M;rw [if_neg h];unfold q0L at h
 split
 .rw [uX,qqN]; omega
 .rw [uX,qqN]; omega
def q8a {f:Nat} (h:f < 18446744073709551616):(f=0\/f=9223372036854775808) ↔ q2M f=0:=by
 unfold q2M; omega
end Go.Sp
namespace Go.Proofs.YtbjoghfmhgadkaaGreatDoor
open Go Go.E Go.Sp
def uCol {f:LUt} (h:qjn f) (hb:f.ui.length=f.uv.length) {k:Nat} (hk:k < f.rows.length):∃ b x,f.us[k+1]?=some ((b+1:Nat):Int)/\f.uv[b]?=some x:=by
 obtain ⟨a,b,q1,q2,q3,q4,q5,q6⟩:=h.2.col k hk;have hl:((f.ui.take b).drop a).length=b-a:=by simp; omega
 have:=(zB.1 q6.2).1;obtain ⟨c,rfl⟩:∃ c,b=c+1:=⟨b-1,ω⟩;exact ⟨c,_,q2,zA Oq⟩
open Classical in
def qcz {f:LUt} (hb:LUb f):ACt 42 [pLU f] (iv (qmo f)):=by
 obtain ⟨res,hres⟩:∃ res,res=qmo f:=⟨_,rfl⟩;rw [<- hres];have hrl:=hb.rows;have cP1:=q6W (l:=f.rows) hrl;have cP2:=q6W (l:=f.cols) hrl;have h1':=λh:f.rows.length<=200=>ql4 hb h;have hus:=hb.us;have hil:=hb.lv;have hiu:=hb.uv;have hul:=hb.hl;have huu:=hb.hu;have hUc:=λh hb k hk=>uCol (f:=f) h hb (k:=k) hk;unfold qmo at hres;have cS:=h1';clear h1';generalize hLS:qjn f=LS at *;unfold pLU at cS ⊢;obtain ⟨rows,cols,ls,li,lv,us,ui,uv⟩:=f;clear hb;dsimp only at *;generalize hN:rows.length=n at *;refine ac0 Tryz.func42 Tryz.ntmps42 [.tmp 2] ?_;refine wk1 hN ?_
 by_cases h1:n > 200
 .rw [if_pos h1] at hres;have h1':(n:Int) > 200:=ω
  refine wk1 h1' ?_;exact hres.symm
 have h1':¬ (n:Int) > 200:=ω
 rw [if_neg h1] at hres;refine wk1 h1' ?_
 by_cases h2:q5J rows n
 case neg =>
  rw [if_pos λh=>h2 h.1] at hres;rw [decide_eq_false h2] at cP1;refine wk ?_;exact hres.symm
 rw [decide_eq_true h2] at cP1
 by_cases h3:q5J cols n
 case neg =>
  rw [if_pos λh=>h3 h.2] at hres;rw [decide_eq_false h3] at cP2;refine wk ?_;exact hres.symm
 rw [decide_eq_true h3] at cP2;rw [if_neg (not_not_intro ⟨h2,h3⟩)] at hres;refine wk ?_;have w1:IntKind.i64.wrap ((n:Int)+1)=((n+1:Nat):Int):=by rw [i64_in ω ω]; omega
 by_cases h4:ls.length=n+1
 case neg =>
  have e1:((ls.length:Int) != ((n+1:Nat):Int))=true:=by simp; omega
  rw [if_pos λh=>h4 h.1] at hres;refine wk1 (x2 w1 e1) ?_;exact hres.symm
 have e1:((ls.length:Int) != ((n+1:Nat):Int))=false:=by simp; omega
 by_cases h5:us.length=n+1
 case neg =>
  have e2:((us.length:Int) != ((n+1:Nat):Int))=true:=by simp; omega
  rw [if_pos λh=>h5 h.2.1] at hres;refine wk1 (x3 w1 e1 e2) ?_;exact hres.symm
 have e2:((us.length:Int) != ((n+1:Nat):Int))=false:=by simp; omega
 by_cases h6:li.length=lv.length
 case neg =>
  have e3:((li.length:Int) != (lv.length:Int))=true:=by simp; omega
  rw [if_pos λh=>h6 h.2.2.1] at hres;refine wk1 (x4 w1 e1 e2 e3) ?_;exact hres.symm
 have e3:((li.length:Int) != (lv.length:Int))=false:=by simp; omega
 by_cases h7:ui.length=uv.length
 case neg =>
  have e4:((ui.length:Int) != (uv.length:Int))=true:=by simp; omega
  rw [if_pos λh=>h7 h.2.2.2] at hres;refine wk1 (x5 w1 e1 e2 e3 e4) ?_;exact hres.symm
 have e4:((ui.length:Int) != (uv.length:Int))=false:=by simp; omega
 rw [if_neg (not_not_intro ⟨h4,h5,h6,h7⟩)] at hres;have cS:=cS Oq h4 h5
 by_cases h8:LS
 case neg =>
  rw [if_pos h8] at hres;rw [decide_eq_false h8] at cS;refine wk1 (x5 w1 e1 e2 e3 e4) ?_;exact hres.symm
 rw [if_neg (not_not_intro h8)] at hres;rw [decide_eq_true h8] at cS;have bad:¬ ((∀ x ∈ lv,q0L x)/\(∀ x ∈ uv,q0L x)/\UDg n us uv)->res=4:=λh=>by rw [hres,if_neg h]
 have good:((∀ x ∈ lv,q0L x)/\(∀ x ∈ uv,q0L x)/\UDg n us uv)->res=0:=λh=>by rw [hres,if_pos h]
 subst hLS;have hUc:=hUc h8 h7;clear hres;refine wk1 (x5 w1 e1 e2 e3 e4) ?_;have cL2:ClL [pF lv,pF uv]:=λx hx=>by simp at hx; rcases hx with rfl | rfl <;> trivial
 refine q6q [1,3,69,70,71] Lk ?_;refine q0C (λi=>i<=2/\(0 < i->∀ x ∈ lv,q0L x)/\(1 < i->∀ x ∈ uv,q0L x)) [1,3,69,70] [1,69] Lk Lk (λi:Nat=>[(71,iv i)]) (λ_=>[]) (λi=>2-i) 0 ⟨ω,ω,ω⟩ ?_ ?_
 .refine LeM [] rfl rfl ?_;refine Zz ?_;exact ⟨rfl,q0J rfl cL2⟩
 .rintro i ⟨hi,hf1,hf2⟩
  by_cases hlt:i < 2
  .have hlt':(i:Int) < 2:=ω
   obtain ⟨l,hl,hlu,hll,hlb,hl0,hl1⟩:∃ l:List Nat,[pF lv,pF uv][i]?=some (pF l)/\(∀ x ∈ l,x < 18446744073709551616)/\l.length<=1000000/\((¬ ∀ x ∈ l,q0L x)->res=4)/\(i=0->l=lv)/\(i=1->l=uv):=by
    rcases wN i 1 with h | h
    .obtain rfl:i=0:=ω
     exact ⟨lv,rfl,hul,hil,λhq=>bad λhg=>hq hg.1,λ_=>rfl,λh=>by omega⟩
    .obtain rfl:i=1:=ω
     exact ⟨uv,rfl,huu,hiu,λhq=>bad λhg=>hq hg.2.1,λh=>by omega,λ_=>rfl⟩
   refine wk1 (x2 hlt' hl) ?_;refine q0C (λp=>p<=l.length/\∀ x ∈ l.take p,q0L x) [1,3,69,70,71,75,76] [1,69] Lk Lk (λp:Nat=>[(77,iv p)]) (λ_=>[]) (λp=>l.length-p) 0 ⟨zI _,σ⟩ ?_ ?_
   .refine LeM [] rfl rfl ?_;refine Zz ?_;exact ⟨rfl,q0J rfl cL2⟩
   .rintro p ⟨hp,hf⟩
    by_cases hpl:p < l.length
    .have hpl':(p:Int) < l.length:=ω
     obtain ⟨x,hx⟩:∃ x,l[p]?=some x:=⟨_,zA hpl⟩;have hm:=zF hx;have cF:=q4w (hlu x hm)
     by_cases hfx:q0L x
     case neg =>
      rw [decide_eq_false hfx] at cF;refine wk1 hx ?_;exact (hlb λh=>hfx (h x hm)).symm
     rw [decide_eq_true hfx] at cF;refine wk1 hx ?_;refine ⟨p+1,⟨ω,?_⟩,ω,?_⟩
     .rw [q3z hx];intro y hy
      rcases zJ.1 hy with hy | hy
      .exact hf y hy
      .simp at hy; subst hy; exact hfx
     .refine LeM [] rfl rfl ?_;refine Zz ?_;exact ⟨rfl,q0J rfl cL2⟩
    .obtain rfl:p=l.length:=ω
     rw [zY] at hf;refine wk ?_;refine ⟨i+1,⟨ω,λ_=>?_,λ_=>?_⟩,ω,?_⟩
     .by_cases h0:i=0
      .rw [<- hl0 h0]; exact hf
      .exact hf1 Oq
     .rw [<- hl1 ω]; exact hf
     .refine LeM [] rfl rfl ?_;refine Zz ?_;exact ⟨rfl,q0J rfl cL2⟩
  .obtain rfl:i=2:=ω
   have hf1:=hf1 Oq;have hf2:=hf2 Oq;refine wk ?_;refine q0C (λj=>j<=n/\∀ j',j' < j->∀ (a x:Nat),us[j'+1]?=some ((a+1:Nat):Int)->uv[a]?=some x->ofZ x≠0) [1,3,86] [1] Lk Lk (λi:Nat=>[(87,iv i)]) (λ_=>[]) (λi=>n-i) 0 ⟨zI _,ω⟩ ?_ ?_
   .refine LeM [] rfl rfl ?_;refine Zz ?_
    rfl
   .rintro j ⟨hj,hd⟩
    by_cases hjl:j < n
    .have hjl':(j:Int) < n:=ω
     obtain ⟨b,x,hbk,hx⟩:=hUc j hjl;have hm:=zF hx;have hbl:=(zB.1 hx).1;have wj:IntKind.i64.wrap ((j:Int)+1)=((j+1:Nat):Int):=by rw [i64_in ω ω]; omega
     have wb:IntKind.i64.wrap (((b+1:Nat):Int)-1)=(b:Int):=by rw [i64_in ω ω]; omega
     have cK:=q60 (huu x hm)
     by_cases hz:ofZ x=0
     .have q:(((q2O x:Nat):Int) == 0)=true:=by rw [(q3Q (huu x hm)).2 ((q6Q (hf2 x hm)).1 hz)]; rfl
      refine wk1 (x6 hjl' wj hbk wb hx q) ?_;exact (bad λh=>h.2.2 j hjl b x hbk hx hz).symm
     .have q:(((q2O x:Nat):Int) == 0)=false:=by simpa using λh=>hz ((q6Q (hf2 x hm)).2 ((q3Q (huu x hm)).1 h))
      refine wk1 (x6 hjl' wj hbk wb hx q) ?_;refine ⟨j+1,⟨ω,λj' hj' a' x' ha' hx'=>?_⟩,ω,?_⟩
      .by_cases hjj:j' < j
       .exact hd j' hjj a' x' ha' hx'
       .obtain rfl:j'=j:=ω
        have e:a'=b:=by have:=zK.inj (ha'.symm.trans hbk); omega
        subst e;have e:=zK.inj (hx'.symm.trans hx);subst e;exact hz
      .refine LeM [] rfl rfl ?_;exact Zy
    .have hjl':¬ (j:Int) < n:=ω
     obtain rfl:n=j:=ω
     refine wk1 hjl' ?_;exact (good ⟨hf1,hf2,hd⟩).symm
def qpq (n r len:Nat):Bk:=⟨133,some 5,[.ag [.ow r none 0 len,.ow 6000 none 0 n,.ow 6001 none 0 n,.ow 6002 none 0 n,.ow 6003 none 0 n]],false⟩
def qbs {n r len:Nat}:qpq n r len=⟨133,some 5,[.ag [.ow r none 0 len,.ow 6000 none 0 n,.ow 6001 none 0 n,.ow 6002 none 0 n,.ow 6003 none 0 n]],false⟩:=rfl
attribute [go_sem ↓] qbs
def stT (n:Nat) (S:LuS):Hp:=q2N 24 32 none 6000 10000 n (rU n S.l) (q2N 134 4 none 6001 20000 n (rB n S.iL) (q2N 24 32 none 6002 30000 n (rU n S.u) (q2N 134 4 none 6003 40000 n (rB n S.iU) h0)))
section
variable {n:Nat} {S S':LuS} {rows0:List Nat}
def qi3 {g:Nat->Nat->Nat} {r c v:Nat}:qqW (rU n g) r ((rU n g r).set c (.vl (.int .u64 (v:Nat))))=rU n (q23 g r c v):=by
 funext j
 unfold qqW
 split
 .rename_i h; subst h;unfold rU;rw [qf1];refine zP λy _=>?_;unfold q23;simp
 .rename_i h;refine zP λy _=>?_;unfold q23;rw [if_neg λq=>h q.1]
variable {r c:Nat}
def qel {g:Nat->Nat->Nat} {j:Nat}:ClL (rU n g j):=λx hx=>by
 obtain ⟨_,_,rfl⟩:=zH.1 hx; trivial
def clRB {g:Nat->Nat->Bool} {j:Nat}:ClL (rB n g j):=λx hx=>by
 obtain ⟨_,_,rfl⟩:=zH.1 hx; trivial
def q0h {H:Hp} (h:BOk H win):WfH H:=⟨λi b hb=>⟨(h.b i b hb).2.1,IdL_mono (λj hj=>by
 obtain ⟨c,hc⟩:=zE.1 hj;exact ⟨(h.b j c hc).1,hj⟩) _ (h.b i b hb).2.2⟩⟩
def qpl {i:Nat} (hi:i < 6000):stT n S i=none:=by
 unfold stT;rw [q0W ω ω,q0W ω ω,q0W ω ω,q0W ω ω]
 rfl
def qpk (hn:n<=100):stT n S 6000=some ⟨24,none,(List.range n).map λj=>.ow (j+10000) none 0 n,false⟩:=by
 unfold stT;rw [q2W];simp
def qpg {j:Nat} (hn:n<=100) (hj:j < n):stT n S (j+10000)=some ⟨32,none,rU n S.l j,false⟩:=by
 unfold stT;rw [q2V ω hj]
def qpp {f:Nat->Nat} (hn:n<=100) (hf:∀ j,f j=n):q5W (stT n S) n 10000 none f=some ((List.range n).map λj=>.sl none (rU n S.l j),(List.range n).map (·+10000)):=by
 unfold stT;rw [q5A ω,cO,if_pos λj _=>qel]
 congr 2
 refine zP λj _=>?_;rw [hf j]
 congr 1
 exact q8J
def qpj (hn:n<=100):stT n S 6001=some ⟨134,none,(List.range n).map λj=>.ow (j+20000) none 0 n,false⟩:=by
 unfold stT;rw [q0W ω ω,q2W];simp
def qpf {j:Nat} (hn:n<=100) (hj:j < n):stT n S (j+20000)=some ⟨4,none,rB n S.iL j,false⟩:=by
 unfold stT;rw [q0W ω ω,q2V ω hj]
def qpo {f:Nat->Nat} (hn:n<=100) (hf:∀ j,f j=n):q5W (stT n S) n 20000 none f=some ((List.range n).map λj=>.sl none (rB n S.iL j),(List.range n).map (·+20000)):=by
 unfold stT;rw [q4F ω ω,q5A ω,cO,if_pos λj _=>clRB]
 congr 2
 refine zP λj _=>?_;rw [hf j]
 congr 1
 exact q8J
def qpi (hn:n<=100):stT n S 6002=some ⟨24,none,(List.range n).map λj=>.ow (j+30000) none 0 n,false⟩:=by
 unfold stT;rw [q0W ω ω,q0W ω ω,q2W];simp
def qpe {j:Nat} (hn:n<=100) (hj:j < n):stT n S (j+30000)=some ⟨32,none,rU n S.u j,false⟩:=by
 unfold stT;rw [q0W ω ω,q0W ω ω,q2V ω hj]
def qpn {f:Nat->Nat} (hn:n<=100) (hf:∀ j,f j=n):q5W (stT n S) n 30000 none f=some ((List.range n).map λj=>.sl none (rU n S.u j),(List.range n).map (·+30000)):=by
 unfold stT;rw [q4F ω ω,q4F ω ω,q5A ω,cO,if_pos λj _=>qel]
 congr 2
 refine zP λj _=>?_;rw [hf j]
 congr 1
 exact q8J
def qph (hn:n<=100):stT n S 6003=some ⟨134,none,(List.range n).map λj=>.ow (j+40000) none 0 n,false⟩:=by
 unfold stT;rw [q0W ω ω,q0W ω ω,q0W ω ω,q2W];simp
def qpd {j:Nat} (hn:n<=100) (hj:j < n):stT n S (j+40000)=some ⟨4,none,rB n S.iU j,false⟩:=by
 unfold stT;rw [q0W ω ω,q0W ω ω,q0W ω ω,q2V ω hj]
def qpm {f:Nat->Nat} (hn:n<=100) (hf:∀ j,f j=n):q5W (stT n S) n 40000 none f=some ((List.range n).map λj=>.sl none (rB n S.iU j),(List.range n).map (·+40000)):=by
 unfold stT;rw [q4F ω ω,q4F ω ω,q4F ω ω,q5A ω,cO,if_pos λj _=>clRB]
 congr 2
 refine zP λj _=>?_;rw [hf j]
 congr 1
 exact q8J
def qkb (hn:n<=100):q5W (stT n S) n 10000 none (λ_=>n)=some ((List.range n).map λj=>.sl none (rU n S.l j),(List.range n).map (·+10000)):=qpp hn λ_=>rfl
def qka (hn:n<=100):q5W (stT n S) n 20000 none (λ_=>n)=some ((List.range n).map λj=>.sl none (rB n S.iL j),(List.range n).map (·+20000)):=qpo hn λ_=>rfl
def qk9 (hn:n<=100):q5W (stT n S) n 30000 none (λ_=>n)=some ((List.range n).map λj=>.sl none (rU n S.u j),(List.range n).map (·+30000)):=qpn hn λ_=>rfl
def qk8 (hn:n<=100):q5W (stT n S) n 40000 none (λ_=>n)=some ((List.range n).map λj=>.sl none (rB n S.iU j),(List.range n).map (·+40000)):=qpm hn λ_=>rfl
attribute [go_sem ↓] qpl qpk qpj qpi qph qpg qpf qpe qpd qkb qka qk9 qk8
variable {J:Nat->Prop} {s:Nat->PV} {h:Hp} {xs kv:List (Nat × PV)} {bs:List (Nat × Bk)} {kb:List (Nat × Option Bk)}
end
end Go.Proofs.YtbjoghfmhgadkaaGreatDoor
namespace Go.E
open Go Go.RowKit
end Go.E
namespace Go.Proofs.YtbjoghfmhgadkaaGreatDoor
open Go Go.E Go.Sp
def abZ_0:abZ 0=0:=by
 unfold abZ;rw [(q6Q (f:=0) (by unfold q0L; simp)).2 rfl]; rfl
def qij {v:Nat->Nat}:∀ i,0<=mxZ v i
 | 0=>yW _
 | i+1=>by
  have:=qij (v:=v) i;unfold mxZ
  split
  .unfold abZ; omega
  .exact this
def mxZ_z {v:Nat->Nat} {i:Nat} (h:v i=0):mxZ v (i+1)=mxZ v i:=by
 have:=qij (v:=v) i;rw [mxZ,h,abZ_0,if_neg ω]
section
variable {v:Nat->Nat} {S:LuS} {mi:List Int} {num den:Nat} {w:Int}
def qj5:∀ i:Nat,-1<=bsP v S mi num den w i/\bsP v S mi num den w i < i
 | 0=>by unfold bsP; omega
 | i+1=>by
  have:=qj5 i;unfold bsP
  split
  .omega
  .split <;> omega
def qeN:∀ i:Nat,0<=bsP v S mi num den w i->(bsP v S mi num den w i).toNat ∉ S.rows/\¬ (v (bsP v S mi num den w i).toNat=0\/v (bsP v S mi num den w i).toNat=9223372036854775808)
 | 0,h=>by unfold bsP at h; omega
 | i+1,h=>by
  unfold bsP at h ⊢
  split
  .rename_i h1; rw [if_pos h1] at h; exact qeN i h
  .rename_i h1;rw [if_neg h1] at h
   split
   .rename_i h2;rw [zD];exact ⟨λq=>h1 (.inl q),λq=>h1 (.inr (.inl q))⟩
   .rename_i h2;rw [if_neg h2] at h;exact qeN i h
end
section
variable {F:Nat->Nat->Option Nat} {S:LuS} {n j k num den:Nat}
def q5x {m:Nat} (h:upS F S j k m=none):∀ m',m<=m'->upS F S j k m'=none
 | 0,hc=>by
  obtain rfl:m=0:=ω
  exact h
 | c+1,hc=>by
  by_cases e:m=c+1
  .subst e; exact h
  .rw [upS,q5x h c ω]; rfl
end
end Go.Proofs.YtbjoghfmhgadkaaGreatDoor
namespace Go.E
open Go Go.RowKit
section
variable {J:Nat->Prop} {s:Nat->PV} {h hw hw':Hp} {T1 T2:TypeId} {K:Kd} {N R n:Nat}
mutual
def qnu {p q:Nat->Prop}:∀ x:PV,IdP p x->IdP q x->IdP (λi=>p i/\q i) x
 | .ow _ _ _ _,h1,h2=>by unfold IdP at *; exact ⟨h1,h2⟩
 | .pt _ _ _,h1,h2=>by unfold IdP at *; exact ⟨h1,h2⟩
 | .mp _,h1,h2=>by unfold IdP at *; exact ⟨h1,h2⟩
 | .ag l,h1,h2=>by unfold IdP at *; exact IdL_and l h1 h2
 | .tu l,h1,h2=>by unfold IdP at *; exact IdL_and l h1 h2
 | .un,_,_=>by unfold IdP; trivial
 | .vl _,_,_=>by unfold IdP; trivial
 | .fm _,_,_=>by unfold IdP; trivial
 | .sl _ _,_,_=>by unfold IdP; trivial
 | .qt _ _,_,_=>by unfold IdP; trivial
def IdL_and {p q:Nat->Prop}:∀ l:List PV,IdL p l->IdL q l->IdL (λi=>p i/\q i) l
 | [],_,_=>by unfold IdL; trivial
 | x :: l,h1,h2=>by unfold IdL at *; exact ⟨qnu x h1.1 h2.1,IdL_and l h1.2 h2.2⟩
end
def HId (q:Nat->Prop) (h:Hp):Prop:=∀ i b,h i=some b->IdL q b.xs
def HId_0 {q:Nat->Prop}:HId q h0:=λ_ _ h=>by cases h
def qvh {q:Nat->Prop} {row:Nat->List PV} {B:Hp} (hB:HId q B) (hrow:∀ j,j < n->ClL (row j)) (hq:∀ j,j < n->q (j+R)):HId q (q2N T1 T2 K N R n row B):=λi b hb=>by
 rcases q3L hb with ⟨rfl,rfl⟩ | ⟨h0,h1,h2,rfl⟩ | ⟨h1,h2,h3⟩
 .refine IdL.of λx hx=>?_;obtain ⟨z,hz,rfl⟩:=zH.1 hx;unfold IdP;exact hq z (uO.1 hz)
 .exact IdL.of λx hx=>q07 (hrow (i-R) Oq x hx)
 .exact hB i b h3
def qb1 [NL] {o r:Nat} {l:List PV} {xs kv:List (Nat × PV)} {bs:List (Nat × Bk)} {kb:List (Nat × Option Bk)} (hJ:∀ i,¬ J i) (hcl:ClL l) (f:Nat->Nat) (ho:h o=some ⟨T1,none,((List.range n).map λj=>.ow (j+R) K 0 (f j)) ++ [.ow r K 0 (f n)],false⟩) (hr:h r=some ⟨T2,K,l,false⟩)
  (hq:∀ i,win i->i≠N->h i=hw i) (e0:hw' N=some ⟨T1,none,(List.range (n+1)).map λj=>.ow (j+R) K 0 (f j),false⟩) (e1:hw' (n+R)=some ⟨T2,K,l,false⟩) (e2:∀ i,i≠N->i≠n+R->hw' i=hw i) (e3:∀ j,j < n->hw' (j+R)≠none) (hB:BOk hw win) (hI:HId (λj=>j≠N) hw) (hnr:hw (n+R)=none)
  (h5:o < 5000) (h6:r < 5000) (h7:o≠r) (hN:5000<=N) (hNR:N < R) (hR:R+n < 1000000) (hn:nmW o r (bs.map (·.1) ++ kb.map (·.1)))
  (hh:q6j (tp N (n+R) o r) h (q0x hw' (hpM bs kb)) s xs/\q6j (tp N (n+R) o r) h (q0x hw' (hpM bs kb)) s kv/\q9B (tp N (n+R) o r) h (q0x hw' (hpM bs kb)) bs/\qbM (tp N (n+R) o r) h (q0x hw' (hpM bs kb)) kb):Le J s h (stM xs kv) (q0x hw' (hpM bs kb)):=by
 have tN:tp N (n+R) o r N=some o:=if_pos rfl;have tK:tp N (n+R) o r (n+R)=some r:=by unfold tp; rw [if_neg ω,if_pos rfl]
 have tI:∀ i,i≠N->i≠n+R->tp N (n+R) o r i=some i:=λi a b=>by unfold tp; rw [if_neg a,if_neg b]
 have hl:=λi hi=>qc4 hn i hi;have hex:∀ i,win i->hw' i≠none->∃ b,q0x hw' (hpM bs kb) i=some b:=λi hi hb=>by
  rw [q0Q hi]; exact zE.1 hb
 refine LeT (tp N (n+R) o r) (λi q=>(hJ i q).elim) (λi hi hw=>?_) (λi b hw1 hb=>?_) (λi j k' hi hj ti tj=>?_) hh
 .have:=(hl i hi).1; unfold win at hw; omega
 .by_cases i1:i=N
  .subst i1;rw [e0] at hb; cases hb;unfold LeB;rw [tN];refine ⟨_,ho,rfl,rfl,⟨rfl,rfl⟩,σ,λc u v hx hy=>?_⟩;have hc:c < n+1:=by have:=(zB.1 hy).1; simpa using this
   rw [zQ,zO hc,zX] at hy;cases hy
   by_cases hck:c=n
   .subst hck;rw [zV σ] at hx;simp at hx;subst hx;obtain ⟨b,hbb⟩:=hex (c+R) ⟨ω,ω⟩ (by rw [e1]; exact zG _);exact .ow tK hbb
   .rw [zM (by simp; omega),zQ,zO ω,zX] at hx;cases hx;obtain ⟨b,hbb⟩:=hex (c+R) ⟨ω,ω⟩ (e3 c Oq);exact .ow (tI _ Oq Oq) hbb
  .by_cases i2:i=n+R
   .subst i2;rw [e1] at hb; cases hb;unfold LeB;rw [tK];exact ⟨_,hr,rfl,rfl,⟨rfl,rfl⟩,q0J rfl hcl⟩
   .rw [e2 i i1 i2] at hb;obtain ⟨q1,q2,q3⟩:=hB.b i b hb;unfold LeB;rw [tI i i1 i2];refine ⟨b,(hq i hw1 i1).trans hb,rfl,rfl,⟨q2,q2⟩,LeL_self (λj hj=>?_) _ (IdL_and _ q3 (hI i b hb))⟩;obtain ⟨hj,hjN⟩:=hj;obtain ⟨c,hc⟩:=zE.1 hj;have hjR:j≠n+R:=by rintro rfl; exact hj hnr
    exact ⟨tI j hjN hjR,hex j (hB.b j c hc).1 (by rw [e2 j hjN hjR]; exact hj)⟩
 .have a:∀ i,(win i/\hw' i≠none\/i ∈ bs.map (·.1) ++ kb.map (·.1))->i≠r/\i≠o/\(i < 5000->i≠N/\i≠n+R):=λi hi=>by
   rcases hi with ⟨q,hi⟩ | hi
   .unfold win at q; omega
   .have:=hl i hi; omega
  have a1:=a i hi;have a2:=a j hj;unfold tp at ti tj
  split at ti <;> (try split at ti) <;> split at tj <;> (try split at tj) <;> cases ti <;> cases tj <;> first | omega | rfl | (exfalso; omega)
end
end Go.E
namespace Go.Proofs.YtbjoghfmhgadkaaGreatDoor
open Go Go.E Go.Sp
def fLt (S:LuS) (j i:Nat):Option Nat:=if j < i/\S.iL (S.rows.getD i 0) j=true then some (S.l (S.rows.getD i 0) j) else none
def fUt (S:LuS) (j i:Nat):Option Nat:=if i<=j/\S.iU i j=true then some (S.u i j) else none
def q84 (S:LuS) (cols:List Int) (n:Nat):LUt:=⟨S.rows.map λz:Nat=>(z:Int),cols,(tM (fLt S) n n).1,(tM (fLt S) n n).2.1,(tM (fLt S) n n).2.2,(tM (fUt S) n n).1,(tM (fUt S) n n).2.1,(tM (fUt S) n n).2.2⟩
section
variable {S:LuS} {n:Nat} {cols:List Int}
end
end Go.Proofs.YtbjoghfmhgadkaaGreatDoor
namespace Go.E
open Go Go.RowKit
section
variable {T1 T2:TypeId} {K:Kd} {N R n:Nat} {row:Nat->List PV} {B B':Hp}
def q6z {i:Nat} (h1:i≠N) (h2:i≠n+R):q2N T1 T2 K N R (n+1) row B i=q2N T1 T2 K N R n row B i:=by
 unfold q2N;rw [if_neg h1,if_neg h1]
 by_cases h:R<=i/\i < R+n
 .rw [if_pos h,if_pos ω]
 .rw [if_neg h,if_neg ω]
def qbc {i:Nat} (h:B i=B' i):q2N T1 T2 K N R n row B i=q2N T1 T2 K N R n row B' i:=by
 unfold q2N; rw [h]
end
end Go.E
namespace Go.Proofs.YtbjoghfmhgadkaaGreatDoor
open Go Go.E Go.Sp
section
open Classical
def q2Q:LuS:=⟨[],λ_ _=>0,λ_ _=>false,λ_ _=>0,λ_ _=>false⟩
variable (F:Nat->Nat->Option Nat) (mi:List Int) (n:Nat) (cols:List Int) (num den:Nat)
noncomputable def q0w:Nat->Int × Nat × LuS
 | 0=>(0,0,q2Q)
 | k+1=>if (q0w k).1=0 then ((q2R F mi n (q0w k).2.2 (lfN cols k) k num den).1,if (q2R F mi n (q0w k).2.2 (lfN cols k) k num den).1=9 then k else 0,(q2R F mi n (q0w k).2.2 (lfN cols k) k num den).2) else q0w k
noncomputable def qmN:LUt:=if (q0w F mi n cols num den n).1=0 then q84 (q0w F mi n cols num den n).2.2 cols n else ⟨[],[],[],[],[],[],[],[]⟩
noncomputable def qo5:PV:=.tu [pLU (qmN F mi n cols num den),iv (if (q0w F mi n cols num den n).1=0 then n else (q0w F mi n cols num den n).2.1:Nat),iv (q0w F mi n cols num den n).1]
end
section
variable {F:Nat->Nat->Option Nat} {mi:List Int} {n:Nat} {cols:List Int} {num den:Nat} {S r:LuS} {j k:Nat}
def q3X {g:Nat->Nat->Nat} {r c v:Nat} (h:q4E g) (h1:q0L v) (h2:v < 18446744073709551616):q4E (q23 g r c v):=λx y=>by
 unfold q23
 split
 .exact ⟨h1,h2⟩
 .exact h x y
def qb3:∀ (m:Nat) (q:LuS),q4E S.l->q4E S.u->upS F S j k m=some q->q4E q.l/\q4E q.u/\q.rows=S.rows
 | 0,q,h1,h2,h=>by unfold upS at h; cases h; exact ⟨h1,h2,rfl⟩
 | m+1,q,h1,h2,h=>by
  unfold upS at h;obtain ⟨t,ht,h⟩:=xS.1 h;obtain ⟨q1,q2,q3⟩:=qb3 m t h1 h2 ht
  split at h
  .cases h; exact ⟨q1,q3X q2 (by assumption) q4u,q3⟩
  .cases h
def qiv {z:Nat->Int} {d:Int}:∀ (m:Nat) (q:LuS),q4E S.l->loS S k z d m=some q->q4E q.l/\q.u=S.u/\q.rows=S.rows
 | 0,q,h1,h=>by unfold loS at h; cases h; exact ⟨h1,rfl,rfl⟩
 | m+1,q,h1,h=>by
  unfold loS at h;obtain ⟨t,ht,h⟩:=xS.1 h;obtain ⟨q1,q2,q3⟩:=qiv m t h1 ht
  split at h
  .cases h; exact ⟨q1,q2,q3⟩
  .split at h
   .cases h; exact ⟨q3X q1 (by assumption) qkv,q2,q3⟩
   .cases h
structure LuG (n k:Nat) (S:LuS):Prop where
 l:q4E S.l
 u:q4E S.u
 r:∀ x ∈ S.rows,x < n
 len:S.rows.length=k
def qm9 (h:LuG n k S) (he:q2R F mi n S j k num den=(0,r)):LuG n (k+1) r:=by
 unfold q2R at he
 split at he
 .cases he
 .rename_i q hq;obtain ⟨q1,q2,q3⟩:=qb3 k q h.l h.u hq;unfold qjM at he
  split at he
  .rename_i hfin
   split at he
   .cases he
   .rename_i hneg
    split at he
    .cases he
    .rename_i t ht;obtain ⟨p,hp⟩:∃ p,p=(bsP (rsV F q j k) q mi num den (mxZ (rsV F q j k) n) n).toNat:=⟨_,rfl⟩;have hpn:p < n:=by have:=(qj5 (v:=rsV F q j k) (S:=q) (mi:=mi) (num:=num) (den:=den) (w:=mxZ (rsV F q j k) n) n).2; omega
     rw [<- hp] at ht;have hvl:rsV F q j k p < 18446744073709551616:=by
      unfold rsV
      split
      .omega
      .exact q4u
     obtain ⟨t1,t2,t3⟩:=qiv (S:=pvS q k (rsV F q j k) p) n t q1 ht;cases he;refine ⟨t1,?_,?_,?_⟩
     .rw [t2]; exact q3X q2 (hfin p hpn) hvl
     .rw [t3];intro x hx
      rcases zJ.1 hx with hx | hx
      .exact h.r x (by rw [<- q3]; exact hx)
      .simp at hx; subst hx; exact hpn
     .rw [t3]
      show (q.rows ++ [p]).length=k+1
      rw [z8,q3,h.len]; rfl
  .cases he
def q24:∀ k,(q0w F mi n cols num den k).1=0->LuG n k (q0w F mi n cols num den k).2.2
 | 0,_=>⟨λ_ _=>⟨by unfold q0L; simp [q0w,q2Q],by simp [q0w,q2Q]⟩,λ_ _=>⟨by unfold q0L; simp [q0w,q2Q],by simp [q0w,q2Q]⟩,λx hx=>by simp [q0w,q2Q] at hx,rfl⟩
 | k+1,h=>by
  unfold q0w at h ⊢
  split at h
  .rename_i h0;rw [if_pos h0];have ih:=q24 k h0;exact qm9 ih (Prod.ext h rfl)
  .rename_i h0; exact absurd h h0
def q9w {k:Nat} (h:(q0w F mi n cols num den k).1≠0):∀ k',k<=k'->q0w F mi n cols num den k'=q0w F mi n cols num den k
 | 0,hk=>by
  obtain rfl:k=0:=ω
  rfl
 | k'+1,hk=>by
  by_cases e:k=k'+1
  .subst e; rfl
  .have ih:=q9w h k' Oq;rw [q0w,ih,if_neg h]
def qei (n a b c d:Nat):Hp:=q2N 24 32 none 6000 10000 a (rU n λ_ _=>0) (q2N 134 4 none 6001 20000 b (rB n λ_ _=>false) (q2N 24 32 none 6002 30000 c (rU n λ_ _=>0) (q2N 134 4 none 6003 40000 d (rB n λ_ _=>false) h0)))
variable {a b c d:Nat}
def qk7 {i:Nat} (hi:i < 6000):qei n a b c d i=none:=by
 unfold qei;rw [q0W ω ω,q0W ω ω,q0W ω ω,q0W ω ω]
 rfl
def qk6 (ha:a<=100) (hb:b<=100) (hc:c<=100):qei n a b c d 6000=some ⟨24,none,(List.range a).map λj=>.ow (j+10000) none 0 n,false⟩:=by
 unfold qei; rw [q2W]; simp
def qk5 (ha:a<=100) (hb:b<=100) (hc:c<=100):qei n a b c d 6001=some ⟨134,none,(List.range b).map λj=>.ow (j+20000) none 0 n,false⟩:=by
 unfold qei; rw [q0W ω ω,q2W]; simp
def qk4 (ha:a<=100) (hb:b<=100) (hc:c<=100):qei n a b c d 6002=some ⟨24,none,(List.range c).map λj=>.ow (j+30000) none 0 n,false⟩:=by
 unfold qei; rw [q0W ω ω,q0W ω ω,q2W]; simp
def qk3 (ha:a<=100) (hb:b<=100) (hc:c<=100):qei n a b c d 6003=some ⟨134,none,(List.range d).map λj=>.ow (j+40000) none 0 n,false⟩:=by
 unfold qei; rw [q0W ω ω,q0W ω ω,q0W ω ω,q2W]; simp
def qqc {j:Nat}:List.replicate n (PV.vl (.int .u64 0))=rU n (λ_ _=>0) j:=by
 unfold rU;rw [List.map_const',yA]; rfl
def tnS (o i:Nat):Option Nat:=if i=5000 then some o else if i=5001 then none else some i
def qpO {o i:Nat} (h:i < 5000):tnS o i=some i:=by unfold tnS; rw [if_neg ω,if_neg ω]
def tnS_0 {o:Nat}:tnS o 5000=some o:=rfl
def tnS_1 {o:Nat}:tnS o 5001=none:=rfl
attribute [go_sem ↓] qpO tnS_0 tnS_1
def tnW (i:Nat):Option Nat:=if 5000<=i/\i < 1000000 then none else some i
def qpM {i:Nat} (h:i < 5000):tnW i=some i:=if_neg Oq
def qiG {i:Nat} (h1:5000<=i) (h2:i < 1000000):tnW i=none:=if_pos ⟨h1,h2⟩
attribute [go_sem ↓] qpM qiG
attribute [go_sem ↓] qk7 qk6 qk5 qk4 qk3
end
section
variable {F:Nat->Nat->Option Nat} {n:Nat} {cols:List Int} {num den:Nat}
end
abbrev sD (L:List Int):PV:=.sl (some 4) (L.map λV=>pV V)
abbrev vD (x:Nat):PV:=pV (ofZ x)
def dM (S:LuS) (n m:Nat):List (Int × PV):=cM vD (λi=>if S.iL i m then some (S.l i m) else none) n
def qlP {x y:Nat} (h:ofZ x=0):q1l x y=0:=by
 unfold q1l;rw [h,yP]; rfl
def qfk {x y:Nat} (h:ofZ y=0):q1l x y=0:=by
 unfold q1l;rw [h,Int.mul_zero]; rfl
def qc2:ofZ 0=0:=q03 q4T
section
variable {F:Nat->Nat->Option Nat} {l u:Nat->Nat->Nat} {j k n v:Nat} {S:LuS}
def q97 {i:Nat} {u':Nat->Nat->Nat}:∀ m,(∀ p,p < m->u p k=u' p k)->luL F l u i j k m=luL F l u' i j k m
 | 0,_=>rfl
 | m+1,h=>by rw [luL,luL,q97 m λp hp=>h p ω,h m ω]
def qrh {i m:Nat}:luZ F l (q23 u m k v) i j k (m+1)=luZ F l u i j k m + -(q1l (l i m) v):=by
 unfold luZ;rw [luL,q2X,show q23 u m k v m k=v from if_pos ⟨rfl,rfl⟩,q97 (u':=u) m λp hp=>if_neg ω]
structure TmOk (F:Nat->Nat->Option Nat) (l u:Nat->Nat->Nat) (j k m n:Nat) (g:Nat->Option (List Int)):Prop where
 s:∀ i,i < n->q1Z ((g i).getD [])=luZ F l u i j k m
 c:∀ i,i < n->((g i).getD []).length<=m+1
 b:∀ i,i < n->∀ x ∈ (g i).getD [],bl x.natAbs<=67600
def g0 (F:Nat->Nat->Option Nat) (j:Nat):Nat->Option (List Int):=λi=>(F j i).map λx=>[ofZ x]
def TmOk.zero (hF:∀ i,i < n->q0L ((F j i).getD 0)):TmOk F l u j k 0 n (g0 F j):=by
 refine ⟨λi hi=>?_,λi hi=>?_,λi hi x hx=>?_⟩ <;> unfold g0 at *
 .unfold luZ luL;cases F j i with
  | none=>simp [q1Z,qc2]
  | some x=>rfl
 .cases F j i <;> simp
 .have h:=hF i hi;cases hc:F j i with
  | none=>rw [hc] at hx; cases hx
  | some y =>
   rw [hc] at hx h;simp at hx;subst hx;exact q4C h
def gU (S:LuS) (m v:Nat) (g:Nat->Option (List Int)):Nat->Option (List Int):=λi=>if S.iL i m then some ((g i).getD [] ++ [-(q1l (S.l i m) v)]) else g i
def TmOk.skip {m:Nat} {g:Nat->Option (List Int)} (hT:TmOk F l u j k m n g):TmOk F l (q23 u m k 0) j k (m+1) n g :=
 ⟨λi hi=>by rw [qrh,qfk qc2,hT.s i hi]; omega,λi hi=>by have:=hT.c i hi; omega,hT.b⟩
def TmOk.step {m:Nat} {g:Nat->Option (List Int)} (hT:TmOk F S.l u j k m n g) (hz:∀ i,S.iL i m=false->ofZ (S.l i m)=0) (hl:q4E S.l) (hv:q0L v):TmOk F S.l (q23 u m k v) j k (m+1) n (gU S m v g):=by
 have e:∀ i,(gU S m v g i).getD []=if S.iL i m then (g i).getD [] ++ [-(q1l (S.l i m) v)] else (g i).getD []:=λi=>by
  unfold gU
  split <;> rfl
 refine ⟨λi hi=>?_,λi hi=>?_,λi hi x hx=>?_⟩
 .rw [qrh,e]
  split
  .rw [q2X,hT.s i hi]
  .rename_i h;rw [hT.s i hi,qlP (hz i (by simpa using h))]; omega
 .rw [e];have:=hT.c i hi
  split
  .rw [z8,yL]; omega
  .omega
 .rw [e] at hx
  split at hx
  .rcases zJ.1 hx with hx | hx
   .exact hT.b i hi x hx
   .simp at hx; subst hx;rw [yG];exact (q2d (hl i m).1 hv).2
  .exact hT.b i hi x hx
structure LuI (k:Nat) (S:LuS):Prop where
 z:∀ i m,S.iL i m=false->ofZ (S.l i m)=0
 f:∀ i m,k<=m->S.iL i m=false
 r:S.rows.Nodup
def liL (S:LuS) (n m:Nat):List Nat:=(List.range n).filter λi=>S.iL i m
def liU (S:LuS) (m:Nat):List Nat:=(List.range (m+1)).filter λt=>S.iU t m
abbrev pLn (r v:List Nat):PV:=.ag [pRw r,pF v]
def lnL (S:LuS) (n m:Nat):PV:=pLn (liL S n m) ((liL S n m).map λi=>S.l i m)
def lnU (S:LuS) (m:Nat):PV:=pLn ((liU S m).map λt=>S.rows.getD t 0) ((liU S m).map λt=>S.u t m)
def plI (rows:List Nat) (i:Nat):Int:=if i ∈ rows then (rows.idxOf i:Int) else -1
def plL (rows:List Nat) (n:Nat):List PV:=(List.range n).map λi=>iv (plI rows i)
def qcW {rows:List Nat} {p i:Nat} (hp:p ∉ rows):plI (rows ++ [p]) i=if i=p then (rows.length:Int) else plI rows i:=by
 unfold plI
 by_cases e:i=p
 .subst e;rw [if_pos σ,if_pos rfl,List.idxOf_append,if_neg hp];simp
 .rw [if_neg e]
  by_cases h:i ∈ rows
  .rw [if_pos (yE _ h),if_pos h,List.idxOf_append,if_pos h]
  .rw [if_neg (by simp [h,e]),if_neg h]
def qky {rows:List Nat} {p n:Nat} (hp:p ∉ rows) (hn:p < n):(plL rows n).set p (iv (rows.length:Nat))=plL (rows ++ [p]) n:=by
 unfold plL
 apply xN
 intro i;rw [xO]
 by_cases hi:i < n
 .by_cases e:p=i
  .subst e;rw [if_pos rfl,if_pos (by simpa using hn),zQ,zO hn,zX,qcW hp,if_pos rfl]
  .rw [if_neg e,zQ,zQ,zO hi,zX,zX,qcW hp,if_neg (Ne.symm e)]
 .have h1:((List.range n).map λi=>iv (plI (rows ++ [p]) i))[i]?=none:=zU (by simpa using hi);have h2:((List.range n).map λi=>iv (plI rows i))[i]?=none:=zU (by simpa using hi);rw [h1,h2,if_neg ω]
def qia {rows:List Nat} {i:Nat}:(plI rows i ≥ 0) ↔ i ∈ rows:=by
 unfold plI
 split
 .rename_i h; exact ⟨λ_=>h,λ_=>by omega⟩
 .rename_i h; exact ⟨λh2=>by omega,λh2=>absurd h2 h⟩
noncomputable def loE (S:LuS) (k:Nat) (z:Nat->Int) (d:Int) (m:Nat):LuS:={ S with l:=λa b=>if b=k/\a < m/\a ∉ S.rows then q3k 0 (z a) d else S.l a b,iL:=λa b=>if b=k/\a < m/\a ∉ S.rows then decide (z a≠0) else S.iL a b }
def q9c {z:Nat->Int} {d:Int}:∀ m,(∀ i,i < m->i ∉ S.rows->q0L (q3k 0 (z i) d))->loS S k z d m=some (loE S k z d m)
 | 0,_=>by
  unfold loS loE
  congr 1
  cases S
  congr 1
  .funext a b; rw [if_neg ω]
  .funext a b; rw [if_neg ω]
 | m+1,h=>by
  rw [loS,q9c m λi hi=>h i ω,xB]
  by_cases hm:m ∈ S.rows
  .rw [if_pos hm];unfold loE
   congr 2
   .funext a b
    try dsimp only
    by_cases e:a=m
    .subst e; rw [if_neg ω,if_neg (λq=>q.2.2 hm)]
    .by_cases c:b=k/\a < m/\a ∉ S.rows
     .rw [if_pos c,if_pos ⟨c.1,ω,c.2.2⟩]
     .rw [if_neg c,if_neg λq=>c ⟨q.1,ω,q.2.2⟩]
   .funext a b
    try dsimp only
    by_cases e:a=m
    .subst e; rw [if_neg ω,if_neg (λq=>q.2.2 hm)]
    .by_cases c:b=k/\a < m/\a ∉ S.rows
     .rw [if_pos c,if_pos ⟨c.1,ω,c.2.2⟩]
     .rw [if_neg c,if_neg λq=>c ⟨q.1,ω,q.2.2⟩]
  .rw [if_neg hm,if_pos (h m ω hm)];unfold loE
   congr 2
   .funext a b
    unfold q23
    try dsimp only
    by_cases e:a=m/\b=k
    .rw [if_pos e,if_pos ⟨e.2,ω,by rw [e.1]; exact hm⟩,e.1]
    .rw [if_neg e]
     by_cases c:b=k/\a < m/\a ∉ S.rows
     .rw [if_pos c,if_pos ⟨c.1,ω,c.2.2⟩]
     .rw [if_neg c,if_neg λq=>c ⟨q.1,ω,q.2.2⟩]
   .funext a b
    unfold q8D
    try dsimp only
    by_cases e:a=m/\b=k
    .rw [if_pos e,if_pos ⟨e.2,ω,by rw [e.1]; exact hm⟩,e.1]
    .rw [if_neg e]
     by_cases c:b=k/\a < m/\a ∉ S.rows
     .rw [if_pos c,if_pos ⟨c.1,ω,c.2.2⟩]
     .rw [if_neg c,if_neg λq=>c ⟨q.1,ω,q.2.2⟩]
def qcn {z:Nat->Int} {d:Int} {i:Nat} (h1:i ∉ S.rows) (h2:¬ q0L (q3k 0 (z i) d)):∀ m,i < m->loS S k z d m=none
 | m+1,hm=>by
  by_cases e:i=m
  .subst e;rw [loS];cases loS S k z d i with
   | none=>rfl
   | some q=>rw [xB,if_neg h1,if_neg h2]
  .rw [loS,qcn h1 h2 m ω]; rfl
def opR (rows:List Nat) (z:Nat->Int) (m:Nat):List Nat:=(List.range m).filter λi=>decide (i ∉ rows/\z i≠0)
def qad {rows:List Nat} {z:Nat->Int} {m:Nat}:opR rows z (m+1)=if m ∉ rows/\z m≠0 then opR rows z m ++ [m] else opR rows z m:=by
 unfold opR;rw [x8,List.filter_append]
 by_cases h:m ∉ rows/\z m≠0
 .rw [if_pos h,List.filter_cons,if_pos (by simpa using h)]; rfl
 .rw [if_neg h,List.filter_cons,if_neg (by simpa using h)]; simp
def qc0 {rows:List Nat} {z:Nat->Int} {m:Nat}:(opR rows z m).length<=m:=z6 (List.length_filter_le _ _) σ
def q3r {rows:List Nat} {z:Nat->Int} {m i:Nat}:i ∈ opR rows z m ↔ i < m/\i ∉ rows/\z i≠0:=by
 unfold opR;rw [List.mem_filter,uO,decide_eq_true_eq]
end
section
variable (v:Nat->Nat) (mi:List Int) (num den:Nat) (w:Int) (L:List Nat)
def mxT:Nat->Int
 | 0=>0
 | t+1=>if mxT t < abZ (v (L.getD t 0)) then abZ (v (L.getD t 0)) else mxT t
def bsT:Nat->Int
 | 0 => -1
 | t+1=>if (v (L.getD t 0)=0\/v (L.getD t 0)=9223372036854775808)\/(den:Int)*abZ (v (L.getD t 0)) < num*w then bsT t else if bsT t < 0\/q3A mi (L.getD t 0) < q3A mi (L.getD (bsT t).toNat 0) then (t:Int) else bsT t
end
section
variable {v:Nat->Nat} {mi:List Int} {num den:Nat} {w:Int} {L:List Nat}
def qc7 {x:Nat}:∀ t,t<=L.length->mxT v (L ++ [x]) t=mxT v L t
 | 0,_=>rfl
 | t+1,h=>by
  have e:(L ++ [x]).getD t 0=L.getD t 0:=by rw [zC,zC,zM ω]
  rw [mxT,mxT,qc7 t ω,e]
def q7m:∀ t:Nat,-1<=bsT v mi num den w L t/\bsT v mi num den w L t < t
 | 0=>by unfold bsT; omega
 | t+1=>by
  have:=q7m t;unfold bsT
  split
  .omega
  .split <;> omega
def qeM {x:Nat}:∀ t,t<=L.length->bsT v mi num den w (L ++ [x]) t=bsT v mi num den w L t
 | 0,_=>rfl
 | t+1,h=>by
  have e:∀ c,c < L.length->(L ++ [x]).getD c 0=L.getD c 0:=λc hc=>by rw [zC,zC,zM ω]
  have hr:=q7m (v:=v) (mi:=mi) (num:=num) (den:=den) (w:=w) (L:=L) t;rw [bsT,bsT,qeM t ω,e t ω]
  split
  .rfl
  .by_cases h0:bsT v mi num den w L t < 0
   .rw [if_pos (.inl h0),if_pos (.inl h0)]
   .rw [e _ ω]
def qik {rows:List Nat} {z:Nat->Int} (hv:∀ i,v i=if i ∈ rows then 0 else fR 0 (z i)):∀ m,mxT v (opR rows z m) (opR rows z m).length=mxZ v m
 | 0=>rfl
 | m+1=>by
  rw [qad];have ih:=qik hv m
  by_cases h:m ∉ rows/\z m≠0
  .rw [if_pos h,z8,yL,mxT,mxZ,qc7 _ (zL _),ih,show (opR rows z m ++ [m]).getD (opR rows z m).length 0=m by rw [zC,xE]; rfl]
  .have h0:v m=0:=by
    rw [hv]
    split
    .rfl
    .rename_i hr;have:z m=0:=Classical.byContradiction λhz=>h ⟨hr,hz⟩;rw [this]; exact if_pos rfl
   rw [if_neg h,ih,mxZ_z h0]
def qj4 {S:LuS} {z:Nat->Int} (hv:∀ i,v i=if i ∈ S.rows then 0 else fR 0 (z i)):∀ m,(bsP v S mi num den w m < 0 ↔ bsT v mi num den w (opR S.rows z m) (opR S.rows z m).length < 0)/\(0<=bsT v mi num den w (opR S.rows z m) (opR S.rows z m).length->bsP v S mi num den w m=((opR S.rows z m).getD (bsT v mi num den w (opR S.rows z m) (opR S.rows z m).length).toNat 0:Nat))
 | 0=>⟨Iff.rfl,λh=>by simp [opR,bsT] at h⟩
 | m+1=>by
  obtain ⟨ih1,ih2⟩:=qj4 hv m;have hr:=q7m (v:=v) (mi:=mi) (num:=num) (den:=den) (w:=w) (L:=opR S.rows z m) (opR S.rows z m).length;rw [qad]
  by_cases h:m ∉ S.rows/\z m≠0
  .have eA:∀ c,c < (opR S.rows z m).length->(opR S.rows z m ++ [m]).getD c 0=(opR S.rows z m).getD c 0:=λc hc=>by rw [zC,zC,zM ω]
   have eL:(opR S.rows z m ++ [m]).getD (opR S.rows z m).length 0=m:=by rw [zC,xE]; rfl
   rw [if_pos h,z8,yL,bsT,bsP,qeM _ (zL _),eL]
   by_cases c:(v m=0\/v m=9223372036854775808)\/(den:Int)*abZ (v m) < num*w
   .rw [if_pos (.inr c),if_pos c];refine ⟨ih1,λh2=>?_⟩;rw [ih2 h2,eA _ ω]
   .rw [if_neg (λq=>q.elim h.1 c),if_neg c]
    by_cases h0:bsT v mi num den w (opR S.rows z m) (opR S.rows z m).length < 0
    .rw [if_pos (.inl (ih1.2 h0)),if_pos (.inl h0)];refine ⟨ω,λ_=>?_⟩;rw [zD,eL]
    .have h1:=ih2 Oq;rw [eA _ ω];have h3:¬ bsP v S mi num den w m < 0:=λq=>h0 (ih1.1 q);have e:(bsP v S mi num den w m).toNat=(opR S.rows z m).getD (bsT v mi num den w (opR S.rows z m) (opR S.rows z m).length).toNat 0:=by rw [h1,zD]
     rw [e]
     by_cases c2:q3A mi m < q3A mi ((opR S.rows z m).getD (bsT v mi num den w (opR S.rows z m) (opR S.rows z m).length).toNat 0)
     .rw [if_pos (.inr c2),if_pos (.inr c2)];refine ⟨ω,λ_=>?_⟩;rw [zD,eL]
     .rw [if_neg (λq=>q.elim h3 c2),if_neg (λq=>q.elim h0 c2)];refine ⟨ih1,λh2=>?_⟩;rw [h1,eA _ ω]
  .rw [if_neg h,bsP,if_pos]
   .exact ⟨ih1,ih2⟩
   .by_cases hm:m ∈ S.rows
    .exact .inl hm
    .have:z m=0:=Classical.byContradiction λhz=>h ⟨hm,hz⟩;exact .inr (.inl (.inl (by rw [hv,if_neg hm,this]; exact if_pos rfl)))
end
end Go.Proofs.YtbjoghfmhgadkaaGreatDoor
namespace Go.Sp
open Go.E
def ixF (l:List Nat):Nat->Nat->Int
 | _,0 => -1
 | i,m+1=>if q0L (l.getD i 0) then ixF l (i+1) m else i
def qiz {l:List Nat}:∀ (m i:Nat),0<=ixF l i m ↔ ∃ j,i<=j/\j < i+m/\¬ q0L (l.getD j 0)
 | 0,i=>by unfold ixF; exact ⟨λh=>by omega,λ⟨j,h1,h2,_⟩=>by omega⟩
 | m+1,i=>by
  unfold ixF
  by_cases h:q0L (l.getD i 0)
  .rw [if_pos h,qiz m (i+1)]
   constructor
   .rintro ⟨j,h1,h2,h3⟩; exact ⟨j,ω,ω,h3⟩
   .rintro ⟨j,h1,h2,h3⟩;refine ⟨j,?_,ω,h3⟩
    rcases Nat.eq_or_lt_of_le h1 with e | e
    .subst e; exact absurd h h3
    .omega
  .rw [if_neg h];exact ⟨λ_=>⟨i,zL _,ω,h⟩,λ_=>by omega⟩
def ql6 {l:List Nat}:decide (0<=ixF l 0 l.length)=!decide (∀ x ∈ l,q0L x):=by
 rw [<- decide_not,decide_eq_decide,qiz]
 constructor
 .rintro ⟨j,_,h2,h3⟩ h;have hj:j < l.length:=ω
  rw [zC,zA hj] at h3;exact h3 (h _ (List.getElem_mem hj))
 .intro h;refine Classical.byContradiction λhn=>h λx hx=>?_;obtain ⟨j,hj,rfl⟩:=List.getElem_of_mem hx;refine Classical.byContradiction λhf=>hn ⟨j,zI _,ω,?_⟩;rw [zC,zA hj];exact hf
end Go.Sp
namespace Go.Proofs.YtbjoghfmhgadkaaGreatDoor
open Go Go.E Go.Sp
section
variable {l:List Nat} {f:FuncId}
def pe_fn {s:Nat->PV}:pe s (.func f)=.vl (.func (.func f) #[] #[]):=rfl
attribute [go_sem] pe_fn
def q7X (hf:∀ x:Nat,x < 18446744073709551616->ACt f [uv x] (bv (!decide (q0L x)))) (hu:∀ x ∈ l,x < 18446744073709551616) (hn:l.length<=1000000) :
  ACt 154 [pF l,.vl (.func (.func f) #[] #[])] (iv (ixF l 0 l.length)):=by
 refine ac0 Tryz.func154 Tryz.ntmps154 [.tmp 4] ?_;refine wk ?_;refine q0C (λi=>i<=l.length/\ixF l 0 l.length=ixF l i (l.length-i)) [0,1,7] [] Lk Lk (λi:Nat=>[(8,iv i)]) (λ_=>[]) (λi=>l.length-i) 0 ⟨zI _,rfl⟩ ?_ ?_
 .refine LeM [] rfl rfl ?_;refine Zz ?_
  rfl
 .rintro i ⟨hi,hx⟩
  by_cases hlt:i < l.length
  .obtain ⟨x,hxi⟩:∃ x,l[i]?=some x:=⟨_,zA hlt⟩;have C1:=hf x (hu x (zF hxi));rw [show l.length-i=(l.length-(i+1))+1 by omega,ixF,getD_some hxi] at hx;refine wk1 hxi ?_;refine qbR λK hK=>?_;refine Zz1 hxi ?_;refine q4X qnv ?_;simp only [List.append_nil]
   try refine Zz ?_
   refine q0K C1 ?_
   try refine Zz ?_
   refine hK _ _ ?_; clear hK K
   by_cases h:q0L x
   .rw [if_pos h] at hx;refine wk1 (decide_eq_true h) ?_;refine ⟨i+1,⟨ω,by rw [show l.length-(i+1)=l.length-(i+1) from rfl]; exact hx⟩,ω,?_⟩;refine LeM [] rfl rfl ?_;refine Zz ?_;omega
   .rw [if_neg h] at hx;rw [hx];exact wk1 (decide_eq_false h) trivial
  .obtain rfl:i=l.length:=ω
   rw [xC,ixF] at hx;rw [hx];exact wk trivial
def q4z (hf:∀ x:Nat,x < 18446744073709551616->ACt f [uv x] (bv (!decide (q0L x)))) (hu:∀ x ∈ l,x < 18446744073709551616) (hn:l.length<=1000000) :
  ACt 86 [pF l,.vl (.func (.func f) #[] #[])] (bv (!decide (∀ x ∈ l,q0L x))):=by
 have C1:=q7X hf hu hn;rw [<- ql6];generalize ixF l 0 l.length=z at *;refine ac0 Tryz.func86 Tryz.ntmps86 [.tmp 4] ?_;exact wk trivial
end
def qhZ {a b:Int}:ACt 257 [iv a,iv b] (bv (decide (a < b))):=by
 have C1:∀ x:Int,ACt 229 [iv x] (bv false):=λx=>by
  have q:(x != x)=false:=σ
  refine ac0 Tryz.func229 Tryz.ntmps229 [.tmp 2] ?_;exact wk1 q trivial
 refine ac0 Tryz.func257 Tryz.ntmps257 [.tmp 4] ?_;exact wk trivial
def q8b {l:List Int} (hl:∀ (i:Nat) (x y:Int),l[i]?=some x->l[i+1]?=some y->x<=y) (hn:l.length<=1000000):ACt 221 [pI l] (bv true):=by
 have C1:=@qhZ;refine ac0 Tryz.func221 Tryz.ntmps221 [.tmp 2] ?_;refine wk ?_;refine q0C (λi:Int=>i < l.length /\ -1<=i) [0] [] Lk Lk (λi:Int=>[(3,iv i)]) (λ_=>[]) (λi=>(i+1).toNat) (l.length-1:Int) ⟨ω,ω⟩ ?_ ?_
 .refine LeM [] rfl rfl ?_;exact Zy
 .rintro i ⟨hi,h0⟩
  by_cases hlt:i > 0
  .obtain ⟨k,rfl⟩:∃ k:Nat,i=((k+1:Nat):Int):=⟨(i-1).toNat,ω⟩;obtain ⟨x,hx⟩:∃ x,l[k]?=some x:=⟨_,zA Oq⟩;obtain ⟨y,hy⟩:∃ y,l[k+1]?=some y:=⟨_,zA Oq⟩;have:=hl k x y hx hy;have q:¬ y < x:=ω
   have e:IntKind.i64.wrap (((k+1:Nat):Int)-1)=(k:Int):=by rw [i64_in ω ω]; omega
   refine wk1 (x6 hlt hx hy q e (decide_eq_false q)) ?_;refine ⟨k,⟨ω,ω⟩,ω,?_⟩;refine LeM [] rfl rfl ?_;exact Zy
  .exact wk1 hlt trivial
def qp6 {l:List Int} {a b p:Nat} (h:a+p < b):((l.take b).drop a)[p]?=l[a+p]?:=by
 rw [wM,xK,if_pos h]
def qal (ix:List Int) (a k:Nat):Int:=if k=a then -1 else ix.getD (k-1) 0
def qfp {R C:Nat} {st ix:List Int} {vl:List Nat} (hS:MSz R C ix) (hP:MPt C st ix vl) (hI:MIx R st ix):ACt 152 [q5S R C st ix vl] (bv true):=by
 obtain ⟨z1,z2,z3,z4,z5⟩:=hS;have hnn:=hP.nn;have hub:=hP.ub Oq;obtain ⟨p1,p2,p3,p4,p5⟩:=hP;rw [zD] at p4;have C1:=q8b (l:=st) p5 Oq;have hsl:st.length=C+1:=ω
 have hg:∀ j,j < C->∃ a b:Nat,st[j]?=some (a:Int)/\st[j+1]?=some (b:Int)/\a<=b/\b<=ix.length:=λj hj=>by
  obtain ⟨x,hx⟩:∃ x,st[j]?=some x:=⟨_,zA Oq⟩;obtain ⟨y,hy⟩:∃ y,st[j+1]?=some y:=⟨_,zA Oq⟩;have h1:=hnn j x hx;have h2:=p5 j x y hx hy;have h3:=hub (C-(j+1)) (j+1) y (by rw [zD]; omega) hy;exact ⟨x.toNat,y.toNat,by rw [hx]; congr 1; omega,by rw [hy]; congr 1; omega,ω,ω⟩
 unfold q5S;refine ac0 Tryz.func152 Tryz.ntmps152 [.tmp 2] ?_;refine wk1 (x4 hsl p1 p3 p4) ?_;refine q0C (λj=>j<=C) [1,2,49] [1] Lk Lk (λj:Nat=>[(50,iv j)]) (λ_=>[]) (λj=>C-j) 0 (zI _) ?_ ?_
 .refine LeM [] rfl rfl ?_;refine Zz ?_
  rfl
 .intro j hj
  by_cases hlt:j < C
  .obtain ⟨a,b,g1,g2,g3,g4⟩:=hg j hlt;have es:slP (some 1) (some (iv (a:Int))) (some (iv (b:Int))) (pI ix)=some (pI ((ix.take b).drop a)):=by
    simp [slP,qbC,ksz,List.map_take,List.map_drop];omega
   have hl:((ix.take b).drop a).length=b-a:=by simp; omega
   have wj:(j:Int)+1=((j+1:Nat):Int):=rfl;have ww:IntKind.i64.wrap ((j+1:Nat):Int)=((j+1:Nat):Int):=i64_in Oq Oq;have hsb:=λp (h:a+p < b)=>qp6 (l:=ix) (p:=p) h;generalize (ix.take b).drop a=L at *;refine wk1 (x6 g1 g2 es wj ww hl) ?_;refine q0C (λt=>t<=b-a) [1,2,3,49,50,66,67] [1] Lk Lk (λt:Nat=>[(68,iv t),(4,iv (qal ix a (a+t)))]) (λ_=>[]) (λt=>b-a-t) 0 (zI _) ?_ ?_
   .refine LeM [] rfl rfl ?_;refine Zz ?_;unfold qal;exact ⟨rfl,(if_pos rfl).symm⟩
   .intro t ht
    by_cases hlt2:t < b-a
    .obtain ⟨x,hx⟩:∃ x,ix[a+t]?=some x:=⟨_,zA Oq⟩;obtain ⟨h1,h2,h3⟩:=hI j _ _ g1 g2 (a+t) Oq Oq x hx;have hx2:=(hsb t Oq).trans hx;have hlast:qal ix a (a+t) < x/\qal ix a (a+(t+1))=x:=by
      unfold qal;rw [if_neg (show ¬ a+(t+1)=a by omega),show a+(t+1)-1=a+t by omega,getD_some hx];refine ⟨?_,rfl⟩
      by_cases h0:t=0
      .rw [if_pos ω]; omega
      .obtain ⟨u,hu⟩:∃ u,ix[a+t-1]?=some u:=⟨_,zA Oq⟩;rw [if_neg ω,getD_some hu];exact h3 Oq u hu
     obtain ⟨q1,q2⟩:=hlast;have q3:¬ x<=qal ix a (a+t):=ω
     have q4:¬ (R:Int)<=x:=ω
     refine wk1 (x3 hx2 q3 q4) ?_;refine ⟨t+1,ω,ω,?_⟩;rw [q2];refine LeM [] rfl rfl ?_;refine Zz ?_;omega
    .have hlt3:¬ (t:Int) < ((b-a:Nat):Int):=ω
     refine wk1 hlt3 ?_;refine ⟨j+1,ω,ω,?_⟩;refine LeM [] rfl rfl ?_;refine Zz ?_;omega
  .have hlt':¬ (j:Int) < C:=ω
   exact wk1 hlt' trivial
def qfq {x:Nat} (hx:x < 18446744073709551616):ACt 153 [uv x] (bv (!decide (q0L x))):=by
 have C1:=q4w hx;refine ac0 Tryz.func153 Tryz.ntmps153 [.tmp 2] ?_;exact wk trivial
def qlW {R C:Nat} {st ix:List Int} {vl:List Nat} (h:q5n R C st ix vl=0) (hu:∀ x ∈ vl,x < 18446744073709551616):ACt 85 [q5S R C st ix vl] (iv 0):=by
 unfold q5n at h
 split at h
 .rename_i hS
  split at h
  .rename_i hP
   split at h
   .rename_i hf;have C1:=qfp hS hP.1 hP.2;have hvl:=hP.1.v;obtain ⟨z1,z2,z3,z4,z5⟩:=hS;have C2:=q4z (f:=153) (l:=vl) (λx hx=>qfq hx) hu Oq;rw [decide_eq_true hf] at C2;have C3:∀ n:Nat,n<=200->ACt 151 [iv n,iv 0,iv 200] (bv true):=λn hn=>by
     have q1:(0:Int)<=n:=ω
     have q2:(n:Int)<=200:=ω
     refine ac0 Tryz.func151 Tryz.ntmps151 [.tmp 6] ?_;exact wk1 (x2 q1 q2) trivial
    unfold q5S at *;refine ac0 Tryz.func85 Tryz.ntmps85 [.tmp 2] ?_;exact wk trivial
   .cases h
  .cases h
 .cases h
def qfM {f:Nat->Nat->Option Nat} {R C:Nat} (h:TOk f R C):ACt 85 [pT R C f] (iv 0):=qlW h.chk h.vl.2.2.2
end Go.Proofs.YtbjoghfmhgadkaaGreatDoor
namespace Go.Sp
open Go.E Go.Proofs.YtbjoghfmhgadkaaGreatDoor
def q5f {f:Nat} (h:q0L f):q00 (ofZ f):=by
 have:=q4C h;unfold q00;omega
end Go.Sp
namespace Go.Proofs.YtbjoghfmhgadkaaGreatDoor
open Go Go.E Go.Sp
def q7O {V:Int} (ho:q00 V):Nz (dT V):=λw D B v hB h=>(q6J.2 (qf3 (qoR w D B v hB (qcH (q6J.1 ⟨h,ho⟩))))).1
section
variable {x y:List Nat} {t:Nat}
end
end Go.Proofs.YtbjoghfmhgadkaaGreatDoor
namespace Go.E
open Go Go.RowKit
section
variable {J:Nat->Prop} {s:Nat->PV} {h:Hp} {T1 T2:TypeId} {K:Kd} {N R n:Nat} {row:Nat->List PV}
def tabG (T1 T2:TypeId) (K:Kd) (N R n:Nat) (row:Nat->List PV):Hp:=λi =>
 if i=N then some ⟨T1,none,(List.range n).map λj=>.ow (j+R) K 0 (row j).length,false⟩
 else if R<=i/\i < R+n then some ⟨T2,K,row (i-R),false⟩ else none
def qp1:tabG T1 T2 K N R n row N=some ⟨T1,none,(List.range n).map λj=>.ow (j+R) K 0 (row j).length,false⟩:=if_pos rfl
def qp0 {j:Nat} (hN:N < R) (hj:j < n):tabG T1 T2 K N R n row (j+R)=some ⟨T2,K,row j,false⟩:=by
 unfold tabG;rw [if_neg ω,if_pos ω,yV]
attribute [go_sem ↓] qp1 qp0
def tnG (N R n o:Nat):Nat->Option Nat:=λi=>if i=N then some o else if R<=i/\i < R+n then none else some i
def qpP {o i:Nat} (h1:i < N) (h2:i < R):tnG N R n o i=some i:=by
 unfold tnG;rw [if_neg ω,if_neg ω]
attribute [go_sem ↓] qpP
end
end Go.E
namespace Go.Sp
open Go.E Go.Proofs.YtbjoghfmhgadkaaGreatDoor
def sg (g:Nat->Int):Nat->Int
 | 0=>0
 | n+1=>sg g n+g n
section
variable {f:Nat->Nat->Option Nat} {x:List Nat} {n J r:Nat} {rows:Nat->List Int}
end
end Go.Sp
namespace Go.Proofs.YtbjoghfmhgadkaaGreatDoor
open Go Go.E Go.Sp
section
variable {f:Nat->Nat->Option Nat} {x:List Nat} {n:Nat}
end
end Go.Proofs.YtbjoghfmhgadkaaGreatDoor
namespace Go.E
open Go Go.RowKit
section
variable {T1 T2:TypeId} {K:Kd} {N R n:Nat} {row:Nat->List PV}
end
end Go.E
namespace Go.Proofs.YtbjoghfmhgadkaaGreatDoor
open Go Go.E Go.Sp
section
variable {b:List Nat} {n:Nat} {rows:Nat->List Int}
end
def ofZ_t {f:Nat} (hf:q0L f):bl (ofZ f).natAbs<=66560:=by
 obtain ⟨m,k,h,h1,h2,h3⟩:=q1d hf;rw [q03 h]
 by_cases hm:m=0
 .subst hm; rw [yP]; simp [q0m]
 .rw [q0E,q1X ω]; omega
def qmO {V:Int} {K:Nat} (hK:K=65536) (hV:V≠0) (hf:q0L (fR 0 V)):∃ u r:Nat,K<=u+1074/\u+1075 < 2047+K/\fR 0 V=fin 0 (decide (V < 0)) r ((u:Int)-K)/\ofZ (fR 0 V)=sgn (decide (V < 0)) r*(2:Int) ^ u/\r<=9007199254740992/\(u+1074=K\/4503599627370496<=r)/\2*(V-ofZ (fR 0 V)).natAbs<=2 ^ u:=by
 obtain ⟨u,r,h1,h2,h3,h4,h5⟩:=q6K (mode:=0) (neg:=decide (V < 0)) (N:=V.natAbs) (D:=2 ^ K) (K:=K) Oq (q0F _) Oq;have hx:fR 0 V=fin 0 (decide (V < 0)) r ((u:Int)-K):=by unfold fR; rw [if_neg hV,<- hK,h2]
 rw [yX (2 ^ K) (2 ^ u),q3N (q0F K)] at h3;have hu:u+1075 < 2047+K:=by
  refine Classical.byContradiction λhn=>?_;rw [hx] at hf;unfold fin at hf
  split at hf
  .unfold q5M at hf;rw [if_neg ω,if_pos ω] at hf;exact absurd hf q4S
  .unfold q5M at hf;rw [if_neg ω,if_pos ω] at hf;exact absurd hf q4S
 have h5':u+1074=K\/4503599627370496<=r:=ω
 have hv:ofZ (fR 0 V)=sgn (decide (V < 0)) r*(2:Int) ^ u:=by
  rw [hx] at hf ⊢;exact q03 (q9s hK h1 h4 h5' hf)
 refine ⟨u,r,h1,hu,hx,hv,h4,h5',?_⟩;rw [hv];have e:=qi2 (neg:=decide (V < 0)) (A:=V.natAbs) (B:=2 ^ u) (q0F u);rw [<- h3] at e;have p:=q0V u;rw [<- p]
 by_cases hn:V < 0
 .rw [decide_eq_true hn];simp only [sgn,if_true];have : -(r:Int)*((2 ^ u:Nat):Int) = -((2 ^ u*r:Nat):Int):=by push_cast; rw [wR,yY]
  rw [this];generalize 2 ^ u*r=C at *;generalize 2 ^ u=B at *;omega
 .rw [decide_eq_false hn];simp only [sgn,wL,if_false];have:(r:Int)*((2 ^ u:Nat):Int)=((2 ^ u*r:Nat):Int):=by push_cast; rw [yY]
  rw [this];generalize 2 ^ u*r=C at *;generalize 2 ^ u=B at *;omega
section
variable {A B:Int}
def qbW (hA:q00 A) (hB:q00 B):ACt 114 [dT A,dT B] (.tu [iv (A-B).sign,bv true]):=by
 obtain ⟨x,y,e,C1,hL⟩:=q8F hA hB;obtain ⟨l1,l2⟩:=hL.bl hA hB;have C2:=qbU hA hB;have C3:=@qdG;have h1:=hL.sgn;refine ac0 Tryz.func114 Tryz.ntmps114 [.tmp 4,.tmp 5] ?_;exact wk1 h1 trivial
end
section
variable {r s d:Nat}
end
section
variable {l:List Nat}
end

def q4O (V:Int):q1Z [V]=V:=by have:=q2X [] V; rw [List.nil_append,q3M] at this; omega
section
variable {f:Fac} {z:Nat->Int}
end
def ctV (L:List (Nat × Nat)) (r:Nat):Nat:=((L.find? λe=>e.1 == r).map (·.2)).getD 0
structure ColS (n:Nat) (st ix:List Int) (vs:List Nat) (E:Nat->List (Nat × Nat)):Prop where
 len:ix.length<=1000000
 col:∀ k,k < n->∃ a:Nat,st[k]?=some (a:Int)/\st[k+1]?=some ((a+(E k).length:Nat):Int)/\a+(E k).length<=ix.length/\∀ (t:Nat) (e:Nat × Nat),(E k)[t]?=some e->ix[a+t]?=some (e.1:Int)/\vs[a+t]?=some e.2/\e.1 < n/\q0L e.2/\e.2 < 18446744073709551616
 nd:∀ k,k < n->((E k).map (·.1)).Nodup
 sz:∀ k,k < n->(E k).length<=n
def dnH (n a c:Nat) (gl gu:Nat->Nat->Nat):Hp:=q2N 24 32 none 6000 10000 a (rU n gl) (q2N 24 32 none 6002 30000 c (rU n gu) h0)
def dnD (t:Nat):Nat->Nat->Nat:=λi j=>if i=j/\i < t then 4607182418800017408 else 0
def enS (g:Nat->Nat->Nat) (k:Nat):List (Nat × Nat)->Nat->Nat->Nat
 | []=>g
 | e :: l=>enS (q23 g e.1 k e.2) k l
def dnT (g:Nat->Nat->Nat) (E:Nat->List (Nat × Nat)):Nat->Nat->Nat->Nat
 | 0=>g
 | k+1=>enS (dnT g E k) k (E k)
def q8i {k:Nat} {e:Nat × Nat}:∀ (l:List (Nat × Nat)) (g:Nat->Nat->Nat),enS g k (l ++ [e])=q23 (enS g k l) e.1 k e.2
 | [],_=>rfl
 | _ :: l,_=>q8i l _
def dnD_0 {n:Nat} {t:Nat}:rU n (dnD t) t=rU n (λ_ _=>0) t:=by
 unfold rU dnD;refine zP λc _=>?_;rw [if_neg ω]
def dnD_s {t:Nat}:q23 (dnD t) t t 4607182418800017408=dnD (t+1):=by
 funext i j
 unfold q23 dnD
 by_cases h:i=t/\j=t
 .rw [if_pos h,if_pos ω]
 .rw [if_neg h]
  by_cases h2:i=j/\i < t
  .rw [if_pos h2,if_pos ω]
  .rw [if_neg h2,if_neg ω]
section
variable {n a c:Nat} {gl gu:Nat->Nat->Nat}
def q2l (ha:a<=100) (hc:c<=100):BOk (dnH n a c gl gu) win:=by
 unfold dnH;have w:∀ R j m:Nat,5000<=R->R<=40000->m<=100->j < m->win (j+R):=λR j m h1 h2 h3 h4=>⟨ω,ω⟩;exact qbb (qbb BOk.h0 (λ_ _=>qel) Oq ⟨⟨ω,ω⟩,λj hj=>w _ j _ Oq Oq hc hj⟩) (λ_ _=>qel) Oq ⟨⟨ω,ω⟩,λj hj=>w _ j _ Oq Oq ha hj⟩
def qjI {q:Nat->Prop} (hq:∀ i,10000<=i->q i):HId q (dnH n a c gl gu):=by
 unfold dnH;exact qvh (qvh HId_0 (λ_ _=>qel) λj _=>hq _ Oq) (λ_ _=>qel) λj _=>hq _ Oq
def qsz {i:Nat} (hi:i < 6000):dnH n a c gl gu i=none:=by
 unfold dnH;rw [q0W ω ω,q0W ω ω]
 rfl
def qjH:dnH n a c gl gu 6000=some ⟨24,none,(List.range a).map λj=>.ow (j+10000) none 0 n,false⟩:=by
 unfold dnH; rw [q2W]; simp
def q16 (ha:a<=100):dnH n a c gl gu 6002=some ⟨24,none,(List.range c).map λj=>.ow (j+30000) none 0 n,false⟩:=by
 unfold dnH; rw [q0W ω ω,q2W]; simp
def qdr {j:Nat} (hj:j < a):dnH n a c gl gu (j+10000)=some ⟨32,none,rU n gl j,false⟩:=by
 unfold dnH; rw [q2V ω hj]
def qaC {j:Nat} (ha:a<=100) (hj:j < c):dnH n a c gl gu (j+30000)=some ⟨32,none,rU n gu j,false⟩:=by
 unfold dnH; rw [q0W ω ω,q2V ω hj]
def qtA {r m v:Nat} (hr:r < a):q0R (dnH n a c gl gu) (r+10000) ⟨32,none,(rU n gl r).set m (.vl (.int .u64 (v:Nat))),false⟩=dnH n a c (q23 gl r m v) gu:=by
 unfold dnH;rw [q9K ω hr σ,qi3]
def dnH_u {r m v:Nat} (ha:a<=100) (hr:r < c):q0R (dnH n a c gl gu) (r+30000) ⟨32,none,(rU n gu r).set m (.vl (.int .u64 (v:Nat))),false⟩=dnH n a c gl (q23 gu r m v):=by
 unfold dnH;rw [qfL ω ω,q9K ω hr σ,qi3]
def qsy {i:Nat} {x:Bk} (hb:dnH n 0 0 gl gu i=some x):x.xs=[]:=by
 unfold dnH at hb
 rcases q3L hb with ⟨rfl,rfl⟩ | ⟨_,h1,h2,_⟩ | ⟨_,_,hb⟩
 .rfl
 .omega
 rcases q3L hb with ⟨rfl,rfl⟩ | ⟨_,h1,h2,_⟩ | ⟨_,_,hb⟩
 .rfl
 .omega
 .cases hb
def qtC:q5W (dnH n n n gl gu) n 10000 none (λ_=>n)=some ((List.range n).map λj=>.sl none (rU n gl j),(List.range n).map (·+10000)):=by
 unfold dnH;rw [q5A ω,cO,if_pos λj _=>qel]
 congr 2
 refine zP λj _=>?_
 congr 1
 exact q8J
def qtB (hn:n<=100):q5W (dnH n n n gl gu) n 30000 none (λ_=>n)=some ((List.range n).map λj=>.sl none (rU n gu j),(List.range n).map (·+30000)):=by
 unfold dnH;rw [q4F ω ω,q5A ω,cO,if_pos λj _=>qel]
 congr 2
 refine zP λj _=>?_
 congr 1
 exact q8J
attribute [go_sem ↓] qsz qjH qdr qaC
def qhN {f:LUt} {EL EU:Nat->List (Nat × Nat)} (hr:f.rows.length=n) (hn:n<=100) (hL:ColS n f.ls f.li f.lv EL) (hU:ColS n f.us f.ui f.uv EU):ACt 43 [pLU f] (.tu [tU n (dnT (dnD n) EL n),tU n (dnT (λ_ _=>0) EU n)]):=by
 obtain ⟨ro,co,ls,li,lv,us,ui,vu⟩:=f;unfold pLU;dsimp only at *;refine ac0 Tryz.func43 Tryz.ntmps43 [.tmp 2,.tmp 3] ?_;refine wk1 hr ?_;refine q2k (LeT (hw:=dnH n 0 0 (dnD 0) λ_ _=>0) tnW (λ_ h=>h.elim) (λi hi hw=>?_) (λi b hw hb=>?_) (λi j x hi hj ti tj=>?_) (xs:=[(1,.pt 1 0 0),(4,iv n),(5,.ow 6000 none 0 0),(6,.ow 6002 none 0 0),(7,iv 0)]) (kv:=[]) (bs:=[(1,⟨63,some 8,[.ag [pI ro,pI co,pI ls,pI li,pF lv,pI us,pI ui,pF vu]],false⟩)]) (kb:=[]) ?_) ?_
 .simp at hi;unfold win at hw;omega
 .unfold LeB;rw [qiG hw.1 hw.2];exact qsy hb
 .unfold tnW at ti tj
  split at ti <;> split at tj <;> cases ti <;> cases tj <;> rfl
 .try refine Zz ?_
  exact ⟨_,q16 Oq,rfl⟩
 refine q0l (λt=>t<=n) [1,4] [1] Lk Lk (λt:Nat=>[(5,.ow 6000 none 0 t),(6,.ow 6002 none 0 t),(7,iv t)]) (λ_=>[]) (λt=>dnH n t t (dnD t) λ_ _=>0) (λt=>n-t) 0 (zI _) ?_ ?_
 .refine LeW [] rfl rfl ?_ ?_ (by simp [q2A,q04,win]) ?_
  .exact Ow
  .exact q0h (q2l Oq Oq)
  .try refine Zz ?_
   exact ⟨⟨_,q16 Oq⟩,rfl⟩
 .intro t ht
  by_cases hlt:t < n
  .have hlt':(t:Int) < n:=ω
   have rt:(List.range t ++ [t])[t]?=some t:=σ
   have hset:((rU n (dnD t) t).set t (uv (4607182418800017408:Nat)))=(rU n (dnD t) t).set t (PV.vl (.int .u64 (4607182418800017408:Nat))):=rfl;refine wk1 hlt' ?_;refine q2k (qb1 (T1:=24) (T2:=32) (K:=none) (N:=6000) (R:=10000) (n:=t) (o:=23) (r:=21) (l:=(rU n (dnD t)) t) (hw:=dnH n t t (dnD t) λ_ _=>0) (hw':=dnH n (t+1) t (dnD t) λ_ _=>0) (λ_ h=>h) qel (λ_=>n) ?_ ?_ (λi h1 h2=>?_) qjH (qdr Oq) (λi h1 h2=>q6z h1 h2) (λj hj=>by
    rw [qdr ω];exact zG _) (q2l ω ω) (qjI λi hi=>by omega) ?_ ω ω ω ω ω ω (xs:=[(1,.pt 1 0 0),(4,iv n),(5,.ow 6000 none 0 (t+1)),(6,.ow 6002 none 0 t),(7,iv t)]) (kv:=[]) (bs:=[(1,⟨63,some 8,[.ag [pI ro,pI co,pI ls,pI li,pF lv,pI us,pI ui,pF vu]],false⟩)]) (kb:=[]) (by simp [nmW]) ?_) ?_
   .try simp -implicitDefEqProofs (disch:=omega) only [go_sem,Nat.reduceEqDiff,Nat.reduceAdd,↓reduceIte]
   .try refine Zz ?_
    rw [dnD_0,qqc (j:=t)]
   .obtain ⟨w1,w2⟩:=h1
    repeat rw [q0A ω]
    rw [q0Q ⟨w1,w2⟩]
   .unfold dnH;rw [q0W ω ω,q0W ω ω]
    rfl
   .try refine Zz ?_
    exact ⟨_,q16 Oq⟩
   have h2o:dnH n (t+1) t (dnD t) (λ_ _=>0) 6002=some ⟨24,none,(List.range t).map λj=>.ow (j+30000) none 0 n,false⟩:=q16 Oq;refine wk1 h2o ?_;clear h2o;refine q2k (qb1 (T1:=24) (T2:=32) (K:=none) (N:=6002) (R:=30000) (n:=t) (o:=28) (r:=26) (l:=(rU n λ_ _=>0) t) (hw:=dnH n (t+1) t (dnD t) λ_ _=>0) (hw':=dnH n (t+1) (t+1) (dnD t) λ_ _=>0) (λ_ h=>h) qel (λ_=>n) ?_ ?_ (λi h1 h2=>?_) (q16 Oq) (qaC Oq Oq) (λi h1 h2=>qbc (q6z h1 h2)) (λj hj=>by
    rw [qaC ω ω];exact zG _) (q2l ω ω) (qjI λi hi=>by omega) ?_ ω ω ω ω ω ω (xs:=[(1,.pt 1 0 0),(4,iv n),(5,.ow 6000 none 0 (t+1)),(6,.ow 6002 none 0 (t+1)),(7,iv t)]) (kv:=[]) (bs:=[(1,⟨63,some 8,[.ag [pI ro,pI co,pI ls,pI li,pF lv,pI us,pI ui,pF vu]],false⟩)]) (kb:=[]) (by simp [nmW]) ?_) ?_
   .try simp -implicitDefEqProofs (disch:=omega) only [go_sem,Nat.reduceEqDiff,Nat.reduceAdd,↓reduceIte]
   .try refine Zz ?_
    rw [qqc (j:=t)]
   .obtain ⟨w1,w2⟩:=h1
    repeat rw [q0A ω]
    rw [q0Q ⟨w1,w2⟩]
   .unfold dnH;rw [q0W ω ω,q0W ω ω]
    rfl
   .try refine Zz ?_
    exact ⟨_,q16 Oq⟩
   refine wk1 rt ?_;refine ⟨t+1,ω,ω,?_⟩;refine LeW [] rfl rfl ?_ ?_ (by simp [q2A,q04,win]) ?_
   .exact qnn (qnm q2j) ((qtA ω).trans (by rw [dnD_s]))
   .exact q0h (q2l Oq Oq)
   .try refine Zz ?_
    exact ⟨⟨_,q16 Oq⟩,rfl⟩
  .obtain rfl:n=t:=ω
   have hlt':¬ (n:Int) < n:=ω
   refine wk1 hlt' ?_;obtain ⟨g0,hg0⟩:∃ g,g=dnD n:=⟨_,rfl⟩;rw [<- hg0];clear hg0 ht;refine q0l (λk=>k<=n) [1,4,5,6] [1] Lk Lk (λk:Nat=>[(8,iv k)]) (λ_=>[]) (λk=>dnH n n n (dnT g0 EL k) (dnT (λ_ _=>0) EU k)) (λk=>n-k) 0 (zI _) ?_ ?_
   .refine LeW [] rfl rfl ?_ ?_ (by simp [q2A,q04,win]) ?_
    .exact Ow
    .exact q0h (q2l Oq Oq)
    .try refine Zz ?_
     exact ⟨rfl,_,q16 Oq⟩
   .intro k hk
    by_cases hkn:k < n
    .have hkn':(k:Int) < n:=ω
     have rk:(List.range n)[k]?=some k:=zO hkn;have wj:(k:Int)+1=((k+1:Nat):Int):=rfl;obtain ⟨a,l1,l2,l3,l4⟩:=hL.col k hkn;obtain ⟨c,u1,u2,u3,u4⟩:=hU.col k hkn;have hlb:=hL.len;have hub:=hU.len;have dL:dnT g0 EL (k+1)=enS (dnT g0 EL k) k (EL k):=rfl;have dU:dnT (λ_ _=>0) EU (k+1)=enS (dnT (λ_ _=>0) EU k) k (EU k):=rfl;generalize dnT g0 EL k=gl at *;generalize dnT (λ_ _=>0) EU k=gu at *;generalize EL k=el at *;generalize EU k=eu at *;refine wk1 (x2 hkn' l1) ?_;refine q0l (λt=>t<=el.length) [1,4,5,6,8] [1] Lk Lk (λt:Nat=>[(9,iv (a+t:Nat))]) (λ_=>[]) (λt=>dnH n n n (enS gl k (el.take t)) gu) (λt=>el.length-t) 0 (zI _) ?_ ?_
     .refine LeW [] rfl rfl ?_ ?_ (by simp [q2A,q04,win]) ?_
      .exact Ow
      .exact q0h (q2l Oq Oq)
      .try refine Zz ?_
       exact ⟨_,q16 Oq⟩
     .intro t ht
      by_cases hlt:t < el.length
      .obtain ⟨e,he⟩:∃ e,el[t]?=some e:=⟨_,zA hlt⟩;obtain ⟨y1,y2,y3,y4,y5⟩:=l4 t e he;have hlt':((a+t:Nat):Int) < ((a+el.length:Nat):Int):=ω
       have re:(List.range n)[e.1]?=some e.1:=zO y3;obtain ⟨p,hp⟩:∃ p,p=a+t:=⟨_,rfl⟩;rw [<- hp] at y1 y2 hlt' ⊢;refine wk1 (x6 wj l2 hlt' y1 y2 re) ?_;refine ⟨t+1,ω,ω,?_⟩;rw [List.take_add_one,he,yK,q8i];refine LeW [] rfl rfl ?_ ?_ (by simp [q2A,q04,win]) ?_
       .exact qnn (qnm q2j) (qtA y3)
       .exact q0h (q2l Oq Oq)
       .try refine Zz ?_
        exact ⟨ω,_,q16 Oq⟩
      .obtain rfl:t=el.length:=ω
       obtain ⟨b,hb⟩:∃ b,b=a+el.length:=⟨_,rfl⟩;have hlt':¬ (b:Int) < b:=ω
       rw [zY];rw [<- hb] at l2 ⊢;refine wk1 (x4 wj l2 hlt' u1) ?_;refine q0l (λt=>t<=eu.length) [1,4,5,6,8] [1] Lk Lk (λt:Nat=>[(10,iv (c+t:Nat))]) (λ_=>[]) (λt=>dnH n n n (enS gl k el) (enS gu k (eu.take t))) (λt=>eu.length-t) 0 (zI _) ?_ ?_
       .refine LeW [] rfl rfl ?_ ?_ (by simp [q2A,q04,win]) ?_
        .exact Ow
        .exact q0h (q2l Oq Oq)
        .try refine Zz ?_
         exact ⟨_,q16 Oq⟩
       .intro t ht;have ho2:=q16 (n:=n) (a:=n) (c:=n) (gl:=enS gl k el) (gu:=enS gu k (eu.take t)) Oq
        by_cases hlt:t < eu.length
        .obtain ⟨e,he⟩:∃ e,eu[t]?=some e:=⟨_,zA hlt⟩;obtain ⟨y1,y2,y3,y4,y5⟩:=u4 t e he;have hlt':((c+t:Nat):Int) < ((c+eu.length:Nat):Int):=ω
         have re:(List.range n)[e.1]?=some e.1:=zO y3;have hr2:=qaC (n:=n) (a:=n) (c:=n) (gl:=enS gl k el) (gu:=enS gu k (eu.take t)) (j:=e.1) Oq y3;obtain ⟨p,hp⟩:∃ p,p=c+t:=⟨_,rfl⟩;rw [<- hp] at y1 y2 hlt' ⊢;refine wk1 (x6 wj u2 hlt' y1 y2 (x3 re ho2 hr2)) ?_;refine ⟨t+1,ω,ω,?_⟩;rw [List.take_add_one,he,yK,q8i];refine LeW [] rfl rfl ?_ ?_ (by simp [q2A,q04,win]) ?_
         .exact qnn (qnm q2j) (dnH_u Oq y3)
         .exact q0h (q2l Oq Oq)
         .try refine Zz ?_
          exact ⟨ω,_,q16 Oq⟩
        .obtain rfl:t=eu.length:=ω
         obtain ⟨d,hd⟩:∃ d,d=c+eu.length:=⟨_,rfl⟩;have hlt':¬ (d:Int) < d:=ω
         rw [zY] at ho2 ⊢;rw [<- hd] at u2 ⊢;refine wk1 (x3 wj u2 hlt') ?_;refine ⟨k+1,ω,ω,?_⟩;rw [dL,dU];refine LeW [] rfl rfl ?_ ?_ (by simp [q2A,q04,win]) ?_
         .exact Ow
         .exact q0h (q2l Oq Oq)
         .try refine Zz ?_
          exact ⟨_,q16 Oq⟩
    .obtain rfl:n=k:=ω
     have hlt':¬ (n:Int) < n:=ω
     generalize dnT g0 EL n=gl at *;generalize dnT (λ_ _=>0) EU n=gu at *;have ho2:=q16 (n:=n) (a:=n) (c:=n) (gl:=gl) (gu:=gu) Oq;have hc2:=qtB (gl:=gl) (gu:=gu) hn;have hc0:=qtC (n:=n) (gl:=gl) (gu:=gu);exact wk1 (x4 hlt' hc0 ho2 hc2) trivial
end
def qay (st ix:List Int) (vs:List Nat) (k:Nat):List (Nat × Nat):=(List.range ((st.getD (k+1) 0).toNat-(st.getD k 0).toNat)).map λt=>((ix.getD ((st.getD k 0).toNat+t) 0).toNat,vs.getD ((st.getD k 0).toNat+t) 0)
def q6n {l:List Int} (h:qep l):∀ (d i:Nat) (x y:Int),l[i]?=some x->l[i+d+1]?=some y->x < y
 | 0,i,x,y,hx,hy=>h i x y hx hy
 | d+1,i,x,y,hx,hy=>by
  obtain ⟨z,hz⟩:∃ z,l[i+d+1]?=some z:=⟨_,zA (by have:=(zB.1 hy).1; omega)⟩;have h1:=q6n h d i x z hx hz;have h2:=h (i+d+1) z y hz hy;omega
def q6o {l:List Int} (h:qep l) {lo:Int} (h0:∀ z,l[0]?=some z->lo<=z):∀ (t:Nat) (z:Int),l[t]?=some z->lo+t<=z
 | 0,z,hz=>by have:=h0 z hz; omega
 | t+1,z,hz=>by
  obtain ⟨y,hy⟩:∃ y,l[t]?=some y:=⟨_,zA (by have:=(zB.1 hz).1; omega)⟩;have h1:=q6o h h0 t y hy;have h2:=h t y z hy hz;omega
def qoA {l:List Int} (h:qep l) {t:Nat} {z y:Int} (hz:l[t]?=some z) (hy:l[l.length-1]?=some y):z<=y:=by
 have ht:=(zB.1 hz).1
 by_cases e:t=l.length-1
 .rw [e,hy] at hz; cases hz; exact yW _
 .exact Int.le_of_lt (q6n h (l.length-1-t-1) t z y hz (by rw [<- hy]; congr 1; omega))
section
variable {n:Nat} {st ix:List Int} {vs:List Nat} {G:Nat->List Int->Prop}
def q2s {ix:List Int} {a b t:Nat} (ht:a+t < b):((ix.take b).drop a)[t]?=ix[a+t]?:=by
 rw [wM,xK,if_pos ht]
def q4Y {a b k:Nat} (h1:st[k]?=some (a:Int)) (h2:st[k+1]?=some (b:Int)):qay st ix vs k=(List.range (b-a)).map λt=>((ix.getD (a+t) 0).toNat,vs.getD (a+t) 0):=by
 unfold qay;rw [getD_some h1,getD_some h2,zD,zD]
def qdz (h:CmpOk n st ix G) (hl:ix.length=vs.length) (hf:∀ x ∈ vs,q0L x) (hu:∀ x ∈ vs,x < 18446744073709551616) (hix:ix.length<=1000000) (hG:∀ k l,k < n->qep l->G k l->(∀ z,l[0]?=some z->0<=z)/\∀ z,l[l.length-1]?=some z->z < n):ColS n st ix vs (qay st ix vs):=by
 refine ⟨hix,λk hk=>?_,λk hk=>?_,λk hk=>?_⟩
 all_goals
  obtain ⟨a,b,h1,h2,h3,h4,h5,h6⟩:=h.col k hk;obtain ⟨g1,g2⟩:=hG k _ hk h5 h6;rw [q4Y h1 h2];have hll:((ix.take b).drop a).length=b-a:=by rw [xA,yO]; omega
  have hb:∀ t,t < b-a->∃ z:Nat,ix[a+t]?=some (z:Int)/\t<=z/\z < n:=λt ht=>by
   obtain ⟨z,hz⟩:∃ z,ix[a+t]?=some z:=⟨_,zA Oq⟩;have hz2:=(q2s (ix:=ix) (a:=a) (b:=b) (t:=t) Oq).trans hz;have q1:=q6o h5 g1 t z hz2;obtain ⟨y,hy⟩:∃ y,((ix.take b).drop a)[((ix.take b).drop a).length-1]?=some y:=⟨_,zA Oq⟩;have q2:=qoA h5 hz2 hy;have q3:=g2 y hy;exact ⟨z.toNat,by rw [Int.toNat_of_nonneg ω]; exact hz,ω,ω⟩
 .refine ⟨a,h1,?_,?_,λt e he=>?_⟩
  .rw [h2,yC,yA]; congr 1; omega
  .rw [yC,yA]; omega
  .have ht:t < b-a:=by have:=(zB.1 he).1; simpa using this
   rw [zQ,zO ht,zX] at he;cases he;obtain ⟨z,z1,z2,z3⟩:=hb t ht;obtain ⟨v,hv⟩:∃ v,vs[a+t]?=some v:=⟨_,zA Oq⟩;simp only [getD_some z1,getD_some hv,zD];exact ⟨z1,hv,z3,hf v (zF hv),hu v (zF hv)⟩
 .rw [List.map_map];unfold List.Nodup;rw [yR];intro i j hi hj hij;simp at hi hj;obtain ⟨z,z1,_⟩:=hb i hi;obtain ⟨y,y1,_⟩:=hb j hj;simp only [List.getElem_map,List.getElem_range,Function.comp_apply,getD_some z1,getD_some y1,zD];have:=q6n h5 (j-i-1) i z y ((q2s ω).trans z1) ((q2s ω).trans (by rw [<- y1]; congr 1; omega));omega
 .rw [yC,yA]
  by_cases e:b-a=0
  .omega
  .obtain ⟨z,z1,z2,z3⟩:=hb (b-a-1) Oq;omega
end
def qm1 {L:List (Nat × Nat)} {t:Nat} {e:Nat × Nat} (h:(L.map (·.1)).Nodup) (he:L[t]?=some e):ctV L e.1=e.2:=by
 induction L generalizing t with
 | nil=>simp at he
 | cons d L ih =>
  rw [zR,x7] at h;cases t with
  | zero =>
   rw [List.getElem?_cons_zero] at he;cases he;unfold ctV;rw [yS,show (e.1 == e.1)=true by simp]; rfl
  | succ t =>
   rw [List.getElem?_cons_succ] at he;have hne:d.1≠e.1:=λq=>h.1 (by rw [q]; exact wJ (zF he));unfold ctV;rw [yS,show (d.1 == e.1)=false by simpa using hne];exact ih h.2 he
def qdl {k:Nat}:∀ (l:List (Nat × Nat)) (g:Nat->Nat->Nat) (i j:Nat),(l.map (·.1)).Nodup->enS g k l i j=if j=k then ((l.find? λe=>e.1 == i).map (·.2)).getD (g i j) else g i j
 | [],g,i,j,_=>by unfold enS; simp
 | e :: l,g,i,j,h=>by
  rw [zR,x7] at h;rw [enS,qdl l _ i j h.2]
  by_cases hj:j=k
  .rw [if_pos hj,if_pos hj,yS]
   by_cases he:e.1=i
   .have h0:(l.find? λe=>e.1 == i)=none:=wK.2 λd hd hq=>h.1 (by rw [he,<- (by simpa using hq:d.1=i)]; exact wJ hd);rw [h0,show (e.1 == i)=true by simpa using he];simp [q23,hj,he]
   .rw [show (e.1 == i)=false by simpa using he];simp only [q23];rw [if_neg λq=>he q.1.symm]
  .rw [if_neg hj,if_neg hj];unfold q23;rw [if_neg λq=>hj q.2]
def q62 {g:Nat->Nat->Nat} {E:Nat->List (Nat × Nat)}:∀ (m i j:Nat),(∀ k,k < m->((E k).map (·.1)).Nodup)->dnT g E m i j=if j < m then (((E j).find? λe=>e.1 == i).map (·.2)).getD (g i j) else g i j
 | 0,i,j,_=>by rw [dnT,if_neg ω]
 | m+1,i,j,h=>by
  rw [dnT,qdl _ _ _ _ (h m ω),q62 m i j λk hk=>h k ω]
  by_cases hj:j=m
  .subst hj;rw [if_pos rfl,if_neg ω,if_pos ω]
  .rw [if_neg hj]
   by_cases h2:j < m
   .rw [if_pos h2,if_pos ω]
   .rw [if_neg h2,if_neg ω]
def dnL_v {n:Nat} {E:Nat->List (Nat × Nat)} (h:∀ k,k < n->((E k).map (·.1)).Nodup) {i j:Nat} (hj:j < n) (hij:j < i):dnT (dnD n) E n i j=ctV (E j) i:=by
 rw [q62 n i j h,if_pos hj];unfold ctV dnD;rw [if_neg ω]
def dnU_v {n:Nat} {E:Nat->List (Nat × Nat)} (h:∀ k,k < n->((E k).map (·.1)).Nodup) {i j:Nat} (hj:j < n):dnT (λ_ _=>0) E n i j=ctV (E j) i:=by
 rw [q62 n i j h,if_pos hj]
 rfl
structure LUok (f:LUt) (n:Nat):Prop where
 b:LUb f
 rl:f.rows.length=n
 n2:n<=200
 rp:q5J f.rows n
 cp:q5J f.cols n
 sl:f.ls.length=n+1
 su:f.us.length=n+1
 L:ColS n f.ls f.li f.lv (qay f.ls f.li f.lv)
 U:ColS n f.us f.ui f.uv (qay f.us f.ui f.uv)
 gt:∀ k,k < n->∀ e ∈ qay f.ls f.li f.lv k,k < e.1
 le:∀ k,k < n->∀ e ∈ qay f.us f.ui f.uv k,e.1<=k
 dg:∀ k,k < n->∃ m x,qay f.us f.ui f.uv k=m ++ [(k,x)]/\ofZ x≠0/\∀ e ∈ m,e.1 < k
def qnt {f:LUt} (hb:LUb f) (h:qmo f=0):LUok f f.rows.length:=by
 unfold qmo at h
 split at h
 .cases h
 split at h
 .cases h
 rename_i hn hp
 split at h
 .cases h
 rename_i hls
 split at h
 .cases h
 rename_i hst
 split at h
 .rename_i hf;obtain ⟨f1,f2,f3⟩:=hf;have hp:=Classical.not_not.1 hp;obtain ⟨s1,s2,s3,s4⟩:=Classical.not_not.1 hls;have hst:=Classical.not_not.1 hst;obtain ⟨c1,c2⟩:=hst;have L:=qdz (vs:=f.lv) c1 s3 f1 hb.hl hb.li λk l hk ha hg=>⟨λz hz=>by have:=hg.1 z hz; omega,hg.2⟩;have U:=qdz (vs:=f.uv) c2 s4 f2 hb.hu hb.ui λk l hk ha hg=>⟨hg.1,λz hz=>by have:=hg.2.symm.trans hz; cases this; omega⟩;have hgt:∀ k,k < f.rows.length->∀ e ∈ qay f.ls f.li f.lv k,k < e.1:=λk hk e he=>by
   obtain ⟨a,b,h1,h2,h3,h4,h5,h6⟩:=c1.col k hk;rw [q4Y h1 h2] at he;obtain ⟨t,ht,rfl⟩:=zH.1 he;have ht:=uO.1 ht;obtain ⟨z,hz⟩:∃ z,f.li[a+t]?=some z:=⟨_,zA Oq⟩;have:=q6o h5 (lo:=(k:Int)+1) (λz hz=>by have:=h6.1 z hz; omega) t z ((q2s Oq).trans hz);simp only [getD_some hz];omega
  have hU:∀ k,k < f.rows.length->∃ m x,qay f.us f.ui f.uv k=m ++ [(k,x)]/\ofZ x≠0/\∀ e ∈ m,e.1 < k:=λk hk=>by
   obtain ⟨a,b,h1,h2,h3,h4,h5,h6⟩:=c2.col k hk;have hll:((f.ui.take b).drop a).length=b-a:=by rw [xA,yO]; omega
   have hlast:=h6.2;have hab:a < b:=by
    rcases wN a b with q | q
    .exact q
    .rw [zU ω] at hlast; cases hlast
   rw [hll,q2s ω] at hlast;obtain ⟨x,hx⟩:∃ x,f.uv[b-1]?=some x:=⟨_,zA Oq⟩;rw [show a+(b-a-1)=b-1 by omega] at hlast;refine ⟨(List.range (b-a-1)).map λt=>((f.ui.getD (a+t) 0).toNat,f.uv.getD (a+t) 0),x,?_,f3 k hk (b-1) x (by rw [h2]; congr 1; omega) hx,λe he=>?_⟩
   .rw [q4Y h1 h2,show b-a=(b-a-1)+1 by omega,x8,z7,List.map_singleton,show a+(b-a-1)=b-1 by omega,getD_some hlast,getD_some hx,zD]
    rfl
   .obtain ⟨t,ht,rfl⟩:=zH.1 he;have ht:=uO.1 ht;obtain ⟨z,hz⟩:∃ z,f.ui[a+t]?=some z:=⟨_,zA Oq⟩;have hz2:=(q2s (ix:=f.ui) (a:=a) (b:=b) (t:=t) Oq).trans hz;have q1:=q6o h5 h6.1 t z hz2;have q2:=q6n h5 (b-a-1-t-1) t z k hz2 ((q2s ω).trans (by rw [<- hlast]; congr 1; omega));simp only [getD_some hz];omega
  refine ⟨hb,rfl,ω,hp.1,hp.2,s1,s2,L,U,hgt,λk hk e he=>?_,hU⟩;obtain ⟨m,x,m1,m2,m3⟩:=hU k hk;rw [m1] at he
  rcases zJ.1 he with he | he
  .exact xU (m3 e he)
  .rw [xI.1 he]; exact zL _
 .cases h
section
variable {D:Nat->Nat->Nat} {E:Nat->List (Nat × Nat)} {n k:Nat} {ys:List Nat} {rows:Nat->List Int}
end
section
variable {n k v:Nat} {ys:List Nat}
end








section
variable {F:Nat->Nat->Option Nat} {l:List Int} {cs:List Nat} {cols:List (List Nat)} {j n M:Nat} {p:LSt}
end


section
variable {l:List Nat} {o:List Int} {n:Nat}
end
section
variable {n k z:Nat} {rows:Nat->List Int} {l:List PV}
end
section
variable {f:Nat->Nat->Option Nat} {x:List (Nat × Nat)} {b:List Nat} {R C J:Nat} {rows:Nat->List Int}
end
section
variable {f:Nat->Nat->Option Nat} {x:List (Nat × Nat)} {b:List Nat} {R C r:Nat}
end
end Go.Proofs.YtbjoghfmhgadkaaGreatDoor
namespace Go.E
open Go Go.RowKit
end Go.E
namespace Go.Proofs.YtbjoghfmhgadkaaGreatDoor
open Go Go.E Go.Sp

def rgL (G:Nat->Nat->Option Nat) (i:Nat):Nat->List Int
 | 0=>[q8B]
 | k+1=>if k=i then rgL G i k else rgL G i k ++ [((ofZ ((G k i).getD 0)).natAbs:Int),((ofZ ((G i k).getD 0)).natAbs:Int)]
def rgF (G:Nat->Nat->Option Nat) (n j i:Nat):Option Nat:=if i=j then some (fR 2 (q1Z (rgL G i n))) else G j i
def qcF {G:Nat->Nat->Option Nat} {n i:Nat} (h:TOk G n n) (hi:i < n):∀ k,k<=n->(rgL G i k).length<=2*k+1/\∀ x ∈ rgL G i k,bl x.natAbs<=67600
 | 0,_=>⟨zL _,λx hx=>by unfold rgL at hx; simp at hx; subst hx; exact q4g.2⟩
 | k+1,hk=>by
  obtain ⟨h1,h2⟩:=qcF h hi k Oq;unfold rgL
  split
  .exact ⟨ω,h2⟩
  .refine ⟨by simp; omega,λx hx=>?_⟩
   rcases zJ.1 hx with hx | hx
   .exact h2 x hx
   .simp at hx
    rcases hx with rfl | rfl <;> rw [yB]
    .exact q4C (h.fin Oq Oq).1
    .exact q4C (h.fin Oq Oq).1
def qa8 {raw:List Nat} {st:Int} {n:Nat} (hr:raw.length<=9223372036854775807) (hn:n<=100) (h3 : -9223372036854775808<=st) (h4:st<=9223372036854775807) :
  ACt 40 [pF raw,iv n,iv st] (pT n n (rgF (gF raw n (q09 (q09 st 3:Nat) 4)) n)):=by
 have hs3:q09 st 3 < 3:=by unfold q09; omega
 have hnn:n*n<=100*100:=yZ hn hn;have cM:=q4h (a:=st) (n:=3) h3 h4 Oq Oq;have cG:=q4s (raw:=raw) (st:=(q09 st 3:Nat)) (R:=n) (C:=n) hr Oq Oq Oq Oq;have hG:=qlp (raw:=raw) (R:=n) (C:=n) (st:=q09 (q09 st 3:Nat) 4) Oq Oq Oq;generalize gF raw n (q09 (q09 st 3:Nat) 4)=G at *;have cA:∀ {i j:Nat},i < n->j < n->_:=λ{i j} hi hj=>qiN (i:=i) (j:=j) hG hi hj;have cS:∀ {i j:Nat},i < n->j < n->_:=λ{i j} hi hj=>qa3 (i:=i) (j:=j) hG hi hj;generalize hFn:rgF G n=F;have hpt:pT n n F=pM n n (tM F n n):=rfl;have hpG:pT n n G=q5S n n (tM G n n).1 (tM G n n).2.1 (tM G n n).2.2:=rfl;rw [hpG] at cG;simp only [hpG] at cA cS;rw [hpt];clear hpG hpt;unfold q5S at cG cA cS;generalize (tM G n n).1=gs at *;generalize (tM G n n).2.1=gi at *;generalize (tM G n n).2.2=gv at *;have c1:=q4d (z:=1) Oq Oq q4g.1;refine ac0 Tryz.func40 Tryz.ntmps40 [.cell 6 26] ?_;refine wk ?_;refine q0C (λj=>j<=n) [1,6,7,8] [6,7] Lk Lk (λj:Nat=>[(9,iv j)]) (λj=>[(8,⟨26,some 5,[.ag [iv n,iv n,.ow 1001 none 0 (tM F n j).1.length,.ow 1002 none 0 (tM F n j).2.1.length,.ow 1003 none 0 (tM F n j).2.2.length]],false⟩),(1001,⟨3,none,(tM F n j).1.map λz=>iv z,false⟩),(1002,⟨3,none,(tM F n j).2.1.map λz=>iv z,false⟩),(1003,⟨32,none,(tM F n j).2.2.map λz:Nat=>uv z,false⟩)]) (λj=>n-j) 0 (zI _) ?_ ?_
 .refine LeM [(1001,some 21),(1002,none),(1003,none)] rfl rfl ?_;refine Zz ?_;exact ⟨rfl,⟨rfl,rfl,rfl⟩,rfl,rfl,rfl⟩
 .intro j hj;have hg:=q0p (f:=F) (R:=n) j;have hjn:j*n<=100*100:=yZ Oq hn;refine wk ?_
  by_cases hlt:j < n
  .have hlt':(j:Int) < n:=ω
   refine wk1 hlt' ?_;have hM1:(tM F n (j+1)).1=(tM F n j).1 ++ [((tC F j (tM F n j).2 n).1.length:Int)]:=rfl;have hM2:(tM F n (j+1)).2=tC F j (tM F n j).2 n:=rfl;generalize (tM F n j).1=ms at *;generalize (tM F n j).2=mp at *;refine q0C (λi=>i<=n) [1,6,7,8,9] [6,7,1001] Lk Lk (λi:Nat=>[(10,iv i)]) (λi=>[(8,⟨26,some 5,[.ag [iv n,iv n,.ow 1001 none 0 ms.length,.ow 1002 none 0 (tC F j mp i).1.length,.ow 1003 none 0 (tC F j mp i).2.length]],false⟩),(1002,⟨3,none,(tC F j mp i).1.map λz=>iv z,false⟩),(1003,⟨32,none,(tC F j mp i).2.map λz:Nat=>uv z,false⟩)]) (λi=>n-i) 0 (zI _) ?_ ?_
   .refine LeM [] rfl rfl ?_;refine Zz ?_;exact ⟨rfl,⟨rfl,rfl⟩,rfl,rfl⟩
   .intro i hi;have hq:=qbk (f:=F) (j:=j) hg.2.1 i;refine wk ?_
    by_cases hlt2:i < n
    .have hlt2':(i:Int) < n:=ω
     refine wk1 hlt2' ?_
     by_cases hij:i=j
     .have e1:((i:Int) == (j:Int))=true:=by simp; omega
      have hF:F j i=some (fR 2 (q1Z (rgL G i n))):=by rw [<- hFn]; unfold rgF; rw [if_pos hij]
      obtain ⟨z,hz⟩:∃ z,z=fR 2 (q1Z (rgL G i n)):=⟨_,rfl⟩;rw [<- hz] at hF;have eg:=qkW (p:=mp) hF;refine wk1 e1 ?_;refine q0C (λk=>k<=n) [1,6,7,8,9,10] [6,7,8,1001,1002,1003] Lk Lk (λk:Nat=>[(12,iv k),(11,.ow 1004 (some 4) 0 (rgL G i k).length)]) (λk=>[(1004,⟨46,some 4,(rgL G i k).map λV=>pV V,false⟩)]) (λk=>n-k) 0 (zI _) ?_ ?_
      .refine LeM [(1004,some 37)] rfl rfl ?_;refine Zz ?_;exact ⟨⟨rfl,rfl⟩,q0J rfl clV⟩
      .intro k hk;obtain ⟨d1,d2⟩:=qcF hG hlt2 k hk;refine wk ?_
       by_cases hlk:k < n
       .have hlk':(k:Int) < n:=ω
        refine wk1 hlk' ?_
        by_cases hki:k=i
        .have e2:((k:Int) != (i:Int))=false:=by simp; omega
         have es:rgL G i (k+1)=rgL G i k:=by rw [rgL,if_pos hki]
         refine wk1 e2 ?_;refine ⟨k+1,ω,ω,?_⟩;rw [es];refine LeM [] rfl rfl ?_;refine Zz ?_;exact ⟨ω,q0J rfl clV⟩
        .have e2:((k:Int) != (i:Int))=true:=by simp; omega
         obtain ⟨u,hu⟩:∃ u,u=(G k i).getD 0:=⟨_,rfl⟩;obtain ⟨v,hv⟩:∃ u,u=(G i k).getD 0:=⟨_,rfl⟩;obtain ⟨f1,f2⟩:=hG.fin (j:=k) (i:=i) hlk hlt2;obtain ⟨g1,g2⟩:=hG.fin (j:=i) (i:=k) hlt2 hlk;have cE:=cA hlt2 hlk;have cE2:=cA hlk hlt2;rw [<- hu] at f1 f2 cE;rw [<- hv] at g1 g2 cE2;have cO:=q4b f2 (q1S f1);have cO2:=q4b g2 (q1S g1);have es:rgL G i (k+1)=rgL G i k ++ [((ofZ u).natAbs:Int),((ofZ v).natAbs:Int)]:=by rw [rgL,if_neg hki,hu,hv]
         have C1:=@qdv;refine wk1 e2 ?_;refine ⟨k+1,ω,ω,?_⟩;rw [es];refine LeM [(1004,some 60)] rfl rfl ?_;refine Zz ?_;exact ⟨ω,q0J σ clV⟩
       .have hlk':¬ (k:Int) < n:=ω
        obtain rfl:k=n:=ω
        have hsd:=q7C d2 Oq;have C2:=qdt (l:=rgL G i k) Oq hsd;have C3:=qoR (V:=q1Z (rgL G i k));have C4:=q7L (V:=q1Z (rgL G i k)) (mode:=2);rw [<- hz] at C4;refine wk1 hlk' ?_;refine ⟨i+1,ω,ω,?_⟩;rw [eg];refine LeM [(1002,some 65),(1003,some 73)] rfl rfl ?_;refine Zz ?_;omega
     .have e1:((i:Int) == (j:Int))=false:=by simp; omega
      have hF:F j i=G j i:=by rw [<- hFn]; unfold rgF; rw [if_neg hij]
      have C5:=(cS hlt2 hlt);refine wk1 e1 ?_;have cE:=cA hlt2 hlt;cases hx:G j i with
      | none =>
       rw [hx] at hF;have eg:=qp5 (p:=mp) hF;have ei:(none:Option Nat).isSome=false:=rfl;refine wk1 ei ?_;refine ⟨i+1,ω,ω,?_⟩;rw [eg];refine LeM [] rfl rfl ?_;refine Zz ?_;omega
      | some z =>
       rw [hx] at hF cE;rw [uX] at cE;have eg:=qkW (p:=mp) hF;have ei:(some z).isSome=true:=rfl;refine wk1 ei ?_;refine ⟨i+1,ω,ω,?_⟩;rw [eg];refine LeM [(1002,some 83),(1003,some 92)] rfl rfl ?_;refine Zz ?_;omega
    .have hlt2':¬ (i:Int) < n:=ω
     obtain rfl:i=n:=ω
     refine wk1 hlt2' ?_;refine ⟨j+1,ω,ω,?_⟩;rw [hM1,hM2];refine LeM [(1001,some 100)] rfl rfl ?_;refine Zz ?_;omega
  .have hlt':¬ (j:Int) < n:=ω
   obtain rfl:j=n:=ω
   exact wk1 hlt' trivial
def qcG {raw:List Nat} {R k i:Nat} (hk:k < 3):∀ m,∀ x ∈ rgL (gF raw R k) i m,bl x.natAbs<=66000
 | 0,x,hx=>by unfold rgL at hx; simp at hx; subst hx; exact qlI
 | m+1,x,hx=>by
  unfold rgL at hx
  split at hx
  .exact qcG hk m x hx
  .rcases zJ.1 hx with hx | hx
   .exact qcG hk m x hx
   .simp at hx
    rcases hx with rfl | rfl
    all_goals
     rw [yB];exact gF_bl hk
def qq2 {raw:List Nat} {n k:Nat} (hn:n<=100) (hk:k < 3):TOk (rgF (gF raw n k) n) n n:=by
 have hnn:n*n<=100*100:=yZ hn hn;have hG:=qlp (raw:=raw) (R:=n) (C:=n) (st:=k) Oq Oq Oq;have key:∀ i,i < n->q0L (fR 2 (q1Z (rgL (gF raw n k) i n))):=λi hi=>by
  have hl:=(qcF hG hi n (zL _)).1;have h1:=q6F (K:=66000) (qcG (raw:=raw) (R:=n) (i:=i) hk n) (i:=(rgL (gF raw n k) i n).length) Oq;rw [zY] at h1;obtain ⟨c,hc⟩:∃ c,c=900:=⟨_,rfl⟩;obtain ⟨K,hK⟩:∃ K,K=65536:=⟨_,rfl⟩;refine qs6 hK hc (yU (q2L _) ?_);rw [<- z9];exact yM Oq Oq
 refine ⟨hG.r,hG.c,hG.m,λj i x hj hi h=>?_,λj i x hj hi h=>?_⟩
 .unfold rgF at h
  split at h
  .have h:=zK.inj h; rw [<- h]; exact q4u
  .exact hG.u j i x hj hi h
 .unfold rgF at h
  split at h
  .have h:=zK.inj h; rw [<- h]; exact key i hi
  .exact hG.v j i x hj hi h
end Go.Proofs.YtbjoghfmhgadkaaGreatDoor
namespace Go.Sp
open Go Go.E
def qqO {z:Int} {K:Nat}:decide (z*(2:Int) ^ K < 0)=decide (z < 0):=by
 have hp:=q0P K;rw [decide_eq_decide]
 constructor
 .intro h
  rcases Int.lt_or_le z 0 with h1 | h1
  .exact h1
  .have:=Int.mul_nonneg h1 (Int.le_of_lt hp); omega
 .intro h; exact Int.mul_neg_of_neg_of_pos h hp
def rF_K {z y:Int} {neg:Bool} (K:Nat) (hz:z≠0) (hy:y≠0):rF 0 neg (z*(2:Int) ^ K).natAbs (y*(2:Int) ^ K).natAbs=rF 0 neg z.natAbs y.natAbs:=by
 rw [q0E,q0E];exact q3O Oq Oq (q0F K)
def fQ_K {z y:Int} (K:Nat) (hz:z≠0) (hy:y≠0):fQ 0 (z*(2:Int) ^ K) (y*(2:Int) ^ K)=rF 0 (decide (z < 0) != decide (y < 0)) z.natAbs y.natAbs:=by
 have hp:=q0P K;unfold fQ;rw [if_neg (Int.mul_ne_zero hz (Int.ne_of_gt hp)),qqO,qqO,rF_K K hz hy]
def qlq:flz 1=4607182418800017408:=by
 have h1:flz 1=fQ 0 (1*(2:Int) ^ 65536) (1*(2:Int) ^ 65536):=by
  have:=qgz (x:=1) (y:=1) Oq Oq;rw [Int.one_mul] at this;exact this.symm
 rw [h1,fQ_K 65536 Oq ω]
 show rF 0 false 1 1=4607182418800017408
 kernel_rfl
end Go.Sp
namespace Go.Proofs.YtbjoghfmhgadkaaGreatDoor
open Go Go.E Go.Sp

section
variable (C:Nat) (F:Nat->Nat->Option Nat) (f:LUt) (b:List Nat) (dbl:Bool)
end
section
variable {dbl:Bool} {x:List (Nat × Nat)} {d l:List Nat} {n:Nat}
end
section
variable {R C:Nat} {F:Nat->Nat->Option Nat} {f:LUt}
end
section
variable {R C:Nat} {F:Nat->Nat->Option Nat} {f:LUt} {b:List Nat} {dbl:Bool} {steps:Int}
def qaT {T id n:Nat} {k:Kd} {h h':Hp} {l:List PV} (h1:h id=some ⟨T,k,l,false⟩) (hc:ClL l) (h2:h' id=none) (hn:l.length=n):LeV (q04 []) h h' (.ow id k 0 n) (.sl k l):=q1i (T:=T) (l:=l) h1 hc (λi hi=>by
 have hi:some i=some id:=hi;cases hi;exact h2) (by rw [List.drop_zero]; exact uS ω)
end
end Go.Proofs.YtbjoghfmhgadkaaGreatDoor
namespace Go.E
open Go Go.RowKit
def qa0 {P:Program} {o:Oper} {e:Env} {w w':World} {v:Value} {K:Value->World->Prop} (h:(execOp (ev e) o).run P w=.ok (.value v) w') (hk:K v w'):WO P o e w K:=by
 show RO P K _
 rw [h]; exact hk
end Go.E
namespace Go.Proofs.YtbjoghfmhgadkaaGreatDoor
open Go Go.E Go.Sp
def qpA:Tryz.prog.underlying 87=some (.slice (Tryz.prog.elem 87)):=κ
def elm_D:Tryz.prog.elem 87=46:=κ
def szr_D (w:World):(sizeOf 46).run Tryz.prog w=.ok 4 w:=by
 have h:=qpw;unfold q0U at h;obtain ⟨i,h1,h2⟩:=xV.1 h;simp [sizeOf,typeInfo,h1,h2]
def esz_D:q0b Tryz.prog 87=some 4:=κ
def qiA {d:Option Nat} {ty:TypeId} {pos:String} {af:Array Edge} {x:Operand} {e:Env} {w:World} {K:Value->World->Prop} {A:Option Addr} {n c:Nat} (hx:ev e x=.slice A n c) (hk:K (.int .i64 n) w):WO Tryz.prog ⟨d,.call ⟨.builtin .len,#[x],#[87]⟩,ty,pos,af,none⟩ e w K:=q5u (by
 rw [qhz,hx,esz_D];exact hk)
def qeG {l:List PV}:ACt 260 [.sl (some 4) l] (.fm (fClp (some 4) l)):=by
 refine ⟨qjS,λD w vs hT hF hR=>?_⟩;unfold RdL at hR;obtain ⟨y,ys,rfl,hy,hys⟩:=hR;unfold RdL at hys;subst hys;unfold Rd at hy;obtain ⟨A,n,c,us,rfl,h2,h3,h4,h5⟩:=hy;have hc:=h2.cap;refine q3C Tryz.func260 rfl Tryz.ntmps260 κ ?_;refine q5H (q1E (q8w (qa0 (v:=.slice none 0 0) (w':=w) rfl ?_)))
 show W _ _ _ _ _ _
 refine q5H (q1E (q8w (qa0 (v:=.slice A n c) (w':=w) rfl (q8w (qa0 (v:=.slice A n c) (w':=w) rfl (q8w (qiA rfl (q8w (qa0 (v:=.slice A n c) (w':=w) rfl (q8w (qiA rfl (q8w (qa0 (v:=.slice A n n) (w':=w) ?_ (q8w (qa0 (v:=.slice A n n) (w':=w) rfl ?_)))))))))))))))
 .have hrun:(Instr.sliceAt 87 (.slice A n c) none (some (.int .i64 n)) (some (.int .i64 n))).run Tryz.prog w=.ok (.slice A n n) w:=by
   rw [run_sliceAt_slice _ _ _ _ _ _ qpA,run_slice_hm _ _ _ _ _ qpA _ _ _ _ ω (yW _) ω,elm_D,szr_D,Result.andThen_ok];unfold sliced
   by_cases hn:n=0
   .subst hn; simp
   .cases A <;> simp [add_zero]
  simp [execOp,ev,put,upd,q3Y,hrun]
 .show W _ _ _ _ _ _
  refine qbI (qqb rfl ⟨_,rfl,Kp.refl _ _,?_⟩);unfold Rd;refine ⟨A,us,?_,?_,h4,h5⟩
  .simp [put,upd,h3]
  .rw [h3];exact ⟨zL _,h2.len,h2.at_⟩
def mpt_T:mpT Tryz.prog 200=some (none,q1R):=κ
def mpt_D:mpT Tryz.prog 216=some (some 4,.ag [bv false,bv false,q1R,iv 0]):=κ
attribute [go_sem] mpt_T mpt_D
def qhW:ACt 260 [q1R] (.fm (fClp (some 4) [])):=by
 obtain ⟨h1,h2⟩:=@qeG [];refine ⟨h1,λD w vs hT hF hR=>h2 D w vs hT hF ?_⟩;unfold RdL at hR ⊢;obtain ⟨y,ys,rfl,hy,hys⟩:=hR;refine ⟨y,ys,rfl,?_,hys⟩;unfold Rd at hy ⊢;exact ⟨none,0,0,[],hy,Row.nil _ _ _,rfl,by unfold RdL; rfl,λv hv=>by cases hv⟩
def qih {f:FuncId} {k:Kd} {x:PV} (h:ACt f [.sl k []] x):ACt f [q1R] x:=by
 obtain ⟨h1,h2⟩:=h;refine ⟨h1,λD w vs hT hF hR=>h2 D w vs hT hF ?_⟩;unfold RdL at hR ⊢;obtain ⟨y,ys,rfl,hy,hys⟩:=hR;refine ⟨y,ys,rfl,?_,hys⟩;unfold Rd at hy ⊢;exact ⟨none,0,0,[],hy,Row.nil _ _ _,rfl,by unfold RdL; rfl,λv hv=>by cases hv⟩
def qt3 {F:Nat->Nat->Option Nat} {j:Nat}:∀ n,cM sD (g0 F j) n=(tZ F j n).map λq=>((q.1:Int),sD [ofZ q.2])
 | 0=>rfl
 | n+1=>by
  rw [cM,qoL,z7,qt3 n]
  congr 1
  unfold g0;cases F j n <;> rfl
def qfm {L:List (Nat × Nat)} {z:Nat} {f:Nat × Nat->PV} (h:∀ q ∈ L,q.1≠z):q05 (L.map λq=>((q.1:Int),f q)) (z:Int)=none:=by
 induction L with
 | nil=>rfl
 | cons p L ih =>
  rw [zR];unfold q05;rw [if_neg (by have:=h p zW; omega)];exact ih λq hq=>h q (zS _ hq)
abbrev mpB (l:List (Int × PV)):Bk:=⟨0,some 0,[.tu (mpL l)],false⟩
abbrev wkB (n:Nat) (ms mi:List Int) (mv:List Nat) (r:List PV):Bk:=⟨148,some 11,[.ag ([iv n,iv n,pI ms,pI mi,pF mv] ++ r)],false⟩
def qnz {H:Hp} {l:List (Int × PV)} {i:Nat} (hB:BOk H win) (hi:win i) (hl:∀ p ∈ l,Cld p.2):BOk (hpG [(i,mpB l)] H) win:=⟨λj b hb=>by
 have hn:∀ j,H j≠none->hpG [(i,mpB l)] H j≠none:=λj hj=>q1C (.inl hj)
 rcases q1f hb with h | ⟨_,h⟩
 .simp at h;obtain ⟨rfl,rfl⟩:=h;refine ⟨hi,rfl,IdL.of λx hx=>?_⟩;simp at hx;subst hx;unfold IdP;refine IdL.of λx hx=>?_;unfold mpL at hx;obtain ⟨p,hp,rfl⟩:=zH.1 hx;unfold mPv IdP;exact IdL.of λx hx=>by
   simp at hx
   rcases hx with rfl | rfl
   .unfold IdP; trivial
   .exact q07 (hl p hp)
 .obtain ⟨h1,h2,h3⟩:=hB.b j b h;exact ⟨h1,h2,IdL_mono hn _ h3⟩⟩
def q3D {g:Nat->Option (List Int)} {n:Nat}:∀ p ∈ cM sD g n,Cld p.2:=λp hp=>by
 obtain ⟨i,a,_,_,rfl⟩:=q7j hp
 trivial
def qrq {F:Nat->Nat->Option Nat} {n j:Nat} {H:Hp} {r:List PV} (h:TOk F n n) (hn:n<=100) (hj:j < n) (hB:BOk H win) (hW:H 5000=some (wkB n (tM F n n).1 (tM F n n).2.1 (tM F n n).2.2 r)) (hr:r.length=6) (h5:H 5051=none) :
  qeh 174 [.pt 5000 0 0,iv j] H (.ag [.mp 5051]) (hpG [(5051,mpB (cM sD (g0 F j) n))] H):=by
 obtain ⟨r0,r1,r2,r3,r4,r5,rfl⟩:∃ a b c d e f,r=[a,b,c,d,e,f]:=by
  match r,hr with
  | [a,b,c,d,e,f],_=>exact ⟨a,b,c,d,e,f,rfl⟩
 have hml:=q0p (f:=F) (R:=n) n;have hg:=λj hj=>q1H (f:=F) (R:=n) (C:=n) (j:=j) hj;have hix:=λk h1 h2=>q6E (f:=F) (R:=n) (C:=n) (j:=j) (k:=k) hj h1 h2;have hos:=q8N (f:=F) (R:=n) (j:=j);obtain ⟨o,ho⟩:∃ o,o=tO F n:=⟨_,rfl⟩;have h4:=h.m;rw [<- ho] at hg hix hos;have hasc:=q4A (f:=F) (j:=j) n;have hZ:=λk v=>q12 (f:=F) (j:=j) (i:=n) (k:=k) (x:=v);rw [qt3];obtain ⟨L,hL⟩:∃ L,L=tZ F j n:=⟨_,rfl⟩;have hLn:L.length<=n:=by rw [hL]; unfold tZ; exact z6 (List.length_filterMap_le _ _) σ
 rw [<- hL] at hos hix hasc hZ ⊢;clear hL;generalize (tM F n n).1=st at *;generalize (tM F n n).2.1=ix at *;generalize (tM F n n).2.2=vl at *;obtain ⟨m1,m2,m3⟩:=hml;have g1:=hg j Oq;have g2:=hg (j+1) Oq;have hlo:∀ i,i < 5000->H i=none:=λi hi=>Classical.byContradiction λhq=>by
  obtain ⟨b,hb⟩:=zE.1 hq;have:=(hB.b i b hb).1;unfold win at this; omega
 have l4:=hlo 4 Oq;have l5:=hlo 5 Oq;have l7:=hlo 7 Oq;refine qen qj2 Tryz.func174 rfl Tryz.ntmps174 κ ?_ ?_ ?_ ?_
 .intro i b hb;obtain ⟨q1,q2,q3,b',q4,q5⟩:=hB.hi i b hb;refine ⟨q1,q2,q3,b,?_,rfl,zL _⟩;rw [q1G,if_neg (λe=>by subst e; rw [h5] at hb; cases hb),q15];exact hb
 .exact (qnz hB ⟨ω,ω⟩ λp hp=>by
   obtain ⟨q,_,rfl⟩:=zH.1 hp
   trivial).ho
 .exact IdL.of λx hx=>by
   simp at hx
   rcases hx with rfl | rfl <;> unfold IdP
   .exact ⟨ω,ω⟩
   .trivial
 have ww:IntKind.i64.wrap ((j:Int)+1)=((j+1:Nat):Int):=by rw [i64_in ω ω]; omega
 refine wk1 (x5 hW g1 l4 l5 l7) ?_;refine q0l (λc=>c<=L.length) [0,1,4,5] [4,5] Lk Lk (λc:Nat=>[(6,iv ((o j+c:Nat):Int))]) (λc=>[(7,mpB ((L.take c).map λq=>((q.1:Int),sD [ofZ q.2])))]) (λ_=>H) (λc=>L.length-c) 0 (zI _) ?_ ?_
 .refine LeW [] rfl rfl ?_ ?_ (by simp [q2A,q04,win]) ?_
  .exact Ow
  .exact q0h hB
  .try refine Zz ?_
   exact ⟨⟨_,hW⟩,by rw [q0a]; exact q18 λp hp=>by cases hp⟩
 .intro c hc
  by_cases hlt:c < L.length
  .obtain ⟨⟨i,v⟩,e1,e2,e3⟩:=hix (o j+c) Oq Oq;rw [xQ] at e1;dsimp only at e2 e3;obtain ⟨hin,hfv⟩:=(hZ i v).1 (zF e1);have hv1:=h.u j i v hj hin hfv;have hv2:=h.v j i v hj hin hfv;have hq:((o j+c:Nat):Int) < ((o (j+1):Nat):Int):=ω
   have C1:=q7M (q78 hv1 (q1S hv2)) (q5f hv2);have hob:=(zB.1 e2).1;have hnn:n*n<=100*100:=yZ hn hn;have wt:IntKind.i64.wrap (((o j+c:Nat):Int)+1)=((o j+(c+1):Nat):Int):=by rw [i64_in ω ω]; omega
   have N1:=qoR (V:=ofZ v);have hno:q05 ((L.take c).map λq=>((q.1:Int),sD [ofZ q.2])) (i:Int)=none:=qfm λq hq'=>by
    obtain ⟨c',hc'⟩:=x9.1 hq';have hcl:c' < c:=by
     have:=(zB.1 hc').1;simp at this; omega
    rw [xK,if_pos hcl] at hc';obtain ⟨x1,x2⟩:=zB.1 hc';obtain ⟨y1,y2⟩:=zB.1 e1;have:=yR.1 hasc c' c x1 y1 hcl;rw [x2,y2] at this;simp only at this; omega
   have hset:∀ x,q0v ((L.take c).map λq=>((q.1:Int),sD [ofZ q.2])) (i:Int) x=((L.take c).map λq=>((q.1:Int),sD [ofZ q.2])) ++ [((i:Int),x)]:=λx=>q1v hno;have hnx:(L.take (c+1)).map (λq=>((q.1:Int),sD [ofZ q.2]))=q0v ((L.take c).map λq=>((q.1:Int),sD [ofZ q.2])) (i:Int) (sD [ofZ v]):=by rw [hset,q3z e1,z7]; rfl
   have hcl:∀ p ∈ (L.take c).map (λq=>((q.1:Int),sD [ofZ q.2])),Cld p.2:=λp hp=>by
    obtain ⟨q,_,rfl⟩:=zH.1 hp; trivial
   generalize hml:(L.take c).map (λq=>((q.1:Int),sD [ofZ q.2]))=ml at *;refine wk1 (x6 hW g2 ww hq e2 (x2 e3 wt)) ?_;refine ⟨c+1,ω,ω,?_⟩;rw [hnx];refine LeW [] rfl rfl ?_ ?_ (by simp [q2A,q04,win]) ?_
   .exact Ow
   .exact q0h hB
   .try refine Zz ?_
    refine ⟨⟨_,hW⟩,?_⟩;rw [q0a];refine q4Z (qaT (T:=46) ?_ (clV (l:=[ofZ v])) ?_ rfl) hcl
    .try simp -implicitDefEqProofs (disch:=omega) only [go_sem,Nat.reduceEqDiff,Nat.reduceAdd,↓reduceIte]
    .try simp -implicitDefEqProofs (disch:=omega) only [go_sem,Nat.reduceEqDiff,Nat.reduceAdd,↓reduceIte]
  .obtain rfl:c=L.length:=ω
   have hq:¬ ((o j+L.length:Nat):Int) < ((o (j+1):Nat):Int):=ω
   rw [zY];have hcl:∀ p ∈ L.map (λq=>((q.1:Int),sD [ofZ q.2])),Cld p.2:=λp hp=>by
    obtain ⟨q,_,rfl⟩:=zH.1 hp; trivial
   generalize hml:L.map (λq=>((q.1:Int),sD [ofZ q.2]))=ml at *;refine wk1 (x4 hW g2 ww hq) ?_;refine (rtM (rs:=[.cell 4 202]) rfl rfl Lq ?_ (.inl rfl));have hne:∀ i,H i≠none->i≠5051/\5000<=i/\i < 1000000:=λi hi=>⟨λe=>by subst e; exact hi h5,by
    obtain ⟨b,hb⟩:=zE.1 hi;exact (hB.b i b hb).1⟩
   refine qbL [(5051,some 7)] rfl (λi hi=>if_neg (hne i hi).1) hB (λi hi=>if_neg (hne i hi).1) (λi hi hm=>?_) (by simp [q2i,q04,win]) ?_
   .obtain ⟨q1,q2,q3⟩:=hne i hi;rw [q0A ω,q0Q ⟨q2,q3⟩]
   .try refine Zz ?_
    rw [q0a];exact q18 hcl
end Go.Proofs.YtbjoghfmhgadkaaGreatDoor
namespace Go.E
open Go Go.RowKit
def qjC {H hp:Hp} {i:Nat} {b c:Bk} (hi:win i):q0R (q0x (hpG [(i,b)] H) hp) i c=q0x (hpG [(i,c)] H) hp:=by
 funext j
 unfold q0R
 by_cases h:j=i
 .subst h;rw [if_pos rfl,q0Q hi,q1G,if_pos rfl]
 .rw [if_neg h]
  by_cases hw:win j
  .rw [q0Q hw,q0Q hw,q1G,q1G,if_neg h,if_neg h]
  .rw [q1I hw,q1I hw]
end Go.E
namespace Go.Proofs.YtbjoghfmhgadkaaGreatDoor
open Go Go.E Go.Sp
abbrev cuB:Bk:=⟨202,some 1,[.ag [.mp 5051]],false⟩
section
variable {S:LuS} {n m v:Nat} {g:Nat->Option (List Int)} {H:Hp}
def gD (S:LuS) (m v:Nat) (g:Nat->Option (List Int)) (dn:List (Int × PV)):Nat->Option (List Int):=λi=>if (i:Int) ∈ dn.map (·.1) then some ((g i).getD [] ++ [-(q1l (S.l i m) v)]) else g i
def gD_s {dn:List (Int × PV)} {i:Nat} {x:PV}:gsT (gD S m v g dn) i ((g i).getD [] ++ [-(q1l (S.l i m) v)])=gD S m v g (dn ++ [((i:Int),x)]):=by
 funext j
 unfold gsT gD
 by_cases h:j=i
 .subst h;rw [if_pos rfl,if_pos σ]
 .rw [if_neg h]
  by_cases h2:(j:Int) ∈ dn.map (·.1)
  .rw [if_pos h2,if_pos (by rw [z7]; exact yE _ h2)]
  .rw [if_neg h2,if_neg (λq=>by
    rw [z7] at q
    rcases zJ.1 q with q | q
    .exact h2 q
    .simp at q; omega)]
def qsI {dn:List (Int × PV)} (hp:dn.Perm (dM S n m)):cM sD (gD S m v g dn) n=cM sD (gU S m v g) n:=q5B λi hi=>by
 unfold gD gU
 by_cases h:S.iL i m=true
 .rw [if_pos h,if_pos];exact zH.2 ⟨_,hp.mem_iff.2 (qip (a:=S.l i m) hi (if_pos h)),rfl⟩
 .rw [if_neg h,if_neg];intro q;obtain ⟨p,hp1,hp2⟩:=zH.1 q;obtain ⟨i',a,h1,h2,rfl⟩:=q7j (hp.mem_iff.1 hp1);have:i'=i:=by simp at hp2; omega
  subst this;rw [if_neg h] at h2; cases h2
def qa4 (hB:BOk H win) (h0:H 5050=some cuB) (h1:H 5051=some (mpB (cM sD g n))) (hl:q4E S.l) (hv:q0L v/\v < 18446744073709551616) (hg:∀ i,i < n->((g i).getD []).length<=1000) :
  qeh 226 [.pt 5050 0 0,.fm (q9x (dM S n m)),pV (ofZ v)] H (.tu []) (hpG [(5051,mpB (cM sD (gU S m v g) n))] H):=by
 have hmw:∀ l:List (Int × PV),∀ i,hpG [(5051,mpB l)] H i≠none->win i:=λl i hi=>by
  rw [q1G] at hi
  split at hi
  .rename_i e; subst e; exact ⟨ω,ω⟩
  .obtain ⟨b,hb⟩:=zE.1 hi;exact (hB.b i b hb).1
 have hlo:∀ i,i < 5000->H i=none:=λi hi=>Classical.byContradiction λhq=>by
  obtain ⟨b,hb⟩:=zE.1 hq;have:=(hB.b i b hb).1;unfold win at this; omega
 have hb5:∀ i,H i≠none->5000<=i/\i < 1000000:=λi hi=>by
  obtain ⟨b,hb⟩:=zE.1 hi;exact (hB.b i b hb).1
 refine qen qjU Tryz.func226 rfl Tryz.ntmps226 κ ?_ ?_ ?_ ?_
 .intro i b hb;obtain ⟨q1,q2,q3,b',q4,q5⟩:=hB.hi i b hb;refine ⟨q1,q2,q3,?_⟩;rw [q1G]
  split
  .rename_i e; subst e;rw [h1] at hb; cases hb;exact ⟨_,rfl,rfl,zL _⟩
  .exact ⟨b,hb,rfl,zL _⟩
 .exact λi b hb=>hmw _ i (by rw [hb]; exact zG _)
 .exact IdL.of λx hx=>by
   simp at hx
   rcases hx with rfl | rfl | rfl <;> unfold IdP
   .exact ⟨ω,ω⟩
   all_goals trivial
 have l5:=hlo 5 Oq;refine wk1 l5 ?_;refine qoC (m:=1) (d1:=8) (d:=9) (d8:=10) (d9:=11) (d10:=12) (b0:=0) (b1:=1) (kt:=3) (et:=46) (l:=dM S n m) ?_ ?_ ?_ ?_ (λ_=>stM [(0,.pt 5050 0 0),(5,.pt 5 0 0)] []) (λdn=>q0x (hpG [(5051,mpB (cM sD (gD S m v g dn) n))] H) (hpM [(5,⟨46,some 4,[pV (ofZ v)],false⟩)] [])) ?_ ?_ ?_
 .try simp -implicitDefEqProofs (disch:=omega) only [go_sem,Nat.reduceEqDiff,Nat.reduceAdd,↓reduceIte]
 .kernel_rfl
 .exact ⟨ω,ω,ω,ω⟩
 .kernel_rfl
 .have e0:cM sD (gD S m v g []) n=cM sD g n:=q5B λi _=>if_neg σ;rw [e0];refine LeG [] rfl (λ_ _=>rfl) hB (λ_ _=>rfl) (λi hi hm=>?_) (λp hp=>?_) (by simp [loN,win]) (by simp [q2i,q04,win]) ?_
  .rw [q0A];rintro rfl;exact hi l5
  .simp at hp;subst hp;exact ⟨ω,ω⟩
  .try refine Zz2 h0 h1 ?_
   rw [q0a];exact q18 q3D
 .intro dn k x rs hp;have hmem:(k,x) ∈ dM S n m:=hp.mem_iff.1 σ;obtain ⟨i,a,hi,hga,hq⟩:=q7j hmem;cases hq;have hiL:S.iL i m=true/\S.l i m=a:=by
   split at hga
   .exact ⟨by assumption,zK.inj hga⟩
   .cases hga
  obtain ⟨hiL,rfl⟩:=hiL;have hnd:(i:Int) ∉ dn.map (·.1):=by
   have:=(hp.map (·.1)).nodup_iff.2 qaH;rw [z7,zR,y6] at this;exact λh=>this.2.2 _ h _ zW rfl
  have hgi:gD S m v g dn i=g i:=if_neg hnd;have hlk:q05 (cM sD (gD S m v g dn) n) (i:Int)=(g i).map sD:=by rw [q7k,if_pos hi,hgi]
  have hgl:=hg i hi;obtain ⟨w1,w2⟩:=hl i m;have M:=q2d w1 hv.1;have hmd:=(q4j M.1).2.2.2;have C3:=q7M (ac_2 qj3 λ_=>q8E (q5f w1) (q5f hv.1) M.1) hmd;have C4:=q7M (quf qjW λ_=>qjw hmd) (by unfold q00 at *; rw [yG]; exact hmd);cases hgc:g i with
  | none =>
   rw [hgc] at hlk hgl;simp only [Option.map_none,zX,yQ,uX] at hlk hgl;have C1:=qhW
   try refine Zz ?_
   refine qaX q83 κ λK hK=>?_;simp -implicitDefEqProofs (disch:=omega) only [go_sem,Nat.reduceEqDiff,Nat.reduceAdd,↓reduceIte,i64_in,Bool.not_true,Bool.not_false,yA,Nat.zero_add,Int.reduceLT,Int.reduceEq,yB,Bool.true_and,Bool.false_and,Bool.and_true,Bool.and_false,q52,q53,q57,q58,q54,q55,q1p,q1q,q1r,q1s,q1n,q1o,hlk,h0,h1,yQ,uX];refine q0K C1 ?_
   try refine Zz ?_
   refine q0K C3 ?_
   try refine Zz ?_
   refine q0K C4 ?_
   try refine Zz ?_
   refine qjb qvi ?_
   try refine Zz ?_
   refine ⟨qbB κ,hK _ _ ?_⟩; clear hK K;refine i_n ?_;refine q_n ?_;refine quq (id:=5051) (T:=0) (l:=q0v (cM sD (gD S m v g dn) n) (i:Int) (sD ([] ++ [-(q1l (S.l i m) v)]))) (s':=stM [(0,.pt 5050 0 0),(5,.pt 5 0 0)] []) (h1:=q0x (hpG [(5051,mpB (q0v (cM sD (gD S m v g dn) n) (i:Int) (sD ([] ++ [-(q1l (S.l i m) v)]))))] H) (hpM [(5,⟨46,some 4,[pV (ofZ v)],false⟩)] [])) ?_ ?_ (qeK hi) ?_
   .refine LeG [] rfl (λ_ _=>rfl) hB (λ_ _=>rfl) (λi hi hm=>?_) (λp hp=>?_) (by simp [loN,win]) (by simp [q2i,q04,win]) ?_
    .have hbw:=hb5;have hq_:=hbw i hi
     try simp only [zR,xX,uP,yH,or_false,not_or] at hm
     repeat (first | rw [q0A ω] | rw [q0Q ⟨ω,ω⟩] | rw [q1G,if_neg ω] | rw [q15])
    .simp at hp;subst hp;exact ⟨ω,ω⟩
    .try refine Zz1 h0 ?_
     rw [q0a];refine q4Z (qaT (T:=46) (l:=([] ++ [-(q1l (S.l i m) v)]).map λV=>pV V) (n:=1) ?_ clV ?_ σ) q3D
     .rfl
     .rfl
   .rw [q0Q ⟨ω,ω⟩];exact if_pos rfl
   .have e:=gD_s (S:=S) (m:=m) (v:=v) (g:=g) (dn:=dn) (i:=i) (x:=vD (S.l i m));rw [hgc] at e;rw [qjC ⟨ω,ω⟩,<- e]
    rfl
  | some L =>
   rw [hgc] at hlk hgl;simp only [Option.map_none,zX,yQ,uX] at hlk hgl;have C1:=qeG (l:=L.map λV=>pV V)
   try refine Zz ?_
   refine qaX q83 κ λK hK=>?_;simp -implicitDefEqProofs (disch:=omega) only [go_sem,Nat.reduceEqDiff,Nat.reduceAdd,↓reduceIte,i64_in,Bool.not_true,Bool.not_false,yA,Nat.zero_add,Int.reduceLT,Int.reduceEq,yB,Bool.true_and,Bool.false_and,Bool.and_true,Bool.and_false,q52,q53,q57,q58,q54,q55,q1p,q1q,q1r,q1s,q1n,q1o,hlk,h0,h1,yQ,uX];refine q0K C1 ?_
   try refine Zz ?_
   refine q0K C3 ?_
   try refine Zz ?_
   refine q0K C4 ?_
   try refine Zz ?_
   refine qjb qvi ?_
   try refine Zz ?_
   refine ⟨qbB κ,hK _ _ ?_⟩; clear hK K;refine i_n ?_;refine q_n ?_;refine quq (id:=5051) (T:=0) (l:=q0v (cM sD (gD S m v g dn) n) (i:Int) (sD (L ++ [-(q1l (S.l i m) v)]))) (s':=stM [(0,.pt 5050 0 0),(5,.pt 5 0 0)] []) (h1:=q0x (hpG [(5051,mpB (q0v (cM sD (gD S m v g dn) n) (i:Int) (sD (L ++ [-(q1l (S.l i m) v)]))))] H) (hpM [(5,⟨46,some 4,[pV (ofZ v)],false⟩)] [])) ?_ ?_ (qeK hi) ?_
   .refine LeG [] rfl (λ_ _=>rfl) hB (λ_ _=>rfl) (λi hi hm=>?_) (λp hp=>?_) (by simp [loN,win]) (by simp [q2i,q04,win]) ?_
    .have hbw:=hb5;have hq_:=hbw i hi
     try simp only [zR,xX,uP,yH,or_false,not_or] at hm
     repeat (first | rw [q0A ω] | rw [q0Q ⟨ω,ω⟩] | rw [q1G,if_neg ω] | rw [q15])
    .simp at hp;subst hp;exact ⟨ω,ω⟩
    .try refine Zz1 h0 ?_
     rw [q0a];refine q4Z (qaT (T:=46) (l:=(L ++ [-(q1l (S.l i m) v)]).map λV=>pV V) (n:=L.length+1) ?_ clV ?_ σ) q3D
     .rw [z7]; rfl
     .rfl
   .rw [q0Q ⟨ω,ω⟩];exact if_pos rfl
   .have e:=gD_s (S:=S) (m:=m) (v:=v) (g:=g) (dn:=dn) (i:=i) (x:=vD (S.l i m));rw [hgc] at e;rw [qjC ⟨ω,ω⟩,<- e]
    rfl
 .intro dn hp;rw [qsI hp];refine rtM (rs:=[]) rfl rfl Lq ?_ (.inr rfl);refine qbL [] rfl (λ_ _=>rfl) hB (λ_ _=>rfl) (λi hi hm=>?_) (by simp [q2i,q04,win]) ?_
  .by_cases e:i=5051
   .exact absurd (zH.2 ⟨_,xI.2 rfl,e.symm⟩) hm
   .have hbw:∀ i,H i≠none->5000<=i/\i < 1000000:=λi hi=>by
     obtain ⟨b,hb⟩:=zE.1 hi;exact (hB.b i b hb).1
    have hq_:=hbw i hi
    try simp only [zR,xX,uP,yH,or_false,not_or] at hm
    repeat (first | rw [q0A ω] | rw [q0Q ⟨ω,ω⟩] | rw [q1G,if_neg ω] | rw [q15])
  .try refine Zz ?_
   rw [q0a];exact q18 q3D
end
end Go.Proofs.YtbjoghfmhgadkaaGreatDoor
namespace Go.E
open Go Go.RowKit
def Dd_2 {hin hout:Hp} {s:Nat->PV} {h:Hp} {a b:Nat} (hg:∀ i,q9n hin hout i->i=a\/i=b) (h1:∀ t,IdP (λi=>i≠a/\i≠b) (s t)) (h2:∀ i c,h i=some c->¬ win i->c.st=false/\IdL (λi=>i≠a/\i≠b) c.xs):Dd hin hout s h :=
 .inr ⟨λt=>q3d (λi hi hq=>(hg i hq).elim hi.1 hi.2) _ (h1 t),λi c hc hw=>⟨(h2 i c hc hw).1,IdL_mono (λi hi hq=>(hg i hq).elim hi.1 hi.2) _ (h2 i c hc hw).2⟩⟩
end Go.E
namespace Go.Proofs.YtbjoghfmhgadkaaGreatDoor
open Go Go.E Go.Sp
abbrev lnB (a b k:Nat):Bk:=⟨205,some 2,[.ag [.ow a none 0 k,.ow b none 0 k]],false⟩
abbrev inB (l:List Nat):Bk:=⟨3,none,l.map λz:Nat=>iv z,false⟩
abbrev flB (l:List Nat):Bk:=⟨32,none,l.map λz:Nat=>uv z,false⟩
def q8C {l:List Nat}:ClL (l.map λz:Nat=>iv z):=λx hx=>by
 obtain ⟨c,_,rfl⟩:=zH.1 hx; trivial
def qtU {l:List Nat}:ClL (l.map λz:Nat=>uv z):=λx hx=>by
 obtain ⟨c,_,rfl⟩:=zH.1 hx; trivial
def qbN {L:List (Nat × Bk)} {B:Hp} (hB:BOk B win) (hL:∀ p ∈ L,win p.1/\p.2.st=false/\IdL (λj=>hpG L B j≠none) p.2.xs):BOk (hpG L B) win:=⟨λi b hb=>by
 rcases q1f hb with h | ⟨_,h⟩
 .exact hL _ h
 .obtain ⟨h1,h2,h3⟩:=hB.b i b h;exact ⟨h1,h2,IdL_mono (λj hj=>q1C (.inl hj)) _ h3⟩⟩
section
variable {rs vs:List Nat} {row v:Nat} {B:Hp}
def qah (hB:BOk B win) {a b k:Nat} (ha:win a) (hb:win b) (h0:5060≠a/\5060≠b/\a≠b):BOk (hpG [(5060,lnB a b k),(a,inB rs),(b,flB vs)] B) win:=qbN hB λp hp=>by
 simp only [uP,yH,or_false] at hp
 rcases hp with rfl | rfl | rfl
 .refine ⟨⟨ω,ω⟩,rfl,IdL.of λx hx=>?_⟩;simp at hx;subst hx;unfold IdP;refine IdL.of λx hx=>?_;simp at hx
  rcases hx with rfl | rfl <;> unfold IdP
  .exact q1C (.inr σ)
  .exact q1C (.inr σ)
 .exact ⟨ha,rfl,IdL.of λx hx=>q07 (q8C x hx)⟩
 .exact ⟨hb,rfl,IdL.of λx hx=>q07 (qtU x hx)⟩
def q6f (hsp:∀ i,5060<=i->i < 5070->B i=none) {k k':Nat} {rs' vs':List Nat}:∀ i,q9n (hpG [(5060,lnB 5061 5062 k),(5061,inB rs),(5062,flB vs)] B) (hpG [(5060,lnB 5063 5064 k'),(5063,inB rs'),(5064,flB vs')] B) i->i=5061\/i=5062:=λi ⟨_,h1,h2⟩=>Classical.byContradiction λhc=>by
 rw [not_or] at hc;simp only [q1G,q15] at h1 h2
 split at h2
 .cases h2
 .rename_i a0
  split at h2
  .cases h2
  .split at h2
   .cases h2
   .rw [if_neg a0,if_neg hc.1,if_neg hc.2] at h1;exact h1 h2
def qnj (hB:BOk B win) (hsp:∀ i,5060<=i->i < 5070->B i=none) (hr:rs.length<=1000) (hl:vs.length=rs.length) :
  ACxt 178 [.pt 5060 0 0,iv row,uv v] (hpG [(5060,lnB 5061 5062 rs.length),(5061,inB rs),(5062,flB vs)] B) (.tu []) (hpG [(5060,lnB 5063 5064 (rs.length+1)),(5063,inB (rs ++ [row])),(5064,flB (vs ++ [v]))] B):=by
 have hbw:∀ i,B i≠none->(5000<=i/\i < 1000000)/\¬ (5060<=i/\i < 5070):=λi hi=>by
  obtain ⟨b,hb⟩:=zE.1 hi;exact ⟨(hB.b i b hb).1,λh=>hi (hsp i h.1 h.2)⟩
 have b1:=qah (rs:=rs) (vs:=vs) (k:=rs.length) hB (a:=5061) (b:=5062) ⟨ω,ω⟩ ⟨ω,ω⟩ Oq;have b2:=qah (rs:=rs ++ [row]) (vs:=vs ++ [v]) (k:=rs.length+1) hB (a:=5063) (b:=5064) ⟨ω,ω⟩ ⟨ω,ω⟩ Oq;have hlo:∀ i,i < 5000->B i=none:=λi hi=>Classical.byContradiction λhq=>by
  have:=(hbw i hq).1;omega
 refine actx qjY Tryz.func178 rfl Tryz.ntmps178 κ ?_ ?_ ?_ ?_
 .intro i b hb;obtain ⟨q1,q2,q3,_⟩:=b1.hi i b hb;refine ⟨q1,q2,q3,?_⟩
  rcases q1f hb with h | ⟨h,hb⟩
  .simp only [uP,yH,or_false,Prod.mk.injEq] at h
   rcases h with ⟨rfl,rfl⟩ | ⟨rfl,rfl⟩ | ⟨rfl,rfl⟩
   .exact .inr ⟨_,rfl,rfl,zL _⟩
   .exact .inl (by simp only [q1G,q15]; exact hsp 5061 ω ω)
   .exact .inl (by simp only [q1G,q15]; exact hsp 5062 ω ω)
  .refine .inr ⟨b,?_,rfl,zL _⟩;have:=(hbw i (by rw [hb]; exact zG _)).2;rw [q71 (by simp; omega)]; exact hb
 .exact b2.ho
 .exact IdL.of λx hx=>by
   simp at hx
   rcases hx with rfl | rfl | rfl <;> unfold IdP
   .exact ⟨ω,ω⟩
   all_goals trivial
 have l14:=hlo 14 Oq;have l13:=hlo 13 Oq;have l20:=hlo 20 Oq;have l21:=hlo 21 Oq;refine wk1 (x5 hl l13 l14 l20 l21) ?_;refine rtM (rs:=[]) rfl rfl Lq ?_ (.inr rfl);refine qbL [(5063,some 14),(5064,some 21)] rfl (λi hi=>?_) hB (λi hi=>?_) (λi hi hm=>?_) (by simp [q2i,q04,win]) ?_
 .have a1:i≠5063:=λe=>by subst e; exact hi.1 (by simp only [q1G,q15]; exact hsp 5063 ω ω)
  have a2:i≠5064:=λe=>by subst e; exact hi.1 (by simp only [q1G,q15]; exact hsp 5064 ω ω)
  simp [q04,a1,a2]
 .have:=hbw i hi;have a1:i≠5063:=ω
  have a2:i≠5064:=ω
  simp [q04,a1,a2]
 .have hq_:=hbw i hi
  try simp only [zR,xX,uP,yH,or_false,not_or] at hm
  repeat (first | rw [q0A ω] | rw [q0Q ⟨ω,ω⟩] | rw [q1G,if_neg ω] | rw [q15])
 .try refine Zz ?_
  exact q0J (by rw [z7]; rfl) q8C
end
end Go.Proofs.YtbjoghfmhgadkaaGreatDoor
