/- CondScales is proved. 4/7. -/
import Derived.Test.YtbjoghfmhgadkaaGreatDoorPw3
open Bool renaming false_eq_true->xI
open Int renaming toNat_natCast->zF,natAbs_natCast->zJ,sign_eq_zero_iff_zero->zP,sign_eq_one_of_pos->zX,zero_mul->z7,natAbs_neg->yC,mul_comm->yN,mul_assoc->yR,le_refl->uU,natAbs_mul->yZ,mul_eq_zero->xA,sign_mul->xJ,ne_of_gt->xL,mul_one->xM,neg_mul->xQ
open List renaming getElem?_eq_getElem->zA,getElem?_eq_some_iff->zB,getD_eq_getElem?_getD->zC,getElem?_range->zD,mem_of_getElem?->zE,getElem?_map->zH,getElem?_append_left->zL,map_congr_left->zM,mem_append->zN,length_append->zO,mem_map->zQ,take_length->zS,getElem?_append_right->zV,mem_range->zY,take_succ_eq_append_getElem->uV,length_range->z6,getElem?_eq_none->z8,length_map->z9,getElem?_set->yA,getElem?_set_self->yG,ext_getElem?->yH,mem_cons_of_mem->yJ,map_append->yL,mem_cons_self->yM,take_of_length_le->yO,map_const'->yV,getElem?_concat_length->yY,filter_append->uW,map_cons->uX,range_succ->y9,length_filter_le->xD,length_singleton->xE,getElem?_drop->xG,getElem?_take->xH
open Nat renaming zero_le->zG,le_refl->zU,pow_add->zW,le_trans->uY,mul_assoc->yB,add_sub_cancel->yE,mul_lt_mul_of_pos_right->yI,mul_left_comm->yP,mod_lt->yQ,pow_le_pow_right->yS,div_le_self->yU,mul_comm->yW,add_zero->yX,lt_of_le_of_lt->uZ,lt_of_lt_of_le->u6,mul_le_mul->u7,le_of_mul_le_mul_right->u9,pow_lt_pow_iff_right->y6,le_mul_of_pos_left->y8,div_lt_iff_lt_mul->xB,le_div_iff_mul_le->xC,mod_le->xF,sub_self->xK,mul_one->xN,div_pos->xO,mul_pos->xP
open Option renaming ne_none_iff_exists'->zI,some->zK,map_some->zR,some_ne_none->tD,bind_some->tE,map_eq_some_iff->yF,getD_some->yK,bind_eq_some_iff->y7
set_option linter.unusedSimpArgs false
set_option linter.unusedVariables false
set_option maxRecDepth 20000
set_option maxHeartbeats 2000000
set_option linter.defProp false
namespace Go.Proofs.YtbjoghfmhgadkaaGreatDoor
open Go Go.E Go.Sp
def qs8 (V:Int):(od V).sign=V.sign:=by
 conv=>rhs; rw [<- q1K V,xJ,zX (q0L _),xM]
section
variable {a b m e V:Int}
def q2s {s:Bool} (hs:s=decide (a < 0)) (ha:bl a.natAbs<=10000000) (h1 : -1048576<=m) (h2:m<=1048576):ACt 203 [sT s a,iv m] (bT (shI a m)):=by
 have C1:=@q8F;refine ac0 Tryz.func203 Tryz.ntmps203 [.cell 4 42] ?_;exact wk trivial
def q7X {s:Bool} {N:Nat} (hs:s=decide (a < 0)) (ha:bl a.natAbs<=10000000) (hn:N<=1048576):ACt 234 [sT s a,iv N] (bT (shI a (-(N:Int)))):=by
 have C1:=@q8F;refine ac0 Tryz.func234 Tryz.ntmps234 [.cell 4 42] ?_;refine wk ?_;refine q0B (λ_:Unit=>True) [1,2,4] [2,4] Lk Lk (λ_=>[]) (λ_=>[]) (λ_=>0) () trivial ?_ ?_
 .refine LeM [] rfl rfl ?_;exact Zy
 .intro _ _;exact wk1 @Int.zero_sub trivial
def qsm {D:Nat->Prop} {v:Value} {w:World} (h:Rd w D (.ag [bv false,bv false,q05,iv 0]) (λ_=>none) h0 v):Rd w D (dT 0) (λ_=>none) h0 v:=by
 unfold Rd at h;obtain ⟨vs,rfl,h1⟩:=h;obtain ⟨_,_,_,_,rfl,h2,h3,h4,h5⟩:=rd_4 h1;rw [qcZ h2,qcZ h3,qcZ h4,qcZ h5];have h6:In (fV 0) D (.agg #[.bool false,.bool false,.slice none 0 0,.int .i64 0]) w:=⟨false,none,0,0,rfl,⟨rfl,U32.nil⟩,by simp [q0Z,q0m]⟩;exact (q3C.2 h6).1
def qq2 {s:Bool} (hs:s=decide (m < 0)) (hb:bl m.natAbs<=1000000) (he1 : -1000000<=e) (he2:e<=1000000) (hv:mkV m e=some V):ACt 190 [.ag [bv false,bv s,.fm (fL m),iv e]] (.tu [dT V,bv true]):=by
 have C1:=@qh3;have C2:=@q3b
 by_cases hz:m=0
 .obtain rfl:V=0:=by rw [hz,q1R] at hv; exact (zK.inj hv).symm
  refine qlH (r:=.tu [.ag [bv false,bv false,q05,iv 0],bv true]) (λD w v h=>?_) ?_
  .unfold Rd at h ⊢;obtain ⟨vs,rfl,h1⟩:=h;obtain ⟨_,_,rfl,h2,h3⟩:=rd_2 h1;refine ⟨_,rfl,?_⟩;unfold RdL;exact ⟨_,_,rfl,qsm h2,RdL.one h3⟩
  .have e1:(m.sign == 0)=true:=by rw [hz]; rfl
   refine ac0 Tryz.func190 Tryz.ntmps190 [.cell 2 46,.tmp 3] ?_;exact wk1 e1 trivial
 .have hz':(m.sign == 0)=false:=by
   rw [beq_eq_false_iff_ne]; intro h0; exact hz (zP.1 h0)
  obtain ⟨hv1,hv2,hv3⟩:=q4t hz hv;obtain ⟨hv4,hv5,_,hv6⟩:=q43 hv;have htl:=qg8 (n:=m.natAbs) Oq;have hbo:=q9g hz;have C3:=@qk7;have C4:=@q2y;have C5:=@q7X;have f1:=(qmT m).trans hv4.symm;have f2:=(hv5 hz).2.symm;refine ac0 Tryz.func190 Tryz.ntmps190 [.cell 2 46,.tmp 3] ?_;exact wk1 (x3 hz' f1 f2) trivial
def q8g (hV:q0Z V):ACt 190 [dT V] (.tu [dT V,bv true]):=by
 obtain ⟨h1,h2,h3⟩:=q1B hV;exact qq2 rfl Oq Oq Oq (qa9 hV)
def q9w (hV:q0Z V):ACt 209 [dT V] (dT V):=by
 have C1:=q8g hV;refine ac0 Tryz.func209 Tryz.ntmps209 [.cell 2 46] ?_;exact wk trivial
def q4m (hV:q0Z V):ACt 156 [dT V] (iv V.sign):=by
 have C1:=q8g hV;have C2:=@q3b;have:=(q1B hV).2.2;refine ac0 Tryz.func156 Tryz.ntmps156 [.tmp 2] ?_;exact wk1 (qs8 V) trivial
def qcc (hV:q0Z V):ACt 192 [dT V] (dT (-V)):=by
 have C1:=q8g hV;have C2:=@q6o;have:=(q1B hV).2.2;have f1:=(qdu V).symm;have f2:=q92 V;refine ac0 Tryz.func192 Tryz.ntmps192 [.cell 2 46] ?_;exact wk1 (x2 f1 f2) trivial
def q3X {s:Bool} (hs:s=decide (m < 0)) (hb:bl m.natAbs<=1000000) (he1 : -1000000<=e) (he2:e<=1000000) (hv:mkV m e=some V):ACt 131 [sT s m,iv e] (dT V):=by
 have C1:=qq2 hs hb he1 he2 hv;refine ac0 Tryz.func131 Tryz.ntmps131 [.cell 4 46] ?_;exact wk trivial
def q8f (ha:q0Z a) (hb:q0Z b):ACt 195 [dT a,dT b] (.tu [dT a,dT b,bv true]):=by
 have C1:=q8g ha;have C2:=q8g hb;refine ac0 Tryz.func195 Tryz.ntmps195 [.cell 4 46,.cell 5 46,.tmp 6] ?_;exact wk trivial
def q8h (ha:q0Z a) (hb:q0Z b) (hv:mkV (a*b) (-131072)=some V):ACt 121 [dT a,dT b] (dT V):=by
 obtain ⟨ha1,ha2,ha3⟩:=q1B ha;obtain ⟨hb1,hb22,hb33⟩:=q1B hb;have hmul:=q1s (od a).natAbs (od b).natAbs;rw [<- yZ] at hmul;have C1:=q8f ha hb;have C2:=@qnZ;have C3:=q3X (m:=od a*od b) (e:=dyE a+dyE b) rfl Oq Oq Oq ((qeF a b).trans hv);refine ac0 Tryz.func121 Tryz.ntmps121 [.cell 4 46] ?_;exact wk trivial
end
abbrev reT (neg:Bool) (q:Nat) (e:Int) (inx:Bool):PV:=.ag [bv neg,bv false,.fm (fL q),iv e,bv inx]
section
variable {neg inx:Bool} {q k:Nat} {e p:Int}
def q9x (hb:bl q<=1000000) (he1 : -1000000<=e) (he2:e<=1000000):ACt 246 [reT neg q e inx] (iv (e+bl q-1)):=by
 have C1:=@q2y;refine ac0 Tryz.func246 Tryz.ntmps246 [.tmp 2] ?_;exact wk trivial
def qce (hq:q≠0) (hb:bl q<=1000000) (hk:0 < k) (hk2:k<=5000000):ACt 275 [reT neg q e inx,iv k] (.tu [bT (q / 2 ^ k:Nat),iv (Go.Sp.hf q k inx),bv (decide (q % 2 ^ k=0) && !inx)]):=by
 have C1:=@q2y
 by_cases hkb:bl q < k
 .have hqp:=q27 q;have hp1:2 ^ bl q<=2 ^ (k-1):=yS Oq Oq;have hp2:2 ^ (k-1)<=2 ^ k:=yS Oq Oq;have hmod:q % 2 ^ k=q:=Nat.mod_eq_of_lt Oq;have hdiv:q / 2 ^ k=0:=Nat.div_eq_of_lt Oq;have hhf:Go.Sp.hf q k inx = -1:=by
   unfold Go.Sp.hf;have:(((q % 2 ^ k:Nat):Int)-2 ^ (k-1)).sign = -1:=by
    refine Int.sign_eq_neg_one_of_neg ?_;rw [hmod,<- q0N]; omega
   rw [this]; simp
  have hex:(decide (q % 2 ^ k=0) && !inx)=false:=by rw [hmod,decide_eq_false hq]; rfl
  rw [hdiv,hhf,hex];refine ac0 Tryz.func275 Tryz.ntmps275 [.cell 4 42,.tmp 5,.tmp 6] ?_;exact wk trivial
 .have C2:=@q7X;have C3:=@q2s;have C4:=@qnY;have C5:=@q1n;have C6:=@qe3;have C7:=@q3b;have hsh:shI ((q:Nat):Int) (-(k:Int))=((q / 2 ^ k:Nat):Int):=by
   unfold shI; rw [if_neg ω,show (- -(k:Int)).toNat=k by omega,<- q0N]; rfl
  have hql:bl (q / 2 ^ k)<=1000000:=uY (q0r (yU _ _)) hb;have hsl:shI ((q / 2 ^ k:Nat):Int) (k:Int)=((q / 2 ^ k*2 ^ k:Nat):Int):=by
   unfold shI; rw [if_pos ω,zF,<- q0N]; simp
  have hbm:bl (q / 2 ^ k*2 ^ k)<=1000000:=uY (q0r (Nat.div_mul_le_self _ _)) hb;have hrs:((q:Nat):Int)-((q / 2 ^ k*2 ^ k:Nat):Int)=((q % 2 ^ k:Nat):Int):=by
   have:=Nat.div_add_mod q (2 ^ k);rw [yW] at this; omega
  have hbr:bl (q % 2 ^ k)<=1000000:=uY (q0r (xF _ _)) hb;have hs1:shI 1 ((k:Int)-1)=(2:Int) ^ (k-1):=by
   unfold shI; rw [if_pos ω,show ((k:Int)-1).toNat=k-1 by omega,Int.one_mul]
  have hb1:bl ((2:Int) ^ (k-1)).natAbs<=k:=by
   rw [natAbs_pow]; exact q0O (Nat.pow_lt_pow_right ω ω)
  have hb2:bl (1:Int).natAbs<=1:=by show bl 1<=_; rw [q59]; omega
  have sE:(((q % 2 ^ k:Nat):Int).sign == 0)=decide (q % 2 ^ k=0):=by
   by_cases h0:q % 2 ^ k=0
   .rw [h0]; rfl
   .rw [decide_eq_false h0,beq_eq_false_iff_ne];intro h; exact h0 (by have:=zP.1 h; omega)
  have hhf:Go.Sp.hf q k inx=if (((q % 2 ^ k:Nat):Int)-2 ^ (k-1)).sign=0/\inx=true then 1 else (((q % 2 ^ k:Nat):Int)-2 ^ (k-1)).sign:=rfl
  rw [hhf];generalize hr:q % 2 ^ k=r at *;generalize hz:q / 2 ^ k=z at *;generalize hw:z*2 ^ k=zw at *;generalize hP:(2:Int) ^ (k-1)=P at *;refine ac0 Tryz.func275 Tryz.ntmps275 [.cell 4 42,.tmp 5,.tmp 6] ?_;refine wk1 (x4 hsh hsl hrs hs1) ?_
  by_cases hS:((r:Int)-P).sign=0
  .rw [hS];cases inx
   .rw [if_neg λh=>Bool.noConfusion h.2]
    by_cases h0:r=0
    .exact wk1 (x2 sE (decide_eq_true h0)) trivial
    .exact wk1 (x2 sE (decide_eq_false h0)) trivial
   .rw [if_pos ⟨rfl,rfl⟩]
    by_cases h0:r=0
    .exact wk1 (x2 sE (decide_eq_true h0)) trivial
    .exact wk1 (x2 sE (decide_eq_false h0)) trivial
  .rw [if_neg λh=>hS h.1]
   by_cases h0:r=0
   .exact wk1 (x2 sE (decide_eq_true h0)) trivial
   .exact wk1 (x2 sE (decide_eq_false h0)) trivial
def qgY (hq:q≠0) (hb:bl q<=900000) (he1 : -900000<=e) (he2:e<=900000) (hp1 : -100000<=p) (hp2:p<=1000000):ACt 248 [reT neg q e inx,iv p,iv 0] (bT (sgn neg (qnC q e p inx))):=by
 have C1:=@q2s;have C2:=@q6o;have s0:∀ n:Nat,sgn false n=n:=λn=>rfl;have s1:∀ n:Nat,sgn true n = -(n:Int):=λn=>rfl
 by_cases hpe:p<=e
 .have hsl:shI ((q:Nat):Int) (e-p)=((q*2 ^ (e-p).toNat:Nat):Int):=by
   unfold shI; rw [if_pos ω,<- q0N]; simp
  have hbq:bl (q*2 ^ (e-p).toNat)<=2000000:=by rw [q1F hq]; omega
  rw [show qnC q e p inx=q*2 ^ (e-p).toNat from if_pos hpe];generalize q*2 ^ (e-p).toNat=z at *;refine ac0 Tryz.func248 Tryz.ntmps248 [.cell 6 42] ?_;cases neg
  .exact wk1 (x2 hsl s0) trivial
  .exact wk1 (x2 hsl s1) trivial
 .obtain ⟨k,hk⟩:∃ k:Nat,p-e=k:=⟨(p-e).toNat,by omega⟩;have hbq:bl (q / 2 ^ k)<=2000000:=uY (q0r (yU _ _)) Oq;have C3:=qce (neg:=neg) (inx:=inx) (e:=e) (q:=q) (k:=k) hq Oq Oq Oq;have C4:=@q1n;have C5:=@q6p;have C6:=@q3b;have C7:=@qk7;have hb2:bl (1:Int).natAbs<=1:=by show bl 1<=_; rw [q59]; omega
  have hm:qnC q e p inx=q / 2 ^ k+(if ¬ (q % 2 ^ k=0/\inx=false)/\(0 < Go.Sp.hf q k inx\/(Go.Sp.hf q k inx=0/\q / 2 ^ k % 2=1)) then 1 else 0):=by
   unfold qnC; rw [if_neg hpe,show (p-e).toNat=k by omega]
  generalize qnC q e p inx=m at *;generalize Go.Sp.hf q k inx=H at *;generalize hr:q % 2 ^ k=r at *;generalize hz:q / 2 ^ k=z at *;have hbz:bl ((z:Int)+1).natAbs<=2000001:=by
   have:=q5a (k:=2000000) (a:=z) (b:=1) ω (by rw [q59]; omega);exact this
  have e2:((z+1:Nat):Int)=(z:Int)+1:=rfl;refine ac0 Tryz.func248 Tryz.ntmps248 [.cell 6 42] ?_
  by_cases hex:r=0/\inx=false
  .have f:(decide (r=0) && !inx)=true:=by simp [hex]
   rw [if_neg λh=>h.1 hex,yX] at hm;subst hm;cases neg
   .exact wk1 (x3 hk f s0) trivial
   .exact wk1 (x3 hk f s1) trivial
  .have f:(decide (r=0) && !inx)=false:=by
    rw [Bool.and_eq_false_iff]
    by_cases h:r=0
    .exact .inr (by cases inx <;> simp_all)
    .exact .inl (decide_eq_false h)
   by_cases hh:0 < H
   .rw [if_pos ⟨hex,.inl hh⟩] at hm;subst hm;cases neg
    .exact wk1 (x4 hk f s0 e2) trivial
    .exact wk1 (x4 hk f s1 e2) trivial
   .by_cases h0:H=0
    .by_cases hodd:z % 2=1
     .rw [if_pos ⟨hex,.inr ⟨h0,hodd⟩⟩] at hm;subst hm;have q3:(((z:Nat):Int).sign != 0)=true:=by rw [zX ω]; rfl
      have q4:(((tz z:Nat):Int) == 0)=true:=by rw [qaA hodd]; rfl
      cases neg
      .exact wk1 (x6 hk f q3 q4 s0 e2) trivial
      .exact wk1 (x6 hk f q3 q4 s1 e2) trivial
     .rw [if_neg λh=>h.2.elim hh λh=>hodd h.2,yX] at hm;subst hm
      by_cases hz0:m=0
      .have q3:(((m:Nat):Int).sign != 0)=false:=by rw [hz0]; rfl
       cases neg
       .exact wk1 (x4 hk f q3 s0) trivial
       .exact wk1 (x4 hk f q3 s1) trivial
      .have q3:(((m:Nat):Int).sign != 0)=true:=by rw [zX ω]; rfl
       have q4:(((tz m:Nat):Int) == 0)=false:=by
        rw [beq0];refine decide_eq_false λh0=>hodd ?_;obtain ⟨r,hr,he⟩:=q2f hz0;rw [h0,Nat.pow_zero,xN] at he;omega
       cases neg
       .exact wk1 (x5 hk f q3 q4 s0) trivial
       .exact wk1 (x5 hk f q3 q4 s1) trivial
    .rw [if_neg λh=>h.2.elim hh λh=>h0 h.1,yX] at hm;subst hm;cases neg
     .exact wk1 (x3 hk f s0) trivial
     .exact wk1 (x3 hk f s1) trivial
end
def qca {a b:Int} (hA:q0Z a) (hB:q0Z b) (ha:a≠0) (hb:b≠0):∃ k:Nat,(bl (od b).natAbs+58 < bl ((od a).natAbs*2 ^ k)/\k<=140000/\bl ((od a).natAbs*2 ^ k)<=140000) /\
  ACt 211 [dT a,dT b,iv 56] (reT (decide (a < 0) != decide (b < 0)) ((od a).natAbs*2 ^ k / (od b).natAbs) (dyE a-k-dyE b) (decide ((od a).natAbs*2 ^ k % (od b).natAbs≠0))):=by
 obtain ⟨ha1,ha2,ha3⟩:=q1B hA;obtain ⟨hb1,hb2,hb3⟩:=q1B hB;have hoa:=q39 ha;have hob:=q39 hb;rw [<- q21 a,<- q21 b];have C1:=@q2y;have C2:=@q6q;have C3:=@q2s;have C4:=@qbt;have C5:=@q3b;obtain ⟨p,hp⟩:∃ p,(od a).natAbs=p:=⟨_,rfl⟩;obtain ⟨r,hr⟩:∃ r,(od b).natAbs=r:=⟨_,rfl⟩;have hbp:=hp ▸ ha3;have hbr:=hr ▸ hb3;rw [hp,hr];have hp0:p≠0:=ω
 have hr0:r≠0:=ω
 obtain ⟨k,hk⟩:∃ k:Nat,max 0 (56+3+((bl r:Nat):Int)-((bl p:Nat):Int))=k:=⟨(max 0 (56+3+((bl r:Nat):Int)-((bl p:Nat):Int))).toNat,ω⟩;have hbN:bl (p*2 ^ k)=bl p+k:=q1F hp0 k;refine ⟨k,⟨ω,ω,ω⟩,?_⟩;have hsh:shI ((p:Nat):Int) (k:Int)=((p*2 ^ k:Nat):Int):=by
  unfold shI; rw [if_pos ω,zF,<- q0N]; simp
 have hml:bl (p*2 ^ k % r)<=300000:=uY (q0r (xF _ _)) Oq;have sE:(((p*2 ^ k % r:Nat):Int).sign != 0)=decide (p*2 ^ k % r≠0):=by
  by_cases h0:p*2 ^ k % r=0
  .rw [h0]; rfl
  .rw [decide_eq_true h0,bne_iff_ne];intro h; exact h0 (by have:=zP.1 h; omega)
 refine ac0 Tryz.func211 Tryz.ntmps211 [.cell 6 240] ?_;exact wk1 (x6 hp hr @qkR hk hsh sE) trivial
def clD {l:List Int}:ClL (l.map λx=>dT x):=λx hx=>by
 obtain ⟨z,_,rfl⟩:=zQ.1 hx;intro y hy;simp at hy
 rcases hy with rfl | rfl | rfl | rfl <;> trivial
def q5C {l:List Int} (hn:l.length<=1000) (ho:∀ x ∈ l,q0Z x) (hv:q0Z (q1M l)):ACt 122 [.sl (some 4) (l.map λV=>pV V)] (dT (q1M l)):=by
 refine ac0 Tryz.func122 Tryz.ntmps122 [.cell 2 46] ?_;refine wk ?_;refine q0B (λq:Nat × Int=>q.1<=l.length /\ -65536<=q.2/\q.2<=0/\∀ x ∈ l.take q.1,q.2<=dyE x) [0,2,12,13] [2] Lk Lk (λq=>[(14,iv q.1),(4,iv q.2),(3,.ow 1001 (some 4) 0 q.1)]) (λq=>[(1001,⟨46,some 4,(l.take q.1).map λx=>dT x,false⟩)]) (λq=>l.length-q.1) (0,0) ⟨zG _,ω,ω,λx hx=>by simp at hx⟩ ?_ ?_
 .refine LeM [(1001,none)] rfl rfl ?_;refine Zz ?_
  rfl
 .rintro ⟨i,lo⟩ ⟨hi,hlo1,hlo2,hmin⟩;simp only at hi hlo1 hlo2 hmin ⊢
  by_cases hlt:i < l.length
  .obtain ⟨x,hxi⟩:∃ x,l[i]?=some x:=⟨_,zA Oq⟩;have hox:=ho x (zE hxi);obtain ⟨hd1,hd2,hd3⟩:=q1B hox;have C1:=qjD κ λh=>q8g h (V:=x);have htk:l.take (i+1)=l.take i ++ [x]:=by
    obtain ⟨hlt,he⟩:=zB.1 hxi;rw [uV hlt,he]
   have ht:(l.take i).length=i:=by rw [List.length_take]; omega
   refine wk1 (x3 hxi @qkQ ht) ?_;refine ⟨(i+1,min lo (dyE x)),⟨by simp only; omega,by simp only; omega,by simp only; omega,λy hy=>?_⟩,by simp only; omega,?_⟩
   .simp only at hy ⊢;rw [htk] at hy
    rcases zN.1 hy with hy | hy
    .have:=hmin y hy; omega
    .simp at hy; subst hy; omega
   .simp only;refine LeM [(1001,some 33)] rfl rfl ?_;refine Zz ?_;exact ⟨ω,q0R (by rw [htk,yL]; rfl) clD⟩
  .obtain rfl:i=l.length:=ω
   rw [zS] at hmin;refine wk ?_;refine q0B (λq:Nat × Int=>q.1<=l.length/\q.2*(2:Int) ^ (lo+65536).toNat=q1M (l.take q.1)) [2,4,9,35,36] [2,1001] Lk Lk (λq=>[(37,iv q.1)]) (λq=>[(9,⟨42,some 2,[bT q.2],false⟩)]) (λq=>l.length-q.1) (0,0) ⟨zG _,by rw [z7]; rfl⟩ ?_ ?_
   .refine LeM [] rfl rfl ?_;refine Zz ?_;exact ⟨rfl,rfl,q0R rfl clD⟩
   .rintro ⟨j,tot⟩ ⟨hj,hs⟩;simp only at hj hs ⊢;have hbs:=qj3 (i:=j) ho Oq;have hbt:=q3r hs
    by_cases hlt:j < l.length
    .obtain ⟨x,hxi⟩:∃ x,l[j]?=some x:=⟨_,zA Oq⟩;have hox:=ho x (zE hxi);obtain ⟨hd1,hd2,hd3⟩:=q1B hox;have hst:=q5K l j x hxi;have hlo:=hmin x (zE hxi);have hsh:shI (od x) (dyE x-lo)=od x*(2:Int) ^ (dyE x-lo).toNat:=by unfold shI; rw [if_pos ω]
     have hlf:=q22 (V:=x) (E:=lo) Oq Oq;have hb12:=q3r hlf;have hbx:bl x.natAbs<=131072:=hox;have C1:=@q2s;have C2:=@q6p;refine wk1 (x2 hxi hsh) ?_;refine ⟨(j+1,tot+od x*(2:Int) ^ (dyE x-lo).toNat),⟨by simp only; omega,by simp only; rw [hst,Int.add_mul,hs,hlf]⟩,by simp only; omega,?_⟩;simp only;refine LeM [] rfl rfl ?_;refine Zz ?_;exact ⟨ω,q0R rfl clD⟩
    .obtain rfl:j=l.length:=ω
     rw [zS] at hs hbs hbt;have C1:=@q3X;have hmk:mkV tot lo=some (q1M l):=by rw [q4u ω hs]; exact q23 hv
     exact wk trivial
section
variable {f:Nat} {neg:Bool}
def q52 (hf:f < 18446744073709551616):ACt 155 [uv f] (.tu [iv (f / 4503599627370496 % 2048:Nat),uv (f % 4503599627370496:Nat)]):=by
 have h1:=q3u (a:=f / 4503599627370496) Oq;have h2:=q7J hf;refine ac0 Tryz.func155 Tryz.ntmps155 [.tmp 2,.tmp 3] ?_;exact wk1 (x2 h1 h2) trivial
def qoG (hf:f < 18446744073709551616):ACt 193 [uv f] (bv (decide (9223372036854775808<=f))):=by
 have h2:=qdv hf;refine ac0 Tryz.func193 Tryz.ntmps193 [.tmp 2] ?_;exact wk1 h2 trivial
def q2R (hf:f < 9223372036854775808):ACt 249 [uv f,bv neg] (uv (sb neg f:Nat)):=by
 have h:=qdq hf;refine ac0 Tryz.func249 Tryz.ntmps249 [.tmp 4] ?_;cases neg
 .exact wk1 (show sb false f=f from rfl) trivial
 .exact wk1 (x2 h (show sb true f=f+9223372036854775808 from rfl)) trivial
def q9X (hf:f < 18446744073709551616):ACt 88 [uv f] (bv (decide (q0I f))):=by
 have C1:=q52 hf;have h2:(((f / 4503599627370496 % 2048:Nat):Int) != 2047)=decide (q0I f):=bneN (b:=2047);refine ac0 Tryz.func88 Tryz.ntmps88 [.tmp 2] ?_;exact wk1 h2 trivial
def qiV:ACt 250 [bv neg,iv 0] (uv (q6f 0 neg:Nat)):=by
 have C1:=q2R (f:=9218868437227405312) (neg:=neg) Oq;have e:q6f 0 neg=sb neg 9218868437227405312:=by simp [q6f]
 refine ac0 Tryz.func250 Tryz.ntmps250 [.tmp 4] ?_;exact wk1 e trivial
def q8N {V:Int} (hf:f < 18446744073709551616) (hv:ofF f=some V):ACt 113 [uv f] (dT V):=by
 have hfin:q0I f:=λh=>by unfold ofF at hv; rw [if_pos h] at hv; cases hv
 obtain ⟨V',hv',hmk⟩:=q9G hfin;rw [hv] at hv'; cases hv';have C1:=q52 hf;have C2:=qoG hf;have C3:=@q1n;have C4:=@q6o;have C5:=@q3X;have hxm:=yQ (f / 4503599627370496) (show 0 < 2048 by omega);have hm:=yQ f (show 0 < 4503599627370496 by omega);unfold q0I at hfin;generalize f / 4503599627370496 % 2048=x at *;generalize f % 4503599627370496=m at *;generalize decide (9223372036854775808<=f)=sg at *;have h4:=qkD hm;obtain ⟨M,hM⟩:∃ M,M=if x=0 then m else 4503599627370496+m:=⟨_,rfl⟩
 have hMl:M < 9007199254740992:=by rw [hM]; split <;> omega
 have hbl:bl M<=53:=q0O (show M < 2 ^ 53 by omega);have hbn:bl (-(M:Int)).natAbs<=53:=by rw [yC]; exact hbl
 refine ac0 Tryz.func113 Tryz.ntmps113 [.cell 2 46] ?_
 by_cases hx0:x=0
 .rw [if_pos hx0] at hM;subst hM;rw [if_pos hx0,if_pos hx0] at hmk;cases sg
  .exact wk trivial
  .exact wk trivial
 .rw [if_neg hx0] at hM;rw [if_neg hx0,if_neg hx0,<- hM] at hmk;rw [<- hM] at h4;cases sg
  .exact wk1 h4 trivial
  .exact wk1 h4 trivial
end
def qe2 {a:Int} {s:Bool} (hs:s=decide (a < 0)) (h0:0<=a) (ha:a<=9223372036854775807):ACt 247 [sT s a] (.tu [iv a,bv true]):=q3F (qh6 hs h0 ha)
def q9V {N M:Nat} {neg:Bool} {e:Int} (hM:0 < M) (hN:M<=N) (hmb:N % M≠0->55<=bl (N / M)) (hb:bl (N / M)<=200000) (he1 : -400000<=e) (he2:e<=400000):ACt 210 [reT neg (N / M) e (decide (N % M≠0)),iv 0] (uv (rE 0 neg N M e:Nat)):=by
 have hp:=xO hN hM;have hL1:=q3s (n:=N / M) Oq;have hval:=qbj (mode:=0) (neg:=neg) (e:=e) hM hN;have hnle:=qhD (mode:=0) (neg:=neg) (e:=e) (q:=max (e+(bl (N / M):Int)-53) (-1074)) hM hN Oq;have hmul:=qnB (neg:=neg) (e:=e) (p:=max (e+(bl (N / M):Int)-53) (-1074)) hM (λh=>by have:=hmb h; omega);have C1:=q9x (neg:=neg) (q:=N / M) (e:=e) (inx:=decide (N % M≠0)) Oq Oq Oq;obtain ⟨L,hL⟩:∃ L,bl (N / M)=L:=⟨_,rfl⟩;rw [hL] at hmb hb hval hnle hmul hL1 C1;obtain ⟨q,hq⟩:∃ q,max (e+(L:Int)-53) (-1074)=q:=⟨_,rfl⟩;rw [hq] at hval hnle hmul;have hq':max (e+(L:Int)-1-52) (-1074)=q:=by omega
 have C2:=qgY (neg:=neg) (inx:=decide (N % M≠0)) (q:=N / M) (e:=e) (p:=q) Oq Oq Oq Oq Oq Oq;rw [hmul] at C2;obtain ⟨r,hr⟩:∃ r,rq 0 neg (N*2 ^ (e-q).toNat) (M*2 ^ (q-e).toNat)=r:=⟨_,rfl⟩;rw [hr] at hval hnle C2;have hbr:bl r<=54:=q0O (uZ hnle (by decide));have hsn:=q0h neg r;have hbs:bl (sgn neg r).natAbs<=54:=by rw [hsn]; exact hbr
 have C3:=@q6q;have C4:=@qe2;have C5:=@q2R;have C6:=@qiV;have e2:IntKind.u64.wrap ((r:Nat):Int)=r:=u64_in Oq Oq;rw [hval];generalize N / M=d at *;generalize decide (N % M≠0)=ix at *;clear hmul hmb hp hval hr;unfold Go.Sp.fin Go.Sp.q4g;have comp:∀ (q2:Int) (n2:Nat),0<=q2+1075->¬ 2047<=q2+1075->4503599627370496<=n2->n2 < 9007199254740992->∃ x:Nat,q2+1075=x/\(q2+1075).toNat=x/\IntKind.u64.wrap (x:Int)=x/\(q0q Tryz.prog .shl 32 (.int .u64 (x:Int)) (.int .u64 52)=some (.int .u64 ((x*4503599627370496:Nat):Int)))/\IntKind.u64.wrap ((n2:Int)-4503599627370496)=((n2-4503599627370496:Nat):Int)/\q0d .or .u64 ((x*4503599627370496:Nat):Int) ((n2-4503599627370496:Nat):Int)=((x*4503599627370496+(n2-4503599627370496):Nat):Int)/\x*4503599627370496+(n2-4503599627370496) < 9223372036854775808:=λq2 n2 h1 h2 h3 h4 =>
  ⟨(q2+1075).toNat,ω,rfl,u64_in ω ω,q68 ω,by rw [u64_in ω ω]; omega,qdr ω ω,ω⟩
 refine ac0 Tryz.func210 Tryz.ntmps210 [.tmp 4] ?_
 by_cases h53:r=9007199254740992
 .rw [if_pos h53,if_neg ω]
  by_cases hov:2047<=q+1+1075
  .rw [if_pos hov];exact wk1 (x3 hq' hsn e2) trivial
  .rw [if_neg hov];obtain ⟨x,f1,f2,f3,f4,f5,f6,f7⟩:=comp (q+1) 4503599627370496 Oq hov Oq Oq;rw [f2,xK,yX];rw [xK,yX] at f6 f7;replace f5:IntKind.u64.wrap (4503599627370496-4503599627370496)=0:=f5;replace f6:q0d .or .u64 ((x*4503599627370496:Nat):Int) 0=((x*4503599627370496:Nat):Int):=f6;exact wk1 (x6 hq' hsn e2 f1 f3 (x3 f4 f5 f6)) trivial
 .rw [if_neg h53]
  by_cases h52:r < 4503599627370496
  .rw [if_pos h52];exact wk1 (x3 hq' hsn e2) trivial
  .rw [if_neg h52]
   by_cases hov:2047<=q+1075
   .rw [if_pos hov];exact wk1 (x3 hq' hsn e2) trivial
   .rw [if_neg hov];obtain ⟨x,f1,f2,f3,f4,f5,f6,f7⟩:=comp q r Oq hov Oq Oq;rw [f2];exact wk1 (x6 hq' hsn e2 f1 f3 (x3 f4 f5 f6)) trivial
end Go.Proofs.YtbjoghfmhgadkaaGreatDoor
namespace Go.E
open Go
section
variable {G:Fam} {D:Nat->Prop} {A:Option Addr} {v:Value} {w w':World} {L:List Nat} {α:Type} {H:α->Fam} {T sz B n c:Nat} {l:List α}
end
end Go.E
namespace Go.Proofs.YtbjoghfmhgadkaaGreatDoor
open Go Go.E Go.Sp
section
variable {f:Nat} {w:World}
end
section
variable {g:FuncId} {al:List PV} {vs:List Value} {V:Int} {c:Value} {D:Nat->Prop} {w:World} {v v':Value} {a b:Int}
end
def q10 (l:List Nat):Prop:=∀ f ∈ l,f < 18446744073709551616/\q0I f
section
variable {D:Nat->Prop} {A:Option Addr} {n c:Nat} {l:List Nat} {w:World}
def q2I (n:Nat):List Int:=(List.range n).map λk:Nat=>(k:Int)
def qck (n:Nat):q2I (n+1)=q2I n ++ [(n:Int)]:=by unfold q2I; rw [y9,yL]; rfl
def q4n (n:Nat):(q2I n).length=n:=by simp [q2I]
end
end Go.Proofs.YtbjoghfmhgadkaaGreatDoor
namespace Go.E
open Go
end Go.E
namespace Go.Proofs.YtbjoghfmhgadkaaGreatDoor
open Go Go.E Go.Sp
section
variable {D:Nat->Prop} {A:Option Addr} {n c:Nat} {l:List Int} {w:World}
end
end Go.Proofs.YtbjoghfmhgadkaaGreatDoor
namespace Go.E
open Go Go.Sp
section
variable {D:Nat->Prop} {A:Option Addr} {n c:Nat} {w:World}
end
end Go.E
namespace Go.Proofs.YtbjoghfmhgadkaaGreatDoor
open Go Go.E Go.Sp
structure Fac where
 pm:List Int
 cp:List Int
 ri:List Int
 vs:List Nat
section
variable {D:Nat->Prop} {L:List Nat} {N0 g n:Nat} {rows:List (List Int)} {ss:List (Option Addr × Nat × Nat)} {w w':World}
end
section
variable {D:Nat->Prop} {L:List Nat} {N0 g n i:Nat} {rows:List (List Int)} {ss:List (Option Addr × Nat × Nat)} {w w2 w3:World} {A A':Option Addr} {m c m' c':Nat} {r r':List Int}
end
section
variable {D:Nat->Prop} {L:List Nat} {N0 g n i:Nat} {rows:List (List Int)} {ss:List (Option Addr × Nat × Nat)} {w w2 w3:World} {r:List Int} {x y:Nat} {a b V:Int}
end
def rows0 (vals:List Int) (i n:Nat):List (List Int):=(vals.take i).map (λV=>[V]) ++ List.replicate (n-i) []
end Go.Proofs.YtbjoghfmhgadkaaGreatDoor
namespace Go.Sp
open Go Go.E
end Go.Sp
namespace Go.Proofs.YtbjoghfmhgadkaaGreatDoor
open Go.Sp
end Go.Proofs.YtbjoghfmhgadkaaGreatDoor
namespace Go.Sp
open Go Go.E
def ofZ (x:Nat):Int:=(ofF x).getD 0
def q0v (x y:Nat):Int:=(mkV (ofZ x*ofZ y) (-131072)).getD 0
def q2A {f:Nat} (hf:q0I f):∃ (m:Int) (k:Nat),ofF f=some (m*(2:Int) ^ k)/\bl m.natAbs<=53/\64462<=k/\k<=66507:=by
 unfold q0I at hf;have hx:=yQ (f / 4503599627370496) (show 0 < 2048 by omega);have hm:=yQ f (show 0 < 4503599627370496 by omega);unfold ofF;rw [if_neg hf];generalize f / 4503599627370496 % 2048=x at *;generalize f % 4503599627370496=m at *;have h53:∀ n:Nat,n < 9007199254740992->bl n<=53:=λn h=>q0O (u6 h (zU _))
 split
 .exact ⟨_,64462,rfl,by rw [q0h]; exact h53 _ Oq,ω,ω⟩
 .exact ⟨_,64461+x,rfl,by rw [q0h]; exact h53 _ Oq,ω,ω⟩
def q0S {f:Nat} {V:Int} (h:ofF f=some V):ofZ f=V:=by unfold ofZ; rw [h]; rfl
def q0i {f:Nat} (hf:q0I f):ofF f=some (ofZ f):=by
 obtain ⟨m,k,h,_⟩:=q2A hf;rw [q0S h,h]
def q42 {f:Nat} (hf:q0I f):bl (ofZ f).natAbs<=67600:=by
 obtain ⟨m,k,h,h1,h2,h3⟩:=q2A hf;rw [q0S h]
 by_cases hm:m=0
 .subst hm; rw [z7]; simp [q0m]
 .rw [q0G,q1F ω]; omega
def q1f {x y:Nat} (hx:q0I x) (hy:q0I y):mkV (ofZ x*ofZ y) (-131072)=some (q0v x y)/\bl (q0v x y).natAbs<=67600:=by
 obtain ⟨m,k,h,h1,h2,h3⟩:=q2A hx;obtain ⟨m',k',h',h1',h2',h3'⟩:=q2A hy;have e:ofZ x*ofZ y=m*m'*(2:Int) ^ (k+k'):=by
  rw [q0S h,q0S h',Int.pow_add];simp only [yR,Int.mul_left_comm,yN]
 unfold q0v;rw [e,q1S]
 by_cases hM:m*m'=0
 .rw [hM,q1R]; exact ⟨rfl,by simp [q0m]⟩
 .have hb:bl (m*m').natAbs<=106:=by
   rw [yZ];exact uY (q1s _ _) Oq
  generalize m*m'=M at *;have ht:=qg8 (n:=M.natAbs) Oq;unfold mkV;rw [if_neg hM,if_pos ω];refine ⟨rfl,?_⟩;have ho:=q9g hM;have hne:=q39 hM;rw [yK,q0G,q1F ω];omega
end Go.Sp
namespace Go.Proofs.YtbjoghfmhgadkaaGreatDoor
open Go Go.E Go.Sp
def getD_some {α:Type} {l:List α} {i:Nat} {x d:α} (h:l[i]?=some x):l.getD i d=x:=by rw [zC,h]; rfl
def qeb {l:List Nat} {i:Nat} (h:∀ x ∈ l,x < 18446744073709551616/\q0I x):l.getD i 0 < 18446744073709551616/\q0I (l.getD i 0):=by
 rw [zC];cases hx:l[i]? with
 | none=>exact ⟨σ,by unfold q0I; simp⟩
 | some x=>exact h x (zE hx)
def q28 {x:Nat} {V:Int} (hx:x < 18446744073709551616) (hv:ofF x=some V):ACt 33 [uv x] (pV V):=by
 obtain ⟨V',hv',hmk⟩:=q9G (f:=x) λh=>by unfold ofF at hv; rw [if_pos h] at hv; cases hv
 rw [hv] at hv'; cases hv';exact q1u (q3F (qs7 hx hv)) (q43 hmk).2.2.2
def clI {l:List Int}:ClL (l.map λz=>iv z):=λx hx=>by
 obtain ⟨e,_,rfl⟩:=zQ.1 hx
 trivial
def q8s {a:Int} (ha:bl a.natAbs<=20000000):ACt 76 [bT a] (bT a.natAbs):=q3F (q6e ha)
def qlz {a:Int} (ha:bl a.natAbs<=20000000):ACt 105 [bT a] (bT (-a)):=q3F (qaV rfl ha)
def qeE {V:Int} (h:q0Z V):mkV (-od V) (dyE V)=some (-V):=by
 have:=qa9 (qi3 h)
 rwa [qdu,q92] at this
def qnJ {V:Int} (h:q0Z V):mkV ((od V).natAbs:Int) (dyE V)=some (V.natAbs:Int):=by
 have hs:=q21 V
 by_cases hv:V < 0
 .rw [decide_eq_true hv] at hs;have ho:od V < 0:=of_decide_eq_true hs;rw [show ((od V).natAbs:Int) = -od V by omega,show (V.natAbs:Int) = -V by omega];exact qeE h
 .rw [decide_eq_false hv] at hs;have ho:¬ od V < 0:=of_decide_eq_false hs;rw [show ((od V).natAbs:Int)=od V by omega,show (V.natAbs:Int)=V by omega];exact qa9 h
def qfR {V:Int}:ACt 44 [pV V] (pV (-V)):=qjD quu λho=>by
 have hb:=q26 ho;have h1:=q8P (V:=V);have h2:=q6M ho;have cN:=q0t ho;have cB:=qlz (a:=od V) Oq;have cM:=q3k rfl (m := -od V) (e:=dyE V) (by rw [yC]; omega) ω ω (qeE ho);unfold dT at cN ⊢;unfold bT at cB cM;refine ac0 Tryz.func44 Tryz.ntmps44 [.cell 2 46] ?_;exact wk trivial
def q96 {V:Int}:ACt 46 [pV V] (pV (V.natAbs:Int)):=qjD qut λho=>by
 have hb:=q26 ho;have h1:=q8P (V:=V);have h2:=q6M ho;have cN:=q0t ho;have cB:=q8s (a:=od V) Oq;have cM:=q3k rfl (m:=((od V).natAbs:Int)) (e:=dyE V) (by rw [zJ]; omega) ω ω (qnJ ho);unfold dT at cN ⊢;unfold bT at cB cM;refine ac0 Tryz.func46 Tryz.ntmps46 [.cell 2 46] ?_;exact wk trivial
def q1e {a:Int} (ha:bl a.natAbs<=20000000):ACt 106 [bT a] (iv a.sign):=q3i rfl ha
def q5I {a m:Int} (ha:bl a.natAbs<=20000000) (h1 : -1000000000<=m) (h2:m<=1000000000):ACt 107 [bT a,iv m] (bT (shI a m)):=q3j rfl ha h1 h2
structure Aln (A B x y e:Int):Prop where
 e1 : -65536<=e
 e2:e<=65536
 a:x*(2:Int) ^ (e+65536).toNat=A
 b:y*(2:Int) ^ (e+65536).toNat=B
def qeP {x V:Int} {k:Nat} (h:x*(2:Int) ^ k=V) (hv:q0Z V):bl x.natAbs<=131072:=by
 subst h;unfold q0Z at hv;rw [q0G] at hv
 by_cases h0:x.natAbs=0
 .rw [h0]; simp [bl]
 .rw [q1F h0] at hv; omega
def Aln.bl {A B x y e:Int} (h:Aln A B x y e) (ha:q0Z A) (hb:q0Z B):Sp.bl x.natAbs<=131072/\Sp.bl y.natAbs<=131072:=⟨qeP h.a ha,qeP h.b hb⟩
def q65 {a b:Int} (h1 : -65536<=a/\a<=65536) (h2 : -65536<=b/\b<=65536):IntKind.i64.wrap (a-b)=a-b:=i64_in Oq Oq
def qfS {A B:Int} (hA:q0Z A) (hB:q0Z B):∃ x y e,ACt 108 [dT A,dT B] (.tu [bT x,bT y,iv e])/\Aln A B x y e:=by
 have a1:=q8P (V:=A);have a2:=q6M hA;have b1:=q8P (V:=B);have b2:=q6M hB;have a3:=q26 hA;have b3:=q26 hB;have sA:=q1e (a:=od A) Oq;have sB:=q1e (a:=od B) Oq;have shA:=q5I (a:=od A) (m:=dyE A-dyE B) Oq Oq Oq;have shB:=q5I (a:=od B) (m:=dyE B-dyE A) Oq Oq Oq;have wA:=q65 (a:=dyE A) (b:=dyE B) Oq Oq;have wB:=q65 (a:=dyE B) (b:=dyE A) Oq Oq;unfold bT at *
 by_cases hA0:od A=0
 .have e1:((od A).sign == 0)=true:=by rw [hA0]; rfl
  refine ⟨od A,od B,dyE B,?_,⟨b1,ω,?_,?_⟩⟩
  .unfold dT;refine ac0 Tryz.func108 Tryz.ntmps108 [.cell 4 42,.cell 5 42,.tmp 6] ?_;exact wk1 e1 trivial
  .have:A=0:=by
    have:=q1K A;rw [hA0] at this; simpa using this.symm
   rw [hA0,this]; simp
  .have:=q22 b1 (uU (dyE B));simpa using this
 have e1:((od A).sign == 0)=false:=by simpa [zP] using hA0
 by_cases hB0:od B=0
 .have e2:((od B).sign == 0)=true:=by rw [hB0]; rfl
  refine ⟨od A,od B,dyE A,?_,⟨a1,ω,?_,?_⟩⟩
  .unfold dT;refine ac0 Tryz.func108 Tryz.ntmps108 [.cell 4 42,.cell 5 42,.tmp 6] ?_;exact wk1 (x2 e1 e2) trivial
  .have:=q22 a1 (uU (dyE A));simpa using this
  .have:B=0:=by
    have:=q1K B;rw [hB0] at this; simpa using this.symm
   rw [hB0,this]; simp
 have e2:((od B).sign == 0)=false:=by simpa [zP] using hB0
 by_cases hlt:dyE B < dyE A
 .refine ⟨shI (od A) (dyE A-dyE B),od B,dyE B,?_,⟨b1,ω,?_,?_⟩⟩
  .unfold dT;refine ac0 Tryz.func108 Tryz.ntmps108 [.cell 4 42,.cell 5 42,.tmp 6] ?_;exact wk1 (x4 e1 e2 hlt wA) trivial
  .unfold shI;rw [if_pos ω];exact q22 b1 Oq
  .have:=q22 b1 (uU (dyE B));simpa using this
 .refine ⟨od A,shI (od B) (dyE B-dyE A),dyE A,?_,⟨a1,ω,?_,?_⟩⟩
  .unfold dT;refine ac0 Tryz.func108 Tryz.ntmps108 [.cell 4 42,.cell 5 42,.tmp 6] ?_;exact wk1 (x4 e1 e2 hlt wB) trivial
  .have:=q22 a1 (uU (dyE A));simpa using this
  .unfold shI;rw [if_pos ω];exact q22 a1 Oq
def qfl {a b:Int} {k:Nat} (ha:bl a.natAbs<=k) (hb:bl b.natAbs<=k):bl (a-b).natAbs<=k+1:=by
 have h1:=q17 ha;have h2:=q17 hb;exact q8X.2 (by rw [Nat.pow_succ]; omega)
def qfm {a b:Int} {k:Nat} (ha:bl a.natAbs<=k) (hb:bl b.natAbs<=k):bl (a+b).natAbs<=k+1:=by
 have h1:=q17 ha;have h2:=q17 hb;exact q8X.2 (by rw [Nat.pow_succ]; omega)
def qly {a b:Int} (ha:bl a.natAbs<=20000000) (hb:bl b.natAbs<=20000000):ACt 147 [bT a,bT b] (bT (a-b)):=q3F (qaU rfl rfl ha hb)
def qmA {a b:Int} (ha:bl a.natAbs<=10000000) (hb:bl b.natAbs<=10000000):ACt 77 [bT a,bT b] (iv (a-b).sign):=by
 have cS:=qly (a:=a) (b:=b) Oq Oq;have cG:=q1e (a:=a-b) (by have:=qfl ha hb; omega);unfold bT at *;refine ac0 Tryz.func77 Tryz.ntmps77 [.tmp 4] ?_;exact wk trivial
def qbA {V:Int}:ACt 160 [pV V] (iv V.sign):=qjD qkt λho=>by
 have hb:=q26 ho;have cN:=q0t ho;have cS:=q1e (a:=od V) Oq;have es:(od V).sign=V.sign:=by
  conv=>rhs; rw [<- q1K V,xJ,zX (q0L _),xM]
 rw [es] at cS;unfold dT at cN ⊢;unfold bT at cS;refine ac0 Tryz.func160 Tryz.ntmps160 [.tmp 2] ?_;exact wk trivial
def Aln.sgn {A B x y e:Int} (h:Aln A B x y e):(x-y).sign=(A-B).sign:=by
 rw [<- h.a,<- h.b,<- Int.sub_mul,xJ,zX (q0L _),xM]
def Aln.sum {A B x y e:Int} (h:Aln A B x y e) (ho:q0Z (A+B)):mkV (x+y) e=some (A+B):=by
 rw [q4u h.e1 (V:=A+B) (by rw [Int.add_mul,h.a,h.b]),q23 ho]
def qoP {A B:Int}:ACt 95 [pV A,pV B] (.tu [iv (A-B).sign,bv true]):=qlI quq λ⟨hA,hB⟩=>by
 have cA:=q0t hA;have cB:=q0t hB;obtain ⟨x,y,e,cL,hL⟩:=qfS hA hB;obtain ⟨l1,l2⟩:=hL.bl hA hB;have cC:=qmA (a:=x) (b:=y) Oq Oq;rw [hL.sgn] at cC;unfold dT at cA cB cL ⊢;unfold bT at cL cC;refine ac0 Tryz.func95 Tryz.ntmps95 [.tmp 4,.tmp 5] ?_;exact wk trivial

def q2q (l:List Int) (n:Int):Prop:=(l.length:Int)=n/\(∀ x ∈ l,0<=x/\x < n)/\l.Nodup
def q5l (l:List Int) (i:Nat):List Bool:=(List.range l.length).map λk:Nat=>decide ((k:Int) ∈ l.take i)
def qgr {l:List Int} {i:Nat}:(q5l l i).length=l.length:=by simp [q5l]
def qrl {l:List Int}:List.replicate l.length false=q5l l 0:=by simp [q5l,yV]
def qgs {l:List Int} {i k:Nat} (hk:k < l.length):(q5l l i)[k]?=some (decide ((k:Int) ∈ l.take i)):=by simp [q5l,hk]
def qgq {l:List Int} {i k:Nat} (hi:l[i]?=some (k:Int)):(q5l l i).set k true=q5l l (i+1):=by
 obtain ⟨hlt,he⟩:=zB.1 hi
 apply yH
 intro m;rw [yA];simp only [q5l,zH,z9,z6,uV hlt,he,zN,List.mem_singleton]
 by_cases hm:m < l.length
 .rw [zD hm]
  by_cases hkm:k=m
  .subst hkm; simp [hm]
  .rw [if_neg hkm]; simp; omega
 .rw [z8 (by simp; omega)]
  by_cases hkm:k=m <;> simp [hkm] <;> omega
open Classical in
def q6c {l:List Int} {n:Int} (hn : -1000000<=n/\n<=1000000):ACt 157 [pI l,iv n] (bv (decide (q2q l n))):=by
 refine ac0 Tryz.func157 Tryz.ntmps157 [.tmp 4] ?_;refine wk ?_
 by_cases hl:(l.length:Int)=n
 .subst hl;have e1:((l.length:Int) != l.length)=false:=σ
  refine wk1 e1 ?_;refine q0B (λi=>i<=l.length/\(∀ x ∈ l.take i,0<=x/\x < l.length)/\(l.take i).Nodup) [0,1,5] [] Lk Lk (λi:Nat=>[(6,iv i)]) (λi=>[(12,⟨4,none,(q5l l i).map λz=>bv z,false⟩)]) (λi=>l.length-i) 0 ⟨zG _,σ,σ⟩ ?_ ?_
  .refine LeM [] rfl rfl ?_;refine Zz ?_;exact ⟨rfl,qrl⟩
  .rintro i ⟨hi,hr,hd⟩;refine wk ?_
   by_cases hlt:i < l.length
   .have hlt':(i:Int) < l.length:=ω
    refine wk1 hlt' ?_;obtain ⟨x,hx⟩:∃ x,l[i]?=some x:=⟨_,zA hlt⟩;have hmem:=zE hx;have ht:l.take (i+1)=l.take i ++ [x]:=by rw [uV hlt]; congr 2; exact zK.inj ((zA hlt).symm.trans hx)
    refine wk ?_
    by_cases hx0:x < 0
    .refine wk1 (x2 hx hx0) ?_;exact (decide_eq_false λh=>by have:=(h.2.1 x hmem).1; omega).symm
    .obtain ⟨k,rfl⟩:∃ k:Nat,x=k:=⟨x.toNat,ω⟩
     by_cases hxn:(l.length:Int)<=k
     .refine wk1 (x3 hx hx0 hxn) ?_;exact (decide_eq_false λh=>by have:=(h.2.1 _ hmem).2; omega).symm
     .have hk:k < l.length:=ω
      have hs:=qgs (i:=i) hk
      by_cases hm:(k:Int) ∈ l.take i
      .refine wk1 (x5 hx hx0 hxn hs hm) ?_;refine (decide_eq_false λh=>?_).symm;have:=(h.2.2.sublist (List.take_sublist (i+1) l));rw [ht,List.nodup_append] at this;exact this.2.2 _ hm _ σ rfl
      .refine wk1 (x6 hx hx0 hxn hs hm @qgr) ?_;refine ⟨i+1,⟨ω,?_,?_⟩,ω,?_⟩
       .rw [ht];intro y hy
        rcases zN.1 hy with hy | hy
        .exact hr y hy
        .simp at hy; subst hy; omega
       .rw [ht,List.nodup_append];exact ⟨hd,σ,λa ha b hb e=>by simp at hb; subst hb; subst e; exact hm ha⟩
       .refine LeM [] rfl rfl ?_;refine Zz ?_;exact ⟨ω,qgq hx⟩
   .have hlt':¬ (i:Int) < l.length:=ω
    have hil:i=l.length:=ω
    refine wk1 hlt' ?_;rw [hil,zS] at hr hd;exact (decide_eq_true ⟨rfl,hr,hd⟩).symm
 .have e1:((l.length:Int) != n)=true:=by simpa using hl
  refine wk1 e1 ?_;exact (decide_eq_false λh=>hl h.1).symm
def q1a {α:Type} {l:List α} {i:Nat} {x:α} (hx:l[i]?=some x):l.take (i+1)=l.take i ++ [x]:=by
 obtain ⟨h1,h2⟩:=zB.1 hx;rw [uV h1,h2]
def qge {α:Type} {p:α->Prop} {l:List α} {i:Nat} {x:α} (hx:l[i]?=some x) (h:∀ y ∈ l.take i,p y) (hp:p x):∀ y ∈ l.take (i+1),p y:=by
 rw [q1a hx];intro y hy
 rcases zN.1 hy with hy | hy
 .exact h y hy
 .simp at hy; subst hy; exact hp
open Classical in
def qbi {l:List Nat} (hl:l.length<=9223372036854775807) (hu:∀ x ∈ l,x < 18446744073709551616):ACt 137 [pF l] (bv (decide (∀ x ∈ l,q0I x))):=by
 refine ac0 Tryz.func137 Tryz.ntmps137 [.tmp 2] ?_;refine wk ?_;refine q0B (λi=>i<=l.length/\∀ x ∈ l.take i,q0I x) [0] [] Lk Lk (λi:Nat=>[(3,iv i)]) (λ_=>[]) (λi=>l.length-i) 0 ⟨zG _,σ⟩ ?_ ?_
 .refine LeM [] rfl rfl ?_;refine Zz ?_
  rfl
 .rintro i ⟨hi,hr⟩;refine wk ?_
  by_cases hlt:i < l.length
  .have hlt':(i:Int) < l.length:=ω
   refine wk1 hlt' ?_;obtain ⟨x,hx⟩:∃ x,l[i]?=some x:=⟨_,zA hlt⟩;have hm:=zE hx;have C1:=(q2F (hu x hm));refine wk1 hx ?_
   by_cases hf:q0I x
   .refine wk1 hf ?_;refine ⟨i+1,⟨ω,qge hx hr hf⟩,ω,?_⟩;refine LeM [] rfl rfl ?_;refine Zz ?_;omega
   .refine wk1 hf ?_;exact (decide_eq_false λh=>hf (h x hm)).symm
  .have hlt':¬ (i:Int) < l.length:=ω
   refine wk1 hlt' ?_;obtain rfl:i=l.length:=ω
   rw [zS] at hr;exact (decide_eq_true hr).symm
def q2w (rows cols:Int) (st ix:List Int) (vl:List Nat):PV:=.ag [iv rows,iv cols,pI st,pI ix,pF vl]
structure MSz (rows cols:Int) (ix:List Int):Prop where
 r0:¬ rows < 0
 r1:¬ 200 < rows
 c0:¬ cols < 0
 c1:¬ 200 < cols
 i1:¬ (10000:Int) < ix.length
structure MPt (cols:Int) (st ix:List Int) (vl:List Nat):Prop where
 v:vl.length=ix.length
 s:(st.length:Int)=cols+1
 f:st[0]?=some 0
 l:st[cols.toNat]?=some (ix.length:Int)
 m:∀ (j:Nat) (x y:Int),st[j]?=some x->st[j+1]?=some y->x<=y
def MIx1 (rows:Int) (ix:List Int) (x:Int) (k:Nat):Prop:=∀ v,ix[k]?=some v->0<=v/\v < rows/\(x < k->∀ u,ix[k-1]?=some u->u < v)
def MIx (rows:Int) (st ix:List Int):Prop:=∀ (j:Nat) (x y:Int),st[j]?=some x->st[j+1]?=some y->∀ k:Nat,x<=k->(k:Int) < y->MIx1 rows ix x k
open Classical in
noncomputable def q3V (rows cols:Int) (st ix:List Int) (vl:List Nat):Int :=
 if MSz rows cols ix then (if MPt cols st ix vl/\MIx rows st ix then (if ∀ x ∈ vl,q0I x then 0 else 4) else 1) else 6
def MPt.nn {cols:Int} {st ix:List Int} {vl:List Nat} (h:MPt cols st ix vl):∀ (j:Nat) (x:Int),st[j]?=some x->0<=x
 | 0,x,hx=>by rw [h.f] at hx; cases hx; omega
 | j+1,x,hx=>by
  have hlt:=(zB.1 hx).1;have hj:st[j]?=some st[j]:=zA Oq;have:=h.m j _ _ hj hx;have:=h.nn j _ hj;omega
def MPt.ub {cols:Int} {st ix:List Int} {vl:List Nat} (h:MPt cols st ix vl) (hc:0<=cols):∀ (d j:Nat) (x:Int),j+d=cols.toNat->st[j]?=some x->x<=ix.length
 | 0,j,x,hd,hx=>by
  have:j=cols.toNat:=ω
  subst this;rw [h.l] at hx; cases hx; omega
 | d+1,j,x,hd,hx=>by
  have hlt:j+1 < st.length:=by have:=h.s; omega
  have hj:st[j+1]?=some st[j+1]:=zA hlt;have:=h.m j _ _ hx hj;have:=h.ub hc d (j+1) _ Oq hj;omega
def qaX {rows cols:Int} {st ix:List Int} {vl:List Nat} (hl:st.length<=9223372036854775807) (hli:ix.length<=9223372036854775807) (hlv:vl.length<=9223372036854775807) (hu:∀ x ∈ vl,x < 18446744073709551616) :
  ACt 72 [q2w rows cols st ix vl] (iv (q3V rows cols st ix vl)):=by
 have c6:¬ MSz rows cols ix->q3V rows cols st ix vl=6:=λh=>if_neg h;have c1:MSz rows cols ix->¬ (MPt cols st ix vl/\MIx rows st ix)->q3V rows cols st ix vl=1:=λh h2=>by unfold q3V; rw [if_pos h,if_neg h2]
 have c0:MSz rows cols ix->MPt cols st ix vl/\MIx rows st ix->q3V rows cols st ix vl=if ∀ x ∈ vl,q0I x then 0 else 4:=λh h2=>by unfold q3V; rw [if_pos h,if_pos h2]
 generalize q3V rows cols st ix vl=res at *;unfold q2w;refine ac0 Tryz.func72 Tryz.ntmps72 [.tmp 2] ?_;refine wk ?_
 by_cases h1:rows < 0
 .refine wk1 h1 ?_;rw [c6 λh=>h.r0 h1]
 by_cases h2:200 < rows
 .refine wk1 (x2 h1 h2) ?_;rw [c6 λh=>h.r1 h2]
 by_cases h3:cols < 0
 .refine wk1 (x3 h1 h2 h3) ?_;rw [c6 λh=>h.c0 h3]
 by_cases h4:200 < cols
 .refine wk1 (x4 h1 h2 h3 h4) ?_;rw [c6 λh=>h.c1 h4]
 by_cases h5:(10000:Int) < ix.length
 .refine wk1 (x5 h1 h2 h3 h4 h5) ?_;rw [c6 λh=>h.i1 h5]
 refine wk1 (x5 h1 h2 h3 h4 h5) ?_;have hz:MSz rows cols ix:=⟨h1,h2,h3,h4,h5⟩;obtain ⟨n,rfl⟩:∃ n:Nat,cols=n:=⟨cols.toNat,ω⟩;refine wk ?_;have w0:IntKind.i64.wrap ((n:Int)+1)=(n:Int)+1:=i64_in Oq Oq
 by_cases hv:vl.length=ix.length
 case neg =>
  have e1:((vl.length:Int) != ix.length)=true:=by simp; omega
  refine wk1 e1 ?_;rw [c1 hz λh=>hv h.1.v]
 have e1:((vl.length:Int) != ix.length)=false:=by simp; omega
 by_cases hs:st.length=n+1
 case neg =>
  have e2:((st.length:Int) != (n:Int)+1)=true:=by simp; omega
  refine wk1 (x3 e1 w0 e2) ?_;rw [c1 hz λh=>by have:=h.1.s; omega]
 have e2:((st.length:Int) != (n:Int)+1)=false:=by simp; omega
 obtain ⟨x0,hx0⟩:∃ x,st[0]?=some x:=⟨_,zA Oq⟩;obtain ⟨xn,hxn⟩:∃ x,st[n]?=some x:=⟨_,zA Oq⟩
 by_cases h0:x0=0
 case neg =>
  have e3:(x0 != 0)=true:=by simpa using h0
  refine wk1 (x5 e1 w0 e2 hx0 e3) ?_;rw [c1 hz λh=>by have:=h.1.f; rw [hx0] at this; exact h0 (zK.inj this)]
 subst h0;have e3:((0:Int) != 0)=false:=rfl
 by_cases hn:xn=ix.length
 case neg =>
  have e4:(xn != (ix.length:Int))=true:=by simpa using hn
  refine wk1 (x6 e1 w0 e2 hx0 e3 (x2 hxn e4)) ?_;rw [c1 hz λh=>by have:=h.1.l; rw [zF,hxn] at this; exact hn (zK.inj this)]
 subst hn;have e4:((ix.length:Int) != (ix.length:Int))=false:=σ
 refine wk1 (x6 e1 w0 e2 hx0 e3 (x2 hxn e4)) ?_;have hp:∀ {j:Nat} {x:Int},(∀ (j:Nat) (x y:Int),st[j]?=some x->st[j+1]?=some y->x<=y)->MPt n st ix vl:=λhm=>⟨hv,ω,hx0,by rw [zF]; exact hxn,hm⟩;refine q4X [1,3,4] Lk ?_;refine wk ?_;refine q0B (λi=>i<=n/\∀ j x y,j < i->st[j]?=some x->st[j+1]?=some y->x<=y) [1] [1] Lk Lk (λi:Nat=>[(4,iv i)]) (λ_=>[]) (λi=>n-i) 0 ⟨zG _,ω⟩ ?_ ?_
 .refine LeM [] rfl rfl ?_;refine Zz ?_
  rfl
 .rintro i ⟨hi,hr⟩;refine wk ?_
  by_cases hlt:i < n
  .have hlt':(i:Int) < n:=ω
   refine wk1 hlt' ?_;obtain ⟨x,hx⟩:∃ x,st[i]?=some x:=⟨_,zA Oq⟩;obtain ⟨y,hy⟩:∃ x,st[i+1]?=some x:=⟨_,zA Oq⟩;have wi:IntKind.i64.wrap ((i:Int)+1)=((i+1:Nat):Int):=by rw [i64_in ω ω]; omega
   by_cases hxy:y < x
   .refine wk1 (x4 hx hy wi hxy) ?_;rw [c1 hz λh=>by have:=h.1.m i x y hx hy; omega]
   .refine wk1 (x4 hx hy wi hxy) ?_;refine ⟨i+1,⟨ω,λj x' y' hj hx' hy'=>?_⟩,ω,?_⟩
    .by_cases hji:j=i
     .subst hji;rw [hx] at hx'; rw [hy] at hy';cases hx'; cases hy'; omega
     .exact hr j x' y' Oq hx' hy'
    .refine LeM [] rfl rfl ?_;exact Zy
  .have hlt':¬ (i:Int) < n:=ω
   refine wk1 hlt' ?_;obtain rfl:i=n:=ω
   have hP:MPt i st ix vl:=⟨hv,ω,hx0,by rw [zF]; exact hxn,λj x y hx hy=>hr j x y (by have:=(zB.1 hy).1; omega) hx hy⟩;clear hr hp hlt hlt';refine wk ?_;refine q0B (λj=>j<=i/\∀ j' x y,j' < j->st[j']?=some x->st[j'+1]?=some y->∀ k:Nat,x<=k->(k:Int) < y->MIx1 rows ix x k) [1] [1] Lk Lk (λj:Nat=>[(5,iv j)]) (λ_=>[]) (λj=>i-j) 0 ⟨zG _,ω⟩ ?_ ?_
   .refine LeM [] rfl rfl ?_;refine Zz ?_
    rfl
   .rintro j ⟨hj,hr⟩;refine wk ?_
    by_cases hlt:j < i
    .have hlt':(j:Int) < i:=ω
     refine wk1 hlt' ?_;obtain ⟨x,hx⟩:∃ x,st[j]?=some x:=⟨_,zA Oq⟩;obtain ⟨y,hy⟩:∃ x,st[j+1]?=some x:=⟨_,zA Oq⟩;have wi:IntKind.i64.wrap ((j:Int)+1)=((j+1:Nat):Int):=by rw [i64_in ω ω]; omega
     have hxy:=hP.m j x y hx hy;obtain ⟨a,rfl⟩:∃ a:Nat,x=a:=⟨x.toNat,by have:=hP.nn j x hx; omega⟩;obtain ⟨b,rfl⟩:∃ b:Nat,y=b:=⟨y.toNat,ω⟩;have hb:b<=ix.length:=by have:=hP.ub ω (i-(j+1)) (j+1) b (by rw [zF]; omega) hy; omega
     refine wk1 hx ?_;refine q0B (λk=>a<=k/\k<=b/\∀ k':Nat,a<=k'->k' < k->MIx1 rows ix a k') [1,5] [1] Lk Lk (λk:Nat=>[(6,iv k)]) (λ_=>[]) (λk=>b-k) a ⟨zU _,ω,ω⟩ ?_ ?_
     .refine LeM [] rfl rfl ?_;exact Zy
     .rintro k ⟨hk,hkb,hrk⟩;refine wk ?_
      by_cases hltk:k < b
      .have hltk':(k:Int) < b:=ω
       refine wk1 (x3 wi hy hltk') ?_;obtain ⟨v,hv⟩:∃ v,ix[k]?=some v:=⟨_,zA Oq⟩;have fin:(¬ (0<=v/\v < rows/\((a:Int) < k->∀ u,ix[k-1]?=some u->u < v)))->res=1:=λhb'=>c1 hz λh=>hb' (h.2 j a b hx hy k Oq Oq v hv);have ok:0<=v->v < rows->((a:Int) < k->∀ u,ix[k-1]?=some u->u < v)->∀ k':Nat,a<=k'->k' < k+1->MIx1 rows ix a k':=λq1 q2 q3 k' hk' hk1=>by
        by_cases hkk:k'=k
        .subst hkk;intro v' hv';rw [hv] at hv'; cases hv';exact ⟨q1,q2,q3⟩
        .exact hrk k' hk' Oq
       by_cases hv0:v < 0
       .refine wk1 (x2 hv hv0) ?_;rw [fin λh=>by omega]
       .by_cases hvr:rows<=v
        .refine wk1 (x3 hv hv0 hvr) ?_;rw [fin λh=>by omega]
        .by_cases hak:(a:Int) < k
         .obtain ⟨k,rfl⟩:∃ k',k=k'+1:=⟨k-1,ω⟩;obtain ⟨u,hu⟩:∃ v,ix[k]?=some v:=⟨_,zA Oq⟩;have wk:IntKind.i64.wrap (((k+1:Nat):Int)-1)=k:=by rw [i64_in ω ω]; omega
          by_cases huv:v<=u
          .refine wk1 (x6 hv hv0 hvr hx hak (x3 @wk hu huv)) ?_;rw [fin λh=>by have:=h.2.2 hak u hu; omega]
          .refine wk1 (x6 hv hv0 hvr hx hak (x3 @wk hu huv)) ?_;refine ⟨k+1+1,⟨ω,ω,ok Oq Oq λ_ u' hu'=>?_⟩,ω,?_⟩
           .rw [yE,hu] at hu'; cases hu'; omega
           .refine LeM [] rfl rfl ?_;refine Zz ?_;omega
         .refine wk1 (x5 hv hv0 hvr hx hak) ?_;refine ⟨k+1,⟨ω,ω,ok Oq Oq λh=>absurd h hak⟩,ω,?_⟩;refine LeM [] rfl rfl ?_;refine Zz ?_;omega
      .have hltk':¬ (k:Int) < b:=ω
       refine wk1 (x3 wi hy hltk') ?_;refine ⟨j+1,⟨ω,λj' x' y' hj' hx' hy' k' h1' h2'=>?_⟩,ω,?_⟩
       .by_cases hji:j'=j
        .subst hji;rw [hx] at hx'; rw [hy] at hy';cases hx'; cases hy';exact hrk k' Oq Oq
        .exact hr j' x' y' Oq hx' hy' k' h1' h2'
       .refine LeM [] rfl rfl ?_;exact Zy
    .have hlt':¬ (j:Int) < i:=ω
     refine wk1 hlt' ?_;obtain rfl:j=i:=ω
     have hX:MIx rows st ix:=λj' x y hx hy=>hr j' x y (by have:=(zB.1 hy).1; omega) hx hy;have c0:=c0 hz ⟨hP,hX⟩;have C1:=(qbi hlv hu);refine wk ?_
     by_cases hf:∀ x ∈ vl,q0I x
     .rw [if_pos hf] at c0;have ef:∀ (i:Decidable (∀ x ∈ vl,q0I x)),@decide _ i=true:=λ_=>decide_eq_true hf;refine wk1 ef ?_;rw [c0]
     .rw [if_neg hf] at c0;have ef:∀ (i:Decidable (∀ x ∈ vl,q0I x)),@decide _ i=false:=λ_=>decide_eq_false hf;refine wk1 ef ?_;rw [c0]
def q8I (ix:List Int) (i:Int) (a b:Nat):Option Nat:=(List.range' a (b-a)).find? λk=>decide (ix[k]?=some i)
def qkd {ix:List Int} {i v:Int} {a b:Nat} (h:a < b) (hv:ix[a]?=some v) (hn:¬ v=i):q8I ix i a b=q8I ix i (a+1) b:=by
 unfold q8I;rw [show b-a=(b-(a+1))+1 by omega,List.range'_succ,List.find?_cons,hv];have:decide (some v=some i)=false:=decide_eq_false λe=>hn (zK.inj e);rw [this]
def qeh {ix:List Int} {v:Int} {a b:Nat} (h:a < b) (hv:ix[a]?=some v):q8I ix v a b=some a:=by
 unfold q8I;rw [show b-a=(b-(a+1))+1 by omega,List.range'_succ,List.find?_cons,hv];have:decide (some v=some v)=true:=decide_eq_true rfl;rw [this]
def qei {ix:List Int} {v:Int} {a b:Nat} (h:b<=a):q8I ix v a b=none:=by
 unfold q8I;rw [show b-a=0 by omega]; rfl
def qfY (st ix:List Int) (i:Int) (j:Nat):Option Nat:=q8I ix i (st.getD j 0).toNat (st.getD (j+1) 0).toNat
open Classical in
noncomputable def qrK (rows cols:Int) (st ix:List Int) (i j:Int):Bool:=if 0<=i/\i < rows/\0<=j/\j < cols then (qfY st ix i j.toNat).isSome else false
open Classical in
noncomputable def atM (rows cols:Int) (st ix:List Int) (vl:List Nat) (i j:Int):Nat:=if q3V rows cols st ix vl=0/\0<=j/\j < cols then (match qfY st ix i j.toNat with | some k=>vl.getD k 0 | none=>0) else 0
def chk0 {rows cols:Int} {st ix:List Int} {vl:List Nat} (h:q3V rows cols st ix vl=0):MSz rows cols ix/\MPt cols st ix vl/\MIx rows st ix/\∀ x ∈ vl,q0I x:=by
 unfold q3V at h
 split at h
 .split at h
  .split at h
   .exact ⟨‹_›,(‹_/\_›).1,(‹_/\_›).2,‹_›⟩
   .cases h
  .cases h
 .cases h
def MPt.col {n:Nat} {st ix:List Int} {vl:List Nat} (h:MPt n st ix vl) {j:Nat} (hj:j < n):∃ a b:Nat,st[j]?=some (a:Int)/\st[j+1]?=some (b:Int)/\a<=b/\b<=ix.length/\(st.getD j 0).toNat=a/\(st.getD (j+1) 0).toNat=b:=by
 have hs:=h.s;obtain ⟨x,hx⟩:∃ x,st[j]?=some x:=⟨_,zA Oq⟩;obtain ⟨y,hy⟩:∃ x,st[j+1]?=some x:=⟨_,zA Oq⟩;have h1:=h.nn j x hx;have h2:=h.nn (j+1) y hy;have h3:=h.m j x y hx hy;have h4:=h.ub ω (n-(j+1)) (j+1) y (by rw [zF]; omega) hy;refine ⟨x.toNat,y.toNat,by rw [hx]; congr 1; omega,by rw [hy]; congr 1; omega,ω,ω,?_,?_⟩
 .rw [zC,hx]; rfl
 .rw [zC,hy]; rfl
def qbg {rows cols i j:Int} {st ix:List Int} {vl:List Nat} (hc:cols<=200) (hi:ix.length<=10000) (hP:MPt cols st ix vl):ACt 102 [q2w rows cols st ix vl,iv i,iv j] (bv (qrK rows cols st ix i j)):=by
 have c0:¬ (0<=i/\i < rows/\0<=j/\j < cols)->qrK rows cols st ix i j=false:=λh=>if_neg h;have c1:(0<=i/\i < rows/\0<=j/\j < cols)->qrK rows cols st ix i j=(qfY st ix i j.toNat).isSome:=λh=>if_pos h;generalize qrK rows cols st ix i j=res at *;unfold q2w;refine ac0 Tryz.func102 Tryz.ntmps102 [.tmp 6] ?_;refine wk ?_
 by_cases h1:i < 0
 .refine wk1 h1 ?_;rw [c0 λh=>by omega]
 by_cases h2:rows<=i
 .refine wk1 (x2 h1 h2) ?_;rw [c0 λh=>by omega]
 by_cases h3:j < 0
 .refine wk1 (x3 h1 h2 h3) ?_;rw [c0 λh=>by omega]
 by_cases h4:cols<=j
 .refine wk1 (x4 h1 h2 h3 h4) ?_;rw [c0 λh=>by omega]
 refine wk1 (x4 h1 h2 h3 h4) ?_;have d1:=c1 ⟨ω,ω,ω,ω⟩;obtain ⟨j,rfl⟩:∃ j':Nat,j=j':=⟨j.toNat,ω⟩;obtain ⟨n,rfl⟩:∃ n:Nat,cols=n:=⟨cols.toNat,ω⟩;obtain ⟨a,b,hx,hy,hab,hb,ea,eb⟩:=hP.col (show j < n by omega);rw [zF] at d1;unfold qfY at d1;rw [ea,eb] at d1;have wi:IntKind.i64.wrap ((j:Int)+1)=((j+1:Nat):Int):=by rw [i64_in ω ω]; omega
 refine wk1 hx ?_;refine q4X [1,2,3,7] Lk ?_;refine wk ?_;refine q0B (λk=>a<=k/\k<=b/\q8I ix i a b=q8I ix i k b) [1,2,3] [3] Lk Lk (λk:Nat=>[(7,iv k)]) (λ_=>[]) (λk=>b-k) a ⟨zU _,hab,rfl⟩ ?_ ?_
 .refine LeM [] rfl rfl ?_;exact Zy
 .rintro k ⟨hk,hkb,hr⟩;refine wk ?_
  by_cases hlt:k < b
  .have hlt':(k:Int) < b:=ω
   refine wk1 (x3 wi hy hlt') ?_;obtain ⟨v,hv⟩:∃ v,ix[k]?=some v:=⟨_,zA Oq⟩
   by_cases hvi:v=i
   .subst hvi;have e1:(v == v)=true:=σ
    refine wk1 (x2 hv e1) ?_;rw [d1,hr,qeh hlt hv]; rfl
   .have e1:(v == i)=false:=by simpa using hvi
    refine wk1 (x2 hv e1) ?_;refine ⟨k+1,⟨ω,ω,by rw [hr,qkd hlt hv hvi]⟩,ω,?_⟩;refine LeM [] rfl rfl ?_;refine Zz ?_;omega
  .have hlt':¬ (k:Int) < b:=ω
   refine wk1 (x3 wi hy hlt') ?_;rw [d1,hr,qei ω]; rfl
def qsQ {rows cols i j:Int} {st ix:List Int} {vl:List Nat} (hl:st.length<=9223372036854775807) (hli:ix.length<=9223372036854775807) (hlv:vl.length<=9223372036854775807) (hu:∀ x ∈ vl,x < 18446744073709551616):ACt 39 [q2w rows cols st ix vl,iv i,iv j] (uv (atM rows cols st ix vl i j:Nat)):=by
 have c0:¬ (q3V rows cols st ix vl=0/\0<=j/\j < cols)->atM rows cols st ix vl i j=0:=λh=>if_neg h;have c1:(q3V rows cols st ix vl=0/\0<=j/\j < cols)->atM rows cols st ix vl i j=(match qfY st ix i j.toNat with | some k=>vl.getD k 0 | none=>0):=λh=>if_pos h;have hA:=qaX (rows:=rows) (cols:=cols) hl hli hlv hu;generalize atM rows cols st ix vl i j=res at *;unfold q2w at *;refine ac0 Tryz.func39 Tryz.ntmps39 [.tmp 6] ?_;refine wk ?_
 by_cases hz:q3V rows cols st ix vl=0
 case neg =>
  have e1:(q3V rows cols st ix vl != 0)=true:=by simpa using hz
  refine wk1 e1 ?_;rw [c0 λh=>hz h.1]; rfl
 have e1:(q3V rows cols st ix vl != 0)=false:=by simpa using hz
 by_cases h3:j < 0
 .refine wk1 (x2 e1 h3) ?_;rw [c0 λh=>by omega]; rfl
 by_cases h4:cols<=j
 .refine wk1 (x3 e1 h3 h4) ?_;rw [c0 λh=>by omega]; rfl
 refine wk1 (x3 e1 h3 h4) ?_;have d1:=c1 ⟨hz,ω,ω⟩;obtain ⟨hz1,hP,hX,hfn⟩:=chk0 hz;have hc:=hz1.c1;have hi:=hz1.i1;obtain ⟨j,rfl⟩:∃ j':Nat,j=j':=⟨j.toNat,ω⟩;obtain ⟨n,rfl⟩:∃ n:Nat,cols=n:=⟨cols.toNat,ω⟩;obtain ⟨a,b,hx,hy,hab,hb,ea,eb⟩:=hP.col (show j < n by omega);rw [zF] at d1;unfold qfY at d1;rw [ea,eb] at d1;have wi:IntKind.i64.wrap ((j:Int)+1)=((j+1:Nat):Int):=by rw [i64_in ω ω]; omega
 refine wk1 hx ?_;refine q4X [1,2,3,7] Lk ?_;refine wk ?_;refine q0B (λk=>a<=k/\k<=b/\q8I ix i a b=q8I ix i k b) [1,2,3] [3] Lk Lk (λk:Nat=>[(7,iv k)]) (λ_=>[]) (λk=>b-k) a ⟨zU _,hab,rfl⟩ ?_ ?_
 .refine LeM [] rfl rfl ?_;exact Zy
 .rintro k ⟨hk,hkb,hr⟩;refine wk ?_
  by_cases hlt:k < b
  .have hlt':(k:Int) < b:=ω
   refine wk1 (x3 wi hy hlt') ?_;obtain ⟨v,hv⟩:∃ v,ix[k]?=some v:=⟨_,zA Oq⟩
   by_cases hvi:v=i
   .subst hvi;have e1:(v == v)=true:=σ
    refine wk1 (x2 hv e1) ?_;obtain ⟨u,hu'⟩:∃ u,vl[k]?=some u:=⟨_,zA (by have:=hP.v; omega)⟩;refine wk1 hu' ?_;rw [d1,hr,qeh hlt hv];simp only [zC,hu']; rfl
   .have e1:(v == i)=false:=by simpa using hvi
    refine wk1 (x2 hv e1) ?_;refine ⟨k+1,⟨ω,ω,by rw [hr,qkd hlt hv hvi]⟩,ω,?_⟩;refine LeM [] rfl rfl ?_;refine Zz ?_;omega
  .have hlt':¬ (k:Int) < b:=ω
   refine wk1 (x3 wi hy hlt') ?_;rw [d1,hr,qei ω]; rfl

def tC (f:Nat->Nat->Option Nat) (j:Nat) (p:List Int × List Nat):Nat->List Int × List Nat
 | 0=>p
 | i+1=>match f j i with
  | some x=>((tC f j p i).1 ++ [(i:Int)],(tC f j p i).2 ++ [x])
  | none=>tC f j p i
def tM (f:Nat->Nat->Option Nat) (R:Nat):Nat->List Int × List Int × List Nat
 | 0=>([0],[],[])
 | j+1=>((tM f R j).1 ++ [((tC f j (tM f R j).2 R).1.length:Int)],tC f j (tM f R j).2 R)
def pT (R C:Nat) (f:Nat->Nat->Option Nat):PV:=q2w R C (tM f R C).1 (tM f R C).2.1 (tM f R C).2.2
def q7b {f:Nat->Nat->Option Nat} {j:Nat} {p:List Int × List Nat} (hp:p.1.length=p.2.length):∀ i,(tC f j p i).1.length=(tC f j p i).2.length/\p.1.length<=(tC f j p i).1.length/\(tC f j p i).1.length<=p.1.length+i
 | 0=>⟨hp,zU _,zU _⟩
 | i+1=>by
  have:=q7b (f:=f) (j:=j) hp i;simp only [tC]
  split
  .simp only [zO,List.length_cons,List.length_nil]; omega
  .omega
def q0w {f:Nat->Nat->Option Nat} {R:Nat}:∀ j,(tM f R j).1.length=j+1/\(tM f R j).2.1.length=(tM f R j).2.2.length/\(tM f R j).2.1.length<=j*R
 | 0=>⟨rfl,rfl,by simp [tM]⟩
 | j+1=>by
  have h1:=q0w (f:=f) (R:=R) j;have h2:=q7b (f:=f) (j:=j) h1.2.1 R;simp only [tM];refine ⟨by simp [h1.1],h2.1,?_⟩;rw [Nat.succ_mul]; omega
section
variable {f:Nat->Nat->Option Nat} {R C:Nat}
def tZ (f:Nat->Nat->Option Nat) (j i:Nat):List (Nat × Nat):=(List.range i).filterMap λk=>(f j k).map λx=>(k,x)
def qpw {j i:Nat}:tZ f j (i+1)=tZ f j i ++ (match f j i with | some x=>[(i,x)] | none=>[]):=by
 unfold tZ;rw [y9,List.filterMap_append]
 congr 1
 cases h:f j i <;> simp [h]
def q2M {j i k x:Nat}:(k,x) ∈ tZ f j i ↔ k < i/\f j k=some x:=by
 unfold tZ;rw [List.mem_filterMap]
 constructor
 .rintro ⟨a,ha,h⟩;obtain ⟨y,hy,h2⟩:=yF.1 h;cases h2;exact ⟨zY.1 ha,hy⟩
 .rintro ⟨h1,h2⟩;exact ⟨k,zY.2 h1,by rw [h2]; rfl⟩
def qaE {j:Nat}:∀ i,(tZ f j i).Pairwise λa b=>a.1 < b.1
 | 0=>by simp [tZ]
 | i+1=>by
  rw [qpw,List.pairwise_append];refine ⟨qaE i,?_,λa ha b hb=>?_⟩
  .split <;> simp
  .have h1:=(q2M.1 (show (a.1,a.2) ∈ tZ f j i from ha)).1
   split at hb
   .simp at hb; subst hb; exact h1
   .cases hb
def q8r {j:Nat} {p:List Int × List Nat}:∀ i,tC f j p i=(p.1 ++ (tZ f j i).map (λq=>(q.1:Int)),p.2 ++ (tZ f j i).map (·.2))
 | 0=>by simp [tC,tZ]
 | i+1=>by
  rw [tC,qpw,q8r i];cases h:f j i <;> simp
def tO (f:Nat->Nat->Option Nat) (R j:Nat):Nat:=(tM f R j).2.1.length
def qaF {j:Nat}:tO f R (j+1)=tO f R j+(tZ f j R).length:=by simp [tO,tM,q8r]
def tM_st {j:Nat}:(tM f R j).1[j]?=some (tO f R j:Int):=by
 cases j with
 | zero=>simp [tM,tO]
 | succ j =>
  have:=(q0w (f:=f) (R:=R) j).1;simp only [tM,tO];rw [zV ω,this];simp
def qdB {j:Nat}:∀ d,∃ a b c,(tM f R (j+d)).1=(tM f R j).1 ++ a/\(tM f R (j+d)).2.1=(tM f R j).2.1 ++ b/\(tM f R (j+d)).2.2=(tM f R j).2.2 ++ c
 | 0=>⟨[],[],[],σ,σ,σ⟩
 | d+1=>by
  obtain ⟨a,b,c,h1,h2,h3⟩:=qdB (j:=j) d;have e1:(tM f R (j+(d+1))).1=(tM f R (j+d)).1 ++ [((tC f (j+d) (tM f R (j+d)).2 R).1.length:Int)]:=rfl;have e2:(tM f R (j+(d+1))).2=tC f (j+d) (tM f R (j+d)).2 R:=rfl;rw [q8r] at e2;rw [e1,e2,h1,h2,h3];simp only [List.append_assoc];exact ⟨_,_,_,rfl,rfl,rfl⟩
def q1N {j:Nat} (hj:j<=C):(tM f R C).1[j]?=some (tO f R j:Int):=by
 obtain ⟨a,b,c,h1,_,_⟩:=qdB (f:=f) (R:=R) (j:=j) (C-j);rw [show j+(C-j)=C by omega] at h1;rw [h1,zL (by rw [(q0w j).1]; omega)];exact tM_st
def qdC {j:Nat} (hj:j < C):∃ b c,(tM f R C).2.1=(tM f R j).2.1 ++ (tZ f j R).map (λq=>(q.1:Int)) ++ b/\(tM f R C).2.2=(tM f R j).2.2 ++ (tZ f j R).map (·.2) ++ c:=by
 obtain ⟨a,b,c,_,h2,h3⟩:=qdB (f:=f) (R:=R) (j:=j+1) (C-(j+1));rw [show j+1+(C-(j+1))=C by omega] at h2 h3;refine ⟨b,c,?_,?_⟩
 .rw [h2]; simp only [tM,q8r]
 .rw [h3]; simp only [tM,q8r]
def q64 {j k:Nat} (hj:j < C) (h1:tO f R j<=k) (h2:k < tO f R (j+1)):∃ q,(tZ f j R)[k-tO f R j]?=some q/\(tM f R C).2.1[k]?=some (q.1:Int)/\(tM f R C).2.2[k]?=some q.2:=by
 obtain ⟨b,c,e1,e2⟩:=qdC (f:=f) (R:=R) hj;rw [qaF] at h2;have hl:=(q0w (f:=f) (R:=R) j).2.1;have ho:tO f R j=(tM f R j).2.1.length:=rfl;obtain ⟨q,hq⟩:∃ q,(tZ f j R)[k-tO f R j]?=some q:=⟨_,zA Oq⟩;refine ⟨q,hq,?_,?_⟩
 .rw [e1,zL (by simp; omega),zV ω,zH,<- ho,hq]; rfl
 .rw [e2,zL (by simp; omega),zV ω,zH,<- hl,<- ho,hq]; rfl
def qrF:MPt C (tM f R C).1 (tM f R C).2.1 (tM f R C).2.2:=by
 have hl:=q0w (f:=f) (R:=R) C;refine ⟨hl.2.1.symm,ω,?_,by rw [zF]; exact q1N (zU _),λj x y hx hy=>?_⟩
 .rw [q1N (zG _)]; rfl
 .have h1:=(zB.1 hy).1;rw [q1N ω] at hx hy;cases hx; cases hy;have:=qaF (f:=f) (R:=R) (j:=j);omega
def qrG:MIx R (tM f R C).1 (tM f R C).2.1:=λj x y hx hy k h1 h2 v hv=>by
 have hl:=q0w (f:=f) (R:=R) C;have h3:=(zB.1 hy).1;rw [q1N ω] at hx hy;cases hx; cases hy;obtain ⟨q,q1,q2,q3⟩:=q64 (f:=f) (R:=R) (C:=C) (j:=j) (k:=k) Oq Oq Oq;rw [hv] at q2;cases q2;have:=(q2M.1 (show (q.1,q.2) ∈ _ from zE q1)).1;refine ⟨ω,ω,λhk u hu=>?_⟩;obtain ⟨p,p1,p2,p3⟩:=q64 (f:=f) (R:=R) (C:=C) (j:=j) (k:=k-1) Oq Oq Oq;rw [hu] at p2;cases p2;have ha:=List.pairwise_iff_getElem.1 (qaE (f:=f) (j:=j) R);obtain ⟨a1,a2⟩:=zB.1 p1;obtain ⟨b1,b2⟩:=zB.1 q1;have:=ha _ _ a1 b1 Oq;rw [a2,b2] at this;omega
def q2g {x:Nat}:∀ C,x ∈ (tM f R C).2.2->∃ j i,j < C/\i < R/\f j i=some x
 | 0,h=>by simp [tM] at h
 | C+1,h=>by
  simp only [tM,q8r,zN] at h
  rcases h with h | h
  .obtain ⟨j,i,h1,h2,h3⟩:=q2g C h;exact ⟨j,i,ω,h2,h3⟩
  .obtain ⟨⟨k,y⟩,hq,rfl⟩:=zQ.1 h;have:=q2M.1 hq;exact ⟨C,k,ω,this.1,this.2⟩
def qrH (hR:R<=200) (hC:C<=200) (hRC:C*R<=10000) (hf:∀ j i x,j < C->i < R->f j i=some x->q0I x):q3V R C (tM f R C).1 (tM f R C).2.1 (tM f R C).2.2=0:=by
 have hl:=q0w (f:=f) (R:=R) C;have hz:MSz R C (tM f R C).2.1:=⟨ω,ω,ω,ω,ω⟩;unfold q3V;rw [if_pos hz,if_pos ⟨qrF,qrG⟩,if_pos];intro x hx;obtain ⟨j,i,h1,h2,h3⟩:=q2g C hx;exact hf j i x h1 h2 h3
end
structure TOk (f:Nat->Nat->Option Nat) (R C:Nat):Prop where
 r:R<=200
 c:C<=200
 m:C*R<=10000
 u:∀ j i x,j < C->i < R->f j i=some x->x < 18446744073709551616
 v:∀ j i x,j < C->i < R->f j i=some x->q0I x
def TOk.vl {f:Nat->Nat->Option Nat} {R C:Nat} (h:TOk f R C):(tM f R C).1.length<=9223372036854775807/\(tM f R C).2.1.length<=9223372036854775807/\(tM f R C).2.2.length<=9223372036854775807/\(∀ x ∈ (tM f R C).2.2,x < 18446744073709551616):=by
 have:=q0w (f:=f) (R:=R) C;have:=h.c;have:=h.m;refine ⟨ω,ω,ω,λx hx=>?_⟩;obtain ⟨j,i,h1,h2,h3⟩:=q2g C hx;exact h.u j i x h1 h2 h3
def TOk.chk {f:Nat->Nat->Option Nat} {R C:Nat} (h:TOk f R C):q3V R C (tM f R C).1 (tM f R C).2.1 (tM f R C).2.2=0:=qrH h.r h.c h.m h.v

section
def qph {τ:Nat->Option Nat} {h h':Hp} {a b c d:List PV} (h1:LeL τ h h' a c) (h2:LeL τ h h' b d):LeL τ h h' (a ++ b) (c ++ d):=by
 obtain ⟨l1,e1⟩:=h1;obtain ⟨l2,e2⟩:=h2;refine ⟨by simp [l1,l2],λi x y hx hy=>?_⟩
 by_cases hi:i < a.length
 .rw [zL hi] at hx;rw [zL ω] at hy;exact e1 i x y hx hy
 .rw [zV ω] at hx;rw [zV ω,<- l1] at hy;exact e2 _ x y hx hy
def clR {α:Type} {f:α->List Int} {l:List α}:ClL (l.map λv=>pI (f v)):=λx hx=>by
 obtain ⟨e,_,rfl⟩:=zQ.1 hx
 trivial
def qw6 {α:Type} {f:α->List Int} {l:List α} {τ:Nat->Option Nat} {h h':Hp}:LeL τ h h' (l.map λv=>pI (f v)) (l.map λv=>pI (f v))=True:=eq_true (q0R rfl clR)
attribute [local go_sem] qw6
end
open Classical in
noncomputable def sqM (rows cols:Int) (st ix:List Int) (vl:List Nat) (order:List Int):Int :=
 if q3V rows cols st ix vl=0 then (if rows=cols then (if q2q order rows then 0 else 90) else 5) else q3V rows cols st ix vl
def qbh {rows cols:Int} {st ix order:List Int} {vl:List Nat} (hl:st.length<=9223372036854775807) (hli:ix.length<=9223372036854775807) (hlv:vl.length<=9223372036854775807) (hu:∀ x ∈ vl,x < 18446744073709551616):ACt 90 [q2w rows cols st ix vl,pI order] (iv (sqM rows cols st ix vl order)):=by
 have hA:=qaX (rows:=rows) (cols:=cols) hl hli hlv hu;have c1:¬ q3V rows cols st ix vl=0->sqM rows cols st ix vl order=q3V rows cols st ix vl:=λh=>if_neg h;have c2:q3V rows cols st ix vl=0->¬ rows=cols->sqM rows cols st ix vl order=5:=λh h2=>by unfold sqM; rw [if_pos h,if_neg h2]
 have c3:q3V rows cols st ix vl=0->rows=cols->¬ q2q order rows->sqM rows cols st ix vl order=90:=λh h2 h3=>by unfold sqM; rw [if_pos h,if_pos h2,if_neg h3]
 have c4:q3V rows cols st ix vl=0->rows=cols->q2q order rows->sqM rows cols st ix vl order=0:=λh h2 h3=>by unfold sqM; rw [if_pos h,if_pos h2,if_pos h3]
 generalize sqM rows cols st ix vl order=res at *;unfold q2w at *;refine ac0 Tryz.func90 Tryz.ntmps90 [.tmp 4] ?_;refine wk ?_
 by_cases hz:q3V rows cols st ix vl=0
 case neg =>
  have e1:(q3V rows cols st ix vl != 0)=true:=by simpa using hz
  refine wk1 e1 ?_;rw [c1 hz]
 have e1:(q3V rows cols st ix vl != 0)=false:=by simpa using hz
 refine wk1 e1 ?_;obtain ⟨hz1,_⟩:=chk0 hz;have b0:=hz1.r0;have b1:=hz1.r1;refine wk ?_
 by_cases hrc:rows=cols
 case neg =>
  have e2:(rows != cols)=true:=by simpa using hrc
  refine wk1 e2 ?_;rw [c2 hz hrc]
 have e2:(rows != cols)=false:=by simpa using hrc
 have C1:=@q6c;refine wk1 e2 ?_
 by_cases hp:q2q order rows
 .have ep:∀ (i:Decidable (q2q order rows)),@decide _ i=true:=λ_=>decide_eq_true hp;refine wk1 ep ?_;rw [c4 hz hrc hp]
 .have ep:∀ (i:Decidable (q2q order rows)),@decide _ i=false:=λ_=>decide_eq_false hp;refine wk1 ep ?_;rw [c3 hz hrc hp]
def qba {f:Nat->Nat->Option Nat} {R:Nat} {order:List Int} (h:TOk f R R) (hp:q2q order R):ACt 90 [pT R R f,pI order] (iv 0):=by
 obtain ⟨h1,h2,h3,h4⟩:=h.vl;have:=qbh (rows:=R) (cols:=R) (order:=order) h1 h2 h3 h4;unfold sqM at this;rw [if_pos h.chk,if_pos rfl,if_pos hp] at this;exact this
def qam {ix:List Int} {i:Int}:∀ {d a:Nat} {k:Nat},q8I ix i a (a+d)=some k->a<=k/\k < a+d/\ix[k]?=some i:=λ{d a k} h=>by
 unfold q8I at h;have h1:=List.find?_some h;have h2:=List.mem_of_find?_eq_some h;rw [List.mem_range'_1] at h2;exact ⟨h2.1,ω,by simpa using h1⟩
def qhi {ix:List Int} {i:Int} {d a:Nat} (h:q8I ix i a (a+d)=none):∀ k,a<=k->k < a+d->¬ ix[k]?=some i:=λk h1 h2 h3=>by
 unfold q8I at h;have:=List.find?_eq_none.1 h k (by rw [List.mem_range'_1]; omega);simp [h3] at this
def qjZ {f:Nat->Nat->Option Nat} {R C i j:Nat} (hi:i < R) (hj:j < C):(match qfY (tM f R C).1 (tM f R C).2.1 i j with | some k=>(tM f R C).2.2[k]? | none=>none)=f j i:=by
 have e1:((tM f R C).1.getD j 0).toNat=tO f R j:=by rw [zC,q1N ω]; rfl
 have e2:((tM f R C).1.getD (j+1) 0).toNat=tO f R (j+1):=by rw [zC,q1N ω]; rfl
 unfold qfY;rw [e1,e2,qaF];cases h:q8I (tM f R C).2.1 i (tO f R j) (tO f R j+(tZ f j R).length) with
 | some k =>
  obtain ⟨h1,h2,h3⟩:=qam h;obtain ⟨q,q1,q2,q3⟩:=q64 (f:=f) (R:=R) (C:=C) (j:=j) (k:=k) hj h1 (by rw [qaF]; exact h2);rw [q2] at h3;have hqi:q.1=i:=by have:=zK.inj h3; omega
  have:=(q2M.1 (show (q.1,q.2) ∈ _ from zE q1)).2;simp only;rw [q3,<- this,hqi]
 | none =>
  cases hx:f j i with
  | none=>rfl
  | some x =>
   obtain ⟨m,hm⟩:=List.getElem?_of_mem (q2M.2 ⟨hi,hx⟩:(i,x) ∈ tZ f j R);have hml:=(zB.1 hm).1;obtain ⟨q,q1,q2,q3⟩:=q64 (f:=f) (R:=R) (C:=C) (j:=j) (k:=tO f R j+m) hj ω (by rw [qaF]; omega);rw [Nat.add_sub_cancel_left,hm] at q1;cases q1;exact absurd q2 (qhi h _ Oq Oq)
def qj2 {f:Nat->Nat->Option Nat} {R C i j:Nat} (h:TOk f R C) (hi:i < R) (hj:j < C):ACt 39 [pT R C f,iv i,iv j] (uv (((f j i).getD 0:Nat):Int)):=by
 obtain ⟨h1,h2,h3,h4⟩:=h.vl;have:=qsQ (rows:=R) (cols:=C) (i:=i) (j:=j) h1 h2 h3 h4;unfold atM at this;rw [if_pos ⟨h.chk,ω,ω⟩,zF] at this;have hf:=qjZ (f:=f) hi hj;cases hc:qfY (tM f R C).1 (tM f R C).2.1 i j with
 | some k =>
  rw [hc] at this hf;simp only at this hf;rw [zC,hf] at this;exact this
 | none =>
  rw [hc] at this hf;simp only at this hf;rw [<- hf];exact this
def qb9 {f:Nat->Nat->Option Nat} {R C i j:Nat} (h:TOk f R C) (hi:i < R) (hj:j < C):ACt 102 [pT R C f,iv i,iv j] (bv (f j i).isSome):=by
 have hl:=q0w (f:=f) (R:=R) C;have hm:=h.m;have hcc:=h.c;have:=qbg (rows:=R) (cols:=C) (i:=i) (j:=j) (st:=(tM f R C).1) (ix:=(tM f R C).2.1) (vl:=(tM f R C).2.2) Oq Oq qrF;unfold qrK at this;rw [if_pos ⟨ω,ω,ω,ω⟩,zF] at this;have hf:=qjZ (f:=f) hi hj;cases hc:qfY (tM f R C).1 (tM f R C).2.1 i j with
 | some k =>
  rw [hc] at this hf;simp only at this hf;have hk:k < (tM f R C).2.2.length:=by
   unfold qfY at hc;have e1:((tM f R C).1.getD j 0).toNat=tO f R j:=by rw [zC,q1N ω]; rfl
   have e2:((tM f R C).1.getD (j+1) 0).toNat=tO f R (j+1):=by rw [zC,q1N ω]; rfl
   rw [e1,e2,qaF] at hc;have:=(zB.1 (qam hc).2.2).1;omega
  rw [<- hf,zA hk];exact this
 | none =>
  rw [hc] at this hf;simp only at this hf;rw [<- hf];exact this
def q5q {x:Nat}:ACt 162 [uv x] (bv (decide (x=0\/x=9223372036854775808))):=by
 have h0:((x:Int) == 0)=decide (x=0):=by
  rw [Bool.eq_iff_iff,beq_iff_eq,decide_eq_true_iff]; omega
 have h1:((x:Int) == 9223372036854775808)=decide (x=9223372036854775808):=by
  rw [Bool.eq_iff_iff,beq_iff_eq,decide_eq_true_iff]; omega
 refine ac0 Tryz.func162 Tryz.ntmps162 [.tmp 2] ?_;refine wk ?_
 by_cases e0:x=0
 .refine wk1 (x2 h0 (decide_eq_true e0)) ?_;simp [e0]
 .by_cases e1:x=9223372036854775808
  .refine wk1 (x4 h0 (decide_eq_false e0) h1 (decide_eq_true e1)) ?_;simp [e1]
  .refine wk1 (x4 h0 (decide_eq_false e0) h1 (decide_eq_false e1)) ?_;simp [e0,e1]
def q5B {x y:Nat} {A B V:Int} (hx:x < 18446744073709551616) (hy:y < 18446744073709551616) (ha:ofF x=some A) (hb:ofF y=some B) (hv:mkV (A*B) (-131072)=some V):ACt 123 [uv x,uv y] (pV V):=by
 refine ac0 Tryz.func123 Tryz.ntmps123 [.cell 4 46] ?_;have C1:=(q28 hx ha);have C2:=(q28 hy hb);have C3:=(q9B hv);exact wk trivial
def qc6 {A B:Int} {x:Nat} (h:ACt 223 [pV A,pV B,iv 0] (uv x)):ACt 164 [pV A,pV B] (uv x):=by
 refine ac0 Tryz.func164 Tryz.ntmps164 [.tmp 4] ?_;have C1:=@h;exact wk trivial
def qbc {x y:Nat} (hx:bl x<=20000000) (hy:bl y<=20000000) (hy0:y≠0):ACt 296 [.fm (fL x),.fm (fL y)] (.tu [.fm (fL (x / y:Nat)),.fm (fL (x % y:Nat))]):=q3F (qfN hx hy hy0)
def q79 {s:Bool} {z:Nat} (hz:bl z<=20000000):ACt 134 [bv s,.fm (fL z)] (bT (sgn s z)):=by
 have C:=q1T (s:=s) (q0C z) (q3G hz);rw [q0D] at C;exact q3F C
def q78 {a:Int} (ha:bl a.natAbs<=20000000):ACt 139 [bT a] (bT a):=q3F (q36 rfl ha)
def q5v {a:Int} (ha:bl a.natAbs<=20000000):ACt 142 [bT a] (iv (bl a.natAbs:Nat)):=q3F (q3P ha)
def qbb {a b:Nat} (ha:bl a<=20000000) (hb:bl b<=20000000) (hb0:b≠0):ACt 279 [bT a,bT b] (.tu [bT (a / b:Nat),bT (a % b:Nat)]):=by
 have h1:=q0r (yU a b);have h2:=q0r (xF a b);have cA:=q78 (a:=a) (by rw [zJ]; exact ha);have cB:=q78 (a:=b) (by rw [zJ]; exact hb);have cD:=qbc ha hb hb0;have cQ:=q79 (s:=false) (z:=a / b) Oq;have cR:=q79 (s:=false) (z:=a % b) Oq;have cS:=q1e (a:=(a % b:Nat)) (by rw [zJ]; omega);rw [q7f] at cQ cR;have d:∀ z:Nat,decide ((z:Int) < 0)=false:=λz=>decide_eq_false Oq;have hs:((a % b:Nat):Int).sign < 0 ↔ False:=by
  rcases Nat.eq_zero_or_pos (a % b) with h | h
  .rw [h]; simp
  .rw [zX ω]; simp
 generalize ((a % b:Nat):Int).sign=sg at *;generalize a % b=r at *;generalize a / b=q at *;have hs':¬ sg < 0:=λh=>hs.1 h;have e0:(false != false)=false:=rfl;unfold bT at *;rw [d] at *;simp only [d] at *;refine ac0 Tryz.func279 Tryz.ntmps279 [.cell 4 42,.cell 5 42] ?_;exact wk1 (x2 e0 hs') trivial
def q8p {N M:Nat} {neg more:Bool} {mode e:Int} (hM:0 < M) (hN:M<=N) (hm:more=decide (N % M≠0)) (hmb:more=true->55<=bl (N / M)) (hb:bl (N / M)<=200000) (he1 : -200000<=e) (he2:e<=200000) :
  ACt 149 [bv neg,bT (N / M:Nat),iv e,bv more,iv mode] (uv (rE mode neg N M e:Nat)):=q5Q rfl hM hN hm hmb hb he1 he2
def rtK (a b:Nat):Nat:=62+bl b-bl a
def qdA {a b:Nat} (ha0:a≠0) (hb0:b≠0) (ha:bl a<=200000) (hb:bl b<=200000) :
  ACt 258 [bT a,bT b,iv 60] (.tu [bT (a*2 ^ rtK a b / b:Nat),iv (-(rtK a b:Int)),bv (decide (a*2 ^ rtK a b % b≠0))]):=by
 obtain ⟨k,hk⟩:∃ k,k=rtK a b:=⟨_,rfl⟩;rw [<- hk];unfold rtK at hk;have cA:=q5v (a:=a) (by rw [zJ]; omega);have cB:=q5v (a:=b) (by rw [zJ]; omega);rw [zJ] at cA cB;have cH:=q5I (a:=a) (m:=k) (by rw [zJ]; omega) ω ω;have eH:shI a (k:Int)=((a*2 ^ k:Nat):Int):=by unfold shI; rw [if_pos ω,zF]; simp
 rw [eH] at cH;have hbk:bl (a*2 ^ k)<=600000:=by rw [q1F ha0]; omega
 have cD:=qbb (a:=a*2 ^ k) (b:=b) Oq Oq hb0;have hbm:=q0r (xF (a*2 ^ k) b);have cS:=q1e (a:=(a*2 ^ k % b:Nat)) (by rw [zJ]; omega);have w1:IntKind.i64.wrap ((62:Int)+(bl b:Nat))=((62+bl b:Nat):Int):=by rw [i64_in ω ω]; omega
 have w2:IntKind.i64.wrap (((62+bl b:Nat):Int)-(bl a:Nat))=((62+bl b:Nat):Int)-(bl a:Nat):=i64_in Oq Oq;have em:max (((62+bl b:Nat):Int)-(bl a:Nat)) 0=(k:Int):=ω
 have w3:IntKind.i64.wrap (0-(k:Int)) = -(k:Int):=by rw [i64_in ω ω]; omega
 have es:(((a*2 ^ k % b:Nat):Int).sign != 0)=decide (a*2 ^ k % b≠0):=by
  by_cases h:a*2 ^ k % b=0
  .rw [h]; rfl
  .rw [zX ω,decide_eq_true h]; rfl
 generalize decide (a*2 ^ k % b≠0)=mr at *;generalize ((a*2 ^ k % b:Nat):Int).sign=sg at *;generalize a*2 ^ k % b=r at *;generalize a*2 ^ k / b=q at *;generalize a*2 ^ k=m at *;unfold bT at *;have w0:IntKind.i64.wrap ((60:Int)+2)=62:=rfl;refine ac0 Tryz.func258 Tryz.ntmps258 [.cell 6 42,.tmp 7,.tmp 8] ?_;exact wk1 (x6 w0 w1 w2 em w3 es) trivial
def qde {A B mode:Int} (hB0:B≠0):ACt 223 [pV A,pV B,iv mode] (uv (fQ mode A B:Nat)):=q6P (al':=[dT A,dT B,iv mode]) (p:=q0Z A/\q0Z B) qf5 (λD w vs hR=>by
 obtain ⟨a,b,c,rfl,h1,h2,h3⟩:=rd_3 hR;obtain ⟨h4,h5⟩:=q3C.2 (q8z h1);obtain ⟨h6,h7⟩:=q3C.2 (q8z h2);refine ⟨?_,h5,h7⟩;unfold RdL;refine ⟨_,_,rfl,h4,?_⟩;unfold RdL;exact ⟨_,_,rfl,h6,RdL.one h3⟩) λ⟨hA,hB⟩=>by
 obtain ⟨a1,a2,a3⟩:=q1B hA;obtain ⟨b1,b2,b3⟩:=q1B hB;have b4:=q6M hB;have cA:=q0t hA;have cB:=q0t hB;have sB:=q1e (a:=od B) Oq;have sA:=q1e (a:=od A) Oq;have oB:=q39 hB0;have e1:((od B).sign == 0)=false:=by simpa [zP] using oB
 by_cases hA0:A=0
 .have oA:od A=0:=by
   have:=q1K A;rw [hA0] at this ⊢
   rcases xA.1 this with h | h
   .exact h
   .exact absurd h (xL (q0L _))
  have e2:((od A).sign == 0)=true:=by rw [oA]; rfl
  have hres:fQ mode A B=0:=by unfold fQ; rw [if_pos hA0]
  rw [hres];unfold dT at *;unfold bT at *;refine ac0 Tryz.func223 Tryz.ntmps223 [.tmp 6] ?_;refine wk1 (x2 e1 e2) ?_
  rfl
 have oA:=q39 hA0;have e2:((od A).sign == 0)=false:=by simpa [zP] using oA
 have tA:=q8s (a:=od A) Oq;have tB:=q8s (a:=od B) Oq;have pA:(od A).natAbs≠0:=ω
 have pB:(od B).natAbs≠0:=ω
 have cR:=qdA pA pB Oq Oq;obtain ⟨k,hk⟩:∃ k,k=rtK (od A).natAbs (od B).natAbs:=⟨_,rfl⟩;rw [<- hk] at cR;have hk2:62+bl (od B).natAbs-bl (od A).natAbs=k:=hk.symm;have hbk:=q1F pA (k:=k);have hge:=q8Y pB (N:=(od A).natAbs*2 ^ k) (k:=60) (by rw [hbk]; omega);have hle:(od B).natAbs<=(od A).natAbs*2 ^ k:=by
  rcases Nat.lt_or_ge ((od A).natAbs*2 ^ k) (od B).natAbs with h | h
  .rw [Nat.div_eq_of_lt h] at hge; simp [bl] at hge
  .exact h
 have hbq:=q0r (yU ((od A).natAbs*2 ^ k) (od B).natAbs);have hrd:=q8p (N:=(od A).natAbs*2 ^ k) (M:=(od B).natAbs) (neg:=decide (A < 0) != decide (B < 0)) (mode:=mode) (e:=dyE A-k-dyE B) (Nat.pos_of_ne_zero pB) hle rfl (λ_=>by omega) Oq Oq Oq;rw [qjw hA0 hB0] at hrd;have hres:fQ mode A B=rF mode (decide (A < 0) != decide (B < 0)) A.natAbs B.natAbs:=by unfold fQ; rw [if_neg hA0]
 rw [hres];have w1:IntKind.i64.wrap (dyE A-dyE B)=dyE A-dyE B:=q65 Oq Oq;have w2:IntKind.i64.wrap (dyE A-dyE B + -(k:Int))=dyE A-k-dyE B:=by rw [i64_in ω ω]; omega
 have s1:=q21 A;have s2:=q21 B;generalize rF mode (decide (A < 0) != decide (B < 0)) A.natAbs B.natAbs=res at *;generalize decide ((od A).natAbs*2 ^ k % (od B).natAbs≠0)=mr at *;generalize (od A).natAbs*2 ^ k / (od B).natAbs=q at *;have d1:∀ z:Nat,decide ((z:Int) < 0)=false:=λz=>decide_eq_false Oq;unfold dT at *;unfold bT at *;rw [<- s1,<- s2] at hrd;refine ac0 Tryz.func223 Tryz.ntmps223 [.tmp 6] ?_;exact wk1 (x4 e1 e2 w1 w2) trivial

def qq9 (raw:List Nat) (k:Int) (st n:Nat):List Nat:=(List.range n).map λi:Nat=>q2J st (q5s raw (k+i))
def qg6 {raw:List Nat} {k:Int} {st n:Nat}:(qq9 raw k st n).length=n:=by simp [qq9]
def qhX (x:Nat):Prop:=0 < x / 1099511627776 % 3
instance {x:Nat}:Decidable (qhX x):=inferInstanceAs (Decidable (_ < _))
def gC (raw:List Nat) (R st j:Nat) (p:List Int × List Nat):Nat->List Int × List Nat
 | 0=>p
 | i+1=>let q:=gC raw R st j p i
  if qhX (q5s raw (100+j*R+i)) then (q.1 ++ [(i:Int)],q.2 ++ [q2J st (q5s raw (100+j*R+i))]) else q
def gM (raw:List Nat) (R st:Nat):Nat->List Int × List Int × List Nat
 | 0=>([0],[],[])
 | j+1=>let m:=gM raw R st j
  let p:=gC raw R st j m.2 R
  (m.1 ++ [(p.1.length:Int)],p)
abbrev pM (R C:Int) (m:List Int × List Int × List Nat):PV:=.ag [iv R,iv C,pI m.1,pI m.2.1,pF m.2.2]
def qeg {raw:List Nat} {R st j:Nat} {p:List Int × List Nat} (hp:p.1.length=p.2.length):∀ i,(gC raw R st j p i).1.length=(gC raw R st j p i).2.length/\(gC raw R st j p i).1.length<=p.1.length+i
 | 0=>⟨hp,zU _⟩
 | i+1=>by
  have:=qeg (raw:=raw) (R:=R) (st:=st) (j:=j) hp i;simp only [gC]
  split
  .simp only [zO,List.length_cons,List.length_nil]; omega
  .omega
def qkc {raw:List Nat} {R st:Nat}:∀ j,(gM raw R st j).1.length=j+1/\(gM raw R st j).2.1.length=(gM raw R st j).2.2.length/\(gM raw R st j).2.1.length<=j*R
 | 0=>⟨rfl,rfl,by simp [gM]⟩
 | j+1=>by
  have h1:=qkc (raw:=raw) (R:=R) (st:=st) j;have h2:=qeg (raw:=raw) (R:=R) (st:=st) (j:=j) h1.2.1 R;simp only [gM];refine ⟨by simp [h1.1],h2.1,?_⟩;rw [Nat.succ_mul]; omega
def qbx {raw : List Nat} {st : Int} {R C : Nat} (hr : raw.length <= 9223372036854775807) (hR : R <= 1000) (hC : C <= 1000) (h3 : -9223372036854775808 <= st) (h4 : st <= 9223372036854775807) :
    ACt 51 [pF raw, iv R, iv C, iv st] (pM R C (gM raw R (q06 st 4) C)) := by
  refine ac0 Tryz.func51 Tryz.ntmps51 [.cell 8 26] ?_
  refine wk ?_
  obtain ⟨sm, hsm⟩ : ∃ sm, sm = q06 st 4 := ⟨_, rfl⟩
  rw [<- hsm]
  refine q0B (λj => j <= C) [0, 1, 2, 3, 8, 9] [8] Lk Lk (λj : Nat => [(10, iv j)]) (λj => [(9, ⟨26, some 5, [.ag [iv R, iv C, .ow 1001 none 0 (gM raw R sm j).1.length, .ow 1002 none 0 (gM raw R sm j).2.1.length, .ow 1003 none 0 (gM raw R sm j).2.2.length]], false⟩), (1001, ⟨3, none, (gM raw R sm j).1.map λz => iv z, false⟩), (1002, ⟨3, none, (gM raw R sm j).2.1.map λz => iv z, false⟩), (1003, ⟨32, none, (gM raw R sm j).2.2.map λz : Nat => uv z, false⟩)]) (λj => C - j) 0 (zG _) ?_ ?_
  . refine LeM [(1001, some 15), (1002, none), (1003, none)] rfl rfl ?_
    refine Zz ?_
    exact ⟨rfl, ⟨rfl, rfl, rfl⟩, rfl, rfl, rfl⟩
  . intro j hj
    have hg := qkc (raw := raw) (R := R) (st := sm) j
    have hjR : j * R <= 1000 * 1000 := u7 Oq hR
    refine wk ?_
    by_cases hlt : j < C
    . have hlt' : (j : Int) < C := by omega
      refine wk1 hlt' ?_
      refine q0B (λi => i <= R) [0, 1, 2, 3, 8, 9, 10] [8, 1001] Lk Lk (λi : Nat => [(11, iv i)]) (λi => [(9, ⟨26, some 5, [.ag [iv R, iv C, .ow 1001 none 0 (gM raw R sm j).1.length, .ow 1002 none 0 (gC raw R sm j (gM raw R sm j).2 i).1.length, .ow 1003 none 0 (gC raw R sm j (gM raw R sm j).2 i).2.length]], false⟩), (1002, ⟨3, none, (gC raw R sm j (gM raw R sm j).2 i).1.map λz => iv z, false⟩), (1003, ⟨32, none, (gC raw R sm j (gM raw R sm j).2 i).2.map λz : Nat => uv z, false⟩)]) (λi => R - i) 0 (zG _) ?_ ?_
      . refine LeM [] rfl rfl ?_
        refine Zz ?_
        exact ⟨rfl, ⟨rfl, rfl⟩, rfl, rfl⟩
      . intro i hi
        have hq := qeg (raw := raw) (R := R) (st := sm) (j := j) hg.2.1 i
        refine wk ?_
        by_cases hlt2 : i < R
        . have hlt2' : (i : Int) < R := by omega
          refine wk1 hlt2' ?_
          have e0 : 0 <= (j : Int) * R := Int.mul_nonneg Oq Oq
          have e1 : (j : Int) * R <= 1000000 := by have : ((j * R : Nat) : Int) <= 1000000 := by omega
                                                   rwa [Int.natCast_mul] at this
          obtain ⟨x, hx⟩ : ∃ x, x = q5s raw (100 + j * R + i) := ⟨_, rfl⟩
          have hxl : x < 18446744073709551616 := by rw [hx]; exact q4G _ _
          have e2 : (((x : Nat) : Int).fdiv (2 ^ min (Int.toNat 40) 64)) = ((x / 1099511627776 : Nat) : Int) := by
            show (((x : Nat) : Int).fdiv (2 ^ 40)) = _
            rw [show ((2 : Int) ^ 40) = ((1099511627776 : Nat) : Int) from rfl, Int.fdiv_eq_ediv_of_nonneg _ ω]; rfl
          have e3 : (((x / 1099511627776 : Nat) : Int).tmod 3) = ((x / 1099511627776 % 3 : Nat) : Int) := by rw [Int.tmod_eq_emod_of_nonneg ω]; rfl
          have C1 := @qch
          have C2 := @qse
          have ek : (decide (((x / 1099511627776 % 3 : Nat) : Int) > 0)) = decide (qhX x) := by unfold qhX; congr 1; exact propext ⟨λh => by omega, λh => by omega⟩
          by_cases hkp : qhX x
          . refine wk1 (x6 hx.symm hsm.symm e2 e3 ek hkp) ?_
            have eg : gC raw R sm j (gM raw R sm j).2 (i + 1) = ((gC raw R sm j (gM raw R sm j).2 i).1 ++ [(i : Int)], (gC raw R sm j (gM raw R sm j).2 i).2 ++ [q2J sm x]) := by
              simp only [gC]; rw [<- hx, if_pos hkp]
            refine ⟨i + 1, by omega, by omega, ?_⟩
            rw [eg]
            refine LeM [(1002, some 43), (1003, some 51)] rfl rfl ?_
            refine Zz ?_
            omega
          . refine wk1 (x5 hx.symm e2 e3 ek hkp) ?_
            refine ⟨i + 1, by omega, by omega, ?_⟩
            have eg : gC raw R sm j (gM raw R sm j).2 (i + 1) = gC raw R sm j (gM raw R sm j).2 i := by
              simp only [gC]; rw [<- hx, if_neg hkp]
            rw [eg]
            refine LeM [] rfl rfl ?_
            refine Zz ?_
            omega
        . have hlt2' : ¬ (i : Int) < R := by omega
          obtain rfl : i = R := by omega
          refine wk1 hlt2' ?_
          refine ⟨j + 1, by omega, by omega, ?_⟩
          refine LeM [(1001, some 59)] rfl rfl ?_
          refine Zz ?_
          exact ⟨ω, ⟨by simp [gM], rfl, rfl⟩, rfl, rfl, rfl⟩
    . have hlt' : ¬ (j : Int) < C := by omega
      obtain rfl : j = C := by omega
      exact wk1 (x2 hlt' hsm.symm) trivial
def gF (raw:List Nat) (R st:Nat) (j i:Nat):Option Nat:=if qhX (q5s raw (100+j*R+i)) then some (q2J st (q5s raw (100+j*R+i))) else none
def gC_s {raw:List Nat} {R st j i:Nat} {p:List Int × List Nat} {x:Nat} (hx:q5s raw (100+j*R+i)=x):gC raw R st j p (i+1)=if qhX x then ((gC raw R st j p i).1 ++ [(i:Int)],(gC raw R st j p i).2 ++ [q2J st x]) else gC raw R st j p i:=by
 subst hx; rfl
def gF_x {raw:List Nat} {R st j i x:Nat} (hx:q5s raw (100+j*R+i)=x):gF raw R st j i=if qhX x then some (q2J st x) else none:=by
 subst hx; rfl
def q8q {f:Nat->Nat->Option Nat} {j i x:Nat} {p:List Int × List Nat} (h:f j i=some x):tC f j p (i+1)=((tC f j p i).1 ++ [(i:Int)],(tC f j p i).2 ++ [x]):=by simp only [tC,h]
def q7a {f:Nat->Nat->Option Nat} {j i:Nat} {p:List Int × List Nat} (h:f j i=none):tC f j p (i+1)=tC f j p i:=by simp only [tC,h]
def gC_eq {raw:List Nat} {R st j:Nat} {p:List Int × List Nat} {G:Nat->Nat->Option Nat} (hG:∀ i,G j i=gF raw R st j i) (i:Nat):gC raw R st j p i=tC G j p i:=by
 induction i with
 | zero=>unfold gC tC; rfl
 | succ i ih =>
  obtain ⟨x,hx⟩:∃ x,q5s raw (100+j*R+i)=x:=⟨_,rfl⟩;have e2:=(hG i).trans (gF_x (R:=R) (st:=st) hx);rw [gC_s hx,ih]
  by_cases h:qhX x
  .rw [if_pos h] at e2 ⊢;rw [q8q e2]
  .rw [if_neg h] at e2 ⊢;rw [q7a e2]
def gM_eq {raw:List Nat} {R st:Nat} (j:Nat):gM raw R st j=tM (gF raw R st) R j:=by
 induction j with
 | zero=>rfl
 | succ j ih =>
  have e1:gM raw R st (j+1)=((gM raw R st j).1 ++ [((gC raw R st j (gM raw R st j).2 R).1.length:Int)],gC raw R st j (gM raw R st j).2 R):=rfl;rw [e1,ih,gC_eq (G:=gF raw R st) λ_=>rfl]; rfl
def q50 {raw:List Nat} {st:Int} {R C:Nat} (hr:raw.length<=9223372036854775807) (hR:R<=1000) (hC:C<=1000) (h3 : -9223372036854775808<=st) (h4:st<=9223372036854775807) :
  ACt 51 [pF raw,iv R,iv C,iv st] (pT R C (gF raw R (q06 st 4))):=by
 have:=qbx (R:=R) (C:=C) hr hR hC h3 h4;rw [gM_eq] at this;exact this
def qmx {x:Nat} (hx:x < 18446744073709551616):q0I (q2J 2 x)/\q2J 2 x < 18446744073709551616:=by
 unfold q0I q2J;rw [if_neg ω,if_pos rfl];have h1:x / 9223372036854775808<=1:=ω
 have h2:x / 256 % 81 < 81:=ω
 have h3:x / 2251799813685248 % 2<=1:=ω
 generalize x / 9223372036854775808=a at *;generalize x / 256 % 81=b at *;generalize x / 2251799813685248 % 2=c at *;omega
def q9H {k x:Nat} (hx:x < 18446744073709551616):q0I (q2J k x)/\q2J k x < 18446744073709551616:=by
 by_cases h1:k=1
 .subst h1;unfold q0I q2J;rw [if_pos rfl];omega
 by_cases h2:k=2
 .subst h2; exact qmx hx
 by_cases h3:k=3
 .subst h3;unfold q0I q2J;rw [if_neg ω,if_neg ω,if_pos rfl]
  split <;> omega
 have hs:=q4p x;unfold q2J;rw [if_neg h1,if_neg h2,if_neg h3];exact ⟨qnb Oq,qt0 Oq⟩
def qna {raw:List Nat} {R C st:Nat} (hR:R<=200) (hC:C<=200) (hm:C*R<=10000):TOk (gF raw R st) R C:=by
 have key:∀ j i x,gF raw R st j i=some x->q0I x/\x < 18446744073709551616:=λj i x h=>by
  obtain ⟨u,hu⟩:∃ u,q5s raw (100+j*R+i)=u:=⟨_,rfl⟩;have hl:u < 18446744073709551616:=by rw [<- hu]; exact q4G _ _
  rw [gF_x hu] at h
  split at h
  .have h:=zK.inj h;rw [<- h]; exact q9H hl
  .cases h
 exact ⟨hR,hC,hm,λj i x _ _ h=>(key j i x h).2,λj i x _ _ h=>(key j i x h).1⟩
section
variable {D:Nat->Prop} {L:List Nat} {N0 g n gy:Nat} {rows:List (List Int)} {ss:List (Option Addr × Nat × Nat)} {w w':World}
def qsN {mode:Int} {neg:Bool} {N M:Nat} (hN:0 < N) (hM:0 < M):rF mode neg N M < 18446744073709551616:=by
 have h1:M<=N*2 ^ bl M:=uY (Nat.le_of_lt (q27 M)) (y8 _ hN);have:=qsP (mode:=mode) (neg:=neg) (e := -((bl M:Nat):Int)) hM h1;unfold rE at this;rw [show (-((bl M:Nat):Int)).toNat=0 by omega,show (- -((bl M:Nat):Int)).toNat=bl M by omega,Nat.pow_zero,xN,q38 hN hM (q0E _)] at this;exact this
def qoF {mode a b:Int} (hb:b≠0):fQ mode a b < 18446744073709551616:=by
 unfold fQ
 split
 .omega
 .exact qsN Oq Oq
end
def q3D {V:Int}:Nz (pV V):=λw D B v hB h=>by
 obtain ⟨s,A,n,c,rfl,⟨h1,h2⟩,h3⟩:=q8z h;refine qdb ⟨s,A,n,c,rfl,⟨h1,⟨h2.1.cap,h2.1.len,λhx=>?_⟩,h2.2⟩,h3⟩;obtain ⟨ad,hA,hd,hcell⟩:=h2.1.at_ hx;refine ⟨ad,hA,⟨hd,λhb=>?_⟩,hcell⟩;obtain ⟨cs,T,hb,hc⟩:=hB _ hb;obtain ⟨x,hx0⟩:∃ x,((lim (od V).natAbs).map u32v)[0]?=some x:=⟨_,zA hx⟩;have h1:=hcell 0 x hx0;have h2:∃ d:Int,x=.int .u32 d:=by
  rw [zH] at hx0;cases hl:(lim (od V).natAbs)[0]? with
  | none=>rw [hl] at hx0; cases hx0
  | some d=>rw [hl] at hx0; exact ⟨_,(zK.inj hx0).symm⟩
 obtain ⟨d,rfl⟩:=h2;have h3:w.heap[ad.block]?=some (.cells cs T (0,0)):=hb;have h4:(ad.add 0).block=ad.block:=q1G ad 0;unfold World.cell? at h1;rw [h4,h3] at h1;simp only at h1
 split at h1
 .cases h1
 .have:=hc _ (Array.mem_toList_iff.2 (Array.mem_of_getElem? h1));cases this
abbrev pVs (l:List Int):PV:=.sl (some 4) (l.map λV=>pV V)
def clV {l:List Int}:ClL (l.map λV=>pV V):=λx hx=>by
 obtain ⟨e,_,rfl⟩:=zQ.1 hx
 trivial
def q95 {l:List Int} (hn:l.length<=1000) (hv:q0Z (q1M l)):ACt 45 [pVs l] (pV (q1M l)):=⟨κ,λD w vs hT hF hR=>by
 refine (qoJ hn (λx hx=>?_) hv).2 D w vs hT hF hR;obtain ⟨_,rfl,h3⟩:=qqC hR;obtain ⟨i,hi⟩:=List.mem_iff_getElem?.1 hx;unfold Rd at h3;obtain ⟨_,_,_,us,_,_,_,h5,_⟩:=h3;obtain ⟨v,_,hr⟩:=h5.get (show (l.map λV=>pV V)[i]?=some (pV x) by simp [hi]);exact ((q3C (ρ:=λ_=>none) (h:=h0)).2 (q8z hr)).2⟩
def q04:Int:=(mkV 1 0).getD 0
def q5R:mkV 1 0=some q04/\bl q04.natAbs<=67600:=by
 have h1:bl (Int.natAbs 1)<=1:=q0O (by decide);have h:=q5V (m:=1) (E:=0) Oq Oq;unfold q04;rw [h];refine ⟨rfl,?_⟩;obtain ⟨k,hk⟩:∃ k,k=((0:Int)+65536).toNat:=⟨_,rfl⟩;have hk2:k<=65536:=ω
 rw [<- hk,yK,q0G,q1F (by decide)];omega
def q51 {mode V:Int}:fR mode V < 18446744073709551616:=by
 unfold fR
 split
 .omega
 .exact qsN Oq (by exact Nat.two_pow_pos 65536)
def TOk.fin {f:Nat->Nat->Option Nat} {R C j i:Nat} (h:TOk f R C) (hj:j < C) (hi:i < R):q0I ((f j i).getD 0)/\(f j i).getD 0 < 18446744073709551616:=by
 cases hx:f j i with
 | none=>exact ⟨by unfold q0I; simp,σ⟩
 | some x=>exact ⟨h.v j i x hj hi hx,h.u j i x hj hi hx⟩
def qaG {l:List Int} (h:∀ x ∈ l,bl x.natAbs<=67600) (hl:l.length<=1024):q0Z (q1M l):=by
 have:=q5J h hl;rw [zS] at this;unfold q0Z;omega




def lfN (l:List Int) (r:Nat):Nat:=(l.getD r 0).toNat
def qeS {l:List Int} {r x:Nat} (h:l[r]?=some (x:Int)):lfN l r=x:=by
 unfold lfN; rw [zC,h]; simp
section
variable {n:Nat} {g g':Nat->Nat->Bool} {gn gn':Nat->Bool} {h:Hp}
end

def od_z0 {V:Int} (h:V=0):od V=0:=by
 have:=q1K V;rw [h] at this ⊢
 rcases xA.1 this with h | h
 .exact h
 .exact absurd h (xL (q0L _))
def qgz {A B mode:Int} (hB0:B=0):ACt 223 [pV A,pV B,iv mode] (uv 9221120237041090560):=q6P (al':=[dT A,dT B,iv mode]) (p:=q0Z A/\q0Z B) qf5 (λD w vs hR=>by
 obtain ⟨a,b,c,rfl,h1,h2,h3⟩:=rd_3 hR;obtain ⟨h4,h5⟩:=q3C.2 (q8z h1);obtain ⟨h6,h7⟩:=q3C.2 (q8z h2);refine ⟨?_,h5,h7⟩;unfold RdL;refine ⟨_,_,rfl,h4,?_⟩;unfold RdL;exact ⟨_,_,rfl,h6,RdL.one h3⟩) λ⟨hA,hB⟩=>by
 have b3:=q26 hB;have cA:=q0t hA;have cB:=q0t hB;have sB:=q1e (a:=od B) Oq;have e1:((od B).sign == 0)=true:=by rw [od_z0 hB0]; rfl
 unfold dT at *;unfold bT at *;refine ac0 Tryz.func223 Tryz.ntmps223 [.tmp 6] ?_;exact wk1 e1 trivial
def q4D (mode A B:Int):Nat:=if B=0 then 9221120237041090560 else fQ mode A B
def qdi {mode A B:Int}:q4D mode A B < 18446744073709551616:=by
 unfold q4D
 split
 .omega
 .exact qoF (by assumption)
def qgy {A B mode:Int}:ACt 223 [pV A,pV B,iv mode] (uv (q4D mode A B:Nat)):=by
 unfold q4D
 split
 .exact qgz (by assumption)
 .exact qde (by assumption)
end Go.Proofs.YtbjoghfmhgadkaaGreatDoor
namespace Go.E
open Go Go.RowKit
section
variable {P:Program} {J:Nat->Prop} {s:Nat->PV} {h hw:Hp} {τ:Nat->Option Nat} {T1 T2:TypeId} {N R n k m:Nat} {g:Nat->Nat->Nat}
def tabU (T1 T2:TypeId) (N R n k m:Nat) (g:Nat->Nat->Nat):Hp:=λi =>
 if i=N then some ⟨T1,none,(List.range n).map λj=>if j < k then .ow (j+R) none 0 m else .vl (.slice none 0 0),false⟩
 else if R<=i/\i < R+k then some ⟨T2,none,(List.range m).map λc=>.vl (.int .u64 (g (i-R) c:Nat)),false⟩ else none
def qrA:tabU T1 T2 N R n k m g N=some ⟨T1,none,(List.range n).map λj=>if j < k then .ow (j+R) none 0 m else .vl (.slice none 0 0),false⟩:=if_pos rfl
def qqz {j:Nat} (hN:N < R) (hj:j < k):tabU T1 T2 N R n k m g (j+R)=some ⟨T2,none,(List.range m).map λc=>.vl (.int .u64 (g j c:Nat)),false⟩:=by
 unfold tabU;rw [if_neg ω,if_pos ω,yE]
attribute [go_sem ↓] qrA qqz
def q29 (g:Nat->Nat->Nat) (r c v:Nat):Nat->Nat->Nat:=λx y=>if x=r/\y=c then v else g x y
def qgv {f:Nat->Nat} {c v:Nat}:((List.range m).map λy=>PV.vl (.int .u64 (f y:Nat))).set c (.vl (.int .u64 (v:Nat)))=(List.range m).map λy=>PV.vl (.int .u64 (if y=c then v else f y:Nat)):=by
 apply yH
 intro i;rw [yA];simp only [z9,z6,zH]
 by_cases hi:i < m
 .rw [zD hi]
  by_cases hc:c=i
  .subst hc; simp [hi]
  .simp [hc,Ne.symm hc]
 .rw [z8 (by simpa using hi)]
  by_cases hc:c=i <;> simp [hc]
  omega
def tnU (N o:Nat):Nat->Option Nat:=λi=>if i=N then some o else some i
def qqm {o i:Nat}:tnU N o i=if i=N then some o else some i:=rfl
attribute [go_sem ↓] qqm
end
section
variable {P:Program} {Tb:World->Prop} {J:Nat->Prop} {n:Nat} {Q:SQ} {s:Nat->PV} {h:Hp}
def A_jW [NL] {a b:Code} (xs:List (Nat × PV)) (bs:List (Nat × Bk)) (hw:Hp) (hb:AW P Tb J n b Q (stM xs []) (q0u hw (hpM bs [])))
  (ha:∀ K:(Nat->PV)->Hp->Prop,(∀ s h,Le J s h (stM xs []) (q0u hw (hpM bs []))->K s h)->AW P Tb J n a (thA K Q) s h):AW P Tb J n (.seq a b) Q s h :=
 q4C λK hK=>ha K λs h hl=>hK s h (q1g hl hb)
end
section
variable {J:Nat->Prop} {s:Nat->PV} {h hw:Hp} {τ:Nat->Option Nat}
def LeT [NL] (τ:Nat->Option Nat) {xs kv:List (Nat × PV)} {bs:List (Nat × Bk)} {kb:List (Nat × Option Bk)} (hJ:∀ i,J i->τ i=some i) (hlo:∀ i ∈ bs.map (·.1) ++ kb.map (·.1),¬ win i)
  (hW:∀ i b,win i->hw i=some b->LeB τ h (q0u hw (hpM bs kb)) i b)
  (hi:∀ i j k,(win i/\hw i≠none\/i ∈ bs.map (·.1) ++ kb.map (·.1))->(win j/\hw j≠none\/j ∈ bs.map (·.1) ++ kb.map (·.1))->τ i=some k->τ j=some k->i=j)
  (hh:q4l τ h (q0u hw (hpM bs kb)) s xs/\q4l τ h (q0u hw (hpM bs kb)) s kv/\qcR τ h (q0u hw (hpM bs kb)) bs/\q8d τ h (q0u hw (hpM bs kb)) kb):Le J s h (stM xs kv) (q0u hw (hpM bs kb)):=by
 obtain ⟨h1,h2,h3,h4⟩:=hh;have hm:∀ i b,q0u hw (hpM bs kb) i=some b->(win i/\hw i=some b)\/(¬ win i/\LeB τ h (q0u hw (hpM bs kb)) i b/\i ∈ bs.map (·.1) ++ kb.map (·.1)):=λi b hb=>by
  by_cases hi:win i
  .rw [q0V hi] at hb; exact .inl ⟨hi,hb⟩
  .rw [q14 hi] at hb; exact .inr ⟨hi,q3z h4 h3 i b hb⟩
 have hm2:∀ i b,q0u hw (hpM bs kb) i=some b->(win i/\hw i≠none\/i ∈ bs.map (·.1) ++ kb.map (·.1)):=λi b hb=>by
  rcases hm i b hb with ⟨a,c⟩ | ⟨_,_,c⟩
  .exact .inl ⟨a,by rw [c]; exact tD _⟩
  .exact .inr c
 refine q4W τ (λi b hb=>?_) (λi j k b c hi' hj ti tj=>hi i j k (hm2 i b hi') (hm2 j c hj) ti tj) (λt=>q6R h2 h1 t) λi q _ _=>hJ i q
 rcases hm i b hb with ⟨q1,q2⟩ | ⟨_,q,_⟩
 .exact hW i b q1 q2
 .exact q
variable {T1 T2:TypeId} {K:Kd} {N R n:Nat} {row:Nat->List PV} {B:Hp}
def q1X (T1 T2:TypeId) (K:Kd) (N R n:Nat) (row:Nat->List PV) (B:Hp):Hp:=λi =>
 if i=N then some ⟨T1,none,(List.range n).map λj=>.ow (j+R) K 0 (row j).length,false⟩
 else if R<=i/\i < R+n then some ⟨T2,K,row (i-R),false⟩ else B i
def q1k:q1X T1 T2 K N R n row B N=some ⟨T1,none,(List.range n).map λj=>.ow (j+R) K 0 (row j).length,false⟩:=if_pos rfl
def q13 {j:Nat} (hN:N < R) (hj:j < n):q1X T1 T2 K N R n row B (j+R)=some ⟨T2,K,row j,false⟩:=by
 unfold q1X;rw [if_neg ω,if_pos ω,yE]
def q0M {i:Nat} (h1:i≠N) (h2:i < R\/R+n<=i):q1X T1 T2 K N R n row B i=B i:=by
 unfold q1X;rw [if_neg h1,if_neg ω]
attribute [go_sem ↓] q1k q13 q0M
def q1E {i:Nat} {b:Bk} (hb:q1X T1 T2 K N R n row B i=some b):(i=N/\b=⟨T1,none,(List.range n).map λj=>.ow (j+R) K 0 (row j).length,false⟩)\/(i≠N/\R<=i/\i < R+n/\b=⟨T2,K,row (i-R),false⟩)\/(i≠N/\(i < R\/R+n<=i)/\B i=some b):=by
 unfold q1X at hb
 split at hb
 .cases hb; exact .inl ⟨‹_›,rfl⟩
 .rename_i h1
  split at hb
  .rename_i hi; cases hb; exact .inr (.inl ⟨h1,hi.1,hi.2,rfl⟩)
  .exact .inr (.inr ⟨h1,ω,hb⟩)
structure BOk (B:Hp) (p:Nat->Prop):Prop where
 b:∀ i b,B i=some b->p i/\b.st=false/\IdL (λj=>B j≠none) b.xs
def BOk.h0 {p:Nat->Prop}:BOk h0 p:=⟨λ_ _ h=>by cases h⟩
def qf3 {p:Nat->Prop} {x:PV} (h:q2z x):IdP p x:=by
 cases x <;> unfold IdP <;> first | trivial | exact h.elim
def q9a {p:Nat->Prop} {x:PV} (h:Cld x):IdP p x:=by
 cases x with
 | ag l=>unfold IdP; exact IdL.of λx hx=>qf3 (h x hx)
 | _=>exact qf3 h
def q1i {p:Nat->Prop} (hB:BOk B p) (hrow:∀ j,j < n->ClL (row j)) (hNR:N < R) (hp:p N/\∀ j,j < n->p (j+R)):BOk (q1X T1 T2 K N R n row B) p:=⟨λi b hb=>by
 rcases q1E hb with ⟨rfl,rfl⟩ | ⟨h0,h1,h2,rfl⟩ | ⟨h1,h2,h3⟩
 .refine ⟨hp.1,rfl,IdL.of λx hx=>?_⟩;obtain ⟨z,hz,rfl⟩:=zQ.1 hx;unfold IdP;rw [q13 hNR (zY.1 hz)];exact tD _
 .refine ⟨by have:=hp.2 (i-R) ω; rwa [Nat.sub_add_cancel h1] at this,rfl,IdL.of λx hx=>?_⟩;exact q9a (hrow (i-R) Oq x hx)
 .obtain ⟨q1,q2,q3⟩:=hB.b i b h3;refine ⟨q1,q2,IdL_mono (λj hj=>?_) _ q3⟩;unfold q1X
  split
  .exact tD _
  .split
   .exact tD _
   .exact hj⟩
def q87 (row:Nat->List PV) (k:Nat) (l:List PV):Nat->List PV:=λj=>if j=k then l else row j
def qaP {k:Nat} {l:List PV}:q87 row k l k=l:=if_pos rfl
def qaQ {k j:Nat} {l:List PV} (h:j≠k):q87 row k l j=row j:=if_neg h
def q2t {j:Nat} {l:List PV} (hNR:N < R) (hj:j < n) (hl:l.length=(row j).length):q0P (q1X T1 T2 K N R n row B) (j+R) ⟨T2,K,l,false⟩=q1X T1 T2 K N R n (q87 row j l) B:=by
 funext i
 unfold q0P
 split
 .rename_i hi; subst hi;rw [q13 hNR hj,qaP]
 .rename_i hi;unfold q1X
  split
  .congr 2
   refine zM λc _=>?_
   by_cases hc:c=j
   .subst hc; rw [qaP,hl]
   .rw [qaQ hc]
  .split
   .rw [qaQ ω]
   .rfl
def q2Y {i:Nat} {b:Bk} (h1:i≠N) (h2:i < R\/R+n<=i):q0P (q1X T1 T2 K N R n row B) i b=q1X T1 T2 K N R n row (q0P B i b):=by
 funext j
 unfold q0P q1X
 by_cases hj:j=i
 .subst hj;simp only [if_true];rw [if_neg h1,if_neg ω]
 .simp only [if_neg hj]
variable {xs kv:List (Nat × PV)} {bs:List (Nat × Bk)} {kb:List (Nat × Option Bk)}
def q60 [NL] {r k:Nat} {l:List PV} (hJ:∀ i,¬ J i) (hk:k < n) (hcl:ClL l) (ho:h N=some ⟨T1,none,((List.range n).map λj=>.ow (j+R) K 0 (row j).length).set k (.ow r K 0 l.length),false⟩) (hr:h r=some ⟨T2,K,l,false⟩)
  (hq:∀ i,win i->i≠N->i≠k+R->i≠r->h i=q1X T1 T2 K N R n row B i) (hcr:∀ j,j < n->ClL (row j)) (hB:BOk B (λi=>win i/\i≠N/\(i < R\/R+n<=i)/\i≠r)) (h6:r < 5000\/(r≠N/\(r < R\/R+n<=r))) (hN:5000<=N) (hNR:N < R) (hR:R+n<=1000000) (hn:nmW r r (bs.map (·.1) ++ kb.map (·.1)))
  (hh:q4l (tnU (k+R) r) h (q0u (q1X T1 T2 K N R n (q87 row k l) B) (hpM bs kb)) s xs/\q4l (tnU (k+R) r) h (q0u (q1X T1 T2 K N R n (q87 row k l) B) (hpM bs kb)) s kv/\qcR (tnU (k+R) r) h (q0u (q1X T1 T2 K N R n (q87 row k l) B) (hpM bs kb)) bs/\q8d (tnU (k+R) r) h (q0u (q1X T1 T2 K N R n (q87 row k l) B) (hpM bs kb)) kb):Le J s h (stM xs kv) (q0u (q1X T1 T2 K N R n (q87 row k l) B) (hpM bs kb)):=by
 have tK:tnU (k+R) r (k+R)=some r:=if_pos rfl;have tI:∀ i,i≠k+R->tnU (k+R) r i=some i:=λi a=>if_neg a;have hl:=λi hi=>q4P hn i hi;refine LeT (tnU (k+R) r) (λi q=>(hJ i q).elim) (λi hi hw=>?_) (λi b hw hb=>?_) (λi j k' hi hj ti tj=>?_) hh
 .have:=(hl i hi).1; unfold win at hw; omega
 .rcases q1E hb with ⟨rfl,rfl⟩ | ⟨a0,a1,a2,rfl⟩ | ⟨a1,a2,a3⟩
  .unfold LeB;rw [tI i ω];refine ⟨_,ho,rfl,rfl,⟨rfl,rfl⟩,σ,λc u v hx hy=>?_⟩;have hc:c < n:=by have:=(zB.1 hy).1; simpa using this
   rw [zH,zD hc,zR] at hy;cases hy;rw [yA] at hx;have hbb:=(q0V (h:=hpM bs kb) (hw:=q1X T1 T2 K i R n (q87 row k l) B) (i:=c+R) ⟨ω,ω⟩).trans (q13 hNR hc)
   by_cases hck:k=c
   .subst hck;rw [if_pos rfl,if_pos (by simpa using hc)] at hx;cases hx;rw [qaP];exact .ow tK hbb
   .rw [if_neg hck,zH,zD hc,zR] at hx;cases hx;rw [qaQ (Ne.symm hck)];exact .ow (tI _ Oq) hbb
  .by_cases e:i=k+R
   .subst e;unfold LeB;rw [tK,yE,qaP];exact ⟨_,hr,rfl,rfl,⟨rfl,rfl⟩,q0R rfl hcl⟩
   .unfold LeB;rw [tI i e,qaQ ω];have:=hq i hw a0 e (by unfold win at hw; omega);have e2:=q13 (T1:=T1) (T2:=T2) (K:=K) (row:=row) (B:=B) hNR (show i-R < n by omega);rw [Nat.sub_add_cancel a1] at e2;exact ⟨_,this.trans e2,rfl,rfl,⟨rfl,rfl⟩,q0R rfl (hcr _ Oq)⟩
  .obtain ⟨⟨q0,q1,q2,q4⟩,q3,q5⟩:=hB.b i b a3;unfold LeB;rw [tI i ω];refine ⟨b,(hq i hw a1 Oq q4).trans ((q0M a1 a2).trans a3),rfl,rfl,⟨q3,q3⟩,LeL_self (λj hj=>?_) _ q5⟩;obtain ⟨c,hc⟩:=zI.1 hj;obtain ⟨⟨p0,p1,p2,p4⟩,_⟩:=hB.b j c hc;exact ⟨tI j ω,c,by rw [q0V p0,q0M p1 p2]; exact hc⟩
 .have a:∀ i,(win i/\q1X T1 T2 K N R n (q87 row k l) B i≠none\/i ∈ bs.map (·.1) ++ kb.map (·.1))->i≠r:=λi hi=>by
   rcases hi with ⟨q,hi⟩ | hi
   .rintro rfl;obtain ⟨b,hb⟩:=zI.1 hi;unfold win at q
    rcases q1E hb with ⟨e,_⟩ | ⟨_,e1,e2,_⟩ | ⟨_,_,e⟩
    .omega
    .omega
    .exact (hB.b i b e).1.2.2.2 rfl
   .exact (hl i hi).2.1
  have a1:=a i hi;have a2:=a j hj;unfold tnU at ti tj
  split at ti <;> split at tj <;> cases ti <;> cases tj <;> first | omega | rfl | exact (a1 rfl).elim | exact (a2 rfl).elim
def qui {h:Hp} {i:Nat} {b:Bk} {f:Nat->Nat} (hi:i < R\/R+n<=i):q5n (q0P h i b) n R K f=q5n h n R K f:=by
 have:∀ l:List Nat,(∀ j ∈ l,j < n)->q1V (q0P h i b) (l.map λj=>.ow (j+R) K 0 (f j))=q1V h (l.map λj=>.ow (j+R) K 0 (f j)):=λl=>by
  induction l with
  | nil=>intro _; rfl
  | cons j l ih =>
   intro hl;have hj:=hl j yM;rw [uX,q1V,q1V,ih λk hk=>hl k (yJ _ hk)];simp only [qcG];rw [q0A ω]
 exact this _ λj hj=>zY.1 hj
def qkm {h h':Hp} {f:Nat->Nat} (hh:∀ j,j < n->h (j+R)=h' (j+R)):q5n h n R K f=q5n h' n R K f:=by
 have:∀ l:List Nat,(∀ j ∈ l,j < n)->q1V h (l.map λj=>.ow (j+R) K 0 (f j))=q1V h' (l.map λj=>.ow (j+R) K 0 (f j)):=λl=>by
  induction l with
  | nil=>intro _; rfl
  | cons j l ih =>
   intro hl;have hj:=hl j yM;rw [uX,q1V,q1V,ih λk hk=>hl k (yJ _ hk)];simp only [qcG];rw [hh j hj]
 exact this _ λj hj=>zY.1 hj
def quh {h hw:Hp} {f:Nat->Nat} (h5:5000<=R) (h6:R+n<=1000000):q5n (q0u hw h) n R K f=q5n hw n R K f:=qkm λj hj=>q0V ⟨ω,ω⟩
def q46 {K':Kd} {N' R' n':Nat} {f:Nat->Nat} (h1:N' < R\/R+n<=N') (h2:R'+n'<=R\/R+n<=R'):q5n (q1X T1 T2 K' N' R' n' row B) n R K f=q5n B n R K f:=qkm λj hj=>q0M Oq Oq
def q56 {f:Nat->Nat} (h1:N < R):q5n (q1X T1 T2 K N R n row B) n R K f=cO (∀ j,j < n->ClL (row j)) (some ((List.range n).map λj=>.sl K ((row j).take (f j)),(List.range n).map (·+R))):=by
 unfold cO
 split
 .rename_i hc;have:∀ l:List Nat,(∀ j ∈ l,j < n)->q1V (q1X T1 T2 K N R n row B) (l.map λj=>.ow (j+R) K 0 (f j))=some (l.map λj=>.sl K ((row j).take (f j)),l.map (·+R)):=λl=>by
   induction l with
   | nil=>intro _; rfl
   | cons j l ih =>
    intro hl;have hj:=hl j yM;rw [uX,q1V,ih λk hk=>hl k (yJ _ hk)];simp only [qcG];rw [q13 h1 hj,tE,if_pos ⟨rfl,rfl,hc j hj⟩];simp
  exact this _ λj hj=>zY.1 hj
 .rename_i hc;obtain ⟨j,hc⟩:=Classical.not_forall.1 hc;obtain ⟨hj,hc⟩:=Classical.not_forall.1 hc;have:∀ l:List Nat,(∀ i ∈ l,i < n)->j ∈ l->q1V (q1X T1 T2 K N R n row B) (l.map λj=>.ow (j+R) K 0 (f j))=none:=λl=>by
   induction l with
   | nil=>intro _ h; cases h
   | cons i l ih =>
    intro hl hm;have hi:=hl i yM;rw [uX,q1V]
    by_cases hij:j=i
    .subst hij;simp only [qcG];rw [q13 h1 hj,tE,if_neg λh=>hc h.2.2]; rfl
    .rw [ih (λk hk=>hl k (yJ _ hk)) (by simpa [hij] using hm)];cases qcG (q1X T1 T2 K N R n row B) (.ow (i+R) K 0 (f i)) <;> rfl
  exact this _ (λj hj=>zY.1 hj) (zY.2 hj)
def q8m {α:Type} {f:Nat->α}:((List.range n).map f).take n=(List.range n).map f:=yO σ
def qnA {x:Nat} {a b:List Nat}:nin x (a ++ b)=(nin x a/\nin x b):=by
 rw [q6H,q6H,q6H,zN];exact propext not_or
def qsl {x:Nat} (h:x < R\/R+n<=x):nin x ((List.range n).map (·+R))=True:=by
 rw [q6H];refine eq_true λhm=>?_;obtain ⟨j,hj,rfl⟩:=zQ.1 hm;have:=zY.1 hj;omega
attribute [go_sem ↓] qui quh q46 q56
attribute [go_sem] q8m qnA qsl
end
section
variable {α:Type} {v:α->PV} {g:Nat->Option α} {A B:List (Int × PV)} {z:Int} {x y:PV}
def cM (v:α->PV) (g:Nat->Option α):Nat->List (Int × PV)
 | 0=>[]
 | n+1=>cM v g n ++ ((g n).map λa=>((n:Int),v a)).toList
end
section
variable {w w':World} {D D' D0:Nat->Prop} {ρ ρ':Nat->Option Nat} {h h':Hp} {s s':Nat->PV} {J:Nat->Prop} {k:Kd} {l:List PV}
def hpG:List (Nat × Bk)->Hp->Hp
 | [],B,i=>B i
 | p :: l,B,i=>if i=p.1 then some p.2 else hpG l B i
def hpG_n {B:Hp} {i:Nat}:hpG [] B i=B i:=rfl
def hpG_c {a i:Nat} {b:Bk} {L:List (Nat × Bk)} {B:Hp}:hpG ((a,b) :: L) B i=if i=a then some b else hpG L B i:=rfl
attribute [go_sem] hpG_n hpG_c
variable {xs kv:List (Nat × PV)} {bs L:List (Nat × Bk)} {kb:List (Nat × Option Bk)} {B:Hp} {τ:Nat->Option Nat}
def qwQ {τ:Nat->Option Nat} {i j:Nat}:LeV τ h h' (.mp j) (.mp i)=(τ i=some j/\∃ b,h' i=some b):=by
 refine propext ⟨λq=>?_,λ⟨a,b,c⟩=>.mp a c⟩;cases q with
 | mp a b=>exact ⟨a,_,b⟩
 | cl a=>exact a.elim
attribute [go_sem] qwQ
end
end Go.E
namespace Go.Proofs.YtbjoghfmhgadkaaGreatDoor
open Go Go.E Go.Sp
abbrev LSt:=(Nat->Nat->Nat) × List Int × List Nat
section
variable {F:Nat->Nat->Option Nat} {l:List Int} {cs:List Nat} {cols:List (List Nat)} {j n:Nat} {p:LSt}
end
end Go.Proofs.YtbjoghfmhgadkaaGreatDoor
namespace Go.E
open Go Go.RowKit
end Go.E
namespace Go.Proofs.YtbjoghfmhgadkaaGreatDoor
open Go Go.E Go.Sp


def q3M {l:List Int} {a b p:Nat} (h:a+p < b):((l.take b).drop a)[p]?=l[a+p]?:=by
 rw [xG,xH,if_pos h]
def rd_pF {w:World} {D:Nat->Prop} {ρ:Nat->Option Nat} {h:Hp} {v:Value} {l:List Nat} (hr:In (fSc u64v l) D v w):Rd w D (pF l) ρ h v:=qrm (f:=u64v) (λx=>⟨rfl,rfl⟩) hr


def qjr {neg:Bool} {A B:Nat} (hB:0 < B):2*A<=2*(B*rq 0 neg A B)+B/\2*(B*rq 0 neg A B)<=2*A+B:=by
 have h1:=Nat.div_add_mod A B;have h2:=yQ A hB;unfold rq;rw [if_neg (by omega:¬ (0:Int)=1),if_neg (by omega:¬ (0:Int)=2),if_neg (by omega:¬ (0:Int)=3)];have h3:B*(A / B+1)=B*(A / B)+B:=by rw [Nat.mul_add,xN]
 split
 .omega
 .split
  .rw [h3]; omega
  .omega
def qm2 {mode:Int} {neg:Bool} {N D:Nat}:N / D<=rq mode neg N D:=by unfold rq; (repeat' split) <;> omega
def q2j {mode:Int} {neg:Bool} {N D K:Nat} (hN:0 < N) (hD:0 < D) (hK:1074<=K):∃ u r:Nat,K<=u+1074/\rF mode neg N D=fin mode neg r ((u:Int)-K)/\r=rq mode neg (N*2 ^ K) (D*2 ^ u)/\r<=9007199254740992/\(u+1074=K\/(4503599627370496<=r/\D*2 ^ (u+52)<=N*2 ^ K)):=by
 obtain ⟨q,hq⟩:∃ q,q=qeT N D:=⟨_,rfl⟩;have hq1:q=max (lgq N D-52) (-1074):=hq;obtain ⟨u,hu⟩:∃ u:Nat,(u:Int)=q+K:=⟨(q+K).toNat,ω⟩;have hbl:D<=N*2 ^ bl D:=uY (Nat.le_of_lt (q27 D)) (y8 _ hN);obtain ⟨g,hg⟩:∃ g,bl (N*2 ^ bl D / D)=g+1:=⟨bl (N*2 ^ bl D / D)-1,by
  have:bl (N*2 ^ bl D / D)≠0:=λh=>by
   have h1:=q27 (N*2 ^ bl D / D);rw [h] at h1;have:=xO hbl hD;omega
  omega⟩
 have hlg:lgq N D=(g:Int)-bl D:=by unfold lgq; omega
 have f2:N*2 ^ bl D < D*2 ^ (g+1):=by
  have:=q27 (N*2 ^ bl D / D);rw [hg,xB hD] at this;rw [yW D];exact this
 have f1:D*2 ^ g<=N*2 ^ bl D:=by
  have:=q7G (n:=N*2 ^ bl D / D) (by have:=xO hbl hD; omega);rw [hg,xC hD] at this;rw [yW D];exact this
 generalize bl D=b at *;have hr:rat mode neg N D q=rq mode neg (N*2 ^ K) (D*2 ^ u):=by
  unfold rat;rw [<- q33 (c:=2 ^ (K-(-q).toNat)) (q0E _),yB,yB,<- zW,<- zW,show (-q).toNat+(K-(-q).toNat)=K by omega,show q.toNat+(K-(-q).toNat)=u by omega]
 refine ⟨u,_,ω,?_,rfl,?_,?_⟩
 .unfold rF;rw [<- hq,hr,show (u:Int)-K=q by omega]
 .refine uY qrz ?_;have:N*2 ^ K / (D*2 ^ u) < 2 ^ 53:=by
   rw [xB (xP hD (q0E _))];refine Nat.lt_of_mul_lt_mul_right (a:=2 ^ b) ?_;have e1:N*2 ^ K*2 ^ b=N*2 ^ b*2 ^ K:=by rw [Nat.mul_right_comm]
   have e2:2 ^ 53*(D*2 ^ u)*2 ^ b=D*2 ^ (53+u+b):=by rw [yP,yB,<- zW,<- zW]
   rw [e1,e2];refine u6 (yI f2 (q0E K)) ?_;rw [yB,<- zW];exact Nat.mul_le_mul_left _ (yS Oq Oq)
  have h53:(2:Nat) ^ 53=9007199254740992:=by decide
  omega
 .by_cases h:u+1074=K
  .exact .inl h
  .right
   have hm:D*2 ^ (u+52)<=N*2 ^ K:=by
    refine u9 (c:=2 ^ b) ?_ (q0E b);have e1:N*2 ^ K*2 ^ b=N*2 ^ b*2 ^ K:=by rw [Nat.mul_right_comm]
    have e2:D*2 ^ (u+52)*2 ^ b=D*2 ^ g*2 ^ K:=by rw [yB,yB,<- zW,<- zW]; congr 2; omega
    rw [e1,e2];exact Nat.mul_le_mul_right _ f1
   refine ⟨uY ?_ qm2,hm⟩;rw [xC (xP hD (q0E _))];have h52:(2:Nat) ^ 52=4503599627370496:=by decide
   rw [<- h52,yP,<- zW,Nat.add_comm 52];exact hm
def q4S {mode:Int} {neg:Bool} {r u:Nat} {K:Nat} (hK:K=65536) (h1:K<=u+1074) (h2:r<=9007199254740992) (h3:u+1074=K\/4503599627370496<=r) (h4:u+1076 < 2047+K):ofF (fin mode neg r ((u:Int)-K))=some (sgn neg r*(2:Int) ^ u):=by
 unfold fin
 split
 .rename_i h;rw [q3h Oq Oq Oq Oq,show ((u:Int)-K+1+65536).toNat=u+1 by omega,h]
  congr 1
  cases neg <;> simp [sgn,Int.pow_succ] <;> omega
 .rw [q3h Oq Oq Oq Oq,show ((u:Int)-K+65536).toNat=u by omega]
def q4s {neg:Bool}:¬ q0I (q6f 0 neg):=by
 cases neg <;> exact λh=>h (by decide)
def qap {neg:Bool} {r u:Nat} {K:Nat} (hK:K=65536) (h1:K<=u+1074) (h2:r<=9007199254740992) (h3:u+1074=K\/4503599627370496<=r) (hf:q0I (fin 0 neg r ((u:Int)-K))):ofF (fin 0 neg r ((u:Int)-K))=some (sgn neg r*(2:Int) ^ u):=by
 by_cases h4:u+1076 < 2047+K
 .exact q4S hK h1 h2 h3 h4
 .unfold fin at hf ⊢
  split
  .rename_i h;rw [if_pos h] at hf;unfold q4g at hf;rw [if_neg Oq,if_pos ω] at hf;exact absurd hf q4s
  .rename_i h;rw [if_neg h] at hf
   by_cases h5:u+1075 < 2047+K
   .rw [q3h Oq Oq Oq Oq,show ((u:Int)-K+65536).toNat=u by omega]
   .unfold q4g at hf;rw [if_neg Oq,if_pos ω] at hf;exact absurd hf q4s
def q1Z:ofF 0=some 0:=by
 unfold ofF;rw [if_neg (by decide),if_pos (by decide)];have:sgn (decide (9223372036854775808<=0)) (0 % 4503599627370496)=0:=by decide
 rw [this,z7]
def qhb {L D K u:Nat} {c1 c2:Nat} (h1:c1=52) (h2:c2=53) (hK:c2<=K) (h:L*2 ^ (u+c1)<=D*2 ^ K):L*2 ^ u<=2*(D*2 ^ (K-c2)):=by
 have e1:L*2 ^ (u+c1)=L*2 ^ u*2 ^ c1:=by rw [zW,yB]
 have e2:D*2 ^ K=2*(D*2 ^ (K-c2))*2 ^ c1:=by
  have:2 ^ K=2*2 ^ (K-c2)*2 ^ c1:=by rw [<- Nat.pow_succ',<- zW]; congr 1; omega
  rw [this];generalize 2 ^ (K-c2)=x;generalize 2 ^ c1=y;simp only [yW,yP,yB]
 rw [e1,e2] at h;exact u9 h (q0E c1)
def q9C {d l:Int} {K:Nat} (hK:K=65536) (hl:0 < l) (hf:q0I (fQ 0 d l)):(d*(2:Int) ^ K-l*ofZ (fQ 0 d l)).natAbs<=d.natAbs*2 ^ (K-53)+l.natAbs*2 ^ (K-1075):=by
 by_cases hd:d=0
 .subst hd;have:ofZ (fQ 0 0 l)=0:=by unfold fQ; rw [if_pos rfl]; exact q0S q1Z
  rw [this];simp
 .obtain ⟨u,r,h1,h2,h3,h4,h5⟩:=q2j (mode:=0) (neg:=decide (d < 0) != decide (l < 0)) (N:=d.natAbs) (D:=l.natAbs) (K:=K) Oq Oq Oq;have hx:fQ 0 d l=fin 0 (decide (d < 0) != decide (l < 0)) r ((u:Int)-K):=by unfold fQ; rw [if_neg hd,h2]
  rw [hx] at hf ⊢;rw [q0S (qap hK h1 h4 Oq hf)];have hneg:(decide (d < 0) != decide (l < 0))=decide (d < 0):=by rw [decide_eq_false (by omega:¬ l < 0)]; simp
  rw [hneg] at h3 ⊢;have e:=qjr (neg:=decide (d < 0)) (A:=d.natAbs*2 ^ K) (B:=l.natAbs*2 ^ u) (xP Oq (q0E _));rw [<- h3] at e;have hB:l.natAbs*2 ^ u<=2*(d.natAbs*2 ^ (K-53)+l.natAbs*2 ^ (K-1075)):=by
   rcases h5 with h5 | ⟨_,h5⟩
   .have:l.natAbs*2 ^ u=2*(l.natAbs*2 ^ (K-1075)):=by rw [yP,<- Nat.pow_succ',show (K-1075).succ=u by omega]
    omega
   .have:=qhb rfl rfl Oq h5;omega
  have e3:(d*(2:Int) ^ K-l*(sgn (decide (d < 0)) r*(2:Int) ^ u)).natAbs=(((d.natAbs*2 ^ K:Nat):Int)-((l.natAbs*2 ^ u*r:Nat):Int)).natAbs:=by
   obtain ⟨m,rfl⟩:∃ m:Nat,l=m:=⟨l.natAbs,ω⟩;have p1:=q0N u;have p2:=q0N K
   by_cases hn:d < 0
   .rw [decide_eq_true hn];obtain ⟨n,rfl⟩:∃ n:Nat,d = -(n:Int):=⟨d.natAbs,ω⟩;rw [<- p1,<- p2];simp only [sgn,if_true,yC,zJ];rw [show (-(n:Int)*((2 ^ K:Nat):Int)-(m:Int)*(-(r:Int)*((2 ^ u:Nat):Int))) = -(((n*2 ^ K:Nat):Int)-((m*2 ^ u*r:Nat):Int)) by
     push_cast
     generalize (2:Int) ^ K=A;generalize (2:Int) ^ u=B;rw [xQ,xQ,Int.mul_neg,yN (r:Int),yR];omega]
    rw [yC]
   .rw [decide_eq_false hn];obtain ⟨n,rfl⟩:∃ n:Nat,d=(n:Int):=⟨d.natAbs,ω⟩;rw [<- p1,<- p2];simp only [sgn,xI,if_false,zJ];rw [show ((n:Int)*((2 ^ K:Nat):Int)-(m:Int)*((r:Int)*((2 ^ u:Nat):Int)))=(((n*2 ^ K:Nat):Int)-((m*2 ^ u*r:Nat):Int)) by
     push_cast
     generalize (2:Int) ^ K=A;generalize (2:Int) ^ u=B;rw [yN (r:Int),yR]]
  rw [e3];generalize d.natAbs*2 ^ K=A at *;generalize l.natAbs*2 ^ u*r=C at *;generalize l.natAbs*2 ^ u=B at *;omega
def qtj {mode V:Int} {K c:Nat} (hK:K=65536) (hc:c=900) (h:V.natAbs < 2 ^ c*2 ^ K):q0I (fR mode V):=by
 unfold fR
 split
 .unfold q0I; simp
 .rw [<- hK];obtain ⟨u,r,h1,h2,h3,h4,h5⟩:=q2j (mode:=mode) (neg:=decide (V < 0)) (N:=V.natAbs) (D:=2 ^ K) (K:=K) Oq (q0E _) Oq;rw [h2];have hu:u+1076 < 2047+K:=by
   rcases h5 with h5 | ⟨_,h5⟩
   .omega
   .have h6:2 ^ K*2 ^ (u+52) < 2 ^ c*2 ^ K*2 ^ K:=uZ h5 (yI h (q0E K));rw [<- zW,<- zW,<- zW] at h6;have:=(y6 (by omega:1 < 2)).1 h6;omega
  have:=q4S (mode:=mode) (neg:=decide (V < 0)) hK h1 h4 Oq hu;intro hn;unfold ofF at this;rw [if_pos hn] at this;cases this
def qoz (m:Int) (k:Nat) (h1:m.natAbs < 9007199254740992) (h2:k<=65561):bl (m*(2:Int) ^ k).natAbs<=66000:=by
 have h53:∀ n:Nat,n < 9007199254740992->bl n<=53:=λn h=>q0O (u6 h (zU _))
 by_cases hm:m=0
 .subst hm; rw [z7]; simp [q0m]
 .rw [q0G,q1F ω]; have:=h53 _ h1; omega
def qkG {f:Nat} (h:f / 4503599627370496 % 2048<=1100):bl (ofZ f).natAbs<=66000:=by
 have hm:=yQ f (show 0 < 4503599627370496 by omega);have hfm:∃ (m:Int) (k:Nat),ofF f=some (m*(2:Int) ^ k)/\m.natAbs < 9007199254740992/\k<=65561:=by
  unfold ofF;rw [if_neg ω];generalize f / 4503599627370496 % 2048=x at *;generalize f % 4503599627370496=m at *
  split
  .exact ⟨_,64462,rfl,by rw [q0h]; omega,ω⟩
  .exact ⟨_,64461+x,rfl,by rw [q0h]; omega,ω⟩
 obtain ⟨m,k,h1,h2,h3⟩:=hfm;rw [q0S h1];exact qoz m k h2 h3
def qmw {k x:Nat} (hk:k < 3) (hx:x < 18446744073709551616):bl (ofZ (q2J k x)).natAbs<=66000:=by
 by_cases h1:k=1
 .subst h1;refine qkG ?_;unfold q2J;rw [if_pos rfl];omega
 by_cases h2:k=2
 .subst h2;refine qkG ?_;unfold q2J;rw [if_neg ω,if_pos rfl];have h1:x / 9223372036854775808<=1:=ω
  have h2:x / 256 % 81 < 81:=ω
  have h3:x / 2251799813685248 % 2<=1:=ω
  generalize x / 9223372036854775808=a at *;generalize x / 256 % 81=b at *;generalize x / 2251799813685248 % 2=c at *;omega
 have hs:=q4p x;unfold q2J;rw [if_neg h1,if_neg h2,if_neg ω,q0S (qej ω)];exact qoz _ 65536 Oq Oq
def q5S:bl q04.natAbs<=66000:=by
 have h:=q6h (z:=1) (by have:=q0O (n:=Int.natAbs 1) (k:=1) (by decide); omega);rw [q5R.1] at h;rw [zK.inj h];exact qoz 1 65536 (by decide) Oq
def gF_bl {raw:List Nat} {R k:Nat} (hk:k < 3) {j i:Nat}:bl (ofZ ((gF raw R k j i).getD 0)).natAbs<=66000:=by
 unfold gF
 split
 .exact qmw hk (q4G _ _)
 .rw [Option.getD_none,q0S q1Z]; simp [q0m]
def qll (xs:List Nat) {T:TypeId}:WfH (q0P h0 5000 ⟨T,none,xs.map λz:Nat=>uv z,false⟩):=⟨λi b hb=>by
 by_cases hi:i=5000
 .subst hi;rw [q0H] at hb; cases hb;exact ⟨rfl,IdL.of λx hx=>by obtain ⟨z,_,rfl⟩:=zQ.1 hx; unfold IdP; trivial⟩
 .rw [q0A hi] at hb; cases hb⟩
structure LuS where
 rows:List Nat
 l:Nat->Nat->Nat
 iL:Nat->Nat->Bool
 u:Nat->Nat->Nat
 iU:Nat->Nat->Bool
def luL (F:Nat->Nat->Option Nat) (l u:Nat->Nat->Nat) (i j k:Nat):Nat->List Int
 | 0=>[ofZ ((F j i).getD 0)]
 | m+1=>luL F l u i j k m ++ [-(q0v (l i m) (u m k))]
def luZ (F:Nat->Nat->Option Nat) (l u:Nat->Nat->Nat) (i j k m:Nat):Int:=q1M (luL F l u i j k m)
def q4f (g:Nat->Nat->Nat):Prop:=∀ r c,q0I (g r c)/\g r c < 18446744073709551616
def q6j {F:Nat->Nat->Option Nat} {l u:Nat->Nat->Nat} {i j k:Nat}:∀ m,(luL F l u i j k m).length=m+1
 | 0=>rfl
 | m+1=>by rw [luL,zO,q6j m]; rfl
def qkV {F:Nat->Nat->Option Nat} {l u:Nat->Nat->Nat} {i j k:Nat} (hl:q4f l) (hu:q4f u) (hF:q0I ((F j i).getD 0)):∀ m,∀ x ∈ luL F l u i j k m,bl x.natAbs<=67600
 | 0,x,hx=>by unfold luL at hx; simp at hx; subst hx; exact q42 hF
 | m+1,x,hx=>by
  unfold luL at hx
  rcases zN.1 hx with hx | hx
  .exact qkV hl hu hF m x hx
  .simp at hx; subst hx;rw [yC];exact (q1f (hl i m).1 (hu m k).1).2
def qtA {F:Nat->Nat->Option Nat} {l u:Nat->Nat->Nat} {i j k m:Nat} (hl:q4f l) (hu:q4f u) (hF:q0I ((F j i).getD 0)) (hm:m<=500):q0Z (luZ F l u i j k m):=qaG (qkV hl hu hF m) (by rw [q6j]; omega)
abbrev pRw (l:List Nat):PV:=.sl none (l.map λz:Nat=>iv z)
abbrev rU (n:Nat) (g:Nat->Nat->Nat) (j:Nat):List PV:=(List.range n).map λc=>.vl (.int .u64 (g j c:Nat))
abbrev rB (n:Nat) (g:Nat->Nat->Bool) (j:Nat):List PV:=(List.range n).map λc=>.vl (.bool (g j c))
abbrev tU (n:Nat) (g:Nat->Nat->Nat):PV:=.sl none ((List.range n).map λj=>.sl none ((List.range n).map λc=>.vl (.int .u64 (g j c:Nat))))
abbrev tB (n:Nat) (g:Nat->Nat->Bool):PV:=.sl none ((List.range n).map λj=>.sl none ((List.range n).map λc=>.vl (.bool (g j c))))
abbrev pSt (n:Nat) (S:LuS):PV:=.ag [pRw S.rows,tU n S.l,tB n S.iL,tU n S.u,tB n S.iU]
section
variable {F:Nat->Nat->Option Nat} {S:LuS} {n:Nat}
def qhO (h:TOk F n n) (hn:n<=100) (hl:q4f S.l) (hu:q4f S.u) {i j k m:Nat} (hi:i < n) (hj:j < n) (hk:k < n) (hm:m<=n):ACt 158 [pSt n S,pT n n F,iv i,iv j,iv k,iv m] (pV (luZ F S.l S.u i j k m)):=by
 have hF:=h.fin (j:=j) (i:=i) hj hi;have cA:=qj2 (i:=i) (j:=j) h hi hj;have cO:=q28 hF.2 (q0i hF.1);have hd:=qtA (F:=F) (i:=i) (j:=j) (k:=k) (m:=m) hl hu hF.1 Oq;have cS:=q95 (l:=luL F S.l S.u i j k m) (by rw [q6j]; omega) hd;have cZ:=q3D (V:=q1M (luL F S.l S.u i j k m));have cN:=@qfR;unfold luZ;have hL0:luL F S.l S.u i j k 0=[ofZ ((F j i).getD 0)]:=rfl;have hLs:=λm=>show luL F S.l S.u i j k (m+1)=luL F S.l S.u i j k m ++ [-(q0v (S.l i m) (S.u m k))] from rfl;have hLl:=q6j (F:=F) (l:=S.l) (u:=S.u) (i:=i) (j:=j) (k:=k);have ri:(List.range n)[i]?=some i:=zD hi;have rk:(List.range n)[k]?=some k:=zD hk;have hpl:pT n n F=q2w n n (tM F n n).1 (tM F n n).2.1 (tM F n n).2.2:=rfl;rw [hpl] at cA ⊢;clear hpl;unfold q2w at cA ⊢;generalize (tM F n n).1=ms at *;generalize (tM F n n).2.1=mi at *;generalize (tM F n n).2.2=mv at *;generalize luL F S.l S.u i j k=L at *;generalize hfx:(F j i).getD 0=fx at *;refine ac0 Tryz.func158 Tryz.ntmps158 [.cell 12 46] ?_;refine wk ?_;refine q4X [2,3,4,5,6,12,13,14] Lk ?_;refine q0B (λp=>p<=m) [2,3,4,5,6,12] [6,12] Lk Lk (λp:Nat=>[(14,iv p),(13,.ow 1001 (some 4) 0 (p+1))]) (λp=>[(1001,⟨46,some 4,(L p).map λV=>pV V,false⟩)]) (λp=>m-p) 0 (zG _) ?_ ?_
 .refine LeM [(1001,some 20)] rfl rfl ?_;refine Zz ?_;rw [hL0];exact ⟨rfl,q0R rfl (clV (l:=[_]))⟩
 .intro p hp;have hl1:=hLl p
  by_cases hlt:p < m
  .have rp:(List.range n)[p]?=some p:=zD Oq;obtain ⟨u1,u2⟩:=hl i p;obtain ⟨v1,v2⟩:=hu p k;have cP:=q5B u2 v2 (q0i u1) (q0i v1) (q1f u1 v1).1;refine wk1 (x4 ri rk rp hl1) ?_;refine ⟨p+1,ω,ω,?_⟩;rw [hLs,yL];refine LeM [(1001,some 46)] rfl rfl ?_;refine Zz ?_;exact ⟨ω,qph (q0R rfl clV) (q0R rfl (clV (l:=[_])))⟩
  .obtain rfl:p=m:=ω
   exact wk1 hl1 trivial
def q4N (hr:S.rows.length<=1000000) {i:Nat}:ACt 161 [pSt n S,iv i] (bv (decide (i ∈ S.rows))):=by
 obtain ⟨res,hres⟩:∃ res,res=decide (i ∈ S.rows):=⟨_,rfl⟩;rw [<- hres];refine ac0 Tryz.func161 Tryz.ntmps161 [.tmp 4] ?_;refine wk ?_;refine q0B (λp=>p<=S.rows.length/\i ∉ S.rows.take p) [1,2] [2] Lk Lk (λp:Nat=>[(5,iv p)]) (λ_=>[]) (λp=>S.rows.length-p) 0 ⟨zG _,σ⟩ ?_ ?_
 .refine LeM [] rfl rfl ?_;refine Zz ?_
  rfl
 .rintro p ⟨hp,hm⟩
  by_cases hlt:p < S.rows.length
  .obtain ⟨x,hx⟩:∃ x,S.rows[p]?=some x:=⟨_,zA hlt⟩
   by_cases hxi:x=i
   .have q:((x:Int) == (i:Int))=true:=by simp [hxi]
    refine wk1 (x2 hx q) ?_;exact (hres.trans (decide_eq_true (hxi ▸ zE hx))).symm
   .have q:((x:Int) == (i:Int))=false:=by simp; omega
    refine wk1 (x2 hx q) ?_;refine ⟨p+1,⟨ω,?_⟩,ω,?_⟩
    .rw [q1a hx,zN];rintro (h | h)
     .exact hm h
     .simp at h; exact hxi h.symm
    .refine LeM [] rfl rfl ?_;refine Zz ?_
     rfl
  .obtain rfl:p=S.rows.length:=ω
   rw [zS] at hm;refine wk ?_;exact (hres.trans (decide_eq_false hm)).symm
def q3T (l:List Int) (i:Nat):Nat:=(l.filter λx:Int=>decide (x=(i:Int))).length
def qbD {ms mi:List Int} {mv:List Nat} {n:Nat} (hi:mi.length<=1000000) {i:Nat}:ACt 163 [q2w n n ms mi mv,iv i] (iv (q3T mi i)):=by
 unfold q2w;refine ac0 Tryz.func163 Tryz.ntmps163 [.tmp 4] ?_;refine wk ?_;refine q0B (λp=>p<=mi.length) [1,2] [2] Lk Lk (λp:Nat=>[(6,iv p),(5,iv (q3T (mi.take p) i))]) (λ_=>[]) (λp=>mi.length-p) 0 (zG _) ?_ ?_
 .refine LeM [] rfl rfl ?_;refine Zz ?_;exact ⟨rfl,rfl⟩
 .intro p hp
  by_cases hlt:p < mi.length
  .obtain ⟨x,hx⟩:∃ x,mi[p]?=some x:=⟨_,zA hlt⟩;have hc:q3T (mi.take p) i<=1000000:=uY (xD _ _) (by rw [List.length_take]; omega)
   by_cases hxi:x=i
   .have q:(x == (i:Int))=true:=by simp [hxi]
    have es:q3T (mi.take (p+1)) i=q3T (mi.take p) i+1:=by unfold q3T; rw [q1a hx,uW,zO]; simp [hxi]
    generalize q3T (mi.take p) i=c at *;refine wk1 (x2 hx q) ?_;refine ⟨p+1,ω,ω,?_⟩;rw [es];refine LeM [] rfl rfl ?_;refine Zz ?_;exact ⟨rfl,rfl⟩
   .have q:(x == (i:Int))=false:=by simpa using hxi
    have es:q3T (mi.take (p+1)) i=q3T (mi.take p) i:=by unfold q3T; rw [q1a hx,uW,zO]; simp [hxi]
    generalize q3T (mi.take p) i=c at *;refine wk1 (x2 hx q) ?_;refine ⟨p+1,ω,ω,?_⟩;rw [es];refine LeM [] rfl rfl ?_;refine Zz ?_
    rfl
  .obtain rfl:p=mi.length:=ω
   rw [zS];exact wk trivial
end
end Go.Proofs.YtbjoghfmhgadkaaGreatDoor
namespace Go.Sp
open Go Go.E
def q5c {a:Nat} (ha:a < 18446744073709551616):q0d .andNot .u64 (a:Int) 9223372036854775808=((a % 9223372036854775808:Nat):Int):=by
 have h2:(BitVec.ofInt 64 (a:Int) &&& ~~~(BitVec.ofInt 64 9223372036854775808)).toNat=a % 9223372036854775808:=by
  rw [show ~~~(BitVec.ofInt 64 9223372036854775808)=BitVec.ofNat 64 9223372036854775807 from rfl,q3q,BitVec.toNat_and,BitVec.toNat_ofNat,BitVec.toNat_ofNat,Nat.mod_eq_of_lt ha];exact Nat.and_two_pow_sub_one_eq_mod a 63
 show IntKind.u64.wrap ((BitVec.ofInt 64 (a:Int) &&& ~~~(BitVec.ofInt 64 9223372036854775808)).toNat:Int)=_
 rw [h2,q0s];omega
def q2S (f:Nat):Nat:=f % 9223372036854775808
def qfx {f:Nat}:q2S f < 9223372036854775808:=yQ _ Oq
def qjE {f:Nat} (h:q0I f):q0I (q2S f):=by unfold q0I q2S at *; omega
def q6m {f:Nat} (h:q0I f):q2P f≠3:=by unfold q0I at h; unfold q2P; rw [if_neg λq=>h q.1,if_neg h]; split <;> omega
def qeV {f:Nat} (hf:f < 18446744073709551616):q2P f=0 ↔ q2S f=0:=by
 unfold q2P q2S
 constructor
 .intro h
  split at h
  .cases h
  .split at h
   .cases h
   .split at h
    .omega
    .cases h
 .intro h;rw [if_neg ω,if_neg ω,if_pos ω]
end Go.Sp
namespace Go.Proofs.YtbjoghfmhgadkaaGreatDoor
open Go Go.E Go.Sp
section
variable {f g:Nat}
def qiW (hf:f < 18446744073709551616):ACt 104 [uv f] (iv (q2P f:Nat)):=by
 have C1:=@q52 f hf;unfold q2P;generalize f / 4503599627370496 % 2048=x at *;generalize f % 4503599627370496=m at *;refine ac0 Tryz.func104 Tryz.ntmps104 [.tmp 2] ?_
 by_cases hx2:x=2047
 .by_cases hm0:m=0
  .rw [if_neg (by simp [hm0]),if_pos hx2];exact wk1 (show ((2:Nat):Int)=2 from rfl) trivial
  .rw [if_pos ⟨hx2,hm0⟩];exact wk1 (show ((3:Nat):Int)=3 from rfl) trivial
 .rw [if_neg λh=>hx2 h.1,if_neg hx2]
  by_cases hx0:x=0
  .by_cases hm0:m=0
   .rw [if_pos ⟨hx0,hm0⟩];exact wk1 (show ((0:Nat):Int)=0 from rfl) trivial
   .rw [if_neg λh=>hm0 h.2];exact wk1 (show ((1:Nat):Int)=1 from rfl) trivial
  .rw [if_neg λh=>hx0 h.1];exact wk1 (show ((1:Nat):Int)=1 from rfl) trivial
def qoH {l:List Nat} (hl:q10 l) (hn:l.length<=1000):ACt 172 [pF l] (bv false):=by
 refine ac0 Tryz.func172 Tryz.ntmps172 [.tmp 2] ?_;refine wk ?_;refine q0B (λi=>i<=l.length) [5,6] [] Lk Lk (λi:Nat=>[(7,iv i)]) (λ_=>[]) (λi=>l.length-i) 0 (zG _) ?_ ?_
 .refine LeM [] rfl rfl ?_;refine Zz ?_
  rfl
 .intro i hi
  by_cases hlt:i < l.length
  .obtain ⟨x,hx⟩:∃ x,l[i]?=some x:=⟨_,zA hlt⟩;obtain ⟨h1,h2⟩:=hl x (zE hx);have C1:=qiW h1;have q:(((q2P x:Nat):Int) == 3)=false:=by
    have:=q6m h2;simp; omega
   refine wk1 (x2 hx q) ?_;refine ⟨i+1,ω,ω,?_⟩;refine LeM [] rfl rfl ?_;refine Zz ?_;omega
  .exact wk trivial
def q9Y (hf:f < 18446744073709551616) (h:q0I f):ACt 133 [uv f] (uv (q2S f:Nat)):=by
 have C1:ACt 172 [.sl none [uv f]] (bv false):=qoH (l:=[f]) (λx hx=>by simp at hx; subst hx; exact ⟨hf,h⟩) σ;have N1:Nz (bv false):=qa6;have h1:=q5c hf;rw [show f % 9223372036854775808=q2S f from rfl] at h1;refine ac0 Tryz.func133 Tryz.ntmps133 [.tmp 2] ?_;exact wk1 h1 trivial
def qaW (hf:f < 18446744073709551616) (h:q0I f):ACt 81 [uv f] (bv false):=by
 have:=qm8 hf
 rwa [decide_eq_false (q6m h)] at this
def qma (hf:f < 18446744073709551616) (h:q0I f):ACt 25 [uv f] (uv (q2S f:Nat)):=by
 have C1:=qaW hf h;have h1:=q5c hf;rw [show f % 9223372036854775808=q2S f from rfl] at h1;refine ac0 Tryz.func25 Tryz.ntmps25 [.tmp 2] ?_;exact wk1 h1 trivial
end
section
variable {A B:Int}
def q5D (hA:q0Z A) (hB:q0Z B):∃ x y e,ACt 196 [dT A,dT B] (.tu [bT x,bT y,iv e])/\Aln A B x y e:=by
 obtain ⟨a1,a2,a3⟩:=q1B hA;obtain ⟨b1,b2,b3⟩:=q1B hB;have C1:=@q2s;have key:∀ e:Int,e<=dyE A->e<=dyE B -> -65536<=e->e<=65536->Aln A B (shI (od A) (dyE A-e)) (shI (od B) (dyE B-e)) e:=λe h1 h2 h3 h4 =>
  ⟨h3,h4,by unfold shI; rw [if_pos ω]; exact q22 h3 h1,by unfold shI; rw [if_pos ω]; exact q22 h3 h2⟩
 obtain ⟨e,he⟩:∃ e,min (dyE A) (dyE B)=e:=⟨_,rfl⟩;refine ⟨_,_,e,?_,key e Oq Oq Oq Oq⟩;refine ac0 Tryz.func196 Tryz.ntmps196 [.cell 4 42,.cell 5 42,.tmp 6] ?_;exact wk1 he trivial
def qcf (hA:q0Z A) (hB:q0Z B) (ho:q0Z (A+B)):ACt 130 [dT A,dT B] (dT (A+B)):=by
 obtain ⟨x,y,e,C1,hL⟩:=q5D hA hB;obtain ⟨l1,l2⟩:=hL.bl hA hB;have C2:=q8f hA hB;have C3:=@q6p;have h1:=hL.e1;have h2:=hL.e2;have h3:=qfm l1 l2;have C4:=q3X (m:=x+y) (e:=e) rfl Oq Oq Oq (hL.sum ho);refine ac0 Tryz.func130 Tryz.ntmps130 [.cell 4 46] ?_;exact wk trivial
def q9A:ACt 159 [pV A] (uv (fR 0 A:Nat)):=by
 have C1:=q35 (V:=A) (mode:=0);refine ac0 Tryz.func159 Tryz.ntmps159 [.tmp 2] ?_;exact wk trivial
end
section
variable {l:List Nat}
end
structure PtrOk (n:Nat) (cp:List Int) (m:Nat):Prop where
 c0:cp[0]?=some 0
 cn:cp[n]?=some (m:Int)
 mono:∀ i,i < n->∀ x y,cp[i]?=some x->cp[i+1]?=some y->x<=y
def PtrOk.nn {n m:Nat} {cp:List Int} (h:PtrOk n cp m) (hl:cp.length=n+1):∀ j,j<=n->∃ a:Nat,cp[j]?=some (a:Int)
 | 0,_=>⟨0,h.c0⟩
 | j+1,hj=>by
  obtain ⟨a,ha⟩:=h.nn hl j Oq;obtain ⟨y,hy⟩:∃ y,cp[j+1]?=some y:=⟨_,zA Oq⟩;have:=h.mono j Oq _ _ ha hy;exact ⟨y.toNat,by rw [hy]; congr 1; omega⟩
def PtrOk.le {n m:Nat} {cp:List Int} (h:PtrOk n cp m) (hl:cp.length=n+1):∀ d j,j+d=n->∀ x,cp[j]?=some x->x<=m
 | 0,j,hj,x,hx=>by
  obtain rfl:j=n:=ω
  have:=zK.inj (hx.symm.trans h.cn); omega
 | d+1,j,hj,x,hx=>by
  obtain ⟨y,hy⟩:∃ y,cp[j+1]?=some y:=⟨_,zA Oq⟩;have h1:=h.mono j Oq _ _ hx hy;have h2:=h.le hl d (j+1) Oq y hy;omega
open Classical in
def qdf {cp:List Int} {n m:Nat} (hn:n<=1000000) (hcl:cp.length=n+1):ACt 238 [pI cp,iv n,iv m] (bv (decide (PtrOk n cp m))):=by
 obtain ⟨res,hres⟩:∃ res,res=decide (PtrOk n cp m):=⟨_,rfl⟩;rw [<- hres];have rF:¬ PtrOk n cp m->res=false:=λh=>by rw [hres]; exact decide_eq_false h
 have rT:PtrOk n cp m->res=true:=λh=>by rw [hres]; exact decide_eq_true h
 clear hres;obtain ⟨x0,hx0⟩:∃ x,cp[0]?=some x:=⟨_,zA Oq⟩;obtain ⟨xn,hxn⟩:∃ x,cp[n]?=some x:=⟨_,zA Oq⟩;have e0:((cp.length:Int) != (n:Int)+1)=false:=by rw [hcl]; simp
 refine ac0 Tryz.func238 Tryz.ntmps238 [.tmp 6] ?_
 by_cases h0:x0=0
 case neg =>
  have e1:(x0 != 0)=true:=by simpa using h0
  refine wk1 (x3 e0 hx0 e1) ?_;rw [rF λh=>h0 (zK.inj (hx0.symm.trans h.c0))]
 subst h0;have e1:((0:Int) != 0)=false:=rfl
 by_cases hn0:xn=m
 case neg =>
  have e2:(xn != (m:Int))=true:=by simpa using hn0
  refine wk1 (x5 e0 hx0 e1 hxn e2) ?_;rw [rF λh=>hn0 (zK.inj (hxn.symm.trans h.cn))]
 subst hn0;have e2:((m:Int) != (m:Int))=false:=σ
 refine wk1 (x5 e0 hx0 e1 hxn e2) ?_;refine q0B (λj=>j<=n/\∀ i,i < j->∀ x y,cp[i]?=some x->cp[i+1]?=some y->x<=y) [0,1] [] Lk Lk (λj:Nat=>[(7,iv j)]) (λ_=>[]) (λj=>n-j) 0 ⟨zG _,ω⟩ ?_ ?_
 .refine LeM [] rfl rfl ?_;refine Zz ?_
  rfl
 .rintro j ⟨hj,hm⟩
  by_cases hlt:j < n
  .obtain ⟨x,hx⟩:∃ x,cp[j]?=some x:=⟨_,zA Oq⟩;obtain ⟨y,hy⟩:∃ x,cp[j+1]?=some x:=⟨_,zA Oq⟩;have wj:(j:Int)+1=((j+1:Nat):Int):=rfl
   by_cases hxy:x > y
   .refine wk1 (x4 hx hy hxy wj) ?_;rw [rF λh=>by have:=h.mono j hlt x y hx hy; omega]
   .refine wk1 (x4 hx hy hxy wj) ?_;refine ⟨j+1,⟨ω,λi hi u v hu hv=>?_⟩,ω,?_⟩
    .by_cases hij:i < j
     .exact hm i hij u v hu hv
     .obtain rfl:i=j:=ω
      have h1:=zK.inj (hx.symm.trans hu);have h2:=zK.inj (hy.symm.trans hv);omega
    .refine LeM [] rfl rfl ?_;exact Zy
  .refine wk ?_;obtain rfl:j=n:=ω
   exact (rT ⟨hx0,hxn,hm⟩).symm

open Classical in
def qb5 {l:List Nat} (hu:∀ x ∈ l,x < 18446744073709551616) (hn:l.length<=1000000):ACt 244 [pF l] (bv (decide (∀ x ∈ l,q0I x))):=by
 obtain ⟨res,hres⟩:∃ res,res=decide (∀ x ∈ l,q0I x):=⟨_,rfl⟩;rw [<- hres];refine ac0 Tryz.func244 Tryz.ntmps244 [.tmp 2] ?_;refine wk ?_;refine q0B (λi=>i<=l.length/\∀ x ∈ l.take i,q0I x) [0] [] Lk Lk (λi:Nat=>[(3,iv i)]) (λ_=>[]) (λi=>l.length-i) 0 ⟨zG _,σ⟩ ?_ ?_
 .refine LeM [] rfl rfl ?_;refine Zz ?_
  rfl
 .rintro i ⟨hi,hf⟩
  by_cases hil:i < l.length
  .obtain ⟨x,hx⟩:∃ x,l[i]?=some x:=⟨_,zA hil⟩;have hmx:=zE hx;have cF:=q2F (hu x hmx)
   by_cases hfx:q0I x
   case neg =>
    rw [decide_eq_false hfx] at cF;refine wk1 hx ?_;exact (hres.trans (decide_eq_false λh=>hfx (h x hmx))).symm
   rw [decide_eq_true hfx] at cF;refine wk1 hx ?_;refine ⟨i+1,⟨ω,?_⟩,ω,?_⟩
   .rw [q1a hx];intro y hy
    rcases zN.1 hy with hy | hy
    .exact hf y hy
    .simp at hy; subst hy; exact hfx
   .refine LeM [] rfl rfl ?_;refine Zz ?_
    rfl
  .obtain rfl:i=l.length:=ω
   rw [zS] at hf;refine wk ?_;exact (hres.trans (decide_eq_true hf)).symm
open Classical in
noncomputable def qdQ (e:Int) (n:Nat) (l:List Nat):Int:=if e≠0 then e else if l.length≠n then 2 else if ¬ ∀ x ∈ l,q0I x then 4 else 0
open Classical in
def qgR {e:Int} {n:Nat} {l:List Nat} (hu:∀ x ∈ l,x < 18446744073709551616) (hl:l.length<=1000000):ACt 204 [iv e,iv n,pF l] (iv (qdQ e n l)):=by
 have cF:=qb5 hu hl;unfold qdQ;refine ac0 Tryz.func204 Tryz.ntmps204 [.tmp 6] ?_
 by_cases h1:e=0
 case neg =>
  have q:(e != 0)=true:=by simpa using h1
  rw [if_pos h1];exact wk1 q trivial
 have q:(e != 0)=false:=by simpa using h1
 rw [if_neg (not_not_intro h1)]
 by_cases h2:l.length=n
 case neg =>
  have q2:((l.length:Int) != (n:Int))=true:=by simp; omega
  rw [if_pos h2];exact wk1 (x2 q q2) trivial
 have q2:((l.length:Int) != (n:Int))=false:=by simp; omega
 rw [if_neg (not_not_intro h2)]
 by_cases h3:∀ x ∈ l,q0I x
 .rw [decide_eq_true h3] at cF;rw [if_neg (not_not_intro h3)];exact wk1 (x2 q q2) trivial
 .rw [decide_eq_false h3] at cF;rw [if_pos h3];exact wk1 (x2 q q2) trivial
def q7m (B:Int) (l x:List Nat):Nat->List Int
 | 0=>[B]
 | m+1=>q7m B l x m ++ [-(q0v (l.getD m 0) (x.getD m 0))]
def q4q {B:Int} {l x:List Nat}:∀ m,(q7m B l x m).length=m+1
 | 0=>rfl
 | m+1=>by rw [q7m,zO,q4q m]; rfl
def qd4 {B:Int} {l x:List Nat} (hB:bl B.natAbs<=67600) (hl:q10 l) (hx:q10 x):∀ m,∀ y ∈ q7m B l x m,bl y.natAbs<=67600
 | 0,y,hy=>by simp [q7m] at hy; subst hy; exact hB
 | m+1,y,hy=>by
  rcases zN.1 hy with hy | hy
  .exact qd4 hB hl hx m y hy
  .simp at hy;subst hy;rw [yC];exact (q1f (qeb hl).2 (qeb hx).2).2
def qru {B:Int} {l x:List Nat} (hB:bl B.natAbs<=67600) (hl:q10 l) (hx:q10 x) {m:Nat} (hm:m<=500):q0Z (q1M (q7m B l x m)):=by
 have h:=q5J (i:=(q7m B l x m).length) (qd4 hB hl hx m) (by rw [q4q]; omega);rw [zS] at h;unfold q0Z; omega
def q9t {B:Int} {l x:List Nat} (hB:bl B.natAbs<=67600) (hl:q10 l) (hx:q10 x) (hlx:l.length<=x.length) (hn:l.length<=500):ACt 206 [pV B,pF l,pF x] (pV (q1M (q7m B l x l.length))):=by
 have cN:=@qfR;have hd:=qru hB hl hx (m:=l.length) hn;have cS:=q95 (l:=q7m B l x l.length) (by rw [q4q]; omega) hd;have cZ:=q3D (V:=q1M (q7m B l x l.length));refine ac0 Tryz.func206 Tryz.ntmps206 [.cell 6 46] ?_;refine wk ?_;refine q0B (λi=>i<=l.length) [1,2,6] [6] Lk Lk (λi:Nat=>[(8,iv i),(7,.ow 1001 (some 4) 0 (i+1))]) (λi=>[(1001,⟨46,some 4,(q7m B l x i).map λV=>pV V,false⟩)]) (λi=>l.length-i) 0 (zG _) ?_ ?_
 .refine LeM [(1001,some 10)] rfl rfl ?_;refine Zz ?_;exact ⟨rfl,q0R rfl clV⟩
 .intro i hi;have hln:=q4q (B:=B) (l:=l) (x:=x) i
  by_cases hil:i < l.length
  .obtain ⟨u,hu⟩:∃ u,l[i]?=some u:=⟨_,zA hil⟩;obtain ⟨v,hv⟩:∃ u,x[i]?=some u:=⟨_,zA Oq⟩;obtain ⟨u1,u2⟩:=hl u (zE hu);obtain ⟨v1,v2⟩:=hx v (zE hv);have cP:=q5B u1 v1 (q0i u2) (q0i v2) (q1f u2 v2).1;refine wk1 (x3 hu hv hln) ?_;refine ⟨i+1,ω,ω,?_⟩;rw [q7m,getD_some hu,getD_some hv];refine LeM [(1001,some 29)] rfl rfl ?_;refine Zz ?_;exact ⟨ω,q0R (by rw [yL]; rfl) clV⟩
  .obtain rfl:i=l.length:=ω
   exact wk1 hln trivial
def clU {l:List Nat}:ClL (l.map λz:Nat=>uv z):=λx hx=>by
 obtain ⟨q,_,rfl⟩:=zQ.1 hx
 trivial
def qsA {n c v:Nat} {f:Nat->Nat}:(((List.range n).map f).set c v)=(List.range n).map λy=>if y=c then v else f y:=by
 apply yH
 intro i;rw [yA];simp only [z9,z6,zH]
 by_cases hi:i < n
 .rw [zD hi]
  by_cases hc:c=i
  .subst hc; simp [hi]
  .simp [hc,Ne.symm hc]
 .rw [z8 (by simpa using hi)]
  by_cases hc:c=i <;> simp [hc]
  omega
def rwG (n:Nat) (g:Nat->Nat) (m:Nat):List Nat:=(List.range n).map λj=>if j < m then g j else 0
def q8x {n m:Nat} {g:Nat->Nat}:(rwG n g m).length=n:=by simp [rwG]
def qrq {n m:Nat} {g:Nat->Nat}:(rwG n g m).set m (g m)=rwG n g (m+1):=by
 unfold rwG;rw [qsA];refine zM λy _=>?_
 by_cases h:y=m
 .subst h; rw [if_pos rfl,if_pos ω]
 .rw [if_neg h]
  by_cases h2:y < m
  .rw [if_pos h2,if_pos ω]
  .rw [if_neg h2,if_neg ω]
def qrs {n:Nat} {g:Nat->Nat}:List.replicate n 0=rwG n g 0:=by
 unfold rwG;simp [yV]
end Go.Proofs.YtbjoghfmhgadkaaGreatDoor
namespace Go.E
open Go Go.RowKit
section
variable {J:Nat->Prop} {h hin hw:Hp} {T1 T2:TypeId} {K:Kd} {N R n:Nat} {row row':Nat->List PV} {B B':Hp}
def q7V (h:Hp):Hp:=λi=>(h i).map λb=>⟨b.T,b.k,b.xs.map λ_=>.un,false⟩
def q7W (h:Hp) (a:Nat):Hp:=λi=>if i=a then none else h i
def SSh (h h':Hp):Prop:=∀ i b,h i=some b->∃ b',h' i=some b'/\b'.T=b.T/\b'.k=b.k/\b'.st=false/\b'.xs.length=b.xs.length
def q5A (hB:SSh B B') (hl:∀ j,(row' j).length=(row j).length):SSh (q1X T1 T2 K N R n row B) (q1X T1 T2 K N R n row' B'):=λi b hb=>by
 unfold q1X at hb ⊢
 split
 .rename_i hi; rw [if_pos hi] at hb; cases hb; exact ⟨_,rfl,rfl,rfl,rfl,σ⟩
 .rename_i hi;rw [if_neg hi] at hb
  split
  .rename_i hj; rw [if_pos hj] at hb; cases hb; exact ⟨_,rfl,rfl,rfl,rfl,hl _⟩
  .rename_i hj; rw [if_neg hj] at hb; exact hB i b hb
def qwG {i:Nat} {b b':Bk} (hB:SSh B B') (h1:b'.T=b.T) (h2:b'.k=b.k) (h3:b'.st=false) (h4:b'.xs.length=b.xs.length):SSh (q0P B i b) (q0P B' i b'):=λj c hc=>by
 unfold q0P at hc ⊢
 split
 .rename_i hj; rw [if_pos hj] at hc; cases hc; exact ⟨_,rfl,h1,h2,h3,h4⟩
 .rename_i hj; rw [if_neg hj] at hc; exact hB j c hc
def SSh_0:SSh h0 B:=λ_ _ h=>by cases h
def LeUnk {l:List PV} {v:Value} (hq:Wn h hw) (hin':∀ i b,hin i=some b->win i) (hs:SSh hin hw) (hx:mkR l=.vl v):Le J (λ_=>mkR l) h (λ_=>.vl v) (q7V hin):=by
 refine q4W some (λi b hb=>?_) (λi j k b c _ _ ti tj=>by cases ti; cases tj; rfl) (λ_=>by rw [hx]; exact .cl trivial) λ_ _ _ _=>rfl;unfold q7V at hb;obtain ⟨c,hc,rfl⟩:=yF.1 hb;obtain ⟨b',h1,h2,h3,h4,h5⟩:=hs i c hc;unfold LeB;exact ⟨b',(hq i (hin' i c hc)).trans h1,h2.symm,h3.symm,⟨rfl,h4⟩,by simp [h5],λj x y _ hy=>by
  rw [zH] at hy;cases hcj:c.xs[j]? with
  | none=>rw [hcj] at hy; cases hy
  | some z=>rw [hcj] at hy; cases hy; exact .un⟩
def rwP (n:Nat) (g:Nat->PV) (m:Nat):List PV:=(List.range n).map λc=>if c < m then g c else .un
def q8w {g:Nat->PV} {m:Nat}:(rwP n g m).length=n:=by simp [rwP]
def qm0 {g:Nat->PV} {m i:Nat} (hi:i < m) (hm:m<=n):(rwP n g m)[i]?=some (g i):=by
 unfold rwP;rw [zH,zD ω,zR,if_pos hi]
def qrp {g:Nat->PV} {m:Nat}:(rwP n g m).set m (g m)=rwP n g (m+1):=by
 unfold rwP
 apply yH
 intro i;rw [yA];simp only [z9,z6,zH]
 by_cases hi:i < n
 .rw [zD hi]
  by_cases hc:m=i
  .subst hc; simp [hi]
  .rw [if_neg hc,zR,zR]
   by_cases h2:i < m
   .rw [if_pos h2,if_pos ω]
   .rw [if_neg h2,if_neg ω]
 .rw [z8 (by simpa using hi)]
  by_cases hc:m=i <;> simp [hc]
  omega
def rwP_u {g:Nat->PV} {m:Nat} (h:g m=.un):rwP n g m=rwP n g (m+1):=by
 unfold rwP;refine zM λy _=>?_
 by_cases h2:y < m
 .rw [if_pos h2,if_pos ω]
 .rw [if_neg h2]
  by_cases h3:y=m
  .subst h3; rw [if_pos ω,h]
  .rw [if_neg ω]
def q1l {g:Nat->PV} {m:Nat} (h:∀ c,Cld (g c)):ClL (rwP n g m):=λx hx=>by
 obtain ⟨c,_,rfl⟩:=zQ.1 hx
 split
 .exact h c
 .trivial
def qn2 {i j R':Nat} {b:Bk} (hne:j+R'≠i+R):q0P h (i+R) b (j+R')=h (j+R'):=q0A hne
attribute [go_sem ↓ 2000] qn2
end
end Go.E
namespace Go.Proofs.YtbjoghfmhgadkaaGreatDoor
open Go Go.E Go.Sp
def inZ (z:Int):Int:=(mkV z 0).getD 0
def inZK {z:Int} {K:Nat} (hK:K=65536) (hz:z.natAbs < 9007199254740992):mkV z 0=some (z*(2:Int) ^ K):=by
 have h1:bl z.natAbs<=53:=q0O Oq;have h:=q5V (m:=z) (E:=0) Oq Oq;rw [h,show ((0:Int)+65536).toNat=K by omega]
def qk6 {z:Int} (hz:z.natAbs < 9007199254740992):mkV z 0=some (inZ z):=by
 unfold inZ;rw [inZK rfl hz]; rfl
def mulI {z W:Int} (hz:z.natAbs < 9007199254740992) (hW:bl W.natAbs<=67600):mkV (inZ z*W) (-131072)=some (z*W):=by
 obtain ⟨K,hK⟩:∃ K,K=65536:=⟨_,rfl⟩;unfold inZ;rw [inZK hK hz,yK,show z*(2:Int) ^ K*W=z*W*(2:Int) ^ K by simp only [yR,yN,Int.mul_left_comm],q1S,show (-131072:Int)+K = -65536 by omega];refine q23 ?_;unfold q0Z;have h1:bl z.natAbs<=53:=q0O Oq;have:=q1s z.natAbs W.natAbs;rw [yZ];omega
def q9u {A B:Int}:ACt 138 [pV A,pV B] (bv (decide (A < B))):=by
 have cC:=qoP (A:=A) (B:=B);have es:decide ((A-B).sign < 0)=decide (A < B):=by
  congr 1
  rw [Int.sign_neg_iff];exact propext ⟨λh=>by omega,λh=>by omega⟩
 refine ac0 Tryz.func138 Tryz.ntmps138 [.tmp 4] ?_;exact wk1 es trivial
def q8c (g:Nat->Nat->Bool) (r c:Nat) (v:Bool):Nat->Nat->Bool:=λx y=>if x=r/\y=c then v else g x y
section
open Classical
variable (F:Nat->Nat->Option Nat) (mi:List Int) (n:Nat) (S:LuS) (j k num den:Nat)
noncomputable def upS:Nat->Option LuS
 | 0=>some S
 | m+1=>(upS m).bind λq=>if q0I (fR 0 (luZ F q.l q.u (S.rows.getD m 0) j k m)) then some { q with u:=q29 q.u m k (fR 0 (luZ F q.l q.u (S.rows.getD m 0) j k m)),iU:=q8c q.iU m k (decide (luZ F q.l q.u (S.rows.getD m 0) j k m≠0)) } else none
noncomputable def rsZ (i:Nat):Int:=luZ F S.l S.u i j k k
noncomputable def rsV (i:Nat):Nat:=if i ∈ S.rows then 0 else fR 0 (rsZ F S j k i)
end
section
variable (v:Nat->Nat) (S:LuS) (mi:List Int) (num den:Nat) (w:Int)
def abZ (x:Nat):Int:=((ofZ x).natAbs:Int)
def mxZ:Nat->Int
 | 0=>0
 | i+1=>if mxZ i < abZ (v i) then abZ (v i) else mxZ i
def bsP:Nat->Int
 | 0 => -1
 | i+1=>if i ∈ S.rows\/(v i=0\/v i=9223372036854775808)\/(den:Int)*abZ (v i) < num*w then bsP i else if bsP i < 0\/q3T mi i < q3T mi (bsP i).toNat then (i:Int) else bsP i
end
section
open Classical
variable (F:Nat->Nat->Option Nat) (mi:List Int) (n:Nat) (S:LuS) (j k num den:Nat)
noncomputable def loS (z:Nat->Int) (d:Int):Nat->Option LuS
 | 0=>some S
 | i+1=>(loS z d i).bind λq=>if i ∈ S.rows then some q else if q0I (q4D 0 (z i) d) then some { q with l:=q29 q.l i k (q4D 0 (z i) d),iL:=q8c q.iL i k (decide (z i≠0)) } else none
noncomputable def pvS (v:Nat->Nat) (p:Nat):LuS:={ S with rows:=S.rows ++ [p],u:=q29 S.u k k (v p),iU:=q8c S.iU k k true }
noncomputable def qif (q:LuS):Int × LuS :=
 if ∀ i,i < n->q0I (rsV F q j k i) then
  (if bsP (rsV F q j k) q mi num den (mxZ (rsV F q j k) n) n < 0 then (9,S) else
   match loS (pvS q k (rsV F q j k) (bsP (rsV F q j k) q mi num den (mxZ (rsV F q j k) n) n).toNat) k (rsZ F q j k) (ofZ (rsV F q j k (bsP (rsV F q j k) q mi num den (mxZ (rsV F q j k) n) n).toNat)) n with
   | none=>(233,S)
   | some r=>(0,r))
 else (233,S)
noncomputable def q1r:Int × LuS:=match upS F S j k k with
 | none=>(233,S)
 | some q=>qif F mi n S j k num den q
end
structure LUt where
 rows:List Int
 cols:List Int
 ls:List Int
 li:List Int
 lv:List Nat
 us:List Int
 ui:List Int
 uv:List Nat
def pLU (f:LUt):PV:=.ag [pI f.rows,pI f.cols,pI f.ls,pI f.li,pF f.lv,pI f.us,pI f.ui,pF f.uv]
def q9s (l:List Int):Prop:=∀ (i:Nat) (x y:Int),l[i]?=some x->l[i+1]?=some y->x < y
structure CmpOk (n:Nat) (st ix:List Int) (G:Nat->List Int->Prop):Prop where
 c0:st[0]?=some 0
 cn:st[n]?=some (ix.length:Int)
 col:∀ j,j < n->∃ a b:Nat,st[j]?=some (a:Int)/\st[j+1]?=some (b:Int)/\a<=b/\b<=ix.length/\q9s ((ix.take b).drop a)/\G j ((ix.take b).drop a)
def LoC (n k:Nat) (l:List Int):Prop:=(∀ z,l[0]?=some z->(k:Int) < z)/\∀ z,l[l.length-1]?=some z->z < n
def UpC (k:Nat) (l:List Int):Prop:=(∀ z,l[0]?=some z->0<=z)/\l[l.length-1]?=some (k:Int)
def qlP (f:LUt):Prop:=CmpOk f.rows.length f.ls f.li (LoC f.rows.length)/\CmpOk f.rows.length f.us f.ui UpC
def UDg (n:Nat) (us:List Int) (vs:List Nat):Prop:=∀ k,k < n->∀ (a x:Nat),us[k+1]?=some ((a+1:Nat):Int)->vs[a]?=some x->ofZ x≠0
open Classical in
noncomputable def q5o (f:LUt):Int :=
 if f.rows.length > 200 then 6 else if ¬ (q2q f.rows f.rows.length/\q2q f.cols f.rows.length) then 90
 else if ¬ (f.ls.length=f.rows.length+1/\f.us.length=f.rows.length+1/\f.li.length=f.lv.length/\f.ui.length=f.uv.length) then 2
 else if ¬ qlP f then 240 else if (∀ x ∈ f.lv,q0I x)/\(∀ x ∈ f.uv,q0I x)/\UDg f.rows.length f.us f.uv then 0 else 4
structure LUb (f:LUt):Prop where
 rows:f.rows.length<=1000000
 cols:f.cols.length<=1000000
 ls:f.ls.length<=1000000
 li:f.li.length<=1000000
 lv:f.lv.length<=1000000
 us:f.us.length<=1000000
 ui:f.ui.length<=1000000
 uv:f.uv.length<=1000000
 hl:∀ x ∈ f.lv,x < 18446744073709551616
 hu:∀ x ∈ f.uv,x < 18446744073709551616
def CmpOk.ptr {n:Nat} {st ix:List Int} {G:Nat->List Int->Prop} (h:CmpOk n st ix G):PtrOk n st ix.length:=⟨h.c0,h.cn,λi hi x y hx hy=>by
 obtain ⟨a,b,h1,h2,h3,_⟩:=h.col i hi;have h4:=zK.inj (hx.symm.trans h1);have h5:=zK.inj (hy.symm.trans h2);omega⟩

def q9s.lt {l:List Int} (h:q9s l):∀ (d i:Nat) (x y:Int),l[i]?=some x->l[i+(d+1)]?=some y->x < y
 | 0,i,x,y,hx,hy=>h i x y hx hy
 | d+1,i,x,y,hx,hy=>by
  have hl:=(zB.1 hy).1;obtain ⟨z,hz⟩:∃ z,l[i+(d+1)]?=some z:=⟨_,zA Oq⟩;have h1:=h.lt d i x z hx hz;have h2:=h _ z y hz (by rw [show i+(d+1)+1=i+(d+1+1) by omega]; exact hy);omega
def q9s.le {l:List Int} (h:q9s l) {i j:Nat} {x y:Int} (hij:i<=j) (hx:l[i]?=some x) (hy:l[j]?=some y):x<=y:=by
 by_cases hj:i=j
 .subst hj; rw [hx] at hy; cases hy; exact uU _
 .have:=h.lt (j-i-1) i x y hx (by rw [show i+(j-i-1+1)=j by omega]; exact hy);omega
def qeN {n k:Nat} {l:List Int} (h:q9s l):LoC n k l ↔ ∀ (i:Nat) (z:Int),l[i]?=some z->(k:Int) < z/\z < n:=by
 refine ⟨λhc i z hz=>?_,λhc=>⟨λz hz=>(hc _ z hz).1,λz hz=>(hc _ z hz).2⟩⟩;have hi:=(zB.1 hz).1;obtain ⟨x,hx⟩:∃ x,l[0]?=some x:=⟨_,zA Oq⟩;obtain ⟨y,hy⟩:∃ x,l[l.length-1]?=some x:=⟨_,zA Oq⟩;have h1:=hc.1 x hx;have h2:=hc.2 y hy;have h3:=h.le (zG i) hx hz;have h4:=h.le (show i<=l.length-1 by omega) hz hy;omega
def qcm {k:Nat} {l:List Int} (h:q9s l):UpC k l ↔ (∀ (i:Nat) (z:Int),l[i]?=some z->0<=z/\z<=k)/\l[l.length-1]?=some (k:Int):=by
 refine ⟨λhc=>⟨λi z hz=>?_,hc.2⟩,λhc=>⟨λz hz=>(hc.1 _ z hz).1,hc.2⟩⟩;have hi:=(zB.1 hz).1;obtain ⟨x,hx⟩:∃ x,l[0]?=some x:=⟨_,zA Oq⟩;have h1:=hc.1 x hx;have h3:=h.le (zG i) hx hz;have h4:=h.le (show i<=l.length-1 by omega) hz hc.2;omega
def qlS (P:Int->Prop) (ix:List Int) (a c:Nat):Prop:=∀ p,a<=p->p < c->∃ z,ix[p]?=some z/\P z/\(a < p->∃ y,ix[p-1]?=some y/\y < z)
def q4x {P:Int->Prop} {ix:List Int} {a b:Nat} (hb:b<=ix.length):qlS P ix a b ↔ q9s ((ix.take b).drop a)/\∀ (i:Nat) (z:Int),((ix.take b).drop a)[i]?=some z->P z:=by
 have hl:((ix.take b).drop a).length=b-a:=by simp; omega
 refine ⟨λh=>⟨λi x y hx hy=>?_,λi z hz=>?_⟩,λ⟨h1,h2⟩ p hp hc=>?_⟩
 .have:=(zB.1 hy).1;rw [q3M ω] at hx hy;obtain ⟨z,q1,_,q3⟩:=h (a+(i+1)) Oq Oq;obtain ⟨u,q4,q5⟩:=q3 Oq;rw [show a+(i+1)-1=a+i by omega,hx] at q4;rw [hy] at q1;cases q1; cases q4; exact q5
 .have:=(zB.1 hz).1;rw [q3M ω] at hz;obtain ⟨z',q1,q2,_⟩:=h (a+i) Oq Oq;rw [hz] at q1; cases q1; exact q2
 .obtain ⟨z,hz⟩:∃ z,ix[p]?=some z:=⟨_,zA Oq⟩;refine ⟨z,hz,h2 (p-a) z (by rw [q3M ω,show a+(p-a)=p by omega]; exact hz),λhap=>?_⟩;obtain ⟨y,hy⟩:∃ z,ix[p-1]?=some z:=⟨_,zA Oq⟩;exact ⟨y,hy,h1 (p-1-a) y z (by rw [q3M ω,show a+(p-1-a)=p-1 by omega]; exact hy) (by rw [q3M ω,show a+(p-1-a+1)=p by omega]; exact hz)⟩
def qlS.stp {P:Int->Prop} {ix:List Int} {a c:Nat} {x:Int} (h:qlS P ix a c) (hx:ix[c]?=some x) (hP:P x) (hq:a < c->∃ y,ix[c-1]?=some y/\y < x):qlS P ix a (c+1):=λp h1 h2=>by
 by_cases hpc:p < c
 .exact h p h1 hpc
 .obtain rfl:p=c:=ω
  exact ⟨x,hx,hP,hq⟩
open Classical in
def ql6 {f:LUt} (hb:LUb f) (hn:f.rows.length<=200) (h1:f.ls.length=f.rows.length+1) (h2:f.us.length=f.rows.length+1):ACt 198 [pLU f] (bv (decide (qlP f))):=by
 obtain ⟨res,hres⟩:∃ res,res=decide (qlP f):=⟨_,rfl⟩;rw [<- hres];have rF:¬ qlP f->res=false:=λh=>by rw [hres]; exact decide_eq_false h
 have rT:qlP f->res=true:=λh=>by rw [hres]; exact decide_eq_true h
 clear hres;unfold qlP at rF rT;have hli:=hb.li;have hui:=hb.ui;have cL:=qdf (cp:=f.ls) (n:=f.rows.length) (m:=f.li.length) Oq h1;have cU:=qdf (cp:=f.us) (n:=f.rows.length) (m:=f.ui.length) Oq h2;unfold pLU;obtain ⟨rows,cols,ls,li,lv,us,ui,uv⟩:=f;clear hb;dsimp only at *;generalize hN:rows.length=n at *;refine ac0 Tryz.func198 Tryz.ntmps198 [.tmp 2] ?_
 by_cases h6:PtrOk n ls li.length
 case neg =>
  rw [decide_eq_false h6] at cL;refine wk1 hN ?_;exact (rF λh=>h6 h.1.ptr).symm
 rw [decide_eq_true h6] at cL
 by_cases h7:PtrOk n us ui.length
 case neg =>
  rw [decide_eq_false h7] at cU;refine wk1 hN ?_;exact (rF λh=>h7 h.2.ptr).symm
 rw [decide_eq_true h7] at cU;refine wk1 hN ?_;refine q4X [1,3,4] Lk ?_;refine q0B (λj=>j<=n/\(∀ j',j' < j->∃ a b:Nat,ls[j']?=some (a:Int)/\ls[j'+1]?=some (b:Int)/\a<=b/\b<=li.length/\q9s ((li.take b).drop a)/\LoC n j' ((li.take b).drop a))/\∀ j',j' < j->∃ a b:Nat,us[j']?=some (a:Int)/\us[j'+1]?=some (b:Int)/\a<=b/\b<=ui.length/\q9s ((ui.take b).drop a)/\UpC j' ((ui.take b).drop a)) [1,3] [1] Lk Lk (λj:Nat=>[(4,iv j)]) (λ_=>[]) (λj=>n-j) 0 ⟨zG _,ω,ω⟩ ?_ ?_
 .refine LeM [] rfl rfl ?_;refine Zz ?_
  rfl
 .rintro j ⟨hj,hm,hm2⟩
  by_cases hlt:j < n
  .obtain ⟨a,ha⟩:=h6.nn h1 j Oq;obtain ⟨b,hb⟩:=h6.nn h1 (j+1) Oq;obtain ⟨u,hu⟩:=h7.nn h2 j Oq;obtain ⟨v,hv⟩:=h7.nn h2 (j+1) Oq;have wj:(j:Int)+1=((j+1:Nat):Int):=rfl;have hab:a<=b:=by have:=h6.mono j hlt _ _ ha hb; omega
   have hbr:b<=li.length:=by have:=h6.le h1 (n-(j+1)) (j+1) Oq _ hb; omega
   have huv:u<=v:=by have:=h7.mono j hlt _ _ hu hv; omega
   have hvr:v<=ui.length:=by have:=h7.le h2 (n-(j+1)) (j+1) Oq _ hv; omega
   have bad:¬ qlS (λz=>(j:Int) < z/\z < n) li a b->res=false:=λh=>rF λhS=>by
    obtain ⟨a',b',q1,q2,_,_,q5,q6⟩:=hS.1.col j hlt;have e1:=zK.inj (ha.symm.trans q1);have e2:=zK.inj (hb.symm.trans q2);obtain rfl:a'=a:=ω
    obtain rfl:b'=b:=ω
    exact h ((q4x hbr).2 ⟨q5,(qeN q5).1 q6⟩)
   have bad2:¬ (qlS (λz=>0<=z/\z<=(j:Int)) ui u v/\u < v/\ui[v-1]?=some (j:Int))->res=false:=λh=>rF λhS=>by
    obtain ⟨a',b',q1,q2,q3,q4,q5,q6⟩:=hS.2.col j hlt;have e1:=zK.inj (hu.symm.trans q1);have e2:=zK.inj (hv.symm.trans q2);obtain rfl:a'=u:=ω
    obtain rfl:b'=v:=ω
    have hl:((ui.take b').drop a').length=b'-a':=by simp; omega
    have q7:=(qcm q5).1 q6;have hlt:=(zB.1 q7.2).1;refine h ⟨(q4x hvr).2 ⟨q5,q7.1⟩,ω,?_⟩;have q8:=q7.2;rw [hl,q3M ω,show a'+(b'-a'-1)=b'-1 by omega] at q8;exact q8
   refine wk1 (x3 wj ha hb) ?_;refine q0B (λk=>a<=k/\k<=b/\qlS (λz=>(j:Int) < z/\z < n) li a k) [1,3,4] [1] Lk Lk (λk:Nat=>[(5,iv k)]) (λ_=>[]) (λk=>b-k) a ⟨zU _,hab,λp q1 q2=>by omega⟩ ?_ ?_
   .refine LeM [] rfl rfl ?_;exact Zy
   .rintro k ⟨hk1,hk2,hU⟩
    by_cases hkb:k < b
    .obtain ⟨x,hx⟩:∃ x,li[k]?=some x:=⟨_,zA Oq⟩;have no:(∀ z,li[k]?=some z->((j:Int) < z/\z < n)->(a < k->∃ y,li[k-1]?=some y/\y < z)->False)->res=false:=λh=>bad λhC=>by
      obtain ⟨z,q1,q2,q3⟩:=hC k hk1 hkb;exact h z q1 q2 q3
     by_cases hx0:x<=(j:Int)
     .refine wk1 (x5 wj ha hb hx hx0) ?_;exact (no λz q1 q2 _=>by rw [hx] at q1; cases q1; omega).symm
     by_cases hxn:(n:Int)<=x
     .refine wk1 (x6 wj ha hb hx hx0 hxn) ?_;exact (no λz q1 q2 _=>by rw [hx] at q1; cases q1; omega).symm
     by_cases hak:(k:Int) > a
     .obtain ⟨y,hy⟩:∃ y,li[k-1]?=some y:=⟨_,zA Oq⟩;have wi:(k:Int)-1=((k-1:Nat):Int):=ω
      by_cases hxy:x<=y
      .refine wk1 (x6 wj ha hb hx hx0 (x5 hxn hak hy wi hxy)) ?_;exact (no λz q1 q2 q3=>by
        obtain ⟨u,q4,q5⟩:=q3 Oq;rw [hx] at q1; rw [hy] at q4; cases q1; cases q4; omega).symm
      .refine wk1 (x6 wj ha hb hx hx0 (x5 hxn hak hy wi hxy)) ?_;refine ⟨k+1,⟨ω,ω,hU.stp hx Oq λ_=>⟨y,hy,ω⟩⟩,ω,?_⟩;refine LeM [] rfl rfl ?_;refine Zz ?_
       rfl
     .refine wk1 (x6 wj ha hb hx hx0 (x2 hxn hak)) ?_;refine ⟨k+1,⟨ω,ω,hU.stp hx Oq λh=>by omega⟩,ω,?_⟩;refine LeM [] rfl rfl ?_;refine Zz ?_
      rfl
    .obtain rfl:k=b:=ω
     obtain ⟨hA,hA2⟩:=(q4x hbr).1 hU;have hLo:=(qeN hA).2 hA2;clear bad hA2 hU;refine wk1 (x4 wj ha hb hu) ?_;refine q0B (λk=>u<=k/\k<=v/\qlS (λz=>0<=z/\z<=(j:Int)) ui u k) [1,3,4] [1] Lk Lk (λk:Nat=>[(6,iv k)]) (λ_=>[]) (λk=>v-k) u ⟨zU _,huv,λp q1 q2=>by omega⟩ ?_ ?_
     .refine LeM [] rfl rfl ?_;exact Zy
     .rintro c ⟨hc1,hc2,hU⟩
      by_cases hcv:c < v
      .obtain ⟨x,hx⟩:∃ x,ui[c]?=some x:=⟨_,zA Oq⟩;have no:(∀ z,ui[c]?=some z->(0<=z/\z<=(j:Int))->(u < c->∃ y,ui[c-1]?=some y/\y < z)->False)->res=false:=λh=>bad2 λhC=>by
        obtain ⟨z,q1,q2,q3⟩:=hC.1 c hc1 hcv;exact h z q1 q2 q3
       by_cases hx0:x < 0
       .refine wk1 (x5 wj hu hv hx hx0) ?_;exact (no λz q1 q2 _=>by rw [hx] at q1; cases q1; omega).symm
       by_cases hxn:x > (j:Int)
       .refine wk1 (x6 wj hu hv hx hx0 hxn) ?_;exact (no λz q1 q2 _=>by rw [hx] at q1; cases q1; omega).symm
       by_cases hak:(c:Int) > u
       .obtain ⟨y,hy⟩:∃ y,ui[c-1]?=some y:=⟨_,zA Oq⟩;have wi:(c:Int)-1=((c-1:Nat):Int):=ω
        by_cases hxy:x<=y
        .refine wk1 (x6 wj hu hv hx hx0 (x5 hxn hak hy wi hxy)) ?_;exact (no λz q1 q2 q3=>by
          obtain ⟨u,q4,q5⟩:=q3 Oq;rw [hx] at q1; rw [hy] at q4; cases q1; cases q4; omega).symm
        .refine wk1 (x6 wj hu hv hx hx0 (x5 hxn hak hy wi hxy)) ?_;refine ⟨c+1,⟨ω,ω,hU.stp hx Oq λ_=>⟨y,hy,ω⟩⟩,ω,?_⟩;refine LeM [] rfl rfl ?_;refine Zz ?_
         rfl
       .refine wk1 (x6 wj hu hv hx hx0 (x2 hxn hak)) ?_;refine ⟨c+1,⟨ω,ω,hU.stp hx Oq λh=>by omega⟩,ω,?_⟩;refine LeM [] rfl rfl ?_;refine Zz ?_
        rfl
      .obtain rfl:c=v:=ω
       by_cases huv2:u=c
       .have q1:((u:Int) == (c:Int))=true:=by simp; omega
        refine wk1 (x4 wj hu hv q1) ?_;exact (bad2 λh=>by omega).symm
       have q1:((u:Int) == (c:Int))=false:=by simp; omega
       obtain ⟨x,hx⟩:∃ x,ui[c-1]?=some x:=⟨_,zA Oq⟩;have wi:(c:Int)-1=((c-1:Nat):Int):=ω
       by_cases hxj:x=j
       .subst hxj;have q2:((j:Int) != (j:Int))=false:=σ
        refine wk1 (x6 wj hu hv q1 wi (x2 hx q2)) ?_;obtain ⟨hB,hB2⟩:=(q4x hvr).1 hU;have hl:((ui.take c).drop u).length=c-u:=by simp; omega
        have hUp:=(qcm (k:=j) hB).2 ⟨hB2,by rw [hl,q3M ω,show u+(c-u-1)=c-1 by omega]; exact hx⟩;refine ⟨j+1,⟨ω,λj' hj'=>?_,λj' hj'=>?_⟩,ω,?_⟩
        .by_cases hjj:j' < j
         .exact hm j' hjj
         .obtain rfl:j'=j:=ω
          exact ⟨a,k,ha,hb,hab,hbr,hA,hLo⟩
        .by_cases hjj:j' < j
         .exact hm2 j' hjj
         .obtain rfl:j'=j:=ω
          exact ⟨u,c,hu,hv,huv,hvr,hB,hUp⟩
        .refine LeM [] rfl rfl ?_;exact Zy
       .have q2:(x != (j:Int))=true:=by simpa using hxj
        refine wk1 (x6 wj hu hv q1 wi (x2 hx q2)) ?_;exact (bad2 λh=>by
         have:=h.2.2;rw [hx] at this;exact hxj (zK.inj this)).symm
  .obtain rfl:j=n:=ω
   refine wk ?_;exact (rT ⟨⟨h6.c0,h6.cn,hm⟩,⟨h7.c0,h7.cn,hm2⟩⟩).symm
end Go.Proofs.YtbjoghfmhgadkaaGreatDoor
namespace Go.Sp
open Go.E Go.Proofs.YtbjoghfmhgadkaaGreatDoor
def qre {s:Bool} {m K:Nat}:sgn s m*(2:Int) ^ K=0 ↔ m=0:=by
 constructor
 .intro h
  rcases xA.1 h with h | h
  .have:=q0h s m; rw [h] at this; exact this.symm
  .exact absurd h (xL (q0L _))
 .rintro rfl;have:sgn s 0=0:=by unfold sgn; split <;> rfl
  rw [this,z7]
def q5T {f:Nat} (h:q0I f):ofZ f=0 ↔ q2S f=0:=by
 unfold ofZ ofF q2S;rw [if_neg h];unfold q0I at h
 split
 .rw [yK,qre]; omega
 .rw [yK,qre]; omega
def q6n {f:Nat} (h:f < 18446744073709551616):(f=0\/f=9223372036854775808) ↔ q2S f=0:=by
 unfold q2S; omega
end Go.Sp
namespace Go.Proofs.YtbjoghfmhgadkaaGreatDoor
open Go Go.E Go.Sp
def uCol {f:LUt} (h:qlP f) (hb:f.ui.length=f.uv.length) {k:Nat} (hk:k < f.rows.length):∃ b x,f.us[k+1]?=some ((b+1:Nat):Int)/\f.uv[b]?=some x:=by
 obtain ⟨a,b,q1,q2,q3,q4,q5,q6⟩:=h.2.col k hk;have hl:((f.ui.take b).drop a).length=b-a:=by simp; omega
 have:=(zB.1 q6.2).1;obtain ⟨c,rfl⟩:∃ c,b=c+1:=⟨b-1,ω⟩;exact ⟨c,_,q2,zA Oq⟩
open Classical in
def qc8 {f:LUt} (hb:LUb f):ACt 118 [pLU f] (iv (q5o f)):=by
 obtain ⟨res,hres⟩:∃ res,res=q5o f:=⟨_,rfl⟩;rw [<- hres];have hrl:=hb.rows;have cP1:=q6c (l:=f.rows) (n:=f.rows.length) Oq;have cP2:=q6c (l:=f.cols) (n:=f.rows.length) Oq;have h1':=λh:f.rows.length<=200=>ql6 hb h;have hus:=hb.us;have hil:=hb.lv;have hiu:=hb.uv;have hul:=hb.hl;have huu:=hb.hu;have hUc:=λh hb k hk=>uCol (f:=f) h hb (k:=k) hk;unfold q5o at hres;have cS:=h1';clear h1';generalize hLS:qlP f=LS at *;unfold pLU at cS ⊢;obtain ⟨rows,cols,ls,li,lv,us,ui,uv⟩:=f;clear hb;dsimp only at *;generalize hN:rows.length=n at *;refine ac0 Tryz.func118 Tryz.ntmps118 [.tmp 2] ?_;refine wk1 hN ?_
 by_cases h1:n > 200
 .rw [if_pos h1] at hres;have h1':(n:Int) > 200:=ω
  refine wk1 h1' ?_;exact hres.symm
 have h1':¬ (n:Int) > 200:=ω
 rw [if_neg h1] at hres;refine wk1 h1' ?_
 by_cases h2:q2q rows n
 case neg =>
  rw [if_pos λh=>h2 h.1] at hres;rw [decide_eq_false h2] at cP1;refine wk ?_;exact hres.symm
 rw [decide_eq_true h2] at cP1
 by_cases h3:q2q cols n
 case neg =>
  rw [if_pos λh=>h3 h.2] at hres;rw [decide_eq_false h3] at cP2;refine wk ?_;exact hres.symm
 rw [decide_eq_true h3] at cP2;rw [if_neg (not_not_intro ⟨h2,h3⟩)] at hres;refine wk ?_;have w1:(n:Int)+1=((n+1:Nat):Int):=rfl
 by_cases h4:ls.length=n+1
 case neg =>
  have e1:((ls.length:Int) != ((n+1:Nat):Int))=true:=by simp; omega
  rw [if_pos λh=>h4 h.1] at hres;refine wk1 (x2 w1 e1) ?_;exact hres.symm
 have e1:((ls.length:Int) != ((n+1:Nat):Int))=false:=by simp; omega
 by_cases h5:us.length=n+1
 case neg =>
  have e2:((us.length:Int) != ((n+1:Nat):Int))=true:=by simp; omega
  rw [if_pos λh=>h5 h.2.1] at hres;refine wk1 (x3 w1 e1 e2) ?_;exact hres.symm
 have e2:((us.length:Int) != ((n+1:Nat):Int))=false:=by simp; omega
 by_cases h6:li.length=lv.length
 case neg =>
  have e3:((li.length:Int) != (lv.length:Int))=true:=by simp; omega
  rw [if_pos λh=>h6 h.2.2.1] at hres;refine wk1 (x4 w1 e1 e2 e3) ?_;exact hres.symm
 have e3:((li.length:Int) != (lv.length:Int))=false:=by simp; omega
 by_cases h7:ui.length=uv.length
 case neg =>
  have e4:((ui.length:Int) != (uv.length:Int))=true:=by simp; omega
  rw [if_pos λh=>h7 h.2.2.2] at hres;refine wk1 (x5 w1 e1 e2 e3 e4) ?_;exact hres.symm
 have e4:((ui.length:Int) != (uv.length:Int))=false:=by simp; omega
 rw [if_neg (not_not_intro ⟨h4,h5,h6,h7⟩)] at hres;have cS:=cS Oq h4 h5
 by_cases h8:LS
 case neg =>
  rw [if_pos h8] at hres;rw [decide_eq_false h8] at cS;refine wk1 (x5 w1 e1 e2 e3 e4) ?_;exact hres.symm
 rw [if_neg (not_not_intro h8)] at hres;rw [decide_eq_true h8] at cS;have bad:¬ ((∀ x ∈ lv,q0I x)/\(∀ x ∈ uv,q0I x)/\UDg n us uv)->res=4:=λh=>by rw [hres,if_neg h]
 have good:((∀ x ∈ lv,q0I x)/\(∀ x ∈ uv,q0I x)/\UDg n us uv)->res=0:=λh=>by rw [hres,if_pos h]
 subst hLS;have hUc:=hUc h8 h7;clear hres;refine wk1 (x5 w1 e1 e2 e3 e4) ?_;refine q4X [1,3,4] Lk ?_;refine q0B (λi=>i<=lv.length/\∀ x ∈ lv.take i,q0I x) [1,3] [1] Lk Lk (λi:Nat=>[(4,iv i)]) (λ_=>[]) (λi=>lv.length-i) 0 ⟨zG _,σ⟩ ?_ ?_
 .refine LeM [] rfl rfl ?_;refine Zz ?_
  rfl
 .rintro i ⟨hi,hf1⟩
  by_cases hil:i < lv.length
  .obtain ⟨x,hx⟩:∃ x,lv[i]?=some x:=⟨_,zA hil⟩;have hmx:=zE hx;have cF:=q2F (hul x hmx)
   by_cases hfx:q0I x
   case neg =>
    rw [decide_eq_false hfx] at cF;refine wk1 hx ?_;exact (bad λh=>hfx (h.1 x hmx)).symm
   rw [decide_eq_true hfx] at cF;refine wk1 hx ?_;refine ⟨i+1,⟨ω,?_⟩,ω,?_⟩
   .rw [q1a hx];intro y hy
    rcases zN.1 hy with hy | hy
    .exact hf1 y hy
    .simp at hy; subst hy; exact hfx
   .refine LeM [] rfl rfl ?_;refine Zz ?_
    rfl
  .obtain rfl:i=lv.length:=ω
   rw [zS] at hf1;refine wk ?_;refine q0B (λi=>i<=uv.length/\∀ x ∈ uv.take i,q0I x) [1,3] [1] Lk Lk (λi:Nat=>[(5,iv i)]) (λ_=>[]) (λi=>uv.length-i) 0 ⟨zG _,σ⟩ ?_ ?_
   .refine LeM [] rfl rfl ?_;refine Zz ?_
    rfl
   .rintro i ⟨hi,hf2⟩
    by_cases hil:i < uv.length
    .obtain ⟨x,hx⟩:∃ x,uv[i]?=some x:=⟨_,zA hil⟩;have hmx:=zE hx;have cF:=q2F (huu x hmx)
     by_cases hfx:q0I x
     case neg =>
      rw [decide_eq_false hfx] at cF;refine wk1 hx ?_;exact (bad λh=>hfx (h.2.1 x hmx)).symm
     rw [decide_eq_true hfx] at cF;refine wk1 hx ?_;refine ⟨i+1,⟨ω,?_⟩,ω,?_⟩
     .rw [q1a hx];intro y hy
      rcases zN.1 hy with hy | hy
      .exact hf2 y hy
      .simp at hy; subst hy; exact hfx
     .refine LeM [] rfl rfl ?_;refine Zz ?_
      rfl
    .obtain rfl:i=uv.length:=ω
     rw [zS] at hf2;refine wk ?_;refine q0B (λj=>j<=n/\∀ j',j' < j->∀ (a x:Nat),us[j'+1]?=some ((a+1:Nat):Int)->uv[a]?=some x->ofZ x≠0) [1,3] [1] Lk Lk (λi:Nat=>[(6,iv i)]) (λ_=>[]) (λi=>n-i) 0 ⟨zG _,ω⟩ ?_ ?_
     .refine LeM [] rfl rfl ?_;refine Zz ?_
      rfl
     .rintro j ⟨hj,hd⟩
      by_cases hjl:j < n
      .obtain ⟨b,x,hbk,hx⟩:=hUc j hjl;have hm:=zE hx;have hbl:=(zB.1 hx).1;have wj:(j:Int)+1=((j+1:Nat):Int):=rfl;have wb:((b+1:Nat):Int)-1=(b:Int):=ω
       have wc:IntKind.i64.wrap ((b+1:Nat):Int)=((b+1:Nat):Int):=i64_in Oq Oq;have cK:=@q5q x
       by_cases hz:ofZ x=0
       .rw [decide_eq_true ((q6n (huu x hm)).2 ((q5T (hf2 x hm)).1 hz))] at cK;refine wk1 (x5 wj hbk wb wc hx) ?_;exact (bad λh=>h.2.2 j hjl b x hbk hx hz).symm
       .rw [decide_eq_false λh=>hz ((q5T (hf2 x hm)).2 ((q6n (huu x hm)).1 h))] at cK;refine wk1 (x5 wj hbk wb wc hx) ?_;refine ⟨j+1,⟨ω,λj' hj' a' x' ha' hx'=>?_⟩,ω,?_⟩
        .by_cases hjj:j' < j
         .exact hd j' hjj a' x' ha' hx'
         .obtain rfl:j'=j:=ω
          have e:a'=b:=by have:=zK.inj (ha'.symm.trans hbk); omega
          subst e;have e:=zK.inj (hx'.symm.trans hx);subst e;exact hz
        .refine LeM [] rfl rfl ?_;exact Zy
      .obtain rfl:j=n:=ω
       refine wk ?_;exact (good ⟨hf1,hf2,hd⟩).symm
def q2h (n r len:Nat):Bk:=⟨133,some 5,[.ag [.ow r none 0 len,.ow 6000 none 0 n,.ow 6001 none 0 n,.ow 6002 none 0 n,.ow 6003 none 0 n]],false⟩
def qdP {n r len:Nat}:q2h n r len=⟨133,some 5,[.ag [.ow r none 0 len,.ow 6000 none 0 n,.ow 6001 none 0 n,.ow 6002 none 0 n,.ow 6003 none 0 n]],false⟩:=rfl
attribute [go_sem ↓] qdP
abbrev rwB (rows:List Nat):Bk:=⟨3,none,rows.map λz:Nat=>iv z,false⟩
def stT (n:Nat) (S:LuS):Hp:=q1X 24 32 none 6000 10000 n (rU n S.l) (q1X 134 4 none 6001 20000 n (rB n S.iL) (q1X 24 32 none 6002 30000 n (rU n S.u) (q1X 134 4 none 6003 40000 n (rB n S.iU) h0)))
abbrev q0o (n:Nat) (S:LuS) (r:Nat):Hp:=q0P (q0P (stT n S) 5000 (q2h n r S.rows.length)) r (rwB S.rows)
section
variable {n:Nat} {S S':LuS} {rows0:List Nat}
def qaS {g:Nat->Nat->Nat} {r c v:Nat}:q87 (rU n g) r ((rU n g r).set c (.vl (.int .u64 (v:Nat))))=rU n (q29 g r c v):=by
 funext j
 unfold q87
 split
 .rename_i h; subst h;unfold rU;rw [qgv];refine zM λy _=>?_;unfold q29;simp
 .rename_i h;refine zM λy _=>?_;unfold q29;rw [if_neg λq=>h q.1]
def qjt {g:Nat->Nat->Bool} {r c:Nat} {v:Bool}:q87 (rB n g) r ((rB n g r).set c (.vl (.bool v)))=rB n (q8c g r c v):=by
 funext j
 unfold q87
 split
 .rename_i h; subst h
  apply yH
  intro i;unfold rB q8c;rw [yA];simp only [z9,z6,zH]
  by_cases hi:i < n
  .rw [zD hi]
   by_cases hc:c=i
   .subst hc; simp [hi]
   .simp [hc,Ne.symm hc]
  .rw [z8 (by simpa using hi)]
   by_cases hc:c=i <;> simp [hc]
   omega
 .rename_i h;refine zM λy _=>?_;unfold q8c;rw [if_neg λq=>h q.1]
variable {r c:Nat}
def stT_l {v:Nat} (hn:n<=100) (hr:r < n):q0P (stT n S) (r+10000) ⟨32,none,(rU n S.l r).set c (.vl (.int .u64 (v:Nat))),false⟩=stT n { S with l:=q29 S.l r c v }:=by
 unfold stT;rw [q2t ω hr σ,qaS]
def qrT {v:Bool} (hn:n<=100) (hr:r < n):q0P (stT n S) (r+20000) ⟨4,none,(rB n S.iL r).set c (.vl (.bool v)),false⟩=stT n { S with iL:=q8c S.iL r c v }:=by
 unfold stT;rw [q2Y ω ω,q2t ω hr σ,qjt]
def qrR {v:Nat} (hn:n<=100) (hr:r < n):q0P (stT n S) (r+30000) ⟨32,none,(rU n S.u r).set c (.vl (.int .u64 (v:Nat))),false⟩=stT n { S with u:=q29 S.u r c v }:=by
 unfold stT;rw [q2Y ω ω,q2Y ω ω,q2t ω hr σ,qaS]
def qji {v:Bool} (hn:n<=100) (hr:r < n):q0P (stT n S) (r+40000) ⟨4,none,(rB n S.iU r).set c (.vl (.bool v)),false⟩=stT n { S with iU:=q8c S.iU r c v }:=by
 unfold stT;rw [q2Y ω ω,q2Y ω ω,q2Y ω ω,q2t ω hr σ,qjt]
def q3R {h:Hp} {i j:Nat} {b c:Bk} (hne:i≠j):q0P (q0P h i b) j c=q0P (q0P h j c) i b:=(q5Z hne).symm
def qaM {i r:Nat} {b:Bk} (hi:6000 < i) (hr:r < 6000):q0P (q0o n S r) i b=q0P (q0P (q0P (stT n S) i b) 5000 (q2h n r S.rows.length)) r (rwB S.rows):=by
 unfold q0o;rw [q3R (i:=r) ω,q3R (i:=5000) ω]
def q6N {g:Nat->Nat->Nat} {j:Nat}:ClL (rU n g j):=λx hx=>by
 obtain ⟨_,_,rfl⟩:=zQ.1 hx; trivial
def qc3 {g:Nat->Nat->Bool} {j:Nat}:ClL (rB n g j):=λx hx=>by
 obtain ⟨_,_,rfl⟩:=zQ.1 hx; trivial
def q7d (hn:n<=100):BOk (stT n S) win:=by
 unfold stT;have w:∀ R j:Nat,5000<=R->R<=40000->j < n->win (j+R):=λR j h1 h2 h3=>⟨ω,ω⟩;exact q1i (q1i (q1i (q1i BOk.h0 (λ_ _=>qc3) Oq ⟨⟨ω,ω⟩,λj hj=>w _ j Oq Oq hj⟩) (λ_ _=>q6N) Oq ⟨⟨ω,ω⟩,λj hj=>w _ j Oq Oq hj⟩) (λ_ _=>qc3) Oq ⟨⟨ω,ω⟩,λj hj=>w _ j Oq Oq hj⟩) (λ_ _=>q6N) Oq ⟨⟨ω,ω⟩,λj hj=>w _ j Oq Oq hj⟩
def qmJ (hn:n<=100):stT n S 6000≠none/\stT n S 6001≠none/\stT n S 6002≠none/\stT n S 6003≠none:=by
 unfold stT;refine ⟨?_,?_,?_,?_⟩
 .rw [q1k]; simp
 .rw [q0M ω ω,q1k]; simp
 .rw [q0M ω ω,q0M ω ω,q1k]; simp
 .rw [q0M ω ω,q0M ω ω,q0M ω ω,q1k]; simp
def clRw {l:List Nat}:ClL (l.map λz:Nat=>iv z):=λx hx=>by
 obtain ⟨_,_,rfl⟩:=zQ.1 hx; trivial
def clIds {l:List PV} {p:Nat->Prop} (h:ClL l):IdL p l:=IdL.of λx hx=>q9a (h x hx)
def qmM {H:Hp} {r len:Nat} (h:H 6000≠none/\H 6001≠none/\H 6002≠none/\H 6003≠none) (hr:H r≠none):IdL (λj=>H j≠none) (q2h n r len).xs:=by
 unfold q2h;unfold IdL IdL IdP;unfold IdL IdL IdL IdL IdL IdL;unfold IdP;exact ⟨⟨hr,h.1,h.2.1,h.2.2.1,h.2.2.2,trivial⟩,trivial⟩
def q1L {H:Hp} (h:BOk H win):WfH H:=⟨λi b hb=>⟨(h.b i b hb).2.1,IdL_mono (λj hj=>by
 obtain ⟨c,hc⟩:=zI.1 hj;exact ⟨(h.b j c hc).1,hj⟩) _ (h.b i b hb).2.2⟩⟩
def q2G {h:Hp} {i j:Nat} {b:Bk} (hj:h j≠none):q0P h i b j≠none:=by
 unfold q0P
 split
 .exact tD _
 .exact hj
def qlW {H:Hp} {p:Nat->Prop} {i:Nat} {b:Bk} (hB:BOk H p) (hp:p i) (hs:b.st=false) (hx:IdL (λj=>q0P H i b j≠none) b.xs):BOk (q0P H i b) p:=⟨λj c hc=>by
 unfold q0P at hc
 split at hc
 .rename_i hj; subst hj; cases hc; exact ⟨hp,hs,hx⟩
 .obtain ⟨h1,h2,h3⟩:=hB.b j c hc;exact ⟨h1,h2,IdL_mono (λk hk=>q2G hk) _ h3⟩⟩
def q02 {r:Nat} (hn:n<=100) (h1:5000 < r) (h2:r < 6000):BOk (q0o n S r) win:=by
 have h:=qmJ (S:=S) hn;unfold q0o;rw [q3R ω];refine qlW (qlW (q7d hn) ⟨ω,ω⟩ rfl (clIds clRw)) ⟨ω,ω⟩ rfl (qmM ?_ ?_)
 .exact ⟨q2G (q2G h.1),q2G (q2G h.2.1),q2G (q2G h.2.2.1),q2G (q2G h.2.2.2)⟩
 .refine q2G ?_; rw [q0H]; exact tD _
def qj9:SSh (stT n S) (stT n S'):=by
 unfold stT;exact q5A (q5A (q5A (q5A SSh_0 λj=>by simp) λj=>by simp) λj=>by simp) λj=>by simp
def q5w {i:Nat} (hi:i < 6000):stT n S i=none:=by
 unfold stT;rw [q0M ω ω,q0M ω ω,q0M ω ω,q0M ω ω]
 rfl
def qmK {r i:Nat} (h:q0o n S r i=none):i≠r/\i≠5000/\stT n S i=none:=by
 unfold q0o q0P at h
 split at h
 .cases h
 .split at h
  .cases h
  .exact ⟨by assumption,by assumption,h⟩
def qrS {i:Nat} (h:stT n S i=none):stT n S' i=none:=by
 cases h2:stT n S' i with
 | none=>rfl
 | some b =>
  obtain ⟨b',h3,_⟩:=qj9 (S:=S') (S':=S) i b h2;rw [h] at h3; cases h3
def q5M {r r':Nat} (h1:5000 < r) (h2:5000 < r') (h3:r < 6000) (h4:r' < 6000):SSh (q7W (q0o n S r) r) (q0o n S' r'):=λi b hb=>by
 unfold q7W at hb
 split at hb
 .cases hb
 .rename_i hi;unfold q0o at hb ⊢;rw [q0A hi] at hb
  by_cases h5:i=r'
  .subst h5;rw [q0A ω,q5w h4] at hb;cases hb
  .rw [q0A h5];exact (qwG (b:=q2h n r S.rows.length) (b':=q2h n r' S'.rows.length) qj9 rfl rfl rfl rfl) i b hb
def qjh (hn:n<=100):stT n S 6000=some ⟨24,none,(List.range n).map λj=>.ow (j+10000) none 0 n,false⟩:=by
 unfold stT;rw [q1k];simp
def qjd {j:Nat} (hn:n<=100) (hj:j < n):stT n S (j+10000)=some ⟨32,none,rU n S.l j,false⟩:=by
 unfold stT;rw [q13 ω hj]
def qrX {f:Nat->Nat} (hn:n<=100) (hf:∀ j,f j=n):q5n (stT n S) n 10000 none f=some ((List.range n).map λj=>.sl none (rU n S.l j),(List.range n).map (·+10000)):=by
 unfold stT;rw [q56 ω,cO,if_pos λj _=>q6N]
 congr 2
 refine zM λj _=>?_;rw [hf j]
 congr 1
 exact q8m
def qjg (hn:n<=100):stT n S 6001=some ⟨134,none,(List.range n).map λj=>.ow (j+20000) none 0 n,false⟩:=by
 unfold stT;rw [q0M ω ω,q1k];simp
def qjc {j:Nat} (hn:n<=100) (hj:j < n):stT n S (j+20000)=some ⟨4,none,rB n S.iL j,false⟩:=by
 unfold stT;rw [q0M ω ω,q13 ω hj]
def qrW {f:Nat->Nat} (hn:n<=100) (hf:∀ j,f j=n):q5n (stT n S) n 20000 none f=some ((List.range n).map λj=>.sl none (rB n S.iL j),(List.range n).map (·+20000)):=by
 unfold stT;rw [q46 ω ω,q56 ω,cO,if_pos λj _=>qc3]
 congr 2
 refine zM λj _=>?_;rw [hf j]
 congr 1
 exact q8m
def qjf (hn:n<=100):stT n S 6002=some ⟨24,none,(List.range n).map λj=>.ow (j+30000) none 0 n,false⟩:=by
 unfold stT;rw [q0M ω ω,q0M ω ω,q1k];simp
def qjb {j:Nat} (hn:n<=100) (hj:j < n):stT n S (j+30000)=some ⟨32,none,rU n S.u j,false⟩:=by
 unfold stT;rw [q0M ω ω,q0M ω ω,q13 ω hj]
def qrV {f:Nat->Nat} (hn:n<=100) (hf:∀ j,f j=n):q5n (stT n S) n 30000 none f=some ((List.range n).map λj=>.sl none (rU n S.u j),(List.range n).map (·+30000)):=by
 unfold stT;rw [q46 ω ω,q46 ω ω,q56 ω,cO,if_pos λj _=>q6N]
 congr 2
 refine zM λj _=>?_;rw [hf j]
 congr 1
 exact q8m
def qje (hn:n<=100):stT n S 6003=some ⟨134,none,(List.range n).map λj=>.ow (j+40000) none 0 n,false⟩:=by
 unfold stT;rw [q0M ω ω,q0M ω ω,q0M ω ω,q1k];simp
def qja {j:Nat} (hn:n<=100) (hj:j < n):stT n S (j+40000)=some ⟨4,none,rB n S.iU j,false⟩:=by
 unfold stT;rw [q0M ω ω,q0M ω ω,q0M ω ω,q13 ω hj]
def qrU {f:Nat->Nat} (hn:n<=100) (hf:∀ j,f j=n):q5n (stT n S) n 40000 none f=some ((List.range n).map λj=>.sl none (rB n S.iU j),(List.range n).map (·+40000)):=by
 unfold stT;rw [q46 ω ω,q46 ω ω,q46 ω ω,q56 ω,cO,if_pos λj _=>qc3]
 congr 2
 refine zM λj _=>?_;rw [hf j]
 congr 1
 exact q8m
def qmI (hn:n<=100):q5n (stT n S) n 10000 none (λ_=>n)=some ((List.range n).map λj=>.sl none (rU n S.l j),(List.range n).map (·+10000)):=qrX hn λ_=>rfl
def qmH (hn:n<=100):q5n (stT n S) n 20000 none (λ_=>n)=some ((List.range n).map λj=>.sl none (rB n S.iL j),(List.range n).map (·+20000)):=qrW hn λ_=>rfl
def qmG (hn:n<=100):q5n (stT n S) n 30000 none (λ_=>n)=some ((List.range n).map λj=>.sl none (rU n S.u j),(List.range n).map (·+30000)):=qrV hn λ_=>rfl
def qmF (hn:n<=100):q5n (stT n S) n 40000 none (λ_=>n)=some ((List.range n).map λj=>.sl none (rB n S.iU j),(List.range n).map (·+40000)):=qrU hn λ_=>rfl
attribute [go_sem ↓] q5w qjh qjg qjf qje qjd qjc qjb qja qmI qmH qmG qmF
variable {J:Nat->Prop} {s:Nat->PV} {h:Hp} {xs kv:List (Nat × PV)} {bs:List (Nat × Bk)} {kb:List (Nat × Option Bk)}
def qaK {i:Nat} {b:Bk} (hb:stT n S i=some b):6000<=i:=by
 rcases Nat.lt_or_ge i 6000 with h | h
 .rw [q5w h] at hb; cases hb
 .exact h
def qaL {o r:Nat} (hn:n<=100) (h5:5000 < r) (h6:r < 6000) (hJ:∀ i,J i->i≠r) (hq:∀ i,6000<=i->win i->h i=stT n S i) (h0:h 5000=some (q2h n o S.rows.length)) (h1:h o=some (rwB S.rows)) (ho:o < 5000\/(5000 < o/\o < 6000/\o≠r)) (hl:nmW o o (bs.map (·.1) ++ kb.map (·.1)))
  (hh:q4l (tnU r o) h (q0u (q0o n S r) (hpM bs kb)) s xs/\q4l (tnU r o) h (q0u (q0o n S r) (hpM bs kb)) s kv/\qcR (tnU r o) h (q0u (q0o n S r) (hpM bs kb)) bs/\q8d (tnU r o) h (q0u (q0o n S r) (hpM bs kb)) kb):Le J s h (stM xs kv) (q0u (q0o n S r) (hpM bs kb)):=by
 have tr:tnU r o r=some o:=if_pos rfl;have tI:∀ i,i≠r->tnU r o i=some i:=λi a=>if_neg a;have hl:=λi hi=>q4P hl i hi;have hex:∀ i,win i->∀ b,q0o n S r i=some b->∃ b,q0u (q0o n S r) (hpM bs kb) i=some b:=λi hi b hb=>⟨b,by rw [q0V hi]; exact hb⟩;refine LeT (tnU r o) (λi q=>tI i (hJ i q)) (λi hi hw=>?_) (λi b hw hb=>?_) (λi j k' hi hj ti tj=>?_) hh
 .have:=(hl i hi).1; unfold win at hw; omega
 .have hb2:=hb;unfold q0o q0P at hb
  split at hb
  .rename_i e; subst e; cases hb;unfold LeB;rw [tr];exact ⟨_,h1,rfl,rfl,⟨rfl,rfl⟩,q0R rfl clRw⟩
  .rename_i e
   split at hb
   .rename_i e2; subst e2; cases hb;unfold LeB;rw [tI _ e];refine ⟨_,h0,rfl,rfl,⟨rfl,rfl⟩,?_⟩;unfold q2h;simp only;rw [q9q];obtain ⟨q1,q2,q3,q4⟩:=qmJ (S:=S) hn;have hx:∀ i,6000<=i->win i->stT n S i≠none->∃ b,q0u (q0o n S r) (hpM bs kb) i=some b:=λi hi hw hq=>by
     obtain ⟨b,hb⟩:=zI.1 hq;exact hex i hw b (by unfold q0o; rw [q0A ω,q0A ω]; exact hb)
    rw [qgB,q2r,q2r,q2r,q2r,q2r,q3J,q3J,q3J,q3J,q3J,tr,tI _ ω,tI _ ω,tI _ ω,tI _ ω];exact ⟨⟨rfl,hex r ⟨ω,ω⟩ _ q0H,rfl,rfl,rfl⟩,⟨rfl,hx _ Oq ⟨ω,ω⟩ q1,rfl,rfl,rfl⟩,⟨rfl,hx _ Oq ⟨ω,ω⟩ q2,rfl,rfl,rfl⟩,⟨rfl,hx _ Oq ⟨ω,ω⟩ q3,rfl,rfl,rfl⟩,⟨rfl,hx _ Oq ⟨ω,ω⟩ q4,rfl,rfl,rfl⟩,trivial⟩
   .obtain ⟨q1,q2,q3⟩:=(q7d hn).b i b hb;have hi6:=qaK hb;unfold LeB;rw [tI i e];refine ⟨b,(hq i hi6 hw).trans hb,rfl,rfl,⟨q2,q2⟩,LeL_self (λj hj=>?_) _ q3⟩;obtain ⟨c,hc⟩:=zI.1 hj;have hj6:=qaK hc;exact ⟨tI j ω,hex j ((q7d hn).b j c hc).1 c (by unfold q0o; rw [q0A ω,q0A ω]; exact hc)⟩
 .have a:∀ i,(win i/\q0o n S r i≠none\/i ∈ bs.map (·.1) ++ kb.map (·.1))->i≠o:=λi hi=>by
   rcases hi with ⟨q,hi⟩ | hi
   .rintro rfl;unfold win at q;refine hi ?_;unfold q0o;rw [q0A ω,q0A ω,q5w ω]
   .exact (hl i hi).2.1
  have a1:=a i hi;have a2:=a j hj;unfold tnU at ti tj
  split at ti <;> split at tj <;> cases ti <;> cases tj <;> first | omega | rfl | exact (a1 rfl).elim | exact (a2 rfl).elim
end
end Go.Proofs.YtbjoghfmhgadkaaGreatDoor
namespace Go.E
open Go Go.RowKit
def hx_of {hin hout:Hp} {a:Nat} (hB:BOk hin win) (hs:SSh (q7W hin a) hout) (ha:hout a=none):∀ i b,hin i=some b->win i/\b.st=false/\IdL win b.xs/\(hout i=none\/∃ b',hout i=some b'/\b'.k=b.k/\b.xs.length<=b'.xs.length):=λi b hb=>by
 obtain ⟨h1,h2,h3⟩:=hB.b i b hb;refine ⟨h1,h2,IdL_mono (λj hj=>?_) _ h3,?_⟩
 .obtain ⟨c,hc⟩:=zI.1 hj;exact (hB.b j c hc).1
 .by_cases hi:i=a
  .subst hi; exact .inl ha
  .obtain ⟨b',q1,_,q2,_,q3⟩:=hs i b (by unfold q7W; rw [if_neg hi]; exact hb);exact .inr ⟨b',q1,q2,ω⟩
def qpe {h:Hp}:SSh h (q7V h):=λi b hb=>⟨⟨b.T,b.k,b.xs.map λ_=>.un,false⟩,by unfold q7V; rw [hb,zR],rfl,rfl,rfl,σ⟩
end Go.E
namespace Go.Proofs.YtbjoghfmhgadkaaGreatDoor
open Go Go.E Go.Sp
def In_z0 {V:Int} (hV:V=0) (D:Nat->Prop) (w:World):In (fV V) D (.agg ⟨[.bool false,.bool false,.slice none 0 0,.int .i64 0]⟩) w:=by
 subst hV;refine (q3C (ρ:=λ_=>none) (h:=h0)).1 ⟨?_,by simp [q0Z,q0m]⟩;unfold Rd;refine ⟨_,rfl,?_⟩;unfold RdL RdL RdL RdL RdL Rd;rw [q18,show dyE 0=0 from rfl];refine ⟨_,_,rfl,rfl,_,_,rfl,rfl,_,_,rfl,?_,_,_,rfl,rfl,rfl⟩;exact ⟨none,0,0,rfl,U32.nil⟩
def qwI {τ:Nat->Option Nat} {h h':Hp} {V:Int} (hV:V=0):LeV τ h h' (.ag [bv false,bv false,q05,iv 0]) (pV V) :=
 .agv (l:=[.bool false,.bool false,.slice none 0 0,.int .i64 0]) (In_z0 hV)
def qgD {τ:Nat->Option Nat} {h h':Hp} {n:Nat} {P:Nat->PV} {l:List PV} (hl:l.length=n):LeL τ h h' l (rwP n P 0):=⟨by rw [hl,q8w],λi x y _ hy=>by
 unfold rwP at hy;rw [zH] at hy;cases hc:(List.range n)[i]? with
 | none=>rw [hc] at hy; cases hy
 | some c=>rw [hc,zR,if_neg ω] at hy; cases hy; exact .un⟩
def rwG_z {n m:Nat} {g:Nat->Nat} (h:g m=0):rwG n g m=rwG n g (m+1):=by
 unfold rwG;refine zM λy _=>?_
 by_cases h2:y < m
 .rw [if_pos h2,if_pos ω]
 .rw [if_neg h2]
  by_cases h3:y=m
  .subst h3; rw [if_pos ω,h]
  .rw [if_neg ω]
def qrr {n i:Nat} {g:Nat->Nat} (hi:i < n):(rwG n g n)[i]?=some (g i):=by
 unfold rwG;rw [zH,zD hi,zR,if_pos hi]
def qaf {S:LuS} {k:Nat} {z:Nat->Int} {d:Int} {m:Nat} (h:loS S k z d m=none):∀ m',m<=m'->loS S k z d m'=none
 | 0,hc=>by
  obtain rfl:m=0:=ω
  exact h
 | c+1,hc=>by
  by_cases e:m=c+1
  .subst e; exact h
  .rw [loS,qaf h c ω]; rfl
def qfy:abZ 0=0:=by
 unfold abZ;rw [(q5T (f:=0) (by unfold q0I; simp)).2 rfl]; rfl
def qkJ {v:Nat->Nat}:∀ i,0<=mxZ v i
 | 0=>uU _
 | i+1=>by
  have:=qkJ (v:=v) i;unfold mxZ
  split
  .unfold abZ; omega
  .exact this
def qsn {v:Nat->Nat} {i:Nat} (h:v i=0):mxZ v (i+1)=mxZ v i:=by
 have:=qkJ (v:=v) i;rw [mxZ,h,qfy,if_neg ω]
def qkK {v:Nat->Nat}:∀ i,(∀ c,c < i->q0I (v c))->bl (mxZ v i).natAbs<=67600
 | 0,_=>by unfold mxZ; simp [q0m]
 | i+1,h=>by
  unfold mxZ
  split
  .unfold abZ; rw [zJ]; exact q42 (h i ω)
  .exact qkK i λc hc=>h c Oq
section
variable {v:Nat->Nat} {S:LuS} {mi:List Int} {num den:Nat} {w:Int}
def qfd:∀ i:Nat,-1<=bsP v S mi num den w i/\bsP v S mi num den w i < i
 | 0=>by unfold bsP; omega
 | i+1=>by
  have:=qfd i;unfold bsP
  split
  .omega
  .split <;> omega
def qbM:∀ i:Nat,0<=bsP v S mi num den w i->(bsP v S mi num den w i).toNat ∉ S.rows/\¬ (v (bsP v S mi num den w i).toNat=0\/v (bsP v S mi num den w i).toNat=9223372036854775808)
 | 0,h=>by unfold bsP at h; omega
 | i+1,h=>by
  unfold bsP at h ⊢
  split
  .rename_i h1; rw [if_pos h1] at h; exact qbM i h
  .rename_i h1;rw [if_neg h1] at h
   split
   .rename_i h2;rw [zF];exact ⟨λq=>h1 (.inl q),λq=>h1 (.inr (.inl q))⟩
   .rename_i h2;rw [if_neg h2] at h;exact qbM i h
end
section
variable {F:Nat->Nat->Option Nat} {S:LuS} {n j k num den:Nat}
def q9z {m:Nat} (h:upS F S j k m=none):∀ m',m<=m'->upS F S j k m'=none
 | 0,hc=>by
  obtain rfl:m=0:=ω
  exact h
 | c+1,hc=>by
  by_cases e:m=c+1
  .subst e; exact h
  .rw [upS,q9z h c ω]; rfl
noncomputable def qu7 (F:Nat->Nat->Option Nat) (mi:List Int) (n:Nat) (S:LuS) (j k num den:Nat):Hp:=if (q1r F mi n S j k num den).1=0 then q0o n (q1r F mi n S j k num den).2 5002 else q7V (q7W (q0o n S 5001) 5001)
def qid (h:TOk F n n) (hn:n<=100) (hl:q4f S.l) (hu:q4f S.u) (hr:∀ x ∈ S.rows,x < n) (hk:S.rows.length=k) (hkn:k < n) (hj:j < n) (hnum:num<=1000) (hden:den<=1000) :
  ACxt 91 [.pt 5000 0 0,pT n n F,iv j,iv k,iv num,iv den] (q0o n S 5001) (iv (q1r F (tM F n n).2.1 n S j k num den).1) (qu7 F (tM F n n).2.1 n S j k num den):=by
 have hM:=q0w (f:=F) (R:=n) n;have cT:∀ {q:LuS} {i:Nat} {m:Nat},q4f q.l->q4f q.u->i < n->m<=n->_:=λ{q i m} h1 h2 h3 h4=>qhO (S:=q) (i:=i) (j:=j) (k:=k) (m:=m) h hn h1 h2 h3 hj hkn h4;have hF:∀ i,i < n->q0I ((F j i).getD 0):=λi hi=>(h.fin hj hi).1;have hnn:n*n<=100*100:=u7 hn hn;have hpl:pT n n F=q2w n n (tM F n n).1 (tM F n n).2.1 (tM F n n).2.2:=rfl;simp only [hpl] at cT;rw [hpl];clear hpl;unfold q2w at cT ⊢;have hT:=Hid.mk @cT;clear cT;generalize (tM F n n).1=ms at *;generalize (tM F n n).2.1=mi at *;generalize (tM F n n).2.2=mv at *;have hcO:∀ e r,q1r F mi n S j k num den=(e,r)->qu7 F mi n S j k num den=if e=0 then q0o n r 5002 else q7V (q7W (q0o n S 5001) 5001):=λe r hq=>by unfold qu7; rw [hq]
 obtain ⟨⟨e,r⟩,hres⟩:∃ q,q=q1r F mi n S j k num den:=⟨_,rfl⟩;rw [hcO e r hres.symm,<- hres];clear hcO;have hno:(if e=0 then q0o n r 5002 else q7V (q7W (q0o n S 5001) 5001):Hp) 5001=none:=by
  split
  .unfold q0o; rw [q0A ω,q0A ω,q5w ω]
  .unfold q7V q7W; rw [if_pos rfl]; rfl
 have hno2:q0o n S 5001 5002=none:=by unfold q0o; rw [q0A ω,q0A ω,q5w ω]
 refine actx qur Tryz.func91 rfl Tryz.ntmps91 κ ?_ ?_ ?_ ?_
 .refine hx_of (a:=5001) (q02 (r:=5001) hn Oq Oq) ?_ hno
  split
  .exact q5M Oq Oq Oq Oq
  .exact qpe
 .intro i b hb
  split at hb
  .exact ((q02 hn Oq Oq).b i b hb).1
  .unfold q7V q7W at hb;obtain ⟨c,hc,_⟩:=yF.1 hb
   split at hc
   .cases hc
   .exact ((q02 hn Oq Oq).b i c hc).1
 .refine IdL.of λx hx=>?_;simp at hx
  rcases hx with rfl | rfl | rfl | rfl | rfl | rfl <;> unfold IdP
  .exact ⟨ω,ω⟩
  .unfold IdL IdL IdL IdL IdL IdL;unfold IdP;exact ⟨trivial,trivial,trivial,trivial,trivial,trivial⟩
  all_goals trivial
 simp only;have hJ:∀ i,(q0o n S 5001 i≠none/\(if e=0 then q0o n r 5002 else q7V (q7W (q0o n S 5001) 5001):Hp) i≠none)->i≠5002:=λi hi=>by rintro rfl; exact hi.1 hno2
 have hbad:∀ (hw:Hp) (h:Hp) (l:List PV) (v:Value),Wn h hw->SSh (q7W (q0o n S 5001) 5001) hw->mkR l=.vl v->∀ J,Le J (λ_=>mkR l) h (λ_=>.vl v) (q7V (q7W (q0o n S 5001) 5001)):=λhw h l v h1 h2 h3 J=>LeUnk h1 (λi b hb=>by
  unfold q7W at hb
  split at hb
  .cases hb
  .exact ((q02 hn Oq Oq).b i b hb).1) h2 h3
 generalize hHo:(if e=0 then q0o n r 5002 else q7V (q7W (q0o n S 5001) 5001):Hp)=Ho at *;have hHe:e≠0->Ho=q7V (q7W (q0o n S 5001) 5001):=λh=>by rw [<- hHo,if_neg h]
 have hH0:e=0->Ho=q0o n r 5002:=λh=>by rw [<- hHo,if_pos h]
 clear hHo hno;unfold q1r at hres;refine wk ?_;refine q0U (λq:Nat × LuS=>q.1<=k/\upS F S j k q.1=some q.2/\q4f q.2.l/\q4f q.2.u/\q.2.rows=S.rows) [0,2,3,4,5,7,13] [7] Lk Lk (λq=>[(14,iv q.1)]) (λ_=>[]) (λq=>q0o n q.2 5001) (λq=>k-q.1) (0,S) ⟨zG _,rfl,hl,hu,rfl⟩ ?_ ?_
 .refine LeW [] rfl rfl ?_ ?_ (by simp [q0y,q0n,win]) ?_
  .exact Ow
  .exact q1L (q02 hn Oq Oq)
  .try refine Zz ?_
   rfl
 .rintro ⟨m,q⟩ ⟨hm,hq,ql,qu,qr⟩;simp only at hm hq ql qu qr ⊢
  by_cases hlt:m < k
  .obtain ⟨i,hi⟩:∃ i,q.rows[m]?=some i:=⟨_,zA (by rw [qr]; omega)⟩;have hql:q.rows.length=k:=by rw [qr]; exact hk
   have hin:=hr i (by rw [<- qr]; exact zE hi);unfold q0o q2h;refine wk ?_;have cS:=hT.o (m:=m) ql qu hin Oq;have N1:=q3D (V:=luZ F q.l q.u i j k m);have rm:(List.range n)[m]?=some m:=zD Oq;have rk:(List.range n)[k]?=some k:=zD hkn;have cR:=@q9A (luZ F q.l q.u i j k m);have cG:=qbA (V:=luZ F q.l q.u i j k m);obtain ⟨z,hz⟩:∃ z,z=luZ F q.l q.u i j k m:=⟨_,rfl⟩;have hvl:fR 0 z < 18446744073709551616:=q51;have hqs:upS F S j k (m+1)=if q0I (fR 0 z) then some { q with u:=q29 q.u m k (fR 0 z),iU:=q8c q.iU m k (decide (z≠0)) } else none:=by rw [upS,hq,tE,show S.rows.getD m 0=i by rw [<- qr]; exact getD_some hi,<- hz]
   rw [<- hz] at cS N1 cR cG;have cF:=q2F hvl;generalize fR 0 z=v at *;have hset:((List.range n).map λc=>PV.vl (.int .u64 (q.u m c:Nat))).set k (uv v)=(rU n q.u m).set k (uv v):=rfl;have hget:((rU n q.u m).set k (uv (v:Nat)))[k]?=some (uv (v:Nat)):=yG (by simp; omega);have qz:(z.sign != 0)=decide (z≠0):=by
    by_cases h0:z=0
    .subst h0; rfl
    .rw [decide_eq_true h0]; simpa using h0
   have eq1:∀ b,q0P (q0P (q0o n q 5001) (m+30000) ⟨32,none,(rU n q.u m).set k (uv (v:Nat)),false⟩) (m+40000) ⟨4,none,(rB n q.iU m).set k (bv b),false⟩=q0o n { q with u:=q29 q.u m k v,iU:=q8c q.iU m k b } 5001:=λb=>by
    rw [qaM ω ω,q3R (i:=5001) ω,q3R (i:=5000) ω,qrR hn ω,qji (S:={ q with u:=q29 q.u m k v }) hn ω]
   refine A_sd [(2,15),(3,15),(7,15),(10,15),(14,15)] q5m κ λK hK=>?_;refine Zz3 hi rm rk ?_;refine q3p cS N1 ?_
   try refine Zz ?_
   refine hK _ _ ?_; clear hK K
   by_cases hf:q0I v
   .rw [decide_eq_true hf] at cF;rw [if_pos hf] at hqs;refine wk1 (x5 hi rm rk qz hget) ?_;refine ⟨(m+1,{ q with u:=q29 q.u m k v,iU:=q8c q.iU m k (decide (z≠0)) }),⟨by simp only; omega,hqs,ql,λx y=>?_,qr⟩,by simp only; omega,?_⟩
    .simp only [q29]
     split
     .exact ⟨hf,hvl⟩
     .exact qu x y
    .simp only;refine LeW [] rfl rfl ?_ ?_ (by simp [q0y,q0n,win]) ?_
     .refine q9l (q5d (q5d (qvx Oq (qvx Oq q4k)))) (eq1 _)
     .exact q1L (q02 hn Oq Oq)
     .try refine Zz ?_
      omega
   .rw [decide_eq_false hf] at cF;rw [if_neg hf] at hqs;rw [q9z hqs k ω] at hres;cases hres;rw [hHe (by decide)];refine wk1 (x5 hi rm rk qz hget) ?_;refine (rtM (rs:=[.tmp 12]) rfl rfl Lq ?_ (.inl rfl));exact hbad _ _ _ _ (q9l (q5d (q5d (qvx Oq (qvx Oq q4k)))) (eq1 _)) (q5M Oq Oq Oq Oq) rfl _
  .obtain rfl:k=m:=ω
   rw [hq] at hres;simp only at hres;unfold qif at hres;clear hm hq hlt;have hql:q.rows.length=k:=by rw [qr]; exact hk
   have hRl:=λi=>q8x (n:=n) (g:=rsV F q j k) (m:=i);have hsl:=λi=>q8w (n:=n) (g:=λc=>if c ∈ q.rows then .un else pV (rsZ F q j k c)) (m:=i);have hVu:∀ c,rsV F q j k c=if c ∈ q.rows then 0 else fR 0 (rsZ F q j k c):=λc=>rfl
   have hvl:∀ c,rsV F q j k c < 18446744073709551616:=λc=>by rw [hVu]; split <;> first | omega | exact q51
   have hzE:∀ c,rsZ F q j k c=luZ F q.l q.u c j k k:=λc=>rfl;have hsP:∀ c,c ∉ q.rows->(if c ∈ q.rows then PV.un else pV (rsZ F q j k c))=pV (rsZ F q j k c):=λc hc=>if_neg hc;have hsU:∀ c,c ∈ q.rows->(if c ∈ q.rows then PV.un else pV (rsZ F q j k c))=.un:=λc hc=>if_pos hc;have hsC:∀ c,Cld (if c ∈ q.rows then PV.un else pV (rsZ F q j k c)):=λc=>by split <;> trivial
   generalize hVg:rsV F q j k=V at *;generalize hZg:rsZ F q j k=Z at *;generalize hPg:(λc=>if c ∈ q.rows then PV.un else pV (Z c))=P at *;have hP1:∀ c,c ∉ q.rows->P c=pV (Z c):=λc hc=>by rw [<- hPg]; exact if_neg hc
   have hP2:∀ c,c ∈ q.rows->P c=.un:=λc hc=>by rw [<- hPg]; exact if_pos hc
   have hP3:∀ c,Cld (P c):=λc=>by rw [<- hPg]; exact hsC c
   clear hPg hsP hsU hsC;refine wk ?_;refine q0U (λi=>i<=n/\∀ c,c < i->q0I (V c)) [0,2,3,4,5,7,13,18] [7] Lk Lk (λi:Nat=>[(19,iv i),(16,.ow 1001 (some 4) 0 n),(17,.ow 1002 none 0 n)]) (λi=>[(18,⟨46,some 4,[pV (mxZ V i)],false⟩),(1001,⟨46,some 4,rwP n P i,false⟩),(1002,⟨32,none,(rwG n V i).map λz:Nat=>uv z,false⟩)]) (λ_=>q0o n q 5001) (λi=>n-i) 0 ⟨zG _,ω⟩ ?_ ?_
   .refine LeW [(1001,some 82),(1002,some 84)] rfl rfl ?_ ?_ (by simp [q0y,q0n,win]) ?_
    .exact Ow
    .exact q1L (q02 hn Oq Oq)
    .try refine Zz ?_
     exact ⟨rfl,qwI rfl,qgD σ,qrs⟩
   .rintro i ⟨hi,hfin⟩;have hwl:=hRl i;have hsl1:=hsl i
    by_cases hlt:i < n
    .have cP:=q4N (S:=q) (n:=n) (i:=i) (by rw [hql]; omega)
     by_cases hmem:i ∈ q.rows
     .rw [decide_eq_true hmem] at cP;have N2:Nz (bv true):=qa6;have hV0:V i=0:=by rw [hVu]; exact if_pos hmem
      refine wk ?_;refine ⟨i+1,⟨ω,λc hc=>?_⟩,ω,?_⟩
      .by_cases h1:c < i
       .exact hfin c h1
       .rw [show c=i by omega,hV0]; unfold q0I; simp
      .rw [<- rwG_z hV0,<- rwP_u (hP2 i hmem),qsn hV0];refine LeW [] rfl rfl ?_ ?_ (by simp [q0y,q0n,win]) ?_
       .exact Ow
       .exact q1L (q02 hn Oq Oq)
       .try refine Zz ?_
        exact ⟨rfl,q0R rfl (q1l hP3)⟩
     .rw [decide_eq_false hmem] at cP;have N2:Nz (bv false):=qa6;have hVi:V i=fR 0 (Z i):=by rw [hVu]; exact if_neg hmem
      have cS:=hT.o (i:=i) (m:=k) ql qu hlt Oq;rw [<- hzE] at cS;have N3:=q3D (V:=Z i);have cR:=@q9A (Z i);have hPi:=hP1 i hmem;have hs1:((rwP n P i).set i (pV (Z i)))[i]?=some (pV (Z i)):=yG (by rw [hsl1]; omega);have hs2:(((rwG n V i).map λz:Nat=>uv z).set i (uv (V i:Nat)))[i]?=some (uv (V i:Nat)):=yG (by rw [z9,hwl]; omega);have hs3:rwP n P (i+1)=(rwP n P i).set i (pV (Z i)):=by rw [<- qrp,hPi]
      have hs4:((rwG n V (i+1)).map λz:Nat=>uv z)=((rwG n V i).map λz:Nat=>uv z).set i (uv (V i:Nat)):=by rw [<- qrq,List.map_set]
      rw [<- hVi] at cR;have cF:=q2F (hvl i)
      by_cases hf:q0I (V i)
      .rw [decide_eq_true hf] at cF;have cO:=q28 (hvl i) (q0i hf);have cA:ACt 46 [pV (ofZ (V i))] (pV (abZ (V i))):=q96;have cL:=q9u (A:=mxZ V i) (B:=abZ (V i));have hfin2:∀ c,c < i+1->q0I (V c):=λc hc=>by
        by_cases h1:c < i
        .exact hfin c h1
        .rw [show c=i by omega]; exact hf
       by_cases hlw:mxZ V i < abZ (V i)
       .rw [decide_eq_true hlw] at cL;have hm:mxZ V (i+1)=abZ (V i):=if_pos hlw;refine wk1 (x4 hs1 hs2 hwl hsl1) ?_;refine ⟨i+1,⟨ω,hfin2⟩,ω,?_⟩;rw [hs3,hs4,hm];refine LeW [] rfl rfl ?_ ?_ (by simp [q0y,q0n,win]) ?_
        .exact Ow
        .exact q1L (q02 hn Oq Oq)
        .try refine Zz ?_
         exact ⟨rfl,q0R rfl (q5h (q1l hP3) trivial),q0R rfl (q5h clU trivial)⟩
       .rw [decide_eq_false hlw] at cL;have hm:mxZ V (i+1)=mxZ V i:=if_neg hlw;refine wk1 (x4 hs1 hs2 hwl hsl1) ?_;refine ⟨i+1,⟨ω,hfin2⟩,ω,?_⟩;rw [hs3,hs4,hm];refine LeW [] rfl rfl ?_ ?_ (by simp [q0y,q0n,win]) ?_
        .exact Ow
        .exact q1L (q02 hn Oq Oq)
        .try refine Zz ?_
         exact ⟨rfl,q0R rfl (q5h (q1l hP3) trivial),q0R rfl (q5h clU trivial)⟩
      .rw [decide_eq_false hf] at cF;rw [if_neg λh=>hf (h i hlt)] at hres;cases hres;rw [hHe (by decide)];refine wk1 (x4 hs1 hs2 hwl hsl1) ?_;refine (rtM (rs:=[.tmp 12]) rfl rfl Lq ?_ (.inl rfl));refine hbad (q0o n q 5001) _ _ _ ?_ (q5M Oq Oq Oq Oq) rfl _;exact Ow
    .obtain rfl:n=i:=ω
     rw [if_pos hfin] at hres;have hWb:=qkK n hfin;obtain ⟨W,hW⟩:∃ W,W=mxZ V n:=⟨_,rfl⟩;rw [<- hW] at hWb hres ⊢;have cI1:=q37 (z:=num) Oq Oq (qk6 Oq);have cI2:=q37 (z:=den) Oq Oq (qk6 Oq);have cM1:=q9B (mulI (z:=num) (W:=W) Oq hWb);have hrg:=λi=>qfd (v:=V) (S:=q) (mi:=mi) (num:=num) (den:=den) (w:=W) i;have hbs:=λi=>show bsP V q mi num den W (i+1)=if i ∈ q.rows\/(V i=0\/V i=9223372036854775808)\/(den:Int)*abZ (V i) < num*W then bsP V q mi num den W i else if bsP V q mi num den W i < 0\/q3T mi i < q3T mi (bsP V q mi num den W i).toNat then (i:Int) else bsP V q mi num den W i from rfl
     have hbok:=qbM (v:=V) (S:=q) (mi:=mi) (num:=num) (den:=den) (w:=W) n;have hb0:bsP V q mi num den W 0 = -1:=rfl;generalize bsP V q mi num den W=b at *;have hsl1:=hsl n;have hwl:=hRl n;refine wk ?_;refine q0U (λi=>i<=n) [0,2,3,4,5,7,13,16,17,18] [7,18,1001,1002] Lk Lk (λi:Nat=>[(21,iv i),(20,iv (b i))]) (λ_=>[]) (λ_=>q0o n q 5001) (λi=>n-i) 0 (zG _) ?_ ?_
     .refine LeW [] rfl rfl ?_ ?_ (by simp [q0y,q0n,win]) ?_
      .exact Ow
      .exact q1L (q02 hn Oq Oq)
      .try refine Zz ?_
       exact ⟨⟨rfl,by rw [hb0]⟩,q0R rfl (q1l hP3)⟩
     .intro i hi
      by_cases hlt:i < n
      .have cP:=q4N (S:=q) (n:=n) (i:=i) (by rw [hql]; omega);have hbi:=hrg i;have hsi:=hbs i;have hvg:(rwG n V n)[i]?=some (V i):=qrr hlt;have cZ:=@q5q (V i);have cO:=q28 (hvl i) (q0i (hfin i hlt));have cA:ACt 46 [pV (ofZ (V i))] (pV (abZ (V i))):=q96;have hab:bl (abZ (V i)).natAbs<=67600:=by unfold abZ; rw [zJ]; exact q42 (hfin i hlt)
       have cM2:=q9B (mulI (z:=den) (W:=abZ (V i)) Oq hab);have cL:=q9u (A:=(den:Int)*abZ (V i)) (B:=(num:Int)*W);have N9:∀ b:Bool,Nz (bv b):=λb=>qa6;have hskip:(i ∈ q.rows\/(V i=0\/V i=9223372036854775808)\/(den:Int)*abZ (V i) < num*W)->b (i+1)=b i:=λh=>by rw [hsi,if_pos h]
       have htake:¬ (i ∈ q.rows\/(V i=0\/V i=9223372036854775808)\/(den:Int)*abZ (V i) < num*W)->b (i+1)=if b i < 0\/q3T mi i < q3T mi (b i).toNat then (i:Int) else b i:=λh=>by rw [hsi,if_neg h]
       clear hsi hbs
       by_cases hmem:i ∈ q.rows
       .rw [decide_eq_true hmem] at cP;have N2:=N9 true;have hbn:=hskip (.inl hmem);generalize b i=bi at *;refine wk ?_;refine ⟨i+1,ω,ω,?_⟩;rw [hbn];refine LeW [] rfl rfl ?_ ?_ (by simp [q0y,q0n,win]) ?_
        .exact Ow
        .exact q1L (q02 hn Oq Oq)
        .try refine Zz ?_
         exact ⟨rfl,q0R rfl (q1l hP3)⟩
       rw [decide_eq_false hmem] at cP;have N2:=N9 false
       by_cases hz:V i=0\/V i=9223372036854775808
       .rw [decide_eq_true hz] at cZ;have hbn:=hskip (.inr (.inl hz));generalize b i=bi at *;refine wk1 hvg ?_;refine ⟨i+1,ω,ω,?_⟩;rw [hbn];refine LeW [] rfl rfl ?_ ?_ (by simp [q0y,q0n,win]) ?_
        .exact Ow
        .exact q1L (q02 hn Oq Oq)
        .try refine Zz ?_
         exact ⟨rfl,q0R rfl (q1l hP3)⟩
       rw [decide_eq_false hz] at cZ
       by_cases hle:(den:Int)*abZ (V i) < num*W
       .rw [decide_eq_true hle] at cL;have hbn:=hskip (.inr (.inr hle));generalize b i=bi at *;refine wk1 hvg ?_;refine ⟨i+1,ω,ω,?_⟩;rw [hbn];refine LeW [] rfl rfl ?_ ?_ (by simp [q0y,q0n,win]) ?_
        .exact Ow
        .exact q1L (q02 hn Oq Oq)
        .try refine Zz ?_
         exact ⟨rfl,q0R rfl (q1l hP3)⟩
       rw [decide_eq_false hle] at cL;have hbn:=htake λh=>h.elim hmem λh=>h.elim hz hle;have cC1:=qbD (ms:=ms) (mi:=mi) (mv:=mv) (n:=n) (i:=i) Oq;have cC2:=λc:Nat=>qbD (ms:=ms) (mi:=mi) (mv:=mv) (n:=n) (i:=c) Oq;unfold q2w at cC1 cC2;have hcb:∀ c,q3T mi c<=1000000:=λc=>uY (xD _ _) Oq;generalize b i=bi at *
       by_cases hneg:bi < 0
       .rw [if_pos (.inl hneg)] at hbn;refine wk1 (x2 hvg hneg) ?_;refine ⟨i+1,ω,ω,?_⟩;rw [hbn];refine LeW [] rfl rfl ?_ ?_ (by simp [q0y,q0n,win]) ?_
        .exact Ow
        .exact q1L (q02 hn Oq Oq)
        .try refine Zz ?_
         exact ⟨rfl,q0R rfl (q1l hP3)⟩
       obtain ⟨c,rfl⟩:∃ c:Nat,bi=c:=⟨bi.toNat,ω⟩;rw [zF] at hbn;have cC3:=cC2 c;have h1:=hcb i;have h2:=hcb c
       by_cases hcnt:q3T mi i < q3T mi c
       .rw [if_pos (.inr hcnt)] at hbn;have hcnt':(q3T mi i:Int) < q3T mi c:=ω
        refine wk1 (x3 hvg hneg hcnt') ?_;refine ⟨i+1,ω,ω,?_⟩;rw [hbn];refine LeW [] rfl rfl ?_ ?_ (by simp [q0y,q0n,win]) ?_
        .exact Ow
        .exact q1L (q02 hn Oq Oq)
        .try refine Zz ?_
         exact ⟨rfl,q0R rfl (q1l hP3)⟩
       .rw [if_neg λh=>h.elim hneg hcnt] at hbn;have hcnt':¬ (q3T mi i:Int) < q3T mi c:=ω
        refine wk1 (x3 hvg hneg hcnt') ?_;refine ⟨i+1,ω,ω,?_⟩;rw [hbn];refine LeW [] rfl rfl ?_ ?_ (by simp [q0y,q0n,win]) ?_
        .exact Ow
        .exact q1L (q02 hn Oq Oq)
        .try refine Zz ?_
         exact ⟨rfl,q0R rfl (q1l hP3)⟩
      .obtain rfl:n=i:=ω
       clear hi hlt hbs cI1 cI2 cM1
       by_cases hneg:b n < 0
       .rw [if_pos hneg] at hres;cases hres;rw [hHe (by decide)];refine wk1 hneg ?_;refine (rtM (rs:=[.tmp 12]) rfl rfl Lq ?_ (.inl rfl));refine hbad (q0o n q 5001) _ _ _ ?_ (q5M Oq Oq Oq Oq) rfl _;exact Ow
       rw [if_neg hneg] at hres;obtain ⟨hpm,hpz⟩:=hbok Oq;have hpn:=(hrg n).2;clear hrg hbok hb0;generalize b n=bn at *;obtain ⟨p,rfl⟩:∃ p:Nat,bn=p:=⟨bn.toNat,ω⟩;rw [zF] at hres hpm hpz;have hpn:p < n:=ω
       have hvp:=qrr (g:=V) hpn;have rk:(List.range n)[k]?=some k:=zD hkn;refine wk1 (x3 hneg hvp rk) ?_;obtain ⟨Sp,hSp⟩:∃ Sp,Sp=pvS q k V p:=⟨_,rfl⟩;rw [<- hSp] at hres;have hSr:Sp.rows=q.rows ++ [p]:=by rw [hSp]; rfl
       have hSl:Sp.l=q.l:=by rw [hSp]; rfl
       have eqT:q0P (q0P (stT n q) (k+30000) ⟨32,none,(rU n q.u k).set k (uv (V p:Nat)),false⟩) (k+40000) ⟨4,none,(rB n q.iU k).set k (bv true),false⟩=stT n Sp:=by
        rw [qrR hn hkn,qji (S:={ q with u:=q29 q.u k k (V p) }) hn hkn,hSp]
        rfl
       have hSrl:Sp.rows.length=k+1:=by rw [hSr,zO,hql]; rfl
       refine q1g (qaL (S:=Sp) (o:=191) (r:=5002) hn ω ω hJ (λi h6 hw=>?_) ?_ ?_ (.inl ω) (xs:=[(0,.pt 5000 0 0),(3,iv k),(13,iv n),(16,.ow 1001 (some 4) 0 n),(17,.ow 1002 none 0 n),(20,iv p),(23,iv 0)]) (kv:=[]) (bs:=[(1001,⟨46,some 4,rwP n P n,false⟩),(1002,⟨32,none,(rwG n V n).map λz:Nat=>uv z,false⟩)]) (kb:=[]) (by simp [nmW]) ?_) ?_
       .rw [<- eqT]
        by_cases h1:i=k+40000
        .subst h1; rw [q0H,q0H]
        by_cases h2:i=k+30000
        .subst h2; rw [q0A h1,q0H,q0A h1,q0H]
        rw [q0A h1,q0A h2,q0A h1,q0A h2,q0A ω,q0A ω,q0A ω,q0A ω,q0V hw];unfold q0o;rw [q0A ω,q0A ω]
       .try refine Zz ?_
        rw [hSr,zO]; rfl
       .try refine Zz ?_
        unfold rwB;rw [hSr,yL]; rfl
       .try refine Zz ?_
        repeat' (with_reducible apply And.intro)
        all_goals first | exact q0R rfl (q1l hP3) | exact q0R rfl clU | rfl | omega
       refine q0U (λx:Nat × LuS=>x.1<=n/\loS Sp k Z (ofZ (V p)) x.1=some x.2/\q4f x.2.l/\x.2.rows=Sp.rows) [0,3,13,16,17,20] [1001,1002] Lk Lk (λx=>[(23,iv x.1)]) (λ_=>[]) (λx=>q0o n x.2 5002) (λx=>n-x.1) (0,Sp) ⟨zG _,rfl,by rw [hSl]; exact ql,rfl⟩ ?_ ?_
       .refine LeW [] rfl rfl ?_ ?_ (by simp [q0y,q0n,win]) ?_
        .exact Ow
        .exact q1L (q02 hn Oq Oq)
        .try refine Zz ?_
         exact ⟨rfl,q0R rfl (q1l hP3)⟩
       .rintro ⟨i,t⟩ ⟨hi,ht,htl,htr⟩;simp only at hi ht htl htr ⊢;have htrl:t.rows.length=k+1:=by rw [htr]; exact hSrl
        by_cases hlt:i < n
        .have cP:=q4N (S:=t) (n:=n) (i:=i) Oq;have hts:loS Sp k Z (ofZ (V p)) (i+1)=if i ∈ Sp.rows then some t else if q0I (q4D 0 (Z i) (ofZ (V p))) then some { t with l:=q29 t.l i k (q4D 0 (Z i) (ofZ (V p))),iL:=q8c t.iL i k (decide (Z i≠0)) } else none:=by rw [loS,ht,tE]
         have N9:∀ b:Bool,Nz (bv b):=λb=>qa6
         by_cases hmem:i ∈ t.rows
         .rw [decide_eq_true hmem] at cP;have N2:=N9 true;rw [if_pos (htr ▸ hmem)] at hts;refine wk ?_;refine ⟨(i+1,t),⟨by simp only; omega,hts,htl,htr⟩,by simp only; omega,?_⟩;simp only;refine LeW [] rfl rfl ?_ ?_ (by simp [q0y,q0n,win]) ?_
          .exact Ow
          .exact q1L (q02 hn Oq Oq)
          .try refine Zz ?_
           exact ⟨rfl,q0R rfl (q1l hP3)⟩
         .rw [decide_eq_false hmem] at cP;have N2:=N9 false;rw [if_neg (htr ▸ hmem)] at hts;have hmq:i ∉ q.rows:=λh=>hmem (by rw [htr,hSr]; exact List.mem_append_left _ h);have hgs:(rwP n P n)[i]?=some (pV (Z i)):=by rw [qm0 hlt (zU _),hP1 i hmq]
          have ri:(List.range n)[i]?=some i:=zD hlt;have cO:=q28 (hvl p) (q0i (hfin p hpn));have cQ:=qc6 (qgy (A:=Z i) (B:=ofZ (V p)) (mode:=0));have hvl2:q4D 0 (Z i) (ofZ (V p)) < 18446744073709551616:=qdi;have cG:=qbA (V:=Z i);have cF:=q2F hvl2;have qz:((Z i).sign != 0)=decide (Z i≠0):=by
           by_cases h0:Z i=0
           .rw [h0]; rfl
           .rw [decide_eq_true h0]; simpa using h0
          generalize q4D 0 (Z i) (ofZ (V p))=v at *;have hget:((rU n t.l i).set k (uv (v:Nat)))[k]?=some (uv (v:Nat)):=yG (by simp; omega);have eq1:∀ b,q0P (q0P (q0o n t 5002) (i+10000) ⟨32,none,(rU n t.l i).set k (uv (v:Nat)),false⟩) (i+20000) ⟨4,none,(rB n t.iL i).set k (bv b),false⟩=q0o n { t with l:=q29 t.l i k v,iL:=q8c t.iL i k b } 5002:=λb=>by
           rw [qaM ω ω,q3R (i:=5002) ω,q3R (i:=5000) ω,stT_l hn hlt,qrT (S:={ t with l:=q29 t.l i k v }) hn hlt]
          by_cases hf:q0I v
          .rw [decide_eq_true hf] at cF;rw [if_pos hf] at hts;refine wk1 (x6 hgs hvp ri rk qz hget) ?_;refine ⟨(i+1,{ t with l:=q29 t.l i k v,iL:=q8c t.iL i k (decide (Z i≠0)) }),⟨by simp only; omega,hts,λx y=>?_,htr⟩,by simp only; omega,?_⟩
           .simp only [q29]
            split
            .exact ⟨hf,hvl2⟩
            .exact htl x y
           .simp only;refine LeW [] rfl rfl ?_ ?_ (by simp [q0y,q0n,win]) ?_
            .refine q9l (q5d (q5d q4k)) (eq1 _)
            .exact q1L (q02 hn Oq Oq)
            .try refine Zz ?_
             exact ⟨rfl,q0R rfl (q1l hP3)⟩
          .rw [decide_eq_false hf] at cF;rw [if_neg hf] at hts;rw [qaf hts n ω] at hres;cases hres;rw [hHe (by decide)];refine wk1 (x6 hgs hvp ri rk qz hget) ?_;refine (rtM (rs:=[.tmp 12]) rfl rfl Lq ?_ (.inl rfl));exact hbad _ _ _ _ (q9l (q5d (q5d q4k)) (eq1 _)) (q5M Oq Oq Oq Oq) rfl _
        .obtain rfl:n=i:=ω
         rw [ht] at hres;cases hres;rw [hH0 rfl];refine wk ?_;refine (rtM (rs:=[.tmp 12]) rfl rfl Lq ?_ (.inl rfl));exact LeF q4k (λi b hb=>((q02 hn Oq Oq).b i b hb).1) (q1L (q02 hn Oq Oq)) (.cl trivial)
end
end Go.Proofs.YtbjoghfmhgadkaaGreatDoor
namespace Go.E
open Go Go.RowKit
section
variable {J:Nat->Prop} {s:Nat->PV} {h hw hw':Hp} {T1 T2:TypeId} {K:Kd} {N R n:Nat}
mutual
def qpi {p q:Nat->Prop}:∀ x:PV,IdP p x->IdP q x->IdP (λi=>p i/\q i) x
 | .ow _ _ _ _,h1,h2=>by unfold IdP at *; exact ⟨h1,h2⟩
 | .pt _ _ _,h1,h2=>by unfold IdP at *; exact ⟨h1,h2⟩
 | .mp _,h1,h2=>by unfold IdP at *; exact ⟨h1,h2⟩
 | .ag l,h1,h2=>by unfold IdP at *; exact IdL_and l h1 h2
 | .tu l,h1,h2=>by unfold IdP at *; exact IdL_and l h1 h2
 | .un,_,_=>by unfold IdP; trivial
 | .vl _,_,_=>by unfold IdP; trivial
 | .fm _,_,_=>by unfold IdP; trivial
 | .sl _ _,_,_=>by unfold IdP; trivial
 | .qt _ _,_,_=>by unfold IdP; trivial
def IdL_and {p q:Nat->Prop}:∀ l:List PV,IdL p l->IdL q l->IdL (λi=>p i/\q i) l
 | [],_,_=>by unfold IdL; trivial
 | x :: l,h1,h2=>by unfold IdL at *; exact ⟨qpi x h1.1 h2.1,IdL_and l h1.2 h2.2⟩
end
def q6Z {τ:Nat->Option Nat} {h h':Hp} {row:Nat->List PV} (m:Nat->Nat) (h0:h N=some ⟨T1,none,(List.range n).map λj=>.ow (j+R) K 0 (m j),false⟩) (hr:∀ j,j < n->h (j+R)=some ⟨T2,K,row j,false⟩/\ClL (row j)/\(row j).length=m j) (ht:∀ i j,τ i=some j->j=N\/(R<=j/\j < R+n)->h' i=none):LeV τ h h' (.ow N none 0 n) (.sl none ((List.range n).map λj=>.sl K (row j))):=by
 have e:∀ {α:Type} {l:List α} {k:Nat},l.length=k->(l.drop 0).take k=l:=λ{α l k} hl=>by rw [List.drop_zero]; exact yO ω
 have e1:=e (l:=(List.range n).map λj=>PV.sl K (row j)) (k:=n) σ;rw [<- e1];refine .fzg h0 rfl rfl σ (λc x y hx hy=>?_) (λy hy=>?_) λi hi=>ht i N hi (.inl rfl)
 .have hc:c < n:=by have:=(zB.1 hy).1; simpa using this
  rw [zH,zD hc,zR] at hx hy;cases hx; cases hy;obtain ⟨q1,q2,q3⟩:=hr c hc;exact q5f q1 q2 (λi hi=>ht i _ hi (.inr ⟨ω,ω⟩)) (e q3)
 .obtain ⟨z,_,rfl⟩:=zQ.1 hy; trivial
def HId (q:Nat->Prop) (h:Hp):Prop:=∀ i b,h i=some b->IdL q b.xs
def qwx {q:Nat->Prop}:HId q h0:=λ_ _ h=>by cases h
def qcS {q:Nat->Prop} {row:Nat->List PV} {B:Hp} (hB:HId q B) (hrow:∀ j,j < n->ClL (row j)) (hq:∀ j,j < n->q (j+R)):HId q (q1X T1 T2 K N R n row B):=λi b hb=>by
 rcases q1E hb with ⟨rfl,rfl⟩ | ⟨h0,h1,h2,rfl⟩ | ⟨h1,h2,h3⟩
 .refine IdL.of λx hx=>?_;obtain ⟨z,hz,rfl⟩:=zQ.1 hx;unfold IdP;exact hq z (zY.1 hz)
 .exact IdL.of λx hx=>q9a (hrow (i-R) Oq x hx)
 .exact hB i b h3
def q4H [NL] {o r:Nat} {l:List PV} {xs kv:List (Nat × PV)} {bs:List (Nat × Bk)} {kb:List (Nat × Option Bk)} (hJ:∀ i,¬ J i) (hcl:ClL l) (f:Nat->Nat) (ho:h o=some ⟨T1,none,((List.range n).map λj=>.ow (j+R) K 0 (f j)) ++ [.ow r K 0 (f n)],false⟩) (hr:h r=some ⟨T2,K,l,false⟩)
  (hq:∀ i,win i->i≠N->h i=hw i) (e0:hw' N=some ⟨T1,none,(List.range (n+1)).map λj=>.ow (j+R) K 0 (f j),false⟩) (e1:hw' (n+R)=some ⟨T2,K,l,false⟩) (e2:∀ i,i≠N->i≠n+R->hw' i=hw i) (e3:∀ j,j < n->hw' (j+R)≠none) (hB:BOk hw win) (hI:HId (λj=>j≠N) hw) (hnr:hw (n+R)=none)
  (h5:o < 5000) (h6:r < 5000) (h7:o≠r) (hN:5000<=N) (hNR:N < R) (hR:R+n < 1000000) (hn:nmW o r (bs.map (·.1) ++ kb.map (·.1)))
  (hh:q4l (tp N (n+R) o r) h (q0u hw' (hpM bs kb)) s xs/\q4l (tp N (n+R) o r) h (q0u hw' (hpM bs kb)) s kv/\qcR (tp N (n+R) o r) h (q0u hw' (hpM bs kb)) bs/\q8d (tp N (n+R) o r) h (q0u hw' (hpM bs kb)) kb):Le J s h (stM xs kv) (q0u hw' (hpM bs kb)):=by
 have tN:tp N (n+R) o r N=some o:=if_pos rfl;have tK:tp N (n+R) o r (n+R)=some r:=by unfold tp; rw [if_neg ω,if_pos rfl]
 have tI:∀ i,i≠N->i≠n+R->tp N (n+R) o r i=some i:=λi a b=>by unfold tp; rw [if_neg a,if_neg b]
 have hl:=λi hi=>q4P hn i hi;have hex:∀ i,win i->hw' i≠none->∃ b,q0u hw' (hpM bs kb) i=some b:=λi hi hb=>by
  rw [q0V hi]; exact zI.1 hb
 refine LeT (tp N (n+R) o r) (λi q=>(hJ i q).elim) (λi hi hw=>?_) (λi b hw1 hb=>?_) (λi j k' hi hj ti tj=>?_) hh
 .have:=(hl i hi).1; unfold win at hw; omega
 .by_cases i1:i=N
  .subst i1;rw [e0] at hb; cases hb;unfold LeB;rw [tN];refine ⟨_,ho,rfl,rfl,⟨rfl,rfl⟩,σ,λc u v hx hy=>?_⟩;have hc:c < n+1:=by have:=(zB.1 hy).1; simpa using this
   rw [zH,zD hc,zR] at hy;cases hy
   by_cases hck:c=n
   .subst hck;rw [zV σ] at hx;simp at hx;subst hx;obtain ⟨b,hbb⟩:=hex (c+R) ⟨ω,ω⟩ (by rw [e1]; exact tD _);exact .ow tK hbb
   .rw [zL (by simp; omega),zH,zD ω,zR] at hx;cases hx;obtain ⟨b,hbb⟩:=hex (c+R) ⟨ω,ω⟩ (e3 c Oq);exact .ow (tI _ Oq Oq) hbb
  .by_cases i2:i=n+R
   .subst i2;rw [e1] at hb; cases hb;unfold LeB;rw [tK];exact ⟨_,hr,rfl,rfl,⟨rfl,rfl⟩,q0R rfl hcl⟩
   .rw [e2 i i1 i2] at hb;obtain ⟨q1,q2,q3⟩:=hB.b i b hb;unfold LeB;rw [tI i i1 i2];refine ⟨b,(hq i hw1 i1).trans hb,rfl,rfl,⟨q2,q2⟩,LeL_self (λj hj=>?_) _ (IdL_and _ q3 (hI i b hb))⟩;obtain ⟨hj,hjN⟩:=hj;obtain ⟨c,hc⟩:=zI.1 hj;have hjR:j≠n+R:=by rintro rfl; exact hj hnr
    exact ⟨tI j hjN hjR,hex j (hB.b j c hc).1 (by rw [e2 j hjN hjR]; exact hj)⟩
 .have a:∀ i,(win i/\hw' i≠none\/i ∈ bs.map (·.1) ++ kb.map (·.1))->i≠r/\i≠o/\(i < 5000->i≠N/\i≠n+R):=λi hi=>by
   rcases hi with ⟨q,hi⟩ | hi
   .unfold win at q; omega
   .have:=hl i hi; omega
  have a1:=a i hi;have a2:=a j hj;unfold tp at ti tj
  split at ti <;> (try split at ti) <;> split at tj <;> (try split at tj) <;> cases ti <;> cases tj <;> first | omega | rfl | (exfalso; omega)
end
end Go.E
namespace Go.Proofs.YtbjoghfmhgadkaaGreatDoor
open Go Go.E Go.Sp
def fLt (S:LuS) (j i:Nat):Option Nat:=if j < i/\S.iL (S.rows.getD i 0) j=true then some (S.l (S.rows.getD i 0) j) else none
def fUt (S:LuS) (j i:Nat):Option Nat:=if i<=j/\S.iU i j=true then some (S.u i j) else none
def q8a (S:LuS) (cols:List Int) (n:Nat):LUt:=⟨S.rows.map λz:Nat=>(z:Int),cols,(tM (fLt S) n n).1,(tM (fLt S) n n).2.1,(tM (fLt S) n n).2.2,(tM (fUt S) n n).1,(tM (fUt S) n n).2.1,(tM (fUt S) n n).2.2⟩
section
variable {S:LuS} {n:Nat} {cols:List Int}
def qdE {F:Nat->Nat->Option Nat} {j:Nat} {p:List Int × List Nat}:∀ i,(∀ c,c < i->F j c=none)->tC F j p i=p
 | 0,_=>rfl
 | i+1,h=>by rw [q7a (h i ω),qdE i λc hc=>h c ω]
def qdD {F:Nat->Nat->Option Nat} {j:Nat} {p:List Int × List Nat} {a:Nat} (h:∀ c,a<=c->F j c=none):∀ i,a<=i->tC F j p i=tC F j p a
 | 0,hi=>by
  obtain rfl:a=0:=ω
  rfl
 | i+1,hi=>by
  by_cases e:a=i+1
  .subst e; rfl
  .rw [q7a (h i ω),qdD h i ω]
def qcF (hn:n<=100) (hc:cols.length=n) (hr:S.rows.length=n) (hrl:∀ x ∈ S.rows,x < n):ACt 92 [pSt n S,pI cols] (pLU (q8a S cols n)):=by
 have hnn:n*n<=100*100:=u7 hn hn;have hLl:=λk=>q0w (f:=fLt S) (R:=n) k;have hUl:=λk=>q0w (f:=fUt S) (R:=n) k;have hL1:∀ k,(tM (fLt S) n (k+1)).1=(tM (fLt S) n k).1 ++ [((tC (fLt S) k (tM (fLt S) n k).2 n).1.length:Int)]:=λk=>rfl;have hL2:∀ k,(tM (fLt S) n (k+1)).2=tC (fLt S) k (tM (fLt S) n k).2 n:=λk=>rfl;have hU1:∀ k,(tM (fUt S) n (k+1)).1=(tM (fUt S) n k).1 ++ [((tC (fUt S) k (tM (fUt S) n k).2 n).1.length:Int)]:=λk=>rfl;have hU2:∀ k,(tM (fUt S) n (k+1)).2=tC (fUt S) k (tM (fUt S) n k).2 n:=λk=>rfl;have hL0:tM (fLt S) n 0=([0],[],[]):=rfl;have hU0:tM (fUt S) n 0=([0],[],[]):=rfl;unfold q8a pLU;dsimp only;have hcm:(S.rows.map λz:Nat=>iv z)=(S.rows.map λz:Nat=>(z:Int)).map λz=>iv z:=by rw [List.map_map]; rfl
 have hrl2:(S.rows.map λz:Nat=>(z:Int)).length=n:=by rw [z9,hr]
 generalize hro:(S.rows.map λz:Nat=>(z:Int))=ro at *;refine ac0 Tryz.func92 Tryz.ntmps92 [.cell 4 63] ?_;refine wk1 (x2 hr hc) ?_;refine q0B (λk=>k<=n) [2,4,5,6] [2,4] Lk Lk (λk:Nat=>[(7,iv k)]) (λk=>[(6,⟨63,some 8,[.ag [.ow 1001 none 0 n,.ow 1002 none 0 n,.ow 1003 none 0 (tM (fLt S) n k).1.length,.ow 1004 none 0 (tM (fLt S) n k).2.1.length,.ow 1005 none 0 (tM (fLt S) n k).2.2.length,.ow 1006 none 0 (tM (fUt S) n k).1.length,.ow 1007 none 0 (tM (fUt S) n k).2.1.length,.ow 1008 none 0 (tM (fUt S) n k).2.2.length]],false⟩),(1001,⟨3,none,ro.map λz=>iv z,false⟩),(1002,⟨3,none,cols.map λz=>iv z,false⟩),(1003,⟨3,none,(tM (fLt S) n k).1.map λz=>iv z,false⟩),(1004,⟨3,none,(tM (fLt S) n k).2.1.map λz=>iv z,false⟩),(1005,⟨32,none,(tM (fLt S) n k).2.2.map λz:Nat=>uv z,false⟩),(1006,⟨3,none,(tM (fUt S) n k).1.map λz=>iv z,false⟩),(1007,⟨3,none,(tM (fUt S) n k).2.1.map λz=>iv z,false⟩),(1008,⟨32,none,(tM (fUt S) n k).2.2.map λz:Nat=>uv z,false⟩)]) (λk=>n-k) 0 (zG _) ?_ ?_
 .refine LeM [(1001,some 15),(1002,some 18),(1003,some 19),(1004,none),(1005,none),(1006,some 20),(1007,none),(1008,none)] rfl rfl ?_;refine Zz ?_
  repeat' (with_reducible apply And.intro)
  all_goals first | rfl | exact q0R hcm clI | exact q0R rfl clI
 .intro k hk;have hkn:k*n<=100*100:=u7 Oq hn;have hLk:=hLl k;have hUk:=hUl k
  by_cases hlt:k < n
  .have hL1k:=hL1 k;have hL2k:=hL2 k;have hU1k:=hU1 k;have hU2k:=hU2 k;have rk:(List.range n)[k]?=some k:=zD hlt;generalize (tM (fLt S) n k).1=ls at *;generalize (tM (fLt S) n k).2=lp at *;generalize (tM (fUt S) n k).1=us at *;generalize (tM (fUt S) n k).2=up at *;have hskip:tC (fLt S) k lp (k+1)=lp:=qdE (k+1) λc hc=>if_neg λh=>by omega
   have hstop:tC (fUt S) k up n=tC (fUt S) k up (k+1):=qdD (a:=k+1) (λc hc=>if_neg λh=>by omega) n Oq;refine wk ?_;refine q0B (λp=>k+1<=p/\p<=n) [2,4,5,6,7] [2,4,1001,1002,1003,1006,1007,1008] Lk Lk (λp:Nat=>[(8,iv p)]) (λp=>[(6,⟨63,some 8,[.ag [.ow 1001 none 0 n,.ow 1002 none 0 n,.ow 1003 none 0 ls.length,.ow 1004 none 0 (tC (fLt S) k lp p).1.length,.ow 1005 none 0 (tC (fLt S) k lp p).2.length,.ow 1006 none 0 us.length,.ow 1007 none 0 up.1.length,.ow 1008 none 0 up.2.length]],false⟩),(1004,⟨3,none,(tC (fLt S) k lp p).1.map λz=>iv z,false⟩),(1005,⟨32,none,(tC (fLt S) k lp p).2.map λz:Nat=>uv z,false⟩)]) (λp=>n-p) (k+1) ⟨zU _,hlt⟩ ?_ ?_
   .rw [hskip];refine LeM [] rfl rfl ?_;refine Zz ?_
    rfl
   .rintro p ⟨hp1,hp2⟩;have hq:=q7b (f:=fLt S) (j:=k) hLk.2.1 p
    by_cases hpl:p < n
    .obtain ⟨r,hrp⟩:∃ r,S.rows[p]?=some r:=⟨_,zA Oq⟩;have hrn:=hrl r (zE hrp);have rr:(List.range n)[r]?=some r:=zD hrn;have hgr:S.rows.getD p 0=r:=getD_some hrp;cases qb:S.iL r k with
     | true =>
      have hF:fLt S k p=some (S.l r k):=by unfold fLt; rw [hgr,if_pos ⟨ω,qb⟩]
      have eg:=q8q (p:=lp) hF;refine wk1 (x4 hrp rr rk qb) ?_;refine ⟨p+1,⟨ω,ω⟩,ω,?_⟩;rw [eg];refine LeM [(1004,some 50),(1005,some 67)] rfl rfl ?_;refine Zz ?_
      rfl
     | false =>
      have hF:fLt S k p=none:=by unfold fLt; rw [hgr,if_neg λh=>by rw [qb] at h; cases h.2]
      have eg:=q7a (p:=lp) hF;refine wk1 (x4 hrp rr rk qb) ?_;refine ⟨p+1,⟨ω,ω⟩,ω,?_⟩;rw [eg];refine LeM [] rfl rfl ?_;refine Zz ?_
      rfl
    .obtain rfl:n=p:=ω
     clear hskip hq;refine wk ?_;refine q0B (λm=>m<=k+1) [2,4,5,6,7] [2,4,1001,1002,1003,1004,1005,1006] Lk Lk (λm:Nat=>[(9,iv m)]) (λm=>[(6,⟨63,some 8,[.ag [.ow 1001 none 0 n,.ow 1002 none 0 n,.ow 1003 none 0 ls.length,.ow 1004 none 0 (tC (fLt S) k lp n).1.length,.ow 1005 none 0 (tC (fLt S) k lp n).2.length,.ow 1006 none 0 us.length,.ow 1007 none 0 (tC (fUt S) k up m).1.length,.ow 1008 none 0 (tC (fUt S) k up m).2.length]],false⟩),(1007,⟨3,none,(tC (fUt S) k up m).1.map λz=>iv z,false⟩),(1008,⟨32,none,(tC (fUt S) k up m).2.map λz:Nat=>uv z,false⟩)]) (λm=>k+1-m) 0 (zG _) ?_ ?_
     .refine LeM [] rfl rfl ?_;refine Zz ?_;exact ⟨rfl,⟨rfl,rfl⟩,rfl,rfl⟩
     .intro m hm;have hq:=q7b (f:=fUt S) (j:=k) hUk.2.1 m
      by_cases hml:m < k+1
      .have hml':(m:Int)<=k:=ω
       have rm:(List.range n)[m]?=some m:=zD Oq;cases qb:S.iU m k with
       | true =>
        have hF:fUt S k m=some (S.u m k):=if_pos ⟨ω,qb⟩;have eg:=q8q (p:=up) hF;refine wk1 (x4 hml' rm rk qb) ?_;refine ⟨m+1,ω,ω,?_⟩;rw [eg];refine LeM [(1007,some 86),(1008,some 99)] rfl rfl ?_;refine Zz ?_
        rfl
       | false =>
        have hF:fUt S k m=none:=if_neg λh=>by rw [qb] at h; cases h.2
        have eg:=q7a (p:=up) hF;refine wk1 (x4 hml' rm rk qb) ?_;refine ⟨m+1,ω,ω,?_⟩;rw [eg];refine LeM [] rfl rfl ?_;refine Zz ?_
        rfl
      .obtain rfl:m=k+1:=ω
       have hml':¬ ((k+1:Nat):Int)<=k:=ω
       refine wk1 hml' ?_;refine ⟨k+1,ω,ω,?_⟩;rw [hL1k,hL2k,hU1k,hU2k,hstop];refine LeM [(1003,some 107),(1006,some 115)] rfl rfl ?_;refine Zz ?_
       rfl
  .obtain rfl:n=k:=ω
   exact wk trivial
end
end Go.Proofs.YtbjoghfmhgadkaaGreatDoor
namespace Go.E
open Go Go.RowKit
section
variable {T1 T2:TypeId} {K:Kd} {N R n:Nat} {row:Nat->List PV} {B B':Hp}
def q2L {i:Nat} (h1:i≠N) (h2:i≠n+R):q1X T1 T2 K N R (n+1) row B i=q1X T1 T2 K N R n row B i:=by
 unfold q1X;rw [if_neg h1,if_neg h1]
 by_cases h:R<=i/\i < R+n
 .rw [if_pos h,if_pos ω]
 .rw [if_neg h,if_neg ω]
def q1j {i:Nat} (h:B i=B' i):q1X T1 T2 K N R n row B i=q1X T1 T2 K N R n row B' i:=by
 unfold q1X; rw [h]
def q61 {j:Nat} (hj:j < n):q1X T1 T2 K N R n row B (j+R)≠none:=by
 unfold q1X
 split
 .exact tD _
 .rw [if_pos ω]; exact tD _
end
end Go.E
namespace Go.Proofs.YtbjoghfmhgadkaaGreatDoor
open Go Go.E Go.Sp
section
open Classical
def qc0:LuS:=⟨[],λ_ _=>0,λ_ _=>false,λ_ _=>0,λ_ _=>false⟩
variable (F:Nat->Nat->Option Nat) (mi:List Int) (n:Nat) (cols:List Int) (num den:Nat)
noncomputable def q1C:Nat->Int × Nat × LuS
 | 0=>(0,0,qc0)
 | k+1=>if (q1C k).1=0 then ((q1r F mi n (q1C k).2.2 (lfN cols k) k num den).1,if (q1r F mi n (q1C k).2.2 (lfN cols k) k num den).1=9 then k else 0,(q1r F mi n (q1C k).2.2 (lfN cols k) k num den).2) else q1C k
noncomputable def qcA:LUt:=if (q1C F mi n cols num den n).1=0 then q8a (q1C F mi n cols num den n).2.2 cols n else ⟨[],[],[],[],[],[],[],[]⟩
noncomputable def facP:PV:=.tu [pLU (qcA F mi n cols num den),iv (if (q1C F mi n cols num den n).1=0 then n else (q1C F mi n cols num den n).2.1:Nat),iv (q1C F mi n cols num den n).1]
end
section
variable {F:Nat->Nat->Option Nat} {mi:List Int} {n:Nat} {cols:List Int} {num den:Nat} {S r:LuS} {j k:Nat}
def q6u {g:Nat->Nat->Nat} {r c v:Nat} (h:q4f g) (h1:q0I v) (h2:v < 18446744073709551616):q4f (q29 g r c v):=λx y=>by
 unfold q29
 split
 .exact ⟨h1,h2⟩
 .exact h x y
def qjS:∀ (m:Nat) (q:LuS),q4f S.l->q4f S.u->upS F S j k m=some q->q4f q.l/\q4f q.u/\q.rows=S.rows
 | 0,q,h1,h2,h=>by unfold upS at h; cases h; exact ⟨h1,h2,rfl⟩
 | m+1,q,h1,h2,h=>by
  unfold upS at h;obtain ⟨t,ht,h⟩:=y7.1 h;obtain ⟨q1,q2,q3⟩:=qjS m t h1 h2 ht
  split at h
  .cases h; exact ⟨q1,q6u q2 (by assumption) q51,q3⟩
  .cases h
def qkW {z:Nat->Int} {d:Int}:∀ (m:Nat) (q:LuS),q4f S.l->loS S k z d m=some q->q4f q.l/\q.u=S.u/\q.rows=S.rows
 | 0,q,h1,h=>by unfold loS at h; cases h; exact ⟨h1,rfl,rfl⟩
 | m+1,q,h1,h=>by
  unfold loS at h;obtain ⟨t,ht,h⟩:=y7.1 h;obtain ⟨q1,q2,q3⟩:=qkW m t h1 ht
  split at h
  .cases h; exact ⟨q1,q2,q3⟩
  .split at h
   .cases h; exact ⟨q6u q1 (by assumption) qdi,q2,q3⟩
   .cases h
structure LuG (n k:Nat) (S:LuS):Prop where
 l:q4f S.l
 u:q4f S.u
 r:∀ x ∈ S.rows,x < n
 len:S.rows.length=k
def qoX (h:LuG n k S) (he:q1r F mi n S j k num den=(0,r)):LuG n (k+1) r:=by
 unfold q1r at he
 split at he
 .cases he
 .rename_i q hq;obtain ⟨q1,q2,q3⟩:=qjS k q h.l h.u hq;unfold qif at he
  split at he
  .rename_i hfin
   split at he
   .cases he
   .rename_i hneg
    split at he
    .cases he
    .rename_i t ht;obtain ⟨p,hp⟩:∃ p,p=(bsP (rsV F q j k) q mi num den (mxZ (rsV F q j k) n) n).toNat:=⟨_,rfl⟩;have hpn:p < n:=by have:=(qfd (v:=rsV F q j k) (S:=q) (mi:=mi) (num:=num) (den:=den) (w:=mxZ (rsV F q j k) n) n).2; omega
     rw [<- hp] at ht;have hvl:rsV F q j k p < 18446744073709551616:=by
      unfold rsV
      split
      .omega
      .exact q51
     obtain ⟨t1,t2,t3⟩:=qkW (S:=pvS q k (rsV F q j k) p) n t q1 ht;cases he;refine ⟨t1,?_,?_,?_⟩
     .rw [t2]; exact q6u q2 (hfin p hpn) hvl
     .rw [t3];intro x hx
      rcases zN.1 hx with hx | hx
      .exact h.r x (by rw [<- q3]; exact hx)
      .simp at hx; subst hx; exact hpn
     .rw [t3]
      show (q.rows ++ [p]).length=k+1
      rw [zO,q3,h.len]; rfl
  .cases he
def q2m:∀ k,(q1C F mi n cols num den k).1=0->LuG n k (q1C F mi n cols num den k).2.2
 | 0,_=>⟨λ_ _=>⟨by unfold q0I; simp [q1C,qc0],by simp [q1C,qc0]⟩,λ_ _=>⟨by unfold q0I; simp [q1C,qc0],by simp [q1C,qc0]⟩,λx hx=>by simp [q1C,qc0] at hx,rfl⟩
 | k+1,h=>by
  unfold q1C at h ⊢
  split at h
  .rename_i h0;rw [if_pos h0];have ih:=q2m k h0;exact qoX ih (Prod.ext h rfl)
  .rename_i h0; exact absurd h h0
def qas {k:Nat} (h:(q1C F mi n cols num den k).1≠0):∀ k',k<=k'->q1C F mi n cols num den k'=q1C F mi n cols num den k
 | 0,hk=>by
  obtain rfl:k=0:=ω
  rfl
 | k'+1,hk=>by
  by_cases e:k=k'+1
  .subst e; rfl
  .have ih:=qas h k' Oq;rw [q1C,ih,if_neg h]
def qu6:(q1r F mi n S j k num den).1=0\/(q1r F mi n S j k num den).1=233\/(q1r F mi n S j k num den).1=9:=by
 unfold q1r
 split
 .exact .inr (.inl rfl)
 .unfold qif
  split
  .split
   .exact .inr (.inr rfl)
   .split
    .exact .inr (.inl rfl)
    .exact .inl rfl
  .exact .inr (.inl rfl)
def q2Z (n a b c d:Nat):Hp:=q1X 24 32 none 6000 10000 a (rU n λ_ _=>0) (q1X 134 4 none 6001 20000 b (rB n λ_ _=>false) (q1X 24 32 none 6002 30000 c (rU n λ_ _=>0) (q1X 134 4 none 6003 40000 d (rB n λ_ _=>false) h0)))
def qrQ:q2Z n n n n n=stT n qc0:=rfl
variable {a b c d:Nat}
def q4J (ha:a<=100) (hb:b<=100) (hc:c<=100) (hd:d<=100):BOk (q2Z n a b c d) win:=by
 unfold q2Z;have w:∀ R j m:Nat,5000<=R->R<=40000->m<=100->j < m->win (j+R):=λR j m h1 h2 h3 h4=>⟨ω,ω⟩;exact q1i (q1i (q1i (q1i BOk.h0 (λ_ _=>qc3) Oq ⟨⟨ω,ω⟩,λj hj=>w _ j _ Oq Oq hd hj⟩) (λ_ _=>q6N) Oq ⟨⟨ω,ω⟩,λj hj=>w _ j _ Oq Oq hc hj⟩) (λ_ _=>qc3) Oq ⟨⟨ω,ω⟩,λj hj=>w _ j _ Oq Oq hb hj⟩) (λ_ _=>q6N) Oq ⟨⟨ω,ω⟩,λj hj=>w _ j _ Oq Oq ha hj⟩
def q66 {q:Nat->Prop} (hq:∀ i,10000<=i->q i):HId q (q2Z n a b c d):=by
 unfold q2Z;exact qcS (qcS (qcS (qcS qwx (λ_ _=>qc3) λj _=>hq _ Oq) (λ_ _=>q6N) λj _=>hq _ Oq) (λ_ _=>qc3) λj _=>hq _ Oq) (λ_ _=>q6N) λj _=>hq _ Oq
def qmE {i:Nat} (hi:i < 6000):q2Z n a b c d i=none:=by
 unfold q2Z;rw [q0M ω ω,q0M ω ω,q0M ω ω,q0M ω ω]
 rfl
def qdO (ha:a<=100) (hb:b<=100) (hc:c<=100):q2Z n a b c d 6000=some ⟨24,none,(List.range a).map λj=>.ow (j+10000) none 0 n,false⟩:=by
 unfold q2Z; rw [q1k]; simp
def qdN (ha:a<=100) (hb:b<=100) (hc:c<=100):q2Z n a b c d 6001=some ⟨134,none,(List.range b).map λj=>.ow (j+20000) none 0 n,false⟩:=by
 unfold q2Z; rw [q0M ω ω,q1k]; simp
def qdM (ha:a<=100) (hb:b<=100) (hc:c<=100):q2Z n a b c d 6002=some ⟨24,none,(List.range c).map λj=>.ow (j+30000) none 0 n,false⟩:=by
 unfold q2Z; rw [q0M ω ω,q0M ω ω,q1k]; simp
def qdL (ha:a<=100) (hb:b<=100) (hc:c<=100):q2Z n a b c d 6003=some ⟨134,none,(List.range d).map λj=>.ow (j+40000) none 0 n,false⟩:=by
 unfold q2Z; rw [q0M ω ω,q0M ω ω,q0M ω ω,q1k]; simp
def qgx {j:Nat}:List.replicate n (PV.vl (.int .u64 0))=rU n (λ_ _=>0) j:=by
 unfold rU;rw [yV,z6]; rfl
def qsJ {j:Nat}:List.replicate n (PV.vl (.bool false))=rB n (λ_ _=>false) j:=by
 unfold rB;rw [yV,z6]
def tnS (o i:Nat):Option Nat:=if i=5000 then some o else if i=5001 then none else some i
def qqn {o i:Nat} (h:i < 5000):tnS o i=some i:=by unfold tnS; rw [if_neg ω,if_neg ω]
def q5t {o i:Nat} (h:6000<=i):tnS o i=some i:=by unfold tnS; rw [if_neg ω,if_neg ω]
def qqo {o:Nat}:tnS o 5000=some o:=rfl
def qlp {o:Nat}:tnS o 5001=none:=rfl
attribute [go_sem ↓] qqn qqo qlp
def qgg {J:Nat->Prop} {s:Nat->PV} {h:Hp} {xs kv:List (Nat × PV)} {bs:List (Nat × Bk)} {kb:List (Nat × Option Bk)} {o:Nat} (hn:n<=100) (hS:S.rows=[]) (hJ:∀ i,¬ J i) (hq:∀ i,6000<=i->win i->h i=stT n S i) (h0:h o=some ⟨133,some 5,[.ag [q05,.ow 6000 none 0 n,.ow 6001 none 0 n,.ow 6002 none 0 n,.ow 6003 none 0 n]],false⟩) (ho:o < 5000) (hl:nmW o o (bs.map (·.1) ++ kb.map (·.1)))
  (hh:q4l (tnS o) h (q0u (q0o n S 5001) (hpM bs kb)) s xs/\q4l (tnS o) h (q0u (q0o n S 5001) (hpM bs kb)) s kv/\qcR (tnS o) h (q0u (q0o n S 5001) (hpM bs kb)) bs/\q8d (tnS o) h (q0u (q0o n S 5001) (hpM bs kb)) kb):Le J s h (stM xs kv) (q0u (q0o n S 5001) (hpM bs kb)):=by
 have hl:=λi hi=>q4P hl i hi;have hex:∀ i,win i->∀ b,q0o n S 5001 i=some b->∃ b,q0u (q0o n S 5001) (hpM bs kb) i=some b:=λi hi b hb=>⟨b,by rw [q0V hi]; exact hb⟩;refine LeT (tnS o) (λi q=>(hJ i q).elim) (λi hi hw=>?_) (λi b hw hb=>?_) (λi j k' hi hj ti tj=>?_) hh
 .have:=(hl i hi).1; unfold win at hw; omega
 .have hb2:=hb;unfold q0o q0P at hb
  split at hb
  .rename_i e; subst e; cases hb;unfold LeB;rw [qlp,hS]
   rfl
  .rename_i e
   split at hb
   .rename_i e2; subst e2; cases hb;unfold LeB;rw [qqo];refine ⟨_,h0,rfl,rfl,⟨rfl,rfl⟩,?_⟩;unfold q2h;simp only;rw [q9q];obtain ⟨q1,q2,q3,q4⟩:=qmJ (S:=S) hn;have hx:∀ i,6000<=i->win i->stT n S i≠none->∃ b,q0u (q0o n S 5001) (hpM bs kb) i=some b:=λi hi hw hq=>by
     obtain ⟨b,hb⟩:=zI.1 hq;exact hex i hw b (by unfold q0o; rw [q0A ω,q0A ω]; exact hb)
    rw [qgB,q2r,q2r,q2r,q2r,q2r,qlN,q3J,q3J,q3J,q3J,qlp,q5t ω,q5t ω,q5t ω,q5t ω,hS];exact ⟨⟨rfl,⟨_,by rw [q0V ⟨ω,ω⟩]; exact q0H,rfl⟩,rfl,rfl⟩,⟨rfl,hx _ ω ⟨ω,ω⟩ q1,rfl,rfl,rfl⟩,⟨rfl,hx _ ω ⟨ω,ω⟩ q2,rfl,rfl,rfl⟩,⟨rfl,hx _ ω ⟨ω,ω⟩ q3,rfl,rfl,rfl⟩,⟨rfl,hx _ ω ⟨ω,ω⟩ q4,rfl,rfl,rfl⟩,trivial⟩
   .obtain ⟨q1,q2,q3⟩:=(q7d hn).b i b hb;have hi6:=qaK hb;unfold LeB;rw [q5t hi6];refine ⟨b,(hq i hi6 hw).trans hb,rfl,rfl,⟨q2,q2⟩,LeL_self (λj hj=>?_) _ q3⟩;obtain ⟨c,hc⟩:=zI.1 hj;have hj6:=qaK hc;exact ⟨q5t hj6,hex j ((q7d hn).b j c hc).1 c (by unfold q0o; rw [q0A ω,q0A ω]; exact hc)⟩
 .have a:∀ i,(win i/\q0o n S 5001 i≠none\/i ∈ bs.map (·.1) ++ kb.map (·.1))->i≠o:=λi hi=>by
   rcases hi with ⟨q,hi⟩ | hi
   .unfold win at q; omega
   .exact (hl i hi).2.1
  have a1:=a i hi;have a2:=a j hj;unfold tnS at ti tj
  split at ti <;> (try split at ti) <;> split at tj <;> (try split at tj) <;> cases ti <;> cases tj <;> first | omega | rfl | exact (a1 rfl).elim | exact (a2 rfl).elim
def qmL {τ:Nat->Option Nat} {h h':Hp} (hn:n<=100) (hq:Wn h (q0o n S 5001)) (ht:∀ i j,τ i=some j->5000 < j->win j->h' i=none):LeV τ h h' (.ow 5001 none 0 S.rows.length) (pRw S.rows)/\LeV τ h h' (.ow 6000 none 0 n) (tU n S.l)/\LeV τ h h' (.ow 6001 none 0 n) (tB n S.iL)/\LeV τ h h' (.ow 6002 none 0 n) (tU n S.u)/\LeV τ h h' (.ow 6003 none 0 n) (tB n S.iU):=by
 have hT:∀ i,6000<=i->win i->h i=stT n S i:=λi h1 h2=>by
  rw [hq i h2];unfold q0o;rw [q0A ω,q0A ω]
 have w:∀ R j:Nat,5000<=R->R<=40000->j < n->win (j+R):=λR j h1 h2 h3=>⟨ω,ω⟩;refine ⟨q5f (T:=3) (l:=S.rows.map λz:Nat=>iv z) ((hq 5001 ⟨ω,ω⟩).trans q0H) clRw (λi hi=>ht i _ hi ω ⟨ω,ω⟩) (by rw [List.drop_zero]; exact yO σ),?_,?_,?_,?_⟩
 .exact q6Z (λ_=>n) ((hT _ ω ⟨ω,ω⟩).trans (qjh hn)) (λj hj=>⟨(hT _ ω (w _ j ω ω hj)).trans (qjd hn hj),q6N,σ⟩) λi j hi hj=>ht i j hi ω ⟨ω,ω⟩
 .exact q6Z (λ_=>n) ((hT _ ω ⟨ω,ω⟩).trans (qjg hn)) (λj hj=>⟨(hT _ ω (w _ j ω ω hj)).trans (qjc hn hj),qc3,σ⟩) λi j hi hj=>ht i j hi ω ⟨ω,ω⟩
 .exact q6Z (λ_=>n) ((hT _ ω ⟨ω,ω⟩).trans (qjf hn)) (λj hj=>⟨(hT _ ω (w _ j ω ω hj)).trans (qjb hn hj),q6N,σ⟩) λi j hi hj=>ht i j hi ω ⟨ω,ω⟩
 .exact q6Z (λ_=>n) ((hT _ ω ⟨ω,ω⟩).trans (qje hn)) (λj hj=>⟨(hT _ ω (w _ j ω ω hj)).trans (qja hn hj),qc3,σ⟩) λi j hi hj=>ht i j hi ω ⟨ω,ω⟩
def tnW (i:Nat):Option Nat:=if 5000<=i/\i < 1000000 then none else some i
def qql {i:Nat} (h:i < 5000):tnW i=some i:=if_neg Oq
def qcp {i:Nat} (h1:5000<=i) (h2:i < 1000000):tnW i=none:=if_pos ⟨h1,h2⟩
attribute [go_sem ↓] qql qcp
def qmD {i:Nat} {x:Bk} (hb:q2Z n 0 0 0 0 i=some x):x.xs=[]:=by
 unfold q2Z at hb
 rcases q1E hb with ⟨rfl,rfl⟩ | ⟨_,h1,h2,_⟩ | ⟨_,_,hb⟩
 .rfl
 .omega
 rcases q1E hb with ⟨rfl,rfl⟩ | ⟨_,h1,h2,_⟩ | ⟨_,_,hb⟩
 .rfl
 .omega
 rcases q1E hb with ⟨rfl,rfl⟩ | ⟨_,h1,h2,_⟩ | ⟨_,_,hb⟩
 .rfl
 .omega
 rcases q1E hb with ⟨rfl,rfl⟩ | ⟨_,h1,h2,_⟩ | ⟨_,_,hb⟩
 .rfl
 .omega
 .cases hb
def qn4 {H:Hp}:WfH (q7V H):=⟨λi b hb=>by
 unfold q7V at hb;obtain ⟨c,_,rfl⟩:=yF.1 hb;exact ⟨rfl,IdL.of λx hx=>by
  obtain ⟨_,_,rfl⟩:=zQ.1 hx;unfold IdP; trivial⟩⟩
attribute [go_sem ↓] qmE qdO qdN qdM qdL
end
section
variable {F:Nat->Nat->Option Nat} {n:Nat} {cols:List Int} {num den:Nat}
def qhP (h:TOk F n n) (hn:n<=100) (hp:q2q cols n) (hnd:num<=den) (hd1:1<=den) (hd:den<=1000):ACt 28 [pT n n F,pI cols,iv num,iv den] (facP F (tM F n n).2.1 n cols num den):=by
 have hll:cols.length=n:=by have:=hp.1; omega
 have hlf:∀ i,i < n->∃ x:Nat,cols[i]?=some (x:Int)/\lfN cols i=x/\x < n:=λi hi=>by
  obtain ⟨x,hx⟩:∃ x,cols[i]?=some x:=⟨_,zA Oq⟩;have:=hp.2.1 x (zE hx);obtain ⟨y,rfl⟩:∃ y:Nat,x=y:=⟨x.toNat,ω⟩;exact ⟨y,hx,qeS hx,ω⟩
 have cS:=qba h hp;have cC:=λ{S:LuS} {k j:Nat} (h1:LuG n k S) (h2:k < n) (h3:j < n)=>qid (F:=F) (S:=S) (num:=num) (den:=den) h hn h1.l h1.u h1.r h1.len h2 h3 Oq hd;have hC:=Hid.mk @cC;clear cC;have hpl:pT n n F=q2w n n (tM F n n).1 (tM F n n).2.1 (tM F n n).2.2:=rfl;rw [hpl] at cS ⊢;simp only [hpl] at hC;clear hpl;unfold q2w at cS hC ⊢;generalize (tM F n n).1=ms at *;generalize (tM F n n).2.1=mi at *;generalize (tM F n n).2.2=mv at *;have hG:=λk=>q2m (F:=F) (mi:=mi) (n:=n) (cols:=cols) (num:=num) (den:=den) k;have hE:=λk=>@qas F mi n cols num den k;have hs:=λk=>show q1C F mi n cols num den (k+1)=if (q1C F mi n cols num den k).1=0 then ((q1r F mi n (q1C F mi n cols num den k).2.2 (lfN cols k) k num den).1,if (q1r F mi n (q1C F mi n cols num den k).2.2 (lfN cols k) k num den).1=9 then k else 0,(q1r F mi n (q1C F mi n cols num den k).2.2 (lfN cols k) k num den).2) else q1C F mi n cols num den k from rfl
 have h0:q1C F mi n cols num den 0=(0,0,qc0):=rfl;unfold facP qcA;generalize q1C F mi n cols num den=C at *;have q1:¬ (num:Int) < 0:=ω
 have q2:¬ (num:Int) > den:=ω
 have q3:¬ (den:Int) < 1:=ω
 have q4:¬ (den:Int) > 1000:=ω
 refine ac0 Tryz.func28 Tryz.ntmps28 [.cell 8 63,.tmp 9,.tmp 10] ?_;refine wk1 (x4 q1 q2 q3 q4) ?_;refine q1g (LeT (hw:=q2Z n 0 0 0 0) tnW (λ_ h=>h.elim) (λi hi hw=>?_) (λi b hw hb=>?_) (λi j x hi hj ti tj=>?_) (xs:=[(1,pI cols),(2,iv num),(3,iv den),(4,.pt 4 0 0),(8,.pt 8 0 0),(9,iv 0),(10,iv 0),(12,iv n),(13,.pt 13 0 0),(14,iv 0)]) (kv:=[]) (bs:=[(4,⟨26,some 5,[.ag [iv n,iv n,pI ms,pI mi,pF mv]],false⟩),(8,⟨63,some 8,[.ag [q05,q05,q05,q05,q05,q05,q05,q05]],false⟩),(13,⟨133,some 5,[.ag [q05,.ow 6000 none 0 0,.ow 6001 none 0 0,.ow 6002 none 0 0,.ow 6003 none 0 0]],false⟩)]) (kb:=[]) ?_) ?_
 .simp at hi;unfold win at hw;omega
 .unfold LeB;rw [qcp hw.1 hw.2];exact qmD hb
 .unfold tnW at ti tj
  split at ti <;> split at tj <;> cases ti <;> cases tj <;> rfl
 .try simp -implicitDefEqProofs (disch:=omega) only [go_sem,Nat.reduceEqDiff,Nat.reduceAdd,↓reduceIte]
 refine q0U (λt=>t<=n) [1,2,3,4,8,9,10,12,13] [4,8] Lk Lk (λt:Nat=>[(14,iv t)]) (λt=>[(13,⟨133,some 5,[.ag [q05,.ow 6000 none 0 t,.ow 6001 none 0 t,.ow 6002 none 0 t,.ow 6003 none 0 t]],false⟩)]) (λt=>q2Z n t t t t) (λt=>n-t) 0 (zG _) ?_ ?_
 .refine LeW [] rfl rfl ?_ ?_ (by simp [q0y,q0n,win]) ?_
  .exact Ow
  .exact q1L (q4J Oq Oq Oq Oq)
  .try refine Zz ?_
   rfl
 .intro t ht
  by_cases hlt:t < n
  .have hlt':(t:Int) < n:=ω
   have hHn:=Hid.mk hn;clear hn;refine wk1 hlt' ?_;have hn:=hHn.o;refine A_sd [(1,3),(1,4)] q5m κ λK hK=>?_;refine Zz1 @List.length_range ?_;refine hK _ _ ?_; clear hK K;refine q1g (q4H (T1:=24) (T2:=32) (K:=none) (N:=6000) (R:=10000) (n:=t) (o:=52) (r:=50) (l:=(rU n λ_ _=>0) t) (hw:=q2Z n t t t t) (hw':=q2Z n (t+1) t t t) (λ_ h=>h) q6N (λ_=>n) ?_ ?_ (λi h1 h2=>?_) (qdO Oq Oq Oq) ?_ (λi h1 h2=>q2L h1 h2) (λj hj=>by
    unfold q2Z;exact q61 ω) (q4J ω ω ω ω) (q66 λi hi=>by omega) ?_ ω ω ω ω ω ω (xs:=[(1,pI cols),(2,iv num),(3,iv den),(4,.pt 4 0 0),(8,.pt 8 0 0),(9,iv 0),(10,iv 0),(12,iv n),(13,.pt 13 0 0),(14,iv t)]) (kv:=[]) (bs:=[(4,⟨26,some 5,[.ag [iv n,iv n,pI ms,pI mi,pF mv]],false⟩),(8,⟨63,some 8,[.ag [q05,q05,q05,q05,q05,q05,q05,q05]],false⟩),(13,⟨133,some 5,[.ag [q05,.ow 6000 none 0 (t+1),.ow 6001 none 0 t,.ow 6002 none 0 t,.ow 6003 none 0 t]],false⟩)]) (kb:=[]) (by simp [nmW]) ?_) ?_
   .try simp -implicitDefEqProofs (disch:=omega) only [go_sem,Nat.reduceEqDiff,Nat.reduceAdd,↓reduceIte]
   .try refine Zz ?_
    rw [qgx (j:=t)]
   .obtain ⟨w1,w2⟩:=h1
    repeat rw [q0A ω]
    rw [q0V ⟨w1,w2⟩]
   .unfold q2Z;rw [q13 ω ω]
   .unfold q2Z;rw [q0M ω ω,q0M ω ω,q0M ω ω,q0M ω ω]
    rfl
   .try simp -implicitDefEqProofs (disch:=omega) only [go_sem,Nat.reduceEqDiff,Nat.reduceAdd,↓reduceIte]
   refine A_sd [(1,3),(1,4)] q5m κ λK hK=>?_;refine Zz1 @List.length_range ?_;refine hK _ _ ?_; clear hK K;refine q1g (q4H (T1:=134) (T2:=4) (K:=none) (N:=6001) (R:=20000) (n:=t) (o:=59) (r:=57) (l:=(rB n λ_ _=>false) t) (hw:=q2Z n (t+1) t t t) (hw':=q2Z n (t+1) (t+1) t t) (λ_ h=>h) qc3 (λ_=>n) ?_ ?_ (λi h1 h2=>?_) (qdN Oq Oq Oq) ?_ (λi h1 h2=>q1j (q2L h1 h2)) (λj hj=>by
    unfold q2Z;rw [q0M ω ω];exact q61 ω) (q4J ω ω ω ω) (q66 λi hi=>by omega) ?_ ω ω ω ω ω ω (xs:=[(1,pI cols),(2,iv num),(3,iv den),(4,.pt 4 0 0),(8,.pt 8 0 0),(9,iv 0),(10,iv 0),(12,iv n),(13,.pt 13 0 0),(14,iv t)]) (kv:=[]) (bs:=[(4,⟨26,some 5,[.ag [iv n,iv n,pI ms,pI mi,pF mv]],false⟩),(8,⟨63,some 8,[.ag [q05,q05,q05,q05,q05,q05,q05,q05]],false⟩),(13,⟨133,some 5,[.ag [q05,.ow 6000 none 0 (t+1),.ow 6001 none 0 (t+1),.ow 6002 none 0 t,.ow 6003 none 0 t]],false⟩)]) (kb:=[]) (by simp [nmW]) ?_) ?_
   .try simp -implicitDefEqProofs (disch:=omega) only [go_sem,Nat.reduceEqDiff,Nat.reduceAdd,↓reduceIte]
   .try refine Zz ?_
    rw [qsJ (j:=t)]
   .obtain ⟨w1,w2⟩:=h1
    repeat rw [q0A ω]
    rw [q0V ⟨w1,w2⟩]
   .unfold q2Z;rw [q0M ω ω,q13 ω ω]
   .unfold q2Z;rw [q0M ω ω,q0M ω ω,q0M ω ω,q0M ω ω]
    rfl
   .try simp -implicitDefEqProofs (disch:=omega) only [go_sem,Nat.reduceEqDiff,Nat.reduceAdd,↓reduceIte]
   refine A_sd [(1,3),(1,4)] q5m κ λK hK=>?_;refine Zz1 @List.length_range ?_;refine hK _ _ ?_; clear hK K;refine q1g (q4H (T1:=24) (T2:=32) (K:=none) (N:=6002) (R:=30000) (n:=t) (o:=66) (r:=64) (l:=(rU n λ_ _=>0) t) (hw:=q2Z n (t+1) (t+1) t t) (hw':=q2Z n (t+1) (t+1) (t+1) t) (λ_ h=>h) q6N (λ_=>n) ?_ ?_ (λi h1 h2=>?_) (qdM Oq Oq Oq) ?_ (λi h1 h2=>q1j (q1j (q2L h1 h2))) (λj hj=>by
    unfold q2Z;rw [q0M ω ω];rw [q0M ω ω];exact q61 ω) (q4J ω ω ω ω) (q66 λi hi=>by omega) ?_ ω ω ω ω ω ω (xs:=[(1,pI cols),(2,iv num),(3,iv den),(4,.pt 4 0 0),(8,.pt 8 0 0),(9,iv 0),(10,iv 0),(12,iv n),(13,.pt 13 0 0),(14,iv t)]) (kv:=[]) (bs:=[(4,⟨26,some 5,[.ag [iv n,iv n,pI ms,pI mi,pF mv]],false⟩),(8,⟨63,some 8,[.ag [q05,q05,q05,q05,q05,q05,q05,q05]],false⟩),(13,⟨133,some 5,[.ag [q05,.ow 6000 none 0 (t+1),.ow 6001 none 0 (t+1),.ow 6002 none 0 (t+1),.ow 6003 none 0 t]],false⟩)]) (kb:=[]) (by simp [nmW]) ?_) ?_
   .try simp -implicitDefEqProofs (disch:=omega) only [go_sem,Nat.reduceEqDiff,Nat.reduceAdd,↓reduceIte]
   .try refine Zz ?_
    rw [qgx (j:=t)]
   .obtain ⟨w1,w2⟩:=h1
    repeat rw [q0A ω]
    rw [q0V ⟨w1,w2⟩]
   .unfold q2Z;rw [q0M ω ω,q0M ω ω,q13 ω ω]
   .unfold q2Z;rw [q0M ω ω,q0M ω ω,q0M ω ω,q0M ω ω]
    rfl
   .try simp -implicitDefEqProofs (disch:=omega) only [go_sem,Nat.reduceEqDiff,Nat.reduceAdd,↓reduceIte]
   refine A_ld [(1,3),(1,4)] q5m κ λK9 hK9=>?_;refine Zz1 @List.length_range ?_;refine hK9 _ _ ?_; clear hK9 K9
   repeat (first | refine i_n ?_ | refine q_n ?_)
   refine q1g (q4H (T1:=134) (T2:=4) (K:=none) (N:=6003) (R:=40000) (n:=t) (o:=73) (r:=71) (l:=(rB n λ_ _=>false) t) (hw:=q2Z n (t+1) (t+1) (t+1) t) (hw':=q2Z n (t+1) (t+1) (t+1) (t+1)) (λ_ h=>h) qc3 (λ_=>n) ?_ ?_ (λi h1 h2=>?_) (qdL Oq Oq Oq) ?_ (λi h1 h2=>q1j (q1j (q1j (q2L h1 h2)))) (λj hj=>by
    unfold q2Z;rw [q0M ω ω];rw [q0M ω ω];rw [q0M ω ω];exact q61 ω) (q4J ω ω ω ω) (q66 λi hi=>by omega) ?_ ω ω ω ω ω ω (xs:=[(1,pI cols),(2,iv num),(3,iv den),(4,.pt 4 0 0),(8,.pt 8 0 0),(9,iv 0),(10,iv 0),(12,iv n),(13,.pt 13 0 0),(14,iv t)]) (kv:=[]) (bs:=[(4,⟨26,some 5,[.ag [iv n,iv n,pI ms,pI mi,pF mv]],false⟩),(8,⟨63,some 8,[.ag [q05,q05,q05,q05,q05,q05,q05,q05]],false⟩),(13,⟨133,some 5,[.ag [q05,.ow 6000 none 0 (t+1),.ow 6001 none 0 (t+1),.ow 6002 none 0 (t+1),.ow 6003 none 0 (t+1)]],false⟩)]) (kb:=[]) (by simp [nmW]) ?_) ?_
   .try simp -implicitDefEqProofs (disch:=omega) only [go_sem,Nat.reduceEqDiff,Nat.reduceAdd,↓reduceIte]
   .try refine Zz ?_
    rw [qsJ (j:=t)]
   .obtain ⟨w1,w2⟩:=h1
    repeat rw [q0A ω]
    rw [q0V ⟨w1,w2⟩]
   .unfold q2Z;rw [q0M ω ω,q0M ω ω,q0M ω ω,q13 ω ω]
   .unfold q2Z;rw [q0M ω ω,q0M ω ω,q0M ω ω,q0M ω ω]
    rfl
   .try simp -implicitDefEqProofs (disch:=omega) only [go_sem,Nat.reduceEqDiff,Nat.reduceAdd,↓reduceIte]
   refine wk ?_;refine ⟨t+1,ω,ω,?_⟩;refine LeW [] rfl rfl ?_ ?_ (by simp [q0y,q0n,win]) ?_
   .exact Ow
   .exact q1L (q4J Oq Oq Oq Oq)
   .try refine Zz ?_
    rfl
  .obtain rfl:n=t:=ω
   have hlt':¬ (n:Int) < n:=ω
   refine wk1 hlt' ?_;refine q1g (qgg (S:=qc0) (o:=13) hn rfl (λ_ h=>h) (λi h6 hw=>?_) ?_ ω (xs:=[(1,pI cols),(2,iv num),(3,iv den),(4,.pt 4 0 0),(8,.pt 8 0 0),(9,iv 0),(10,iv 0),(12,iv n),(13,.pt 5000 0 0),(15,iv 0)]) (kv:=[]) (bs:=[(4,⟨26,some 5,[.ag [iv n,iv n,pI ms,pI mi,pF mv]],false⟩),(8,⟨63,some 8,[.ag [q05,q05,q05,q05,q05,q05,q05,q05]],false⟩)]) (kb:=[]) (by simp [nmW]) ?_) ?_
   .rw [q0V hw,qrQ]
   .try simp -implicitDefEqProofs (disch:=omega) only [go_sem,Nat.reduceEqDiff,Nat.reduceAdd,↓reduceIte]
   .try simp -implicitDefEqProofs (disch:=omega) only [go_sem,Nat.reduceEqDiff,Nat.reduceAdd,↓reduceIte]
   refine q0U (λk=>k<=n/\(C k).1=0) [1,2,3,4,8,9,10,12,13] [4,8] Lk Lk (λk:Nat=>[(15,iv k)]) (λ_=>[]) (λk=>q0o n (C k).2.2 5001) (λk=>n-k) 0 ⟨zG _,by rw [h0]⟩ ?_ ?_
   .rw [h0];refine LeW [] rfl rfl ?_ ?_ (by simp [q0y,q0n,win]) ?_
    .exact Ow
    .exact q1L (q02 hn Oq Oq)
    .try refine Zz ?_
     rfl
   .rintro k ⟨hk,hk0⟩;have hGk:=hG k hk0
    by_cases hkn:k < n
    .have hkn':(k:Int) < n:=ω
     obtain ⟨x,hx,hx2,hx3⟩:=hlf k hkn;have hsk:=hs k;rw [if_pos hk0,hx2] at hsk;have hEk:=hE (k+1);have cX:=hC.o hGk hkn hx3;have hce:=qu6 (F:=F) (mi:=mi) (n:=n) (S:=(C k).2.2) (j:=x) (k:=k) (num:=num) (den:=den);obtain ⟨e,he⟩:∃ e,e=(q1r F mi n (C k).2.2 x k num den).1:=⟨_,rfl⟩;have hcO:qu7 F mi n (C k).2.2 x k num den=if e=0 then q0o n (q1r F mi n (C k).2.2 x k num den).2 5002 else q7V (q7W (q0o n (C k).2.2 5001) 5001):=by rw [he]; rfl
     generalize qu7 F mi n (C k).2.2 x k num den=O at *;rw [<- he] at hce hsk cX;generalize (q1r F mi n (C k).2.2 x k num den).2=r at *;generalize (C k).2.2=S at *;have hgo:∀ i,qc2 (q0o n S 5001) O i->i=5001:=λi ⟨h1,h2,h3⟩=>by
      refine Classical.byContradiction λhi=>h2 ?_;have hS:i≠5000/\stT n S i=none->q0o n S 5001 i=none:=λh=>by unfold q0o; rw [q0A hi,q0A h.1]; exact h.2
      rw [hcO] at h3
      split at h3
      .obtain ⟨q1,q2,q3⟩:=qmK h3;exact hS ⟨q2,qrS q3⟩
      .unfold q7V q7W at h3;rw [if_neg hi] at h3;exact Option.map_eq_none_iff.1 h3
     have hO5:∃ b,O 5000=some b:=by
      rw [hcO]
      split
      .exact ⟨_,by unfold q0o; rw [q0A ω,q0H]⟩
      .exact ⟨_,by unfold q7V q7W q0o; rw [if_neg ω,q0A ω,q0H]; rfl⟩
     have hwO:WfH O:=by
      rw [hcO]
      split
      .exact q1L (q02 hn Oq Oq)
      .exact qn4
     refine wk1 hkn' ?_;refine A_jW [(1,pI cols),(2,iv num),(3,iv den),(4,.pt 4 0 0),(8,.pt 8 0 0),(9,iv 0),(10,iv 0),(12,iv n),(13,.pt 5000 0 0),(15,iv k),(16,iv e)] [(4,⟨26,some 5,[.ag [iv n,iv n,pI ms,pI mi,pF mv]],false⟩),(8,⟨63,some 8,[.ag [q05,q05,q05,q05,q05,q05,q05,q05]],false⟩)] O ?_ λK0 fin=>?_
     rotate_left
     .refine qlY q5m (.one 1 (.one 2 (.one 3 (.one 5 (.one 6 (.one 7 (.alt (.one 0 (.one 4 (.one 8 (.one 9 .fin)))) (.one 4 (.one 0 (.one 8 (.one 9 .fin))))))))))) κ λK9 hK9=>?_;refine Zz1 hx ?_;refine ⟨?_,?_⟩
      .refine jx cX q4k (λ_ h=>h.elim) (qwz (a:=5001) hgo ?_ ?_) ?_
       .repeat (refine qlL ?_ (by first | (unfold IdP; first | trivial | omega) | simp [IdP,IdL]))
        exact λt=>by unfold stV IdP; trivial
       .repeat (refine qlR ?_ rfl (by simp [IdL,IdP]))
        exact qwv (qpj (by simp [IdL,IdP]) σ)
       .try refine Zz ?_
        refine hK9 _ _ (fin _ _ ?_);refine LeW [] rfl rfl ?_ ?_ (by simp [q0y,q0n,win]) ?_
        .exact Ow
        .exact hwO
        .try refine Zz ?_
         exact hO5
      .refine jx cX q4k (λ_ h=>h.elim) (qwz (a:=5001) hgo ?_ ?_) ?_
       .repeat (refine qlL ?_ (by first | (unfold IdP; first | trivial | omega) | simp [IdP,IdL]))
        exact λt=>by unfold stV IdP; trivial
       .repeat (refine qlR ?_ rfl (by simp [IdL,IdP]))
        exact qwv (qpj (by simp [IdL,IdP]) σ)
       .try refine Zz ?_
        refine hK9 _ _ (fin _ _ ?_);refine LeW [] rfl rfl ?_ ?_ (by simp [q0y,q0n,win]) ?_
        .exact Ow
        .exact hwO
        .try refine Zz ?_
         exact hO5
     .have herr:e≠0->C n=(e,if e=9 then k else 0,r):=λh=>by rw [hEk (by rw [hsk]; exact h) n ω,hsk]
      by_cases e0:e=0
      .subst e0;rw [if_pos rfl] at hcO;subst hcO;have hskr:(C (k+1)).2.2=r:=by rw [hsk]
       have hGr:=hG (k+1) (by rw [hsk]);rw [hskr] at hGr;refine q1g (qaL (S:=r) (o:=5002) (r:=5001) hn ω ω (λ_ h=>h.elim) (λi h6 hw=>?_) ?_ ?_ (.inr ω) (xs:=[(1,pI cols),(2,iv num),(3,iv den),(4,.pt 4 0 0),(8,.pt 8 0 0),(9,iv 0),(10,iv 0),(12,iv n),(13,.pt 5000 0 0),(15,iv k),(16,iv 0)]) (kv:=[]) (bs:=[(4,⟨26,some 5,[.ag [iv n,iv n,pI ms,pI mi,pF mv]],false⟩),(8,⟨63,some 8,[.ag [q05,q05,q05,q05,q05,q05,q05,q05]],false⟩)]) (kb:=[]) (by simp [nmW]) ?_) ?_
       .rw [q0V hw];unfold q0o;rw [q0A ω,q0A ω]
       .rw [q0V ⟨ω,ω⟩];unfold q0o;rw [q0A ω,q0H]
       .rw [q0V ⟨ω,ω⟩];unfold q0o;rw [q0H]
       .try simp -implicitDefEqProofs (disch:=omega) only [go_sem,Nat.reduceEqDiff,Nat.reduceAdd,↓reduceIte]
       have b1:((0:Int) == 9)=false:=rfl;have b2:((0:Int) != 0)=false:=rfl;refine wk1 (x2 b1 b2) ?_;refine ⟨k+1,⟨ω,by rw [hsk]⟩,ω,?_⟩;rw [hskr];refine LeW [] rfl rfl ?_ ?_ (by simp [q0y,q0n,win]) ?_
       .exact Ow
       .exact q1L (q02 hn Oq Oq)
       .try refine Zz ?_
        first | rfl | exact Int.natCast_succ k | (push_cast; rfl) | simp
      .have hne:=herr e0;rw [hne];simp only;rw [if_neg e0,if_neg e0];unfold pLU;dsimp only
       by_cases e9:e=9
       .have b1:(e == 9)=true:=by simpa using e9
        rw [if_pos e9];exact wk1 b1 trivial
       .have b1:(e == 9)=false:=by simpa using e9
        have b2:(e != 0)=true:=by simpa using e0
        rw [if_neg e9,show ((0:Nat):Int)=0 from rfl];exact wk1 (x2 b1 b2) trivial
    .obtain rfl:n=k:=ω
     have hkn':¬ (n:Int) < n:=ω
     have cL:=qcF (S:=(C n).2.2) (cols:=cols) hn hll hGk.len hGk.r;rw [if_pos hk0,if_pos hk0,hk0];generalize (C n).2.2=S at *;generalize q8a S cols n=lu at *;unfold pLU at cL ⊢;refine wk1 hkn' ?_;refine q1g (LeT (hw:=Go.E.h0) (tnU 1013 5000) (λ_ h=>h.elim) (λi hi hw=>?_) (λi b hw hb=>?_) (λi j x hi hj ti tj=>?_) (xs:=[(1,pI cols),(8,.pt 8 0 0),(12,iv n),(13,.pt 1013 0 0)]) (kv:=[]) (bs:=[(8,⟨63,some 8,[.ag [q05,q05,q05,q05,q05,q05,q05,q05]],false⟩),(1013,⟨133,some 5,[pSt n S],false⟩)]) (kb:=[]) ?_) ?_
     .simp at hi;unfold win at hw;omega
     .cases hb
     .have a:∀ i,(win i/\(Go.E.h0:Hp) i≠none\/i ∈ List.map (·.1) [(8,⟨63,some 8,[.ag [q05,q05,q05,q05,q05,q05,q05,q05]],false⟩),(1013,(⟨133,some 5,[pSt n S],false⟩:Bk))] ++ [])->i≠5000:=λi hi=>by
       rcases hi with ⟨_,hi⟩ | hi
       .exact absurd rfl hi
       .simp at hi; omega
      have a1:=a i hi;have a2:=a j hj;unfold tnU at ti tj
      split at ti <;> split at tj <;> cases ti <;> cases tj <;> first | omega | rfl | exact (a1 rfl).elim | exact (a2 rfl).elim
     .try refine Zz ?_
      exact qmL hn q4k λi j hi hj hw=>by
       unfold tnU at hi
       split at hi
       .cases hi; omega
       .cases hi; rw [q0V hw]; rfl
     exact wk trivial
end
abbrev vD (x:Nat):PV:=pV (ofZ x)
def dM (S:LuS) (n m:Nat):List (Int × PV):=cM vD (λi=>if S.iL i m then some (S.l i m) else none) n
def qa4:ofZ 0=0:=q0S q1Z
section
variable {F:Nat->Nat->Option Nat} {l u:Nat->Nat->Nat} {j k n v:Nat} {S:LuS}
def qac {i:Nat} {u':Nat->Nat->Nat}:∀ m,(∀ p,p < m->u p k=u' p k)->luL F l u i j k m=luL F l u' i j k m
 | 0,_=>rfl
 | m+1,h=>by rw [luL,luL,qac m λp hp=>h p ω,h m ω]
def luZ_s {i m:Nat}:luZ F l (q29 u m k v) i j k (m+1)=luZ F l u i j k m + -(q0v (l i m) v):=by
 unfold luZ;rw [luL,q0c,show q29 u m k v m k=v from if_pos ⟨rfl,rfl⟩,qac (u':=u) m λp hp=>if_neg ω]
def g0 (F:Nat->Nat->Option Nat) (j:Nat):Nat->Option (List Int):=λi=>(F j i).map λx=>[ofZ x]
structure LuI (k:Nat) (S:LuS):Prop where
 z:∀ i m,S.iL i m=false->ofZ (S.l i m)=0
 f:∀ i m,k<=m->S.iL i m=false
 r:S.rows.Nodup
def liL (S:LuS) (n m:Nat):List Nat:=(List.range n).filter λi=>S.iL i m
def liU (S:LuS) (m:Nat):List Nat:=(List.range (m+1)).filter λt=>S.iU t m
abbrev pLn (r v:List Nat):PV:=.ag [pRw r,pF v]
def lnL (S:LuS) (n m:Nat):PV:=pLn (liL S n m) ((liL S n m).map λi=>S.l i m)
def lnU (S:LuS) (m:Nat):PV:=pLn ((liU S m).map λt=>S.rows.getD t 0) ((liU S m).map λt=>S.u t m)
def plI (rows:List Nat) (i:Nat):Int:=if i ∈ rows then (rows.idxOf i:Int) else -1
def plL (rows:List Nat) (n:Nat):List PV:=(List.range n).map λi=>iv (plI rows i)
noncomputable def loE (S:LuS) (k:Nat) (z:Nat->Int) (d:Int) (m:Nat):LuS:={ S with l:=λa b=>if b=k/\a < m/\a ∉ S.rows then q4D 0 (z a) d else S.l a b,iL:=λa b=>if b=k/\a < m/\a ∉ S.rows then decide (z a≠0) else S.iL a b }
def q6k {z:Nat->Int} {d:Int}:∀ m,(∀ i,i < m->i ∉ S.rows->q0I (q4D 0 (z i) d))->loS S k z d m=some (loE S k z d m)
 | 0,_=>by
  unfold loS loE
  congr 1
  cases S
  congr 1
  .funext a b; rw [if_neg ω]
  .funext a b; rw [if_neg ω]
 | m+1,h=>by
  rw [loS,q6k m λi hi=>h i ω,tE]
  by_cases hm:m ∈ S.rows
  .rw [if_pos hm];unfold loE
   congr 2
   .funext a b
    try dsimp only
    by_cases e:a=m
    .subst e; rw [if_neg ω,if_neg (λq=>q.2.2 hm)]
    .by_cases c:b=k/\a < m/\a ∉ S.rows
     .rw [if_pos c,if_pos ⟨c.1,ω,c.2.2⟩]
     .rw [if_neg c,if_neg λq=>c ⟨q.1,ω,q.2.2⟩]
   .funext a b
    try dsimp only
    by_cases e:a=m
    .subst e; rw [if_neg ω,if_neg (λq=>q.2.2 hm)]
    .by_cases c:b=k/\a < m/\a ∉ S.rows
     .rw [if_pos c,if_pos ⟨c.1,ω,c.2.2⟩]
     .rw [if_neg c,if_neg λq=>c ⟨q.1,ω,q.2.2⟩]
  .rw [if_neg hm,if_pos (h m ω hm)];unfold loE
   congr 2
   .funext a b
    unfold q29
    try dsimp only
    by_cases e:a=m/\b=k
    .rw [if_pos e,if_pos ⟨e.2,ω,by rw [e.1]; exact hm⟩,e.1]
    .rw [if_neg e]
     by_cases c:b=k/\a < m/\a ∉ S.rows
     .rw [if_pos c,if_pos ⟨c.1,ω,c.2.2⟩]
     .rw [if_neg c,if_neg λq=>c ⟨q.1,ω,q.2.2⟩]
   .funext a b
    unfold q8c
    try dsimp only
    by_cases e:a=m/\b=k
    .rw [if_pos e,if_pos ⟨e.2,ω,by rw [e.1]; exact hm⟩,e.1]
    .rw [if_neg e]
     by_cases c:b=k/\a < m/\a ∉ S.rows
     .rw [if_pos c,if_pos ⟨c.1,ω,c.2.2⟩]
     .rw [if_neg c,if_neg λq=>c ⟨q.1,ω,q.2.2⟩]
def qeM {z:Nat->Int} {d:Int} {i:Nat} (h1:i ∉ S.rows) (h2:¬ q0I (q4D 0 (z i) d)):∀ m,i < m->loS S k z d m=none
 | m+1,hm=>by
  by_cases e:i=m
  .subst e;rw [loS];cases loS S k z d i with
   | none=>rfl
   | some q=>rw [tE,if_neg h1,if_neg h2]
  .rw [loS,qeM h1 h2 m ω]; rfl
def opR (rows:List Nat) (z:Nat->Int) (m:Nat):List Nat:=(List.range m).filter λi=>decide (i ∉ rows/\z i≠0)
def qs6 {rows:List Nat} {z:Nat->Int} {m:Nat}:opR rows z (m+1)=if m ∉ rows/\z m≠0 then opR rows z m ++ [m] else opR rows z m:=by
 unfold opR;rw [y9,uW]
 by_cases h:m ∉ rows/\z m≠0
 .rw [if_pos h,List.filter_cons,if_pos (by simpa using h)]; rfl
 .rw [if_neg h,List.filter_cons,if_neg (by simpa using h)]; simp
def q9L {rows:List Nat} {z:Nat->Int} {m i:Nat}:i ∈ opR rows z m ↔ i < m/\i ∉ rows/\z i≠0:=by
 unfold opR;rw [List.mem_filter,zY,decide_eq_true_eq]
end
section
variable (v:Nat->Nat) (mi:List Int) (num den:Nat) (w:Int) (L:List Nat)
def mxT:Nat->Int
 | 0=>0
 | t+1=>if mxT t < abZ (v (L.getD t 0)) then abZ (v (L.getD t 0)) else mxT t
def bsT:Nat->Int
 | 0 => -1
 | t+1=>if (v (L.getD t 0)=0\/v (L.getD t 0)=9223372036854775808)\/(den:Int)*abZ (v (L.getD t 0)) < num*w then bsT t else if bsT t < 0\/q3T mi (L.getD t 0) < q3T mi (L.getD (bsT t).toNat 0) then (t:Int) else bsT t
end
section
variable {v:Nat->Nat} {mi:List Int} {num den:Nat} {w:Int} {L:List Nat}
def qdw {x:Nat}:∀ t,t<=L.length->mxT v (L ++ [x]) t=mxT v L t
 | 0,_=>rfl
 | t+1,h=>by
  have e:(L ++ [x]).getD t 0=L.getD t 0:=by rw [zC,zC,zL ω]
  rw [mxT,mxT,qdw t ω,e]
def qbL:∀ t:Nat,-1<=bsT v mi num den w L t/\bsT v mi num den w L t < t
 | 0=>by unfold bsT; omega
 | t+1=>by
  have:=qbL t;unfold bsT
  split
  .omega
  .split <;> omega
def qfc {x:Nat}:∀ t,t<=L.length->bsT v mi num den w (L ++ [x]) t=bsT v mi num den w L t
 | 0,_=>rfl
 | t+1,h=>by
  have e:∀ c,c < L.length->(L ++ [x]).getD c 0=L.getD c 0:=λc hc=>by rw [zC,zC,zL ω]
  have hr:=qbL (v:=v) (mi:=mi) (num:=num) (den:=den) (w:=w) (L:=L) t;rw [bsT,bsT,qfc t ω,e t ω]
  split
  .rfl
  .by_cases h0:bsT v mi num den w L t < 0
   .rw [if_pos (.inl h0),if_pos (.inl h0)]
   .rw [e _ ω]
def qkL {rows:List Nat} {z:Nat->Int} (hv:∀ i,v i=if i ∈ rows then 0 else fR 0 (z i)):∀ m,mxT v (opR rows z m) (opR rows z m).length=mxZ v m
 | 0=>rfl
 | m+1=>by
  rw [qs6];have ih:=qkL hv m
  by_cases h:m ∉ rows/\z m≠0
  .rw [if_pos h,zO,xE,mxT,mxZ,qdw _ (zU _),ih,show (opR rows z m ++ [m]).getD (opR rows z m).length 0=m by rw [zC,yY]; rfl]
  .have h0:v m=0:=by
    rw [hv]
    split
    .rfl
    .rename_i hr;have:z m=0:=Classical.byContradiction λhz=>h ⟨hr,hz⟩;rw [this]; exact if_pos rfl
   rw [if_neg h,ih,qsn h0]
def qkz {S:LuS} {z:Nat->Int} (hv:∀ i,v i=if i ∈ S.rows then 0 else fR 0 (z i)):∀ m,(bsP v S mi num den w m < 0 ↔ bsT v mi num den w (opR S.rows z m) (opR S.rows z m).length < 0)/\(0<=bsT v mi num den w (opR S.rows z m) (opR S.rows z m).length->bsP v S mi num den w m=((opR S.rows z m).getD (bsT v mi num den w (opR S.rows z m) (opR S.rows z m).length).toNat 0:Nat))
 | 0=>⟨Iff.rfl,λh=>by simp [opR,bsT] at h⟩
 | m+1=>by
  obtain ⟨ih1,ih2⟩:=qkz hv m;have hr:=qbL (v:=v) (mi:=mi) (num:=num) (den:=den) (w:=w) (L:=opR S.rows z m) (opR S.rows z m).length;rw [qs6]
  by_cases h:m ∉ S.rows/\z m≠0
  .have eA:∀ c,c < (opR S.rows z m).length->(opR S.rows z m ++ [m]).getD c 0=(opR S.rows z m).getD c 0:=λc hc=>by rw [zC,zC,zL ω]
   have eL:(opR S.rows z m ++ [m]).getD (opR S.rows z m).length 0=m:=by rw [zC,yY]; rfl
   rw [if_pos h,zO,xE,bsT,bsP,qfc _ (zU _),eL]
   by_cases c:(v m=0\/v m=9223372036854775808)\/(den:Int)*abZ (v m) < num*w
   .rw [if_pos (.inr c),if_pos c];refine ⟨ih1,λh2=>?_⟩;rw [ih2 h2,eA _ ω]
   .rw [if_neg (λq=>q.elim h.1 c),if_neg c]
    by_cases h0:bsT v mi num den w (opR S.rows z m) (opR S.rows z m).length < 0
    .rw [if_pos (.inl (ih1.2 h0)),if_pos (.inl h0)];refine ⟨ω,λ_=>?_⟩;rw [zF,eL]
    .have h1:=ih2 Oq;rw [eA _ ω];have h3:¬ bsP v S mi num den w m < 0:=λq=>h0 (ih1.1 q);have e:(bsP v S mi num den w m).toNat=(opR S.rows z m).getD (bsT v mi num den w (opR S.rows z m) (opR S.rows z m).length).toNat 0:=by rw [h1,zF]
     rw [e]
     by_cases c2:q3T mi m < q3T mi ((opR S.rows z m).getD (bsT v mi num den w (opR S.rows z m) (opR S.rows z m).length).toNat 0)
     .rw [if_pos (.inr c2),if_pos (.inr c2)];refine ⟨ω,λ_=>?_⟩;rw [zF,eL]
     .rw [if_neg (λq=>q.elim h3 c2),if_neg (λq=>q.elim h0 c2)];refine ⟨ih1,λh2=>?_⟩;rw [h1,eA _ ω]
  .rw [if_neg h,bsP,if_pos]
   .exact ⟨ih1,ih2⟩
   .by_cases hm:m ∈ S.rows
    .exact .inl hm
    .have:z m=0:=Classical.byContradiction λhz=>h ⟨hm,hz⟩;exact .inr (.inl (.inl (by rw [hv,if_neg hm,this]; exact if_pos rfl)))
end
end Go.Proofs.YtbjoghfmhgadkaaGreatDoor
namespace Go.Sp
open Go.E
def ixF (l:List Nat):Nat->Nat->Int
 | _,0 => -1
 | i,m+1=>if q0I (l.getD i 0) then ixF l (i+1) m else i
def qk0 {l:List Nat}:∀ (m i:Nat),0<=ixF l i m ↔ ∃ j,i<=j/\j < i+m/\¬ q0I (l.getD j 0)
 | 0,i=>by unfold ixF; exact ⟨λh=>by omega,λ⟨j,h1,h2,_⟩=>by omega⟩
 | m+1,i=>by
  unfold ixF
  by_cases h:q0I (l.getD i 0)
  .rw [if_pos h,qk0 m (i+1)]
   constructor
   .rintro ⟨j,h1,h2,h3⟩; exact ⟨j,ω,ω,h3⟩
   .rintro ⟨j,h1,h2,h3⟩;refine ⟨j,?_,ω,h3⟩
    rcases Nat.eq_or_lt_of_le h1 with e | e
    .subst e; exact absurd h h3
    .omega
  .rw [if_neg h];exact ⟨λ_=>⟨i,zU _,ω,h⟩,λ_=>by omega⟩
def qnQ {l:List Nat}:decide (0<=ixF l 0 l.length)=!decide (∀ x ∈ l,q0I x):=by
 rw [<- decide_not,decide_eq_decide,qk0]
 constructor
 .rintro ⟨j,_,h2,h3⟩ h;have hj:j < l.length:=ω
  rw [zC,zA hj] at h3;exact h3 (h _ (List.getElem_mem hj))
 .intro h;refine Classical.byContradiction λhn=>h λx hx=>?_;obtain ⟨j,hj,rfl⟩:=List.getElem_of_mem hx;refine Classical.byContradiction λhf=>hn ⟨j,zG _,ω,?_⟩;rw [zC,zA hj];exact hf
end Go.Sp
namespace Go.Proofs.YtbjoghfmhgadkaaGreatDoor
open Go Go.E Go.Sp
section
variable {l:List Nat} {f:FuncId}
def pe_fn {s:Nat->PV}:pe s (.func f)=.vl (.func (.func f) #[] #[]):=rfl
attribute [go_sem] pe_fn
def q8E (hf:∀ x:Nat,x < 18446744073709551616->ACt f [uv x] (bv (!decide (q0I x)))) (hu:∀ x ∈ l,x < 18446744073709551616) (hn:l.length<=1000000) :
  ACt 154 [pF l,.vl (.func (.func f) #[] #[])] (iv (ixF l 0 l.length)):=by
 refine ac0 Tryz.func154 Tryz.ntmps154 [.tmp 4] ?_;refine wk ?_;refine q0B (λi=>i<=l.length/\ixF l 0 l.length=ixF l i (l.length-i)) [0,1,7] [] Lk Lk (λi:Nat=>[(8,iv i)]) (λ_=>[]) (λi=>l.length-i) 0 ⟨zG _,rfl⟩ ?_ ?_
 .refine LeM [] rfl rfl ?_;refine Zz ?_
  rfl
 .rintro i ⟨hi,hx⟩
  by_cases hlt:i < l.length
  .obtain ⟨x,hxi⟩:∃ x,l[i]?=some x:=⟨_,zA hlt⟩;have C1:=hf x (hu x (zE hxi));rw [show l.length-i=(l.length-(i+1))+1 by omega,ixF,getD_some hxi] at hx;refine wk1 hxi ?_;refine qgP λK hK=>?_;refine Zz1 hxi ?_;refine qau qwy ?_;simp only [List.append_nil]
   try refine Zz ?_
   refine q0T C1 ?_
   try refine Zz ?_
   refine hK _ _ ?_; clear hK K
   by_cases h:q0I x
   .rw [if_pos h] at hx;refine wk1 (decide_eq_true h) ?_;refine ⟨i+1,⟨ω,by rw [show l.length-(i+1)=l.length-(i+1) from rfl]; exact hx⟩,ω,?_⟩;refine LeM [] rfl rfl ?_;refine Zz ?_;omega
   .rw [if_neg h] at hx;rw [hx];exact wk1 (decide_eq_false h) trivial
  .obtain rfl:i=l.length:=ω
   rw [xK,ixF] at hx;rw [hx];exact wk trivial
def q2n (hf:∀ x:Nat,x < 18446744073709551616->ACt f [uv x] (bv (!decide (q0I x)))) (hu:∀ x ∈ l,x < 18446744073709551616) (hn:l.length<=1000000) :
  ACt 86 [pF l,.vl (.func (.func f) #[] #[])] (bv (!decide (∀ x ∈ l,q0I x))):=by
 have C1:=q8E hf hu hn;rw [<- qnQ];generalize ixF l 0 l.length=z at *;refine ac0 Tryz.func86 Tryz.ntmps86 [.tmp 4] ?_;exact wk trivial
end
def qik {a b:Int}:ACt 257 [iv a,iv b] (bv (decide (a < b))):=by
 have C1:∀ x:Int,ACt 229 [iv x] (bv false):=λx=>by
  have q:(x != x)=false:=σ
  refine ac0 Tryz.func229 Tryz.ntmps229 [.tmp 2] ?_;exact wk1 q trivial
 refine ac0 Tryz.func257 Tryz.ntmps257 [.tmp 4] ?_;exact wk trivial
def q9O {l:List Int} (hl:∀ (i:Nat) (x y:Int),l[i]?=some x->l[i+1]?=some y->x<=y) (hn:l.length<=1000000):ACt 221 [pI l] (bv true):=by
 have C1:=@qik;refine ac0 Tryz.func221 Tryz.ntmps221 [.tmp 2] ?_;refine wk ?_;refine q0B (λi:Int=>i < l.length /\ -1<=i) [0] [] Lk Lk (λi:Int=>[(3,iv i)]) (λ_=>[]) (λi=>(i+1).toNat) (l.length-1:Int) ⟨ω,ω⟩ ?_ ?_
 .refine LeM [] rfl rfl ?_;exact Zy
 .rintro i ⟨hi,h0⟩
  by_cases hlt:i > 0
  .obtain ⟨k,rfl⟩:∃ k:Nat,i=((k+1:Nat):Int):=⟨(i-1).toNat,ω⟩;obtain ⟨x,hx⟩:∃ x,l[k]?=some x:=⟨_,zA Oq⟩;obtain ⟨y,hy⟩:∃ y,l[k+1]?=some y:=⟨_,zA Oq⟩;have:=hl k x y hx hy;have q:¬ y < x:=ω
   have e:IntKind.i64.wrap (((k+1:Nat):Int)-1)=(k:Int):=by rw [i64_in ω ω]; omega
   refine wk1 (x6 hlt hx hy q e (decide_eq_false q)) ?_;refine ⟨k,⟨ω,ω⟩,ω,?_⟩;refine LeM [] rfl rfl ?_;exact Zy
  .exact wk1 hlt trivial
def qrJ {l:List Int} {a b p:Nat} (h:a+p < b):((l.take b).drop a)[p]?=l[a+p]?:=by
 rw [xG,xH,if_pos h]
def qbr (ix:List Int) (a k:Nat):Int:=if k=a then -1 else ix.getD (k-1) 0
def qhM {R C:Nat} {st ix:List Int} {vl:List Nat} (hS:MSz R C ix) (hP:MPt C st ix vl) (hI:MIx R st ix):ACt 152 [q2w R C st ix vl] (bv true):=by
 obtain ⟨z1,z2,z3,z4,z5⟩:=hS;have hnn:=hP.nn;have hub:=hP.ub Oq;obtain ⟨p1,p2,p3,p4,p5⟩:=hP;rw [zF] at p4;have C1:=q9O (l:=st) p5 Oq;have hsl:st.length=C+1:=ω
 have hg:∀ j,j < C->∃ a b:Nat,st[j]?=some (a:Int)/\st[j+1]?=some (b:Int)/\a<=b/\b<=ix.length:=λj hj=>by
  obtain ⟨x,hx⟩:∃ x,st[j]?=some x:=⟨_,zA Oq⟩;obtain ⟨y,hy⟩:∃ y,st[j+1]?=some y:=⟨_,zA Oq⟩;have h1:=hnn j x hx;have h2:=p5 j x y hx hy;have h3:=hub (C-(j+1)) (j+1) y (by rw [zF]; omega) hy;exact ⟨x.toNat,y.toNat,by rw [hx]; congr 1; omega,by rw [hy]; congr 1; omega,ω,ω⟩
 unfold q2w;refine ac0 Tryz.func152 Tryz.ntmps152 [.tmp 2] ?_;refine wk1 (x4 hsl p1 p3 p4) ?_;refine q0B (λj=>j<=C) [1,2,49] [1] Lk Lk (λj:Nat=>[(50,iv j)]) (λ_=>[]) (λj=>C-j) 0 (zG _) ?_ ?_
 .refine LeM [] rfl rfl ?_;refine Zz ?_
  rfl
 .intro j hj
  by_cases hlt:j < C
  .obtain ⟨a,b,g1,g2,g3,g4⟩:=hg j hlt;have es:slP (some 1) (some (iv (a:Int))) (some (iv (b:Int))) (pI ix)=some (pI ((ix.take b).drop a)):=by
    simp [slP,qbP,ksz,List.map_take,List.map_drop];omega
   have hl:((ix.take b).drop a).length=b-a:=by simp; omega
   have wj:(j:Int)+1=((j+1:Nat):Int):=rfl;have ww:IntKind.i64.wrap ((j+1:Nat):Int)=((j+1:Nat):Int):=i64_in Oq Oq;have hsb:=λp (h:a+p < b)=>qrJ (l:=ix) (p:=p) h;generalize (ix.take b).drop a=L at *;refine wk1 (x6 g1 g2 es wj ww hl) ?_;refine q0B (λt=>t<=b-a) [1,2,3,49,50,66,67] [1] Lk Lk (λt:Nat=>[(68,iv t),(4,iv (qbr ix a (a+t)))]) (λ_=>[]) (λt=>b-a-t) 0 (zG _) ?_ ?_
   .refine LeM [] rfl rfl ?_;refine Zz ?_;unfold qbr;exact ⟨rfl,(if_pos rfl).symm⟩
   .intro t ht
    by_cases hlt2:t < b-a
    .obtain ⟨x,hx⟩:∃ x,ix[a+t]?=some x:=⟨_,zA Oq⟩;obtain ⟨h1,h2,h3⟩:=hI j _ _ g1 g2 (a+t) Oq Oq x hx;have hx2:=(hsb t Oq).trans hx;have hlast:qbr ix a (a+t) < x/\qbr ix a (a+(t+1))=x:=by
      unfold qbr;rw [if_neg (show ¬ a+(t+1)=a by omega),show a+(t+1)-1=a+t by omega,getD_some hx];refine ⟨?_,rfl⟩
      by_cases h0:t=0
      .rw [if_pos ω]; omega
      .obtain ⟨u,hu⟩:∃ u,ix[a+t-1]?=some u:=⟨_,zA Oq⟩;rw [if_neg ω,getD_some hu];exact h3 Oq u hu
     obtain ⟨q1,q2⟩:=hlast;have q3:¬ x<=qbr ix a (a+t):=ω
     have q4:¬ (R:Int)<=x:=ω
     refine wk1 (x3 hx2 q3 q4) ?_;refine ⟨t+1,ω,ω,?_⟩;rw [q2];refine LeM [] rfl rfl ?_;refine Zz ?_;omega
    .have hlt3:¬ (t:Int) < ((b-a:Nat):Int):=ω
     refine wk1 hlt3 ?_;refine ⟨j+1,ω,ω,?_⟩;refine LeM [] rfl rfl ?_;refine Zz ?_;omega
  .have hlt':¬ (j:Int) < C:=ω
   exact wk1 hlt' trivial
def qhN {x:Nat} (hx:x < 18446744073709551616):ACt 153 [uv x] (bv (!decide (q0I x))):=by
 have C1:=q9X hx;refine ac0 Tryz.func153 Tryz.ntmps153 [.tmp 2] ?_;exact wk trivial
def qnL {R C:Nat} {st ix:List Int} {vl:List Nat} (h:q3V R C st ix vl=0) (hu:∀ x ∈ vl,x < 18446744073709551616):ACt 85 [q2w R C st ix vl] (iv 0):=by
 unfold q3V at h
 split at h
 .rename_i hS
  split at h
  .rename_i hP
   split at h
   .rename_i hf;have C1:=qhM hS hP.1 hP.2;have hvl:=hP.1.v;obtain ⟨z1,z2,z3,z4,z5⟩:=hS;have C2:=q2n (f:=153) (l:=vl) (λx hx=>qhN hx) hu Oq;rw [decide_eq_true hf] at C2;have C3:∀ n:Nat,n<=200->ACt 151 [iv n,iv 0,iv 200] (bv true):=λn hn=>by
     have q1:(0:Int)<=n:=ω
     have q2:(n:Int)<=200:=ω
     refine ac0 Tryz.func151 Tryz.ntmps151 [.tmp 6] ?_;exact wk1 (x2 q1 q2) trivial
    unfold q2w at *;refine ac0 Tryz.func85 Tryz.ntmps85 [.tmp 2] ?_;exact wk trivial
   .cases h
  .cases h
 .cases h
def q63 {f:Nat->Nat->Option Nat} {R C:Nat} (h:TOk f R C):ACt 85 [pT R C f] (iv 0):=qnL h.chk h.vl.2.2.2
end Go.Proofs.YtbjoghfmhgadkaaGreatDoor
namespace Go.Sp
open Go.E Go.Proofs.YtbjoghfmhgadkaaGreatDoor
def q6F {f:Nat} (h:q0I f):q0Z (ofZ f):=by
 have:=q42 h;unfold q0Z;omega
end Go.Sp
namespace Go.Proofs.YtbjoghfmhgadkaaGreatDoor
open Go Go.E Go.Sp
def qsb {V:Int} (ho:q0Z V):Nz (dT V):=λw D B v hB h=>(q3C.2 (q8z (q3D w D B v hB (qdb (q3C.1 ⟨h,ho⟩))))).1
section
variable {x y:List Nat} {t:Nat}
end
end Go.Proofs.YtbjoghfmhgadkaaGreatDoor
namespace Go.E
open Go Go.RowKit
section
variable {J:Nat->Prop} {s:Nat->PV} {h:Hp} {T1 T2:TypeId} {K:Kd} {N R n:Nat} {row:Nat->List PV}
def qcv (T1 T2:TypeId) (K:Kd) (N R n:Nat) (row:Nat->List PV):Hp:=λi =>
 if i=N then some ⟨T1,none,(List.range n).map λj=>.ow (j+R) K 0 (row j).length,false⟩
 else if R<=i/\i < R+n then some ⟨T2,K,row (i-R),false⟩ else none
def qrD:qcv T1 T2 K N R n row N=some ⟨T1,none,(List.range n).map λj=>.ow (j+R) K 0 (row j).length,false⟩:=if_pos rfl
def qjY {j:Nat} (hN:N < R) (hj:j < n):qcv T1 T2 K N R n row (j+R)=some ⟨T2,K,row j,false⟩:=by
 unfold qcv;rw [if_neg ω,if_pos ω,yE]
attribute [go_sem ↓] qrD qjY
def q77 {i:Nat} {b:Bk} (hb:qcv T1 T2 K N R n row i=some b):(i=N/\b=⟨T1,none,(List.range n).map λj=>.ow (j+R) K 0 (row j).length,false⟩)\/(R<=i/\i < R+n/\b=⟨T2,K,row (i-R),false⟩):=by
 unfold qcv at hb
 split at hb
 .cases hb; exact .inl ⟨‹_›,rfl⟩
 .split at hb
  .rename_i hi; cases hb; exact .inr ⟨hi.1,hi.2,rfl⟩
  .cases hb
def tnG (N R n o:Nat):Nat->Option Nat:=λi=>if i=N then some o else if R<=i/\i < R+n then none else some i
def qqp {o i:Nat} (h1:i < N) (h2:i < R):tnG N R n o i=some i:=by
 unfold tnG;rw [if_neg ω,if_neg ω]
attribute [go_sem ↓] qqp
def q62 {o:Nat} (hJ:∀ i,¬ J i) (ho:h o=some ⟨T1,none,List.replicate n (.vl (.slice none 0 0)),false⟩) (h5:o < 5000) (hN:5000<=N) (hNR:N < R) (hR:R+n<=1000000) {xs kv:List (Nat × PV)} {kb:List (Nat × Option Bk)} (hn:nmW o o (kb.map (·.1)))
  (hh:q4l (tnG N R n o) h (q0u (qcv T1 T2 K N R n λ_=>[]) (hpM [] kb)) s xs/\q4l (tnG N R n o) h (q0u (qcv T1 T2 K N R n λ_=>[]) (hpM [] kb)) s kv/\q8d (tnG N R n o) h (q0u (qcv T1 T2 K N R n λ_=>[]) (hpM [] kb)) kb):Le J s h (stM xs kv) (q0u (qcv T1 T2 K N R n λ_=>[]) (hpM [] kb)):=by
 obtain ⟨h1,h2,h4⟩:=hh;have tN:tnG N R n o N=some o:=if_pos rfl;have tR:∀ i,R<=i->i < R+n->tnG N R n o i=none:=λi a b=>by unfold tnG; rw [if_neg ω,if_pos ⟨a,b⟩]
 have tI:∀ i,i < 5000->tnG N R n o i=some i:=λi a=>by unfold tnG; rw [if_neg ω,if_neg ω]
 have key:∀ i b,q0u (qcv T1 T2 K N R n λ_=>[]) (hpM [] kb) i=some b->i=N\/(R<=i/\i < R+n)\/(i < 5000/\i≠o):=λi b hb=>by
  by_cases hi:win i
  .rw [q0V hi] at hb
   rcases q77 hb with ⟨e,_⟩ | ⟨q1,q2,_⟩
   .exact .inl e
   .exact .inr (.inl ⟨q1,q2⟩)
  .rw [q14 hi] at hb;have:=q4P hn i (qb0 h4 i b hb).2;exact .inr (.inr ⟨this.1,this.2.1⟩)
 refine q4W (tnG N R n o) (λi b hb=>?_) (λi j k' b c hi hj ti tj=>?_) (λt=>q6R h2 h1 t) λi hi=>(hJ i hi).elim
 .by_cases hi:win i
  .rw [q0V hi] at hb
   rcases q77 hb with ⟨rfl,rfl⟩ | ⟨q1,q2,rfl⟩
   .unfold LeB;rw [tN];refine ⟨_,ho,rfl,rfl,⟨rfl,rfl⟩,?_⟩;rw [qm6];refine ⟨σ,λc x y hx hy=>?_⟩;have hc:c < n:=by have:=(zB.1 hy).1; simpa using this
    rw [zH,zD hc,zR] at hx hy;cases hx; cases hy;exact .nilow (tR _ ω ω) (by rw [q0V ⟨ω,ω⟩]; exact qjY hNR hc) rfl
   .unfold LeB;rw [tR i q1 q2]
  .rw [q14 hi] at hb;exact (qb0 h4 i b hb).1
 .rcases key i b hi with rfl | ⟨a1,a2⟩ | ⟨a1,a2⟩ <;> rcases key j c hj with rfl | ⟨b1,b2⟩ | ⟨b1,b2⟩
  .rfl
  .rw [tR _ b1 b2] at tj; cases tj
  .rw [tN] at ti; rw [tI _ b1] at tj; cases ti; cases tj; exact (b2 rfl).elim
  .rw [tR _ a1 a2] at ti; cases ti
  .rw [tR _ a1 a2] at ti; cases ti
  .rw [tR _ a1 a2] at ti; cases ti
  .rw [tI _ a1] at ti; rw [tN] at tj; cases ti; cases tj; exact (a2 rfl).elim
  .rw [tR _ b1 b2] at tj; cases tj
  .rw [tI _ a1] at ti; rw [tI _ b1] at tj; cases ti; cases tj; rfl
end
end Go.E
namespace Go.Sp
open Go.E Go.Proofs.YtbjoghfmhgadkaaGreatDoor
def sg (g:Nat->Int):Nat->Int
 | 0=>0
 | n+1=>sg g n+g n
def q0z {g h:Nat->Int}:∀ n,(∀ i,i < n->g i=h i)->sg g n=sg h n
 | 0,_=>rfl
 | n+1,e=>by rw [sg,sg,q0z n λi hi=>e i ω,e n ω]
def q7i {g h:Nat->Int}:∀ n,sg (λi=>g i+h i) n=sg g n+sg h n
 | 0=>rfl
 | n+1=>by rw [sg,sg,sg,q7i n]; omega
def q8v {g:Nat->Int}:∀ n,(∀ i,i < n->g i=0)->sg g n=0
 | 0,_=>rfl
 | n+1,e=>by rw [sg,q8v n λi hi=>e i ω,e n ω]; rfl
def q5x {g:Nat->Int} {r:Nat}:∀ n,sg (λi=>if r=i then g i else 0) n=if r < n then g r else 0
 | 0=>by rw [if_neg ω]; rfl
 | n+1=>by
  rw [sg,q5x n]
  by_cases h:r=n
  .subst h; rw [if_neg ω,if_pos rfl,if_pos ω]; omega
  .rw [if_neg h]
   by_cases h2:r < n
   .rw [if_pos h2,if_pos ω]; omega
   .rw [if_neg h2,if_neg ω]; rfl
def q7v {y:Nat}:q0v 0 y=0:=by
 unfold q0v;rw [show ofZ 0=0 from q0S (by unfold ofF; rw [if_neg (by decide),if_pos (by decide),show sgn (decide (9223372036854775808<=0)) (0 % 4503599627370496)=0 from rfl,z7]),z7,q1R]
 rfl
section
variable {f:Nat->Nat->Option Nat} {x:List Nat} {n J r:Nat} {rows:Nat->List Int}
def q4F (rows:Nat->List Int) (k:Nat) (z:Int):Nat->List Int:=λj=>if j=k then rows k ++ [z] else rows j
def qc5 {k:Nat} {z:Int}:q1M (q4F rows k z r)=q1M (rows r)+if r=k then z else 0:=by
 unfold q4F
 by_cases h:r=k
 .subst h; rw [if_pos rfl,if_pos rfl,q0c]
 .rw [if_neg h,if_neg h]; omega
def qgQ {k m:Nat} {z:Int} (hl:∀ r,(rows r).length<=m) (hb:∀ r,∀ z ∈ rows r,bl z.natAbs<=67600) (hz:bl z.natAbs<=67600):(∀ r,(q4F rows k z r).length<=m+1)/\∀ r,∀ y ∈ q4F rows k z r,bl y.natAbs<=67600:=by
 unfold q4F;refine ⟨λr=>?_,λr y hy=>?_⟩
 .have h1:=hl r; have h2:=hl k
  split
  .simp; omega
  .omega
 .split at hy
  .rcases zN.1 hy with hy | hy
   .exact hb k y hy
   .simp at hy; subst hy; exact hz
  .exact hb r y hy
end
end Go.Sp
namespace Go.Proofs.YtbjoghfmhgadkaaGreatDoor
open Go Go.E Go.Sp
abbrev qjs (rows:Nat->List Int):Nat->List PV:=λr=>(rows r).map λV=>pV V
section
variable {f:Nat->Nat->Option Nat} {x:List Nat} {n:Nat}
end
end Go.Proofs.YtbjoghfmhgadkaaGreatDoor
namespace Go.E
open Go Go.RowKit
section
variable {T1 T2:TypeId} {K:Kd} {N R n:Nat} {row:Nat->List PV}
def qcu:qcv T1 T2 K N R n row=q1X T1 T2 K N R n row h0:=rfl
end
end Go.E
namespace Go.Proofs.YtbjoghfmhgadkaaGreatDoor
open Go Go.E Go.Sp
abbrev q5k (n:Nat) (rows:Nat->List Int):Hp:=q1X 87 46 (some 4) 5000 10000 n (qjs rows) h0
def q0g {n:Nat} {rows:Nat->List Int} (hn:n<=1000):BOk (q5k n rows) win:=q1i BOk.h0 (λ_ _=>clV) Oq ⟨⟨ω,ω⟩,λj hj=>⟨ω,ω⟩⟩
def wfB {H:Hp} (h:BOk H win):WfH H:=⟨λi b hb=>⟨(h.b i b hb).2.1,IdL_mono (λj hj=>by
 obtain ⟨c,hc⟩:=zI.1 hj;exact ⟨(h.b j c hc).1,hj⟩) _ (h.b i b hb).2.2⟩⟩
section
variable {b:List Nat} {n:Nat} {rows:Nat->List Int}
end
def qnK {A a:Int} (h:mkV A (-131072)=some a):A=a*(2:Int) ^ 65536:=by
 by_cases hA:A=0
 .subst hA; rw [q1R] at h; cases h; rw [z7]
 .obtain ⟨h1,_,h3⟩:=q4t hA h;have h4:=q1K A;subst h3;obtain ⟨K,hK⟩:∃ K:Nat,K=65536:=⟨_,rfl⟩;rw [<- hK];have e:(-131072+(tz A.natAbs:Int)+65536).toNat+K=tz A.natAbs:=ω
  rw [yR,<- Int.pow_add,e];exact h4.symm
def qaa {a:Int} (h:q0Z a):mkV (a*(2:Int) ^ 65536) (-131072)=some a:=by
 rw [q1S];exact q23 h
def qmq {f:Nat} (hf:q0I f):bl (ofZ f).natAbs<=66560:=by
 obtain ⟨m,k,h,h1,h2,h3⟩:=q2A hf;rw [q0S h]
 by_cases hm:m=0
 .subst hm; rw [z7]; simp [q0m]
 .rw [q0G,q1F ω]; omega
def qlA {P z:Int} {K m:Nat} (h:P=z*(2:Int) ^ K) (hb:bl P.natAbs<=m+K):bl z.natAbs<=m:=by
 by_cases hz:z.natAbs=0
 .rw [hz]; simp [q0m]
 .rw [h,q0G,q1F hz] at hb; omega
def qkN {x y:Nat} (hx:q0I x) (hy:q0I y):bl (q0v x y).natAbs<=67584:=by
 refine qlA (qnK (q1f hx hy).1) ?_;have hb:=q1s (ofZ x).natAbs (ofZ y).natAbs;rw [<- yZ] at hb;have h1:=qmq hx;have h2:=qmq hy;omega
def qoD {V:Int} {K:Nat} (hK:K=65536) (hV:V≠0) (hf:q0I (fR 0 V)):∃ u r:Nat,K<=u+1074/\u+1075 < 2047+K/\fR 0 V=fin 0 (decide (V < 0)) r ((u:Int)-K)/\ofZ (fR 0 V)=sgn (decide (V < 0)) r*(2:Int) ^ u/\r<=9007199254740992/\(u+1074=K\/4503599627370496<=r)/\2*(V-ofZ (fR 0 V)).natAbs<=2 ^ u:=by
 obtain ⟨u,r,h1,h2,h3,h4,h5⟩:=q2j (mode:=0) (neg:=decide (V < 0)) (N:=V.natAbs) (D:=2 ^ K) (K:=K) Oq (q0E _) Oq;have hx:fR 0 V=fin 0 (decide (V < 0)) r ((u:Int)-K):=by unfold fR; rw [if_neg hV,<- hK,h2]
 rw [yW (2 ^ K) (2 ^ u),q33 (q0E K)] at h3;have hu:u+1075 < 2047+K:=by
  refine Classical.byContradiction λhn=>?_;rw [hx] at hf;unfold fin at hf
  split at hf
  .unfold q4g at hf;rw [if_neg ω,if_pos ω] at hf;exact absurd hf q4s
  .unfold q4g at hf;rw [if_neg ω,if_pos ω] at hf;exact absurd hf q4s
 have h5':u+1074=K\/4503599627370496<=r:=ω
 have hv:ofZ (fR 0 V)=sgn (decide (V < 0)) r*(2:Int) ^ u:=by
  rw [hx] at hf ⊢;exact q0S (qap hK h1 h4 h5' hf)
 refine ⟨u,r,h1,hu,hx,hv,h4,h5',?_⟩;rw [hv];have e:=qjr (neg:=decide (V < 0)) (A:=V.natAbs) (B:=2 ^ u) (q0E u);rw [<- h3] at e;have p:=q0N u;rw [<- p]
 by_cases hn:V < 0
 .rw [decide_eq_true hn];simp only [sgn,if_true];have : -(r:Int)*((2 ^ u:Nat):Int) = -((2 ^ u*r:Nat):Int):=by push_cast; rw [xQ,yN]
  rw [this];generalize 2 ^ u*r=C at *;generalize 2 ^ u=B at *;omega
 .rw [decide_eq_false hn];simp only [sgn,xI,if_false];have:(r:Int)*((2 ^ u:Nat):Int)=((2 ^ u*r:Nat):Int):=by push_cast; rw [yN]
  rw [this];generalize 2 ^ u*r=C at *;generalize 2 ^ u=B at *;omega
def q9W {mode V:Int} {K c:Nat} (hK:K=65536) (hc:c<=1000) (h:V.natAbs < 2 ^ c*2 ^ K):q0I (fR mode V):=by
 unfold fR
 split
 .unfold q0I; simp
 .rw [<- hK];obtain ⟨u,r,h1,h2,h3,h4,h5⟩:=q2j (mode:=mode) (neg:=decide (V < 0)) (N:=V.natAbs) (D:=2 ^ K) (K:=K) Oq (q0E _) Oq;rw [h2];have hu:u+1076 < 2047+K:=by
   rcases h5 with h5 | ⟨_,h5⟩
   .omega
   .have h6:2 ^ K*2 ^ (u+52) < 2 ^ c*2 ^ K*2 ^ K:=uZ h5 (yI h (q0E K));rw [<- zW,<- zW,<- zW] at h6;have:=(y6 (by omega:1 < 2)).1 h6;omega
  have:=q4S (mode:=mode) (neg:=decide (V < 0)) hK h1 h4 Oq hu;intro hn;unfold ofF at this;rw [if_pos hn] at this;cases this
section
variable {A B:Int}
def ql8 (hA:q0Z A) (hB:q0Z B) (ho:q0Z (A-B)):ACt 112 [dT A,dT B] (dT (A-B)):=by
 have C1:=qcc hB;have C2:=qcf hA (B := -B) (by unfold q0Z at *; rwa [yC]) (by rwa [<- Int.sub_eq_add_neg]);rw [<- Int.sub_eq_add_neg] at C2;refine ac0 Tryz.func112 Tryz.ntmps112 [.cell 4 46] ?_;exact wk trivial
def q8i (hA:q0Z A) (hB:q0Z B):ACt 114 [dT A,dT B] (.tu [iv (A-B).sign,bv true]):=by
 obtain ⟨x,y,e,C1,hL⟩:=q5D hA hB;obtain ⟨l1,l2⟩:=hL.bl hA hB;have C2:=q8f hA hB;have C3:=@qe3;have h1:=hL.sgn;refine ac0 Tryz.func114 Tryz.ntmps114 [.tmp 4,.tmp 5] ?_;exact wk1 h1 trivial
end
section
variable {r s d:Nat}
end
section
variable {l:List Nat}
end
def q4w {l:List Nat} {k v:Nat} (h:q10 l) (h1:v < 18446744073709551616) (h2:q0I v):q10 (l.set k v):=λx hx=>by
 rcases List.mem_or_eq_of_mem_set hx with h3 | rfl
 .exact h x h3
 .exact ⟨h1,h2⟩
def qew {l:List Nat} {k:Nat} (h:q10 l):q10 (l.take k):=λx hx=>h x (List.mem_of_mem_take hx)
def q8J {l:List Nat} {k:Nat} (h:q10 l):q10 (l.drop k):=λx hx=>h x (List.mem_of_mem_drop hx)
def qhj:flz 0=0:=by unfold flz; rw [z7]; rfl
def q4o (V:Int):q1M [V]=V:=by have:=q0c [] V; rw [List.nil_append,q1w] at this; omega
section
variable {f:Fac} {z:Nat->Int}
end
end Go.Proofs.YtbjoghfmhgadkaaGreatDoor
