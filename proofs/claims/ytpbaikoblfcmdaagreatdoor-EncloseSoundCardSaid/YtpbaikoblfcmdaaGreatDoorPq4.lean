/- EncloseSound. 4/7. -/
import Derived.Test.YtpbaikoblfcmdaaGreatDoorPq3
open Bool renaming noConfusion->y6,and_eq_false_iff->xE
open Int renaming toNat_natCast->zG,sign_eq_zero_iff_zero->zJ,natAbs_natCast->zN,sign_eq_one_of_pos->uG,zero_mul->yA,sub_eq_add_neg->yS,natAbs_neg->yU,le_refl->yX,natAbs_mul->uH,mul_assoc->uI,mul_comm->y8,mul_eq_zero->xD,sign_mul->xN,ne_of_gt->xQ,mul_one->xR,add_mul->xS,pow_add->xT
open List renaming getElem?_eq_getElem->zA,getElem?_eq_some_iff->zB,getElem?_range->zC,mem_of_getElem?->zD,getD_eq_getElem?_getD->zE,getElem?_map->zH,map_congr_left->zL,mem_map->zM,mem_append->zO,take_length->zQ,take_succ_eq_append_getElem->zR,getElem?_append_right->zS,getElem?_append_left->zV,length_append->zY,mem_range->zZ,length_map->z8,getElem?_eq_none->z9,getElem?_set->yB,getElem?_set_self->yF,ext_getElem?->yH,length_range->yI,mem_cons_of_mem->yK,map_append->yO,mem_cons_self->uJ,take_of_length_le->yW,map_cons->uK,range_succ->xC,length_filter_le->xH,getElem?_drop->xK,getElem?_take->xL,filter_append->xM
open Nat renaming zero_le->zF,le_trans->zU,le_refl->zW,pow_add->zX,add_zero->z6,pow_le_pow_right->z7,mod_eq_of_lt->yC,lt_of_lt_of_le->uL,add_sub_cancel->yE,div_le_self->yG,mul_lt_mul_of_pos_right->yJ,mul_assoc->yN,mod_lt->yP,lt_of_le_of_lt->yQ,mul_right_comm->yR,mul_comm->yY,sub_self->yZ,mul_le_mul->uM,mul_one->uN,pow_lt_pow_iff_right->uO,pow_zero->y7,testBit_lt_two_pow->y9,le_mul_of_pos_left->xA,div_add_mod->xB,div_lt_iff_lt_mul->xF,le_div_iff_mul_le->xG,div_pos->xI,mod_le->xJ,lt_or_ge->xO,le_of_lt->xP
open Option renaming some->zI,ne_none_iff_exists'->zK,map_some->zP,some_ne_none->uP,getD_some->yL,bind_some->yM,map_eq_some_iff->yV
set_option linter.unusedSimpArgs false
set_option linter.unusedVariables false
set_option maxRecDepth 20000
set_option maxHeartbeats 2000000
set_option linter.defProp false
namespace Go.Proofs.YtpbaikoblfcmdaaGreatDoor
open Go Go.E Go.Sp
def qvh (V:Int):(od V).sign=V.sign:=by
 conv=>rhs; rw [<- q1F V,xN,uG (q0K _),xR]
section
variable {a b m e V:Int}
def q3A {s:Bool} (hs:s=decide (a < 0)) (ha:bl a.natAbs<=10000000) (h1 : -1048576<=m) (h2:m<=1048576):ACt 256 [sT s a,iv m] (bT (shI a m)):=by
 have C1:=@q9C;refine ac0 Tryz.func256 Tryz.ntmps256 [.cell 4 46] ?_;exact wk trivial
def q8Y {s:Bool} {N:Nat} (hs:s=decide (a < 0)) (ha:bl a.natAbs<=10000000) (hn:N<=1048576):ACt 318 [sT s a,iv N] (bT (shI a (-(N:Int)))):=by
 have C1:=@q9C;refine ac0 Tryz.func318 Tryz.ntmps318 [.cell 4 46] ?_;refine wk ?_;refine q0B (λ_:Unit=>True) [1,2,4] [2,4] Lk Lk (λ_=>[]) (λ_=>[]) (λ_=>0) () trivial ?_ ?_
 ·refine LeM [] rfl rfl ?_;exact Zy
 ·intro _ _;exact wk1 @Int.zero_sub trivial
def qvn {D:Nat->Prop} {v:Value} {w:World} (h:Rd w D (.ag [bv false,bv false,q02,iv 0]) (λ_=>none) h0 v):Rd w D (dT 0) (λ_=>none) h0 v:=by
 unfold Rd at h;obtain ⟨vs,rfl,h1⟩:=h;obtain ⟨_,_,_,_,rfl,h2,h3,h4,h5⟩:=rd_4 h1;rw [qdk h2,qdk h3,qdk h4,qdk h5];have h6:In (fV 0) D (.agg #[.bool false,.bool false,.slice none 0 0,.int .i64 0]) w:=⟨false,none,0,0,rfl,⟨rfl,U32.nil⟩,by simp [q0U,q07]⟩;exact (q2d.2 h6).1
def qtX {s:Bool} (hs:s=decide (m < 0)) (hb:bl m.natAbs<=1000000) (he1 : -1000000<=e) (he2:e<=1000000) (hv:mkV m e=some V):ACt 248 [.ag [bv false,bv s,.fm (fL m),iv e]] (.tu [dT V,bv true]):=by
 have C1:=@qjf;have C2:=@q3w
 by_cases hz:m=0
 ·obtain rfl:V=0:=by rw [hz,q1a] at hv; exact (zI.inj hv).symm
  refine qhl (r:=.tu [.ag [bv false,bv false,q02,iv 0],bv true]) (λD w v h=>?_) ?_
  ·unfold Rd at h ⊢;obtain ⟨vs,rfl,h1⟩:=h;obtain ⟨_,_,rfl,h2,h3⟩:=qvV h1;refine ⟨_,rfl,?_⟩;unfold RdL;exact ⟨_,_,rfl,qvn h2,RdL.one h3⟩
  ·have e1:(m.sign == 0)=true:=by rw [hz]; rfl
   refine ac0 Tryz.func248 Tryz.ntmps248 [.cell 2 48,.tmp 3] ?_;exact wk1 e1 trivial
 ·have hz':(m.sign == 0)=false:=by
   rw [beq_eq_false_iff_ne]; intro h0; exact hz (zJ.1 h0)
  obtain ⟨hv1,hv2,hv3⟩:=q5Q hz hv;obtain ⟨hv4,hv5,_,hv6⟩:=q3t hv;have htl:=qi4 (n:=m.natAbs) Oq;have hbo:=q9W hz;have C3:=@qmq;have C4:=@q3O;have C5:=@q8Y;have f1:=(qov m).trans hv4.symm;have f2:=(hv5 hz).2.symm;refine ac0 Tryz.func248 Tryz.ntmps248 [.cell 2 48,.tmp 3] ?_;exact wk1 (x3 hz' f1 f2) trivial
def q9g (hV:q0U V):ACt 248 [dT V] (.tu [dT V,bv true]):=by
 obtain ⟨h1,h2,h3⟩:=q0x hV;exact qtX rfl Oq Oq Oq (qbj hV)
def q7C (hV:q0U V):ACt 181 [dT V] (dT V):=by
 have C1:=q9g hV;refine ac0 Tryz.func181 Tryz.ntmps181 [.cell 2 48] ?_;exact wk trivial
def q3i (hV:q0U V):ACt 182 [dT V] (iv V.sign):=by
 have C1:=q9g hV;have C2:=@q3w;have:=(q0x hV).2.2;refine ac0 Tryz.func182 Tryz.ntmps182 [.tmp 2] ?_;exact wk1 (qvh V) trivial
def q9f (hV:q0U V):ACt 162 [dT V] (dT (-V)):=by
 have C1:=q9g hV;have C2:=@q7o;have:=(q0x hV).2.2;have f1:=(qf5 V).symm;have f2:=qa6 V;refine ac0 Tryz.func162 Tryz.ntmps162 [.cell 2 48] ?_;exact wk1 (x2 f1 f2) trivial
def q3j {s:Bool} (hs:s=decide (m < 0)) (hb:bl m.natAbs<=1000000) (he1 : -1000000<=e) (he2:e<=1000000) (hv:mkV m e=some V):ACt 179 [sT s m,iv e] (dT V):=by
 have C1:=qtX hs hb he1 he2 hv;refine ac0 Tryz.func179 Tryz.ntmps179 [.cell 4 48] ?_;exact wk trivial
def q9e (ha:q0U a) (hb:q0U b):ACt 250 [dT a,dT b] (.tu [dT a,dT b,bv true]):=by
 have C1:=q9g ha;have C2:=q9g hb;refine ac0 Tryz.func250 Tryz.ntmps250 [.cell 4 48,.cell 5 48,.tmp 6] ?_;exact wk trivial
def q7D (ha:q0U a) (hb:q0U b) (hv:mkV (a*b) (-131072)=some V):ACt 163 [dT a,dT b] (dT V):=by
 obtain ⟨ha1,ha2,ha3⟩:=q0x ha;obtain ⟨hb1,hb22,hb33⟩:=q0x hb;have hmul:=q11 (od a).natAbs (od b).natAbs;rw [<- uH] at hmul;have C1:=q9e ha hb;have C2:=@qqN;have C3:=q3j (m:=od a*od b) (e:=dyE a+dyE b) rfl Oq Oq Oq ((qfo a b).trans hv);refine ac0 Tryz.func163 Tryz.ntmps163 [.cell 4 48] ?_;exact wk trivial
end
abbrev reT (neg:Bool) (q:Nat) (e:Int) (inx:Bool):PV:=.ag [bv neg,bv false,.fm (fL q),iv e,bv inx]
section
variable {neg inx:Bool} {q k:Nat} {e p:Int}
def qbC (hb:bl q<=1000000) (he1 : -1000000<=e) (he2:e<=1000000):ACt 269 [reT neg q e inx] (iv (e+bl q-1)):=by
 have C1:=@q3O;refine ac0 Tryz.func269 Tryz.ntmps269 [.tmp 2] ?_;exact wk trivial
def qdz (hq:q≠0) (hb:bl q<=1000000) (hk:0 < k) (hk2:k<=5000000):ACt 328 [reT neg q e inx,iv k] (.tu [bT (q / 2 ^ k:Nat),iv (Go.Sp.hf q k inx),bv (decide (q % 2 ^ k=0) && !inx)]):=by
 have C1:=@q3O
 by_cases hkb:bl q < k
 ·have hqp:=q2a q;have hp1:2 ^ bl q<=2 ^ (k-1):=z7 Oq Oq;have hp2:2 ^ (k-1)<=2 ^ k:=z7 Oq Oq;have hmod:q % 2 ^ k=q:=yC Oq;have hdiv:q / 2 ^ k=0:=Nat.div_eq_of_lt Oq;have hhf:Go.Sp.hf q k inx = -1:=by
   unfold Go.Sp.hf;have:(((q % 2 ^ k:Nat):Int)-2 ^ (k-1)).sign = -1:=by
    refine Int.sign_eq_neg_one_of_neg ?_;rw [hmod,<- q0V]; omega
   rw [this]; simp
  have hex:(decide (q % 2 ^ k=0) && !inx)=false:=by rw [hmod,decide_eq_false hq]; rfl
  rw [hdiv,hhf,hex];refine ac0 Tryz.func328 Tryz.ntmps328 [.cell 4 46,.tmp 5,.tmp 6] ?_;exact wk trivial
 ·have C2:=@q8Y;have C3:=@q3A;have C4:=@qqM;have C5:=@q1u;have C6:=@qgK;have C7:=@q3w;have hsh:shI ((q:Nat):Int) (-(k:Int))=((q / 2 ^ k:Nat):Int):=by
   unfold shI; rw [if_neg (by omega),show (- -(k:Int)).toNat=k by omega,<- q0V]; rfl
  have hql:bl (q / 2 ^ k)<=1000000:=zU (q0e (yG _ _)) hb;have hsl:shI ((q / 2 ^ k:Nat):Int) (k:Int)=((q / 2 ^ k*2 ^ k:Nat):Int):=by
   unfold shI; rw [if_pos (by omega),zG,<- q0V]; simp
  have hbm:bl (q / 2 ^ k*2 ^ k)<=1000000:=zU (q0e (Nat.div_mul_le_self _ _)) hb;have hrs:((q:Nat):Int)-((q / 2 ^ k*2 ^ k:Nat):Int)=((q % 2 ^ k:Nat):Int):=by
   have:=xB q (2 ^ k);rw [yY] at this; omega
  have hbr:bl (q % 2 ^ k)<=1000000:=zU (q0e (xJ _ _)) hb;have hs1:shI 1 ((k:Int)-1)=(2:Int) ^ (k-1):=by
   unfold shI; rw [if_pos (by omega),show ((k:Int)-1).toNat=k-1 by omega,Int.one_mul]
  have hb1:bl ((2:Int) ^ (k-1)).natAbs<=k:=by
   rw [q6k]; exact q0N (Nat.pow_lt_pow_right (by omega) (by omega))
  have hb2:bl (1:Int).natAbs<=1:=by show bl 1<=_; rw [q6K]; omega
  have sE:(((q % 2 ^ k:Nat):Int).sign == 0)=decide (q % 2 ^ k=0):=by
   by_cases h0:q % 2 ^ k=0
   ·rw [h0]; rfl
   ·rw [decide_eq_false h0,beq_eq_false_iff_ne];intro h; exact h0 (by have:=zJ.1 h; omega)
  have hhf:Go.Sp.hf q k inx=if (((q % 2 ^ k:Nat):Int)-2 ^ (k-1)).sign=0/\inx=true then 1 else (((q % 2 ^ k:Nat):Int)-2 ^ (k-1)).sign:=rfl
  rw [hhf];generalize hr:q % 2 ^ k=r at *;generalize hz:q / 2 ^ k=z at *;generalize hw:z*2 ^ k=zw at *;generalize hP:(2:Int) ^ (k-1)=P at *;refine ac0 Tryz.func328 Tryz.ntmps328 [.cell 4 46,.tmp 5,.tmp 6] ?_;refine wk1 (x4 hsh hsl hrs hs1) ?_
  by_cases hS:((r:Int)-P).sign=0
  ·rw [hS];cases inx
   ·rw [if_neg λh=>y6 h.2]
    by_cases h0:r=0
    ·exact wk1 (x2 sE (decide_eq_true h0)) trivial
    ·exact wk1 (x2 sE (decide_eq_false h0)) trivial
   ·rw [if_pos ⟨rfl,rfl⟩]
    by_cases h0:r=0
    ·exact wk1 (x2 sE (decide_eq_true h0)) trivial
    ·exact wk1 (x2 sE (decide_eq_false h0)) trivial
  ·rw [if_neg λh=>hS h.1]
   by_cases h0:r=0
   ·exact wk1 (x2 sE (decide_eq_true h0)) trivial
   ·exact wk1 (x2 sE (decide_eq_false h0)) trivial
def qiU (hq:q≠0) (hb:bl q<=900000) (he1 : -900000<=e) (he2:e<=900000) (hp1 : -100000<=p) (hp2:p<=1000000):ACt 271 [reT neg q e inx,iv p,iv 0] (bT (sgn neg (qpq q e p inx))):=by
 have C1:=@q3A;have C2:=@q7o;have s0:∀ n:Nat,sgn false n=n:=λn=>rfl;have s1:∀ n:Nat,sgn true n = -(n:Int):=λn=>rfl
 by_cases hpe:p<=e
 ·have hsl:shI ((q:Nat):Int) (e-p)=((q*2 ^ (e-p).toNat:Nat):Int):=by
   unfold shI; rw [if_pos (by omega),<- q0V]; simp
  have hbq:bl (q*2 ^ (e-p).toNat)<=2000000:=by rw [q0z hq]; omega
  rw [show qpq q e p inx=q*2 ^ (e-p).toNat from if_pos hpe];generalize q*2 ^ (e-p).toNat=z at *;refine ac0 Tryz.func271 Tryz.ntmps271 [.cell 6 46] ?_;cases neg
  ·exact wk1 (x2 hsl s0) trivial
  ·exact wk1 (x2 hsl s1) trivial
 ·obtain ⟨k,hk⟩:∃ k:Nat,p-e=k:=⟨(p-e).toNat,by omega⟩;have hbq:bl (q / 2 ^ k)<=2000000:=zU (q0e (yG _ _)) Oq;have C3:=qdz (neg:=neg) (inx:=inx) (e:=e) (q:=q) (k:=k) hq Oq Oq Oq;have C4:=@q1u;have C5:=@q7p;have C6:=@q3w;have C7:=@qmq;have hb2:bl (1:Int).natAbs<=1:=by show bl 1<=_; rw [q6K]; omega
  have hm:qpq q e p inx=q / 2 ^ k+(if ¬ (q % 2 ^ k=0/\inx=false)/\(0 < Go.Sp.hf q k inx\/(Go.Sp.hf q k inx=0/\q / 2 ^ k % 2=1)) then 1 else 0):=by
   unfold qpq; rw [if_neg hpe,show (p-e).toNat=k by omega]
  generalize qpq q e p inx=m at *;generalize Go.Sp.hf q k inx=H at *;generalize hr:q % 2 ^ k=r at *;generalize hz:q / 2 ^ k=z at *;have hbz:bl ((z:Int)+1).natAbs<=2000001:=by
   have:=q4N (k:=2000000) (a:=z) (b:=1) (by omega) (by rw [q6K]; omega);exact this
  have e2:((z+1:Nat):Int)=(z:Int)+1:=rfl;refine ac0 Tryz.func271 Tryz.ntmps271 [.cell 6 46] ?_
  by_cases hex:r=0/\inx=false
  ·have f:(decide (r=0) && !inx)=true:=by simp [hex]
   rw [if_neg λh=>h.1 hex,z6] at hm;subst hm;cases neg
   ·exact wk1 (x3 hk f s0) trivial
   ·exact wk1 (x3 hk f s1) trivial
  ·have f:(decide (r=0) && !inx)=false:=by
    rw [xE]
    by_cases h:r=0
    ·exact .inr (by cases inx <;> simp_all)
    ·exact .inl (decide_eq_false h)
   by_cases hh:0 < H
   ·rw [if_pos ⟨hex,.inl hh⟩] at hm;subst hm;cases neg
    ·exact wk1 (x4 hk f s0 e2) trivial
    ·exact wk1 (x4 hk f s1 e2) trivial
   ·by_cases h0:H=0
    ·by_cases hodd:z % 2=1
     ·rw [if_pos ⟨hex,.inr ⟨h0,hodd⟩⟩] at hm;subst hm;have q3:(((z:Nat):Int).sign != 0)=true:=by rw [uG (by omega)]; rfl
      have q4:(((tz z:Nat):Int) == 0)=true:=by rw [qbI hodd]; rfl
      cases neg
      ·exact wk1 (x6 hk f q3 q4 s0 e2) trivial
      ·exact wk1 (x6 hk f q3 q4 s1 e2) trivial
     ·rw [if_neg λh=>h.2.elim hh λh=>hodd h.2,z6] at hm;subst hm
      by_cases hz0:m=0
      ·have q3:(((m:Nat):Int).sign != 0)=false:=by rw [hz0]; rfl
       cases neg
       ·exact wk1 (x4 hk f q3 s0) trivial
       ·exact wk1 (x4 hk f q3 s1) trivial
      ·have q3:(((m:Nat):Int).sign != 0)=true:=by rw [uG (by omega)]; rfl
       have q4:(((tz m:Nat):Int) == 0)=false:=by
        rw [beq0];refine decide_eq_false λh0=>hodd ?_;obtain ⟨r,hr,he⟩:=q2h hz0;rw [h0,y7,uN] at he;omega
       cases neg
       ·exact wk1 (x5 hk f q3 q4 s0) trivial
       ·exact wk1 (x5 hk f q3 q4 s1) trivial
    ·rw [if_neg λh=>h.2.elim hh λh=>h0 h.1,z6] at hm;subst hm;cases neg
     ·exact wk1 (x3 hk f s0) trivial
     ·exact wk1 (x3 hk f s1) trivial
end
def qdw {a b:Int} (hA:q0U a) (hB:q0U b) (ha:a≠0) (hb:b≠0):∃ k:Nat,(bl (od b).natAbs+58 < bl ((od a).natAbs*2 ^ k)/\k<=140000/\bl ((od a).natAbs*2 ^ k)<=140000) /\
  ACt 274 [dT a,dT b,iv 56] (reT (decide (a < 0) != decide (b < 0)) ((od a).natAbs*2 ^ k / (od b).natAbs) (dyE a-k-dyE b) (decide ((od a).natAbs*2 ^ k % (od b).natAbs≠0))):=by
 obtain ⟨ha1,ha2,ha3⟩:=q0x hA;obtain ⟨hb1,hb2,hb3⟩:=q0x hB;have hoa:=q3a ha;have hob:=q3a hb;rw [<- q1s a,<- q1s b];have C1:=@q3O;have C2:=@q5u;have C3:=@q3A;have C4:=@qdT;have C5:=@q3w;obtain ⟨p,hp⟩:∃ p,(od a).natAbs=p:=⟨_,rfl⟩;obtain ⟨r,hr⟩:∃ r,(od b).natAbs=r:=⟨_,rfl⟩;have hbp:=hp ▸ ha3;have hbr:=hr ▸ hb3;rw [hp,hr];have hp0:p≠0:=by omega
 have hr0:r≠0:=by omega
 obtain ⟨k,hk⟩:∃ k:Nat,max 0 (56+3+((bl r:Nat):Int)-((bl p:Nat):Int))=k:=⟨(max 0 (56+3+((bl r:Nat):Int)-((bl p:Nat):Int))).toNat,by omega⟩;have hbN:bl (p*2 ^ k)=bl p+k:=q0z hp0 k;refine ⟨k,⟨by omega,by omega,by omega⟩,?_⟩;have hsh:shI ((p:Nat):Int) (k:Int)=((p*2 ^ k:Nat):Int):=by
  unfold shI; rw [if_pos (by omega),zG,<- q0V]; simp
 have hml:bl (p*2 ^ k % r)<=300000:=zU (q0e (xJ _ _)) Oq;have sE:(((p*2 ^ k % r:Nat):Int).sign != 0)=decide (p*2 ^ k % r≠0):=by
  by_cases h0:p*2 ^ k % r=0
  ·rw [h0]; rfl
  ·rw [decide_eq_true h0,bne_iff_ne];intro h; exact h0 (by have:=zJ.1 h; omega)
 refine ac0 Tryz.func274 Tryz.ntmps274 [.cell 6 213] ?_;exact wk1 (x6 hp hr @qmf hk hsh sE) trivial
def clD {l:List Int}:ClL (l.map λx=>dT x):=λx hx=>by
 obtain ⟨z,_,rfl⟩:=zM.1 hx;intro y hy;simp at hy
 rcases hy with rfl | rfl | rfl | rfl <;> trivial
def q7B {l:List Int} (hn:l.length<=1000) (ho:∀ x ∈ l,q0U x) (hv:q0U (q1M l)):ACt 166 [.sl (some 4) (l.map λV=>pV V)] (dT (q1M l)):=by
 refine ac0 Tryz.func166 Tryz.ntmps166 [.cell 2 48] ?_;refine wk ?_;refine q0B (λq:Nat × Int=>q.1<=l.length /\ -65536<=q.2/\q.2<=0/\∀ x ∈ l.take q.1,q.2<=dyE x) [0,2,12,13] [2] Lk Lk (λq=>[(14,iv q.1),(4,iv q.2),(3,.ow 1001 (some 4) 0 q.1)]) (λq=>[(1001,⟨48,some 4,(l.take q.1).map λx=>dT x,false⟩)]) (λq=>l.length-q.1) (0,0) ⟨zF _,by omega,by omega,λx hx=>by simp at hx⟩ ?_ ?_
 ·refine LeM [(1001,none)] rfl rfl ?_;refine Zz ?_
  rfl
 ·rintro ⟨i,lo⟩ ⟨hi,hlo1,hlo2,hmin⟩;simp only at hi hlo1 hlo2 hmin ⊢
  by_cases hlt:i < l.length
  ·obtain ⟨x,hxi⟩:∃ x,l[i]?=some x:=⟨_,zA Oq⟩;have hox:=ho x (zD hxi);obtain ⟨hd1,hd2,hd3⟩:=q0x hox;have C1:=qnd (by kernel_rfl) λh=>q9g h (V:=x);have htk:l.take (i+1)=l.take i ++ [x]:=by
    obtain ⟨hlt,he⟩:=zB.1 hxi;rw [zR hlt,he]
   have ht:(l.take i).length=i:=by rw [List.length_take]; omega
   refine wk1 (x3 hxi @qme ht) ?_;refine ⟨(i+1,min lo (dyE x)),⟨by simp only; omega,by simp only; omega,by simp only; omega,λy hy=>?_⟩,by simp only; omega,?_⟩
   ·simp only at hy ⊢;rw [htk] at hy
    rcases zO.1 hy with hy | hy
    ·have:=hmin y hy; omega
    ·simp at hy; subst hy; omega
   ·simp only;refine LeM [(1001,some 33)] rfl rfl ?_;refine Zz ?_;exact ⟨by omega,q0F (by rw [htk,yO]; rfl) clD⟩
  ·obtain rfl:i=l.length:=by omega
   rw [zQ] at hmin;refine wk ?_;refine q0B (λq:Nat × Int=>q.1<=l.length/\q.2*(2:Int) ^ (lo+65536).toNat=q1M (l.take q.1)) [2,4,9,35,36] [2,1001] Lk Lk (λq=>[(37,iv q.1)]) (λq=>[(9,⟨46,some 2,[bT q.2],false⟩)]) (λq=>l.length-q.1) (0,0) ⟨zF _,by rw [yA]; rfl⟩ ?_ ?_
   ·refine LeM [] rfl rfl ?_;refine Zz ?_;exact ⟨rfl,rfl,q0F rfl clD⟩
   ·rintro ⟨j,tot⟩ ⟨hj,hs⟩;simp only at hj hs ⊢;have hbs:=qlu (i:=j) ho Oq;have hbt:=q4L hs
    by_cases hlt:j < l.length
    ·obtain ⟨x,hxi⟩:∃ x,l[j]?=some x:=⟨_,zA Oq⟩;have hox:=ho x (zD hxi);obtain ⟨hd1,hd2,hd3⟩:=q0x hox;have hst:=q5c l j x hxi;have hlo:=hmin x (zD hxi);have hsh:shI (od x) (dyE x-lo)=od x*(2:Int) ^ (dyE x-lo).toNat:=by unfold shI; rw [if_pos (by omega)]
     have hlf:=q1t (V:=x) (E:=lo) Oq Oq;have hb12:=q4L hlf;have hbx:bl x.natAbs<=131072:=hox;have C1:=@q3A;have C2:=@q7p;refine wk1 (x2 hxi hsh) ?_;refine ⟨(j+1,tot+od x*(2:Int) ^ (dyE x-lo).toNat),⟨by simp only; omega,by simp only; rw [hst,xS,hs,hlf]⟩,by simp only; omega,?_⟩;simp only;refine LeM [] rfl rfl ?_;refine Zz ?_;exact ⟨by omega,q0F rfl clD⟩
    ·obtain rfl:j=l.length:=by omega
     rw [zQ] at hs hbs hbt;have C1:=@q3j;have hmk:mkV tot lo=some (q1M l):=by rw [q3M (by omega) hs]; exact q1b hv
     exact wk trivial
section
variable {f:Nat} {neg:Bool}
def q6A (hf:f < 18446744073709551616):ACt 213 [uv f] (.tu [iv (f / 4503599627370496 % 2048:Nat),uv (f % 4503599627370496:Nat)]):=by
 have h1:=q4P (a:=f / 4503599627370496) Oq;have h2:=q8F hf;refine ac0 Tryz.func213 Tryz.ntmps213 [.tmp 2,.tmp 3] ?_;exact wk1 (x2 h1 h2) trivial
def qqv (hf:f < 18446744073709551616):ACt 253 [uv f] (bv (decide (9223372036854775808<=f))):=by
 have h2:=qaK hf;refine ac0 Tryz.func253 Tryz.ntmps253 [.tmp 2] ?_;exact wk1 h2 trivial
def q16 (hf:f < 9223372036854775808):ACt 272 [uv f,bv neg] (uv (sb neg f:Nat)):=by
 have h:=qf2 hf;refine ac0 Tryz.func272 Tryz.ntmps272 [.tmp 4] ?_;cases neg
 ·exact wk1 (show sb false f=f from rfl) trivial
 ·exact wk1 (x2 h (show sb true f=f+9223372036854775808 from rfl)) trivial
def qa3 (hf:f < 18446744073709551616):ACt 118 [uv f] (bv (decide (q0I f))):=by
 have C1:=q6A hf;have h2:(((f / 4503599627370496 % 2048:Nat):Int) != 2047)=decide (q0I f):=bneN (b:=2047);refine ac0 Tryz.func118 Tryz.ntmps118 [.tmp 2] ?_;exact wk1 h2 trivial
def qkc:ACt 273 [bv neg,iv 0] (uv (q6i 0 neg:Nat)):=by
 have C1:=q16 (f:=9218868437227405312) (neg:=neg) Oq;have e:q6i 0 neg=sb neg 9218868437227405312:=by simp [q6i]
 refine ac0 Tryz.func273 Tryz.ntmps273 [.tmp 4] ?_;exact wk1 e trivial
def q4t {V:Int} (hf:f < 18446744073709551616) (hv:ofF f=some V):ACt 164 [uv f] (dT V):=by
 have hfin:q0I f:=λh=>by unfold ofF at hv; rw [if_pos h] at hv; cases hv
 obtain ⟨V',hv',hmk⟩:=qaI hfin;rw [hv] at hv'; cases hv';have C1:=q6A hf;have C2:=qqv hf;have C3:=@q1u;have C4:=@q7o;have C5:=@q3j;have hxm:=yP (f / 4503599627370496) (show 0 < 2048 by omega);have hm:=yP f (show 0 < 4503599627370496 by omega);unfold q0I at hfin;generalize f / 4503599627370496 % 2048=x at *;generalize f % 4503599627370496=m at *;generalize decide (9223372036854775808<=f)=sg at *;have h4:=qm7 hm;obtain ⟨M,hM⟩:∃ M,M=if x=0 then m else 4503599627370496+m:=⟨_,rfl⟩
 have hMl:M < 9007199254740992:=by rw [hM]; split <;> omega
 have hbl:bl M<=53:=q0N (show M < 2 ^ 53 by omega);have hbn:bl (-(M:Int)).natAbs<=53:=by rw [yU]; exact hbl
 refine ac0 Tryz.func164 Tryz.ntmps164 [.cell 2 48] ?_
 by_cases hx0:x=0
 ·rw [if_pos hx0] at hM;subst hM;rw [if_pos hx0,if_pos hx0] at hmk;cases sg
  ·exact wk trivial
  ·exact wk trivial
 ·rw [if_neg hx0] at hM;rw [if_neg hx0,if_neg hx0,<- hM] at hmk;rw [<- hM] at h4;cases sg
  ·exact wk1 h4 trivial
  ·exact wk1 h4 trivial
end
def qgJ {a:Int} {s:Bool} (hs:s=decide (a < 0)) (h0:0<=a) (ha:a<=9223372036854775807):ACt 270 [sT s a] (.tu [iv a,bv true]):=q2x (qji hs h0 ha)
def qa0 {N M:Nat} {neg:Bool} {e:Int} (hM:0 < M) (hN:M<=N) (hmb:N % M≠0->55<=bl (N / M)) (hb:bl (N / M)<=200000) (he1 : -400000<=e) (he2:e<=400000):ACt 183 [reT neg (N / M) e (decide (N % M≠0)),iv 0] (uv (rE 0 neg N M e:Nat)):=by
 have hp:=xI hN hM;have hL1:=q4M (n:=N / M) Oq;have hval:=qdH (mode:=0) (neg:=neg) (e:=e) hM hN;have hnle:=qjP (mode:=0) (neg:=neg) (e:=e) (q:=max (e+(bl (N / M):Int)-53) (-1074)) hM hN Oq;have hmul:=qpp (neg:=neg) (e:=e) (p:=max (e+(bl (N / M):Int)-53) (-1074)) hM (λh=>by have:=hmb h; omega);have C1:=qbC (neg:=neg) (q:=N / M) (e:=e) (inx:=decide (N % M≠0)) Oq Oq Oq;obtain ⟨L,hL⟩:∃ L,bl (N / M)=L:=⟨_,rfl⟩;rw [hL] at hmb hb hval hnle hmul hL1 C1;obtain ⟨q,hq⟩:∃ q,max (e+(L:Int)-53) (-1074)=q:=⟨_,rfl⟩;rw [hq] at hval hnle hmul;have hq':max (e+(L:Int)-1-52) (-1074)=q:=by omega
 have C2:=qiU (neg:=neg) (inx:=decide (N % M≠0)) (q:=N / M) (e:=e) (p:=q) Oq Oq Oq Oq Oq Oq;rw [hmul] at C2;obtain ⟨r,hr⟩:∃ r,rq 0 neg (N*2 ^ (e-q).toNat) (M*2 ^ (q-e).toNat)=r:=⟨_,rfl⟩;rw [hr] at hval hnle C2;have hbr:bl r<=54:=q0N (yQ hnle (by decide));have hsn:=q1N neg r;have hbs:bl (sgn neg r).natAbs<=54:=by rw [hsn]; exact hbr
 have C3:=@q5u;have C4:=@qgJ;have C5:=@q16;have C6:=@qkc;have e2:IntKind.u64.wrap ((r:Nat):Int)=r:=u64_in Oq Oq;rw [hval];generalize N / M=d at *;generalize decide (N % M≠0)=ix at *;clear hmul hmb hp hval hr;unfold Go.Sp.fin Go.Sp.q4Y;have comp:∀ (q2:Int) (n2:Nat),0<=q2+1075->¬ 2047<=q2+1075->4503599627370496<=n2->n2 < 9007199254740992->∃ x:Nat,q2+1075=x/\(q2+1075).toNat=x/\IntKind.u64.wrap (x:Int)=x/\(q1A Tryz.prog .shl 33 (.int .u64 (x:Int)) (.int .u64 52)=some (.int .u64 ((x*4503599627370496:Nat):Int)))/\IntKind.u64.wrap ((n2:Int)-4503599627370496)=((n2-4503599627370496:Nat):Int)/\q0o .or .u64 ((x*4503599627370496:Nat):Int) ((n2-4503599627370496:Nat):Int)=((x*4503599627370496+(n2-4503599627370496):Nat):Int)/\x*4503599627370496+(n2-4503599627370496) < 9223372036854775808:=λq2 n2 h1 h2 h3 h4 =>
  ⟨(q2+1075).toNat,by omega,rfl,u64_in (by omega) (by omega),q7U (by omega),by rw [u64_in (by omega) (by omega)]; omega,qf3 (by omega) (by omega),by omega⟩
 refine ac0 Tryz.func183 Tryz.ntmps183 [.tmp 4] ?_
 by_cases h53:r=9007199254740992
 ·rw [if_pos h53,if_neg (by omega)]
  by_cases hov:2047<=q+1+1075
  ·rw [if_pos hov];exact wk1 (x3 hq' hsn e2) trivial
  ·rw [if_neg hov];obtain ⟨x,f1,f2,f3,f4,f5,f6,f7⟩:=comp (q+1) 4503599627370496 Oq hov Oq Oq;rw [f2,yZ,z6];rw [yZ,z6] at f6 f7;replace f5:IntKind.u64.wrap (4503599627370496-4503599627370496)=0:=f5;replace f6:q0o .or .u64 ((x*4503599627370496:Nat):Int) 0=((x*4503599627370496:Nat):Int):=f6;exact wk1 (x6 hq' hsn e2 f1 f3 (x3 f4 f5 f6)) trivial
 ·rw [if_neg h53]
  by_cases h52:r < 4503599627370496
  ·rw [if_pos h52];exact wk1 (x3 hq' hsn e2) trivial
  ·rw [if_neg h52]
   by_cases hov:2047<=q+1075
   ·rw [if_pos hov];exact wk1 (x3 hq' hsn e2) trivial
   ·rw [if_neg hov];obtain ⟨x,f1,f2,f3,f4,f5,f6,f7⟩:=comp q r Oq hov Oq Oq;rw [f2];exact wk1 (x6 hq' hsn e2 f1 f3 (x3 f4 f5 f6)) trivial
end Go.Proofs.YtpbaikoblfcmdaaGreatDoor
namespace Go.E
open Go
section
variable {G:Fam} {D:Nat->Prop} {A:Option Addr} {v:Value} {w w':World} {L:List Nat} {α:Type} {H:α->Fam} {T sz B n c:Nat} {l:List α}
end
end Go.E
namespace Go.Proofs.YtpbaikoblfcmdaaGreatDoor
open Go Go.E Go.Sp
section
variable {f:Nat} {w:World}
end
section
variable {g:FuncId} {al:List PV} {vs:List Value} {V:Int} {c:Value} {D:Nat->Prop} {w:World} {v v':Value} {a b:Int}
end
def q03 (l:List Nat):Prop:=∀ f ∈ l,f < 18446744073709551616/\q0I f
section
variable {D:Nat->Prop} {A:Option Addr} {n c:Nat} {l:List Nat} {w:World}
def q86 (n:Nat):List Int:=(List.range n).map λk:Nat=>(k:Int)
def qeH (n:Nat):q86 (n+1)=q86 n ++ [(n:Int)]:=by unfold q86; rw [xC,yO]; rfl
def q7I (n:Nat):(q86 n).length=n:=by simp [q86]
end
end Go.Proofs.YtpbaikoblfcmdaaGreatDoor
namespace Go.E
open Go
end Go.E
namespace Go.Proofs.YtpbaikoblfcmdaaGreatDoor
open Go Go.E Go.Sp
section
variable {D:Nat->Prop} {A:Option Addr} {n c:Nat} {l:List Int} {w:World}
end
end Go.Proofs.YtpbaikoblfcmdaaGreatDoor
namespace Go.E
open Go Go.Sp
section
variable {D:Nat->Prop} {A:Option Addr} {n c:Nat} {w:World}
end
end Go.E
namespace Go.Proofs.YtpbaikoblfcmdaaGreatDoor
open Go Go.E Go.Sp
structure Fac where
 pm:List Int
 cp:List Int
 ri:List Int
 vs:List Nat
section
variable {D:Nat->Prop} {L:List Nat} {N0 g n:Nat} {rows:List (List Int)} {ss:List (Option Addr × Nat × Nat)} {w w':World}
end
section
variable {D:Nat->Prop} {L:List Nat} {N0 g n i:Nat} {rows:List (List Int)} {ss:List (Option Addr × Nat × Nat)} {w w2 w3:World} {A A':Option Addr} {m c m' c':Nat} {r r':List Int}
end
section
variable {D:Nat->Prop} {L:List Nat} {N0 g n i:Nat} {rows:List (List Int)} {ss:List (Option Addr × Nat × Nat)} {w w2 w3:World} {r:List Int} {x y:Nat} {a b V:Int}
end
def rows0 (vals:List Int) (i n:Nat):List (List Int):=(vals.take i).map (λV=>[V]) ++ List.replicate (n-i) []
end Go.Proofs.YtpbaikoblfcmdaaGreatDoor
namespace Go.Sp
open Go Go.E
end Go.Sp
namespace Go.Proofs.YtpbaikoblfcmdaaGreatDoor
open Go.Sp
end Go.Proofs.YtpbaikoblfcmdaaGreatDoor
namespace Go.Sp
open Go Go.E
def ofZ (x:Nat):Int:=(ofF x).getD 0
def q1P (x y:Nat):Int:=(mkV (ofZ x*ofZ y) (-131072)).getD 0
def q2H {f:Nat} (hf:q0I f):∃ (m:Int) (k:Nat),ofF f=some (m*(2:Int) ^ k)/\bl m.natAbs<=53/\64462<=k/\k<=66507:=by
 unfold q0I at hf;have hx:=yP (f / 4503599627370496) (show 0 < 2048 by omega);have hm:=yP f (show 0 < 4503599627370496 by omega);unfold ofF;rw [if_neg hf];generalize f / 4503599627370496 % 2048=x at *;generalize f % 4503599627370496=m at *;have h53:∀ n:Nat,n < 9007199254740992->bl n<=53:=λn h=>q0N (uL h (zW _))
 split
 ·exact ⟨_,64462,rfl,by rw [q1N]; exact h53 _ Oq,by omega,by omega⟩
 ·exact ⟨_,64461+x,rfl,by rw [q1N]; exact h53 _ Oq,by omega,by omega⟩
def q01 {f:Nat} {V:Int} (h:ofF f=some V):ofZ f=V:=by unfold ofZ; rw [h]; rfl
def q0T {f:Nat} (hf:q0I f):ofF f=some (ofZ f):=by
 obtain ⟨m,k,h,_⟩:=q2H hf;rw [q01 h,h]
def q13 {f:Nat} (hf:q0I f):bl (ofZ f).natAbs<=67600:=by
 obtain ⟨m,k,h,h1,h2,h3⟩:=q2H hf;rw [q01 h]
 by_cases hm:m=0
 ·subst hm; rw [yA]; simp [q07]
 ·rw [q0G,q0z (by omega)]; omega
def q0m {x y:Nat} (hx:q0I x) (hy:q0I y):mkV (ofZ x*ofZ y) (-131072)=some (q1P x y)/\bl (q1P x y).natAbs<=67600:=by
 obtain ⟨m,k,h,h1,h2,h3⟩:=q2H hx;obtain ⟨m',k',h',h1',h2',h3'⟩:=q2H hy;have e:ofZ x*ofZ y=m*m'*(2:Int) ^ (k+k'):=by
  rw [q01 h,q01 h',xT];simp only [uI,Int.mul_left_comm,y8]
 unfold q1P;rw [e,q1f]
 by_cases hM:m*m'=0
 ·rw [hM,q1a]; exact ⟨rfl,by simp [q07]⟩
 ·have hb:bl (m*m').natAbs<=106:=by
   rw [uH];exact zU (q11 _ _) Oq
  generalize m*m'=M at *;have ht:=qi4 (n:=M.natAbs) Oq;unfold mkV;rw [if_neg hM,if_pos (by omega)];refine ⟨rfl,?_⟩;have ho:=q9W hM;have hne:=q3a hM;rw [yL,q0G,q0z (by omega)];omega
end Go.Sp
namespace Go.Proofs.YtpbaikoblfcmdaaGreatDoor
open Go Go.E Go.Sp
def getD_some {α:Type} {l:List α} {i:Nat} {x d:α} (h:l[i]?=some x):l.getD i d=x:=by rw [zE,h]; rfl
def qaW {l:List Nat} {i:Nat} (h:∀ x ∈ l,x < 18446744073709551616/\q0I x):l.getD i 0 < 18446744073709551616/\q0I (l.getD i 0):=by
 rw [zE];cases hx:l[i]? with
 | none=>exact ⟨by simp,by unfold q0I; simp⟩
 | some x=>exact h x (zD hx)
def q0w {x:Nat} {V:Int} (hx:x < 18446744073709551616) (hv:ofF x=some V):ACt 55 [uv x] (pV V):=by
 obtain ⟨V',hv',hmk⟩:=qaI (f:=x) λh=>by unfold ofF at hv; rw [if_pos h] at hv; cases hv
 rw [hv] at hv'; cases hv';exact q2C (q2x (qvg hx hv)) (q3t hmk).2.2.2
def clI {l:List Int}:ClL (l.map λz=>iv z):=λx hx=>by
 obtain ⟨e,_,rfl⟩:=zM.1 hx
 trivial

end Go.Proofs.YtpbaikoblfcmdaaGreatDoor
namespace Go.Sp
open Go Go.E
def q6M {a:Nat} (ha:a < 18446744073709551616):q0o .andNot .u64 (a:Int) 9223372036854775808=((a % 9223372036854775808:Nat):Int):=by
 have h2:(BitVec.ofInt 64 (a:Int) &&& ~~~(BitVec.ofInt 64 9223372036854775808)).toNat=a % 9223372036854775808:=by
  rw [show ~~~(BitVec.ofInt 64 9223372036854775808)=BitVec.ofNat 64 9223372036854775807 from rfl,q3Z,BitVec.toNat_and,BitVec.toNat_ofNat,BitVec.toNat_ofNat,yC ha];exact Nat.and_two_pow_sub_one_eq_mod a 63
 show IntKind.u64.wrap ((BitVec.ofInt 64 (a:Int) &&& ~~~(BitVec.ofInt 64 9223372036854775808)).toNat:Int)=_
 rw [h2,q0q];omega
def qbD {a:Nat} (ha:a < 18446744073709551616):q0o .xor .u64 (a:Int) 9223372036854775808=((if a < 9223372036854775808 then a+9223372036854775808 else a-9223372036854775808:Nat):Int):=by
 have h2:(BitVec.ofInt 64 (a:Int) ^^^ BitVec.ofInt 64 9223372036854775808).toNat=if a < 9223372036854775808 then a+9223372036854775808 else a-9223372036854775808:=by
  rw [show BitVec.ofInt 64 9223372036854775808=BitVec.ofNat 64 (2 ^ 63) from rfl,q3Z,BitVec.toNat_xor,BitVec.toNat_ofNat,BitVec.toNat_ofNat,yC ha];have h3:a ^^^ 2 ^ 63=(a % 2 ^ 63)+(if a < 2 ^ 63 then 2 ^ 63 else 0):=by
   apply Nat.eq_of_testBit_eq
   intro i;have hm:a % 2 ^ 63 < 2 ^ 63:=yP _ (by decide);rw [Nat.testBit_xor,Nat.testBit_two_pow];have e:a.testBit 63=decide (2 ^ 63<=a):=by
    rw [Nat.testBit_eq_decide_div_mod_eq]
    congr 1
    rw [eq_iff_iff];omega
   by_cases hlt:a < 2 ^ 63
   ·rw [if_pos hlt,yC hlt,Nat.add_comm];rw [show (2:Nat) ^ 63+a=2 ^ 63*1+a by omega,Nat.testBit_two_pow_mul_add 1 hlt]
    by_cases hi:i < 63
    ·rw [if_pos hi]; simp [Nat.ne_of_gt hi]
    ·rw [if_neg hi,y9 (uL hlt (z7 (by omega) (by omega))),Bool.false_xor]
     by_cases h63:i=63
     ·subst h63; simp
     ·obtain ⟨k,hk⟩:∃ k,i-63=k+1:=⟨i-64,by omega⟩;rw [hk,Nat.testBit_succ]; simp; omega
   ·rw [if_neg hlt,z6,Nat.testBit_mod_two_pow]
    by_cases hi:i < 63
    ·simp [hi,Nat.ne_of_gt hi]
    ·by_cases h63:i=63
     ·subst h63; rw [e]; simp; omega
     ·rw [y9 (uL (show a < 2 ^ 64 by omega) (z7 (by omega) (by omega)))];simp [hi]; omega
  rw [h3]
  split <;> omega
 show IntKind.u64.wrap ((BitVec.ofInt 64 (a:Int) ^^^ BitVec.ofInt 64 9223372036854775808).toNat:Int)=_
 rw [h2,q0q]
 split <;> omega
def q3T (f:Nat):Nat:=f % 9223372036854775808
def q5P (f:Nat):Nat:=if f < 9223372036854775808 then f+9223372036854775808 else f-9223372036854775808
def qbt (f:Nat):Int:=if 9223372036854775808<=f then -(q3T f:Int) else q3T f
def qtH (a b:Int):Int:=if a < b then -1 else if b < a then 1 else 0
def q8I {f:Nat}:q3T f < 9223372036854775808:=yP _ Oq
def qc7 {f:Nat} (h:q0I f):q0I (q3T f):=by unfold q0I q3T at *; omega
def q3N {f:Nat} (h:q0I f):q08 f≠3:=by unfold q0I at h; unfold q08; rw [if_neg λq=>h q.1,if_neg h]; split <;> omega
def q8y {f:Nat} (hf:f < 18446744073709551616):q08 f=0 ↔ q3T f=0:=by
 unfold q08 q3T
 constructor
 ·intro h
  split at h
  ·cases h
  ·split at h
   ·cases h
   ·split at h
    ·omega
    ·cases h
 ·intro h;rw [if_neg (by omega),if_neg (by omega),if_pos (by omega)]
end Go.Sp
namespace Go.Proofs.YtpbaikoblfcmdaaGreatDoor
open Go Go.E Go.Sp
section
variable {f g:Nat}
def q7t (hf:f < 18446744073709551616):ACt 212 [uv f] (iv (q08 f:Nat)):=by
 have C1:=@q6A f hf;unfold q08;generalize f / 4503599627370496 % 2048=x at *;generalize f % 4503599627370496=m at *;refine ac0 Tryz.func212 Tryz.ntmps212 [.tmp 2] ?_
 by_cases hx2:x=2047
 ·by_cases hm0:m=0
  ·rw [if_neg (by simp [hm0]),if_pos hx2];exact wk1 (show ((2:Nat):Int)=2 from rfl) trivial
  ·rw [if_pos ⟨hx2,hm0⟩];exact wk1 (show ((3:Nat):Int)=3 from rfl) trivial
 ·rw [if_neg λh=>hx2 h.1,if_neg hx2]
  by_cases hx0:x=0
  ·by_cases hm0:m=0
   ·rw [if_pos ⟨hx0,hm0⟩];exact wk1 (show ((0:Nat):Int)=0 from rfl) trivial
   ·rw [if_neg λh=>hm0 h.2];exact wk1 (show ((1:Nat):Int)=1 from rfl) trivial
  ·rw [if_neg λh=>hx0 h.1];exact wk1 (show ((1:Nat):Int)=1 from rfl) trivial
def qfG (hf:f < 18446744073709551616):ACt 155 [uv f] (bv (decide (9223372036854775808<=f))):=by
 have h2:=qaK hf;refine ac0 Tryz.func155 Tryz.ntmps155 [.tmp 2] ?_;exact wk1 h2 trivial
def q77 (hf:f < 18446744073709551616) (h:q0I f):ACt 75 [uv f] (bv false):=by
 have:=qfF hf
 rwa [decide_eq_false (q3N h)] at this
def qfI (hf:f < 18446744073709551616):ACt 186 [uv f] (iv (qbt f)):=by
 have C1:=qfG hf;have h1:=q6M hf;have h2:=q8I (f:=f);unfold qbt;rw [show f % 9223372036854775808=q3T f from rfl] at h1;refine ac0 Tryz.func186 Tryz.ntmps186 [.tmp 2] ?_
 by_cases h:9223372036854775808<=f
 ·rw [if_pos h];rw [decide_eq_true h] at C1;exact wk1 (x2 h1 @Int.zero_sub) trivial
 ·rw [if_neg h];rw [decide_eq_false h] at C1;rw [show q3T f=f from yC (by omega)];exact wk trivial
def qpX (hf:f < 18446744073709551616) (h:q0I f):ACt 38 [uv f] (uv (q3T f:Nat)):=by
 have C1:=q77 hf h;have h1:=q6M hf;rw [show f % 9223372036854775808=q3T f from rfl] at h1;refine ac0 Tryz.func38 Tryz.ntmps38 [.tmp 2] ?_;exact wk1 h1 trivial
def qpW (hf:f < 18446744073709551616) (h:q0I f) (hg:g < 18446744073709551616) (hgf:q0I g):ACt 100 [uv f,uv g] (.tu [iv (qtH (qbt f) (qbt g)),bv true]):=by
 have C1:=q77 hf h;have C4:=q77 hg hgf;have C2:=qfI hf;have C3:=qfI hg;unfold qtH;generalize qbt f=x at *;generalize qbt g=y at *;refine ac0 Tryz.func100 Tryz.ntmps100 [.tmp 4,.tmp 5] ?_
 by_cases h1:x < y
 ·rw [if_pos h1];exact wk trivial
 ·rw [if_neg h1]
  by_cases h2:y < x
  ·rw [if_pos h2];exact wk trivial
  ·rw [if_neg h2];exact wk trivial
end
def q41 {a:Int} (ha:bl a.natAbs<=20000000):ACt 140 [bT a] (bT a.natAbs):=q2x (q7b ha)
def q7Q {a:Int} (ha:bl a.natAbs<=20000000):ACt 169 [bT a] (bT (-a)):=q2x (qb8 rfl ha)
def qfn {V:Int} (h:q0U V):mkV (-od V) (dyE V)=some (-V):=by
 have:=qbj (qkk h)
 rwa [qf5,qa6] at this
def qpv {V:Int} (h:q0U V):mkV ((od V).natAbs:Int) (dyE V)=some (V.natAbs:Int):=by
 have hs:=q1s V
 by_cases hv:V < 0
 ·rw [decide_eq_true hv] at hs;have ho:od V < 0:=of_decide_eq_true hs;rw [show ((od V).natAbs:Int) = -od V by omega,show (V.natAbs:Int) = -V by omega];exact qfn h
 ·rw [decide_eq_false hv] at hs;have ho:¬ od V < 0:=of_decide_eq_false hs;rw [show ((od V).natAbs:Int)=od V by omega,show (V.natAbs:Int)=V by omega];exact qbj h
def q4j {V:Int}:ACt 65 [pV V] (pV (-V)):=qnd qxt λho=>by
 have hb:=q28 ho;have h1:=q6C (V:=V);have h2:=q6q ho;have cN:=q0h ho;have cB:=q7Q (a:=od V) Oq;have cM:=q3Q rfl (m := -od V) (e:=dyE V) (by rw [yU]; omega) (by omega) (by omega) (qfn ho);unfold dT at cN ⊢;unfold bT at cB cM;refine ac0 Tryz.func65 Tryz.ntmps65 [.cell 2 48] ?_;exact wk trivial
def q6F {V:Int}:ACt 69 [pV V] (pV (V.natAbs:Int)):=qnd qxr λho=>by
 have hb:=q28 ho;have h1:=q6C (V:=V);have h2:=q6q ho;have cN:=q0h ho;have cB:=q41 (a:=od V) Oq;have cM:=q3Q rfl (m:=((od V).natAbs:Int)) (e:=dyE V) (by rw [zN]; omega) (by omega) (by omega) (qpv ho);unfold dT at cN ⊢;unfold bT at cB cM;refine ac0 Tryz.func69 Tryz.ntmps69 [.cell 2 48] ?_;exact wk trivial
def q0r {a:Int} (ha:bl a.natAbs<=20000000):ACt 171 [bT a] (iv a.sign):=q4G rfl ha
def q59 {a m:Int} (ha:bl a.natAbs<=20000000) (h1 : -1000000000<=m) (h2:m<=1000000000):ACt 172 [bT a,iv m] (bT (shI a m)):=q2s rfl ha h1 h2
structure Aln (A B x y e:Int):Prop where
 e1 : -65536<=e
 e2:e<=65536
 a:x*(2:Int) ^ (e+65536).toNat=A
 b:y*(2:Int) ^ (e+65536).toNat=B
def qfx {x V:Int} {k:Nat} (h:x*(2:Int) ^ k=V) (hv:q0U V):bl x.natAbs<=131072:=by
 subst h;unfold q0U at hv;rw [q0G] at hv
 by_cases h0:x.natAbs=0
 ·rw [h0]; simp [bl]
 ·rw [q0z h0] at hv; omega
def Aln.bl {A B x y e:Int} (h:Aln A B x y e) (ha:q0U A) (hb:q0U B):Sp.bl x.natAbs<=131072/\Sp.bl y.natAbs<=131072:=⟨qfx h.a ha,qfx h.b hb⟩
def q7R {a b:Int} (h1 : -65536<=a/\a<=65536) (h2 : -65536<=b/\b<=65536):IntKind.i64.wrap (a-b)=a-b:=i64_in Oq Oq
def q9P {A B:Int} (hA:q0U A) (hB:q0U B):∃ x y e,ACt 170 [dT A,dT B] (.tu [bT x,bT y,iv e])/\Aln A B x y e:=by
 have a1:=q6C (V:=A);have a2:=q6q hA;have b1:=q6C (V:=B);have b2:=q6q hB;have a3:=q28 hA;have b3:=q28 hB;have sA:=q0r (a:=od A) Oq;have sB:=q0r (a:=od B) Oq;have shA:=q59 (a:=od A) (m:=dyE A-dyE B) Oq Oq Oq;have shB:=q59 (a:=od B) (m:=dyE B-dyE A) Oq Oq Oq;have wA:=q7R (a:=dyE A) (b:=dyE B) Oq Oq;have wB:=q7R (a:=dyE B) (b:=dyE A) Oq Oq;unfold bT at *
 by_cases hA0:od A=0
 ·have e1:((od A).sign == 0)=true:=by rw [hA0]; rfl
  refine ⟨od A,od B,dyE B,?_,⟨b1,by omega,?_,?_⟩⟩
  ·unfold dT;refine ac0 Tryz.func170 Tryz.ntmps170 [.cell 4 46,.cell 5 46,.tmp 6] ?_;exact wk1 e1 trivial
  ·have:A=0:=by
    have:=q1F A;rw [hA0] at this; simpa using this.symm
   rw [hA0,this]; simp
  ·have:=q1t b1 (yX (dyE B));simpa using this
 have e1:((od A).sign == 0)=false:=by simpa [zJ] using hA0
 by_cases hB0:od B=0
 ·have e2:((od B).sign == 0)=true:=by rw [hB0]; rfl
  refine ⟨od A,od B,dyE A,?_,⟨a1,by omega,?_,?_⟩⟩
  ·unfold dT;refine ac0 Tryz.func170 Tryz.ntmps170 [.cell 4 46,.cell 5 46,.tmp 6] ?_;exact wk1 (x2 e1 e2) trivial
  ·have:=q1t a1 (yX (dyE A));simpa using this
  ·have:B=0:=by
    have:=q1F B;rw [hB0] at this; simpa using this.symm
   rw [hB0,this]; simp
 have e2:((od B).sign == 0)=false:=by simpa [zJ] using hB0
 by_cases hlt:dyE B < dyE A
 ·refine ⟨shI (od A) (dyE A-dyE B),od B,dyE B,?_,⟨b1,by omega,?_,?_⟩⟩
  ·unfold dT;refine ac0 Tryz.func170 Tryz.ntmps170 [.cell 4 46,.cell 5 46,.tmp 6] ?_;exact wk1 (x4 e1 e2 hlt wA) trivial
  ·unfold shI;rw [if_pos (by omega)];exact q1t b1 Oq
  ·have:=q1t b1 (yX (dyE B));simpa using this
 ·refine ⟨od A,shI (od B) (dyE B-dyE A),dyE A,?_,⟨a1,by omega,?_,?_⟩⟩
  ·unfold dT;refine ac0 Tryz.func170 Tryz.ntmps170 [.cell 4 46,.cell 5 46,.tmp 6] ?_;exact wk1 (x4 e1 e2 hlt wB) trivial
  ·have:=q1t a1 (yX (dyE A));simpa using this
  ·unfold shI;rw [if_pos (by omega)];exact q1t a1 Oq
def q9V {a b:Int} {k:Nat} (ha:bl a.natAbs<=k) (hb:bl b.natAbs<=k):bl (a-b).natAbs<=k+1:=by
 have h1:=q1h ha;have h2:=q1h hb;exact q9X.2 (by rw [Nat.pow_succ]; omega)
def q2b {a b:Int} {k:Nat} (ha:bl a.natAbs<=k) (hb:bl b.natAbs<=k):bl (a+b).natAbs<=k+1:=by
 have h1:=q1h ha;have h2:=q1h hb;exact q9X.2 (by rw [Nat.pow_succ]; omega)
def qo4 {a b:Int} (ha:bl a.natAbs<=20000000) (hb:bl b.natAbs<=20000000):ACt 139 [bT a,bT b] (bT (a+b)):=q2x (q7a rfl rfl ha hb)
def qeT {a b:Int} (ha:bl a.natAbs<=20000000) (hb:bl b.natAbs<=20000000):ACt 233 [bT a,bT b] (bT (a-b)):=q2x (qb7 rfl rfl ha hb)
def qo3 {a b:Int} (ha:bl a.natAbs<=10000000) (hb:bl b.natAbs<=10000000):ACt 141 [bT a,bT b] (iv (a-b).sign):=by
 have cS:=qeT (a:=a) (b:=b) Oq Oq;have cG:=q0r (a:=a-b) (by have:=q9V ha hb; omega);unfold bT at *;refine ac0 Tryz.func141 Tryz.ntmps141 [.tmp 4] ?_;exact wk trivial
def q4I {V:Int}:ACt 82 [pV V] (iv V.sign):=qnd qxq λho=>by
 have hb:=q28 ho;have cN:=q0h ho;have cS:=q0r (a:=od V) Oq;have es:(od V).sign=V.sign:=by
  conv=>rhs; rw [<- q1F V,xN,uG (q0K _),xR]
 rw [es] at cS;unfold dT at cN ⊢;unfold bT at cS;refine ac0 Tryz.func82 Tryz.ntmps82 [.tmp 2] ?_;exact wk trivial
def Aln.sgn {A B x y e:Int} (h:Aln A B x y e):(x-y).sign=(A-B).sign:=by
 rw [<- h.a,<- h.b,<- Int.sub_mul,xN,uG (q0K _),xR]
def Aln.sum {A B x y e:Int} (h:Aln A B x y e) (ho:q0U (A+B)):mkV (x+y) e=some (A+B):=by
 rw [q3M h.e1 (V:=A+B) (by rw [xS,h.a,h.b]),q1b ho]
def qhK {A B:Int}:ACt 154 [pV A,pV B] (.tu [iv (A-B).sign,bv true]):=qlZ qnX λ⟨hA,hB⟩=>by
 have cA:=q0h hA;have cB:=q0h hB;obtain ⟨x,y,e,cL,hL⟩:=q9P hA hB;obtain ⟨l1,l2⟩:=hL.bl hA hB;have cC:=qo3 (a:=x) (b:=y) Oq Oq;rw [hL.sgn] at cC;unfold dT at cA cB cL ⊢;unfold bT at cL cC;refine ac0 Tryz.func154 Tryz.ntmps154 [.tmp 4,.tmp 5] ?_;exact wk trivial
def q4k {A B:Int} (ho:q0U (A+B)):ACt 68 [pV A,pV B] (pV (A+B)):=qlZ qxs λ⟨hA,hB⟩=>by
 have cA:=q0h hA;have cB:=q0h hB;obtain ⟨x,y,e,cL,hL⟩:=q9P hA hB;obtain ⟨l1,l2⟩:=hL.bl hA hB;have cC:=qo4 (a:=x) (b:=y) Oq Oq;have cM:=q3Q rfl (m:=x+y) (e:=e) (V:=A+B) (by have:=q2b l1 l2; omega) (by have:=hL.e1; omega) (by have:=hL.e2; omega) (hL.sum ho);unfold dT at cA cB cL ⊢;unfold bT at cL cC cM;refine ac0 Tryz.func68 Tryz.ntmps68 [.cell 4 48] ?_;exact wk trivial
section
variable {A B:Int}
def q5Z (hA:q0U A) (hB:q0U B):∃ x y e,ACt 265 [dT A,dT B] (.tu [bT x,bT y,iv e])/\Aln A B x y e:=by
 obtain ⟨a1,a2,a3⟩:=q0x hA;obtain ⟨b1,b2,b3⟩:=q0x hB;have C1:=@q3A;have key:∀ e:Int,e<=dyE A->e<=dyE B -> -65536<=e->e<=65536->Aln A B (shI (od A) (dyE A-e)) (shI (od B) (dyE B-e)) e:=λe h1 h2 h3 h4 =>
  ⟨h3,h4,by unfold shI; rw [if_pos (by omega)]; exact q1t h3 h1,by unfold shI; rw [if_pos (by omega)]; exact q1t h3 h2⟩
 obtain ⟨e,he⟩:∃ e,min (dyE A) (dyE B)=e:=⟨_,rfl⟩;refine ⟨_,_,e,?_,key e Oq Oq Oq Oq⟩;refine ac0 Tryz.func265 Tryz.ntmps265 [.cell 4 46,.cell 5 46,.tmp 6] ?_;exact wk1 he trivial
def q9h (hA:q0U A) (hB:q0U B) (ho:q0U (A+B)):ACt 178 [dT A,dT B] (dT (A+B)):=by
 obtain ⟨x,y,e,C1,hL⟩:=q5Z hA hB;obtain ⟨l1,l2⟩:=hL.bl hA hB;have C2:=q9e hA hB;have C3:=@q7p;have h1:=hL.e1;have h2:=hL.e2;have h3:=q2b l1 l2;have C4:=q3j (m:=x+y) (e:=e) rfl Oq Oq Oq (hL.sum ho);refine ac0 Tryz.func178 Tryz.ntmps178 [.cell 4 48] ?_;exact wk trivial
def qtY (hA:q0U A):ACt 184 [dT A] (reT (decide (od A < 0)) (od A).natAbs (dyE A) false):=by
 have C1:=@q5u;have:=(q0x hA).2.2;refine ac0 Tryz.func184 Tryz.ntmps184 [.cell 2 213] ?_;exact wk trivial
def q46:ACt 124 [pV A] (uv (fR 0 A:Nat)):=by
 have C1:=q3q (V:=A) (mode:=0);refine ac0 Tryz.func124 Tryz.ntmps124 [.tmp 2] ?_;exact wk trivial
end
def q1n (l:List Nat) (i:Nat):Nat:=(l.take i).foldl (λb x=>max b (q3T x)) 0
def qmQ {l:List Nat} {i x:Nat} (h:l[i]?=some x):q1n l (i+1)=max (q1n l i) (q3T x):=by
 obtain ⟨h1,h2⟩:=zB.1 h;unfold q1n;rw [zR h1,List.foldl_append,h2]
 rfl
def q9w {l:List Nat} (hl:q03 l):∀ i,i<=l.length->q1n l i < 9223372036854775808/\q0I (q1n l i)
 | 0,_=>⟨by simp [q1n],by simp [q1n,q0I]⟩
 | i+1,hi=>by
  have ih:=q9w hl i Oq;obtain ⟨x,hx⟩:∃ x,l[i]?=some x:=⟨_,zA Oq⟩;rw [qmQ hx];have:=(hl x (zD hx)).2;have h1:=q8I (f:=x);have h2:=qc7 this
  rcases Nat.le_total (q1n l i) (q3T x) with h | h
  ·rw [Nat.max_eq_right h]; exact ⟨h1,h2⟩
  ·rw [Nat.max_eq_left h]; exact ih
def qbs {f:Nat} (h:f < 9223372036854775808):qbt f=f:=by
 unfold qbt q3T;rw [if_neg (by omega),yC h]
def qkw {a b:Nat} (ha:a < 9223372036854775808) (hb:b < 9223372036854775808):(0 < qtH (qbt a) (qbt b)->max b a=a)/\(¬ 0 < qtH (qbt a) (qbt b)->max b a=b):=by
 rw [qbs ha,qbs hb];unfold qtH
 constructor
 ·intro h
  split at h
  ·omega
  ·split at h
   ·omega
   ·omega
 ·intro h
  split at h
  ·omega
  ·split at h
   ·omega
   ·omega
section
variable {l:List Nat}
def q6z (hl:q03 l) (hn:l.length<=1000000):ACt 314 [pF l] (uv (q1n l l.length:Nat)):=by
 have hs:=q9w hl;refine ac0 Tryz.func314 Tryz.ntmps314 [.tmp 2] ?_;refine wk ?_;refine q0B (λi=>i<=l.length) [0] [] Lk Lk (λi:Nat=>[(4,iv i),(3,uv (q1n l i:Nat))]) (λ_=>[]) (λi=>l.length-i) 0 (zF _) ?_ ?_
 ·refine LeM [] rfl rfl ?_;refine Zz ?_;exact ⟨rfl,rfl⟩
 ·intro i hi
  by_cases hlt:i < l.length
  ·obtain ⟨x,hx⟩:∃ x,l[i]?=some x:=⟨_,zA hlt⟩;obtain ⟨h1,h2⟩:=hl x (zD hx);obtain ⟨h3,h4⟩:=hs i hi;have C1:=q5N h1;have q:(((q08 x:Nat):Int) == 3)=false:=by
    have:=q3N h2;simp; omega
   have C2:=qpX h1 h2;have C3:=qpW (f:=q3T x) (g:=q1n l i) (by have:=q8I (f:=x); omega) (qc7 h2) Oq h4;have hm:=qkw (q8I (f:=x)) h3;have es:=qmQ hx;generalize qtH (qbt (q3T x)) (qbt (q1n l i))=c at *
   by_cases hc:c > 0
   ·rw [hm.1 hc] at es;refine wk1 (x2 hx q) ?_;refine ⟨i+1,by omega,by omega,?_⟩;rw [es];refine LeM [] rfl rfl ?_;refine Zz ?_;omega
   ·rw [hm.2 hc] at es;refine wk1 (x2 hx q) ?_;refine ⟨i+1,by omega,by omega,?_⟩;rw [es];refine LeM [] rfl rfl ?_;refine Zz ?_;omega
  ·obtain rfl:i=l.length:=by omega
   exact wk trivial
end
end Go.Proofs.YtpbaikoblfcmdaaGreatDoor
namespace Go.Sp
open Go.E
def awy (mode:Int) (neg:Bool):Bool:=if mode=1 then neg else !neg
def qps (mode:Int) (neg:Bool) (q:Nat) (e p:Int) (inx:Bool):Nat :=
 if p<=e then q*2 ^ (e-p).toNat
 else q / 2 ^ (p-e).toNat+(if ¬ (q % 2 ^ (p-e).toNat=0/\inx=false)/\awy mode neg=true then 1 else 0)
def qpr {mode:Int} {neg:Bool} {N M:Nat} {e p:Int} (hm:mode=1\/mode=2) (hM:0 < M) (hk:N % M≠0->e < p):qps mode neg (N / M) e p (decide (N % M≠0))=rq mode neg (N*2 ^ (e-p).toNat) (M*2 ^ (p-e).toNat):=by
 unfold qps
 by_cases hpe:p<=e
 ·rw [if_pos hpe,show (p-e).toNat=0 by omega,y7,uN];have hr:N % M=0:=by
   rcases Nat.eq_zero_or_pos (N % M) with h | h
   ·exact h
   ·have:=hk (by omega); omega
  have hd:N=N / M*M:=by have:=xB N M; rw [yY] at this; omega
  rw [q3F (by rw [hd,yR]; exact Nat.mul_mod_left _ _)]
  conv=>rhs; rw [hd,yR,Nat.mul_div_cancel _ hM]
 ·rw [if_neg hpe,show (e-p).toNat=0 by omega,y7,uN];have hk0:0 < (p-e).toNat:=by omega
  rw [qet hM (λ_=>hk0)];have hu:upS mode neg (qaU N M (p-e).toNat) (decide (N / M / 2 ^ (p-e).toNat % 2=1))=awy mode neg:=by
   unfold upS awy
   rcases hm with rfl | rfl
   ·rfl
   ·rfl
  rw [hu]
  congr 1
  refine qgD (and_congr ?_ Iff.rfl) _ _;rw [decide_eq_false_iff_not,Decidable.not_not]
  constructor
  ·intro h
   by_cases h0:N / M % 2 ^ (p-e).toNat=0
   ·exact .inr λh1=>h ⟨h0,h1⟩
   ·exact .inl h0
  ·rintro (h | h) ⟨h1,h2⟩
   ·exact h h1
   ·exact h h2
end Go.Sp
namespace Go.Proofs.YtpbaikoblfcmdaaGreatDoor
open Go Go.E Go.Sp
section
variable {neg inx:Bool} {q:Nat} {e p mode:Int}
def qdy (hm:mode=1\/mode=2) (hq:q≠0) (hb:bl q<=900000) (he1 : -900000<=e) (he2:e<=900000) (hp1 : -100000<=p) (hp2:p<=1000000):ACt 271 [reT neg q e inx,iv p,iv mode] (bT (sgn neg (qps mode neg q e p inx))):=by
 have C1:=@q3A;have C2:=@q7o;have s0:∀ n:Nat,sgn false n=n:=λn=>rfl;have s1:∀ n:Nat,sgn true n = -(n:Int):=λn=>rfl
 by_cases hpe:p<=e
 ·have hsl:shI ((q:Nat):Int) (e-p)=((q*2 ^ (e-p).toNat:Nat):Int):=by
   unfold shI; rw [if_pos (by omega),<- q0V]; simp
  have hbq:bl (q*2 ^ (e-p).toNat)<=2000000:=by rw [q0z hq]; omega
  rw [show qps mode neg q e p inx=q*2 ^ (e-p).toNat from if_pos hpe];generalize q*2 ^ (e-p).toNat=z at *;refine ac0 Tryz.func271 Tryz.ntmps271 [.cell 6 46] ?_;cases neg
  ·exact wk1 (x2 hsl s0) trivial
  ·exact wk1 (x2 hsl s1) trivial
 ·obtain ⟨k,hk⟩:∃ k:Nat,p-e=k:=⟨(p-e).toNat,by omega⟩;have hbq:bl (q / 2 ^ k)<=2000000:=zU (q0e (yG _ _)) Oq;have C3:=qdz (neg:=neg) (inx:=inx) (e:=e) (q:=q) (k:=k) hq Oq Oq Oq;have C4:=@q1u;have C5:=@q7p;have hb2:bl (1:Int).natAbs<=1:=by show bl 1<=_; rw [q6K]; omega
  have hm2:qps mode neg q e p inx=q / 2 ^ k+(if ¬ (q % 2 ^ k=0/\inx=false)/\awy mode neg=true then 1 else 0):=by
   unfold qps; rw [if_neg hpe,show (p-e).toNat=k by omega]
  generalize qps mode neg q e p inx=m at *;generalize Go.Sp.hf q k inx=H at *;generalize hr:q % 2 ^ k=r at *;generalize hz:q / 2 ^ k=z at *;have hbz:bl ((z:Int)+1).natAbs<=2000001:=by
   have:=q4N (k:=2000000) (a:=z) (b:=1) (by omega) (by rw [q6K]; omega);exact this
  have e2:((z+1:Nat):Int)=(z:Int)+1:=rfl
  by_cases hex:r=0/\inx=false
  ·have f:(decide (r=0) && !inx)=true:=by simp [hex]
   rw [if_neg λh=>h.1 hex,z6] at hm2;subst hm2;refine ac0 Tryz.func271 Tryz.ntmps271 [.cell 6 46] ?_;cases neg
   ·exact wk1 (x3 hk f s0) trivial
   ·exact wk1 (x3 hk f s1) trivial
  ·have f:(decide (r=0) && !inx)=false:=by
    rw [xE]
    by_cases h:r=0
    ·exact .inr (by cases inx <;> simp_all)
    ·exact .inl (decide_eq_false h)
   rcases hm with rfl | rfl
   ·cases neg
    ·rw [if_neg λh=>y6 h.2,z6] at hm2;subst hm2;refine ac0 Tryz.func271 Tryz.ntmps271 [.cell 6 46] ?_;exact wk1 (x3 hk f s0) trivial
    ·rw [if_pos ⟨hex,rfl⟩] at hm2;subst hm2;refine ac0 Tryz.func271 Tryz.ntmps271 [.cell 6 46] ?_;exact wk1 (x4 hk f s1 e2) trivial
   ·cases neg
    ·rw [if_pos ⟨hex,rfl⟩] at hm2;subst hm2;refine ac0 Tryz.func271 Tryz.ntmps271 [.cell 6 46] ?_;exact wk1 (x4 hk f s0 e2) trivial
    ·rw [if_neg λh=>y6 h.2,z6] at hm2;subst hm2;refine ac0 Tryz.func271 Tryz.ntmps271 [.cell 6 46] ?_;exact wk1 (x3 hk f s1) trivial
def qgo:ACt 273 [bv neg,iv mode] (uv (q6i mode neg:Nat)):=by
 have C1:=q16 (f:=9218868437227405312) (neg:=neg) Oq;have C2:=q16 (f:=9218868437227405311) (neg:=neg) Oq;have e:q6i mode neg=sb neg (if mode=3\/mode=1/\neg=false\/mode=2/\neg=true then 9218868437227405311 else 9218868437227405312):=by
  unfold q6i;cases neg <;> simp <;> split <;> rfl
 rw [e];clear e;refine ac0 Tryz.func273 Tryz.ntmps273 [.tmp 4] ?_
 by_cases m3:mode=3
 ·rw [if_pos (.inl m3)];exact wk trivial
 ·by_cases m1:mode=1
  ·have m2:mode≠2:=by omega
   cases neg
   ·rw [if_pos (.inr (.inl ⟨m1,rfl⟩))];exact wk trivial
   ·rw [if_neg (by simp [m1])];exact wk trivial
  ·by_cases m2:mode=2
   ·cases neg
    ·rw [if_neg (by simp [m2])];exact wk trivial
    ·rw [if_pos (.inr (.inr ⟨m2,rfl⟩))];exact wk trivial
   ·rw [if_neg (by simp [m1,m2,m3])];exact wk trivial
def q4s {N M:Nat} (hm:mode=0\/mode=1\/mode=2) (hM:0 < M) (hN:M<=N) (hmb:N % M≠0->55<=bl (N / M)) (hb:bl (N / M)<=200000) (he1 : -400000<=e) (he2:e<=400000):ACt 183 [reT neg (N / M) e (decide (N % M≠0)),iv mode] (uv (rE mode neg N M e:Nat)):=by
 rcases hm with rfl | hm
 ·exact qa0 hM hN hmb hb he1 he2
 have hp:=xI hN hM;have hL1:=q4M (n:=N / M) Oq;have hval:=qdH (mode:=mode) (neg:=neg) (e:=e) hM hN;have hnle:=qjP (mode:=mode) (neg:=neg) (e:=e) (q:=max (e+(bl (N / M):Int)-53) (-1074)) hM hN Oq;have hmul:=qpr (neg:=neg) (e:=e) (p:=max (e+(bl (N / M):Int)-53) (-1074)) hm hM (λh=>by have:=hmb h; omega);have C1:=qbC (neg:=neg) (q:=N / M) (e:=e) (inx:=decide (N % M≠0)) Oq Oq Oq;obtain ⟨L,hL⟩:∃ L,bl (N / M)=L:=⟨_,rfl⟩;rw [hL] at hmb hb hval hnle hmul hL1 C1;obtain ⟨q,hq⟩:∃ q,max (e+(L:Int)-53) (-1074)=q:=⟨_,rfl⟩;rw [hq] at hval hnle hmul;have hq':max (e+(L:Int)-1-52) (-1074)=q:=by omega
 have C2:=qdy (mode:=mode) (neg:=neg) (inx:=decide (N % M≠0)) (q:=N / M) (e:=e) (p:=q) hm Oq Oq Oq Oq Oq Oq;rw [hmul] at C2;obtain ⟨r,hr⟩:∃ r,rq mode neg (N*2 ^ (e-q).toNat) (M*2 ^ (q-e).toNat)=r:=⟨_,rfl⟩;rw [hr] at hval hnle C2;have hbr:bl r<=54:=q0N (yQ hnle (by decide));have hsn:=q1N neg r;have hbs:bl (sgn neg r).natAbs<=54:=by rw [hsn]; exact hbr
 have C3:=@q5u;have C4:=@qgJ;have C5:=@q16;have C6:=@qgo;have e2:IntKind.u64.wrap ((r:Nat):Int)=r:=u64_in Oq Oq;rw [hval];generalize N / M=d at *;generalize decide (N % M≠0)=ix at *;clear hmul hmb hp hval hr;unfold Go.Sp.fin Go.Sp.q4Y;have comp:∀ (q2:Int) (n2:Nat),0<=q2+1075->¬ 2047<=q2+1075->4503599627370496<=n2->n2 < 9007199254740992->∃ x:Nat,q2+1075=x/\(q2+1075).toNat=x/\IntKind.u64.wrap (x:Int)=x/\(q1A Tryz.prog .shl 33 (.int .u64 (x:Int)) (.int .u64 52)=some (.int .u64 ((x*4503599627370496:Nat):Int)))/\IntKind.u64.wrap ((n2:Int)-4503599627370496)=((n2-4503599627370496:Nat):Int)/\q0o .or .u64 ((x*4503599627370496:Nat):Int) ((n2-4503599627370496:Nat):Int)=((x*4503599627370496+(n2-4503599627370496):Nat):Int)/\x*4503599627370496+(n2-4503599627370496) < 9223372036854775808:=λq2 n2 h1 h2 h3 h4 =>
  ⟨(q2+1075).toNat,by omega,rfl,u64_in (by omega) (by omega),q7U (by omega),by rw [u64_in (by omega) (by omega)]; omega,qf3 (by omega) (by omega),by omega⟩
 refine ac0 Tryz.func183 Tryz.ntmps183 [.tmp 4] ?_
 by_cases h53:r=9007199254740992
 ·rw [if_pos h53,if_neg (by omega)]
  by_cases hov:2047<=q+1+1075
  ·rw [if_pos hov];exact wk1 (x3 hq' hsn e2) trivial
  ·rw [if_neg hov];obtain ⟨x,f1,f2,f3,f4,f5,f6,f7⟩:=comp (q+1) 4503599627370496 Oq hov Oq Oq;rw [f2,yZ,z6];rw [yZ,z6] at f6 f7;replace f5:IntKind.u64.wrap (4503599627370496-4503599627370496)=0:=f5;replace f6:q0o .or .u64 ((x*4503599627370496:Nat):Int) 0=((x*4503599627370496:Nat):Int):=f6;exact wk1 (x6 hq' hsn e2 f1 f3 (x3 f4 f5 f6)) trivial
 ·rw [if_neg h53]
  by_cases h52:r < 4503599627370496
  ·rw [if_pos h52];exact wk1 (x3 hq' hsn e2) trivial
  ·rw [if_neg h52]
   by_cases hov:2047<=q+1075
   ·rw [if_pos hov];exact wk1 (x3 hq' hsn e2) trivial
   ·rw [if_neg hov];obtain ⟨x,f1,f2,f3,f4,f5,f6,f7⟩:=comp q r Oq hov Oq Oq;rw [f2];exact wk1 (x6 hq' hsn e2 f1 f3 (x3 f4 f5 f6)) trivial
def qkb {a b:Int} (hm:mode=0\/mode=1\/mode=2) (hA:q0U a) (hB:q0U b) (hb0:b≠0):ACt 191 [dT a,dT b,iv mode] (uv (fQ mode a b:Nat)):=by
 have C1:=q7C hA;have C2:=q7C hB;have C3:=q3i hA;have C4:=q3i hB;have q1:(b.sign == 0)=false:=by
  rw [beq_eq_false_iff_ne]; intro h; exact hb0 (zJ.1 h)
 refine ac0 Tryz.func191 Tryz.ntmps191 [.tmp 6] ?_
 by_cases ha0:a=0
 ·have q2:(a.sign == 0)=true:=by rw [ha0]; rfl
  rw [show ((fQ mode a b:Nat):Int)=0 by rw [show fQ mode a b=0 from if_pos ha0]; rfl];exact wk1 (x2 q1 q2) trivial
 ·have q2:(a.sign == 0)=false:=by
   rw [beq_eq_false_iff_ne]; intro h; exact ha0 (zJ.1 h)
  obtain ⟨k,⟨c1,c2,c3⟩,C5⟩:=qdw hA hB ha0 hb0;have hob:=q3a hb0;have hd1:=q0x hA;have hd2:=q0x hB;have hge:=q9Y (N:=(od a).natAbs*2 ^ k) (M:=(od b).natAbs) Oq (k:=57) Oq;have hle:bl ((od a).natAbs*2 ^ k / (od b).natAbs)<=140000:=zU (q0e (yG _ _)) c3;have hMN:(od b).natAbs<=(od a).natAbs*2 ^ k:=by
   rcases xO ((od a).natAbs*2 ^ k) (od b).natAbs with h | h
   ·have:=q0e (xP h); omega
   ·exact h
  have C6:=q4s (mode:=mode) (neg:=decide (a < 0) != decide (b < 0)) (e:=dyE a-k-dyE b) hm Oq hMN (λ_=>by omega) Oq Oq Oq;rw [qm2 ha0 hb0,show rF mode (decide (a < 0) != decide (b < 0)) a.natAbs b.natAbs=fQ mode a b from (if_neg ha0).symm] at C6;exact wk1 (x2 q1 q2) trivial
end
end Go.Proofs.YtpbaikoblfcmdaaGreatDoor
namespace Go.Sp
open Go.E
def ixF (l:List Nat):Nat->Nat->Int
 | _,0 => -1
 | i,m+1=>if q0I (l.getD i 0) then ixF l (i+1) m else i
def qmm {l:List Nat}:∀ (m i:Nat),0<=ixF l i m ↔ ∃ j,i<=j/\j < i+m/\¬ q0I (l.getD j 0)
 | 0,i=>by unfold ixF; exact ⟨λh=>by omega,λ⟨j,h1,h2,_⟩=>by omega⟩
 | m+1,i=>by
  unfold ixF
  by_cases h:q0I (l.getD i 0)
  ·rw [if_pos h,qmm m (i+1)]
   constructor
   ·rintro ⟨j,h1,h2,h3⟩; exact ⟨j,by omega,by omega,h3⟩
   ·rintro ⟨j,h1,h2,h3⟩;refine ⟨j,?_,by omega,h3⟩
    rcases Nat.eq_or_lt_of_le h1 with e | e
    ·subst e; exact absurd h h3
    ·omega
  ·rw [if_neg h];exact ⟨λ_=>⟨i,zW _,by omega,h⟩,λ_=>by omega⟩
def qqD {l:List Nat}:decide (0<=ixF l 0 l.length)=!decide (∀ x ∈ l,q0I x):=by
 rw [<- decide_not,decide_eq_decide,qmm]
 constructor
 ·rintro ⟨j,_,h2,h3⟩ h;have hj:j < l.length:=by omega
  rw [zE,zA hj] at h3;exact h3 (h _ (List.getElem_mem hj))
 ·intro h;refine Classical.byContradiction λhn=>h λx hx=>?_;obtain ⟨j,hj,rfl⟩:=List.getElem_of_mem hx;refine Classical.byContradiction λhf=>hn ⟨j,zF _,by omega,?_⟩;rw [zE,zA hj];exact hf
end Go.Sp
namespace Go.Proofs.YtpbaikoblfcmdaaGreatDoor
open Go Go.E Go.Sp
section
variable {l:List Nat} {f:FuncId}
def pe_fn {s:Nat->PV}:pe s (.func f)=.vl (.func (.func f) #[] #[]):=rfl
attribute [go_sem] pe_fn
def q9B (hf:∀ x:Nat,x < 18446744073709551616->ACt f [uv x] (bv (!decide (q0I x)))) (hu:∀ x ∈ l,x < 18446744073709551616) (hn:l.length<=1000000) :
  ACt 238 [pF l,.vl (.func (.func f) #[] #[])] (iv (ixF l 0 l.length)):=by
 refine ac0 Tryz.func238 Tryz.ntmps238 [.tmp 4] ?_;refine wk ?_;refine q0B (λi=>i<=l.length/\ixF l 0 l.length=ixF l i (l.length-i)) [0,1,7] [] Lk Lk (λi:Nat=>[(8,iv i)]) (λ_=>[]) (λi=>l.length-i) 0 ⟨zF _,rfl⟩ ?_ ?_
 ·refine LeM [] rfl rfl ?_;refine Zz ?_
  rfl
 ·rintro i ⟨hi,hx⟩
  by_cases hlt:i < l.length
  ·obtain ⟨x,hxi⟩:∃ x,l[i]?=some x:=⟨_,zA hlt⟩;have C1:=hf x (hu x (zD hxi));rw [show l.length-i=(l.length-(i+1))+1 by omega,ixF,getD_some hxi] at hx;refine wk1 hxi ?_;refine qiH λK hK=>?_;refine Zz1 hxi ?_;refine qcG j0I ?_;simp only [List.append_nil]
   try refine Zz ?_
   refine q0R C1 ?_
   try refine Zz ?_
   refine hK _ _ ?_; clear hK K
   by_cases h:q0I x
   ·rw [if_pos h] at hx;refine wk1 (decide_eq_true h) ?_;refine ⟨i+1,⟨by omega,by rw [show l.length-(i+1)=l.length-(i+1) from rfl]; exact hx⟩,by omega,?_⟩;refine LeM [] rfl rfl ?_;refine Zz ?_;omega
   ·rw [if_neg h] at hx;rw [hx];exact wk1 (decide_eq_false h) trivial
  ·obtain rfl:i=l.length:=by omega
   rw [yZ,ixF] at hx;rw [hx];exact wk trivial
def q2u (hf:∀ x:Nat,x < 18446744073709551616->ACt f [uv x] (bv (!decide (q0I x)))) (hu:∀ x ∈ l,x < 18446744073709551616) (hn:l.length<=1000000) :
  ACt 145 [pF l,.vl (.func (.func f) #[] #[])] (bv (!decide (∀ x ∈ l,q0I x))):=by
 have C1:=q9B hf hu hn;rw [<- qqD];generalize ixF l 0 l.length=z at *;refine ac0 Tryz.func145 Tryz.ntmps145 [.tmp 4] ?_;exact wk trivial
end
def qhI {A B:Int} (ho:q0U (A-B)):ACt 127 [pV A,pV B] (pV (A-B)):=by
 have cN:=q4j (V:=B);have cA:=q4k (A:=A) (B := -B) (by rwa [<- yS]);rw [<- yS] at cA;refine ac0 Tryz.func127 Tryz.ntmps127 [.cell 4 48] ?_;exact wk trivial
def q5R {A B:Int}:ACt 54 [pV A,pV B] (bv (decide (A < B))):=by
 have cC:=qhK (A:=A) (B:=B);have es:decide ((A-B).sign < 0)=decide (A < B):=by
  congr 1
  rw [Int.sign_neg_iff];exact propext ⟨λh=>by omega,λh=>by omega⟩
 refine ac0 Tryz.func54 Tryz.ntmps54 [.tmp 4] ?_;exact wk1 es trivial
def q3V (l:List Int) (n:Int):Prop:=(l.length:Int)=n/\(∀ x ∈ l,0<=x/\x < n)/\l.Nodup
def q6U (l:List Int) (i:Nat):List Bool:=(List.range l.length).map λk:Nat=>decide ((k:Int) ∈ l.take i)
def qiv {l:List Int} {i:Nat}:(q6U l i).length=l.length:=by simp [q6U]
def quz {l:List Int}:List.replicate l.length false=q6U l 0:=by simp [q6U,List.map_const']
def qiw {l:List Int} {i k:Nat} (hk:k < l.length):(q6U l i)[k]?=some (decide ((k:Int) ∈ l.take i)):=by simp [q6U,hk]
def qiu {l:List Int} {i k:Nat} (hi:l[i]?=some (k:Int)):(q6U l i).set k true=q6U l (i+1):=by
 obtain ⟨hlt,he⟩:=zB.1 hi
 apply yH
 intro m;rw [yB];simp only [q6U,zH,z8,yI,zR hlt,he,zO,List.mem_singleton]
 by_cases hm:m < l.length
 ·rw [zC hm]
  by_cases hkm:k=m
  ·subst hkm; simp [hm]
  ·rw [if_neg hkm]; simp; omega
 ·rw [z9 (by simp; omega)]
  by_cases hkm:k=m <;> simp [hkm] <;> omega
open Classical in
def q75 {l:List Int} {n:Int} (hn : -1000000<=n/\n<=1000000):ACt 214 [pI l,iv n] (bv (decide (q3V l n))):=by
 refine ac0 Tryz.func214 Tryz.ntmps214 [.tmp 4] ?_;refine wk ?_
 by_cases hl:(l.length:Int)=n
 ·subst hl;have e1:((l.length:Int) != l.length)=false:=by simp
  refine wk1 e1 ?_;refine q0B (λi=>i<=l.length/\(∀ x ∈ l.take i,0<=x/\x < l.length)/\(l.take i).Nodup) [0,1,5] [] Lk Lk (λi:Nat=>[(6,iv i)]) (λi=>[(12,⟨4,none,(q6U l i).map λz=>bv z,false⟩)]) (λi=>l.length-i) 0 ⟨zF _,by simp,by simp⟩ ?_ ?_
  ·refine LeM [] rfl rfl ?_;refine Zz ?_;exact ⟨rfl,quz⟩
  ·rintro i ⟨hi,hr,hd⟩;refine wk ?_
   by_cases hlt:i < l.length
   ·have hlt':(i:Int) < l.length:=by omega
    refine wk1 hlt' ?_;obtain ⟨x,hx⟩:∃ x,l[i]?=some x:=⟨_,zA hlt⟩;have hmem:=zD hx;have ht:l.take (i+1)=l.take i ++ [x]:=by rw [zR hlt]; congr 2; exact zI.inj ((zA hlt).symm.trans hx)
    refine wk ?_
    by_cases hx0:x < 0
    ·refine wk1 (x2 hx hx0) ?_;exact (decide_eq_false λh=>by have:=(h.2.1 x hmem).1; omega).symm
    ·obtain ⟨k,rfl⟩:∃ k:Nat,x=k:=⟨x.toNat,by omega⟩
     by_cases hxn:(l.length:Int)<=k
     ·refine wk1 (x3 hx hx0 hxn) ?_;exact (decide_eq_false λh=>by have:=(h.2.1 _ hmem).2; omega).symm
     ·have hk:k < l.length:=by omega
      have hs:=qiw (i:=i) hk
      by_cases hm:(k:Int) ∈ l.take i
      ·refine wk1 (x5 hx hx0 hxn hs hm) ?_;refine (decide_eq_false λh=>?_).symm;have:=(h.2.2.sublist (List.take_sublist (i+1) l));rw [ht,List.nodup_append] at this;exact this.2.2 _ hm _ (by simp) rfl
      ·refine wk1 (x6 hx hx0 hxn hs hm @qiv) ?_;refine ⟨i+1,⟨by omega,?_,?_⟩,by omega,?_⟩
       ·rw [ht];intro y hy
        rcases zO.1 hy with hy | hy
        ·exact hr y hy
        ·simp at hy; subst hy; omega
       ·rw [ht,List.nodup_append];exact ⟨hd,by simp,λa ha b hb e=>by simp at hb; subst hb; subst e; exact hm ha⟩
       ·refine LeM [] rfl rfl ?_;refine Zz ?_;exact ⟨by omega,qiu hx⟩
   ·have hlt':¬ (i:Int) < l.length:=by omega
    have hil:i=l.length:=by omega
    refine wk1 hlt' ?_;rw [hil,zQ] at hr hd;exact (decide_eq_true ⟨rfl,hr,hd⟩).symm
 ·have e1:((l.length:Int) != n)=true:=by simpa using hl
  refine wk1 e1 ?_;exact (decide_eq_false λh=>hl h.1).symm
def q1p {α:Type} {l:List α} {i:Nat} {x:α} (hx:l[i]?=some x):l.take (i+1)=l.take i ++ [x]:=by
 obtain ⟨h1,h2⟩:=zB.1 hx;rw [zR h1,h2]
def qi8 {α:Type} {p:α->Prop} {l:List α} {i:Nat} {x:α} (hx:l[i]?=some x) (h:∀ y ∈ l.take i,p y) (hp:p x):∀ y ∈ l.take (i+1),p y:=by
 rw [q1p hx];intro y hy
 rcases zO.1 hy with hy | hy
 ·exact h y hy
 ·simp at hy; subst hy; exact hp
open Classical in
def qdG {l:List Nat} (hl:l.length<=9223372036854775807) (hu:∀ x ∈ l,x < 18446744073709551616):ACt 167 [pF l] (bv (decide (∀ x ∈ l,q0I x))):=by
 refine ac0 Tryz.func167 Tryz.ntmps167 [.tmp 2] ?_;refine wk ?_;refine q0B (λi=>i<=l.length/\∀ x ∈ l.take i,q0I x) [0] [] Lk Lk (λi:Nat=>[(3,iv i)]) (λ_=>[]) (λi=>l.length-i) 0 ⟨zF _,by simp⟩ ?_ ?_
 ·refine LeM [] rfl rfl ?_;refine Zz ?_
  rfl
 ·rintro i ⟨hi,hr⟩;refine wk ?_
  by_cases hlt:i < l.length
  ·have hlt':(i:Int) < l.length:=by omega
   refine wk1 hlt' ?_;obtain ⟨x,hx⟩:∃ x,l[i]?=some x:=⟨_,zA hlt⟩;have hm:=zD hx;have C1:=(q14 (hu x hm));refine wk1 hx ?_
   by_cases hf:q0I x
   ·refine wk1 hf ?_;refine ⟨i+1,⟨by omega,qi8 hx hr hf⟩,by omega,?_⟩;refine LeM [] rfl rfl ?_;refine Zz ?_;omega
   ·refine wk1 hf ?_;exact (decide_eq_false λh=>hf (h x hm)).symm
  ·have hlt':¬ (i:Int) < l.length:=by omega
   refine wk1 hlt' ?_;obtain rfl:i=l.length:=by omega
   rw [zQ] at hr;exact (decide_eq_true hr).symm
def q2F (rows cols:Int) (st ix:List Int) (vl:List Nat):PV:=.ag [iv rows,iv cols,pI st,pI ix,pF vl]
structure MSz (rows cols:Int) (ix:List Int):Prop where
 r0:¬ rows < 0
 r1:¬ 200 < rows
 c0:¬ cols < 0
 c1:¬ 200 < cols
 i1:¬ (10000:Int) < ix.length
structure MPt (cols:Int) (st ix:List Int) (vl:List Nat):Prop where
 v:vl.length=ix.length
 s:(st.length:Int)=cols+1
 f:st[0]?=some 0
 l:st[cols.toNat]?=some (ix.length:Int)
 m:∀ (j:Nat) (x y:Int),st[j]?=some x->st[j+1]?=some y->x<=y
def MIx1 (rows:Int) (ix:List Int) (x:Int) (k:Nat):Prop:=∀ v,ix[k]?=some v->0<=v/\v < rows/\(x < k->∀ u,ix[k-1]?=some u->u < v)
def MIx (rows:Int) (st ix:List Int):Prop:=∀ (j:Nat) (x y:Int),st[j]?=some x->st[j+1]?=some y->∀ k:Nat,x<=k->(k:Int) < y->MIx1 rows ix x k
open Classical in
noncomputable def q3g (rows cols:Int) (st ix:List Int) (vl:List Nat):Int :=
 if MSz rows cols ix then (if MPt cols st ix vl/\MIx rows st ix then (if ∀ x ∈ vl,q0I x then 0 else 4) else 1) else 6
def MPt.nn {cols:Int} {st ix:List Int} {vl:List Nat} (h:MPt cols st ix vl):∀ (j:Nat) (x:Int),st[j]?=some x->0<=x
 | 0,x,hx=>by rw [h.f] at hx; cases hx; omega
 | j+1,x,hx=>by
  have hlt:=(zB.1 hx).1;have hj:st[j]?=some st[j]:=zA Oq;have:=h.m j _ _ hj hx;have:=h.nn j _ hj;omega
def MPt.ub {cols:Int} {st ix:List Int} {vl:List Nat} (h:MPt cols st ix vl) (hc:0<=cols):∀ (d j:Nat) (x:Int),j+d=cols.toNat->st[j]?=some x->x<=ix.length
 | 0,j,x,hd,hx=>by
  have:j=cols.toNat:=by omega
  subst this;rw [h.l] at hx; cases hx; omega
 | d+1,j,x,hd,hx=>by
  have hlt:j+1 < st.length:=by have:=h.s; omega
  have hj:st[j+1]?=some st[j+1]:=zA hlt;have:=h.m j _ _ hx hj;have:=h.ub hc d (j+1) _ Oq hj;omega
def q78 {rows cols:Int} {st ix:List Int} {vl:List Nat} (hl:st.length<=9223372036854775807) (hli:ix.length<=9223372036854775807) (hlv:vl.length<=9223372036854775807) (hu:∀ x ∈ vl,x < 18446744073709551616) :
  ACt 62 [q2F rows cols st ix vl] (iv (q3g rows cols st ix vl)):=by
 have c6:¬ MSz rows cols ix->q3g rows cols st ix vl=6:=λh=>if_neg h;have c1:MSz rows cols ix->¬ (MPt cols st ix vl/\MIx rows st ix)->q3g rows cols st ix vl=1:=λh h2=>by unfold q3g; rw [if_pos h,if_neg h2]
 have c0:MSz rows cols ix->MPt cols st ix vl/\MIx rows st ix->q3g rows cols st ix vl=if ∀ x ∈ vl,q0I x then 0 else 4:=λh h2=>by unfold q3g; rw [if_pos h,if_pos h2]
 generalize q3g rows cols st ix vl=res at *;unfold q2F;refine ac0 Tryz.func62 Tryz.ntmps62 [.tmp 2] ?_;refine wk ?_
 by_cases h1:rows < 0
 ·refine wk1 h1 ?_;rw [c6 λh=>h.r0 h1]
 by_cases h2:200 < rows
 ·refine wk1 (x2 h1 h2) ?_;rw [c6 λh=>h.r1 h2]
 by_cases h3:cols < 0
 ·refine wk1 (x3 h1 h2 h3) ?_;rw [c6 λh=>h.c0 h3]
 by_cases h4:200 < cols
 ·refine wk1 (x4 h1 h2 h3 h4) ?_;rw [c6 λh=>h.c1 h4]
 by_cases h5:(10000:Int) < ix.length
 ·refine wk1 (x5 h1 h2 h3 h4 h5) ?_;rw [c6 λh=>h.i1 h5]
 refine wk1 (x5 h1 h2 h3 h4 h5) ?_;have hz:MSz rows cols ix:=⟨h1,h2,h3,h4,h5⟩;obtain ⟨n,rfl⟩:∃ n:Nat,cols=n:=⟨cols.toNat,by omega⟩;refine wk ?_;have w0:IntKind.i64.wrap ((n:Int)+1)=(n:Int)+1:=i64_in Oq Oq
 by_cases hv:vl.length=ix.length
 case neg =>
  have e1:((vl.length:Int) != ix.length)=true:=by simp; omega
  refine wk1 e1 ?_;rw [c1 hz λh=>hv h.1.v]
 have e1:((vl.length:Int) != ix.length)=false:=by simp; omega
 by_cases hs:st.length=n+1
 case neg =>
  have e2:((st.length:Int) != (n:Int)+1)=true:=by simp; omega
  refine wk1 (x3 e1 w0 e2) ?_;rw [c1 hz λh=>by have:=h.1.s; omega]
 have e2:((st.length:Int) != (n:Int)+1)=false:=by simp; omega
 obtain ⟨x0,hx0⟩:∃ x,st[0]?=some x:=⟨_,zA Oq⟩;obtain ⟨xn,hxn⟩:∃ x,st[n]?=some x:=⟨_,zA Oq⟩
 by_cases h0:x0=0
 case neg =>
  have e3:(x0 != 0)=true:=by simpa using h0
  refine wk1 (x5 e1 w0 e2 hx0 e3) ?_;rw [c1 hz λh=>by have:=h.1.f; rw [hx0] at this; exact h0 (zI.inj this)]
 subst h0;have e3:((0:Int) != 0)=false:=rfl
 by_cases hn:xn=ix.length
 case neg =>
  have e4:(xn != (ix.length:Int))=true:=by simpa using hn
  refine wk1 (x6 e1 w0 e2 hx0 e3 (x2 hxn e4)) ?_;rw [c1 hz λh=>by have:=h.1.l; rw [zG,hxn] at this; exact hn (zI.inj this)]
 subst hn;have e4:((ix.length:Int) != (ix.length:Int))=false:=by simp
 refine wk1 (x6 e1 w0 e2 hx0 e3 (x2 hxn e4)) ?_;have hp:∀ {j:Nat} {x:Int},(∀ (j:Nat) (x y:Int),st[j]?=some x->st[j+1]?=some y->x<=y)->MPt n st ix vl:=λhm=>⟨hv,by omega,hx0,by rw [zG]; exact hxn,hm⟩;refine q4o [1,3,4] Lk ?_;refine wk ?_;refine q0B (λi=>i<=n/\∀ j x y,j < i->st[j]?=some x->st[j+1]?=some y->x<=y) [1] [1] Lk Lk (λi:Nat=>[(4,iv i)]) (λ_=>[]) (λi=>n-i) 0 ⟨zF _,by omega⟩ ?_ ?_
 ·refine LeM [] rfl rfl ?_;refine Zz ?_
  rfl
 ·rintro i ⟨hi,hr⟩;refine wk ?_
  by_cases hlt:i < n
  ·have hlt':(i:Int) < n:=by omega
   refine wk1 hlt' ?_;obtain ⟨x,hx⟩:∃ x,st[i]?=some x:=⟨_,zA Oq⟩;obtain ⟨y,hy⟩:∃ x,st[i+1]?=some x:=⟨_,zA Oq⟩;have wi:IntKind.i64.wrap ((i:Int)+1)=((i+1:Nat):Int):=by rw [i64_in (by omega) (by omega)]; omega
   by_cases hxy:y < x
   ·refine wk1 (x4 hx hy wi hxy) ?_;rw [c1 hz λh=>by have:=h.1.m i x y hx hy; omega]
   ·refine wk1 (x4 hx hy wi hxy) ?_;refine ⟨i+1,⟨by omega,λj x' y' hj hx' hy'=>?_⟩,by omega,?_⟩
    ·by_cases hji:j=i
     ·subst hji;rw [hx] at hx'; rw [hy] at hy';cases hx'; cases hy'; omega
     ·exact hr j x' y' Oq hx' hy'
    ·refine LeM [] rfl rfl ?_;exact Zy
  ·have hlt':¬ (i:Int) < n:=by omega
   refine wk1 hlt' ?_;obtain rfl:i=n:=by omega
   have hP:MPt i st ix vl:=⟨hv,by omega,hx0,by rw [zG]; exact hxn,λj x y hx hy=>hr j x y (by have:=(zB.1 hy).1; omega) hx hy⟩;clear hr hp hlt hlt';refine wk ?_;refine q0B (λj=>j<=i/\∀ j' x y,j' < j->st[j']?=some x->st[j'+1]?=some y->∀ k:Nat,x<=k->(k:Int) < y->MIx1 rows ix x k) [1] [1] Lk Lk (λj:Nat=>[(5,iv j)]) (λ_=>[]) (λj=>i-j) 0 ⟨zF _,by omega⟩ ?_ ?_
   ·refine LeM [] rfl rfl ?_;refine Zz ?_
    rfl
   ·rintro j ⟨hj,hr⟩;refine wk ?_
    by_cases hlt:j < i
    ·have hlt':(j:Int) < i:=by omega
     refine wk1 hlt' ?_;obtain ⟨x,hx⟩:∃ x,st[j]?=some x:=⟨_,zA Oq⟩;obtain ⟨y,hy⟩:∃ x,st[j+1]?=some x:=⟨_,zA Oq⟩;have wi:IntKind.i64.wrap ((j:Int)+1)=((j+1:Nat):Int):=by rw [i64_in (by omega) (by omega)]; omega
     have hxy:=hP.m j x y hx hy;obtain ⟨a,rfl⟩:∃ a:Nat,x=a:=⟨x.toNat,by have:=hP.nn j x hx; omega⟩;obtain ⟨b,rfl⟩:∃ b:Nat,y=b:=⟨y.toNat,by omega⟩;have hb:b<=ix.length:=by have:=hP.ub (by omega) (i-(j+1)) (j+1) b (by rw [zG]; omega) hy; omega
     refine wk1 hx ?_;refine q0B (λk=>a<=k/\k<=b/\∀ k':Nat,a<=k'->k' < k->MIx1 rows ix a k') [1,5] [1] Lk Lk (λk:Nat=>[(6,iv k)]) (λ_=>[]) (λk=>b-k) a ⟨zW _,by omega,by omega⟩ ?_ ?_
     ·refine LeM [] rfl rfl ?_;exact Zy
     ·rintro k ⟨hk,hkb,hrk⟩;refine wk ?_
      by_cases hltk:k < b
      ·have hltk':(k:Int) < b:=by omega
       refine wk1 (x3 wi hy hltk') ?_;obtain ⟨v,hv⟩:∃ v,ix[k]?=some v:=⟨_,zA Oq⟩;have fin:(¬ (0<=v/\v < rows/\((a:Int) < k->∀ u,ix[k-1]?=some u->u < v)))->res=1:=λhb'=>c1 hz λh=>hb' (h.2 j a b hx hy k Oq Oq v hv);have ok:0<=v->v < rows->((a:Int) < k->∀ u,ix[k-1]?=some u->u < v)->∀ k':Nat,a<=k'->k' < k+1->MIx1 rows ix a k':=λq1 q2 q3 k' hk' hk1=>by
        by_cases hkk:k'=k
        ·subst hkk;intro v' hv';rw [hv] at hv'; cases hv';exact ⟨q1,q2,q3⟩
        ·exact hrk k' hk' Oq
       by_cases hv0:v < 0
       ·refine wk1 (x2 hv hv0) ?_;rw [fin λh=>by omega]
       ·by_cases hvr:rows<=v
        ·refine wk1 (x3 hv hv0 hvr) ?_;rw [fin λh=>by omega]
        ·by_cases hak:(a:Int) < k
         ·obtain ⟨k,rfl⟩:∃ k',k=k'+1:=⟨k-1,by omega⟩;obtain ⟨u,hu⟩:∃ v,ix[k]?=some v:=⟨_,zA Oq⟩;have wk:IntKind.i64.wrap (((k+1:Nat):Int)-1)=k:=by rw [i64_in (by omega) (by omega)]; omega
          by_cases huv:v<=u
          ·refine wk1 (x6 hv hv0 hvr hx hak (x3 @wk hu huv)) ?_;rw [fin λh=>by have:=h.2.2 hak u hu; omega]
          ·refine wk1 (x6 hv hv0 hvr hx hak (x3 @wk hu huv)) ?_;refine ⟨k+1+1,⟨by omega,by omega,ok Oq Oq λ_ u' hu'=>?_⟩,by omega,?_⟩
           ·rw [yE,hu] at hu'; cases hu'; omega
           ·refine LeM [] rfl rfl ?_;refine Zz ?_;omega
         ·refine wk1 (x5 hv hv0 hvr hx hak) ?_;refine ⟨k+1,⟨by omega,by omega,ok Oq Oq λh=>absurd h hak⟩,by omega,?_⟩;refine LeM [] rfl rfl ?_;refine Zz ?_;omega
      ·have hltk':¬ (k:Int) < b:=by omega
       refine wk1 (x3 wi hy hltk') ?_;refine ⟨j+1,⟨by omega,λj' x' y' hj' hx' hy' k' h1' h2'=>?_⟩,by omega,?_⟩
       ·by_cases hji:j'=j
        ·subst hji;rw [hx] at hx'; rw [hy] at hy';cases hx'; cases hy';exact hrk k' Oq Oq
        ·exact hr j' x' y' Oq hx' hy' k' h1' h2'
       ·refine LeM [] rfl rfl ?_;exact Zy
    ·have hlt':¬ (j:Int) < i:=by omega
     refine wk1 hlt' ?_;obtain rfl:j=i:=by omega
     have hX:MIx rows st ix:=λj' x y hx hy=>hr j' x y (by have:=(zB.1 hy).1; omega) hx hy;have c0:=c0 hz ⟨hP,hX⟩;have C1:=(qdG hlv hu);refine wk ?_
     by_cases hf:∀ x ∈ vl,q0I x
     ·rw [if_pos hf] at c0;have ef:∀ (i:Decidable (∀ x ∈ vl,q0I x)),@decide _ i=true:=λ_=>decide_eq_true hf;refine wk1 ef ?_;rw [c0]
     ·rw [if_neg hf] at c0;have ef:∀ (i:Decidable (∀ x ∈ vl,q0I x)),@decide _ i=false:=λ_=>decide_eq_false hf;refine wk1 ef ?_;rw [c0]
def q9F (ix:List Int) (i:Int) (a b:Nat):Option Nat:=(List.range' a (b-a)).find? λk=>decide (ix[k]?=some i)
def qmw {ix:List Int} {i v:Int} {a b:Nat} (h:a < b) (hv:ix[a]?=some v) (hn:¬ v=i):q9F ix i a b=q9F ix i (a+1) b:=by
 unfold q9F;rw [show b-a=(b-(a+1))+1 by omega,List.range'_succ,List.find?_cons,hv];have:decide (some v=some i)=false:=decide_eq_false λe=>hn (zI.inj e);rw [this]
def qgZ {ix:List Int} {v:Int} {a b:Nat} (h:a < b) (hv:ix[a]?=some v):q9F ix v a b=some a:=by
 unfold q9F;rw [show b-a=(b-(a+1))+1 by omega,List.range'_succ,List.find?_cons,hv];have:decide (some v=some v)=true:=decide_eq_true rfl;rw [this]
def qg0 {ix:List Int} {v:Int} {a b:Nat} (h:b<=a):q9F ix v a b=none:=by
 unfold q9F;rw [show b-a=0 by omega]; rfl
def qhP (st ix:List Int) (i:Int) (j:Nat):Option Nat:=q9F ix i (st.getD j 0).toNat (st.getD (j+1) 0).toNat
open Classical in
noncomputable def quL (rows cols:Int) (st ix:List Int) (i j:Int):Bool:=if 0<=i/\i < rows/\0<=j/\j < cols then (qhP st ix i j.toNat).isSome else false
open Classical in
noncomputable def atM (rows cols:Int) (st ix:List Int) (vl:List Nat) (i j:Int):Nat:=if q3g rows cols st ix vl=0/\0<=j/\j < cols then (match qhP st ix i j.toNat with | some k=>vl.getD k 0 | none=>0) else 0
def chk0 {rows cols:Int} {st ix:List Int} {vl:List Nat} (h:q3g rows cols st ix vl=0):MSz rows cols ix/\MPt cols st ix vl/\MIx rows st ix/\∀ x ∈ vl,q0I x:=by
 unfold q3g at h
 split at h
 ·split at h
  ·split at h
   ·exact ⟨‹_›,(‹_/\_›).1,(‹_/\_›).2,‹_›⟩
   ·cases h
  ·cases h
 ·cases h
def MPt.col {n:Nat} {st ix:List Int} {vl:List Nat} (h:MPt n st ix vl) {j:Nat} (hj:j < n):∃ a b:Nat,st[j]?=some (a:Int)/\st[j+1]?=some (b:Int)/\a<=b/\b<=ix.length/\(st.getD j 0).toNat=a/\(st.getD (j+1) 0).toNat=b:=by
 have hs:=h.s;obtain ⟨x,hx⟩:∃ x,st[j]?=some x:=⟨_,zA Oq⟩;obtain ⟨y,hy⟩:∃ x,st[j+1]?=some x:=⟨_,zA Oq⟩;have h1:=h.nn j x hx;have h2:=h.nn (j+1) y hy;have h3:=h.m j x y hx hy;have h4:=h.ub (by omega) (n-(j+1)) (j+1) y (by rw [zG]; omega) hy;refine ⟨x.toNat,y.toNat,by rw [hx]; congr 1; omega,by rw [hy]; congr 1; omega,by omega,by omega,?_,?_⟩
 ·rw [zE,hx]; rfl
 ·rw [zE,hy]; rfl
def qdE {rows cols i j:Int} {st ix:List Int} {vl:List Nat} (hc:cols<=200) (hi:ix.length<=10000) (hP:MPt cols st ix vl):ACt 158 [q2F rows cols st ix vl,iv i,iv j] (bv (quL rows cols st ix i j)):=by
 have c0:¬ (0<=i/\i < rows/\0<=j/\j < cols)->quL rows cols st ix i j=false:=λh=>if_neg h;have c1:(0<=i/\i < rows/\0<=j/\j < cols)->quL rows cols st ix i j=(qhP st ix i j.toNat).isSome:=λh=>if_pos h;generalize quL rows cols st ix i j=res at *;unfold q2F;refine ac0 Tryz.func158 Tryz.ntmps158 [.tmp 6] ?_;refine wk ?_
 by_cases h1:i < 0
 ·refine wk1 h1 ?_;rw [c0 λh=>by omega]
 by_cases h2:rows<=i
 ·refine wk1 (x2 h1 h2) ?_;rw [c0 λh=>by omega]
 by_cases h3:j < 0
 ·refine wk1 (x3 h1 h2 h3) ?_;rw [c0 λh=>by omega]
 by_cases h4:cols<=j
 ·refine wk1 (x4 h1 h2 h3 h4) ?_;rw [c0 λh=>by omega]
 refine wk1 (x4 h1 h2 h3 h4) ?_;have d1:=c1 ⟨by omega,by omega,by omega,by omega⟩;obtain ⟨j,rfl⟩:∃ j':Nat,j=j':=⟨j.toNat,by omega⟩;obtain ⟨n,rfl⟩:∃ n:Nat,cols=n:=⟨cols.toNat,by omega⟩;obtain ⟨a,b,hx,hy,hab,hb,ea,eb⟩:=hP.col (show j < n by omega);rw [zG] at d1;unfold qhP at d1;rw [ea,eb] at d1;have wi:IntKind.i64.wrap ((j:Int)+1)=((j+1:Nat):Int):=by rw [i64_in (by omega) (by omega)]; omega
 refine wk1 hx ?_;refine q4o [1,2,3,7] Lk ?_;refine wk ?_;refine q0B (λk=>a<=k/\k<=b/\q9F ix i a b=q9F ix i k b) [1,2,3] [3] Lk Lk (λk:Nat=>[(7,iv k)]) (λ_=>[]) (λk=>b-k) a ⟨zW _,hab,rfl⟩ ?_ ?_
 ·refine LeM [] rfl rfl ?_;exact Zy
 ·rintro k ⟨hk,hkb,hr⟩;refine wk ?_
  by_cases hlt:k < b
  ·have hlt':(k:Int) < b:=by omega
   refine wk1 (x3 wi hy hlt') ?_;obtain ⟨v,hv⟩:∃ v,ix[k]?=some v:=⟨_,zA Oq⟩
   by_cases hvi:v=i
   ·subst hvi;have e1:(v == v)=true:=by simp
    refine wk1 (x2 hv e1) ?_;rw [d1,hr,qgZ hlt hv]; rfl
   ·have e1:(v == i)=false:=by simpa using hvi
    refine wk1 (x2 hv e1) ?_;refine ⟨k+1,⟨by omega,by omega,by rw [hr,qmw hlt hv hvi]⟩,by omega,?_⟩;refine LeM [] rfl rfl ?_;refine Zz ?_;omega
  ·have hlt':¬ (k:Int) < b:=by omega
   refine wk1 (x3 wi hy hlt') ?_;rw [d1,hr,qg0 (by omega)]; rfl
def qvZ {rows cols i j:Int} {st ix:List Int} {vl:List Nat} (hl:st.length<=9223372036854775807) (hli:ix.length<=9223372036854775807) (hlv:vl.length<=9223372036854775807) (hu:∀ x ∈ vl,x < 18446744073709551616):ACt 67 [q2F rows cols st ix vl,iv i,iv j] (uv (atM rows cols st ix vl i j:Nat)):=by
 have c0:¬ (q3g rows cols st ix vl=0/\0<=j/\j < cols)->atM rows cols st ix vl i j=0:=λh=>if_neg h;have c1:(q3g rows cols st ix vl=0/\0<=j/\j < cols)->atM rows cols st ix vl i j=(match qhP st ix i j.toNat with | some k=>vl.getD k 0 | none=>0):=λh=>if_pos h;have hA:=q78 (rows:=rows) (cols:=cols) hl hli hlv hu;generalize atM rows cols st ix vl i j=res at *;unfold q2F at *;refine ac0 Tryz.func67 Tryz.ntmps67 [.tmp 6] ?_;refine wk ?_
 by_cases hz:q3g rows cols st ix vl=0
 case neg =>
  have e1:(q3g rows cols st ix vl != 0)=true:=by simpa using hz
  refine wk1 e1 ?_;rw [c0 λh=>hz h.1]; rfl
 have e1:(q3g rows cols st ix vl != 0)=false:=by simpa using hz
 by_cases h3:j < 0
 ·refine wk1 (x2 e1 h3) ?_;rw [c0 λh=>by omega]; rfl
 by_cases h4:cols<=j
 ·refine wk1 (x3 e1 h3 h4) ?_;rw [c0 λh=>by omega]; rfl
 refine wk1 (x3 e1 h3 h4) ?_;have d1:=c1 ⟨hz,by omega,by omega⟩;obtain ⟨hz1,hP,hX,hfn⟩:=chk0 hz;have hc:=hz1.c1;have hi:=hz1.i1;obtain ⟨j,rfl⟩:∃ j':Nat,j=j':=⟨j.toNat,by omega⟩;obtain ⟨n,rfl⟩:∃ n:Nat,cols=n:=⟨cols.toNat,by omega⟩;obtain ⟨a,b,hx,hy,hab,hb,ea,eb⟩:=hP.col (show j < n by omega);rw [zG] at d1;unfold qhP at d1;rw [ea,eb] at d1;have wi:IntKind.i64.wrap ((j:Int)+1)=((j+1:Nat):Int):=by rw [i64_in (by omega) (by omega)]; omega
 refine wk1 hx ?_;refine q4o [1,2,3,7] Lk ?_;refine wk ?_;refine q0B (λk=>a<=k/\k<=b/\q9F ix i a b=q9F ix i k b) [1,2,3] [3] Lk Lk (λk:Nat=>[(7,iv k)]) (λ_=>[]) (λk=>b-k) a ⟨zW _,hab,rfl⟩ ?_ ?_
 ·refine LeM [] rfl rfl ?_;exact Zy
 ·rintro k ⟨hk,hkb,hr⟩;refine wk ?_
  by_cases hlt:k < b
  ·have hlt':(k:Int) < b:=by omega
   refine wk1 (x3 wi hy hlt') ?_;obtain ⟨v,hv⟩:∃ v,ix[k]?=some v:=⟨_,zA Oq⟩
   by_cases hvi:v=i
   ·subst hvi;have e1:(v == v)=true:=by simp
    refine wk1 (x2 hv e1) ?_;obtain ⟨u,hu'⟩:∃ u,vl[k]?=some u:=⟨_,zA (by have:=hP.v; omega)⟩;refine wk1 hu' ?_;rw [d1,hr,qgZ hlt hv];simp only [zE,hu']; rfl
   ·have e1:(v == i)=false:=by simpa using hvi
    refine wk1 (x2 hv e1) ?_;refine ⟨k+1,⟨by omega,by omega,by rw [hr,qmw hlt hv hvi]⟩,by omega,?_⟩;refine LeM [] rfl rfl ?_;refine Zz ?_;omega
  ·have hlt':¬ (k:Int) < b:=by omega
   refine wk1 (x3 wi hy hlt') ?_;rw [d1,hr,qg0 (by omega)]; rfl

def tC (f:Nat->Nat->Option Nat) (j:Nat) (p:List Int × List Nat):Nat->List Int × List Nat
 | 0=>p
 | i+1=>match f j i with
  | some x=>((tC f j p i).1 ++ [(i:Int)],(tC f j p i).2 ++ [x])
  | none=>tC f j p i
def tM (f:Nat->Nat->Option Nat) (R:Nat):Nat->List Int × List Int × List Nat
 | 0=>([0],[],[])
 | j+1=>((tM f R j).1 ++ [((tC f j (tM f R j).2 R).1.length:Int)],tC f j (tM f R j).2 R)
def pT (R C:Nat) (f:Nat->Nat->Option Nat):PV:=q2F R C (tM f R C).1 (tM f R C).2.1 (tM f R C).2.2
def q8b {f:Nat->Nat->Option Nat} {j:Nat} {p:List Int × List Nat} (hp:p.1.length=p.2.length):∀ i,(tC f j p i).1.length=(tC f j p i).2.length/\p.1.length<=(tC f j p i).1.length/\(tC f j p i).1.length<=p.1.length+i
 | 0=>⟨hp,zW _,zW _⟩
 | i+1=>by
  have:=q8b (f:=f) (j:=j) hp i;simp only [tC]
  split
  ·simp only [zY,List.length_cons,List.length_nil]; omega
  ·omega
def q1e {f:Nat->Nat->Option Nat} {R:Nat}:∀ j,(tM f R j).1.length=j+1/\(tM f R j).2.1.length=(tM f R j).2.2.length/\(tM f R j).2.1.length<=j*R
 | 0=>⟨rfl,rfl,by simp [tM]⟩
 | j+1=>by
  have h1:=q1e (f:=f) (R:=R) j;have h2:=q8b (f:=f) (j:=j) h1.2.1 R;simp only [tM];refine ⟨by simp [h1.1],h2.1,?_⟩;rw [Nat.succ_mul]; omega
section
variable {f:Nat->Nat->Option Nat} {R C:Nat}
def tZ (f:Nat->Nat->Option Nat) (j i:Nat):List (Nat × Nat):=(List.range i).filterMap λk=>(f j k).map λx=>(k,x)
def tZ_s {j i:Nat}:tZ f j (i+1)=tZ f j i ++ (match f j i with | some x=>[(i,x)] | none=>[]):=by
 unfold tZ;rw [xC,List.filterMap_append]
 congr 1
 cases h:f j i <;> simp [h]
def q58 {j i k x:Nat}:(k,x) ∈ tZ f j i ↔ k < i/\f j k=some x:=by
 unfold tZ;rw [List.mem_filterMap]
 constructor
 ·rintro ⟨a,ha,h⟩;obtain ⟨y,hy,h2⟩:=yV.1 h;cases h2;exact ⟨zZ.1 ha,hy⟩
 ·rintro ⟨h1,h2⟩;exact ⟨k,zZ.2 h1,by rw [h2]; rfl⟩
def qlr {j:Nat}:∀ i,(tZ f j i).Pairwise λa b=>a.1 < b.1
 | 0=>by simp [tZ]
 | i+1=>by
  rw [tZ_s,List.pairwise_append];refine ⟨qlr i,?_,λa ha b hb=>?_⟩
  ·split <;> simp
  ·have h1:=(q58.1 (show (a.1,a.2) ∈ tZ f j i from ha)).1
   split at hb
   ·simp at hb; subst hb; exact h1
   ·cases hb
def qcs {j:Nat} {p:List Int × List Nat}:∀ i,tC f j p i=(p.1 ++ (tZ f j i).map (λq=>(q.1:Int)),p.2 ++ (tZ f j i).map (·.2))
 | 0=>by simp [tC,tZ]
 | i+1=>by
  rw [tC,tZ_s,qcs i];cases h:f j i <;> simp
def tO (f:Nat->Nat->Option Nat) (R j:Nat):Nat:=(tM f R j).2.1.length
def qls {j:Nat}:tO f R (j+1)=tO f R j+(tZ f j R).length:=by simp [tO,tM,qcs]
def tM_st {j:Nat}:(tM f R j).1[j]?=some (tO f R j:Int):=by
 cases j with
 | zero=>simp [tM,tO]
 | succ j =>
  have:=(q1e (f:=f) (R:=R) j).1;simp only [tM,tO];rw [zS (by omega),this];simp
def qeW {j:Nat}:∀ d,∃ a b c,(tM f R (j+d)).1=(tM f R j).1 ++ a/\(tM f R (j+d)).2.1=(tM f R j).2.1 ++ b/\(tM f R (j+d)).2.2=(tM f R j).2.2 ++ c
 | 0=>⟨[],[],[],by simp,by simp,by simp⟩
 | d+1=>by
  obtain ⟨a,b,c,h1,h2,h3⟩:=qeW (j:=j) d;have e1:(tM f R (j+(d+1))).1=(tM f R (j+d)).1 ++ [((tC f (j+d) (tM f R (j+d)).2 R).1.length:Int)]:=rfl;have e2:(tM f R (j+(d+1))).2=tC f (j+d) (tM f R (j+d)).2 R:=rfl;rw [qcs] at e2;rw [e1,e2,h1,h2,h3];simp only [List.append_assoc];exact ⟨_,_,_,rfl,rfl,rfl⟩
def q3W {j:Nat} (hj:j<=C):(tM f R C).1[j]?=some (tO f R j:Int):=by
 obtain ⟨a,b,c,h1,_,_⟩:=qeW (f:=f) (R:=R) (j:=j) (C-j);rw [show j+(C-j)=C by omega] at h1;rw [h1,zV (by rw [(q1e j).1]; omega)];exact tM_st
def quH {j:Nat} (hj:j < C):∃ b c,(tM f R C).2.1=(tM f R j).2.1 ++ (tZ f j R).map (λq=>(q.1:Int)) ++ b/\(tM f R C).2.2=(tM f R j).2.2 ++ (tZ f j R).map (·.2) ++ c:=by
 obtain ⟨a,b,c,_,h2,h3⟩:=qeW (f:=f) (R:=R) (j:=j+1) (C-(j+1));rw [show j+1+(C-(j+1))=C by omega] at h2 h3;refine ⟨b,c,?_,?_⟩
 ·rw [h2]; simp only [tM,qcs]
 ·rw [h3]; simp only [tM,qcs]
def qcq {j k:Nat} (hj:j < C) (h1:tO f R j<=k) (h2:k < tO f R (j+1)):∃ q,(tZ f j R)[k-tO f R j]?=some q/\(tM f R C).2.1[k]?=some (q.1:Int)/\(tM f R C).2.2[k]?=some q.2:=by
 obtain ⟨b,c,e1,e2⟩:=quH (f:=f) (R:=R) hj;rw [qls] at h2;have hl:=(q1e (f:=f) (R:=R) j).2.1;have ho:tO f R j=(tM f R j).2.1.length:=rfl;obtain ⟨q,hq⟩:∃ q,(tZ f j R)[k-tO f R j]?=some q:=⟨_,zA Oq⟩;refine ⟨q,hq,?_,?_⟩
 ·rw [e1,zV (by simp; omega),zS (by omega),zH,<- ho,hq]; rfl
 ·rw [e2,zV (by simp; omega),zS (by omega),zH,<- hl,<- ho,hq]; rfl
def quF:MPt C (tM f R C).1 (tM f R C).2.1 (tM f R C).2.2:=by
 have hl:=q1e (f:=f) (R:=R) C;refine ⟨hl.2.1.symm,by omega,?_,by rw [zG]; exact q3W (zW _),λj x y hx hy=>?_⟩
 ·rw [q3W (zF _)]; rfl
 ·have h1:=(zB.1 hy).1;rw [q3W (by omega)] at hx hy;cases hx; cases hy;have:=qls (f:=f) (R:=R) (j:=j);omega
def quG:MIx R (tM f R C).1 (tM f R C).2.1:=λj x y hx hy k h1 h2 v hv=>by
 have hl:=q1e (f:=f) (R:=R) C;have h3:=(zB.1 hy).1;rw [q3W (by omega)] at hx hy;cases hx; cases hy;obtain ⟨q,q1,q2,q3⟩:=qcq (f:=f) (R:=R) (C:=C) (j:=j) (k:=k) Oq Oq Oq;rw [hv] at q2;cases q2;have:=(q58.1 (show (q.1,q.2) ∈ _ from zD q1)).1;refine ⟨by omega,by omega,λhk u hu=>?_⟩;obtain ⟨p,p1,p2,p3⟩:=qcq (f:=f) (R:=R) (C:=C) (j:=j) (k:=k-1) Oq Oq Oq;rw [hu] at p2;cases p2;have ha:=List.pairwise_iff_getElem.1 (qlr (f:=f) (j:=j) R);obtain ⟨a1,a2⟩:=zB.1 p1;obtain ⟨b1,b2⟩:=zB.1 q1;have:=ha _ _ a1 b1 Oq;rw [a2,b2] at this;omega
def q9r {x:Nat}:∀ C,x ∈ (tM f R C).2.2->∃ j i,j < C/\i < R/\f j i=some x
 | 0,h=>by simp [tM] at h
 | C+1,h=>by
  simp only [tM,qcs,zO] at h
  rcases h with h | h
  ·obtain ⟨j,i,h1,h2,h3⟩:=q9r C h;exact ⟨j,i,by omega,h2,h3⟩
  ·obtain ⟨⟨k,y⟩,hq,rfl⟩:=zM.1 h;have:=q58.1 hq;exact ⟨C,k,by omega,this.1,this.2⟩
def quI (hR:R<=200) (hC:C<=200) (hRC:C*R<=10000) (hf:∀ j i x,j < C->i < R->f j i=some x->q0I x):q3g R C (tM f R C).1 (tM f R C).2.1 (tM f R C).2.2=0:=by
 have hl:=q1e (f:=f) (R:=R) C;have hz:MSz R C (tM f R C).2.1:=⟨by omega,by omega,by omega,by omega,by omega⟩;unfold q3g;rw [if_pos hz,if_pos ⟨quF,quG⟩,if_pos];intro x hx;obtain ⟨j,i,h1,h2,h3⟩:=q9r C hx;exact hf j i x h1 h2 h3
end
structure TOk (f:Nat->Nat->Option Nat) (R C:Nat):Prop where
 r:R<=200
 c:C<=200
 m:C*R<=10000
 u:∀ j i x,j < C->i < R->f j i=some x->x < 18446744073709551616
 v:∀ j i x,j < C->i < R->f j i=some x->q0I x
def TOk.vl {f:Nat->Nat->Option Nat} {R C:Nat} (h:TOk f R C):(tM f R C).1.length<=9223372036854775807/\(tM f R C).2.1.length<=9223372036854775807/\(tM f R C).2.2.length<=9223372036854775807/\(∀ x ∈ (tM f R C).2.2,x < 18446744073709551616):=by
 have:=q1e (f:=f) (R:=R) C;have:=h.c;have:=h.m;refine ⟨by omega,by omega,by omega,λx hx=>?_⟩;obtain ⟨j,i,h1,h2,h3⟩:=q9r C hx;exact h.u j i x h1 h2 h3
def TOk.chk {f:Nat->Nat->Option Nat} {R C:Nat} (h:TOk f R C):q3g R C (tM f R C).1 (tM f R C).2.1 (tM f R C).2.2=0:=quI h.r h.c h.m h.v
def q9s {f:Nat->Nat->Option Nat} {R C:Nat} (h:TOk f R C):ACt 62 [pT R C f] (iv 0):=by
 obtain ⟨h1,h2,h3,h4⟩:=h.vl;have:=q78 (rows:=R) (cols:=C) h1 h2 h3 h4;rw [h.chk] at this;exact this

section
def qs9 {τ:Nat->Option Nat} {h h':Hp} {a b c d:List PV} (h1:LeL τ h h' a c) (h2:LeL τ h h' b d):LeL τ h h' (a ++ b) (c ++ d):=by
 obtain ⟨l1,e1⟩:=h1;obtain ⟨l2,e2⟩:=h2;refine ⟨by simp [l1,l2],λi x y hx hy=>?_⟩
 by_cases hi:i < a.length
 ·rw [zV hi] at hx;rw [zV (by omega)] at hy;exact e1 i x y hx hy
 ·rw [zS (by omega)] at hx;rw [zS (by omega),<- l1] at hy;exact e2 _ x y hx hy
def clR {α:Type} {f:α->List Int} {l:List α}:ClL (l.map λv=>pI (f v)):=λx hx=>by
 obtain ⟨e,_,rfl⟩:=zM.1 hx
 trivial
def qzh {α:Type} {f:α->List Int} {l:List α} {τ:Nat->Option Nat} {h h':Hp}:LeL τ h h' (l.map λv=>pI (f v)) (l.map λv=>pI (f v))=True:=eq_true (q0F rfl clR)
attribute [local go_sem] qzh
end
open Classical in
noncomputable def sqM (rows cols:Int) (st ix:List Int) (vl:List Nat) (order:List Int):Int :=
 if q3g rows cols st ix vl=0 then (if rows=cols then (if q3V order rows then 0 else 90) else 5) else q3g rows cols st ix vl
def qdF {rows cols:Int} {st ix order:List Int} {vl:List Nat} (hl:st.length<=9223372036854775807) (hli:ix.length<=9223372036854775807) (hlv:vl.length<=9223372036854775807) (hu:∀ x ∈ vl,x < 18446744073709551616):ACt 148 [q2F rows cols st ix vl,pI order] (iv (sqM rows cols st ix vl order)):=by
 have hA:=q78 (rows:=rows) (cols:=cols) hl hli hlv hu;have c1:¬ q3g rows cols st ix vl=0->sqM rows cols st ix vl order=q3g rows cols st ix vl:=λh=>if_neg h;have c2:q3g rows cols st ix vl=0->¬ rows=cols->sqM rows cols st ix vl order=5:=λh h2=>by unfold sqM; rw [if_pos h,if_neg h2]
 have c3:q3g rows cols st ix vl=0->rows=cols->¬ q3V order rows->sqM rows cols st ix vl order=90:=λh h2 h3=>by unfold sqM; rw [if_pos h,if_pos h2,if_neg h3]
 have c4:q3g rows cols st ix vl=0->rows=cols->q3V order rows->sqM rows cols st ix vl order=0:=λh h2 h3=>by unfold sqM; rw [if_pos h,if_pos h2,if_pos h3]
 generalize sqM rows cols st ix vl order=res at *;unfold q2F at *;refine ac0 Tryz.func148 Tryz.ntmps148 [.tmp 4] ?_;refine wk ?_
 by_cases hz:q3g rows cols st ix vl=0
 case neg =>
  have e1:(q3g rows cols st ix vl != 0)=true:=by simpa using hz
  refine wk1 e1 ?_;rw [c1 hz]
 have e1:(q3g rows cols st ix vl != 0)=false:=by simpa using hz
 refine wk1 e1 ?_;obtain ⟨hz1,_⟩:=chk0 hz;have b0:=hz1.r0;have b1:=hz1.r1;refine wk ?_
 by_cases hrc:rows=cols
 case neg =>
  have e2:(rows != cols)=true:=by simpa using hrc
  refine wk1 e2 ?_;rw [c2 hz hrc]
 have e2:(rows != cols)=false:=by simpa using hrc
 have C1:=@q75;refine wk1 e2 ?_
 by_cases hp:q3V order rows
 ·have ep:∀ (i:Decidable (q3V order rows)),@decide _ i=true:=λ_=>decide_eq_true hp;refine wk1 ep ?_;rw [c4 hz hrc hp]
 ·have ep:∀ (i:Decidable (q3V order rows)),@decide _ i=false:=λ_=>decide_eq_false hp;refine wk1 ep ?_;rw [c3 hz hrc hp]
def qcp {f:Nat->Nat->Option Nat} {R:Nat} {order:List Int} (h:TOk f R R) (hp:q3V order R):ACt 148 [pT R R f,pI order] (iv 0):=by
 obtain ⟨h1,h2,h3,h4⟩:=h.vl;have:=qdF (rows:=R) (cols:=R) (order:=order) h1 h2 h3 h4;unfold sqM at this;rw [if_pos h.chk,if_pos rfl,if_pos hp] at this;exact this
def qby {ix:List Int} {i:Int}:∀ {d a:Nat} {k:Nat},q9F ix i a (a+d)=some k->a<=k/\k < a+d/\ix[k]?=some i:=λ{d a k} h=>by
 unfold q9F at h;have h1:=List.find?_some h;have h2:=List.mem_of_find?_eq_some h;rw [List.mem_range'_1] at h2;exact ⟨h2.1,by omega,by simpa using h1⟩
def qjs {ix:List Int} {i:Int} {d a:Nat} (h:q9F ix i a (a+d)=none):∀ k,a<=k->k < a+d->¬ ix[k]?=some i:=λk h1 h2 h3=>by
 unfold q9F at h;have:=List.find?_eq_none.1 h k (by rw [List.mem_range'_1]; omega);simp [h3] at this
def qlt {f:Nat->Nat->Option Nat} {R C i j:Nat} (hi:i < R) (hj:j < C):(match qhP (tM f R C).1 (tM f R C).2.1 i j with | some k=>(tM f R C).2.2[k]? | none=>none)=f j i:=by
 have e1:((tM f R C).1.getD j 0).toNat=tO f R j:=by rw [zE,q3W (by omega)]; rfl
 have e2:((tM f R C).1.getD (j+1) 0).toNat=tO f R (j+1):=by rw [zE,q3W (by omega)]; rfl
 unfold qhP;rw [e1,e2,qls];cases h:q9F (tM f R C).2.1 i (tO f R j) (tO f R j+(tZ f j R).length) with
 | some k =>
  obtain ⟨h1,h2,h3⟩:=qby h;obtain ⟨q,q1,q2,q3⟩:=qcq (f:=f) (R:=R) (C:=C) (j:=j) (k:=k) hj h1 (by rw [qls]; exact h2);rw [q2] at h3;have hqi:q.1=i:=by have:=zI.inj h3; omega
  have:=(q58.1 (show (q.1,q.2) ∈ _ from zD q1)).2;simp only;rw [q3,<- this,hqi]
 | none =>
  cases hx:f j i with
  | none=>rfl
  | some x =>
   obtain ⟨m,hm⟩:=List.getElem?_of_mem (q58.2 ⟨hi,hx⟩:(i,x) ∈ tZ f j R);have hml:=(zB.1 hm).1;obtain ⟨q,q1,q2,q3⟩:=qcq (f:=f) (R:=R) (C:=C) (j:=j) (k:=tO f R j+m) hj (by omega) (by rw [qls]; omega);rw [Nat.add_sub_cancel_left,hm] at q1;cases q1;exact absurd q2 (qjs h _ Oq Oq)
def q6a {f:Nat->Nat->Option Nat} {R C i j:Nat} (h:TOk f R C) (hi:i < R) (hj:j < C):ACt 67 [pT R C f,iv i,iv j] (uv (((f j i).getD 0:Nat):Int)):=by
 obtain ⟨h1,h2,h3,h4⟩:=h.vl;have:=qvZ (rows:=R) (cols:=C) (i:=i) (j:=j) h1 h2 h3 h4;unfold atM at this;rw [if_pos ⟨h.chk,by omega,by omega⟩,zG] at this;have hf:=qlt (f:=f) hi hj;cases hc:qhP (tM f R C).1 (tM f R C).2.1 i j with
 | some k =>
  rw [hc] at this hf;simp only at this hf;rw [zE,hf] at this;exact this
 | none =>
  rw [hc] at this hf;simp only at this hf;rw [<- hf];exact this
def qco {f:Nat->Nat->Option Nat} {R C i j:Nat} (h:TOk f R C) (hi:i < R) (hj:j < C):ACt 158 [pT R C f,iv i,iv j] (bv (f j i).isSome):=by
 have hl:=q1e (f:=f) (R:=R) C;have hm:=h.m;have hcc:=h.c;have:=qdE (rows:=R) (cols:=C) (i:=i) (j:=j) (st:=(tM f R C).1) (ix:=(tM f R C).2.1) (vl:=(tM f R C).2.2) Oq Oq quF;unfold quL at this;rw [if_pos ⟨by omega,by omega,by omega,by omega⟩,zG] at this;have hf:=qlt (f:=f) hi hj;cases hc:qhP (tM f R C).1 (tM f R C).2.1 i j with
 | some k =>
  rw [hc] at this hf;simp only at this hf;have hk:k < (tM f R C).2.2.length:=by
   unfold qhP at hc;have e1:((tM f R C).1.getD j 0).toNat=tO f R j:=by rw [zE,q3W (by omega)]; rfl
   have e2:((tM f R C).1.getD (j+1) 0).toNat=tO f R (j+1):=by rw [zE,q3W (by omega)]; rfl
   rw [e1,e2,qls] at hc;have:=(zB.1 (qby hc).2.2).1;omega
  rw [<- hf,zA hk];exact this
 | none =>
  rw [hc] at this hf;simp only at this hf;rw [<- hf];exact this
def q4Z {x:Nat}:ACt 122 [uv x] (bv (decide (x=0\/x=9223372036854775808))):=by
 have h0:((x:Int) == 0)=decide (x=0):=by
  rw [Bool.eq_iff_iff,beq_iff_eq,decide_eq_true_iff]; omega
 have h1:((x:Int) == 9223372036854775808)=decide (x=9223372036854775808):=by
  rw [Bool.eq_iff_iff,beq_iff_eq,decide_eq_true_iff]; omega
 refine ac0 Tryz.func122 Tryz.ntmps122 [.tmp 2] ?_;refine wk ?_
 by_cases e0:x=0
 ·refine wk1 (x2 h0 (decide_eq_true e0)) ?_;simp [e0]
 ·by_cases e1:x=9223372036854775808
  ·refine wk1 (x4 h0 (decide_eq_false e0) h1 (decide_eq_true e1)) ?_;simp [e1]
  ·refine wk1 (x4 h0 (decide_eq_false e0) h1 (decide_eq_false e1)) ?_;simp [e0,e1]
def q1o {x y:Nat} {A B V:Int} (hx:x < 18446744073709551616) (hy:y < 18446744073709551616) (ha:ofF x=some A) (hb:ofF y=some B) (hv:mkV (A*B) (-131072)=some V):ACt 128 [uv x,uv y] (pV V):=by
 refine ac0 Tryz.func128 Tryz.ntmps128 [.cell 4 48] ?_;have C1:=(q0w hx ha);have C2:=(q0w hy hb);have C3:=(q2m hv);exact wk trivial
def qds {A B:Int} {x:Nat} (h:ACt 216 [pV A,pV B,iv 0] (uv x)):ACt 126 [pV A,pV B] (uv x):=by
 refine ac0 Tryz.func126 Tryz.ntmps126 [.tmp 4] ?_;have C1:=@h;exact wk trivial
def q68 {x y:Nat} (hx:bl x<=20000000) (hy:bl y<=20000000) (hy0:y≠0):ACt 352 [.fm (fL x),.fm (fL y)] (.tu [.fm (fL (x / y:Nat)),.fm (fL (x % y:Nat))]):=q2x (qhC hx hy hy0)
def q3n {s:Bool} {z:Nat} (hz:bl z<=20000000):ACt 194 [bv s,.fm (fL z)] (bT (sgn s z)):=by
 have C:=q10 (s:=s) (q0C z) (q3X hz);rw [q0D] at C;exact q2x C
def q2j {a:Int} (ha:bl a.natAbs<=20000000):ACt 225 [bT a] (bT a):=q2x (q3r rfl ha)
def q69 {a:Int} (ha:bl a.natAbs<=20000000):ACt 228 [bT a] (iv (bl a.natAbs:Nat)):=q2x (q39 ha)
def q35 {a:Int} (h1 : -9223372036854775808<=a) (h2:a<=9223372036854775807):ACt 104 [iv a] (bT a):=q2x (q2n h1 h2)
def q67 {a b:Nat} (ha:bl a<=20000000) (hb:bl b<=20000000) (hb0:b≠0):ACt 339 [bT a,bT b] (.tu [bT (a / b:Nat),bT (a % b:Nat)]):=by
 have h1:=q0e (yG a b);have h2:=q0e (xJ a b);have cA:=q2j (a:=a) (by rw [zN]; exact ha);have cB:=q2j (a:=b) (by rw [zN]; exact hb);have cD:=q68 ha hb hb0;have cQ:=q3n (s:=false) (z:=a / b) Oq;have cR:=q3n (s:=false) (z:=a % b) Oq;have cS:=q0r (a:=(a % b:Nat)) (by rw [zN]; omega);rw [q8g] at cQ cR;have d:∀ z:Nat,decide ((z:Int) < 0)=false:=λz=>decide_eq_false Oq;have hs:((a % b:Nat):Int).sign < 0 ↔ False:=by
  rcases Nat.eq_zero_or_pos (a % b) with h | h
  ·rw [h]; simp
  ·rw [uG (by omega)]; simp
 generalize ((a % b:Nat):Int).sign=sg at *;generalize a % b=r at *;generalize a / b=q at *;have hs':¬ sg < 0:=λh=>hs.1 h;have e0:(false != false)=false:=rfl;unfold bT at *;rw [d] at *;simp only [d] at *;refine ac0 Tryz.func339 Tryz.ntmps339 [.cell 4 46,.cell 5 46] ?_;exact wk1 (x2 e0 hs') trivial
def q9q {N M:Nat} {neg more:Bool} {mode e:Int} (hM:0 < M) (hN:M<=N) (hm:more=decide (N % M≠0)) (hmb:more=true->55<=bl (N / M)) (hb:bl (N / M)<=200000) (he1 : -200000<=e) (he2:e<=200000) :
  ACt 174 [bv neg,bT (N / M:Nat),iv e,bv more,iv mode] (uv (rE mode neg N M e:Nat)):=q5j rfl hM hN hm hmb hb he1 he2
def q1l {a b:Int} (ha:bl a.natAbs<=20000000) (hb:bl b.natAbs<=20000000):ACt 143 [bT a,bT b] (bT (a*b)):=qcJ rfl rfl ha hb
def rtK (a b:Nat):Nat:=62+bl b-bl a
def qeV {a b:Nat} (ha0:a≠0) (hb0:b≠0) (ha:bl a<=200000) (hb:bl b<=200000) :
  ACt 302 [bT a,bT b,iv 60] (.tu [bT (a*2 ^ rtK a b / b:Nat),iv (-(rtK a b:Int)),bv (decide (a*2 ^ rtK a b % b≠0))]):=by
 obtain ⟨k,hk⟩:∃ k,k=rtK a b:=⟨_,rfl⟩;rw [<- hk];unfold rtK at hk;have cA:=q69 (a:=a) (by rw [zN]; omega);have cB:=q69 (a:=b) (by rw [zN]; omega);rw [zN] at cA cB;have cH:=q59 (a:=a) (m:=k) (by rw [zN]; omega) (by omega) (by omega);have eH:shI a (k:Int)=((a*2 ^ k:Nat):Int):=by unfold shI; rw [if_pos (by omega),zG]; simp
 rw [eH] at cH;have hbk:bl (a*2 ^ k)<=600000:=by rw [q0z ha0]; omega
 have cD:=q67 (a:=a*2 ^ k) (b:=b) Oq Oq hb0;have hbm:=q0e (xJ (a*2 ^ k) b);have cS:=q0r (a:=(a*2 ^ k % b:Nat)) (by rw [zN]; omega);have w1:IntKind.i64.wrap ((62:Int)+(bl b:Nat))=((62+bl b:Nat):Int):=by rw [i64_in (by omega) (by omega)]; omega
 have w2:IntKind.i64.wrap (((62+bl b:Nat):Int)-(bl a:Nat))=((62+bl b:Nat):Int)-(bl a:Nat):=i64_in Oq Oq;have em:max (((62+bl b:Nat):Int)-(bl a:Nat)) 0=(k:Int):=by omega
 have w3:IntKind.i64.wrap (0-(k:Int)) = -(k:Int):=by rw [i64_in (by omega) (by omega)]; omega
 have es:(((a*2 ^ k % b:Nat):Int).sign != 0)=decide (a*2 ^ k % b≠0):=by
  by_cases h:a*2 ^ k % b=0
  ·rw [h]; rfl
  ·rw [uG (by omega),decide_eq_true h]; rfl
 generalize decide (a*2 ^ k % b≠0)=mr at *;generalize ((a*2 ^ k % b:Nat):Int).sign=sg at *;generalize a*2 ^ k % b=r at *;generalize a*2 ^ k / b=q at *;generalize a*2 ^ k=m at *;unfold bT at *;have w0:IntKind.i64.wrap ((60:Int)+2)=62:=rfl;refine ac0 Tryz.func302 Tryz.ntmps302 [.cell 6 46,.tmp 7,.tmp 8] ?_;exact wk1 (x6 w0 w1 w2 em w3 es) trivial
def qaE {A B mode:Int} (hB0:B≠0):ACt 216 [pV A,pV B,iv mode] (uv (fQ mode A B:Nat)):=q4w (al':=[dT A,dT B,iv mode]) (p:=q0U A/\q0U B) qhW (λD w vs hR=>by
 obtain ⟨a,b,c,rfl,h1,h2,h3⟩:=rd_3 hR;obtain ⟨h4,h5⟩:=q2d.2 (qaC h1);obtain ⟨h6,h7⟩:=q2d.2 (qaC h2);refine ⟨?_,h5,h7⟩;unfold RdL;refine ⟨_,_,rfl,h4,?_⟩;unfold RdL;exact ⟨_,_,rfl,h6,RdL.one h3⟩) λ⟨hA,hB⟩=>by
 obtain ⟨a1,a2,a3⟩:=q0x hA;obtain ⟨b1,b2,b3⟩:=q0x hB;have b4:=q6q hB;have cA:=q0h hA;have cB:=q0h hB;have sB:=q0r (a:=od B) Oq;have sA:=q0r (a:=od A) Oq;have oB:=q3a hB0;have e1:((od B).sign == 0)=false:=by simpa [zJ] using oB
 by_cases hA0:A=0
 ·have oA:od A=0:=by
   have:=q1F A;rw [hA0] at this ⊢
   rcases xD.1 this with h | h
   ·exact h
   ·exact absurd h (xQ (q0K _))
  have e2:((od A).sign == 0)=true:=by rw [oA]; rfl
  have hres:fQ mode A B=0:=by unfold fQ; rw [if_pos hA0]
  rw [hres];unfold dT at *;unfold bT at *;refine ac0 Tryz.func216 Tryz.ntmps216 [.tmp 6] ?_;refine wk1 (x2 e1 e2) ?_
  rfl
 have oA:=q3a hA0;have e2:((od A).sign == 0)=false:=by simpa [zJ] using oA
 have tA:=q41 (a:=od A) Oq;have tB:=q41 (a:=od B) Oq;have pA:(od A).natAbs≠0:=by omega
 have pB:(od B).natAbs≠0:=by omega
 have cR:=qeV pA pB Oq Oq;obtain ⟨k,hk⟩:∃ k,k=rtK (od A).natAbs (od B).natAbs:=⟨_,rfl⟩;rw [<- hk] at cR;have hk2:62+bl (od B).natAbs-bl (od A).natAbs=k:=hk.symm;have hbk:=q0z pA (k:=k);have hge:=q9Y pB (N:=(od A).natAbs*2 ^ k) (k:=60) (by rw [hbk]; omega);have hle:(od B).natAbs<=(od A).natAbs*2 ^ k:=by
  rcases xO ((od A).natAbs*2 ^ k) (od B).natAbs with h | h
  ·rw [Nat.div_eq_of_lt h] at hge; simp [bl] at hge
  ·exact h
 have hbq:=q0e (yG ((od A).natAbs*2 ^ k) (od B).natAbs);have hrd:=q9q (N:=(od A).natAbs*2 ^ k) (M:=(od B).natAbs) (neg:=decide (A < 0) != decide (B < 0)) (mode:=mode) (e:=dyE A-k-dyE B) (Nat.pos_of_ne_zero pB) hle rfl (λ_=>by omega) Oq Oq Oq;rw [qm2 hA0 hB0] at hrd;have hres:fQ mode A B=rF mode (decide (A < 0) != decide (B < 0)) A.natAbs B.natAbs:=by unfold fQ; rw [if_neg hA0]
 rw [hres];have w1:IntKind.i64.wrap (dyE A-dyE B)=dyE A-dyE B:=q7R Oq Oq;have w2:IntKind.i64.wrap (dyE A-dyE B + -(k:Int))=dyE A-k-dyE B:=by rw [i64_in (by omega) (by omega)]; omega
 have s1:=q1s A;have s2:=q1s B;generalize rF mode (decide (A < 0) != decide (B < 0)) A.natAbs B.natAbs=res at *;generalize decide ((od A).natAbs*2 ^ k % (od B).natAbs≠0)=mr at *;generalize (od A).natAbs*2 ^ k / (od B).natAbs=q at *;have d1:∀ z:Nat,decide ((z:Int) < 0)=false:=λz=>decide_eq_false Oq;unfold dT at *;unfold bT at *;rw [<- s1,<- s2] at hrd;refine ac0 Tryz.func216 Tryz.ntmps216 [.tmp 6] ?_;exact wk1 (x4 e1 e2 w1 w2) trivial

def q4y (raw:List Nat) (k:Int) (st n:Nat):List Nat:=(List.range n).map λi:Nat=>q2U st (q5H raw (k+i))
def q3B {raw:List Nat} {k:Int} {st n:Nat}:(q4y raw k st n).length=n:=by simp [q4y]
def qle {raw:List Nat} {k:Int} {st n:Nat}:q4y raw k st (n+1)=q4y raw k st n ++ [q2U st (q5H raw (k+n))]:=by simp [q4y,xC]
def qjb (x:Nat):Prop:=0 < x / 1099511627776 % 3
instance {x:Nat}:Decidable (qjb x):=inferInstanceAs (Decidable (_ < _))
def gC (raw:List Nat) (R st j:Nat) (p:List Int × List Nat):Nat->List Int × List Nat
 | 0=>p
 | i+1=>let q:=gC raw R st j p i
  if qjb (q5H raw (100+j*R+i)) then (q.1 ++ [(i:Int)],q.2 ++ [q2U st (q5H raw (100+j*R+i))]) else q
def gM (raw:List Nat) (R st:Nat):Nat->List Int × List Int × List Nat
 | 0=>([0],[],[])
 | j+1=>let m:=gM raw R st j
  let p:=gC raw R st j m.2 R
  (m.1 ++ [(p.1.length:Int)],p)
abbrev pM (R C:Int) (m:List Int × List Int × List Nat):PV:=.ag [iv R,iv C,pI m.1,pI m.2.1,pF m.2.2]
def qgY {raw:List Nat} {R st j:Nat} {p:List Int × List Nat} (hp:p.1.length=p.2.length):∀ i,(gC raw R st j p i).1.length=(gC raw R st j p i).2.length/\(gC raw R st j p i).1.length<=p.1.length+i
 | 0=>⟨hp,zW _⟩
 | i+1=>by
  have:=qgY (raw:=raw) (R:=R) (st:=st) (j:=j) hp i;simp only [gC]
  split
  ·simp only [zY,List.length_cons,List.length_nil]; omega
  ·omega
def qmu {raw:List Nat} {R st:Nat}:∀ j,(gM raw R st j).1.length=j+1/\(gM raw R st j).2.1.length=(gM raw R st j).2.2.length/\(gM raw R st j).2.1.length<=j*R
 | 0=>⟨rfl,rfl,by simp [gM]⟩
 | j+1=>by
  have h1:=qmu (raw:=raw) (R:=R) (st:=st) j;have h2:=qgY (raw:=raw) (R:=R) (st:=st) (j:=j) h1.2.1 R;simp only [gM];refine ⟨by simp [h1.1],h2.1,?_⟩;rw [Nat.succ_mul]; omega
def qdX {raw : List Nat} {st : Int} {R C : Nat} (hr : raw.length <= 9223372036854775807) (hR : R <= 1000) (hC : C <= 1000) (h3 : -9223372036854775808 <= st) (h4 : st <= 9223372036854775807) :
    ACt 11 [pF raw, iv R, iv C, iv st] (pM R C (gM raw R (q0d st 4) C)) := by
  refine ac0 Tryz.func11 Tryz.ntmps11 [.cell 8 27] ?_
  refine wk ?_
  obtain ⟨sm, hsm⟩ : ∃ sm, sm = q0d st 4 := ⟨_, rfl⟩
  rw [<- hsm]
  refine q0B (λj => j <= C) [0, 1, 2, 3, 8, 9] [8] Lk Lk (λj : Nat => [(10, iv j)]) (λj => [(9, ⟨27, some 5, [.ag [iv R, iv C, .ow 1001 none 0 (gM raw R sm j).1.length, .ow 1002 none 0 (gM raw R sm j).2.1.length, .ow 1003 none 0 (gM raw R sm j).2.2.length]], false⟩), (1001, ⟨3, none, (gM raw R sm j).1.map λz => iv z, false⟩), (1002, ⟨3, none, (gM raw R sm j).2.1.map λz => iv z, false⟩), (1003, ⟨33, none, (gM raw R sm j).2.2.map λz : Nat => uv z, false⟩)]) (λj => C - j) 0 (zF _) ?_ ?_
  · refine LeM [(1001, some 15), (1002, none), (1003, none)] rfl rfl ?_
    refine Zz ?_
    exact ⟨rfl, ⟨rfl, rfl, rfl⟩, rfl, rfl, rfl⟩
  · intro j hj
    have hg := qmu (raw := raw) (R := R) (st := sm) j
    have hjR : j * R <= 1000 * 1000 := uM Oq hR
    refine wk ?_
    by_cases hlt : j < C
    · have hlt' : (j : Int) < C := by omega
      refine wk1 hlt' ?_
      refine q0B (λi => i <= R) [0, 1, 2, 3, 8, 9, 10] [8, 1001] Lk Lk (λi : Nat => [(11, iv i)]) (λi => [(9, ⟨27, some 5, [.ag [iv R, iv C, .ow 1001 none 0 (gM raw R sm j).1.length, .ow 1002 none 0 (gC raw R sm j (gM raw R sm j).2 i).1.length, .ow 1003 none 0 (gC raw R sm j (gM raw R sm j).2 i).2.length]], false⟩), (1002, ⟨3, none, (gC raw R sm j (gM raw R sm j).2 i).1.map λz => iv z, false⟩), (1003, ⟨33, none, (gC raw R sm j (gM raw R sm j).2 i).2.map λz : Nat => uv z, false⟩)]) (λi => R - i) 0 (zF _) ?_ ?_
      · refine LeM [] rfl rfl ?_
        refine Zz ?_
        exact ⟨rfl, ⟨rfl, rfl⟩, rfl, rfl⟩
      · intro i hi
        have hq := qgY (raw := raw) (R := R) (st := sm) (j := j) hg.2.1 i
        refine wk ?_
        by_cases hlt2 : i < R
        · have hlt2' : (i : Int) < R := by omega
          refine wk1 hlt2' ?_
          have e0 : 0 <= (j : Int) * R := Int.mul_nonneg Oq Oq
          have e1 : (j : Int) * R <= 1000000 := by have : ((j * R : Nat) : Int) <= 1000000 := by omega
                                                   rwa [Int.natCast_mul] at this
          obtain ⟨x, hx⟩ : ∃ x, x = q5H raw (100 + j * R + i) := ⟨_, rfl⟩
          have hxl : x < 18446744073709551616 := by rw [hx]; exact q2M _ _
          have e2 : (((x : Nat) : Int).fdiv (2 ^ min (Int.toNat 40) 64)) = ((x / 1099511627776 : Nat) : Int) := by
            show (((x : Nat) : Int).fdiv (2 ^ 40)) = _
            rw [show ((2 : Int) ^ 40) = ((1099511627776 : Nat) : Int) from rfl, Int.fdiv_eq_ediv_of_nonneg _ (by omega)]; rfl
          have e3 : (((x / 1099511627776 : Nat) : Int).tmod 3) = ((x / 1099511627776 % 3 : Nat) : Int) := by rw [Int.tmod_eq_emod_of_nonneg (by omega)]; rfl
          have C1 := @q7F
          have C2 := @qf6
          have ek : (decide (((x / 1099511627776 % 3 : Nat) : Int) > 0)) = decide (qjb x) := by unfold qjb; congr 1; exact propext ⟨λh => by omega, λh => by omega⟩
          by_cases hkp : qjb x
          · refine wk1 (x6 hx.symm hsm.symm e2 e3 ek hkp) ?_
            have eg : gC raw R sm j (gM raw R sm j).2 (i + 1) = ((gC raw R sm j (gM raw R sm j).2 i).1 ++ [(i : Int)], (gC raw R sm j (gM raw R sm j).2 i).2 ++ [q2U sm x]) := by
              simp only [gC]; rw [<- hx, if_pos hkp]
            refine ⟨i + 1, by omega, by omega, ?_⟩
            rw [eg]
            refine LeM [(1002, some 43), (1003, some 51)] rfl rfl ?_
            refine Zz ?_
            omega
          · refine wk1 (x5 hx.symm e2 e3 ek hkp) ?_
            refine ⟨i + 1, by omega, by omega, ?_⟩
            have eg : gC raw R sm j (gM raw R sm j).2 (i + 1) = gC raw R sm j (gM raw R sm j).2 i := by
              simp only [gC]; rw [<- hx, if_neg hkp]
            rw [eg]
            refine LeM [] rfl rfl ?_
            refine Zz ?_
            omega
        · have hlt2' : ¬ (i : Int) < R := by omega
          obtain rfl : i = R := by omega
          refine wk1 hlt2' ?_
          refine ⟨j + 1, by omega, by omega, ?_⟩
          refine LeM [(1001, some 59)] rfl rfl ?_
          refine Zz ?_
          exact ⟨by omega, ⟨by simp [gM], rfl, rfl⟩, rfl, rfl, rfl⟩
    · have hlt' : ¬ (j : Int) < C := by omega
      obtain rfl : j = C := by omega
      exact wk1 (x2 hlt' hsm.symm) trivial
def gF (raw:List Nat) (R st:Nat) (j i:Nat):Option Nat:=if qjb (q5H raw (100+j*R+i)) then some (q2U st (q5H raw (100+j*R+i))) else none
def gC_s {raw:List Nat} {R st j i:Nat} {p:List Int × List Nat} {x:Nat} (hx:q5H raw (100+j*R+i)=x):gC raw R st j p (i+1)=if qjb x then ((gC raw R st j p i).1 ++ [(i:Int)],(gC raw R st j p i).2 ++ [q2U st x]) else gC raw R st j p i:=by
 subst hx; rfl
def gF_x {raw:List Nat} {R st j i x:Nat} (hx:q5H raw (100+j*R+i)=x):gF raw R st j i=if qjb x then some (q2U st x) else none:=by
 subst hx; rfl
def qe0 {f:Nat->Nat->Option Nat} {j i x:Nat} {p:List Int × List Nat} (h:f j i=some x):tC f j p (i+1)=((tC f j p i).1 ++ [(i:Int)],(tC f j p i).2 ++ [x]):=by simp only [tC,h]
def qcr {f:Nat->Nat->Option Nat} {j i:Nat} {p:List Int × List Nat} (h:f j i=none):tC f j p (i+1)=tC f j p i:=by simp only [tC,h]
def gC_eq {raw:List Nat} {R st j:Nat} {p:List Int × List Nat} {G:Nat->Nat->Option Nat} (hG:∀ i,G j i=gF raw R st j i) (i:Nat):gC raw R st j p i=tC G j p i:=by
 induction i with
 | zero=>unfold gC tC; rfl
 | succ i ih =>
  obtain ⟨x,hx⟩:∃ x,q5H raw (100+j*R+i)=x:=⟨_,rfl⟩;have e2:=(hG i).trans (gF_x (R:=R) (st:=st) hx);rw [gC_s hx,ih]
  by_cases h:qjb x
  ·rw [if_pos h] at e2 ⊢;rw [qe0 e2]
  ·rw [if_neg h] at e2 ⊢;rw [qcr e2]
def gM_eq {raw:List Nat} {R st:Nat} (j:Nat):gM raw R st j=tM (gF raw R st) R j:=by
 induction j with
 | zero=>rfl
 | succ j ih =>
  have e1:gM raw R st (j+1)=((gM raw R st j).1 ++ [((gC raw R st j (gM raw R st j).2 R).1.length:Int)],gC raw R st j (gM raw R st j).2 R):=rfl;rw [e1,ih,gC_eq (G:=gF raw R st) λ_=>rfl]; rfl
def q5w {raw:List Nat} {st:Int} {R C:Nat} (hr:raw.length<=9223372036854775807) (hR:R<=1000) (hC:C<=1000) (h3 : -9223372036854775808<=st) (h4:st<=9223372036854775807) :
  ACt 11 [pF raw,iv R,iv C,iv st] (pT R C (gF raw R (q0d st 4))):=by
 have:=qdX (R:=R) (C:=C) hr hR hC h3 h4;rw [gM_eq] at this;exact this
def qpl {x:Nat} (hx:x < 18446744073709551616):q0I (q2U 2 x)/\q2U 2 x < 18446744073709551616:=by
 unfold q0I q2U;rw [if_neg (by omega),if_pos rfl];have h1:x / 9223372036854775808<=1:=by omega
 have h2:x / 256 % 81 < 81:=by omega
 have h3:x / 2251799813685248 % 2<=1:=by omega
 generalize x / 9223372036854775808=a at *;generalize x / 256 % 81=b at *;generalize x / 2251799813685248 % 2=c at *;omega
def qf7 {k x:Nat} (hx:x < 18446744073709551616):q0I (q2U k x)/\q2U k x < 18446744073709551616:=by
 by_cases h1:k=1
 ·subst h1;unfold q0I q2U;rw [if_pos rfl];omega
 by_cases h2:k=2
 ·subst h2; exact qpl hx
 by_cases h3:k=3
 ·subst h3;unfold q0I q2U;rw [if_neg (by omega),if_neg (by omega),if_pos rfl]
  split <;> omega
 have hs:=q5I x;unfold q2U;rw [if_neg h1,if_neg h2,if_neg h3];exact ⟨qg2 Oq,qmx Oq⟩
def qqX {raw:List Nat} {R C st:Nat} (hR:R<=200) (hC:C<=200) (hm:C*R<=10000):TOk (gF raw R st) R C:=by
 have key:∀ j i x,gF raw R st j i=some x->q0I x/\x < 18446744073709551616:=λj i x h=>by
  obtain ⟨u,hu⟩:∃ u,q5H raw (100+j*R+i)=u:=⟨_,rfl⟩;have hl:u < 18446744073709551616:=by rw [<- hu]; exact q2M _ _
  rw [gF_x hu] at h
  split at h
  ·have h:=zI.inj h;rw [<- h]; exact qf7 hl
  ·cases h
 exact ⟨hR,hC,hm,λj i x _ _ h=>(key j i x h).2,λj i x _ _ h=>(key j i x h).1⟩
section
variable {D:Nat->Prop} {L:List Nat} {N0 g n gy:Nat} {rows:List (List Int)} {ss:List (Option Addr × Nat × Nat)} {w w':World}
def qvX {mode:Int} {neg:Bool} {N M:Nat} (hN:0 < N) (hM:0 < M):rF mode neg N M < 18446744073709551616:=by
 have h1:M<=N*2 ^ bl M:=zU (xP (q2a M)) (xA _ hN);have:=qvY (mode:=mode) (neg:=neg) (e := -((bl M:Nat):Int)) hM h1;unfold rE at this;rw [show (-((bl M:Nat):Int)).toNat=0 by omega,show (- -((bl M:Nat):Int)).toNat=bl M by omega,y7,uN,q3s hN hM (q0E _)] at this;exact this
def qa1 {mode a b:Int} (hb:b≠0):fQ mode a b < 18446744073709551616:=by
 unfold fQ
 split
 ·omega
 ·exact qvX Oq Oq
end
def q1T {V:Int}:Nz (pV V):=λw D B v hB h=>by
 obtain ⟨s,A,n,c,rfl,⟨h1,h2⟩,h3⟩:=qaC h;refine qaB ⟨s,A,n,c,rfl,⟨h1,⟨h2.1.cap,h2.1.len,λhx=>?_⟩,h2.2⟩,h3⟩;obtain ⟨ad,hA,hd,hcell⟩:=h2.1.at_ hx;refine ⟨ad,hA,⟨hd,λhb=>?_⟩,hcell⟩;obtain ⟨cs,T,hb,hc⟩:=hB _ hb;obtain ⟨x,hx0⟩:∃ x,((lim (od V).natAbs).map u32v)[0]?=some x:=⟨_,zA hx⟩;have h1:=hcell 0 x hx0;have h2:∃ d:Int,x=.int .u32 d:=by
  rw [zH] at hx0;cases hl:(lim (od V).natAbs)[0]? with
  | none=>rw [hl] at hx0; cases hx0
  | some d=>rw [hl] at hx0; exact ⟨_,(zI.inj hx0).symm⟩
 obtain ⟨d,rfl⟩:=h2;have h3:w.heap[ad.block]?=some (.cells cs T (0,0)):=hb;have h4:(ad.add 0).block=ad.block:=q1J ad 0;unfold World.cell? at h1;rw [h4,h3] at h1;simp only at h1
 split at h1
 ·cases h1
 ·have:=hc _ (Array.mem_toList_iff.2 (Array.mem_of_getElem? h1));cases this
abbrev pVs (l:List Int):PV:=.sl (some 4) (l.map λV=>pV V)
def clV {l:List Int}:ClL (l.map λV=>pV V):=λx hx=>by
 obtain ⟨e,_,rfl⟩:=zM.1 hx
 trivial
def q3e {l:List Int} (hn:l.length<=1000) (hv:q0U (q1M l)):ACt 70 [pVs l] (pV (q1M l)):=⟨by kernel_rfl,λD w vs hT hF hR=>by
 refine (qqy hn (λx hx=>?_) hv).2 D w vs hT hF hR;obtain ⟨_,rfl,h3⟩:=qpR hR;obtain ⟨i,hi⟩:=List.mem_iff_getElem?.1 hx;unfold Rd at h3;obtain ⟨_,_,_,us,_,_,_,h5,_⟩:=h3;obtain ⟨v,_,hr⟩:=h5.get (show (l.map λV=>pV V)[i]?=some (pV x) by simp [hi]);exact ((q2d (ρ:=λ_=>none) (h:=h0)).2 (qaC hr)).2⟩
def q2T:Int:=(mkV 1 0).getD 0
def q4f:mkV 1 0=some q2T/\bl q2T.natAbs<=67600:=by
 have h1:bl (Int.natAbs 1)<=1:=q0N (by decide);have h:=q5p (m:=1) (E:=0) Oq Oq;unfold q2T;rw [h];refine ⟨rfl,?_⟩;obtain ⟨k,hk⟩:∃ k,k=((0:Int)+65536).toNat:=⟨_,rfl⟩;have hk2:k<=65536:=by omega
 rw [<- hk,yL,q0G,q0z (by decide)];omega
def q4E {mode V:Int}:fR mode V < 18446744073709551616:=by
 unfold fR
 split
 ·omega
 ·exact qvX Oq (by exact Nat.two_pow_pos 65536)
def TOk.fin {f:Nat->Nat->Option Nat} {R C j i:Nat} (h:TOk f R C) (hj:j < C) (hi:i < R):q0I ((f j i).getD 0)/\(f j i).getD 0 < 18446744073709551616:=by
 cases hx:f j i with
 | none=>exact ⟨by unfold q0I; simp,by simp⟩
 | some x=>exact ⟨h.v j i x hj hi hx,h.u j i x hj hi hx⟩
def qe2 {l:List Int} (h:∀ x ∈ l,bl x.natAbs<=67600) (hl:l.length<=1024):q0U (q1M l):=by
 have:=q5b h hl;rw [zQ] at this;unfold q0U;omega
abbrev tbH (N R n m:Nat) (g:Nat->Nat->Bool):Hp:=qst 69 4 N R n m g



def lfN (l:List Int) (r:Nat):Nat:=(l.getD r 0).toNat
def qpz {l:List Int} {r x:Nat} (h:l[r]?=some (x:Int)):lfN l r=x:=by
 unfold lfN; rw [zE,h]; simp
def elH (n:Nat) (g:Nat->Nat->Bool) (gn:Nat->Bool):Hp:=λi=>if i=5000 then some ⟨345,some 2,[.ag [.ow 5002 none 0 n,.ow 5001 none 0 n]],false⟩ else if i=5001 then some ⟨4,none,(List.range n).map λc=>bv (gn c),false⟩ else tbH 5002 20000 n n g i
section
variable {n:Nat} {g g':Nat->Nat->Bool} {gn gn':Nat->Bool} {h:Hp}
def elH_0:elH n g gn 5000=some ⟨345,some 2,[.ag [.ow 5002 none 0 n,.ow 5001 none 0 n]],false⟩:=rfl
def elH_1:elH n g gn 5001=some ⟨4,none,(List.range n).map λc=>bv (gn c),false⟩:=rfl
def elH_2:elH n g gn 5002=some ⟨69,none,(List.range n).map λj=>.ow (j+20000) none 0 n,false⟩:=rfl
def elH_r {j:Nat} (hj:j < n):elH n g gn (j+20000)=some ⟨4,none,(List.range n).map λc=>bv (g j c),false⟩:=by
 unfold elH;rw [if_neg (by omega),if_neg (by omega)];exact qlo Oq hj
def qxO {i:Nat} (hi:i < 5000):elH n g gn i=none:=by
 unfold elH;rw [if_neg (by omega),if_neg (by omega)];exact quB Oq (.inl Oq)
attribute [go_sem ↓] elH_0 elH_1 elH_2 elH_r qxO
end
def ag243:q09 Tryz.prog 345=some (some 2):=by kernel_rfl
attribute [go_sem] ag243
abbrev pN (l:List Nat):PV:=.sl none (l.map λz:Nat=>iv z)

def od_z0 {V:Int} (h:V=0):od V=0:=by
 have:=q1F V;rw [h] at this ⊢
 rcases xD.1 this with h | h
 ·exact h
 ·exact absurd h (xQ (q0K _))
def qjI {A B mode:Int} (hB0:B=0):ACt 216 [pV A,pV B,iv mode] (uv 9221120237041090560):=q4w (al':=[dT A,dT B,iv mode]) (p:=q0U A/\q0U B) qhW (λD w vs hR=>by
 obtain ⟨a,b,c,rfl,h1,h2,h3⟩:=rd_3 hR;obtain ⟨h4,h5⟩:=q2d.2 (qaC h1);obtain ⟨h6,h7⟩:=q2d.2 (qaC h2);refine ⟨?_,h5,h7⟩;unfold RdL;refine ⟨_,_,rfl,h4,?_⟩;unfold RdL;exact ⟨_,_,rfl,h6,RdL.one h3⟩) λ⟨hA,hB⟩=>by
 have b3:=q28 hB;have cA:=q0h hA;have cB:=q0h hB;have sB:=q0r (a:=od B) Oq;have e1:((od B).sign == 0)=true:=by rw [od_z0 hB0]; rfl
 unfold dT at *;unfold bT at *;refine ac0 Tryz.func216 Tryz.ntmps216 [.tmp 6] ?_;exact wk1 e1 trivial
def qiE (mode A B:Int):Nat:=if B=0 then 9221120237041090560 else fQ mode A B
def qfP {mode A B:Int}:qiE mode A B < 18446744073709551616:=by
 unfold qiE
 split
 ·omega
 ·exact qa1 (by assumption)
def qjH {A B mode:Int}:ACt 216 [pV A,pV B,iv mode] (uv (qiE mode A B:Nat)):=by
 unfold qiE
 split
 ·exact qjI (by assumption)
 ·exact qaE (by assumption)
end Go.Proofs.YtpbaikoblfcmdaaGreatDoor
namespace Go.E
open Go Go.RowKit
section
variable {P:Program} {J:Nat->Prop} {s:Nat->PV} {h hw:Hp} {τ:Nat->Option Nat} {T1 T2:TypeId} {N R n k m:Nat} {g:Nat->Nat->Nat}
def tabU (T1 T2:TypeId) (N R n k m:Nat) (g:Nat->Nat->Nat):Hp:=λi =>
 if i=N then some ⟨T1,none,(List.range n).map λj=>if j < k then .ow (j+R) none 0 m else .vl (.slice none 0 0),false⟩
 else if R<=i/\i < R+k then some ⟨T2,none,(List.range m).map λc=>.vl (.int .u64 (g (i-R) c:Nat)),false⟩ else none
def quA:tabU T1 T2 N R n k m g N=some ⟨T1,none,(List.range n).map λj=>if j < k then .ow (j+R) none 0 m else .vl (.slice none 0 0),false⟩:=if_pos rfl
def qtz {j:Nat} (hN:N < R) (hj:j < k):tabU T1 T2 N R n k m g (j+R)=some ⟨T2,none,(List.range m).map λc=>.vl (.int .u64 (g j c:Nat)),false⟩:=by
 unfold tabU;rw [if_neg (by omega),if_pos (by omega),yE]
attribute [go_sem ↓] quA qtz
def q3f (g:Nat->Nat->Nat) (r c v:Nat):Nat->Nat->Nat:=λx y=>if x=r/\y=c then v else g x y
def qjA {f:Nat->Nat} {c v:Nat}:((List.range m).map λy=>PV.vl (.int .u64 (f y:Nat))).set c (.vl (.int .u64 (v:Nat)))=(List.range m).map λy=>PV.vl (.int .u64 (if y=c then v else f y:Nat)):=by
 apply yH
 intro i;rw [yB];simp only [z8,yI,zH]
 by_cases hi:i < m
 ·rw [zC hi]
  by_cases hc:c=i
  ·subst hc; simp [hi]
  ·simp [hc,Ne.symm hc]
 ·rw [z9 (by simpa using hi)]
  by_cases hc:c=i <;> simp [hc]
  omega
def tnU (N o:Nat):Nat->Option Nat:=λi=>if i=N then some o else some i
def qtn {o i:Nat}:tnU N o i=if i=N then some o else some i:=rfl
attribute [go_sem ↓] qtn
end
end Go.E
namespace Go.Proofs.YtpbaikoblfcmdaaGreatDoor
open Go Go.E Go.Sp
abbrev LSt:=(Nat->Nat->Nat) × List Int × List Nat
section
variable {F:Nat->Nat->Option Nat} {l:List Int} {cs:List Nat} {cols:List (List Nat)} {j n:Nat} {p:LSt}
end
end Go.Proofs.YtpbaikoblfcmdaaGreatDoor
namespace Go.E
open Go Go.RowKit
end Go.E
namespace Go.Proofs.YtpbaikoblfcmdaaGreatDoor
open Go Go.E Go.Sp


def q36 {l:List Int} {a b p:Nat} (h:a+p < b):((l.take b).drop a)[p]?=l[a+p]?:=by
 rw [xK,xL,if_pos h]
def rd_pF {w:World} {D:Nat->Prop} {ρ:Nat->Option Nat} {h:Hp} {v:Value} {l:List Nat} (hr:In (fSc u64v l) D v w):Rd w D (pF l) ρ h v:=qvA (f:=u64v) (λx=>⟨rfl,rfl⟩) hr

def qvF {neg:Bool} {A B:Nat} (hB:0 < B):2*A<=2*(B*rq 0 neg A B)+B/\2*(B*rq 0 neg A B)<=2*A+B:=by
 have h1:=xB A B;have h2:=yP A hB;unfold rq;rw [if_neg (by omega:¬ (0:Int)=1),if_neg (by omega:¬ (0:Int)=2),if_neg (by omega:¬ (0:Int)=3)];have h3:B*(A / B+1)=B*(A / B)+B:=by rw [Nat.mul_add,uN]
 split
 ·omega
 ·split
  ·rw [h3]; omega
  ·omega
def qpK {mode:Int} {neg:Bool} {N D:Nat}:N / D<=rq mode neg N D:=by unfold rq; (repeat' split) <;> omega
def q38 {mode:Int} {neg:Bool} {N D K:Nat} (hN:0 < N) (hD:0 < D) (hK:1074<=K):∃ u r:Nat,K<=u+1074/\rF mode neg N D=fin mode neg r ((u:Int)-K)/\r=rq mode neg (N*2 ^ K) (D*2 ^ u)/\r<=9007199254740992/\(u+1074=K\/(4503599627370496<=r/\D*2 ^ (u+52)<=N*2 ^ K)):=by
 obtain ⟨q,hq⟩:∃ q,q=qgA N D:=⟨_,rfl⟩;have hq1:q=max (lgq N D-52) (-1074):=hq;obtain ⟨u,hu⟩:∃ u:Nat,(u:Int)=q+K:=⟨(q+K).toNat,by omega⟩;have hbl:D<=N*2 ^ bl D:=zU (xP (q2a D)) (xA _ hN);obtain ⟨g,hg⟩:∃ g,bl (N*2 ^ bl D / D)=g+1:=⟨bl (N*2 ^ bl D / D)-1,by
  have:bl (N*2 ^ bl D / D)≠0:=λh=>by
   have h1:=q2a (N*2 ^ bl D / D);rw [h] at h1;have:=xI hbl hD;omega
  omega⟩
 have hlg:lgq N D=(g:Int)-bl D:=by unfold lgq; omega
 have f2:N*2 ^ bl D < D*2 ^ (g+1):=by
  have:=q2a (N*2 ^ bl D / D);rw [hg,xF hD] at this;rw [yY D];exact this
 have f1:D*2 ^ g<=N*2 ^ bl D:=by
  have:=q8C (n:=N*2 ^ bl D / D) (by have:=xI hbl hD; omega);rw [hg,xG hD] at this;rw [yY D];exact this
 generalize bl D=b at *;have hr:rat mode neg N D q=rq mode neg (N*2 ^ K) (D*2 ^ u):=by
  unfold rat;rw [<- q3E (c:=2 ^ (K-(-q).toNat)) (q0E _),yN,yN,<- zX,<- zX,show (-q).toNat+(K-(-q).toNat)=K by omega,show q.toNat+(K-(-q).toNat)=u by omega]
 refine ⟨u,_,by omega,?_,rfl,?_,?_⟩
 ·unfold rF;rw [<- hq,hr,show (u:Int)-K=q by omega]
 ·refine zU qpJ ?_;have:N*2 ^ K / (D*2 ^ u) < 2 ^ 53:=by
   rw [xF (Nat.mul_pos hD (q0E _))];refine Nat.lt_of_mul_lt_mul_right (a:=2 ^ b) ?_;have e1:N*2 ^ K*2 ^ b=N*2 ^ b*2 ^ K:=by rw [yR]
   have e2:2 ^ 53*(D*2 ^ u)*2 ^ b=D*2 ^ (53+u+b):=by rw [Nat.mul_left_comm,yN,<- zX,<- zX]
   rw [e1,e2];refine uL (yJ f2 (q0E K)) ?_;rw [yN,<- zX];exact Nat.mul_le_mul_left _ (z7 Oq Oq)
  have h53:(2:Nat) ^ 53=9007199254740992:=by decide
  omega
 ·by_cases h:u+1074=K
  ·exact .inl h
  ·right
   have hm:D*2 ^ (u+52)<=N*2 ^ K:=by
    refine Nat.le_of_mul_le_mul_right (c:=2 ^ b) ?_ (q0E b);have e1:N*2 ^ K*2 ^ b=N*2 ^ b*2 ^ K:=by rw [yR]
    have e2:D*2 ^ (u+52)*2 ^ b=D*2 ^ g*2 ^ K:=by rw [yN,yN,<- zX,<- zX]; congr 2; omega
    rw [e1,e2];exact Nat.mul_le_mul_right _ f1
   refine ⟨zU ?_ qpK,hm⟩;rw [xG (Nat.mul_pos hD (q0E _))];have h52:(2:Nat) ^ 52=4503599627370496:=by decide
   rw [<- h52,Nat.mul_left_comm,<- zX,Nat.add_comm 52];exact hm
def q5x {mode:Int} {neg:Bool} {r u:Nat} {K:Nat} (hK:K=65536) (h1:K<=u+1074) (h2:r<=9007199254740992) (h3:u+1074=K\/4503599627370496<=r) (h4:u+1076 < 2047+K):ofF (fin mode neg r ((u:Int)-K))=some (sgn neg r*(2:Int) ^ u):=by
 unfold fin
 split
 ·rename_i h;rw [q4D Oq Oq Oq Oq,show ((u:Int)-K+1+65536).toNat=u+1 by omega,h]
  congr 1
  cases neg <;> simp [sgn,Int.pow_succ] <;> omega
 ·rw [q4D Oq Oq Oq Oq,show ((u:Int)-K+65536).toNat=u by omega]
def q5O {neg:Bool}:¬ q0I (q6i 0 neg):=by
 cases neg <;> exact λh=>h (by decide)
def qk8 {neg:Bool} {r u:Nat} {K:Nat} (hK:K=65536) (h1:K<=u+1074) (h2:r<=9007199254740992) (h3:u+1074=K\/4503599627370496<=r) (hf:q0I (fin 0 neg r ((u:Int)-K))):ofF (fin 0 neg r ((u:Int)-K))=some (sgn neg r*(2:Int) ^ u):=by
 by_cases h4:u+1076 < 2047+K
 ·exact q5x hK h1 h2 h3 h4
 ·unfold fin at hf ⊢
  split
  ·rename_i h;rw [if_pos h] at hf;unfold q4Y at hf;rw [if_neg Oq,if_pos (by omega)] at hf;exact absurd hf q5O
  ·rename_i h;rw [if_neg h] at hf
   by_cases h5:u+1075 < 2047+K
   ·rw [q4D Oq Oq Oq Oq,show ((u:Int)-K+65536).toNat=u by omega]
   ·unfold q4Y at hf;rw [if_neg Oq,if_pos (by omega)] at hf;exact absurd hf q5O
def q3K:ofF 0=some 0:=by
 unfold ofF;rw [if_neg (by decide),if_pos (by decide)];have:sgn (decide (9223372036854775808<=0)) (0 % 4503599627370496)=0:=by decide
 rw [this,yA]
def qwb {mode V:Int} {K c:Nat} (hK:K=65536) (hc:c=900) (h:V.natAbs < 2 ^ c*2 ^ K):q0I (fR mode V):=by
 unfold fR
 split
 ·unfold q0I; simp
 ·rw [<- hK];obtain ⟨u,r,h1,h2,h3,h4,h5⟩:=q38 (mode:=mode) (neg:=decide (V < 0)) (N:=V.natAbs) (D:=2 ^ K) (K:=K) Oq (q0E _) Oq;rw [h2];have hu:u+1076 < 2047+K:=by
   rcases h5 with h5 | ⟨_,h5⟩
   ·omega
   ·have h6:2 ^ K*2 ^ (u+52) < 2 ^ c*2 ^ K*2 ^ K:=yQ h5 (yJ h (q0E K));rw [<- zX,<- zX,<- zX] at h6;have:=(uO (by omega:1 < 2)).1 h6;omega
  have:=q5x (mode:=mode) (neg:=decide (V < 0)) hK h1 h4 Oq hu;intro hn;unfold ofF at this;rw [if_pos hn] at this;cases this
def qrv (m:Int) (k:Nat) (h1:m.natAbs < 9007199254740992) (h2:k<=65561):bl (m*(2:Int) ^ k).natAbs<=66000:=by
 have h53:∀ n:Nat,n < 9007199254740992->bl n<=53:=λn h=>q0N (uL h (zW _))
 by_cases hm:m=0
 ·subst hm; rw [yA]; simp [q07]
 ·rw [q0G,q0z (by omega)]; have:=h53 _ h1; omega
def qm8 {f:Nat} (h:f / 4503599627370496 % 2048<=1100):bl (ofZ f).natAbs<=66000:=by
 have hm:=yP f (show 0 < 4503599627370496 by omega);have hfm:∃ (m:Int) (k:Nat),ofF f=some (m*(2:Int) ^ k)/\m.natAbs < 9007199254740992/\k<=65561:=by
  unfold ofF;rw [if_neg (by omega)];generalize f / 4503599627370496 % 2048=x at *;generalize f % 4503599627370496=m at *
  split
  ·exact ⟨_,64462,rfl,by rw [q1N]; omega,by omega⟩
  ·exact ⟨_,64461+x,rfl,by rw [q1N]; omega,by omega⟩
 obtain ⟨m,k,h1,h2,h3⟩:=hfm;rw [q01 h1];exact qrv m k h2 h3
def qpk {k x:Nat} (hk:k < 3) (hx:x < 18446744073709551616):bl (ofZ (q2U k x)).natAbs<=66000:=by
 by_cases h1:k=1
 ·subst h1;refine qm8 ?_;unfold q2U;rw [if_pos rfl];omega
 by_cases h2:k=2
 ·subst h2;refine qm8 ?_;unfold q2U;rw [if_neg (by omega),if_pos rfl];have h1:x / 9223372036854775808<=1:=by omega
  have h2:x / 256 % 81 < 81:=by omega
  have h3:x / 2251799813685248 % 2<=1:=by omega
  generalize x / 9223372036854775808=a at *;generalize x / 256 % 81=b at *;generalize x / 2251799813685248 % 2=c at *;omega
 have hs:=q5I x;unfold q2U;rw [if_neg h1,if_neg h2,if_neg (by omega),q01 (qg1 (by omega))];exact qrv _ 65536 Oq Oq
def q4g:bl q2T.natAbs<=66000:=by
 have h:=q7i (z:=1) (by have:=q0N (n:=Int.natAbs 1) (k:=1) (by decide); omega);rw [q4f.1] at h;rw [zI.inj h];exact qrv 1 65536 (by decide) Oq
def gF_bl {raw:List Nat} {R k:Nat} (hk:k < 3) {j i:Nat}:bl (ofZ ((gF raw R k j i).getD 0)).natAbs<=66000:=by
 unfold gF
 split
 ·exact qpk hk (q2M _ _)
 ·rw [Option.getD_none,q01 q3K]; simp [q07]
def qsq (xs:List Nat) {T:TypeId}:WfH (q0Q h0 5000 ⟨T,none,xs.map λz:Nat=>uv z,false⟩):=⟨λi b hb=>by
 by_cases hi:i=5000
 ·subst hi;rw [q0L] at hb; cases hb;exact ⟨rfl,IdL.of λx hx=>by obtain ⟨z,_,rfl⟩:=zM.1 hx; unfold IdP; trivial⟩
 ·rw [q0A hi] at hb; cases hb⟩
def qky {xs:List Nat}:q2W (q0Q h0 5000 ⟨33,none,xs.map λz:Nat=>uv z,false⟩) (.ow 5000 none 0 xs.length)=some (pF xs,[5000]):=by
 unfold q2W;dsimp only;rw [q0L,yM,if_pos ⟨rfl,rfl,λx hx=>by obtain ⟨z,_,rfl⟩:=zM.1 hx; trivial⟩,List.drop_zero,yW (by rw [z8]; exact zW _)]
def qkz {a b:Int}:ACt 342 [iv a,iv b] (bv (decide (a < b))):=by
 have C1:∀ x:Int,ACt 353 [iv x] (bv false):=λx=>by
  have q:(x != x)=false:=by simp
  refine ac0 Tryz.func353 Tryz.ntmps353 [.tmp 2] ?_;exact wk1 q trivial
 refine ac0 Tryz.func342 Tryz.ntmps342 [.tmp 4] ?_;exact wk trivial
def qaQ {l:List Int} (hl:∀ (i:Nat) (x y:Int),l[i]?=some x->l[i+1]?=some y->x<=y) (hn:l.length<=1000000):ACt 308 [pI l] (bv true):=by
 have C1:=@qkz;refine ac0 Tryz.func308 Tryz.ntmps308 [.tmp 2] ?_;refine wk ?_;refine q0B (λi:Int=>i < l.length /\ -1<=i) [0] [] Lk Lk (λi:Int=>[(3,iv i)]) (λ_=>[]) (λi=>(i+1).toNat) (l.length-1:Int) ⟨by omega,by omega⟩ ?_ ?_
 ·refine LeM [] rfl rfl ?_;exact Zy
 ·rintro i ⟨hi,h0⟩
  by_cases hlt:i > 0
  ·obtain ⟨k,rfl⟩:∃ k:Nat,i=((k+1:Nat):Int):=⟨(i-1).toNat,by omega⟩;obtain ⟨x,hx⟩:∃ x,l[k]?=some x:=⟨_,zA Oq⟩;obtain ⟨y,hy⟩:∃ y,l[k+1]?=some y:=⟨_,zA Oq⟩;have:=hl k x y hx hy;have q:¬ y < x:=by omega
   have e:IntKind.i64.wrap (((k+1:Nat):Int)-1)=(k:Int):=by rw [i64_in (by omega) (by omega)]; omega
   refine wk1 (x6 hlt hx hy q e (decide_eq_false q)) ?_;refine ⟨k,⟨by omega,by omega⟩,by omega,?_⟩;refine LeM [] rfl rfl ?_;exact Zy
  ·exact wk1 hlt trivial
def quK {l:List Int} {a b p:Nat} (h:a+p < b):((l.take b).drop a)[p]?=l[a+p]?:=by
 rw [xK,xL,if_pos h]
def qdR (ix:List Int) (a k:Nat):Int:=if k=a then -1 else ix.getD (k-1) 0
def qjZ {R C:Nat} {st ix:List Int} {vl:List Nat} (hS:MSz R C ix) (hP:MPt C st ix vl) (hI:MIx R st ix):ACt 236 [q2F R C st ix vl] (bv true):=by
 obtain ⟨z1,z2,z3,z4,z5⟩:=hS;have hnn:=hP.nn;have hub:=hP.ub Oq;obtain ⟨p1,p2,p3,p4,p5⟩:=hP;rw [zG] at p4;have C1:=qaQ (l:=st) p5 Oq;have hsl:st.length=C+1:=by omega
 have hg:∀ j,j < C->∃ a b:Nat,st[j]?=some (a:Int)/\st[j+1]?=some (b:Int)/\a<=b/\b<=ix.length:=λj hj=>by
  obtain ⟨x,hx⟩:∃ x,st[j]?=some x:=⟨_,zA Oq⟩;obtain ⟨y,hy⟩:∃ y,st[j+1]?=some y:=⟨_,zA Oq⟩;have h1:=hnn j x hx;have h2:=p5 j x y hx hy;have h3:=hub (C-(j+1)) (j+1) y (by rw [zG]; omega) hy;exact ⟨x.toNat,y.toNat,by rw [hx]; congr 1; omega,by rw [hy]; congr 1; omega,by omega,by omega⟩
 unfold q2F;refine ac0 Tryz.func236 Tryz.ntmps236 [.tmp 2] ?_;refine wk1 (x4 hsl p1 p3 p4) ?_;refine q0B (λj=>j<=C) [1,2,49] [1] Lk Lk (λj:Nat=>[(50,iv j)]) (λ_=>[]) (λj=>C-j) 0 (zF _) ?_ ?_
 ·refine LeM [] rfl rfl ?_;refine Zz ?_
  rfl
 ·intro j hj
  by_cases hlt:j < C
  ·obtain ⟨a,b,g1,g2,g3,g4⟩:=hg j hlt;have es:slP (some 1) (some (iv (a:Int))) (some (iv (b:Int))) (pI ix)=some (pI ((ix.take b).drop a)):=by
    simp [slP,qak,ksz,List.map_take,List.map_drop];omega
   have hl:((ix.take b).drop a).length=b-a:=by simp; omega
   have wj:(j:Int)+1=((j+1:Nat):Int):=rfl;have ww:IntKind.i64.wrap ((j+1:Nat):Int)=((j+1:Nat):Int):=i64_in Oq Oq;have hsb:=λp (h:a+p < b)=>quK (l:=ix) (p:=p) h;generalize (ix.take b).drop a=L at *;refine wk1 (x6 g1 g2 es wj ww hl) ?_;refine q0B (λt=>t<=b-a) [1,2,3,49,50,66,67] [1] Lk Lk (λt:Nat=>[(68,iv t),(4,iv (qdR ix a (a+t)))]) (λ_=>[]) (λt=>b-a-t) 0 (zF _) ?_ ?_
   ·refine LeM [] rfl rfl ?_;refine Zz ?_;unfold qdR;exact ⟨rfl,(if_pos rfl).symm⟩
   ·intro t ht
    by_cases hlt2:t < b-a
    ·obtain ⟨x,hx⟩:∃ x,ix[a+t]?=some x:=⟨_,zA Oq⟩;obtain ⟨h1,h2,h3⟩:=hI j _ _ g1 g2 (a+t) Oq Oq x hx;have hx2:=(hsb t Oq).trans hx;have hlast:qdR ix a (a+t) < x/\qdR ix a (a+(t+1))=x:=by
      unfold qdR;rw [if_neg (show ¬ a+(t+1)=a by omega),show a+(t+1)-1=a+t by omega,getD_some hx];refine ⟨?_,rfl⟩
      by_cases h0:t=0
      ·rw [if_pos (by omega)]; omega
      ·obtain ⟨u,hu⟩:∃ u,ix[a+t-1]?=some u:=⟨_,zA Oq⟩;rw [if_neg (by omega),getD_some hu];exact h3 Oq u hu
     obtain ⟨q1,q2⟩:=hlast;have q3:¬ x<=qdR ix a (a+t):=by omega
     have q4:¬ (R:Int)<=x:=by omega
     refine wk1 (x3 hx2 q3 q4) ?_;refine ⟨t+1,by omega,by omega,?_⟩;rw [q2];refine LeM [] rfl rfl ?_;refine Zz ?_;omega
    ·have hlt3:¬ (t:Int) < ((b-a:Nat):Int):=by omega
     refine wk1 hlt3 ?_;refine ⟨j+1,by omega,by omega,?_⟩;refine LeM [] rfl rfl ?_;refine Zz ?_;omega
  ·have hlt':¬ (j:Int) < C:=by omega
   exact wk1 hlt' trivial
def qj0 {x:Nat} (hx:x < 18446744073709551616):ACt 237 [uv x] (bv (!decide (q0I x))):=by
 have C1:=qa3 hx;refine ac0 Tryz.func237 Tryz.ntmps237 [.tmp 2] ?_;exact wk trivial
def qpw {R C:Nat} {st ix:List Int} {vl:List Nat} (h:q3g R C st ix vl=0) (hu:∀ x ∈ vl,x < 18446744073709551616):ACt 144 [q2F R C st ix vl] (iv 0):=by
 unfold q3g at h
 split at h
 ·rename_i hS
  split at h
  ·rename_i hP
   split at h
   ·rename_i hf;have C1:=qjZ hS hP.1 hP.2;have hvl:=hP.1.v;obtain ⟨z1,z2,z3,z4,z5⟩:=hS;have C2:=q2u (f:=237) (l:=vl) (λx hx=>qj0 hx) hu Oq;rw [decide_eq_true hf] at C2;have C3:∀ n:Nat,n<=200->ACt 235 [iv n,iv 0,iv 200] (bv true):=λn hn=>by
     have q1:(0:Int)<=n:=by omega
     have q2:(n:Int)<=200:=by omega
     refine ac0 Tryz.func235 Tryz.ntmps235 [.tmp 6] ?_;exact wk1 (x2 q1 q2) trivial
    unfold q2F at *;refine ac0 Tryz.func144 Tryz.ntmps144 [.tmp 2] ?_;exact wk trivial
   ·cases h
  ·cases h
 ·cases h
def qic {f:Nat->Nat->Option Nat} {R C:Nat} (h:TOk f R C):ACt 144 [pT R C f] (iv 0):=qpw h.chk h.vl.2.2.2
end Go.Proofs.YtpbaikoblfcmdaaGreatDoor
namespace Go.Sp
open Go.E Go.Proofs.YtpbaikoblfcmdaaGreatDoor
def q9E {l:List Nat} {i:Nat} (h:q03 l):l.getD i 0 < 18446744073709551616/\q0I (l.getD i 0):=qaW h
def q2c {f:Nat} (h:q0I f):q0U (ofZ f):=by
 have:=q13 h;unfold q0U;omega
end Go.Sp
namespace Go.Proofs.YtpbaikoblfcmdaaGreatDoor
open Go Go.E Go.Sp
section
variable {x y:List Nat} {t:Nat}
end
end Go.Proofs.YtpbaikoblfcmdaaGreatDoor
namespace Go.E
open Go Go.RowKit
section
variable {J:Nat->Prop} {s:Nat->PV} {h:Hp} {T1 T2:TypeId} {K:Kd} {N R n:Nat} {row:Nat->List PV}
def qeR (T1 T2:TypeId) (K:Kd) (N R n:Nat) (row:Nat->List PV):Hp:=λi =>
 if i=N then some ⟨T1,none,(List.range n).map λj=>.ow (j+R) K 0 (row j).length,false⟩
 else if R<=i/\i < R+n then some ⟨T2,K,row (i-R),false⟩ else none
def quD:qeR T1 T2 K N R n row N=some ⟨T1,none,(List.range n).map λj=>.ow (j+R) K 0 (row j).length,false⟩:=if_pos rfl
def qlp {j:Nat} (hN:N < R) (hj:j < n):qeR T1 T2 K N R n row (j+R)=some ⟨T2,K,row j,false⟩:=by
 unfold qeR;rw [if_neg (by omega),if_pos (by omega),yE]
attribute [go_sem ↓] quD qlp
def q89 {i:Nat} {b:Bk} (hb:qeR T1 T2 K N R n row i=some b):(i=N/\b=⟨T1,none,(List.range n).map λj=>.ow (j+R) K 0 (row j).length,false⟩)\/(R<=i/\i < R+n/\b=⟨T2,K,row (i-R),false⟩):=by
 unfold qeR at hb
 split at hb
 ·cases hb; exact .inl ⟨‹_›,rfl⟩
 ·split at hb
  ·rename_i hi; cases hb; exact .inr ⟨hi.1,hi.2,rfl⟩
  ·cases hb
def tnG (N R n o:Nat):Nat->Option Nat:=λi=>if i=N then some o else if R<=i/\i < R+n then none else some i
def qtq {o i:Nat} (h1:i < N) (h2:i < R):tnG N R n o i=some i:=by
 unfold tnG;rw [if_neg (by omega),if_neg (by omega)]
attribute [go_sem ↓] qtq
def qbN {o:Nat} (hJ:∀ i,¬ J i) (ho:h o=some ⟨T1,none,List.replicate n (.vl (.slice none 0 0)),false⟩) (h5:o < 5000) (hN:5000<=N) (hNR:N < R) (hR:R+n<=1000000) {xs kv:List (Nat × PV)} {kb:List (Nat × Option Bk)} (hn:nmW o o (kb.map (·.1)))
  (hh:q5E (tnG N R n o) h (q0y (qeR T1 T2 K N R n λ_=>[]) (hpM [] kb)) s xs/\q5E (tnG N R n o) h (q0y (qeR T1 T2 K N R n λ_=>[]) (hpM [] kb)) s kv/\q9b (tnG N R n o) h (q0y (qeR T1 T2 K N R n λ_=>[]) (hpM [] kb)) kb):Le J s h (stM xs kv) (q0y (qeR T1 T2 K N R n λ_=>[]) (hpM [] kb)):=by
 obtain ⟨h1,h2,h4⟩:=hh;have tN:tnG N R n o N=some o:=if_pos rfl;have tR:∀ i,R<=i->i < R+n->tnG N R n o i=none:=λi a b=>by unfold tnG; rw [if_neg (by omega),if_pos ⟨a,b⟩]
 have tI:∀ i,i < 5000->tnG N R n o i=some i:=λi a=>by unfold tnG; rw [if_neg (by omega),if_neg (by omega)]
 have key:∀ i b,q0y (qeR T1 T2 K N R n λ_=>[]) (hpM [] kb) i=some b->i=N\/(R<=i/\i < R+n)\/(i < 5000/\i≠o):=λi b hb=>by
  by_cases hi:win i
  ·rw [q0W hi] at hb
   rcases q89 hb with ⟨e,_⟩ | ⟨q1,q2,_⟩
   ·exact .inl e
   ·exact .inr (.inl ⟨q1,q2⟩)
  ·rw [q1v hi] at hb;have:=q4h hn i (qca h4 i b hb).2;exact .inr (.inr ⟨this.1,this.2.1⟩)
 refine q4U (tnG N R n o) (λi b hb=>?_) (λi j k' b c hi hj ti tj=>?_) (λt=>q6x h2 h1 t) λi hi=>(hJ i hi).elim
 ·by_cases hi:win i
  ·rw [q0W hi] at hb
   rcases q89 hb with ⟨rfl,rfl⟩ | ⟨q1,q2,rfl⟩
   ·unfold LeB;rw [tN];refine ⟨_,ho,rfl,rfl,⟨rfl,rfl⟩,?_⟩;rw [qpQ];refine ⟨by simp,λc x y hx hy=>?_⟩;have hc:c < n:=by have:=(zB.1 hy).1; simpa using this
    rw [zH,zC hc,zP] at hx hy;cases hx; cases hy;exact .nilow (tR _ (by omega) (by omega)) (by rw [q0W ⟨by omega,by omega⟩]; exact qlp hNR hc) rfl
   ·unfold LeB;rw [tR i q1 q2]
  ·rw [q1v hi] at hb;exact (qca h4 i b hb).1
 ·rcases key i b hi with rfl | ⟨a1,a2⟩ | ⟨a1,a2⟩ <;> rcases key j c hj with rfl | ⟨b1,b2⟩ | ⟨b1,b2⟩
  ·rfl
  ·rw [tR _ b1 b2] at tj; cases tj
  ·rw [tN] at ti; rw [tI _ b1] at tj; cases ti; cases tj; exact (b2 rfl).elim
  ·rw [tR _ a1 a2] at ti; cases ti
  ·rw [tR _ a1 a2] at ti; cases ti
  ·rw [tR _ a1 a2] at ti; cases ti
  ·rw [tI _ a1] at ti; rw [tN] at tj; cases ti; cases tj; exact (a2 rfl).elim
  ·rw [tR _ b1 b2] at tj; cases tj
  ·rw [tI _ a1] at ti; rw [tI _ b1] at tj; cases ti; cases tj; rfl
end
end Go.E
namespace Go.Sp
open Go.E Go.Proofs.YtpbaikoblfcmdaaGreatDoor
def sg (g:Nat->Int):Nat->Int
 | 0=>0
 | n+1=>sg g n+g n
def q5J {g h:Nat->Int}:∀ n,(∀ i,i < n->g i=h i)->sg g n=sg h n
 | 0,_=>rfl
 | n+1,e=>by rw [sg,sg,q5J n λi hi=>e i (by omega),e n (by omega)]
def qfb {y:Nat}:q1P 0 y=0:=by
 unfold q1P;rw [show ofZ 0=0 from q01 (by unfold ofF; rw [if_neg (by decide),if_pos (by decide),show sgn (decide (9223372036854775808<=0)) (0 % 4503599627370496)=0 from rfl,yA]),yA,q1a]
 rfl
section
variable {f:Nat->Nat->Option Nat} {x:List Nat} {n J r:Nat} {rows:Nat->List Int}
def q4x (rows:Nat->List Int) (k:Nat) (z:Int):Nat->List Int:=λj=>if j=k then rows k ++ [z] else rows j
def qdq {k:Nat} {z:Int}:q1M (q4x rows k z r)=q1M (rows r)+if r=k then z else 0:=by
 unfold q4x
 by_cases h:r=k
 ·subst h; rw [if_pos rfl,if_pos rfl,q0l]
 ·rw [if_neg h,if_neg h]; omega
def qiI {k m:Nat} {z:Int} (hl:∀ r,(rows r).length<=m) (hb:∀ r,∀ z ∈ rows r,bl z.natAbs<=67600) (hz:bl z.natAbs<=67600):(∀ r,(q4x rows k z r).length<=m+1)/\∀ r,∀ y ∈ q4x rows k z r,bl y.natAbs<=67600:=by
 unfold q4x;refine ⟨λr=>?_,λr y hy=>?_⟩
 ·have h1:=hl r; have h2:=hl k
  split
  ·simp; omega
  ·omega
 ·split at hy
  ·rcases zO.1 hy with hy | hy
   ·exact hb k y hy
   ·simp at hy; subst hy; exact hz
  ·exact hb r y hy
end
end Go.Sp
namespace Go.Proofs.YtpbaikoblfcmdaaGreatDoor
open Go Go.E Go.Sp
abbrev qew (rows:Nat->List Int):Nat->List PV:=λr=>(rows r).map λV=>pV V
section
variable {f:Nat->Nat->Option Nat} {x:List Nat} {n:Nat}
end
def qtG (x:List (Nat × Nat)):Prop:=∀ p ∈ x,(p.1 < 18446744073709551616/\q0I p.1)/\(p.2 < 18446744073709551616/\q0I p.2)
def pZ (p:Nat × Nat):Int:=ofZ p.1+ofZ p.2
def q7e (v:Nat) (p:Nat × Nat):Int:=q1P v p.1+q1P v p.2
def q7k {A a:Int} (h:mkV A (-131072)=some a):A=a*(2:Int) ^ 65536:=by
 by_cases hA:A=0
 ·subst hA; rw [q1a] at h; cases h; rw [yA]
 ·obtain ⟨h1,_,h3⟩:=q5Q hA h;have h4:=q1F A;subst h3;obtain ⟨K,hK⟩:∃ K:Nat,K=65536:=⟨_,rfl⟩;rw [<- hK];have e:(-131072+(tz A.natAbs:Int)+65536).toNat+K=tz A.natAbs:=by omega
  rw [uI,<- xT,e];exact h4.symm
def q7j {a:Int} (h:q0U a):mkV (a*(2:Int) ^ 65536) (-131072)=some a:=by
 rw [q1f];exact q1b h
def qaG {f:Nat} (hf:q0I f):bl (ofZ f).natAbs<=66560:=by
 obtain ⟨m,k,h,h1,h2,h3⟩:=q2H hf;rw [q01 h]
 by_cases hm:m=0
 ·subst hm; rw [yA]; simp [q07]
 ·rw [q0G,q0z (by omega)]; omega
def qn4 {P z:Int} {K m:Nat} (h:P=z*(2:Int) ^ K) (hb:bl P.natAbs<=m+K):bl z.natAbs<=m:=by
 by_cases hz:z.natAbs=0
 ·rw [hz]; simp [q07]
 ·rw [h,q0G,q0z hz] at hb; omega
def qbi {x y:Nat} (hx:q0I x) (hy:q0I y):bl (q1P x y).natAbs<=67584:=by
 refine qn4 (q7k (q0m hx hy).1) ?_;have hb:=q11 (ofZ x).natAbs (ofZ y).natAbs;rw [<- uH] at hb;have h1:=qaG hx;have h2:=qaG hy;omega
def qfc {v:Nat} {p:Nat × Nat} (hv:q0I v) (h1:q0I p.1) (h2:q0I p.2):mkV (ofZ v*pZ p) (-131072)=some (q7e v p)/\bl (q7e v p).natAbs<=67600:=by
 have a1:=(q0m hv h1).1;have b1:=(q0m hv h2).1;have hb:bl (q7e v p).natAbs<=67585:=q2b (qbi hv h1) (qbi hv h2);refine ⟨?_,by omega⟩;have e:ofZ v*pZ p=q7e v p*(2:Int) ^ 65536:=by
  unfold pZ q7e;rw [Int.mul_add,q7k a1,q7k b1,xS]
 rw [e];exact q7j (by unfold q0U; omega)
def pZ_bl {p:Nat × Nat} (h1:q0I p.1) (h2:q0I p.2):bl (pZ p).natAbs<=67601:=q2b (q13 h1) (q13 h2)
def rdZ (f:Nat->Nat->Option Nat) (x:List (Nat × Nat)) (b:List Nat) (C r:Nat):Int:=ofZ (b.getD r 0)-sg (λj=>q7e ((f j r).getD 0) (x.getD j (0,0))) C
def rdL (f:Nat->Nat->Option Nat) (x:List (Nat × Nat)) (b:List Nat) (C i:Nat):List Nat:=(List.range i).map λr=>fR 0 (rdZ f x b C r)
def qaD {f:Nat->Nat->Option Nat} {x:List (Nat × Nat)} {b:List Nat} {C i:Nat}:(rdL f x b C i).length=i:=by unfold rdL; simp
def qpS {f:Nat->Nat->Option Nat} {x:List (Nat × Nat)} {b:List Nat} {C i:Nat}:∀ v ∈ rdL f x b C i,v < 18446744073709551616:=λv hv=>by
 obtain ⟨_,_,rfl⟩:=zM.1 hv;exact q4E
def chT (p:Nat × Nat) (d:Nat):Int:=ofZ p.1+ofZ p.2+ofZ d
def chV (dbl:Bool) (p:Nat × Nat) (d:Nat):Nat × Nat:=(fR 0 (chT p d),if dbl then fR 0 (chT p d-ofZ (fR 0 (chT p d))) else 0)
def chL (dbl:Bool) (x:List (Nat × Nat)) (d:List Nat) (n:Nat):List (Nat × Nat):=(List.range n).map λj=>chV dbl (x.getD j (0,0)) (d.getD j 0)
def qqs {V:Int} {K:Nat} (hK:K=65536) (hV:V≠0) (hf:q0I (fR 0 V)):∃ u r:Nat,K<=u+1074/\u+1075 < 2047+K/\fR 0 V=fin 0 (decide (V < 0)) r ((u:Int)-K)/\ofZ (fR 0 V)=sgn (decide (V < 0)) r*(2:Int) ^ u/\r<=9007199254740992/\(u+1074=K\/4503599627370496<=r)/\2*(V-ofZ (fR 0 V)).natAbs<=2 ^ u:=by
 obtain ⟨u,r,h1,h2,h3,h4,h5⟩:=q38 (mode:=0) (neg:=decide (V < 0)) (N:=V.natAbs) (D:=2 ^ K) (K:=K) Oq (q0E _) Oq;have hx:fR 0 V=fin 0 (decide (V < 0)) r ((u:Int)-K):=by unfold fR; rw [if_neg hV,<- hK,h2]
 rw [yY (2 ^ K) (2 ^ u),q3E (q0E K)] at h3;have hu:u+1075 < 2047+K:=by
  refine Classical.byContradiction λhn=>?_;rw [hx] at hf;unfold fin at hf
  split at hf
  ·unfold q4Y at hf;rw [if_neg (by omega),if_pos (by omega)] at hf;exact absurd hf q5O
  ·unfold q4Y at hf;rw [if_neg (by omega),if_pos (by omega)] at hf;exact absurd hf q5O
 have h5':u+1074=K\/4503599627370496<=r:=by omega
 have hv:ofZ (fR 0 V)=sgn (decide (V < 0)) r*(2:Int) ^ u:=by
  rw [hx] at hf ⊢;exact q01 (qk8 hK h1 h4 h5' hf)
 refine ⟨u,r,h1,hu,hx,hv,h4,h5',?_⟩;rw [hv];have e:=qvF (neg:=decide (V < 0)) (A:=V.natAbs) (B:=2 ^ u) (q0E u);rw [<- h3] at e;have p:=q0V u;rw [<- p]
 by_cases hn:V < 0
 ·rw [decide_eq_true hn];simp only [sgn,if_true];have : -(r:Int)*((2 ^ u:Nat):Int) = -((2 ^ u*r:Nat):Int):=by push_cast; rw [Int.neg_mul,y8]
  rw [this];generalize 2 ^ u*r=C at *;generalize 2 ^ u=B at *;omega
 ·rw [decide_eq_false hn];simp only [sgn,Bool.false_eq_true,if_false];have:(r:Int)*((2 ^ u:Nat):Int)=((2 ^ u*r:Nat):Int):=by push_cast; rw [y8]
  rw [this];generalize 2 ^ u*r=C at *;generalize 2 ^ u=B at *;omega
def qqt {mode V:Int} {K c:Nat} (hK:K=65536) (hc:c<=1000) (h:V.natAbs < 2 ^ c*2 ^ K):q0I (fR mode V):=by
 unfold fR
 split
 ·unfold q0I; simp
 ·rw [<- hK];obtain ⟨u,r,h1,h2,h3,h4,h5⟩:=q38 (mode:=mode) (neg:=decide (V < 0)) (N:=V.natAbs) (D:=2 ^ K) (K:=K) Oq (q0E _) Oq;rw [h2];have hu:u+1076 < 2047+K:=by
   rcases h5 with h5 | ⟨_,h5⟩
   ·omega
   ·have h6:2 ^ K*2 ^ (u+52) < 2 ^ c*2 ^ K*2 ^ K:=yQ h5 (yJ h (q0E K));rw [<- zX,<- zX,<- zX] at h6;have:=(uO (by omega:1 < 2)).1 h6;omega
  have:=q5x (mode:=mode) (neg:=decide (V < 0)) hK h1 h4 Oq hu;intro hn;unfold ofF at this;rw [if_pos hn] at this;cases this
def qwA {V:Int} (hf:q0I (fR 0 V)):q0I (fR 0 (V-ofZ (fR 0 V))):=by
 obtain ⟨K,hK⟩:∃ K:Nat,K=65536:=⟨_,rfl⟩
 by_cases hV:V=0
 ·subst hV;have e:fR 0 0=0:=if_pos rfl;have e2:ofZ 0=0:=q01 q3K;rw [e,e2,Int.sub_zero,e];unfold q0I; simp
 ·obtain ⟨u,r,h1,h2,_,h3,h4,h5,h6⟩:=qqs hK hV hf;obtain ⟨c,hc⟩:∃ c:Nat,c=1000:=⟨_,rfl⟩;refine qqt (c:=c) hK Oq ?_;generalize (V-ofZ (fR 0 V)).natAbs=W at *;have:2 ^ u<=2 ^ c*2 ^ K:=by
   rw [<- zX];exact z7 Oq Oq
  have hp:=q0E u;generalize 2 ^ u=A at *;generalize 2 ^ c*2 ^ K=B at *;omega
section
variable {A B:Int}
def qnx (hA:q0U A) (hB:q0U B) (ho:q0U (A-B)):ACt 176 [dT A,dT B] (dT (A-B)):=by
 have C1:=q9f hB;have C2:=q9h hA (B := -B) (by unfold q0U at *; rwa [yU]) (by rwa [<- yS]);rw [<- yS] at C2;refine ac0 Tryz.func176 Tryz.ntmps176 [.cell 4 48] ?_;exact wk trivial
def qny (hA:q0U A) (hB:q0U B):ACt 177 [dT A,dT B] (.tu [iv (A-B).sign,bv true]):=by
 obtain ⟨x,y,e,C1,hL⟩:=q5Z hA hB;obtain ⟨l1,l2⟩:=hL.bl hA hB;have C2:=q9e hA hB;have C3:=@qgK;have h1:=hL.sgn;refine ac0 Tryz.func177 Tryz.ntmps177 [.tmp 4,.tmp 5] ?_;exact wk1 h1 trivial
end
def bl_2 {V:Int} {k:Nat} (h:bl V.natAbs<=k):bl (2*V).natAbs<=k+1:=by rw [Int.two_mul]; exact q2b h h
section
variable {r s d:Nat}
def qxp {p:Nat × Nat} (h1:q0I p.1) (h2:q0I p.2) (hd:q0I d):bl (chT p d).natAbs<=67602:=by
 have a:=q2b (q2b (q13 h1) (q13 h2)) (k:=67601) (b:=ofZ d) (by have:=q13 hd; omega);exact a
end
section
variable {l:List Nat}
end
abbrev pP (x:List (Nat × Nat)):PV:=.sl (some 2) (x.map λp=>.ag [uv p.1,uv p.2])
def qtI {x:List (Nat × Nat)}:ClL (x.map λp=>PV.ag [uv p.1,uv p.2]):=λy hy=>by
 obtain ⟨p,_,rfl⟩:=zM.1 hy;intro z hz;simp at hz
 rcases hz with rfl | rfl <;> trivial
def qjU {f:Nat} (h:q0I f):∃ z:Int,ofZ f=z*(2:Int) ^ 64462:=by
 obtain ⟨m,k,h1,_,h2,_⟩:=q2H h;refine ⟨m*(2:Int) ^ (k-64462),?_⟩;rw [q01 h1,uI,<- xT]
 congr 2
 omega
end Go.Proofs.YtpbaikoblfcmdaaGreatDoor
namespace Go.E
open Go Go.RowKit
section
variable {P:Program} {Tb:World->Prop} {J:Nat->Prop} {n:Nat} {Q:SQ} {s:Nat->PV} {h:Hp}
def A_jW [NL] {a b:Code} (xs:List (Nat × PV)) (bs:List (Nat × Bk)) (hw:Hp) (hb:AW P Tb J n b Q (stM xs []) (q0y hw (hpM bs [])))
  (ha:∀ K:(Nat->PV)->Hp->Prop,(∀ s h,Le J s h (stM xs []) (q0y hw (hpM bs []))->K s h)->AW P Tb J n a (thA K Q) s h):AW P Tb J n (.seq a b) Q s h :=
 q32 λK hK=>ha K λs h hl=>hK s h (q1D hl hb)
end
section
variable {J:Nat->Prop} {s:Nat->PV} {h hw:Hp} {τ:Nat->Option Nat}
def LeT [NL] (τ:Nat->Option Nat) {xs kv:List (Nat × PV)} {bs:List (Nat × Bk)} {kb:List (Nat × Option Bk)} (hJ:∀ i,J i->τ i=some i) (hlo:∀ i ∈ bs.map (·.1) ++ kb.map (·.1),¬ win i)
  (hW:∀ i b,win i->hw i=some b->LeB τ h (q0y hw (hpM bs kb)) i b)
  (hi:∀ i j k,(win i/\hw i≠none\/i ∈ bs.map (·.1) ++ kb.map (·.1))->(win j/\hw j≠none\/j ∈ bs.map (·.1) ++ kb.map (·.1))->τ i=some k->τ j=some k->i=j)
  (hh:q5E τ h (q0y hw (hpM bs kb)) s xs/\q5E τ h (q0y hw (hpM bs kb)) s kv/\qdf τ h (q0y hw (hpM bs kb)) bs/\q9b τ h (q0y hw (hpM bs kb)) kb):Le J s h (stM xs kv) (q0y hw (hpM bs kb)):=by
 obtain ⟨h1,h2,h3,h4⟩:=hh;have hm:∀ i b,q0y hw (hpM bs kb) i=some b->(win i/\hw i=some b)\/(¬ win i/\LeB τ h (q0y hw (hpM bs kb)) i b/\i ∈ bs.map (·.1) ++ kb.map (·.1)):=λi b hb=>by
  by_cases hi:win i
  ·rw [q0W hi] at hb; exact .inl ⟨hi,hb⟩
  ·rw [q1v hi] at hb; exact .inr ⟨hi,q4V h4 h3 i b hb⟩
 have hm2:∀ i b,q0y hw (hpM bs kb) i=some b->(win i/\hw i≠none\/i ∈ bs.map (·.1) ++ kb.map (·.1)):=λi b hb=>by
  rcases hm i b hb with ⟨a,c⟩ | ⟨_,_,c⟩
  ·exact .inl ⟨a,by rw [c]; exact uP _⟩
  ·exact .inr c
 refine q4U τ (λi b hb=>?_) (λi j k b c hi' hj ti tj=>hi i j k (hm2 i b hi') (hm2 j c hj) ti tj) (λt=>q6x h2 h1 t) λi q _ _=>hJ i q
 rcases hm i b hb with ⟨q1,q2⟩ | ⟨_,q,_⟩
 ·exact hW i b q1 q2
 ·exact q
variable {T1 T2:TypeId} {K:Kd} {N R n:Nat} {row:Nat->List PV} {B:Hp}
def q1W (T1 T2:TypeId) (K:Kd) (N R n:Nat) (row:Nat->List PV) (B:Hp):Hp:=λi =>
 if i=N then some ⟨T1,none,(List.range n).map λj=>.ow (j+R) K 0 (row j).length,false⟩
 else if R<=i/\i < R+n then some ⟨T2,K,row (i-R),false⟩ else B i
def q1R:q1W T1 T2 K N R n row B N=some ⟨T1,none,(List.range n).map λj=>.ow (j+R) K 0 (row j).length,false⟩:=if_pos rfl
def q1H {j:Nat} (hN:N < R) (hj:j < n):q1W T1 T2 K N R n row B (j+R)=some ⟨T2,K,row j,false⟩:=by
 unfold q1W;rw [if_neg (by omega),if_pos (by omega),yE]
def q0O {i:Nat} (h1:i≠N) (h2:i < R\/R+n<=i):q1W T1 T2 K N R n row B i=B i:=by
 unfold q1W;rw [if_neg h1,if_neg (by omega)]
attribute [go_sem ↓] q1R q1H q0O
def q0k {i:Nat} {b:Bk} (hb:q1W T1 T2 K N R n row B i=some b):(i=N/\b=⟨T1,none,(List.range n).map λj=>.ow (j+R) K 0 (row j).length,false⟩)\/(i≠N/\R<=i/\i < R+n/\b=⟨T2,K,row (i-R),false⟩)\/(i≠N/\(i < R\/R+n<=i)/\B i=some b):=by
 unfold q1W at hb
 split at hb
 ·cases hb; exact .inl ⟨‹_›,rfl⟩
 ·rename_i h1
  split at hb
  ·rename_i hi; cases hb; exact .inr (.inl ⟨h1,hi.1,hi.2,rfl⟩)
  ·exact .inr (.inr ⟨h1,by omega,hb⟩)
structure BOk (B:Hp) (p:Nat->Prop):Prop where
 b:∀ i b,B i=some b->p i/\b.st=false/\IdL (λj=>B j≠none) b.xs
def BOk.h0 {p:Nat->Prop}:BOk h0 p:=⟨λ_ _ h=>by cases h⟩
def qhU {p:Nat->Prop} {x:PV} (h:q3R x):IdP p x:=by
 cases x <;> unfold IdP <;> first | trivial | exact h.elim
def qag {p:Nat->Prop} {x:PV} (h:Cld x):IdP p x:=by
 cases x with
 | ag l=>unfold IdP; exact IdL.of λx hx=>qhU (h x hx)
 | _=>exact qhU h
def q1V {p:Nat->Prop} (hB:BOk B p) (hrow:∀ j,j < n->ClL (row j)) (hNR:N < R) (hp:p N/\∀ j,j < n->p (j+R)):BOk (q1W T1 T2 K N R n row B) p:=⟨λi b hb=>by
 rcases q0k hb with ⟨rfl,rfl⟩ | ⟨h0,h1,h2,rfl⟩ | ⟨h1,h2,h3⟩
 ·refine ⟨hp.1,rfl,IdL.of λx hx=>?_⟩;obtain ⟨z,hz,rfl⟩:=zM.1 hx;unfold IdP;rw [q1H hNR (zZ.1 hz)];exact uP _
 ·refine ⟨by have:=hp.2 (i-R) (by omega); rwa [Nat.sub_add_cancel h1] at this,rfl,IdL.of λx hx=>?_⟩;exact qag (hrow (i-R) Oq x hx)
 ·obtain ⟨q1,q2,q3⟩:=hB.b i b h3;refine ⟨q1,q2,IdL_mono (λj hj=>?_) _ q3⟩;unfold q1W
  split
  ·exact uP _
  ·split
   ·exact uP _
   ·exact hj⟩
def q8S (row:Nat->List PV) (k:Nat) (l:List PV):Nat->List PV:=λj=>if j=k then l else row j
def qb2 {k:Nat} {l:List PV}:q8S row k l k=l:=if_pos rfl
def qb3 {k j:Nat} {l:List PV} (h:j≠k):q8S row k l j=row j:=if_neg h
def q3C {j:Nat} {l:List PV} (hNR:N < R) (hj:j < n) (hl:l.length=(row j).length):q0Q (q1W T1 T2 K N R n row B) (j+R) ⟨T2,K,l,false⟩=q1W T1 T2 K N R n (q8S row j l) B:=by
 funext i
 unfold q0Q
 split
 ·rename_i hi; subst hi;rw [q1H hNR hj,qb2]
 ·rename_i hi;unfold q1W
  split
  ·congr 2
   refine zL λc _=>?_
   by_cases hc:c=j
   ·subst hc; rw [qb2,hl]
   ·rw [qb3 hc]
  ·split
   ·rw [qb3 (by omega)]
   ·rfl
def q21 {i:Nat} {b:Bk} (h1:i≠N) (h2:i < R\/R+n<=i):q0Q (q1W T1 T2 K N R n row B) i b=q1W T1 T2 K N R n row (q0Q B i b):=by
 funext j
 unfold q0Q q1W
 by_cases hj:j=i
 ·subst hj;simp only [if_true];rw [if_neg h1,if_neg (by omega)]
 ·simp only [if_neg hj]
variable {xs kv:List (Nat × PV)} {bs:List (Nat × Bk)} {kb:List (Nat × Option Bk)}
def q7N [NL] {r k:Nat} {l:List PV} (hJ:∀ i,¬ J i) (hk:k < n) (hcl:ClL l) (ho:h N=some ⟨T1,none,((List.range n).map λj=>.ow (j+R) K 0 (row j).length).set k (.ow r K 0 l.length),false⟩) (hr:h r=some ⟨T2,K,l,false⟩)
  (hq:∀ i,win i->i≠N->i≠k+R->i≠r->h i=q1W T1 T2 K N R n row B i) (hcr:∀ j,j < n->ClL (row j)) (hB:BOk B (λi=>win i/\i≠N/\(i < R\/R+n<=i)/\i≠r)) (h6:r < 5000\/(r≠N/\(r < R\/R+n<=r))) (hN:5000<=N) (hNR:N < R) (hR:R+n<=1000000) (hn:nmW r r (bs.map (·.1) ++ kb.map (·.1)))
  (hh:q5E (tnU (k+R) r) h (q0y (q1W T1 T2 K N R n (q8S row k l) B) (hpM bs kb)) s xs/\q5E (tnU (k+R) r) h (q0y (q1W T1 T2 K N R n (q8S row k l) B) (hpM bs kb)) s kv/\qdf (tnU (k+R) r) h (q0y (q1W T1 T2 K N R n (q8S row k l) B) (hpM bs kb)) bs/\q9b (tnU (k+R) r) h (q0y (q1W T1 T2 K N R n (q8S row k l) B) (hpM bs kb)) kb):Le J s h (stM xs kv) (q0y (q1W T1 T2 K N R n (q8S row k l) B) (hpM bs kb)):=by
 have tK:tnU (k+R) r (k+R)=some r:=if_pos rfl;have tI:∀ i,i≠k+R->tnU (k+R) r i=some i:=λi a=>if_neg a;have hl:=λi hi=>q4h hn i hi;refine LeT (tnU (k+R) r) (λi q=>(hJ i q).elim) (λi hi hw=>?_) (λi b hw hb=>?_) (λi j k' hi hj ti tj=>?_) hh
 ·have:=(hl i hi).1; unfold win at hw; omega
 ·rcases q0k hb with ⟨rfl,rfl⟩ | ⟨a0,a1,a2,rfl⟩ | ⟨a1,a2,a3⟩
  ·unfold LeB;rw [tI i (by omega)];refine ⟨_,ho,rfl,rfl,⟨rfl,rfl⟩,by simp,λc u v hx hy=>?_⟩;have hc:c < n:=by have:=(zB.1 hy).1; simpa using this
   rw [zH,zC hc,zP] at hy;cases hy;rw [yB] at hx;have hbb:=(q0W (h:=hpM bs kb) (hw:=q1W T1 T2 K i R n (q8S row k l) B) (i:=c+R) ⟨by omega,by omega⟩).trans (q1H hNR hc)
   by_cases hck:k=c
   ·subst hck;rw [if_pos rfl,if_pos (by simpa using hc)] at hx;cases hx;rw [qb2];exact .ow tK hbb
   ·rw [if_neg hck,zH,zC hc,zP] at hx;cases hx;rw [qb3 (Ne.symm hck)];exact .ow (tI _ Oq) hbb
  ·by_cases e:i=k+R
   ·subst e;unfold LeB;rw [tK,yE,qb2];exact ⟨_,hr,rfl,rfl,⟨rfl,rfl⟩,q0F rfl hcl⟩
   ·unfold LeB;rw [tI i e,qb3 (by omega)];have:=hq i hw a0 e (by unfold win at hw; omega);have e2:=q1H (T1:=T1) (T2:=T2) (K:=K) (row:=row) (B:=B) hNR (show i-R < n by omega);rw [Nat.sub_add_cancel a1] at e2;exact ⟨_,this.trans e2,rfl,rfl,⟨rfl,rfl⟩,q0F rfl (hcr _ Oq)⟩
  ·obtain ⟨⟨q0,q1,q2,q4⟩,q3,q5⟩:=hB.b i b a3;unfold LeB;rw [tI i (by omega)];refine ⟨b,(hq i hw a1 Oq q4).trans ((q0O a1 a2).trans a3),rfl,rfl,⟨q3,q3⟩,LeL_self (λj hj=>?_) _ q5⟩;obtain ⟨c,hc⟩:=zK.1 hj;obtain ⟨⟨p0,p1,p2,p4⟩,_⟩:=hB.b j c hc;exact ⟨tI j (by omega),c,by rw [q0W p0,q0O p1 p2]; exact hc⟩
 ·have a:∀ i,(win i/\q1W T1 T2 K N R n (q8S row k l) B i≠none\/i ∈ bs.map (·.1) ++ kb.map (·.1))->i≠r:=λi hi=>by
   rcases hi with ⟨q,hi⟩ | hi
   ·rintro rfl;obtain ⟨b,hb⟩:=zK.1 hi;unfold win at q
    rcases q0k hb with ⟨e,_⟩ | ⟨_,e1,e2,_⟩ | ⟨_,_,e⟩
    ·omega
    ·omega
    ·exact (hB.b i b e).1.2.2.2 rfl
   ·exact (hl i hi).2.1
  have a1:=a i hi;have a2:=a j hj;unfold tnU at ti tj
  split at ti <;> split at tj <;> cases ti <;> cases tj <;> first | omega | rfl | exact (a1 rfl).elim | exact (a2 rfl).elim
def qxi {h:Hp} {i:Nat} {b:Bk} {f:Nat->Nat} (hi:i < R\/R+n<=i):q6X (q0Q h i b) n R K f=q6X h n R K f:=by
 have:∀ l:List Nat,(∀ j ∈ l,j < n)->q17 (q0Q h i b) (l.map λj=>.ow (j+R) K 0 (f j))=q17 h (l.map λj=>.ow (j+R) K 0 (f j)):=λl=>by
  induction l with
  | nil=>intro _; rfl
  | cons j l ih =>
   intro hl;have hj:=hl j uJ;rw [uK,q17,q17,ih λk hk=>hl k (yK _ hk)];simp only [qd6];rw [q0A (by omega)]
 exact this _ λj hj=>zZ.1 hj
def qnN {h h':Hp} {f:Nat->Nat} (hh:∀ j,j < n->h (j+R)=h' (j+R)):q6X h n R K f=q6X h' n R K f:=by
 have:∀ l:List Nat,(∀ j ∈ l,j < n)->q17 h (l.map λj=>.ow (j+R) K 0 (f j))=q17 h' (l.map λj=>.ow (j+R) K 0 (f j)):=λl=>by
  induction l with
  | nil=>intro _; rfl
  | cons j l ih =>
   intro hl;have hj:=hl j uJ;rw [uK,q17,q17,ih λk hk=>hl k (yK _ hk)];simp only [qd6];rw [hh j hj]
 exact this _ λj hj=>zZ.1 hj
def qxh {h hw:Hp} {f:Nat->Nat} (h5:5000<=R) (h6:R+n<=1000000):q6X (q0y hw h) n R K f=q6X hw n R K f:=qnN λj hj=>q0W ⟨by omega,by omega⟩
def q4u {K':Kd} {N' R' n':Nat} {f:Nat->Nat} (h1:N' < R\/R+n<=N') (h2:R'+n'<=R\/R+n<=R'):q6X (q1W T1 T2 K' N' R' n' row B) n R K f=q6X B n R K f:=qnN λj hj=>q0O Oq Oq
def q6H {f:Nat->Nat} (h1:N < R):q6X (q1W T1 T2 K N R n row B) n R K f=cO (∀ j,j < n->ClL (row j)) (some ((List.range n).map λj=>.sl K ((row j).take (f j)),(List.range n).map (·+R))):=by
 unfold cO
 split
 ·rename_i hc;have:∀ l:List Nat,(∀ j ∈ l,j < n)->q17 (q1W T1 T2 K N R n row B) (l.map λj=>.ow (j+R) K 0 (f j))=some (l.map λj=>.sl K ((row j).take (f j)),l.map (·+R)):=λl=>by
   induction l with
   | nil=>intro _; rfl
   | cons j l ih =>
    intro hl;have hj:=hl j uJ;rw [uK,q17,ih λk hk=>hl k (yK _ hk)];simp only [qd6];rw [q1H h1 hj,yM,if_pos ⟨rfl,rfl,hc j hj⟩];simp
  exact this _ λj hj=>zZ.1 hj
 ·rename_i hc;obtain ⟨j,hc⟩:=Classical.not_forall.1 hc;obtain ⟨hj,hc⟩:=Classical.not_forall.1 hc;have:∀ l:List Nat,(∀ i ∈ l,i < n)->j ∈ l->q17 (q1W T1 T2 K N R n row B) (l.map λj=>.ow (j+R) K 0 (f j))=none:=λl=>by
   induction l with
   | nil=>intro _ h; cases h
   | cons i l ih =>
    intro hl hm;have hi:=hl i uJ;rw [uK,q17]
    by_cases hij:j=i
    ·subst hij;simp only [qd6];rw [q1H h1 hj,yM,if_neg λh=>hc h.2.2]; rfl
    ·rw [ih (λk hk=>hl k (yK _ hk)) (by simpa [hij] using hm)];cases qd6 (q1W T1 T2 K N R n row B) (.ow (i+R) K 0 (f i)) <;> rfl
  exact this _ (λj hj=>zZ.1 hj) (zZ.2 hj)
def q9m {α:Type} {f:Nat->α}:((List.range n).map f).take n=(List.range n).map f:=yW (by simp)
def qpm {x:Nat} {a b:List Nat}:nin x (a ++ b)=(nin x a/\nin x b):=by
 rw [q6j,q6j,q6j,zO];exact propext not_or
def qvm {x:Nat} (h:x < R\/R+n<=x):nin x ((List.range n).map (·+R))=True:=by
 rw [q6j];refine eq_true λhm=>?_;obtain ⟨j,hj,rfl⟩:=zM.1 hm;have:=zZ.1 hj;omega
attribute [go_sem ↓] qxi qxh q4u q6H
attribute [go_sem] q9m qpm qvm
end
end Go.E
namespace Go.Proofs.YtpbaikoblfcmdaaGreatDoor
open Go Go.E Go.Sp
structure LuS where
 rows:List Nat
 l:Nat->Nat->Nat
 iL:Nat->Nat->Bool
 u:Nat->Nat->Nat
 iU:Nat->Nat->Bool
def luL (F:Nat->Nat->Option Nat) (l u:Nat->Nat->Nat) (i j k:Nat):Nat->List Int
 | 0=>[ofZ ((F j i).getD 0)]
 | m+1=>luL F l u i j k m ++ [-(q1P (l i m) (u m k))]
def luZ (F:Nat->Nat->Option Nat) (l u:Nat->Nat->Nat) (i j k m:Nat):Int:=q1M (luL F l u i j k m)
def q5z (g:Nat->Nat->Nat):Prop:=∀ r c,q0I (g r c)/\g r c < 18446744073709551616
def q7m {F:Nat->Nat->Option Nat} {l u:Nat->Nat->Nat} {i j k:Nat}:∀ m,(luL F l u i j k m).length=m+1
 | 0=>rfl
 | m+1=>by rw [luL,zY,q7m m]; rfl
def qmg {F:Nat->Nat->Option Nat} {l u:Nat->Nat->Nat} {i j k:Nat} (hl:q5z l) (hu:q5z u) (hF:q0I ((F j i).getD 0)):∀ m,∀ x ∈ luL F l u i j k m,bl x.natAbs<=67600
 | 0,x,hx=>by unfold luL at hx; simp at hx; subst hx; exact q13 hF
 | m+1,x,hx=>by
  unfold luL at hx
  rcases zO.1 hx with hx | hx
  ·exact qmg hl hu hF m x hx
  ·simp at hx; subst hx;rw [yU];exact (q0m (hl i m).1 (hu m k).1).2
def qvx {F:Nat->Nat->Option Nat} {l u:Nat->Nat->Nat} {i j k m:Nat} (hl:q5z l) (hu:q5z u) (hF:q0I ((F j i).getD 0)) (hm:m<=500):q0U (luZ F l u i j k m):=qe2 (qmg hl hu hF m) (by rw [q7m]; omega)
abbrev pRw (l:List Nat):PV:=.sl none (l.map λz:Nat=>iv z)
abbrev rU (n:Nat) (g:Nat->Nat->Nat) (j:Nat):List PV:=(List.range n).map λc=>.vl (.int .u64 (g j c:Nat))
abbrev rB (n:Nat) (g:Nat->Nat->Bool) (j:Nat):List PV:=(List.range n).map λc=>.vl (.bool (g j c))
abbrev tU (n:Nat) (g:Nat->Nat->Nat):PV:=.sl none ((List.range n).map λj=>.sl none ((List.range n).map λc=>.vl (.int .u64 (g j c:Nat))))
abbrev tB (n:Nat) (g:Nat->Nat->Bool):PV:=.sl none ((List.range n).map λj=>.sl none ((List.range n).map λc=>.vl (.bool (g j c))))
abbrev pSt (n:Nat) (S:LuS):PV:=.ag [pRw S.rows,tU n S.l,tB n S.iL,tU n S.u,tB n S.iU]
section
variable {F:Nat->Nat->Option Nat} {S:LuS} {n:Nat}
def qj1 (h:TOk F n n) (hn:n<=100) (hl:q5z S.l) (hu:q5z S.u) {i j k m:Nat} (hi:i < n) (hj:j < n) (hk:k < n) (hm:m<=n):ACt 239 [pSt n S,pT n n F,iv i,iv j,iv k,iv m] (pV (luZ F S.l S.u i j k m)):=by
 have hF:=h.fin (j:=j) (i:=i) hj hi;have cA:=q6a (i:=i) (j:=j) h hi hj;have cO:=q0w hF.2 (q0T hF.1);have hd:=qvx (F:=F) (i:=i) (j:=j) (k:=k) (m:=m) hl hu hF.1 Oq;have cS:=q3e (l:=luL F S.l S.u i j k m) (by rw [q7m]; omega) hd;have cZ:=q1T (V:=q1M (luL F S.l S.u i j k m));have cN:=@q4j;unfold luZ;have hL0:luL F S.l S.u i j k 0=[ofZ ((F j i).getD 0)]:=rfl;have hLs:=λm=>show luL F S.l S.u i j k (m+1)=luL F S.l S.u i j k m ++ [-(q1P (S.l i m) (S.u m k))] from rfl;have hLl:=q7m (F:=F) (l:=S.l) (u:=S.u) (i:=i) (j:=j) (k:=k);have ri:(List.range n)[i]?=some i:=zC hi;have rk:(List.range n)[k]?=some k:=zC hk;have hpl:pT n n F=q2F n n (tM F n n).1 (tM F n n).2.1 (tM F n n).2.2:=rfl;rw [hpl] at cA ⊢;clear hpl;unfold q2F at cA ⊢;generalize (tM F n n).1=ms at *;generalize (tM F n n).2.1=mi at *;generalize (tM F n n).2.2=mv at *;generalize luL F S.l S.u i j k=L at *;generalize hfx:(F j i).getD 0=fx at *;refine ac0 Tryz.func239 Tryz.ntmps239 [.cell 12 48] ?_;refine wk ?_;refine q4o [2,3,4,5,6,12,13,14] Lk ?_;refine q0B (λp=>p<=m) [2,3,4,5,6,12] [6,12] Lk Lk (λp:Nat=>[(14,iv p),(13,.ow 1001 (some 4) 0 (p+1))]) (λp=>[(1001,⟨48,some 4,(L p).map λV=>pV V,false⟩)]) (λp=>m-p) 0 (zF _) ?_ ?_
 ·refine LeM [(1001,some 20)] rfl rfl ?_;refine Zz ?_;rw [hL0];exact ⟨rfl,q0F rfl (clV (l:=[_]))⟩
 ·intro p hp;have hl1:=hLl p
  by_cases hlt:p < m
  ·have rp:(List.range n)[p]?=some p:=zC Oq;obtain ⟨u1,u2⟩:=hl i p;obtain ⟨v1,v2⟩:=hu p k;have cP:=q1o u2 v2 (q0T u1) (q0T v1) (q0m u1 v1).1;refine wk1 (x4 ri rk rp hl1) ?_;refine ⟨p+1,by omega,by omega,?_⟩;rw [hLs,yO];refine LeM [(1001,some 46)] rfl rfl ?_;refine Zz ?_;exact ⟨by omega,qs9 (q0F rfl clV) (q0F rfl (clV (l:=[_])))⟩
  ·obtain rfl:p=m:=by omega
   exact wk1 hl1 trivial
def q4d (hr:S.rows.length<=1000000) {i:Nat}:ACt 240 [pSt n S,iv i] (bv (decide (i ∈ S.rows))):=by
 obtain ⟨res,hres⟩:∃ res,res=decide (i ∈ S.rows):=⟨_,rfl⟩;rw [<- hres];refine ac0 Tryz.func240 Tryz.ntmps240 [.tmp 4] ?_;refine wk ?_;refine q0B (λp=>p<=S.rows.length/\i ∉ S.rows.take p) [1,2] [2] Lk Lk (λp:Nat=>[(5,iv p)]) (λ_=>[]) (λp=>S.rows.length-p) 0 ⟨zF _,by simp⟩ ?_ ?_
 ·refine LeM [] rfl rfl ?_;refine Zz ?_
  rfl
 ·rintro p ⟨hp,hm⟩
  by_cases hlt:p < S.rows.length
  ·obtain ⟨x,hx⟩:∃ x,S.rows[p]?=some x:=⟨_,zA hlt⟩
   by_cases hxi:x=i
   ·have q:((x:Int) == (i:Int))=true:=by simp [hxi]
    refine wk1 (x2 hx q) ?_;exact (hres.trans (decide_eq_true (hxi ▸ zD hx))).symm
   ·have q:((x:Int) == (i:Int))=false:=by simp; omega
    refine wk1 (x2 hx q) ?_;refine ⟨p+1,⟨by omega,?_⟩,by omega,?_⟩
    ·rw [q1p hx,zO];rintro (h | h)
     ·exact hm h
     ·simp at h; exact hxi h.symm
    ·refine LeM [] rfl rfl ?_;refine Zz ?_
     rfl
  ·obtain rfl:p=S.rows.length:=by omega
   rw [zQ] at hm;refine wk ?_;exact (hres.trans (decide_eq_false hm)).symm
def q5V (l:List Int) (i:Nat):Nat:=(l.filter λx:Int=>decide (x=(i:Int))).length
def qcQ {ms mi:List Int} {mv:List Nat} {n:Nat} (hi:mi.length<=1000000) {i:Nat}:ACt 241 [q2F n n ms mi mv,iv i] (iv (q5V mi i)):=by
 unfold q2F;refine ac0 Tryz.func241 Tryz.ntmps241 [.tmp 4] ?_;refine wk ?_;refine q0B (λp=>p<=mi.length) [1,2] [2] Lk Lk (λp:Nat=>[(6,iv p),(5,iv (q5V (mi.take p) i))]) (λ_=>[]) (λp=>mi.length-p) 0 (zF _) ?_ ?_
 ·refine LeM [] rfl rfl ?_;refine Zz ?_;exact ⟨rfl,rfl⟩
 ·intro p hp
  by_cases hlt:p < mi.length
  ·obtain ⟨x,hx⟩:∃ x,mi[p]?=some x:=⟨_,zA hlt⟩;have hc:q5V (mi.take p) i<=1000000:=zU (xH _ _) (by rw [List.length_take]; omega)
   by_cases hxi:x=i
   ·have q:(x == (i:Int))=true:=by simp [hxi]
    have es:q5V (mi.take (p+1)) i=q5V (mi.take p) i+1:=by unfold q5V; rw [q1p hx,xM,zY]; simp [hxi]
    generalize q5V (mi.take p) i=c at *;refine wk1 (x2 hx q) ?_;refine ⟨p+1,by omega,by omega,?_⟩;rw [es];refine LeM [] rfl rfl ?_;refine Zz ?_;exact ⟨rfl,rfl⟩
   ·have q:(x == (i:Int))=false:=by simpa using hxi
    have es:q5V (mi.take (p+1)) i=q5V (mi.take p) i:=by unfold q5V; rw [q1p hx,xM,zY]; simp [hxi]
    generalize q5V (mi.take p) i=c at *;refine wk1 (x2 hx q) ?_;refine ⟨p+1,by omega,by omega,?_⟩;rw [es];refine LeM [] rfl rfl ?_;refine Zz ?_
    rfl
  ·obtain rfl:p=mi.length:=by omega
   rw [zQ];exact wk trivial
end
structure PtrOk (n:Nat) (cp:List Int) (m:Nat):Prop where
 c0:cp[0]?=some 0
 cn:cp[n]?=some (m:Int)
 mono:∀ i,i < n->∀ x y,cp[i]?=some x->cp[i+1]?=some y->x<=y
def PtrOk.nn {n m:Nat} {cp:List Int} (h:PtrOk n cp m) (hl:cp.length=n+1):∀ j,j<=n->∃ a:Nat,cp[j]?=some (a:Int)
 | 0,_=>⟨0,h.c0⟩
 | j+1,hj=>by
  obtain ⟨a,ha⟩:=h.nn hl j Oq;obtain ⟨y,hy⟩:∃ y,cp[j+1]?=some y:=⟨_,zA Oq⟩;have:=h.mono j Oq _ _ ha hy;exact ⟨y.toNat,by rw [hy]; congr 1; omega⟩
def PtrOk.le {n m:Nat} {cp:List Int} (h:PtrOk n cp m) (hl:cp.length=n+1):∀ d j,j+d=n->∀ x,cp[j]?=some x->x<=m
 | 0,j,hj,x,hx=>by
  obtain rfl:j=n:=by omega
  have:=zI.inj (hx.symm.trans h.cn); omega
 | d+1,j,hj,x,hx=>by
  obtain ⟨y,hy⟩:∃ y,cp[j+1]?=some y:=⟨_,zA Oq⟩;have h1:=h.mono j Oq _ _ hx hy;have h2:=h.le hl d (j+1) Oq y hy;omega
open Classical in
def qfE {cp:List Int} {n m:Nat} (hn:n<=1000000) (hcl:cp.length=n+1):ACt 301 [pI cp,iv n,iv m] (bv (decide (PtrOk n cp m))):=by
 obtain ⟨res,hres⟩:∃ res,res=decide (PtrOk n cp m):=⟨_,rfl⟩;rw [<- hres];have rF:¬ PtrOk n cp m->res=false:=λh=>by rw [hres]; exact decide_eq_false h
 have rT:PtrOk n cp m->res=true:=λh=>by rw [hres]; exact decide_eq_true h
 clear hres;obtain ⟨x0,hx0⟩:∃ x,cp[0]?=some x:=⟨_,zA Oq⟩;obtain ⟨xn,hxn⟩:∃ x,cp[n]?=some x:=⟨_,zA Oq⟩;have e0:((cp.length:Int) != (n:Int)+1)=false:=by rw [hcl]; simp
 refine ac0 Tryz.func301 Tryz.ntmps301 [.tmp 6] ?_
 by_cases h0:x0=0
 case neg =>
  have e1:(x0 != 0)=true:=by simpa using h0
  refine wk1 (x3 e0 hx0 e1) ?_;rw [rF λh=>h0 (zI.inj (hx0.symm.trans h.c0))]
 subst h0;have e1:((0:Int) != 0)=false:=rfl
 by_cases hn0:xn=m
 case neg =>
  have e2:(xn != (m:Int))=true:=by simpa using hn0
  refine wk1 (x5 e0 hx0 e1 hxn e2) ?_;rw [rF λh=>hn0 (zI.inj (hxn.symm.trans h.cn))]
 subst hn0;have e2:((m:Int) != (m:Int))=false:=by simp
 refine wk1 (x5 e0 hx0 e1 hxn e2) ?_;refine q0B (λj=>j<=n/\∀ i,i < j->∀ x y,cp[i]?=some x->cp[i+1]?=some y->x<=y) [0,1] [] Lk Lk (λj:Nat=>[(7,iv j)]) (λ_=>[]) (λj=>n-j) 0 ⟨zF _,by omega⟩ ?_ ?_
 ·refine LeM [] rfl rfl ?_;refine Zz ?_
  rfl
 ·rintro j ⟨hj,hm⟩
  by_cases hlt:j < n
  ·obtain ⟨x,hx⟩:∃ x,cp[j]?=some x:=⟨_,zA Oq⟩;obtain ⟨y,hy⟩:∃ x,cp[j+1]?=some x:=⟨_,zA Oq⟩;have wj:(j:Int)+1=((j+1:Nat):Int):=rfl
   by_cases hxy:x > y
   ·refine wk1 (x4 hx hy hxy wj) ?_;rw [rF λh=>by have:=h.mono j hlt x y hx hy; omega]
   ·refine wk1 (x4 hx hy hxy wj) ?_;refine ⟨j+1,⟨by omega,λi hi u v hu hv=>?_⟩,by omega,?_⟩
    ·by_cases hij:i < j
     ·exact hm i hij u v hu hv
     ·obtain rfl:i=j:=by omega
      have h1:=zI.inj (hx.symm.trans hu);have h2:=zI.inj (hy.symm.trans hv);omega
    ·refine LeM [] rfl rfl ?_;exact Zy
  ·refine wk ?_;obtain rfl:j=n:=by omega
   exact (rT ⟨hx0,hxn,hm⟩).symm

open Classical in
def q2z {l:List Nat} (hu:∀ x ∈ l,x < 18446744073709551616) (hn:l.length<=1000000):ACt 94 [pF l] (bv (decide (∀ x ∈ l,q0I x))):=by
 obtain ⟨res,hres⟩:∃ res,res=decide (∀ x ∈ l,q0I x):=⟨_,rfl⟩;rw [<- hres];refine ac0 Tryz.func94 Tryz.ntmps94 [.tmp 2] ?_;refine wk ?_;refine q0B (λi=>i<=l.length/\∀ x ∈ l.take i,q0I x) [0] [] Lk Lk (λi:Nat=>[(3,iv i)]) (λ_=>[]) (λi=>l.length-i) 0 ⟨zF _,by simp⟩ ?_ ?_
 ·refine LeM [] rfl rfl ?_;refine Zz ?_
  rfl
 ·rintro i ⟨hi,hf⟩
  by_cases hil:i < l.length
  ·obtain ⟨x,hx⟩:∃ x,l[i]?=some x:=⟨_,zA hil⟩;have hmx:=zD hx;have cF:=q14 (hu x hmx)
   by_cases hfx:q0I x
   case neg =>
    rw [decide_eq_false hfx] at cF;refine wk1 hx ?_;exact (hres.trans (decide_eq_false λh=>hfx (h x hmx))).symm
   rw [decide_eq_true hfx] at cF;refine wk1 hx ?_;refine ⟨i+1,⟨by omega,?_⟩,by omega,?_⟩
   ·rw [q1p hx];intro y hy
    rcases zO.1 hy with hy | hy
    ·exact hf y hy
    ·simp at hy; subst hy; exact hfx
   ·refine LeM [] rfl rfl ?_;refine Zz ?_
    rfl
  ·obtain rfl:i=l.length:=by omega
   rw [zQ] at hf;refine wk ?_;exact (hres.trans (decide_eq_true hf)).symm
open Classical in
noncomputable def qil (e:Int) (n:Nat) (l:List Nat):Int:=if e≠0 then e else if l.length≠n then 2 else if ¬ ∀ x ∈ l,q0I x then 4 else 0
open Classical in
def qiK {e:Int} {n:Nat} {l:List Nat} (hu:∀ x ∈ l,x < 18446744073709551616) (hl:l.length<=1000000):ACt 120 [iv e,iv n,pF l] (iv (qil e n l)):=by
 have cF:=q2z hu hl;unfold qil;refine ac0 Tryz.func120 Tryz.ntmps120 [.tmp 6] ?_
 by_cases h1:e=0
 case neg =>
  have q:(e != 0)=true:=by simpa using h1
  rw [if_pos h1];exact wk1 q trivial
 have q:(e != 0)=false:=by simpa using h1
 rw [if_neg (not_not_intro h1)]
 by_cases h2:l.length=n
 case neg =>
  have q2:((l.length:Int) != (n:Int))=true:=by simp; omega
  rw [if_pos h2];exact wk1 (x2 q q2) trivial
 have q2:((l.length:Int) != (n:Int))=false:=by simp; omega
 rw [if_neg (not_not_intro h2)]
 by_cases h3:∀ x ∈ l,q0I x
 ·rw [decide_eq_true h3] at cF;rw [if_neg (not_not_intro h3)];exact wk1 (x2 q q2) trivial
 ·rw [decide_eq_false h3] at cF;rw [if_pos h3];exact wk1 (x2 q q2) trivial
def q8l (B:Int) (l x:List Nat):Nat->List Int
 | 0=>[B]
 | m+1=>q8l B l x m ++ [-(q1P (l.getD m 0) (x.getD m 0))]
def q5K {B:Int} {l x:List Nat}:∀ m,(q8l B l x m).length=m+1
 | 0=>rfl
 | m+1=>by rw [q8l,zY,q5K m]; rfl
def qer {B:Int} {l x:List Nat} (hB:bl B.natAbs<=67600) (hl:q03 l) (hx:q03 x):∀ m,∀ y ∈ q8l B l x m,bl y.natAbs<=67600
 | 0,y,hy=>by simp [q8l] at hy; subst hy; exact hB
 | m+1,y,hy=>by
  rcases zO.1 hy with hy | hy
  ·exact qer hB hl hx m y hy
  ·simp at hy;subst hy;rw [yU];exact (q0m (qaW hl).2 (qaW hx).2).2
def qvC {B:Int} {l x:List Nat} (hB:bl B.natAbs<=67600) (hl:q03 l) (hx:q03 x) {m:Nat} (hm:m<=500):q0U (q1M (q8l B l x m)):=by
 have h:=q5b (i:=(q8l B l x m).length) (qer hB hl hx m) (by rw [q5K]; omega);rw [zQ] at h;unfold q0U; omega
def qbB {B:Int} {l x:List Nat} (hB:bl B.natAbs<=67600) (hl:q03 l) (hx:q03 x) (hlx:l.length<=x.length) (hn:l.length<=500):ACt 125 [pV B,pF l,pF x] (pV (q1M (q8l B l x l.length))):=by
 have cN:=@q4j;have hd:=qvC hB hl hx (m:=l.length) hn;have cS:=q3e (l:=q8l B l x l.length) (by rw [q5K]; omega) hd;have cZ:=q1T (V:=q1M (q8l B l x l.length));refine ac0 Tryz.func125 Tryz.ntmps125 [.cell 6 48] ?_;refine wk ?_;refine q0B (λi=>i<=l.length) [1,2,6] [6] Lk Lk (λi:Nat=>[(8,iv i),(7,.ow 1001 (some 4) 0 (i+1))]) (λi=>[(1001,⟨48,some 4,(q8l B l x i).map λV=>pV V,false⟩)]) (λi=>l.length-i) 0 (zF _) ?_ ?_
 ·refine LeM [(1001,some 10)] rfl rfl ?_;refine Zz ?_;exact ⟨rfl,q0F rfl clV⟩
 ·intro i hi;have hln:=q5K (B:=B) (l:=l) (x:=x) i
  by_cases hil:i < l.length
  ·obtain ⟨u,hu⟩:∃ u,l[i]?=some u:=⟨_,zA hil⟩;obtain ⟨v,hv⟩:∃ u,x[i]?=some u:=⟨_,zA Oq⟩;obtain ⟨u1,u2⟩:=hl u (zD hu);obtain ⟨v1,v2⟩:=hx v (zD hv);have cP:=q1o u1 v1 (q0T u2) (q0T v2) (q0m u2 v2).1;refine wk1 (x3 hu hv hln) ?_;refine ⟨i+1,by omega,by omega,?_⟩;rw [q8l,getD_some hu,getD_some hv];refine LeM [(1001,some 29)] rfl rfl ?_;refine Zz ?_;exact ⟨by omega,q0F (by rw [yO]; rfl) clV⟩
  ·obtain rfl:i=l.length:=by omega
   exact wk1 hln trivial
def clU {l:List Nat}:ClL (l.map λz:Nat=>uv z):=λx hx=>by
 obtain ⟨q,_,rfl⟩:=zM.1 hx
 trivial
def qvI {n c v:Nat} {f:Nat->Nat}:(((List.range n).map f).set c v)=(List.range n).map λy=>if y=c then v else f y:=by
 apply yH
 intro i;rw [yB];simp only [z8,yI,zH]
 by_cases hi:i < n
 ·rw [zC hi]
  by_cases hc:c=i
  ·subst hc; simp [hi]
  ·simp [hc,Ne.symm hc]
 ·rw [z9 (by simpa using hi)]
  by_cases hc:c=i <;> simp [hc]
  omega
def rwG (n:Nat) (g:Nat->Nat) (m:Nat):List Nat:=(List.range n).map λj=>if j < m then g j else 0
def q7Y {n m:Nat} {g:Nat->Nat}:(rwG n g m).length=n:=by simp [rwG]
def qpF {n m:Nat} {g:Nat->Nat}:(rwG n g m).set m (g m)=rwG n g (m+1):=by
 unfold rwG;rw [qvI];refine zL λy _=>?_
 by_cases h:y=m
 ·subst h; rw [if_pos rfl,if_pos (by omega)]
 ·rw [if_neg h]
  by_cases h2:y < m
  ·rw [if_pos h2,if_pos (by omega)]
  ·rw [if_neg h2,if_neg (by omega)]
def qpH {n:Nat} {g:Nat->Nat}:List.replicate n 0=rwG n g 0:=by
 unfold rwG;simp [List.map_const']
end Go.Proofs.YtpbaikoblfcmdaaGreatDoor
namespace Go.E
open Go Go.RowKit
section
variable {J:Nat->Prop} {h hin hw:Hp} {T1 T2:TypeId} {K:Kd} {N R n:Nat} {row row':Nat->List PV} {B B':Hp}
def q8U (h:Hp):Hp:=λi=>(h i).map λb=>⟨b.T,b.k,b.xs.map λ_=>.un,false⟩
def q8V (h:Hp) (a:Nat):Hp:=λi=>if i=a then none else h i
def SSh (h h':Hp):Prop:=∀ i b,h i=some b->∃ b',h' i=some b'/\b'.T=b.T/\b'.k=b.k/\b'.st=false/\b'.xs.length=b.xs.length
def q5X (hB:SSh B B') (hl:∀ j,(row' j).length=(row j).length):SSh (q1W T1 T2 K N R n row B) (q1W T1 T2 K N R n row' B'):=λi b hb=>by
 unfold q1W at hb ⊢
 split
 ·rename_i hi; rw [if_pos hi] at hb; cases hb; exact ⟨_,rfl,rfl,rfl,rfl,by simp⟩
 ·rename_i hi;rw [if_neg hi] at hb
  split
  ·rename_i hj; rw [if_pos hj] at hb; cases hb; exact ⟨_,rfl,rfl,rfl,rfl,hl _⟩
  ·rename_i hj; rw [if_neg hj] at hb; exact hB i b hb
def qzU {i:Nat} {b b':Bk} (hB:SSh B B') (h1:b'.T=b.T) (h2:b'.k=b.k) (h3:b'.st=false) (h4:b'.xs.length=b.xs.length):SSh (q0Q B i b) (q0Q B' i b'):=λj c hc=>by
 unfold q0Q at hc ⊢
 split
 ·rename_i hj; rw [if_pos hj] at hc; cases hc; exact ⟨_,rfl,h1,h2,h3,h4⟩
 ·rename_i hj; rw [if_neg hj] at hc; exact hB j c hc
def SSh_0:SSh h0 B:=λ_ _ h=>by cases h
def LeUnk {l:List PV} {v:Value} (hq:Wn h hw) (hin':∀ i b,hin i=some b->win i) (hs:SSh hin hw) (hx:mkR l=.vl v):Le J (λ_=>mkR l) h (λ_=>.vl v) (q8U hin):=by
 refine q4U some (λi b hb=>?_) (λi j k b c _ _ ti tj=>by cases ti; cases tj; rfl) (λ_=>by rw [hx]; exact .cl trivial) λ_ _ _ _=>rfl;unfold q8U at hb;obtain ⟨c,hc,rfl⟩:=yV.1 hb;obtain ⟨b',h1,h2,h3,h4,h5⟩:=hs i c hc;unfold LeB;exact ⟨b',(hq i (hin' i c hc)).trans h1,h2.symm,h3.symm,⟨rfl,h4⟩,by simp [h5],λj x y _ hy=>by
  rw [zH] at hy;cases hcj:c.xs[j]? with
  | none=>rw [hcj] at hy; cases hy
  | some z=>rw [hcj] at hy; cases hy; exact .un⟩
def rwP (n:Nat) (g:Nat->PV) (m:Nat):List PV:=(List.range n).map λc=>if c < m then g c else .un
def q7X {g:Nat->PV} {m:Nat}:(rwP n g m).length=n:=by simp [rwP]
def qpE {g:Nat->PV} {m i:Nat} (hi:i < m) (hm:m<=n):(rwP n g m)[i]?=some (g i):=by
 unfold rwP;rw [zH,zC (by omega),zP,if_pos hi]
def qpD {g:Nat->PV} {m:Nat}:(rwP n g m).set m (g m)=rwP n g (m+1):=by
 unfold rwP
 apply yH
 intro i;rw [yB];simp only [z8,yI,zH]
 by_cases hi:i < n
 ·rw [zC hi]
  by_cases hc:m=i
  ·subst hc; simp [hi]
  ·rw [if_neg hc,zP,zP]
   by_cases h2:i < m
   ·rw [if_pos h2,if_pos (by omega)]
   ·rw [if_neg h2,if_neg (by omega)]
 ·rw [z9 (by simpa using hi)]
  by_cases hc:m=i <;> simp [hc]
  omega
def rwP_u {g:Nat->PV} {m:Nat} (h:g m=.un):rwP n g m=rwP n g (m+1):=by
 unfold rwP;refine zL λy _=>?_
 by_cases h2:y < m
 ·rw [if_pos h2,if_pos (by omega)]
 ·rw [if_neg h2]
  by_cases h3:y=m
  ·subst h3; rw [if_pos (by omega),h]
  ·rw [if_neg (by omega)]
def q1i {g:Nat->PV} {m:Nat} (h:∀ c,Cld (g c)):ClL (rwP n g m):=λx hx=>by
 obtain ⟨c,_,rfl⟩:=zM.1 hx
 split
 ·exact h c
 ·trivial
def qqQ {i j R':Nat} {b:Bk} (hne:j+R'≠i+R):q0Q h (i+R) b (j+R')=h (j+R'):=q0A hne
attribute [go_sem ↓ 2000] qqQ
end
end Go.E
namespace Go.Proofs.YtpbaikoblfcmdaaGreatDoor
open Go Go.E Go.Sp
def inZ (z:Int):Int:=(mkV z 0).getD 0
def inZK {z:Int} {K:Nat} (hK:K=65536) (hz:z.natAbs < 9007199254740992):mkV z 0=some (z*(2:Int) ^ K):=by
 have h1:bl z.natAbs<=53:=q0N Oq;have h:=q5p (m:=z) (E:=0) Oq Oq;rw [h,show ((0:Int)+65536).toNat=K by omega]
def qmp {z:Int} (hz:z.natAbs < 9007199254740992):mkV z 0=some (inZ z):=by
 unfold inZ;rw [inZK rfl hz]; rfl
def mulI {z W:Int} (hz:z.natAbs < 9007199254740992) (hW:bl W.natAbs<=67600):mkV (inZ z*W) (-131072)=some (z*W):=by
 obtain ⟨K,hK⟩:∃ K,K=65536:=⟨_,rfl⟩;unfold inZ;rw [inZK hK hz,yL,show z*(2:Int) ^ K*W=z*W*(2:Int) ^ K by simp only [uI,y8,Int.mul_left_comm],q1f,show (-131072:Int)+K = -65536 by omega];refine q1b ?_;unfold q0U;have h1:bl z.natAbs<=53:=q0N Oq;have:=q11 z.natAbs W.natAbs;rw [uH];omega
def q5G {A B:Int}:ACt 185 [pV A,pV B] (bv (decide (A < B))):=by
 have cC:=qhK (A:=A) (B:=B);have es:decide ((A-B).sign < 0)=decide (A < B):=by
  congr 1
  rw [Int.sign_neg_iff];exact propext ⟨λh=>by omega,λh=>by omega⟩
 refine ac0 Tryz.func185 Tryz.ntmps185 [.tmp 4] ?_;exact wk1 es trivial
def qcX (g:Nat->Nat->Bool) (r c:Nat) (v:Bool):Nat->Nat->Bool:=λx y=>if x=r/\y=c then v else g x y
section
open Classical
variable (F:Nat->Nat->Option Nat) (mi:List Int) (n:Nat) (S:LuS) (j k num den:Nat)
noncomputable def upS:Nat->Option LuS
 | 0=>some S
 | m+1=>(upS m).bind λq=>if q0I (fR 0 (luZ F q.l q.u (S.rows.getD m 0) j k m)) then some { q with u:=q3f q.u m k (fR 0 (luZ F q.l q.u (S.rows.getD m 0) j k m)),iU:=qcX q.iU m k (decide (luZ F q.l q.u (S.rows.getD m 0) j k m≠0)) } else none
noncomputable def rsZ (i:Nat):Int:=luZ F S.l S.u i j k k
noncomputable def rsV (i:Nat):Nat:=if i ∈ S.rows then 0 else fR 0 (rsZ F S j k i)
end
section
variable (v:Nat->Nat) (S:LuS) (mi:List Int) (num den:Nat) (w:Int)
def abZ (x:Nat):Int:=((ofZ x).natAbs:Int)
def mxZ:Nat->Int
 | 0=>0
 | i+1=>if mxZ i < abZ (v i) then abZ (v i) else mxZ i
def bsP:Nat->Int
 | 0 => -1
 | i+1=>if i ∈ S.rows\/(v i=0\/v i=9223372036854775808)\/(den:Int)*abZ (v i) < num*w then bsP i else if bsP i < 0\/q5V mi i < q5V mi (bsP i).toNat then (i:Int) else bsP i
end
section
open Classical
variable (F:Nat->Nat->Option Nat) (mi:List Int) (n:Nat) (S:LuS) (j k num den:Nat)
noncomputable def loS (z:Nat->Int) (d:Int):Nat->Option LuS
 | 0=>some S
 | i+1=>(loS z d i).bind λq=>if i ∈ S.rows then some q else if q0I (qiE 0 (z i) d) then some { q with l:=q3f q.l i k (qiE 0 (z i) d),iL:=qcX q.iL i k (decide (z i≠0)) } else none
noncomputable def pvS (v:Nat->Nat) (p:Nat):LuS:={ S with rows:=S.rows ++ [p],u:=q3f S.u k k (v p),iU:=qcX S.iU k k true }
noncomputable def colG (q:LuS):Int × LuS :=
 if ∀ i,i < n->q0I (rsV F q j k i) then
  (if bsP (rsV F q j k) q mi num den (mxZ (rsV F q j k) n) n < 0 then (9,S) else
   match loS (pvS q k (rsV F q j k) (bsP (rsV F q j k) q mi num den (mxZ (rsV F q j k) n) n).toNat) k (rsZ F q j k) (ofZ (rsV F q j k (bsP (rsV F q j k) q mi num den (mxZ (rsV F q j k) n) n).toNat)) n with
   | none=>(233,S)
   | some r=>(0,r))
 else (233,S)
noncomputable def q6W:Int × LuS:=match upS F S j k k with
 | none=>(233,S)
 | some q=>colG F mi n S j k num den q
end
structure LUt where
 rows:List Int
 cols:List Int
 ls:List Int
 li:List Int
 lv:List Nat
 us:List Int
 ui:List Int
 uv:List Nat
def pLU (f:LUt):PV:=.ag [pI f.rows,pI f.cols,pI f.ls,pI f.li,pF f.lv,pI f.us,pI f.ui,pF f.uv]
def qcd (l:List Int):Prop:=∀ (i:Nat) (x y:Int),l[i]?=some x->l[i+1]?=some y->x < y
structure CmpOk (n:Nat) (st ix:List Int) (G:Nat->List Int->Prop):Prop where
 c0:st[0]?=some 0
 cn:st[n]?=some (ix.length:Int)
 col:∀ j,j < n->∃ a b:Nat,st[j]?=some (a:Int)/\st[j+1]?=some (b:Int)/\a<=b/\b<=ix.length/\qcd ((ix.take b).drop a)/\G j ((ix.take b).drop a)
def LoC (n k:Nat) (l:List Int):Prop:=(∀ z,l[0]?=some z->(k:Int) < z)/\∀ z,l[l.length-1]?=some z->z < n
def UpC (k:Nat) (l:List Int):Prop:=(∀ z,l[0]?=some z->0<=z)/\l[l.length-1]?=some (k:Int)
def qnk (f:LUt):Prop:=CmpOk f.rows.length f.ls f.li (LoC f.rows.length)/\CmpOk f.rows.length f.us f.ui UpC
def UDg (n:Nat) (us:List Int) (vs:List Nat):Prop:=∀ k,k < n->∀ (a x:Nat),us[k+1]?=some ((a+1:Nat):Int)->vs[a]?=some x->ofZ x≠0
open Classical in
noncomputable def q6Y (f:LUt):Int :=
 if f.rows.length > 200 then 6 else if ¬ (q3V f.rows f.rows.length/\q3V f.cols f.rows.length) then 90
 else if ¬ (f.ls.length=f.rows.length+1/\f.us.length=f.rows.length+1/\f.li.length=f.lv.length/\f.ui.length=f.uv.length) then 2
 else if ¬ qnk f then 240 else if (∀ x ∈ f.lv,q0I x)/\(∀ x ∈ f.uv,q0I x)/\UDg f.rows.length f.us f.uv then 0 else 4
structure LUb (f:LUt):Prop where
 rows:f.rows.length<=1000000
 cols:f.cols.length<=1000000
 ls:f.ls.length<=1000000
 li:f.li.length<=1000000
 lv:f.lv.length<=1000000
 us:f.us.length<=1000000
 ui:f.ui.length<=1000000
 uv:f.uv.length<=1000000
 hl:∀ x ∈ f.lv,x < 18446744073709551616
 hu:∀ x ∈ f.uv,x < 18446744073709551616
def CmpOk.ptr {n:Nat} {st ix:List Int} {G:Nat->List Int->Prop} (h:CmpOk n st ix G):PtrOk n st ix.length:=⟨h.c0,h.cn,λi hi x y hx hy=>by
 obtain ⟨a,b,h1,h2,h3,_⟩:=h.col i hi;have h4:=zI.inj (hx.symm.trans h1);have h5:=zI.inj (hy.symm.trans h2);omega⟩

def qcd.lt {l:List Int} (h:qcd l):∀ (d i:Nat) (x y:Int),l[i]?=some x->l[i+(d+1)]?=some y->x < y
 | 0,i,x,y,hx,hy=>h i x y hx hy
 | d+1,i,x,y,hx,hy=>by
  have hl:=(zB.1 hy).1;obtain ⟨z,hz⟩:∃ z,l[i+(d+1)]?=some z:=⟨_,zA Oq⟩;have h1:=h.lt d i x z hx hz;have h2:=h _ z y hz (by rw [show i+(d+1)+1=i+(d+1+1) by omega]; exact hy);omega
def qcd.le {l:List Int} (h:qcd l) {i j:Nat} {x y:Int} (hij:i<=j) (hx:l[i]?=some x) (hy:l[j]?=some y):x<=y:=by
 by_cases hj:i=j
 ·subst hj; rw [hx] at hy; cases hy; exact yX _
 ·have:=h.lt (j-i-1) i x y hx (by rw [show i+(j-i-1+1)=j by omega]; exact hy);omega
def qfv {n k:Nat} {l:List Int} (h:qcd l):LoC n k l ↔ ∀ (i:Nat) (z:Int),l[i]?=some z->(k:Int) < z/\z < n:=by
 refine ⟨λhc i z hz=>?_,λhc=>⟨λz hz=>(hc _ z hz).1,λz hz=>(hc _ z hz).2⟩⟩;have hi:=(zB.1 hz).1;obtain ⟨x,hx⟩:∃ x,l[0]?=some x:=⟨_,zA Oq⟩;obtain ⟨y,hy⟩:∃ x,l[l.length-1]?=some x:=⟨_,zA Oq⟩;have h1:=hc.1 x hx;have h2:=hc.2 y hy;have h3:=h.le (zF i) hx hz;have h4:=h.le (show i<=l.length-1 by omega) hz hy;omega
def qeK {k:Nat} {l:List Int} (h:qcd l):UpC k l ↔ (∀ (i:Nat) (z:Int),l[i]?=some z->0<=z/\z<=k)/\l[l.length-1]?=some (k:Int):=by
 refine ⟨λhc=>⟨λi z hz=>?_,hc.2⟩,λhc=>⟨λz hz=>(hc.1 _ z hz).1,hc.2⟩⟩;have hi:=(zB.1 hz).1;obtain ⟨x,hx⟩:∃ x,l[0]?=some x:=⟨_,zA Oq⟩;have h1:=hc.1 x hx;have h3:=h.le (zF i) hx hz;have h4:=h.le (show i<=l.length-1 by omega) hz hc.2;omega
def qnm (P:Int->Prop) (ix:List Int) (a c:Nat):Prop:=∀ p,a<=p->p < c->∃ z,ix[p]?=some z/\P z/\(a < p->∃ y,ix[p-1]?=some y/\y < z)
def q5U {P:Int->Prop} {ix:List Int} {a b:Nat} (hb:b<=ix.length):qnm P ix a b ↔ qcd ((ix.take b).drop a)/\∀ (i:Nat) (z:Int),((ix.take b).drop a)[i]?=some z->P z:=by
 have hl:((ix.take b).drop a).length=b-a:=by simp; omega
 refine ⟨λh=>⟨λi x y hx hy=>?_,λi z hz=>?_⟩,λ⟨h1,h2⟩ p hp hc=>?_⟩
 ·have:=(zB.1 hy).1;rw [q36 (by omega)] at hx hy;obtain ⟨z,q1,_,q3⟩:=h (a+(i+1)) Oq Oq;obtain ⟨u,q4,q5⟩:=q3 Oq;rw [show a+(i+1)-1=a+i by omega,hx] at q4;rw [hy] at q1;cases q1; cases q4; exact q5
 ·have:=(zB.1 hz).1;rw [q36 (by omega)] at hz;obtain ⟨z',q1,q2,_⟩:=h (a+i) Oq Oq;rw [hz] at q1; cases q1; exact q2
 ·obtain ⟨z,hz⟩:∃ z,ix[p]?=some z:=⟨_,zA Oq⟩;refine ⟨z,hz,h2 (p-a) z (by rw [q36 (by omega),show a+(p-a)=p by omega]; exact hz),λhap=>?_⟩;obtain ⟨y,hy⟩:∃ z,ix[p-1]?=some z:=⟨_,zA Oq⟩;exact ⟨y,hy,h1 (p-1-a) y z (by rw [q36 (by omega),show a+(p-1-a)=p-1 by omega]; exact hy) (by rw [q36 (by omega),show a+(p-1-a+1)=p by omega]; exact hz)⟩
def qnm.stp {P:Int->Prop} {ix:List Int} {a c:Nat} {x:Int} (h:qnm P ix a c) (hx:ix[c]?=some x) (hP:P x) (hq:a < c->∃ y,ix[c-1]?=some y/\y < x):qnm P ix a (c+1):=λp h1 h2=>by
 by_cases hpc:p < c
 ·exact h p h1 hpc
 ·obtain rfl:p=c:=by omega
  exact ⟨x,hx,hP,hq⟩
open Classical in
def qnv {f:LUt} (hb:LUb f) (hn:f.rows.length<=200) (h1:f.ls.length=f.rows.length+1) (h2:f.us.length=f.rows.length+1):ACt 304 [pLU f] (bv (decide (qnk f))):=by
 obtain ⟨res,hres⟩:∃ res,res=decide (qnk f):=⟨_,rfl⟩;rw [<- hres];have rF:¬ qnk f->res=false:=λh=>by rw [hres]; exact decide_eq_false h
 have rT:qnk f->res=true:=λh=>by rw [hres]; exact decide_eq_true h
 clear hres;unfold qnk at rF rT;have hli:=hb.li;have hui:=hb.ui;have cL:=qfE (cp:=f.ls) (n:=f.rows.length) (m:=f.li.length) Oq h1;have cU:=qfE (cp:=f.us) (n:=f.rows.length) (m:=f.ui.length) Oq h2;unfold pLU;obtain ⟨rows,cols,ls,li,lv,us,ui,uv⟩:=f;clear hb;dsimp only at *;generalize hN:rows.length=n at *;refine ac0 Tryz.func304 Tryz.ntmps304 [.tmp 2] ?_
 by_cases h6:PtrOk n ls li.length
 case neg =>
  rw [decide_eq_false h6] at cL;refine wk1 hN ?_;exact (rF λh=>h6 h.1.ptr).symm
 rw [decide_eq_true h6] at cL
 by_cases h7:PtrOk n us ui.length
 case neg =>
  rw [decide_eq_false h7] at cU;refine wk1 hN ?_;exact (rF λh=>h7 h.2.ptr).symm
 rw [decide_eq_true h7] at cU;refine wk1 hN ?_;refine q4o [1,3,4] Lk ?_;refine q0B (λj=>j<=n/\(∀ j',j' < j->∃ a b:Nat,ls[j']?=some (a:Int)/\ls[j'+1]?=some (b:Int)/\a<=b/\b<=li.length/\qcd ((li.take b).drop a)/\LoC n j' ((li.take b).drop a))/\∀ j',j' < j->∃ a b:Nat,us[j']?=some (a:Int)/\us[j'+1]?=some (b:Int)/\a<=b/\b<=ui.length/\qcd ((ui.take b).drop a)/\UpC j' ((ui.take b).drop a)) [1,3] [1] Lk Lk (λj:Nat=>[(4,iv j)]) (λ_=>[]) (λj=>n-j) 0 ⟨zF _,by omega,by omega⟩ ?_ ?_
 ·refine LeM [] rfl rfl ?_;refine Zz ?_
  rfl
 ·rintro j ⟨hj,hm,hm2⟩
  by_cases hlt:j < n
  ·obtain ⟨a,ha⟩:=h6.nn h1 j Oq;obtain ⟨b,hb⟩:=h6.nn h1 (j+1) Oq;obtain ⟨u,hu⟩:=h7.nn h2 j Oq;obtain ⟨v,hv⟩:=h7.nn h2 (j+1) Oq;have wj:(j:Int)+1=((j+1:Nat):Int):=rfl;have hab:a<=b:=by have:=h6.mono j hlt _ _ ha hb; omega
   have hbr:b<=li.length:=by have:=h6.le h1 (n-(j+1)) (j+1) Oq _ hb; omega
   have huv:u<=v:=by have:=h7.mono j hlt _ _ hu hv; omega
   have hvr:v<=ui.length:=by have:=h7.le h2 (n-(j+1)) (j+1) Oq _ hv; omega
   have bad:¬ qnm (λz=>(j:Int) < z/\z < n) li a b->res=false:=λh=>rF λhS=>by
    obtain ⟨a',b',q1,q2,_,_,q5,q6⟩:=hS.1.col j hlt;have e1:=zI.inj (ha.symm.trans q1);have e2:=zI.inj (hb.symm.trans q2);obtain rfl:a'=a:=by omega
    obtain rfl:b'=b:=by omega
    exact h ((q5U hbr).2 ⟨q5,(qfv q5).1 q6⟩)
   have bad2:¬ (qnm (λz=>0<=z/\z<=(j:Int)) ui u v/\u < v/\ui[v-1]?=some (j:Int))->res=false:=λh=>rF λhS=>by
    obtain ⟨a',b',q1,q2,q3,q4,q5,q6⟩:=hS.2.col j hlt;have e1:=zI.inj (hu.symm.trans q1);have e2:=zI.inj (hv.symm.trans q2);obtain rfl:a'=u:=by omega
    obtain rfl:b'=v:=by omega
    have hl:((ui.take b').drop a').length=b'-a':=by simp; omega
    have q7:=(qeK q5).1 q6;have hlt:=(zB.1 q7.2).1;refine h ⟨(q5U hvr).2 ⟨q5,q7.1⟩,by omega,?_⟩;have q8:=q7.2;rw [hl,q36 (by omega),show a'+(b'-a'-1)=b'-1 by omega] at q8;exact q8
   refine wk1 (x3 wj ha hb) ?_;refine q0B (λk=>a<=k/\k<=b/\qnm (λz=>(j:Int) < z/\z < n) li a k) [1,3,4] [1] Lk Lk (λk:Nat=>[(5,iv k)]) (λ_=>[]) (λk=>b-k) a ⟨zW _,hab,λp q1 q2=>by omega⟩ ?_ ?_
   ·refine LeM [] rfl rfl ?_;exact Zy
   ·rintro k ⟨hk1,hk2,hU⟩
    by_cases hkb:k < b
    ·obtain ⟨x,hx⟩:∃ x,li[k]?=some x:=⟨_,zA Oq⟩;have no:(∀ z,li[k]?=some z->((j:Int) < z/\z < n)->(a < k->∃ y,li[k-1]?=some y/\y < z)->False)->res=false:=λh=>bad λhC=>by
      obtain ⟨z,q1,q2,q3⟩:=hC k hk1 hkb;exact h z q1 q2 q3
     by_cases hx0:x<=(j:Int)
     ·refine wk1 (x5 wj ha hb hx hx0) ?_;exact (no λz q1 q2 _=>by rw [hx] at q1; cases q1; omega).symm
     by_cases hxn:(n:Int)<=x
     ·refine wk1 (x6 wj ha hb hx hx0 hxn) ?_;exact (no λz q1 q2 _=>by rw [hx] at q1; cases q1; omega).symm
     by_cases hak:(k:Int) > a
     ·obtain ⟨y,hy⟩:∃ y,li[k-1]?=some y:=⟨_,zA Oq⟩;have wi:(k:Int)-1=((k-1:Nat):Int):=by omega
      by_cases hxy:x<=y
      ·refine wk1 (x6 wj ha hb hx hx0 (x5 hxn hak hy wi hxy)) ?_;exact (no λz q1 q2 q3=>by
        obtain ⟨u,q4,q5⟩:=q3 Oq;rw [hx] at q1; rw [hy] at q4; cases q1; cases q4; omega).symm
      ·refine wk1 (x6 wj ha hb hx hx0 (x5 hxn hak hy wi hxy)) ?_;refine ⟨k+1,⟨by omega,by omega,hU.stp hx Oq λ_=>⟨y,hy,by omega⟩⟩,by omega,?_⟩;refine LeM [] rfl rfl ?_;refine Zz ?_
       rfl
     ·refine wk1 (x6 wj ha hb hx hx0 (x2 hxn hak)) ?_;refine ⟨k+1,⟨by omega,by omega,hU.stp hx Oq λh=>by omega⟩,by omega,?_⟩;refine LeM [] rfl rfl ?_;refine Zz ?_
      rfl
    ·obtain rfl:k=b:=by omega
     obtain ⟨hA,hA2⟩:=(q5U hbr).1 hU;have hLo:=(qfv hA).2 hA2;clear bad hA2 hU;refine wk1 (x4 wj ha hb hu) ?_;refine q0B (λk=>u<=k/\k<=v/\qnm (λz=>0<=z/\z<=(j:Int)) ui u k) [1,3,4] [1] Lk Lk (λk:Nat=>[(6,iv k)]) (λ_=>[]) (λk=>v-k) u ⟨zW _,huv,λp q1 q2=>by omega⟩ ?_ ?_
     ·refine LeM [] rfl rfl ?_;exact Zy
     ·rintro c ⟨hc1,hc2,hU⟩
      by_cases hcv:c < v
      ·obtain ⟨x,hx⟩:∃ x,ui[c]?=some x:=⟨_,zA Oq⟩;have no:(∀ z,ui[c]?=some z->(0<=z/\z<=(j:Int))->(u < c->∃ y,ui[c-1]?=some y/\y < z)->False)->res=false:=λh=>bad2 λhC=>by
        obtain ⟨z,q1,q2,q3⟩:=hC.1 c hc1 hcv;exact h z q1 q2 q3
       by_cases hx0:x < 0
       ·refine wk1 (x5 wj hu hv hx hx0) ?_;exact (no λz q1 q2 _=>by rw [hx] at q1; cases q1; omega).symm
       by_cases hxn:x > (j:Int)
       ·refine wk1 (x6 wj hu hv hx hx0 hxn) ?_;exact (no λz q1 q2 _=>by rw [hx] at q1; cases q1; omega).symm
       by_cases hak:(c:Int) > u
       ·obtain ⟨y,hy⟩:∃ y,ui[c-1]?=some y:=⟨_,zA Oq⟩;have wi:(c:Int)-1=((c-1:Nat):Int):=by omega
        by_cases hxy:x<=y
        ·refine wk1 (x6 wj hu hv hx hx0 (x5 hxn hak hy wi hxy)) ?_;exact (no λz q1 q2 q3=>by
          obtain ⟨u,q4,q5⟩:=q3 Oq;rw [hx] at q1; rw [hy] at q4; cases q1; cases q4; omega).symm
        ·refine wk1 (x6 wj hu hv hx hx0 (x5 hxn hak hy wi hxy)) ?_;refine ⟨c+1,⟨by omega,by omega,hU.stp hx Oq λ_=>⟨y,hy,by omega⟩⟩,by omega,?_⟩;refine LeM [] rfl rfl ?_;refine Zz ?_
         rfl
       ·refine wk1 (x6 wj hu hv hx hx0 (x2 hxn hak)) ?_;refine ⟨c+1,⟨by omega,by omega,hU.stp hx Oq λh=>by omega⟩,by omega,?_⟩;refine LeM [] rfl rfl ?_;refine Zz ?_
        rfl
      ·obtain rfl:c=v:=by omega
       by_cases huv2:u=c
       ·have q1:((u:Int) == (c:Int))=true:=by simp; omega
        refine wk1 (x4 wj hu hv q1) ?_;exact (bad2 λh=>by omega).symm
       have q1:((u:Int) == (c:Int))=false:=by simp; omega
       obtain ⟨x,hx⟩:∃ x,ui[c-1]?=some x:=⟨_,zA Oq⟩;have wi:(c:Int)-1=((c-1:Nat):Int):=by omega
       by_cases hxj:x=j
       ·subst hxj;have q2:((j:Int) != (j:Int))=false:=by simp
        refine wk1 (x6 wj hu hv q1 wi (x2 hx q2)) ?_;obtain ⟨hB,hB2⟩:=(q5U hvr).1 hU;have hl:((ui.take c).drop u).length=c-u:=by simp; omega
        have hUp:=(qeK (k:=j) hB).2 ⟨hB2,by rw [hl,q36 (by omega),show u+(c-u-1)=c-1 by omega]; exact hx⟩;refine ⟨j+1,⟨by omega,λj' hj'=>?_,λj' hj'=>?_⟩,by omega,?_⟩
        ·by_cases hjj:j' < j
         ·exact hm j' hjj
         ·obtain rfl:j'=j:=by omega
          exact ⟨a,k,ha,hb,hab,hbr,hA,hLo⟩
        ·by_cases hjj:j' < j
         ·exact hm2 j' hjj
         ·obtain rfl:j'=j:=by omega
          exact ⟨u,c,hu,hv,huv,hvr,hB,hUp⟩
        ·refine LeM [] rfl rfl ?_;exact Zy
       ·have q2:(x != (j:Int))=true:=by simpa using hxj
        refine wk1 (x6 wj hu hv q1 wi (x2 hx q2)) ?_;exact (bad2 λh=>by
         have:=h.2.2;rw [hx] at this;exact hxj (zI.inj this)).symm
  ·obtain rfl:j=n:=by omega
   refine wk ?_;exact (rT ⟨⟨h6.c0,h6.cn,hm⟩,⟨h7.c0,h7.cn,hm2⟩⟩).symm
end Go.Proofs.YtpbaikoblfcmdaaGreatDoor
namespace Go.Sp
open Go.E Go.Proofs.YtpbaikoblfcmdaaGreatDoor
def qus {s:Bool} {m K:Nat}:sgn s m*(2:Int) ^ K=0 ↔ m=0:=by
 constructor
 ·intro h
  rcases xD.1 h with h | h
  ·have:=q1N s m; rw [h] at this; exact this.symm
  ·exact absurd h (xQ (q0K _))
 ·rintro rfl;have:sgn s 0=0:=by unfold sgn; split <;> rfl
  rw [this,yA]
def qaH {f:Nat} (h:q0I f):ofZ f=0 ↔ q3T f=0:=by
 unfold ofZ ofF q3T;rw [if_neg h];unfold q0I at h
 split
 ·rw [yL,qus]; omega
 ·rw [yL,qus]; omega
def qgE {f:Nat} (h:f < 18446744073709551616):(f=0\/f=9223372036854775808) ↔ q3T f=0:=by
 unfold q3T; omega
end Go.Sp
namespace Go.Proofs.YtpbaikoblfcmdaaGreatDoor
open Go Go.E Go.Sp
def uCol {f:LUt} (h:qnk f) (hb:f.ui.length=f.uv.length) {k:Nat} (hk:k < f.rows.length):∃ b x,f.us[k+1]?=some ((b+1:Nat):Int)/\f.uv[b]?=some x:=by
 obtain ⟨a,b,q1,q2,q3,q4,q5,q6⟩:=h.2.col k hk;have hl:((f.ui.take b).drop a).length=b-a:=by simp; omega
 have:=(zB.1 q6.2).1;obtain ⟨c,rfl⟩:∃ c,b=c+1:=⟨b-1,by omega⟩;exact ⟨c,_,q2,zA Oq⟩
open Classical in
def q9d {f:LUt} (hb:LUb f):ACt 220 [pLU f] (iv (q6Y f)):=by
 obtain ⟨res,hres⟩:∃ res,res=q6Y f:=⟨_,rfl⟩;rw [<- hres];have hrl:=hb.rows;have cP1:=q75 (l:=f.rows) (n:=f.rows.length) Oq;have cP2:=q75 (l:=f.cols) (n:=f.rows.length) Oq;have h1':=λh:f.rows.length<=200=>qnv hb h;have hus:=hb.us;have hil:=hb.lv;have hiu:=hb.uv;have hul:=hb.hl;have huu:=hb.hu;have hUc:=λh hb k hk=>uCol (f:=f) h hb (k:=k) hk;unfold q6Y at hres;have cS:=h1';clear h1';generalize hLS:qnk f=LS at *;unfold pLU at cS ⊢;obtain ⟨rows,cols,ls,li,lv,us,ui,uv⟩:=f;clear hb;dsimp only at *;generalize hN:rows.length=n at *;refine ac0 Tryz.func220 Tryz.ntmps220 [.tmp 2] ?_;refine wk1 hN ?_
 by_cases h1:n > 200
 ·rw [if_pos h1] at hres;have h1':(n:Int) > 200:=by omega
  refine wk1 h1' ?_;exact hres.symm
 have h1':¬ (n:Int) > 200:=by omega
 rw [if_neg h1] at hres;refine wk1 h1' ?_
 by_cases h2:q3V rows n
 case neg =>
  rw [if_pos λh=>h2 h.1] at hres;rw [decide_eq_false h2] at cP1;refine wk ?_;exact hres.symm
 rw [decide_eq_true h2] at cP1
 by_cases h3:q3V cols n
 case neg =>
  rw [if_pos λh=>h3 h.2] at hres;rw [decide_eq_false h3] at cP2;refine wk ?_;exact hres.symm
 rw [decide_eq_true h3] at cP2;rw [if_neg (not_not_intro ⟨h2,h3⟩)] at hres;refine wk ?_;have w1:(n:Int)+1=((n+1:Nat):Int):=rfl
 by_cases h4:ls.length=n+1
 case neg =>
  have e1:((ls.length:Int) != ((n+1:Nat):Int))=true:=by simp; omega
  rw [if_pos λh=>h4 h.1] at hres;refine wk1 (x2 w1 e1) ?_;exact hres.symm
 have e1:((ls.length:Int) != ((n+1:Nat):Int))=false:=by simp; omega
 by_cases h5:us.length=n+1
 case neg =>
  have e2:((us.length:Int) != ((n+1:Nat):Int))=true:=by simp; omega
  rw [if_pos λh=>h5 h.2.1] at hres;refine wk1 (x3 w1 e1 e2) ?_;exact hres.symm
 have e2:((us.length:Int) != ((n+1:Nat):Int))=false:=by simp; omega
 by_cases h6:li.length=lv.length
 case neg =>
  have e3:((li.length:Int) != (lv.length:Int))=true:=by simp; omega
  rw [if_pos λh=>h6 h.2.2.1] at hres;refine wk1 (x4 w1 e1 e2 e3) ?_;exact hres.symm
 have e3:((li.length:Int) != (lv.length:Int))=false:=by simp; omega
 by_cases h7:ui.length=uv.length
 case neg =>
  have e4:((ui.length:Int) != (uv.length:Int))=true:=by simp; omega
  rw [if_pos λh=>h7 h.2.2.2] at hres;refine wk1 (x5 w1 e1 e2 e3 e4) ?_;exact hres.symm
 have e4:((ui.length:Int) != (uv.length:Int))=false:=by simp; omega
 rw [if_neg (not_not_intro ⟨h4,h5,h6,h7⟩)] at hres;have cS:=cS Oq h4 h5
 by_cases h8:LS
 case neg =>
  rw [if_pos h8] at hres;rw [decide_eq_false h8] at cS;refine wk1 (x5 w1 e1 e2 e3 e4) ?_;exact hres.symm
 rw [if_neg (not_not_intro h8)] at hres;rw [decide_eq_true h8] at cS;have bad:¬ ((∀ x ∈ lv,q0I x)/\(∀ x ∈ uv,q0I x)/\UDg n us uv)->res=4:=λh=>by rw [hres,if_neg h]
 have good:((∀ x ∈ lv,q0I x)/\(∀ x ∈ uv,q0I x)/\UDg n us uv)->res=0:=λh=>by rw [hres,if_pos h]
 subst hLS;have hUc:=hUc h8 h7;clear hres;refine wk1 (x5 w1 e1 e2 e3 e4) ?_;refine q4o [1,3,4] Lk ?_;refine q0B (λi=>i<=lv.length/\∀ x ∈ lv.take i,q0I x) [1,3] [1] Lk Lk (λi:Nat=>[(4,iv i)]) (λ_=>[]) (λi=>lv.length-i) 0 ⟨zF _,by simp⟩ ?_ ?_
 ·refine LeM [] rfl rfl ?_;refine Zz ?_
  rfl
 ·rintro i ⟨hi,hf1⟩
  by_cases hil:i < lv.length
  ·obtain ⟨x,hx⟩:∃ x,lv[i]?=some x:=⟨_,zA hil⟩;have hmx:=zD hx;have cF:=q14 (hul x hmx)
   by_cases hfx:q0I x
   case neg =>
    rw [decide_eq_false hfx] at cF;refine wk1 hx ?_;exact (bad λh=>hfx (h.1 x hmx)).symm
   rw [decide_eq_true hfx] at cF;refine wk1 hx ?_;refine ⟨i+1,⟨by omega,?_⟩,by omega,?_⟩
   ·rw [q1p hx];intro y hy
    rcases zO.1 hy with hy | hy
    ·exact hf1 y hy
    ·simp at hy; subst hy; exact hfx
   ·refine LeM [] rfl rfl ?_;refine Zz ?_
    rfl
  ·obtain rfl:i=lv.length:=by omega
   rw [zQ] at hf1;refine wk ?_;refine q0B (λi=>i<=uv.length/\∀ x ∈ uv.take i,q0I x) [1,3] [1] Lk Lk (λi:Nat=>[(5,iv i)]) (λ_=>[]) (λi=>uv.length-i) 0 ⟨zF _,by simp⟩ ?_ ?_
   ·refine LeM [] rfl rfl ?_;refine Zz ?_
    rfl
   ·rintro i ⟨hi,hf2⟩
    by_cases hil:i < uv.length
    ·obtain ⟨x,hx⟩:∃ x,uv[i]?=some x:=⟨_,zA hil⟩;have hmx:=zD hx;have cF:=q14 (huu x hmx)
     by_cases hfx:q0I x
     case neg =>
      rw [decide_eq_false hfx] at cF;refine wk1 hx ?_;exact (bad λh=>hfx (h.2.1 x hmx)).symm
     rw [decide_eq_true hfx] at cF;refine wk1 hx ?_;refine ⟨i+1,⟨by omega,?_⟩,by omega,?_⟩
     ·rw [q1p hx];intro y hy
      rcases zO.1 hy with hy | hy
      ·exact hf2 y hy
      ·simp at hy; subst hy; exact hfx
     ·refine LeM [] rfl rfl ?_;refine Zz ?_
      rfl
    ·obtain rfl:i=uv.length:=by omega
     rw [zQ] at hf2;refine wk ?_;refine q0B (λj=>j<=n/\∀ j',j' < j->∀ (a x:Nat),us[j'+1]?=some ((a+1:Nat):Int)->uv[a]?=some x->ofZ x≠0) [1,3] [1] Lk Lk (λi:Nat=>[(6,iv i)]) (λ_=>[]) (λi=>n-i) 0 ⟨zF _,by omega⟩ ?_ ?_
     ·refine LeM [] rfl rfl ?_;refine Zz ?_
      rfl
     ·rintro j ⟨hj,hd⟩
      by_cases hjl:j < n
      ·obtain ⟨b,x,hbk,hx⟩:=hUc j hjl;have hm:=zD hx;have hbl:=(zB.1 hx).1;have wj:(j:Int)+1=((j+1:Nat):Int):=rfl;have wb:((b+1:Nat):Int)-1=(b:Int):=by omega
       have wc:IntKind.i64.wrap ((b+1:Nat):Int)=((b+1:Nat):Int):=i64_in Oq Oq;have cK:=@q4Z x
       by_cases hz:ofZ x=0
       ·rw [decide_eq_true ((qgE (huu x hm)).2 ((qaH (hf2 x hm)).1 hz))] at cK;refine wk1 (x5 wj hbk wb wc hx) ?_;exact (bad λh=>h.2.2 j hjl b x hbk hx hz).symm
       ·rw [decide_eq_false λh=>hz ((qaH (hf2 x hm)).2 ((qgE (huu x hm)).1 h))] at cK;refine wk1 (x5 wj hbk wb wc hx) ?_;refine ⟨j+1,⟨by omega,λj' hj' a' x' ha' hx'=>?_⟩,by omega,?_⟩
        ·by_cases hjj:j' < j
         ·exact hd j' hjj a' x' ha' hx'
         ·obtain rfl:j'=j:=by omega
          have e:a'=b:=by have:=zI.inj (ha'.symm.trans hbk); omega
          subst e;have e:=zI.inj (hx'.symm.trans hx);subst e;exact hz
        ·refine LeM [] rfl rfl ?_;exact Zy
      ·obtain rfl:j=n:=by omega
       refine wk ?_;exact (good ⟨hf1,hf2,hd⟩).symm
def q2k (n r len:Nat):Bk:=⟨193,some 5,[.ag [.ow r none 0 len,.ow 6000 none 0 n,.ow 6001 none 0 n,.ow 6002 none 0 n,.ow 6003 none 0 n]],false⟩
def qec {n r len:Nat}:q2k n r len=⟨193,some 5,[.ag [.ow r none 0 len,.ow 6000 none 0 n,.ow 6001 none 0 n,.ow 6002 none 0 n,.ow 6003 none 0 n]],false⟩:=rfl
attribute [go_sem ↓] qec
abbrev rwB (rows:List Nat):Bk:=⟨3,none,rows.map λz:Nat=>iv z,false⟩
def stT (n:Nat) (S:LuS):Hp:=q1W 25 33 none 6000 10000 n (rU n S.l) (q1W 69 4 none 6001 20000 n (rB n S.iL) (q1W 25 33 none 6002 30000 n (rU n S.u) (q1W 69 4 none 6003 40000 n (rB n S.iU) h0)))
abbrev q0v (n:Nat) (S:LuS) (r:Nat):Hp:=q0Q (q0Q (stT n S) 5000 (q2k n r S.rows.length)) r (rwB S.rows)
section
variable {n:Nat} {S S':LuS} {rows0:List Nat}
def qb4 {g:Nat->Nat->Nat} {r c v:Nat}:q8S (rU n g) r ((rU n g r).set c (.vl (.int .u64 (v:Nat))))=rU n (q3f g r c v):=by
 funext j
 unfold q8S
 split
 ·rename_i h; subst h;unfold rU;rw [qjA];refine zL λy _=>?_;unfold q3f;simp
 ·rename_i h;refine zL λy _=>?_;unfold q3f;rw [if_neg λq=>h q.1]
def qmX {g:Nat->Nat->Bool} {r c:Nat} {v:Bool}:q8S (rB n g) r ((rB n g r).set c (.vl (.bool v)))=rB n (qcX g r c v):=by
 funext j
 unfold q8S
 split
 ·rename_i h; subst h
  apply yH
  intro i;unfold rB qcX;rw [yB];simp only [z8,yI,zH]
  by_cases hi:i < n
  ·rw [zC hi]
   by_cases hc:c=i
   ·subst hc; simp [hi]
   ·simp [hc,Ne.symm hc]
  ·rw [z9 (by simpa using hi)]
   by_cases hc:c=i <;> simp [hc]
   omega
 ·rename_i h;refine zL λy _=>?_;unfold qcX;rw [if_neg λq=>h q.1]
variable {r c:Nat}
def stT_l {v:Nat} (hn:n<=100) (hr:r < n):q0Q (stT n S) (r+10000) ⟨33,none,(rU n S.l r).set c (.vl (.int .u64 (v:Nat))),false⟩=stT n { S with l:=q3f S.l r c v }:=by
 unfold stT;rw [q3C (by omega) hr (by simp),qb4]
def qu0 {v:Bool} (hn:n<=100) (hr:r < n):q0Q (stT n S) (r+20000) ⟨4,none,(rB n S.iL r).set c (.vl (.bool v)),false⟩=stT n { S with iL:=qcX S.iL r c v }:=by
 unfold stT;rw [q21 (by omega) (by omega),q3C (by omega) hr (by simp),qmX]
def quY {v:Nat} (hn:n<=100) (hr:r < n):q0Q (stT n S) (r+30000) ⟨33,none,(rU n S.u r).set c (.vl (.int .u64 (v:Nat))),false⟩=stT n { S with u:=q3f S.u r c v }:=by
 unfold stT;rw [q21 (by omega) (by omega),q21 (by omega) (by omega),q3C (by omega) hr (by simp),qb4]
def qmI {v:Bool} (hn:n<=100) (hr:r < n):q0Q (stT n S) (r+40000) ⟨4,none,(rB n S.iU r).set c (.vl (.bool v)),false⟩=stT n { S with iU:=qcX S.iU r c v }:=by
 unfold stT;rw [q21 (by omega) (by omega),q21 (by omega) (by omega),q21 (by omega) (by omega),q3C (by omega) hr (by simp),qmX]
def q3c {h:Hp} {i j:Nat} {b c:Bk} (hne:i≠j):q0Q (q0Q h i b) j c=q0Q (q0Q h j c) i b:=(q5v hne).symm
def qbU {i r:Nat} {b:Bk} (hi:6000 < i) (hr:r < 6000):q0Q (q0v n S r) i b=q0Q (q0Q (q0Q (stT n S) i b) 5000 (q2k n r S.rows.length)) r (rwB S.rows):=by
 unfold q0v;rw [q3c (i:=r) (by omega),q3c (i:=5000) (by omega)]
def q6t {g:Nat->Nat->Nat} {j:Nat}:ClL (rU n g j):=λx hx=>by
 obtain ⟨_,_,rfl⟩:=zM.1 hx; trivial
def qdn {g:Nat->Nat->Bool} {j:Nat}:ClL (rB n g j):=λx hx=>by
 obtain ⟨_,_,rfl⟩:=zM.1 hx; trivial
def q8e (hn:n<=100):BOk (stT n S) win:=by
 unfold stT;have w:∀ R j:Nat,5000<=R->R<=40000->j < n->win (j+R):=λR j h1 h2 h3=>⟨by omega,by omega⟩;exact q1V (q1V (q1V (q1V BOk.h0 (λ_ _=>qdn) Oq ⟨⟨by omega,by omega⟩,λj hj=>w _ j Oq Oq hj⟩) (λ_ _=>q6t) Oq ⟨⟨by omega,by omega⟩,λj hj=>w _ j Oq Oq hj⟩) (λ_ _=>qdn) Oq ⟨⟨by omega,by omega⟩,λj hj=>w _ j Oq Oq hj⟩) (λ_ _=>q6t) Oq ⟨⟨by omega,by omega⟩,λj hj=>w _ j Oq Oq hj⟩
def qoe (hn:n<=100):stT n S 6000≠none/\stT n S 6001≠none/\stT n S 6002≠none/\stT n S 6003≠none:=by
 unfold stT;refine ⟨?_,?_,?_,?_⟩
 ·rw [q1R]; simp
 ·rw [q0O (by omega) (by omega),q1R]; simp
 ·rw [q0O (by omega) (by omega),q0O (by omega) (by omega),q1R]; simp
 ·rw [q0O (by omega) (by omega),q0O (by omega) (by omega),q0O (by omega) (by omega),q1R]; simp
def clRw {l:List Nat}:ClL (l.map λz:Nat=>iv z):=λx hx=>by
 obtain ⟨_,_,rfl⟩:=zM.1 hx; trivial
def clIds {l:List PV} {p:Nat->Prop} (h:ClL l):IdL p l:=IdL.of λx hx=>qag (h x hx)
def qoh {H:Hp} {r len:Nat} (h:H 6000≠none/\H 6001≠none/\H 6002≠none/\H 6003≠none) (hr:H r≠none):IdL (λj=>H j≠none) (q2k n r len).xs:=by
 unfold q2k;unfold IdL IdL IdP;unfold IdL IdL IdL IdL IdL IdL;unfold IdP;exact ⟨⟨hr,h.1,h.2.1,h.2.2.1,h.2.2.2,trivial⟩,trivial⟩
def q1S {H:Hp} (h:BOk H win):WfH H:=⟨λi b hb=>⟨(h.b i b hb).2.1,IdL_mono (λj hj=>by
 obtain ⟨c,hc⟩:=zK.1 hj;exact ⟨(h.b j c hc).1,hj⟩) _ (h.b i b hb).2.2⟩⟩
def q2P {h:Hp} {i j:Nat} {b:Bk} (hj:h j≠none):q0Q h i b j≠none:=by
 unfold q0Q
 split
 ·exact uP _
 ·exact hj
def qnq {H:Hp} {p:Nat->Prop} {i:Nat} {b:Bk} (hB:BOk H p) (hp:p i) (hs:b.st=false) (hx:IdL (λj=>q0Q H i b j≠none) b.xs):BOk (q0Q H i b) p:=⟨λj c hc=>by
 unfold q0Q at hc
 split at hc
 ·rename_i hj; subst hj; cases hc; exact ⟨hp,hs,hx⟩
 ·obtain ⟨h1,h2,h3⟩:=hB.b j c hc;exact ⟨h1,h2,IdL_mono (λk hk=>q2P hk) _ h3⟩⟩
def q0a {r:Nat} (hn:n<=100) (h1:5000 < r) (h2:r < 6000):BOk (q0v n S r) win:=by
 have h:=qoe (S:=S) hn;unfold q0v;rw [q3c (by omega)];refine qnq (qnq (q8e hn) ⟨by omega,by omega⟩ rfl (clIds clRw)) ⟨by omega,by omega⟩ rfl (qoh ?_ ?_)
 ·exact ⟨q2P (q2P h.1),q2P (q2P h.2.1),q2P (q2P h.2.2.1),q2P (q2P h.2.2.2)⟩
 ·refine q2P ?_; rw [q0L]; exact uP _
def qlz:SSh (stT n S) (stT n S'):=by
 unfold stT;exact q5X (q5X (q5X (q5X SSh_0 λj=>by simp) λj=>by simp) λj=>by simp) λj=>by simp
def q6b {i:Nat} (hi:i < 6000):stT n S i=none:=by
 unfold stT;rw [q0O (by omega) (by omega),q0O (by omega) (by omega),q0O (by omega) (by omega),q0O (by omega) (by omega)]
 rfl
def qof {r i:Nat} (h:q0v n S r i=none):i≠r/\i≠5000/\stT n S i=none:=by
 unfold q0v q0Q at h
 split at h
 ·cases h
 ·split at h
  ·cases h
  ·exact ⟨by assumption,by assumption,h⟩
def quZ {i:Nat} (h:stT n S i=none):stT n S' i=none:=by
 cases h2:stT n S' i with
 | none=>rfl
 | some b =>
  obtain ⟨b',h3,_⟩:=qlz (S:=S') (S':=S) i b h2;rw [h] at h3; cases h3
def q5d {r r':Nat} (h1:5000 < r) (h2:5000 < r') (h3:r < 6000) (h4:r' < 6000):SSh (q8V (q0v n S r) r) (q0v n S' r'):=λi b hb=>by
 unfold q8V at hb
 split at hb
 ·cases hb
 ·rename_i hi;unfold q0v at hb ⊢;rw [q0A hi] at hb
  by_cases h5:i=r'
  ·subst h5;rw [q0A (by omega),q6b h4] at hb;cases hb
  ·rw [q0A h5];exact (qzU (b:=q2k n r S.rows.length) (b':=q2k n r' S'.rows.length) qlz rfl rfl rfl rfl) i b hb
def qmH (hn:n<=100):stT n S 6000=some ⟨25,none,(List.range n).map λj=>.ow (j+10000) none 0 n,false⟩:=by
 unfold stT;rw [q1R];simp
def qmD {j:Nat} (hn:n<=100) (hj:j < n):stT n S (j+10000)=some ⟨33,none,rU n S.l j,false⟩:=by
 unfold stT;rw [q1H (by omega) hj]
def qu4 {f:Nat->Nat} (hn:n<=100) (hf:∀ j,f j=n):q6X (stT n S) n 10000 none f=some ((List.range n).map λj=>.sl none (rU n S.l j),(List.range n).map (·+10000)):=by
 unfold stT;rw [q6H (by omega),cO,if_pos λj _=>q6t]
 congr 2
 refine zL λj _=>?_;rw [hf j]
 congr 1
 exact q9m
def qmG (hn:n<=100):stT n S 6001=some ⟨69,none,(List.range n).map λj=>.ow (j+20000) none 0 n,false⟩:=by
 unfold stT;rw [q0O (by omega) (by omega),q1R];simp
def qmC {j:Nat} (hn:n<=100) (hj:j < n):stT n S (j+20000)=some ⟨4,none,rB n S.iL j,false⟩:=by
 unfold stT;rw [q0O (by omega) (by omega),q1H (by omega) hj]
def qu3 {f:Nat->Nat} (hn:n<=100) (hf:∀ j,f j=n):q6X (stT n S) n 20000 none f=some ((List.range n).map λj=>.sl none (rB n S.iL j),(List.range n).map (·+20000)):=by
 unfold stT;rw [q4u (by omega) (by omega),q6H (by omega),cO,if_pos λj _=>qdn]
 congr 2
 refine zL λj _=>?_;rw [hf j]
 congr 1
 exact q9m
def qmF (hn:n<=100):stT n S 6002=some ⟨25,none,(List.range n).map λj=>.ow (j+30000) none 0 n,false⟩:=by
 unfold stT;rw [q0O (by omega) (by omega),q0O (by omega) (by omega),q1R];simp
def qmB {j:Nat} (hn:n<=100) (hj:j < n):stT n S (j+30000)=some ⟨33,none,rU n S.u j,false⟩:=by
 unfold stT;rw [q0O (by omega) (by omega),q0O (by omega) (by omega),q1H (by omega) hj]
def qu2 {f:Nat->Nat} (hn:n<=100) (hf:∀ j,f j=n):q6X (stT n S) n 30000 none f=some ((List.range n).map λj=>.sl none (rU n S.u j),(List.range n).map (·+30000)):=by
 unfold stT;rw [q4u (by omega) (by omega),q4u (by omega) (by omega),q6H (by omega),cO,if_pos λj _=>q6t]
 congr 2
 refine zL λj _=>?_;rw [hf j]
 congr 1
 exact q9m
def qmE (hn:n<=100):stT n S 6003=some ⟨69,none,(List.range n).map λj=>.ow (j+40000) none 0 n,false⟩:=by
 unfold stT;rw [q0O (by omega) (by omega),q0O (by omega) (by omega),q0O (by omega) (by omega),q1R];simp
def qmA {j:Nat} (hn:n<=100) (hj:j < n):stT n S (j+40000)=some ⟨4,none,rB n S.iU j,false⟩:=by
 unfold stT;rw [q0O (by omega) (by omega),q0O (by omega) (by omega),q0O (by omega) (by omega),q1H (by omega) hj]
def qu1 {f:Nat->Nat} (hn:n<=100) (hf:∀ j,f j=n):q6X (stT n S) n 40000 none f=some ((List.range n).map λj=>.sl none (rB n S.iU j),(List.range n).map (·+40000)):=by
 unfold stT;rw [q4u (by omega) (by omega),q4u (by omega) (by omega),q4u (by omega) (by omega),q6H (by omega),cO,if_pos λj _=>qdn]
 congr 2
 refine zL λj _=>?_;rw [hf j]
 congr 1
 exact q9m
def qod (hn:n<=100):q6X (stT n S) n 10000 none (λ_=>n)=some ((List.range n).map λj=>.sl none (rU n S.l j),(List.range n).map (·+10000)):=qu4 hn λ_=>rfl
def qoc (hn:n<=100):q6X (stT n S) n 20000 none (λ_=>n)=some ((List.range n).map λj=>.sl none (rB n S.iL j),(List.range n).map (·+20000)):=qu3 hn λ_=>rfl
def qob (hn:n<=100):q6X (stT n S) n 30000 none (λ_=>n)=some ((List.range n).map λj=>.sl none (rU n S.u j),(List.range n).map (·+30000)):=qu2 hn λ_=>rfl
def qoa (hn:n<=100):q6X (stT n S) n 40000 none (λ_=>n)=some ((List.range n).map λj=>.sl none (rB n S.iU j),(List.range n).map (·+40000)):=qu1 hn λ_=>rfl
attribute [go_sem ↓] q6b qmH qmG qmF qmE qmD qmC qmB qmA qod qoc qob qoa
variable {J:Nat->Prop} {s:Nat->PV} {h:Hp} {xs kv:List (Nat × PV)} {bs:List (Nat × Bk)} {kb:List (Nat × Option Bk)}
def qbS {i:Nat} {b:Bk} (hb:stT n S i=some b):6000<=i:=by
 rcases xO i 6000 with h | h
 ·rw [q6b h] at hb; cases hb
 ·exact h
def qbT {o r:Nat} (hn:n<=100) (h5:5000 < r) (h6:r < 6000) (hJ:∀ i,J i->i≠r) (hq:∀ i,6000<=i->win i->h i=stT n S i) (h0:h 5000=some (q2k n o S.rows.length)) (h1:h o=some (rwB S.rows)) (ho:o < 5000\/(5000 < o/\o < 6000/\o≠r)) (hl:nmW o o (bs.map (·.1) ++ kb.map (·.1)))
  (hh:q5E (tnU r o) h (q0y (q0v n S r) (hpM bs kb)) s xs/\q5E (tnU r o) h (q0y (q0v n S r) (hpM bs kb)) s kv/\qdf (tnU r o) h (q0y (q0v n S r) (hpM bs kb)) bs/\q9b (tnU r o) h (q0y (q0v n S r) (hpM bs kb)) kb):Le J s h (stM xs kv) (q0y (q0v n S r) (hpM bs kb)):=by
 have tr:tnU r o r=some o:=if_pos rfl;have tI:∀ i,i≠r->tnU r o i=some i:=λi a=>if_neg a;have hl:=λi hi=>q4h hl i hi;have hex:∀ i,win i->∀ b,q0v n S r i=some b->∃ b,q0y (q0v n S r) (hpM bs kb) i=some b:=λi hi b hb=>⟨b,by rw [q0W hi]; exact hb⟩;refine LeT (tnU r o) (λi q=>tI i (hJ i q)) (λi hi hw=>?_) (λi b hw hb=>?_) (λi j k' hi hj ti tj=>?_) hh
 ·have:=(hl i hi).1; unfold win at hw; omega
 ·have hb2:=hb;unfold q0v q0Q at hb
  split at hb
  ·rename_i e; subst e; cases hb;unfold LeB;rw [tr];exact ⟨_,h1,rfl,rfl,⟨rfl,rfl⟩,q0F rfl clRw⟩
  ·rename_i e
   split at hb
   ·rename_i e2; subst e2; cases hb;unfold LeB;rw [tI _ e];refine ⟨_,h0,rfl,rfl,⟨rfl,rfl⟩,?_⟩;unfold q2k;simp only;rw [qax];obtain ⟨q1,q2,q3,q4⟩:=qoe (S:=S) hn;have hx:∀ i,6000<=i->win i->stT n S i≠none->∃ b,q0y (q0v n S r) (hpM bs kb) i=some b:=λi hi hw hq=>by
     obtain ⟨b,hb⟩:=zK.1 hq;exact hex i hw b (by unfold q0v; rw [q0A (by omega),q0A (by omega)]; exact hb)
    rw [qhs,q2y,q2y,q2y,q2y,q2y,q31,q31,q31,q31,q31,tr,tI _ (by omega),tI _ (by omega),tI _ (by omega),tI _ (by omega)];exact ⟨⟨rfl,hex r ⟨by omega,by omega⟩ _ q0L,rfl,rfl,rfl⟩,⟨rfl,hx _ Oq ⟨by omega,by omega⟩ q1,rfl,rfl,rfl⟩,⟨rfl,hx _ Oq ⟨by omega,by omega⟩ q2,rfl,rfl,rfl⟩,⟨rfl,hx _ Oq ⟨by omega,by omega⟩ q3,rfl,rfl,rfl⟩,⟨rfl,hx _ Oq ⟨by omega,by omega⟩ q4,rfl,rfl,rfl⟩,trivial⟩
   ·obtain ⟨q1,q2,q3⟩:=(q8e hn).b i b hb;have hi6:=qbS hb;unfold LeB;rw [tI i e];refine ⟨b,(hq i hi6 hw).trans hb,rfl,rfl,⟨q2,q2⟩,LeL_self (λj hj=>?_) _ q3⟩;obtain ⟨c,hc⟩:=zK.1 hj;have hj6:=qbS hc;exact ⟨tI j (by omega),hex j ((q8e hn).b j c hc).1 c (by unfold q0v; rw [q0A (by omega),q0A (by omega)]; exact hc)⟩
 ·have a:∀ i,(win i/\q0v n S r i≠none\/i ∈ bs.map (·.1) ++ kb.map (·.1))->i≠o:=λi hi=>by
   rcases hi with ⟨q,hi⟩ | hi
   ·rintro rfl;unfold win at q;refine hi ?_;unfold q0v;rw [q0A (by omega),q0A (by omega),q6b (by omega)]
   ·exact (hl i hi).2.1
  have a1:=a i hi;have a2:=a j hj;unfold tnU at ti tj
  split at ti <;> split at tj <;> cases ti <;> cases tj <;> first | omega | rfl | exact (a1 rfl).elim | exact (a2 rfl).elim
end
end Go.Proofs.YtpbaikoblfcmdaaGreatDoor
namespace Go.E
open Go Go.RowKit
def hx_of {hin hout:Hp} {a:Nat} (hB:BOk hin win) (hs:SSh (q8V hin a) hout) (ha:hout a=none):∀ i b,hin i=some b->win i/\b.st=false/\IdL win b.xs/\(hout i=none\/∃ b',hout i=some b'/\b'.k=b.k/\b.xs.length<=b'.xs.length):=λi b hb=>by
 obtain ⟨h1,h2,h3⟩:=hB.b i b hb;refine ⟨h1,h2,IdL_mono (λj hj=>?_) _ h3,?_⟩
 ·obtain ⟨c,hc⟩:=zK.1 hj;exact (hB.b j c hc).1
 ·by_cases hi:i=a
  ·subst hi; exact .inl ha
  ·obtain ⟨b',q1,_,q2,_,q3⟩:=hs i b (by unfold q8V; rw [if_neg hi]; exact hb);exact .inr ⟨b',q1,q2,by omega⟩
def qs6 {h:Hp}:SSh h (q8U h):=λi b hb=>⟨⟨b.T,b.k,b.xs.map λ_=>.un,false⟩,by unfold q8U; rw [hb,zP],rfl,rfl,rfl,by simp⟩
end Go.E
namespace Go.Proofs.YtpbaikoblfcmdaaGreatDoor
open Go Go.E Go.Sp
def In_z0 {V:Int} (hV:V=0) (D:Nat->Prop) (w:World):In (fV V) D (.agg ⟨[.bool false,.bool false,.slice none 0 0,.int .i64 0]⟩) w:=by
 subst hV;refine (q2d (ρ:=λ_=>none) (h:=h0)).1 ⟨?_,by simp [q0U,q07]⟩;unfold Rd;refine ⟨_,rfl,?_⟩;unfold RdL RdL RdL RdL RdL Rd;rw [q15,show dyE 0=0 from rfl];refine ⟨_,_,rfl,rfl,_,_,rfl,rfl,_,_,rfl,?_,_,_,rfl,rfl,rfl⟩;exact ⟨none,0,0,rfl,U32.nil⟩
def qhq {τ:Nat->Option Nat} {h h':Hp} {V:Int} (hV:V=0):LeV τ h h' (.ag [bv false,bv false,q02,iv 0]) (pV V) :=
 .agv (l:=[.bool false,.bool false,.slice none 0 0,.int .i64 0]) (In_z0 hV)
def qaw {τ:Nat->Option Nat} {h h':Hp} {n:Nat} {P:Nat->PV} {l:List PV} (hl:l.length=n):LeL τ h h' l (rwP n P 0):=⟨by rw [hl,q7X],λi x y _ hy=>by
 unfold rwP at hy;rw [zH] at hy;cases hc:(List.range n)[i]? with
 | none=>rw [hc] at hy; cases hy
 | some c=>rw [hc,zP,if_neg (by omega)] at hy; cases hy; exact .un⟩
def rwG_z {n m:Nat} {g:Nat->Nat} (h:g m=0):rwG n g m=rwG n g (m+1):=by
 unfold rwG;refine zL λy _=>?_
 by_cases h2:y < m
 ·rw [if_pos h2,if_pos (by omega)]
 ·rw [if_neg h2]
  by_cases h3:y=m
  ·subst h3; rw [if_pos (by omega),h]
  ·rw [if_neg (by omega)]
def qvB {n i:Nat} {g:Nat->Nat} (hi:i < n):(rwG n g n)[i]?=some (g i):=by
 unfold rwG;rw [zH,zC hi,zP,if_pos hi]
def qbp {S:LuS} {k:Nat} {z:Nat->Int} {d:Int} {m:Nat} (h:loS S k z d m=none):∀ m',m<=m'->loS S k z d m'=none
 | 0,hc=>by
  obtain rfl:m=0:=by omega
  exact h
 | c+1,hc=>by
  by_cases e:m=c+1
  ·subst e; exact h
  ·rw [loS,qbp h c (by omega)]; rfl
def abZ_0:abZ 0=0:=by
 unfold abZ;rw [(qaH (f:=0) (by unfold q0I; simp)).2 rfl]; rfl
def qma {v:Nat->Nat}:∀ i,0<=mxZ v i
 | 0=>yX _
 | i+1=>by
  have:=qma (v:=v) i;unfold mxZ
  split
  ·unfold abZ; omega
  ·exact this
def mxZ_z {v:Nat->Nat} {i:Nat} (h:v i=0):mxZ v (i+1)=mxZ v i:=by
 have:=qma (v:=v) i;rw [mxZ,h,abZ_0,if_neg (by omega)]
def qmb {v:Nat->Nat}:∀ i,(∀ c,c < i->q0I (v c))->bl (mxZ v i).natAbs<=67600
 | 0,_=>by unfold mxZ; simp [q07]
 | i+1,h=>by
  unfold mxZ
  split
  ·unfold abZ; rw [zN]; exact q13 (h i (by omega))
  ·exact qmb i λc hc=>h c Oq
section
variable {v:Nat->Nat} {S:LuS} {mi:List Int} {num den:Nat} {w:Int}
def qh2:∀ i:Nat,-1<=bsP v S mi num den w i/\bsP v S mi num den w i < i
 | 0=>by unfold bsP; omega
 | i+1=>by
  have:=qh2 i;unfold bsP
  split
  ·omega
  ·split <;> omega
def qh3:∀ i:Nat,0<=bsP v S mi num den w i->(bsP v S mi num den w i).toNat ∉ S.rows/\¬ (v (bsP v S mi num den w i).toNat=0\/v (bsP v S mi num den w i).toNat=9223372036854775808)
 | 0,h=>by unfold bsP at h; omega
 | i+1,h=>by
  unfold bsP at h ⊢
  split
  ·rename_i h1; rw [if_pos h1] at h; exact qh3 i h
  ·rename_i h1;rw [if_neg h1] at h
   split
   ·rename_i h2;rw [zG];exact ⟨λq=>h1 (.inl q),λq=>h1 (.inr (.inl q))⟩
   ·rename_i h2;rw [if_neg h2] at h;exact qh3 i h
end
section
variable {F:Nat->Nat->Option Nat} {S:LuS} {n j k num den:Nat}
def qbH {m:Nat} (h:upS F S j k m=none):∀ m',m<=m'->upS F S j k m'=none
 | 0,hc=>by
  obtain rfl:m=0:=by omega
  exact h
 | c+1,hc=>by
  by_cases e:m=c+1
  ·subst e; exact h
  ·rw [upS,qbH h c (by omega)]; rfl
noncomputable def qx7 (F:Nat->Nat->Option Nat) (mi:List Int) (n:Nat) (S:LuS) (j k num den:Nat):Hp:=if (q6W F mi n S j k num den).1=0 then q0v n (q6W F mi n S j k num den).2 5002 else q8U (q8V (q0v n S 5001) 5001)
def qkv (h:TOk F n n) (hn:n<=100) (hl:q5z S.l) (hu:q5z S.u) (hr:∀ x ∈ S.rows,x < n) (hk:S.rows.length=k) (hkn:k < n) (hj:j < n) (hnum:num<=1000) (hden:den<=1000) :
  ACxt 149 [.pt 5000 0 0,pT n n F,iv j,iv k,iv num,iv den] (q0v n S 5001) (iv (q6W F (tM F n n).2.1 n S j k num den).1) (qx7 F (tM F n n).2.1 n S j k num den):=by
 have hM:=q1e (f:=F) (R:=n) n;have cT:∀ {q:LuS} {i:Nat} {m:Nat},q5z q.l->q5z q.u->i < n->m<=n->_:=λ{q i m} h1 h2 h3 h4=>qj1 (S:=q) (i:=i) (j:=j) (k:=k) (m:=m) h hn h1 h2 h3 hj hkn h4;have hF:∀ i,i < n->q0I ((F j i).getD 0):=λi hi=>(h.fin hj hi).1;have hnn:n*n<=100*100:=uM hn hn;have hpl:pT n n F=q2F n n (tM F n n).1 (tM F n n).2.1 (tM F n n).2.2:=rfl;simp only [hpl] at cT;rw [hpl];clear hpl;unfold q2F at cT ⊢;have hT:=Hid.mk @cT;clear cT;generalize (tM F n n).1=ms at *;generalize (tM F n n).2.1=mi at *;generalize (tM F n n).2.2=mv at *;have hcO:∀ e r,q6W F mi n S j k num den=(e,r)->qx7 F mi n S j k num den=if e=0 then q0v n r 5002 else q8U (q8V (q0v n S 5001) 5001):=λe r hq=>by unfold qx7; rw [hq]
 obtain ⟨⟨e,r⟩,hres⟩:∃ q,q=q6W F mi n S j k num den:=⟨_,rfl⟩;rw [hcO e r hres.symm,<- hres];clear hcO;have hno:(if e=0 then q0v n r 5002 else q8U (q8V (q0v n S 5001) 5001):Hp) 5001=none:=by
  split
  ·unfold q0v; rw [q0A (by omega),q0A (by omega),q6b (by omega)]
  ·unfold q8U q8V; rw [if_pos rfl]; rfl
 have hno2:q0v n S 5001 5002=none:=by unfold q0v; rw [q0A (by omega),q0A (by omega),q6b (by omega)]
 refine actx qnY Tryz.func149 rfl Tryz.ntmps149 (by kernel_rfl) ?_ ?_ ?_ ?_
 ·refine hx_of (a:=5001) (q0a (r:=5001) hn Oq Oq) ?_ hno
  split
  ·exact q5d Oq Oq Oq Oq
  ·exact qs6
 ·intro i b hb
  split at hb
  ·exact ((q0a hn Oq Oq).b i b hb).1
  ·unfold q8U q8V at hb;obtain ⟨c,hc,_⟩:=yV.1 hb
   split at hc
   ·cases hc
   ·exact ((q0a hn Oq Oq).b i c hc).1
 ·refine IdL.of λx hx=>?_;simp at hx
  rcases hx with rfl | rfl | rfl | rfl | rfl | rfl <;> unfold IdP
  ·exact ⟨by omega,by omega⟩
  ·unfold IdL IdL IdL IdL IdL IdL;unfold IdP;exact ⟨trivial,trivial,trivial,trivial,trivial,trivial⟩
  all_goals trivial
 simp only;have hJ:∀ i,(q0v n S 5001 i≠none/\(if e=0 then q0v n r 5002 else q8U (q8V (q0v n S 5001) 5001):Hp) i≠none)->i≠5002:=λi hi=>by rintro rfl; exact hi.1 hno2
 have hbad:∀ (hw:Hp) (h:Hp) (l:List PV) (v:Value),Wn h hw->SSh (q8V (q0v n S 5001) 5001) hw->mkR l=.vl v->∀ J,Le J (λ_=>mkR l) h (λ_=>.vl v) (q8U (q8V (q0v n S 5001) 5001)):=λhw h l v h1 h2 h3 J=>LeUnk h1 (λi b hb=>by
  unfold q8V at hb
  split at hb
  ·cases hb
  ·exact ((q0a hn Oq Oq).b i b hb).1) h2 h3
 generalize hHo:(if e=0 then q0v n r 5002 else q8U (q8V (q0v n S 5001) 5001):Hp)=Ho at *;have hHe:e≠0->Ho=q8U (q8V (q0v n S 5001) 5001):=λh=>by rw [<- hHo,if_neg h]
 have hH0:e=0->Ho=q0v n r 5002:=λh=>by rw [<- hHo,if_pos h]
 clear hHo hno;unfold q6W at hres;refine wk ?_;refine q0P (λq:Nat × LuS=>q.1<=k/\upS F S j k q.1=some q.2/\q5z q.2.l/\q5z q.2.u/\q.2.rows=S.rows) [0,2,3,4,5,7,13] [7] Lk Lk (λq=>[(14,iv q.1)]) (λ_=>[]) (λq=>q0v n q.2 5001) (λq=>k-q.1) (0,S) ⟨zF _,rfl,hl,hu,rfl⟩ ?_ ?_
 ·refine LeW [] rfl rfl ?_ ?_ (by simp [q0j,q0b,win]) ?_
  ·exact Ow
  ·exact q1S (q0a hn Oq Oq)
  ·try refine Zz ?_
   rfl
 ·rintro ⟨m,q⟩ ⟨hm,hq,ql,qu,qr⟩;simp only at hm hq ql qu qr ⊢
  by_cases hlt:m < k
  ·obtain ⟨i,hi⟩:∃ i,q.rows[m]?=some i:=⟨_,zA (by rw [qr]; omega)⟩;have hql:q.rows.length=k:=by rw [qr]; exact hk
   have hin:=hr i (by rw [<- qr]; exact zD hi);unfold q0v q2k;refine wk ?_;have cS:=hT.o (m:=m) ql qu hin Oq;have N1:=q1T (V:=luZ F q.l q.u i j k m);have rm:(List.range n)[m]?=some m:=zC Oq;have rk:(List.range n)[k]?=some k:=zC hkn;have cR:=@q46 (luZ F q.l q.u i j k m);have cG:=q4I (V:=luZ F q.l q.u i j k m);obtain ⟨z,hz⟩:∃ z,z=luZ F q.l q.u i j k m:=⟨_,rfl⟩;have hvl:fR 0 z < 18446744073709551616:=q4E;have hqs:upS F S j k (m+1)=if q0I (fR 0 z) then some { q with u:=q3f q.u m k (fR 0 z),iU:=qcX q.iU m k (decide (z≠0)) } else none:=by rw [upS,hq,yM,show S.rows.getD m 0=i by rw [<- qr]; exact getD_some hi,<- hz]
   rw [<- hz] at cS N1 cR cG;have cF:=q14 hvl;generalize fR 0 z=v at *;have hset:((List.range n).map λc=>PV.vl (.int .u64 (q.u m c:Nat))).set k (uv v)=(rU n q.u m).set k (uv v):=rfl;have hget:((rU n q.u m).set k (uv (v:Nat)))[k]?=some (uv (v:Nat)):=yF (by simp; omega);have qz:(z.sign != 0)=decide (z≠0):=by
    by_cases h0:z=0
    ·subst h0; rfl
    ·rw [decide_eq_true h0]; simpa using h0
   have eq1:∀ b,q0Q (q0Q (q0v n q 5001) (m+30000) ⟨33,none,(rU n q.u m).set k (uv (v:Nat)),false⟩) (m+40000) ⟨4,none,(rB n q.iU m).set k (bv b),false⟩=q0v n { q with u:=q3f q.u m k v,iU:=qcX q.iU m k b } 5001:=λb=>by
    rw [qbU (by omega) (by omega),q3c (i:=5001) (by omega),q3c (i:=5000) (by omega),quY hn (by omega),qmI (S:={ q with u:=q3f q.u m k v }) hn (by omega)]
   refine A_sd [(2,15),(3,15),(7,15),(10,15),(14,15)] q5B (by kernel_rfl) λK hK=>?_;refine Zz3 hi rm rk ?_;refine q4K cS N1 ?_
   try refine Zz ?_
   refine hK _ _ ?_; clear hK K
   by_cases hf:q0I v
   ·rw [decide_eq_true hf] at cF;rw [if_pos hf] at hqs;refine wk1 (x5 hi rm rk qz hget) ?_;refine ⟨(m+1,{ q with u:=q3f q.u m k v,iU:=qcX q.iU m k (decide (z≠0)) }),⟨by simp only; omega,hqs,ql,λx y=>?_,qr⟩,by simp only; omega,?_⟩
    ·simp only [q3f]
     split
     ·exact ⟨hf,hvl⟩
     ·exact qu x y
    ·simp only;refine LeW [] rfl rfl ?_ ?_ (by simp [q0j,q0b,win]) ?_
     ·refine q8J (q4S (q4S (qzL Oq (qzL Oq q3U)))) (eq1 _)
     ·exact q1S (q0a hn Oq Oq)
     ·try refine Zz ?_
      omega
   ·rw [decide_eq_false hf] at cF;rw [if_neg hf] at hqs;rw [qbH hqs k (by omega)] at hres;cases hres;rw [hHe (by decide)];refine wk1 (x5 hi rm rk qz hget) ?_;refine (rtM (rs:=[.tmp 12]) rfl rfl Lq ?_ (.inl rfl));exact hbad _ _ _ _ (q8J (q4S (q4S (qzL Oq (qzL Oq q3U)))) (eq1 _)) (q5d Oq Oq Oq Oq) rfl _
  ·obtain rfl:k=m:=by omega
   rw [hq] at hres;simp only at hres;unfold colG at hres;clear hm hq hlt;have hql:q.rows.length=k:=by rw [qr]; exact hk
   have hRl:=λi=>q7Y (n:=n) (g:=rsV F q j k) (m:=i);have hsl:=λi=>q7X (n:=n) (g:=λc=>if c ∈ q.rows then .un else pV (rsZ F q j k c)) (m:=i);have hVu:∀ c,rsV F q j k c=if c ∈ q.rows then 0 else fR 0 (rsZ F q j k c):=λc=>rfl
   have hvl:∀ c,rsV F q j k c < 18446744073709551616:=λc=>by rw [hVu]; split <;> first | omega | exact q4E
   have hzE:∀ c,rsZ F q j k c=luZ F q.l q.u c j k k:=λc=>rfl;have hsP:∀ c,c ∉ q.rows->(if c ∈ q.rows then PV.un else pV (rsZ F q j k c))=pV (rsZ F q j k c):=λc hc=>if_neg hc;have hsU:∀ c,c ∈ q.rows->(if c ∈ q.rows then PV.un else pV (rsZ F q j k c))=.un:=λc hc=>if_pos hc;have hsC:∀ c,Cld (if c ∈ q.rows then PV.un else pV (rsZ F q j k c)):=λc=>by split <;> trivial
   generalize hVg:rsV F q j k=V at *;generalize hZg:rsZ F q j k=Z at *;generalize hPg:(λc=>if c ∈ q.rows then PV.un else pV (Z c))=P at *;have hP1:∀ c,c ∉ q.rows->P c=pV (Z c):=λc hc=>by rw [<- hPg]; exact if_neg hc
   have hP2:∀ c,c ∈ q.rows->P c=.un:=λc hc=>by rw [<- hPg]; exact if_pos hc
   have hP3:∀ c,Cld (P c):=λc=>by rw [<- hPg]; exact hsC c
   clear hPg hsP hsU hsC;refine wk ?_;refine q0P (λi=>i<=n/\∀ c,c < i->q0I (V c)) [0,2,3,4,5,7,13,18] [7] Lk Lk (λi:Nat=>[(19,iv i),(16,.ow 1001 (some 4) 0 n),(17,.ow 1002 none 0 n)]) (λi=>[(18,⟨48,some 4,[pV (mxZ V i)],false⟩),(1001,⟨48,some 4,rwP n P i,false⟩),(1002,⟨33,none,(rwG n V i).map λz:Nat=>uv z,false⟩)]) (λ_=>q0v n q 5001) (λi=>n-i) 0 ⟨zF _,by omega⟩ ?_ ?_
   ·refine LeW [(1001,some 82),(1002,some 84)] rfl rfl ?_ ?_ (by simp [q0j,q0b,win]) ?_
    ·exact Ow
    ·exact q1S (q0a hn Oq Oq)
    ·try refine Zz ?_
     exact ⟨rfl,qhq rfl,qaw (by simp),qpH⟩
   ·rintro i ⟨hi,hfin⟩;have hwl:=hRl i;have hsl1:=hsl i
    by_cases hlt:i < n
    ·have cP:=q4d (S:=q) (n:=n) (i:=i) (by rw [hql]; omega)
     by_cases hmem:i ∈ q.rows
     ·rw [decide_eq_true hmem] at cP;have N2:Nz (bv true):=qdL;have hV0:V i=0:=by rw [hVu]; exact if_pos hmem
      refine wk ?_;refine ⟨i+1,⟨by omega,λc hc=>?_⟩,by omega,?_⟩
      ·by_cases h1:c < i
       ·exact hfin c h1
       ·rw [show c=i by omega,hV0]; unfold q0I; simp
      ·rw [<- rwG_z hV0,<- rwP_u (hP2 i hmem),mxZ_z hV0];refine LeW [] rfl rfl ?_ ?_ (by simp [q0j,q0b,win]) ?_
       ·exact Ow
       ·exact q1S (q0a hn Oq Oq)
       ·try refine Zz ?_
        exact ⟨rfl,q0F rfl (q1i hP3)⟩
     ·rw [decide_eq_false hmem] at cP;have N2:Nz (bv false):=qdL;have hVi:V i=fR 0 (Z i):=by rw [hVu]; exact if_neg hmem
      have cS:=hT.o (i:=i) (m:=k) ql qu hlt Oq;rw [<- hzE] at cS;have N3:=q1T (V:=Z i);have cR:=@q46 (Z i);have hPi:=hP1 i hmem;have hs1:((rwP n P i).set i (pV (Z i)))[i]?=some (pV (Z i)):=yF (by rw [hsl1]; omega);have hs2:(((rwG n V i).map λz:Nat=>uv z).set i (uv (V i:Nat)))[i]?=some (uv (V i:Nat)):=yF (by rw [z8,hwl]; omega);have hs3:rwP n P (i+1)=(rwP n P i).set i (pV (Z i)):=by rw [<- qpD,hPi]
      have hs4:((rwG n V (i+1)).map λz:Nat=>uv z)=((rwG n V i).map λz:Nat=>uv z).set i (uv (V i:Nat)):=by rw [<- qpF,List.map_set]
      rw [<- hVi] at cR;have cF:=q14 (hvl i)
      by_cases hf:q0I (V i)
      ·rw [decide_eq_true hf] at cF;have cO:=q0w (hvl i) (q0T hf);have cA:ACt 69 [pV (ofZ (V i))] (pV (abZ (V i))):=q6F;have cL:=q5G (A:=mxZ V i) (B:=abZ (V i));have hfin2:∀ c,c < i+1->q0I (V c):=λc hc=>by
        by_cases h1:c < i
        ·exact hfin c h1
        ·rw [show c=i by omega]; exact hf
       by_cases hlw:mxZ V i < abZ (V i)
       ·rw [decide_eq_true hlw] at cL;have hm:mxZ V (i+1)=abZ (V i):=if_pos hlw;refine wk1 (x4 hs1 hs2 hwl hsl1) ?_;refine ⟨i+1,⟨by omega,hfin2⟩,by omega,?_⟩;rw [hs3,hs4,hm];refine LeW [] rfl rfl ?_ ?_ (by simp [q0j,q0b,win]) ?_
        ·exact Ow
        ·exact q1S (q0a hn Oq Oq)
        ·try refine Zz ?_
         exact ⟨rfl,q0F rfl (q4n (q1i hP3) trivial),q0F rfl (q4n clU trivial)⟩
       ·rw [decide_eq_false hlw] at cL;have hm:mxZ V (i+1)=mxZ V i:=if_neg hlw;refine wk1 (x4 hs1 hs2 hwl hsl1) ?_;refine ⟨i+1,⟨by omega,hfin2⟩,by omega,?_⟩;rw [hs3,hs4,hm];refine LeW [] rfl rfl ?_ ?_ (by simp [q0j,q0b,win]) ?_
        ·exact Ow
        ·exact q1S (q0a hn Oq Oq)
        ·try refine Zz ?_
         exact ⟨rfl,q0F rfl (q4n (q1i hP3) trivial),q0F rfl (q4n clU trivial)⟩
      ·rw [decide_eq_false hf] at cF;rw [if_neg λh=>hf (h i hlt)] at hres;cases hres;rw [hHe (by decide)];refine wk1 (x4 hs1 hs2 hwl hsl1) ?_;refine (rtM (rs:=[.tmp 12]) rfl rfl Lq ?_ (.inl rfl));refine hbad (q0v n q 5001) _ _ _ ?_ (q5d Oq Oq Oq Oq) rfl _;exact Ow
    ·obtain rfl:n=i:=by omega
     rw [if_pos hfin] at hres;have hWb:=qmb n hfin;obtain ⟨W,hW⟩:∃ W,W=mxZ V n:=⟨_,rfl⟩;rw [<- hW] at hWb hres ⊢;have cI1:=q2o (z:=num) Oq Oq (qmp Oq);have cI2:=q2o (z:=den) Oq Oq (qmp Oq);have cM1:=q2m (mulI (z:=num) (W:=W) Oq hWb);have hrg:=λi=>qh2 (v:=V) (S:=q) (mi:=mi) (num:=num) (den:=den) (w:=W) i;have hbs:=λi=>show bsP V q mi num den W (i+1)=if i ∈ q.rows\/(V i=0\/V i=9223372036854775808)\/(den:Int)*abZ (V i) < num*W then bsP V q mi num den W i else if bsP V q mi num den W i < 0\/q5V mi i < q5V mi (bsP V q mi num den W i).toNat then (i:Int) else bsP V q mi num den W i from rfl
     have hbok:=qh3 (v:=V) (S:=q) (mi:=mi) (num:=num) (den:=den) (w:=W) n;have hb0:bsP V q mi num den W 0 = -1:=rfl;generalize bsP V q mi num den W=b at *;have hsl1:=hsl n;have hwl:=hRl n;refine wk ?_;refine q0P (λi=>i<=n) [0,2,3,4,5,7,13,16,17,18] [7,18,1001,1002] Lk Lk (λi:Nat=>[(21,iv i),(20,iv (b i))]) (λ_=>[]) (λ_=>q0v n q 5001) (λi=>n-i) 0 (zF _) ?_ ?_
     ·refine LeW [] rfl rfl ?_ ?_ (by simp [q0j,q0b,win]) ?_
      ·exact Ow
      ·exact q1S (q0a hn Oq Oq)
      ·try refine Zz ?_
       exact ⟨⟨rfl,by rw [hb0]⟩,q0F rfl (q1i hP3)⟩
     ·intro i hi
      by_cases hlt:i < n
      ·have cP:=q4d (S:=q) (n:=n) (i:=i) (by rw [hql]; omega);have hbi:=hrg i;have hsi:=hbs i;have hvg:(rwG n V n)[i]?=some (V i):=qvB hlt;have cZ:=@q4Z (V i);have cO:=q0w (hvl i) (q0T (hfin i hlt));have cA:ACt 69 [pV (ofZ (V i))] (pV (abZ (V i))):=q6F;have hab:bl (abZ (V i)).natAbs<=67600:=by unfold abZ; rw [zN]; exact q13 (hfin i hlt)
       have cM2:=q2m (mulI (z:=den) (W:=abZ (V i)) Oq hab);have cL:=q5G (A:=(den:Int)*abZ (V i)) (B:=(num:Int)*W);have N9:∀ b:Bool,Nz (bv b):=λb=>qdL;have hskip:(i ∈ q.rows\/(V i=0\/V i=9223372036854775808)\/(den:Int)*abZ (V i) < num*W)->b (i+1)=b i:=λh=>by rw [hsi,if_pos h]
       have htake:¬ (i ∈ q.rows\/(V i=0\/V i=9223372036854775808)\/(den:Int)*abZ (V i) < num*W)->b (i+1)=if b i < 0\/q5V mi i < q5V mi (b i).toNat then (i:Int) else b i:=λh=>by rw [hsi,if_neg h]
       clear hsi hbs
       by_cases hmem:i ∈ q.rows
       ·rw [decide_eq_true hmem] at cP;have N2:=N9 true;have hbn:=hskip (.inl hmem);generalize b i=bi at *;refine wk ?_;refine ⟨i+1,by omega,by omega,?_⟩;rw [hbn];refine LeW [] rfl rfl ?_ ?_ (by simp [q0j,q0b,win]) ?_
        ·exact Ow
        ·exact q1S (q0a hn Oq Oq)
        ·try refine Zz ?_
         exact ⟨rfl,q0F rfl (q1i hP3)⟩
       rw [decide_eq_false hmem] at cP;have N2:=N9 false
       by_cases hz:V i=0\/V i=9223372036854775808
       ·rw [decide_eq_true hz] at cZ;have hbn:=hskip (.inr (.inl hz));generalize b i=bi at *;refine wk1 hvg ?_;refine ⟨i+1,by omega,by omega,?_⟩;rw [hbn];refine LeW [] rfl rfl ?_ ?_ (by simp [q0j,q0b,win]) ?_
        ·exact Ow
        ·exact q1S (q0a hn Oq Oq)
        ·try refine Zz ?_
         exact ⟨rfl,q0F rfl (q1i hP3)⟩
       rw [decide_eq_false hz] at cZ
       by_cases hle:(den:Int)*abZ (V i) < num*W
       ·rw [decide_eq_true hle] at cL;have hbn:=hskip (.inr (.inr hle));generalize b i=bi at *;refine wk1 hvg ?_;refine ⟨i+1,by omega,by omega,?_⟩;rw [hbn];refine LeW [] rfl rfl ?_ ?_ (by simp [q0j,q0b,win]) ?_
        ·exact Ow
        ·exact q1S (q0a hn Oq Oq)
        ·try refine Zz ?_
         exact ⟨rfl,q0F rfl (q1i hP3)⟩
       rw [decide_eq_false hle] at cL;have hbn:=htake λh=>h.elim hmem λh=>h.elim hz hle;have cC1:=qcQ (ms:=ms) (mi:=mi) (mv:=mv) (n:=n) (i:=i) Oq;have cC2:=λc:Nat=>qcQ (ms:=ms) (mi:=mi) (mv:=mv) (n:=n) (i:=c) Oq;unfold q2F at cC1 cC2;have hcb:∀ c,q5V mi c<=1000000:=λc=>zU (xH _ _) Oq;generalize b i=bi at *
       by_cases hneg:bi < 0
       ·rw [if_pos (.inl hneg)] at hbn;refine wk1 (x2 hvg hneg) ?_;refine ⟨i+1,by omega,by omega,?_⟩;rw [hbn];refine LeW [] rfl rfl ?_ ?_ (by simp [q0j,q0b,win]) ?_
        ·exact Ow
        ·exact q1S (q0a hn Oq Oq)
        ·try refine Zz ?_
         exact ⟨rfl,q0F rfl (q1i hP3)⟩
       obtain ⟨c,rfl⟩:∃ c:Nat,bi=c:=⟨bi.toNat,by omega⟩;rw [zG] at hbn;have cC3:=cC2 c;have h1:=hcb i;have h2:=hcb c
       by_cases hcnt:q5V mi i < q5V mi c
       ·rw [if_pos (.inr hcnt)] at hbn;have hcnt':(q5V mi i:Int) < q5V mi c:=by omega
        refine wk1 (x3 hvg hneg hcnt') ?_;refine ⟨i+1,by omega,by omega,?_⟩;rw [hbn];refine LeW [] rfl rfl ?_ ?_ (by simp [q0j,q0b,win]) ?_
        ·exact Ow
        ·exact q1S (q0a hn Oq Oq)
        ·try refine Zz ?_
         exact ⟨rfl,q0F rfl (q1i hP3)⟩
       ·rw [if_neg λh=>h.elim hneg hcnt] at hbn;have hcnt':¬ (q5V mi i:Int) < q5V mi c:=by omega
        refine wk1 (x3 hvg hneg hcnt') ?_;refine ⟨i+1,by omega,by omega,?_⟩;rw [hbn];refine LeW [] rfl rfl ?_ ?_ (by simp [q0j,q0b,win]) ?_
        ·exact Ow
        ·exact q1S (q0a hn Oq Oq)
        ·try refine Zz ?_
         exact ⟨rfl,q0F rfl (q1i hP3)⟩
      ·obtain rfl:n=i:=by omega
       clear hi hlt hbs cI1 cI2 cM1
       by_cases hneg:b n < 0
       ·rw [if_pos hneg] at hres;cases hres;rw [hHe (by decide)];refine wk1 hneg ?_;refine (rtM (rs:=[.tmp 12]) rfl rfl Lq ?_ (.inl rfl));refine hbad (q0v n q 5001) _ _ _ ?_ (q5d Oq Oq Oq Oq) rfl _;exact Ow
       rw [if_neg hneg] at hres;obtain ⟨hpm,hpz⟩:=hbok Oq;have hpn:=(hrg n).2;clear hrg hbok hb0;generalize b n=bn at *;obtain ⟨p,rfl⟩:∃ p:Nat,bn=p:=⟨bn.toNat,by omega⟩;rw [zG] at hres hpm hpz;have hpn:p < n:=by omega
       have hvp:=qvB (g:=V) hpn;have rk:(List.range n)[k]?=some k:=zC hkn;refine wk1 (x3 hneg hvp rk) ?_;obtain ⟨Sp,hSp⟩:∃ Sp,Sp=pvS q k V p:=⟨_,rfl⟩;rw [<- hSp] at hres;have hSr:Sp.rows=q.rows ++ [p]:=by rw [hSp]; rfl
       have hSl:Sp.l=q.l:=by rw [hSp]; rfl
       have eqT:q0Q (q0Q (stT n q) (k+30000) ⟨33,none,(rU n q.u k).set k (uv (V p:Nat)),false⟩) (k+40000) ⟨4,none,(rB n q.iU k).set k (bv true),false⟩=stT n Sp:=by
        rw [quY hn hkn,qmI (S:={ q with u:=q3f q.u k k (V p) }) hn hkn,hSp]
        rfl
       have hSrl:Sp.rows.length=k+1:=by rw [hSr,zY,hql]; rfl
       refine q1D (qbT (S:=Sp) (o:=191) (r:=5002) hn (by omega) (by omega) hJ (λi h6 hw=>?_) ?_ ?_ (.inl (by omega)) (xs:=[(0,.pt 5000 0 0),(3,iv k),(13,iv n),(16,.ow 1001 (some 4) 0 n),(17,.ow 1002 none 0 n),(20,iv p),(23,iv 0)]) (kv:=[]) (bs:=[(1001,⟨48,some 4,rwP n P n,false⟩),(1002,⟨33,none,(rwG n V n).map λz:Nat=>uv z,false⟩)]) (kb:=[]) (by simp [nmW]) ?_) ?_
       ·rw [<- eqT]
        by_cases h1:i=k+40000
        ·subst h1; rw [q0L,q0L]
        by_cases h2:i=k+30000
        ·subst h2; rw [q0A h1,q0L,q0A h1,q0L]
        rw [q0A h1,q0A h2,q0A h1,q0A h2,q0A (by omega),q0A (by omega),q0A (by omega),q0A (by omega),q0W hw];unfold q0v;rw [q0A (by omega),q0A (by omega)]
       ·try refine Zz ?_
        rw [hSr,zY]; rfl
       ·try refine Zz ?_
        unfold rwB;rw [hSr,yO]; rfl
       ·try refine Zz ?_
        repeat' (with_reducible apply And.intro)
        all_goals first | exact q0F rfl (q1i hP3) | exact q0F rfl clU | rfl | omega
       refine q0P (λx:Nat × LuS=>x.1<=n/\loS Sp k Z (ofZ (V p)) x.1=some x.2/\q5z x.2.l/\x.2.rows=Sp.rows) [0,3,13,16,17,20] [1001,1002] Lk Lk (λx=>[(23,iv x.1)]) (λ_=>[]) (λx=>q0v n x.2 5002) (λx=>n-x.1) (0,Sp) ⟨zF _,rfl,by rw [hSl]; exact ql,rfl⟩ ?_ ?_
       ·refine LeW [] rfl rfl ?_ ?_ (by simp [q0j,q0b,win]) ?_
        ·exact Ow
        ·exact q1S (q0a hn Oq Oq)
        ·try refine Zz ?_
         exact ⟨rfl,q0F rfl (q1i hP3)⟩
       ·rintro ⟨i,t⟩ ⟨hi,ht,htl,htr⟩;simp only at hi ht htl htr ⊢;have htrl:t.rows.length=k+1:=by rw [htr]; exact hSrl
        by_cases hlt:i < n
        ·have cP:=q4d (S:=t) (n:=n) (i:=i) Oq;have hts:loS Sp k Z (ofZ (V p)) (i+1)=if i ∈ Sp.rows then some t else if q0I (qiE 0 (Z i) (ofZ (V p))) then some { t with l:=q3f t.l i k (qiE 0 (Z i) (ofZ (V p))),iL:=qcX t.iL i k (decide (Z i≠0)) } else none:=by rw [loS,ht,yM]
         have N9:∀ b:Bool,Nz (bv b):=λb=>qdL
         by_cases hmem:i ∈ t.rows
         ·rw [decide_eq_true hmem] at cP;have N2:=N9 true;rw [if_pos (htr ▸ hmem)] at hts;refine wk ?_;refine ⟨(i+1,t),⟨by simp only; omega,hts,htl,htr⟩,by simp only; omega,?_⟩;simp only;refine LeW [] rfl rfl ?_ ?_ (by simp [q0j,q0b,win]) ?_
          ·exact Ow
          ·exact q1S (q0a hn Oq Oq)
          ·try refine Zz ?_
           exact ⟨rfl,q0F rfl (q1i hP3)⟩
         ·rw [decide_eq_false hmem] at cP;have N2:=N9 false;rw [if_neg (htr ▸ hmem)] at hts;have hmq:i ∉ q.rows:=λh=>hmem (by rw [htr,hSr]; exact List.mem_append_left _ h);have hgs:(rwP n P n)[i]?=some (pV (Z i)):=by rw [qpE hlt (zW _),hP1 i hmq]
          have ri:(List.range n)[i]?=some i:=zC hlt;have cO:=q0w (hvl p) (q0T (hfin p hpn));have cQ:=qds (qjH (A:=Z i) (B:=ofZ (V p)) (mode:=0));have hvl2:qiE 0 (Z i) (ofZ (V p)) < 18446744073709551616:=qfP;have cG:=q4I (V:=Z i);have cF:=q14 hvl2;have qz:((Z i).sign != 0)=decide (Z i≠0):=by
           by_cases h0:Z i=0
           ·rw [h0]; rfl
           ·rw [decide_eq_true h0]; simpa using h0
          generalize qiE 0 (Z i) (ofZ (V p))=v at *;have hget:((rU n t.l i).set k (uv (v:Nat)))[k]?=some (uv (v:Nat)):=yF (by simp; omega);have eq1:∀ b,q0Q (q0Q (q0v n t 5002) (i+10000) ⟨33,none,(rU n t.l i).set k (uv (v:Nat)),false⟩) (i+20000) ⟨4,none,(rB n t.iL i).set k (bv b),false⟩=q0v n { t with l:=q3f t.l i k v,iL:=qcX t.iL i k b } 5002:=λb=>by
           rw [qbU (by omega) (by omega),q3c (i:=5002) (by omega),q3c (i:=5000) (by omega),stT_l hn hlt,qu0 (S:={ t with l:=q3f t.l i k v }) hn hlt]
          by_cases hf:q0I v
          ·rw [decide_eq_true hf] at cF;rw [if_pos hf] at hts;refine wk1 (x6 hgs hvp ri rk qz hget) ?_;refine ⟨(i+1,{ t with l:=q3f t.l i k v,iL:=qcX t.iL i k (decide (Z i≠0)) }),⟨by simp only; omega,hts,λx y=>?_,htr⟩,by simp only; omega,?_⟩
           ·simp only [q3f]
            split
            ·exact ⟨hf,hvl2⟩
            ·exact htl x y
           ·simp only;refine LeW [] rfl rfl ?_ ?_ (by simp [q0j,q0b,win]) ?_
            ·refine q8J (q4S (q4S q3U)) (eq1 _)
            ·exact q1S (q0a hn Oq Oq)
            ·try refine Zz ?_
             exact ⟨rfl,q0F rfl (q1i hP3)⟩
          ·rw [decide_eq_false hf] at cF;rw [if_neg hf] at hts;rw [qbp hts n (by omega)] at hres;cases hres;rw [hHe (by decide)];refine wk1 (x6 hgs hvp ri rk qz hget) ?_;refine (rtM (rs:=[.tmp 12]) rfl rfl Lq ?_ (.inl rfl));exact hbad _ _ _ _ (q8J (q4S (q4S q3U)) (eq1 _)) (q5d Oq Oq Oq Oq) rfl _
        ·obtain rfl:n=i:=by omega
         rw [ht] at hres;cases hres;rw [hH0 rfl];refine wk ?_;refine (rtM (rs:=[.tmp 12]) rfl rfl Lq ?_ (.inl rfl));exact LeF q3U (λi b hb=>((q0a hn Oq Oq).b i b hb).1) (q1S (q0a hn Oq Oq)) (.cl trivial)
end
end Go.Proofs.YtpbaikoblfcmdaaGreatDoor
namespace Go.E
open Go Go.RowKit
section
variable {J:Nat->Prop} {s:Nat->PV} {h hw hw':Hp} {T1 T2:TypeId} {K:Kd} {N R n:Nat}
mutual
def qsa {p q:Nat->Prop}:∀ x:PV,IdP p x->IdP q x->IdP (λi=>p i/\q i) x
 | .ow _ _ _ _,h1,h2=>by unfold IdP at *; exact ⟨h1,h2⟩
 | .pt _ _ _,h1,h2=>by unfold IdP at *; exact ⟨h1,h2⟩
 | .ag l,h1,h2=>by unfold IdP at *; exact IdL_and l h1 h2
 | .tu l,h1,h2=>by unfold IdP at *; exact IdL_and l h1 h2
 | .un,_,_=>by unfold IdP; trivial
 | .vl _,_,_=>by unfold IdP; trivial
 | .fm _,_,_=>by unfold IdP; trivial
 | .sl _ _,_,_=>by unfold IdP; trivial
 | .qt _ _,_,_=>by unfold IdP; trivial
def IdL_and {p q:Nat->Prop}:∀ l:List PV,IdL p l->IdL q l->IdL (λi=>p i/\q i) l
 | [],_,_=>by unfold IdL; trivial
 | x :: l,h1,h2=>by unfold IdL at *; exact ⟨qsa x h1.1 h2.1,IdL_and l h1.2 h2.2⟩
end
def q56 {τ:Nat->Option Nat} {h h':Hp} {row:Nat->List PV} (m:Nat->Nat) (h0:h N=some ⟨T1,none,(List.range n).map λj=>.ow (j+R) K 0 (m j),false⟩) (hr:∀ j,j < n->h (j+R)=some ⟨T2,K,row j,false⟩/\ClL (row j)/\(row j).length=m j) (ht:∀ i j,τ i=some j->j=N\/(R<=j/\j < R+n)->h' i=none):LeV τ h h' (.ow N none 0 n) (.sl none ((List.range n).map λj=>.sl K (row j))):=by
 have e:∀ {α:Type} {l:List α} {k:Nat},l.length=k->(l.drop 0).take k=l:=λ{α l k} hl=>by rw [List.drop_zero]; exact yW (by omega)
 have e1:=e (l:=(List.range n).map λj=>PV.sl K (row j)) (k:=n) (by simp);rw [<- e1];refine .fzg h0 rfl rfl (by simp) (λc x y hx hy=>?_) (λy hy=>?_) λi hi=>ht i N hi (.inl rfl)
 ·have hc:c < n:=by have:=(zB.1 hy).1; simpa using this
  rw [zH,zC hc,zP] at hx hy;cases hx; cases hy;obtain ⟨q1,q2,q3⟩:=hr c hc;exact q6P q1 q2 (λi hi=>ht i _ hi (.inr ⟨by omega,by omega⟩)) (e q3)
 ·obtain ⟨z,_,rfl⟩:=zM.1 hy; trivial
def HId (q:Nat->Prop) (h:Hp):Prop:=∀ i b,h i=some b->IdL q b.xs
def qdh {q:Nat->Prop}:HId q h0:=λ_ _ h=>by cases h
def q60 {q:Nat->Prop} {row:Nat->List PV} {B:Hp} (hB:HId q B) (hrow:∀ j,j < n->ClL (row j)) (hq:∀ j,j < n->q (j+R)):HId q (q1W T1 T2 K N R n row B):=λi b hb=>by
 rcases q0k hb with ⟨rfl,rfl⟩ | ⟨h0,h1,h2,rfl⟩ | ⟨h1,h2,h3⟩
 ·refine IdL.of λx hx=>?_;obtain ⟨z,hz,rfl⟩:=zM.1 hx;unfold IdP;exact hq z (zZ.1 hz)
 ·exact IdL.of λx hx=>qag (hrow (i-R) Oq x hx)
 ·exact hB i b h3
def q2N [NL] {o r:Nat} {l:List PV} {xs kv:List (Nat × PV)} {bs:List (Nat × Bk)} {kb:List (Nat × Option Bk)} (hJ:∀ i,¬ J i) (hcl:ClL l) (f:Nat->Nat) (ho:h o=some ⟨T1,none,((List.range n).map λj=>.ow (j+R) K 0 (f j)) ++ [.ow r K 0 (f n)],false⟩) (hr:h r=some ⟨T2,K,l,false⟩)
  (hq:∀ i,win i->i≠N->h i=hw i) (e0:hw' N=some ⟨T1,none,(List.range (n+1)).map λj=>.ow (j+R) K 0 (f j),false⟩) (e1:hw' (n+R)=some ⟨T2,K,l,false⟩) (e2:∀ i,i≠N->i≠n+R->hw' i=hw i) (e3:∀ j,j < n->hw' (j+R)≠none) (hB:BOk hw win) (hI:HId (λj=>j≠N) hw) (hnr:hw (n+R)=none)
  (h5:o < 5000) (h6:r < 5000) (h7:o≠r) (hN:5000<=N) (hNR:N < R) (hR:R+n < 1000000) (hn:nmW o r (bs.map (·.1) ++ kb.map (·.1)))
  (hh:q5E (tp N (n+R) o r) h (q0y hw' (hpM bs kb)) s xs/\q5E (tp N (n+R) o r) h (q0y hw' (hpM bs kb)) s kv/\qdf (tp N (n+R) o r) h (q0y hw' (hpM bs kb)) bs/\q9b (tp N (n+R) o r) h (q0y hw' (hpM bs kb)) kb):Le J s h (stM xs kv) (q0y hw' (hpM bs kb)):=by
 have tN:tp N (n+R) o r N=some o:=if_pos rfl;have tK:tp N (n+R) o r (n+R)=some r:=by unfold tp; rw [if_neg (by omega),if_pos rfl]
 have tI:∀ i,i≠N->i≠n+R->tp N (n+R) o r i=some i:=λi a b=>by unfold tp; rw [if_neg a,if_neg b]
 have hl:=λi hi=>q4h hn i hi;have hex:∀ i,win i->hw' i≠none->∃ b,q0y hw' (hpM bs kb) i=some b:=λi hi hb=>by
  rw [q0W hi]; exact zK.1 hb
 refine LeT (tp N (n+R) o r) (λi q=>(hJ i q).elim) (λi hi hw=>?_) (λi b hw1 hb=>?_) (λi j k' hi hj ti tj=>?_) hh
 ·have:=(hl i hi).1; unfold win at hw; omega
 ·by_cases i1:i=N
  ·subst i1;rw [e0] at hb; cases hb;unfold LeB;rw [tN];refine ⟨_,ho,rfl,rfl,⟨rfl,rfl⟩,by simp,λc u v hx hy=>?_⟩;have hc:c < n+1:=by have:=(zB.1 hy).1; simpa using this
   rw [zH,zC hc,zP] at hy;cases hy
   by_cases hck:c=n
   ·subst hck;rw [zS (by simp)] at hx;simp at hx;subst hx;obtain ⟨b,hbb⟩:=hex (c+R) ⟨by omega,by omega⟩ (by rw [e1]; exact uP _);exact .ow tK hbb
   ·rw [zV (by simp; omega),zH,zC (by omega),zP] at hx;cases hx;obtain ⟨b,hbb⟩:=hex (c+R) ⟨by omega,by omega⟩ (e3 c Oq);exact .ow (tI _ Oq Oq) hbb
  ·by_cases i2:i=n+R
   ·subst i2;rw [e1] at hb; cases hb;unfold LeB;rw [tK];exact ⟨_,hr,rfl,rfl,⟨rfl,rfl⟩,q0F rfl hcl⟩
   ·rw [e2 i i1 i2] at hb;obtain ⟨q1,q2,q3⟩:=hB.b i b hb;unfold LeB;rw [tI i i1 i2];refine ⟨b,(hq i hw1 i1).trans hb,rfl,rfl,⟨q2,q2⟩,LeL_self (λj hj=>?_) _ (IdL_and _ q3 (hI i b hb))⟩;obtain ⟨hj,hjN⟩:=hj;obtain ⟨c,hc⟩:=zK.1 hj;have hjR:j≠n+R:=by rintro rfl; exact hj hnr
    exact ⟨tI j hjN hjR,hex j (hB.b j c hc).1 (by rw [e2 j hjN hjR]; exact hj)⟩
 ·have a:∀ i,(win i/\hw' i≠none\/i ∈ bs.map (·.1) ++ kb.map (·.1))->i≠r/\i≠o/\(i < 5000->i≠N/\i≠n+R):=λi hi=>by
   rcases hi with ⟨q,hi⟩ | hi
   ·unfold win at q; omega
   ·have:=hl i hi; omega
  have a1:=a i hi;have a2:=a j hj;unfold tp at ti tj
  split at ti <;> (try split at ti) <;> split at tj <;> (try split at tj) <;> cases ti <;> cases tj <;> first | omega | rfl | (exfalso; omega)
end
end Go.E
namespace Go.Proofs.YtpbaikoblfcmdaaGreatDoor
open Go Go.E Go.Sp
def fLt (S:LuS) (j i:Nat):Option Nat:=if j < i/\S.iL (S.rows.getD i 0) j=true then some (S.l (S.rows.getD i 0) j) else none
def fUt (S:LuS) (j i:Nat):Option Nat:=if i<=j/\S.iU i j=true then some (S.u i j) else none
def qvy (S:LuS) (cols:List Int) (n:Nat):LUt:=⟨S.rows.map λz:Nat=>(z:Int),cols,(tM (fLt S) n n).1,(tM (fLt S) n n).2.1,(tM (fLt S) n n).2.2,(tM (fUt S) n n).1,(tM (fUt S) n n).2.1,(tM (fUt S) n n).2.2⟩
section
variable {S:LuS} {n:Nat} {cols:List Int}
def qeZ {F:Nat->Nat->Option Nat} {j:Nat} {p:List Int × List Nat}:∀ i,(∀ c,c < i->F j c=none)->tC F j p i=p
 | 0,_=>rfl
 | i+1,h=>by rw [qcr (h i (by omega)),qeZ i λc hc=>h c (by omega)]
def qeY {F:Nat->Nat->Option Nat} {j:Nat} {p:List Int × List Nat} {a:Nat} (h:∀ c,a<=c->F j c=none):∀ i,a<=i->tC F j p i=tC F j p a
 | 0,hi=>by
  obtain rfl:a=0:=by omega
  rfl
 | i+1,hi=>by
  by_cases e:a=i+1
  ·subst e; rfl
  ·rw [qcr (h i (by omega)),qeY h i (by omega)]
def qd5 (hn:n<=100) (hc:cols.length=n) (hr:S.rows.length=n) (hrl:∀ x ∈ S.rows,x < n):ACt 150 [pSt n S,pI cols] (pLU (qvy S cols n)):=by
 have hnn:n*n<=100*100:=uM hn hn;have hLl:=λk=>q1e (f:=fLt S) (R:=n) k;have hUl:=λk=>q1e (f:=fUt S) (R:=n) k;have hL1:∀ k,(tM (fLt S) n (k+1)).1=(tM (fLt S) n k).1 ++ [((tC (fLt S) k (tM (fLt S) n k).2 n).1.length:Int)]:=λk=>rfl;have hL2:∀ k,(tM (fLt S) n (k+1)).2=tC (fLt S) k (tM (fLt S) n k).2 n:=λk=>rfl;have hU1:∀ k,(tM (fUt S) n (k+1)).1=(tM (fUt S) n k).1 ++ [((tC (fUt S) k (tM (fUt S) n k).2 n).1.length:Int)]:=λk=>rfl;have hU2:∀ k,(tM (fUt S) n (k+1)).2=tC (fUt S) k (tM (fUt S) n k).2 n:=λk=>rfl;have hL0:tM (fLt S) n 0=([0],[],[]):=rfl;have hU0:tM (fUt S) n 0=([0],[],[]):=rfl;unfold qvy pLU;dsimp only;have hcm:(S.rows.map λz:Nat=>iv z)=(S.rows.map λz:Nat=>(z:Int)).map λz=>iv z:=by rw [List.map_map]; rfl
 have hrl2:(S.rows.map λz:Nat=>(z:Int)).length=n:=by rw [z8,hr]
 generalize hro:(S.rows.map λz:Nat=>(z:Int))=ro at *;refine ac0 Tryz.func150 Tryz.ntmps150 [.cell 4 99] ?_;refine wk1 (x2 hr hc) ?_;refine q0B (λk=>k<=n) [2,4,5,6] [2,4] Lk Lk (λk:Nat=>[(7,iv k)]) (λk=>[(6,⟨99,some 8,[.ag [.ow 1001 none 0 n,.ow 1002 none 0 n,.ow 1003 none 0 (tM (fLt S) n k).1.length,.ow 1004 none 0 (tM (fLt S) n k).2.1.length,.ow 1005 none 0 (tM (fLt S) n k).2.2.length,.ow 1006 none 0 (tM (fUt S) n k).1.length,.ow 1007 none 0 (tM (fUt S) n k).2.1.length,.ow 1008 none 0 (tM (fUt S) n k).2.2.length]],false⟩),(1001,⟨3,none,ro.map λz=>iv z,false⟩),(1002,⟨3,none,cols.map λz=>iv z,false⟩),(1003,⟨3,none,(tM (fLt S) n k).1.map λz=>iv z,false⟩),(1004,⟨3,none,(tM (fLt S) n k).2.1.map λz=>iv z,false⟩),(1005,⟨33,none,(tM (fLt S) n k).2.2.map λz:Nat=>uv z,false⟩),(1006,⟨3,none,(tM (fUt S) n k).1.map λz=>iv z,false⟩),(1007,⟨3,none,(tM (fUt S) n k).2.1.map λz=>iv z,false⟩),(1008,⟨33,none,(tM (fUt S) n k).2.2.map λz:Nat=>uv z,false⟩)]) (λk=>n-k) 0 (zF _) ?_ ?_
 ·refine LeM [(1001,some 15),(1002,some 18),(1003,some 19),(1004,none),(1005,none),(1006,some 20),(1007,none),(1008,none)] rfl rfl ?_;refine Zz ?_
  repeat' (with_reducible apply And.intro)
  all_goals first | rfl | exact q0F hcm clI | exact q0F rfl clI
 ·intro k hk;have hkn:k*n<=100*100:=uM Oq hn;have hLk:=hLl k;have hUk:=hUl k
  by_cases hlt:k < n
  ·have hL1k:=hL1 k;have hL2k:=hL2 k;have hU1k:=hU1 k;have hU2k:=hU2 k;have rk:(List.range n)[k]?=some k:=zC hlt;generalize (tM (fLt S) n k).1=ls at *;generalize (tM (fLt S) n k).2=lp at *;generalize (tM (fUt S) n k).1=us at *;generalize (tM (fUt S) n k).2=up at *;have hskip:tC (fLt S) k lp (k+1)=lp:=qeZ (k+1) λc hc=>if_neg λh=>by omega
   have hstop:tC (fUt S) k up n=tC (fUt S) k up (k+1):=qeY (a:=k+1) (λc hc=>if_neg λh=>by omega) n Oq;refine wk ?_;refine q0B (λp=>k+1<=p/\p<=n) [2,4,5,6,7] [2,4,1001,1002,1003,1006,1007,1008] Lk Lk (λp:Nat=>[(8,iv p)]) (λp=>[(6,⟨99,some 8,[.ag [.ow 1001 none 0 n,.ow 1002 none 0 n,.ow 1003 none 0 ls.length,.ow 1004 none 0 (tC (fLt S) k lp p).1.length,.ow 1005 none 0 (tC (fLt S) k lp p).2.length,.ow 1006 none 0 us.length,.ow 1007 none 0 up.1.length,.ow 1008 none 0 up.2.length]],false⟩),(1004,⟨3,none,(tC (fLt S) k lp p).1.map λz=>iv z,false⟩),(1005,⟨33,none,(tC (fLt S) k lp p).2.map λz:Nat=>uv z,false⟩)]) (λp=>n-p) (k+1) ⟨zW _,hlt⟩ ?_ ?_
   ·rw [hskip];refine LeM [] rfl rfl ?_;refine Zz ?_
    rfl
   ·rintro p ⟨hp1,hp2⟩;have hq:=q8b (f:=fLt S) (j:=k) hLk.2.1 p
    by_cases hpl:p < n
    ·obtain ⟨r,hrp⟩:∃ r,S.rows[p]?=some r:=⟨_,zA Oq⟩;have hrn:=hrl r (zD hrp);have rr:(List.range n)[r]?=some r:=zC hrn;have hgr:S.rows.getD p 0=r:=getD_some hrp;cases qb:S.iL r k with
     | true =>
      have hF:fLt S k p=some (S.l r k):=by unfold fLt; rw [hgr,if_pos ⟨by omega,qb⟩]
      have eg:=qe0 (p:=lp) hF;refine wk1 (x4 hrp rr rk qb) ?_;refine ⟨p+1,⟨by omega,by omega⟩,by omega,?_⟩;rw [eg];refine LeM [(1004,some 50),(1005,some 67)] rfl rfl ?_;refine Zz ?_
      rfl
     | false =>
      have hF:fLt S k p=none:=by unfold fLt; rw [hgr,if_neg λh=>by rw [qb] at h; cases h.2]
      have eg:=qcr (p:=lp) hF;refine wk1 (x4 hrp rr rk qb) ?_;refine ⟨p+1,⟨by omega,by omega⟩,by omega,?_⟩;rw [eg];refine LeM [] rfl rfl ?_;refine Zz ?_
      rfl
    ·obtain rfl:n=p:=by omega
     clear hskip hq;refine wk ?_;refine q0B (λm=>m<=k+1) [2,4,5,6,7] [2,4,1001,1002,1003,1004,1005,1006] Lk Lk (λm:Nat=>[(9,iv m)]) (λm=>[(6,⟨99,some 8,[.ag [.ow 1001 none 0 n,.ow 1002 none 0 n,.ow 1003 none 0 ls.length,.ow 1004 none 0 (tC (fLt S) k lp n).1.length,.ow 1005 none 0 (tC (fLt S) k lp n).2.length,.ow 1006 none 0 us.length,.ow 1007 none 0 (tC (fUt S) k up m).1.length,.ow 1008 none 0 (tC (fUt S) k up m).2.length]],false⟩),(1007,⟨3,none,(tC (fUt S) k up m).1.map λz=>iv z,false⟩),(1008,⟨33,none,(tC (fUt S) k up m).2.map λz:Nat=>uv z,false⟩)]) (λm=>k+1-m) 0 (zF _) ?_ ?_
     ·refine LeM [] rfl rfl ?_;refine Zz ?_;exact ⟨rfl,⟨rfl,rfl⟩,rfl,rfl⟩
     ·intro m hm;have hq:=q8b (f:=fUt S) (j:=k) hUk.2.1 m
      by_cases hml:m < k+1
      ·have hml':(m:Int)<=k:=by omega
       have rm:(List.range n)[m]?=some m:=zC Oq;cases qb:S.iU m k with
       | true =>
        have hF:fUt S k m=some (S.u m k):=if_pos ⟨by omega,qb⟩;have eg:=qe0 (p:=up) hF;refine wk1 (x4 hml' rm rk qb) ?_;refine ⟨m+1,by omega,by omega,?_⟩;rw [eg];refine LeM [(1007,some 86),(1008,some 99)] rfl rfl ?_;refine Zz ?_
        rfl
       | false =>
        have hF:fUt S k m=none:=if_neg λh=>by rw [qb] at h; cases h.2
        have eg:=qcr (p:=up) hF;refine wk1 (x4 hml' rm rk qb) ?_;refine ⟨m+1,by omega,by omega,?_⟩;rw [eg];refine LeM [] rfl rfl ?_;refine Zz ?_
        rfl
      ·obtain rfl:m=k+1:=by omega
       have hml':¬ ((k+1:Nat):Int)<=k:=by omega
       refine wk1 hml' ?_;refine ⟨k+1,by omega,by omega,?_⟩;rw [hL1k,hL2k,hU1k,hU2k,hstop];refine LeM [(1003,some 107),(1006,some 115)] rfl rfl ?_;refine Zz ?_
       rfl
  ·obtain rfl:n=k:=by omega
   exact wk trivial
end
end Go.Proofs.YtpbaikoblfcmdaaGreatDoor
