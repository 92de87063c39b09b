/- LuFactors, LuSingular and LuTriangular are proved. 4/6. -/
import Derived.Test.YtbjoghfmhgadkaaGreatDoorPu3
open Int renaming toNat_natCast->zF,sign_eq_zero_iff_zero->zK,sign_eq_one_of_pos->zM,natAbs_natCast->zS,sign_eq_neg_one_of_neg->z8,zero_mul->yL,toNat->uI,lt_or_gt_of_ne->uJ,natAbs_mul->y6,tmod_eq_emod_of_nonneg->y7,fdiv_eq_ediv_of_nonneg->y8,natAbs_neg->y9,le_refl->xG,mul_assoc->xH,mul_eq_zero->xO,sign_mul->xV,ne_of_gt->xY,pow_add->uK,add_mul->x7,mul_one->x9
open List renaming getElem?_eq_getElem->zA,getD_eq_getElem?_getD->zB,getElem?_range->zC,getElem?_eq_some_iff->zD,mem_of_getElem?->zG,getElem?_map->zH,getElem?_append_left->zL,mem_append->zN,length_append->zP,map_congr_left->zQ,mem_map->zR,getElem?_append_right->zU,mem_cons_of_mem->zV,getElem?_eq_none->zY,mem_range->zZ,take_length->uL,take_succ_eq_append_getElem->uM,length_map->uN,mem_cons_self->uO,length_range->z7,ext_getElem?->z9,getElem?_set->yA,mem_append_left->yB,take_of_length_le->yE,getElem?_set_self->yF,map_cons->yG,length_singleton->yH,nodup_append->yJ,mem_cons->yO,map_append->yR,length_filter_le->yV,length_take->yX,map_const'->yZ,getElem?_concat_length->uP,filter_append->xD,append_assoc->xF,range_succ->xN,mem_append_right->xP,drop->xU,take->xZ
open Nat renaming zero_le->zJ,le_trans->zW,le_refl->zX,lt_of_le_of_lt->uQ,pow_add->uS,mul_lt_mul_of_pos_right->yI,pow_le_pow_right->yK,add_zero->yM,mul_assoc->yP,div_le_self->yQ,lt_of_lt_of_le->yS,mul_right_comm->yU,and_two_pow_sub_one_eq_mod->yW,mod_lt->yY,mul_comm->uU,sub_self->uW,mod_le->uX,add_sub_cancel->xA,mul_le_mul->xB,mul_one->xE,mod_eq_of_lt->xI,pow_zero->xK,le_mul_of_pos_left->xL,div_add_mod->xM,div_lt_iff_lt_mul->xQ,le_div_iff_mul_le->uY,div_pos->xS,div_one->xT,lt_or_ge->xW,le_of_lt->xX,mod_one->x8
open Option renaming ne_none_iff_exists'->zE,some_ne_none->zI,map_some->zO,some->z6,bind_some->yC,map_eq_some_iff->uZ,getD_some->yN,toList_some->xC,bind_eq_some_iff->xJ
set_option linter.unusedSimpArgs false
set_option linter.unusedVariables false
set_option maxRecDepth 20000
set_option maxHeartbeats 2000000
set_option linter.defProp false
namespace Go.Proofs.YtbjoghfmhgadkaaGreatDoor
open Go Go.E Go.Sp
section
variable {m e V:Int} {f:FuncId} {al:List PV}
def q8w (h:ACt f al (dT V)) (ho:q0d V):ACt f al (pV V):=qk9 (r:=dT V) (λD w v h=>qdE (q3a.1 ⟨h,ho⟩)) h
def qkG {s:Bool} (hs:s=decide (m < 0)) (hb:bl m.natAbs<=1000000) (he1 : -1000000<=e) (he2:e<=1000000) (hv:mkV m e=some V):ACt 74 [sT s m,iv e] (dT V):=by
 have C:=qaU (s:=s) (l:=lim m.natAbs) (e:=e) (V:=V) (q0C _) (q3I ω) (by rwa [q0D]) he1 he2 (by rw [q0D,hs,q0a]; exact hv);exact q3E C
def q3t {s:Bool} (hs:s=decide (m < 0)) (hb:bl m.natAbs<=1000000) (he1 : -1000000<=e) (he2:e<=1000000) (hv:mkV m e=some V):ACt 74 [sT s m,iv e] (pV V):=q8w (qkG hs hb he1 he2 hv) (q6H hv).2.2.2
end
def q0w {V:Int} (ho:q0d V):ACt 78 [dT V] (dT V):=by
 obtain ⟨h1,h2,h3⟩:=q0z ho;have C1:=qkG (m:=od V) (e:=dyE V) rfl Oq Oq Oq (qaT ho);refine ac0 Tryz.func78 Tryz.ntmps78 [.cell 2 46] ?_;exact wk trivial
def qnQ {l:List Int} (hn:l.length<=1000) (ho:∀ x ∈ l,q0d x) (hv:q0d (q1l l)):ACt 45 [.sl (some 4) (l.map λV=>pV V)] (pV (q1l l)):=by
 have C2:=@q4o;refine ac0 Tryz.func45 Tryz.ntmps45 [.cell 2 46] ?_;refine wk ?_;refine q0B (λq:Nat × Int × Int=>q.1<=l.length /\ -65536<=q.2.2/\q.2.2<=65536/\q.2.1*(2:Int) ^ (q.2.2+65536).toNat=q1l (l.take q.1)) [0,2,3,7] [2] Lk Lk (λq=>[(5,iv q.1),(4,iv q.2.2)]) (λq=>[(3,⟨42,some 2,[bT q.2.1],false⟩)]) (λq=>l.length-q.1) (0,0,0) ⟨zJ _,by decide,by decide,by rw [yL]; rfl⟩ ?_ ?_
 .refine LeM [] rfl rfl ?_;refine Zz ?_;exact ⟨rfl,rfl⟩
 .rintro ⟨i,tot,e⟩ ⟨hi,he1,he2,hs⟩;simp only at hi he1 he2 hs ⊢;have hbs:=qiz (i:=i) ho Oq;have hbt:=q3z hs
  by_cases hlt:i < l.length
  .obtain ⟨x,hxi⟩:∃ x,l[i]?=some x:=⟨_,zA Oq⟩;have hox:=ho x (zG hxi);obtain ⟨hd1,hd2,hd3⟩:=q0z hox;have hst:=q5A l i x hxi;have hbx:bl x.natAbs<=131072:=hox;have C1:=qp5 κ λh=>q0w h (V:=x)
   by_cases hx0:x=0
   .have q1:((od x).sign == 0)=true:=by rw [hx0]; rfl
    refine wk1 (x2 hxi q1) ?_;refine ⟨(i+1,tot,e),⟨by simp only; omega,he1,he2,by simp only; rw [hst,hx0,Int.add_zero]; exact hs⟩,by simp only; omega,?_⟩;simp only;refine LeM [] rfl rfl ?_;refine Zz ?_
    rfl
   .have q1:((od x).sign == 0)=false:=by
     have hod:=q3S hx0
     rcases uJ hod with h | h
     .rw [z8 h]; rfl
     .rw [zM h]; rfl
    have hdx:dyE x=(tz x.natAbs:Int)-65536:=by unfold dyE; rw [if_neg hx0]
    have hodx:od x*(2:Int) ^ (dyE x+65536).toNat=x:=by
     rw [hdx,show ((tz x.natAbs:Int)-65536+65536).toNat=tz x.natAbs by omega,q1Q]
    by_cases ht0:tot=0
    .have q2:(Int.sign tot == 0)=true:=by rw [ht0]; rfl
     refine wk1 (x3 hxi q1 q2) ?_;refine ⟨(i+1,od x,dyE x),⟨by simp only; omega,hd1,hd2,by simp only; rw [hst,hodx,<- hs,ht0]; simp⟩,by simp only; omega,?_⟩;simp only;refine LeM [] rfl rfl ?_;refine Zz ?_
     rfl
    .have q2:(Int.sign tot == 0)=false:=by
      rcases uJ ht0 with h | h
      .rw [z8 h]; rfl
      .rw [zM h]; rfl
     have C3:=@q3s;have C4:=@qe8
     by_cases hge:e<=dyE x
     .have hsh:shI (od x) (dyE x-e)=od x*(2:Int) ^ (dyE x-e).toNat:=by unfold shI; rw [if_pos ω]
      have hlf:od x*(2:Int) ^ (dyE x-e).toNat*(2:Int) ^ (e+65536).toNat=x:=by
       rw [xH,<- uK,show (dyE x-e).toNat+(e+65536).toNat=(dyE x+65536).toNat by omega,hodx]
      have hb11:=q3z hlf;refine wk1 (x4 hxi q1 q2 hsh) ?_;refine ⟨(i+1,tot+od x*(2:Int) ^ (dyE x-e).toNat,e),⟨by simp only; omega,he1,he2,by simp only; rw [hst,x7,hs,hlf]⟩,by simp only; omega,?_⟩;simp only;refine LeM [] rfl rfl ?_;refine Zz ?_
      rfl
     .have hsh:shI tot (e-dyE x)=tot*(2:Int) ^ (e-dyE x).toNat:=by unfold shI; rw [if_pos ω]
      have hlf:tot*(2:Int) ^ (e-dyE x).toNat*(2:Int) ^ (dyE x+65536).toNat=q1l (l.take i):=by
       rw [xH,<- uK,show (e-dyE x).toNat+(dyE x+65536).toNat=(e+65536).toNat by omega,hs]
      have hb11:=q3z hlf;refine wk1 (x4 hxi q1 q2 hsh) ?_;refine ⟨(i+1,tot*(2:Int) ^ (e-dyE x).toNat+od x,dyE x),⟨by simp only; omega,hd1,hd2,by simp only; rw [hst,x7,hlf,hodx]⟩,by simp only; omega,?_⟩;simp only;refine LeM [] rfl rfl ?_;refine Zz ?_
      rfl
  .obtain rfl:i=l.length:=ω
   rw [uL] at hs hbs hbt;have C1:=@q3t;have hmk:mkV tot e=some (q1l l):=by rw [q6l ω hs]; exact q3e hv
   exact wk trivial
section
attribute [local instance] lNL
def qjx {l:List Nat} {i:Nat} (ha:q0X l) (hi:i < l.length) (h2:l.length<=2):(val (l.take i) ||| l.getD i 0*2 ^ (32*i) % 18446744073709551616)=val (l.take (i+1)):=by
 have hd:=ha.get i;unfold B at hd;have h1:=q1Z (ha.take i);rw [ltk ω] at h1;have hb:B ^ i=2 ^ (32*i):=by rw [q9g,<- Nat.pow_mul]
 rw [hb] at h1;have hm:l.getD i 0*2 ^ (32*i) < 18446744073709551616:=by
  have:l.getD i 0*2 ^ (32*i) < 2 ^ 32*2 ^ (32*i):=yI hd (q0F _);rw [<- uS] at this;exact yS this (yK (n:=2) Oq (show 32+32*i<=64 by omega))
 rw [xI hm,q1o h1,vts,hb,uU]
section
variable {a:Int} {s:Bool}
def qgl (hs:s=decide (a < 0)) (h0:0<=a) (ha:a<=9223372036854775807):ACt 247 [yT s a] (.tu [iv a,bv true]):=by
 obtain rfl:s=false:=by rw [hs]; exact decide_eq_false ω
 clear hs;obtain ⟨x,rfl⟩:∃ x:Nat,a=x:=⟨a.toNat,ω⟩;change ACt 247 [.ag [bv false,pW (lim x)]] (.tu [iv (x:Nat),bv true]);have hl:(lim x).length<=2:=q0h (show x < B ^ 2 by unfold B; omega);obtain ⟨n,hn⟩:∃ n,(lim x).length=n:=⟨_,rfl⟩;have T1:=q0W (q0C x) Oq;rw [q0D] at T1;have q:¬ (2:Int) < n:=ω
 refine ac0 Tryz.func247 Tryz.ntmps247 [.tmp 2,.tmp 3] ?_;refine wk1 (x2 hn q) ?_;refine q0B (λi:Nat=>i<=n) [1,14,15] [1] Lk Lk (λi=>[(16,iv i),(5,uv (val ((lim x).take i)))]) (λ_=>[]) (λi=>n-i) 0 (zJ _) ?_ ?_
 .refine LeM [] rfl rfl ?_;refine Zz ?_;exact ⟨rfl,rfl⟩
 .intro i hi
  by_cases hlt:i < n
  .have q1:(i:Int) < n:=ω
   have e1:=q1F (l:=lim x) (i:=i) Oq;have hd:(lim x).getD i 0 < 4294967296:=(q0C x).get i;have hv:val ((lim x).take i) < 18446744073709551616:=by rw [q1j (q0C x),q0D]; exact uQ (uX _ _) ω
   have e2:=qjx (q0C x) (i:=i) Oq hl;have e3:IntKind.i64.wrap (32*(i:Int))=((32*i:Nat):Int):=by rw [i64_in ω ω]; omega
   refine wk1 (x4 q1 e1 e3 e2) ?_;refine ⟨i+1,ω,ω,?_⟩;refine LeM [] rfl rfl ?_;refine Zz ?_
   rfl
  .have q1:¬ (i:Int) < n:=ω
   have e1:val ((lim x).take i)=x:=by rw [q0E _ _ ω,q0D]
   rw [e1];have q2:(x:Int) < 9223372036854775808:=ω
   exact wk1 (x2 q1 q2) trivial
def qgL (hs:s=decide (a < 0)) (h0:0<=a) (ha:a<=9223372036854775807):ACt 219 [yT s a] (.tu [iv a,bv true]):=by
 have hb:bl a.natAbs<=64:=q0N (show a.natAbs < 2 ^ 64 by omega);have C1:=q3b hs Oq;clear hb;obtain rfl:s=false:=by rw [hs]; exact decide_eq_false ω
 clear hs;obtain ⟨x,rfl⟩:∃ x:Nat,a=x:=⟨a.toNat,ω⟩;unfold zT at C1;rw [show decide ((x:Int) < 0)=false from decide_eq_false ω] at C1;change ACt 139 [.ag [bv false,pW (lim x)]] (.ag [bv false,pW (lim x)]) at C1;change ACt 219 [.ag [bv false,pW (lim x)]] (.tu [iv (x:Nat),bv true]);have hl:(lim x).length<=2:=q0h (show x < B ^ 2 by unfold B; omega);obtain ⟨n,hn⟩:∃ n,(lim x).length=n:=⟨_,rfl⟩;have q:¬ (2:Int) < n:=ω
 refine ac0 Tryz.func219 Tryz.ntmps219 [.tmp 2,.tmp 3] ?_;refine wk1 (x2 hn q) ?_;refine q0B (λi:Nat=>i<=n) [1] [1] Lk Lk (λi=>[(5,iv i),(4,uv (val ((lim x).take i)))]) (λ_=>[]) (λi=>n-i) 0 (zJ _) ?_ ?_
 .refine LeM [] rfl rfl ?_;refine Zz ?_;exact ⟨rfl,rfl⟩
 .intro i hi
  by_cases hlt:i < n
  .have q1:(i:Int) < n:=ω
   have e1:=q1F (l:=lim x) (i:=i) Oq;have hd:(lim x).getD i 0 < 4294967296:=(q0C x).get i;have hv:val ((lim x).take i) < 18446744073709551616:=by rw [q1j (q0C x),q0D]; exact uQ (uX _ _) ω
   have e2:=qjx (q0C x) (i:=i) Oq hl;have e3:IntKind.i64.wrap (32*(i:Int))=((32*i:Nat):Int):=by rw [i64_in ω ω]; omega
   refine wk1 (x5 hn q1 e1 e3 e2) ?_;refine ⟨i+1,ω,ω,?_⟩;refine LeM [] rfl rfl ?_;refine Zz ?_
   rfl
  .have q1:¬ (i:Int) < n:=ω
   have e1:val ((lim x).take i)=x:=by rw [q0E _ _ ω,q0D]
   rw [e1];have q2:¬ (9223372036854775807:Int) < x:=ω
   exact wk1 (x3 hn q1 q2) trivial
end
end
section
variable {a b m e V:Int} {f:FuncId} {al:List PV}
def qho {s t:Bool} (hs:s=decide (a < 0)) (ht:t=decide (b < 0)) (ha:bl a.natAbs<=20000000) (hb:bl b.natAbs<=20000000):ACt 80 [sT s a,sT t b] (bT (a*b)):=q3E (qgK hs ht ha hb)
def qbq {s:Bool} (_:s=decide (a < 0)) (ha:bl a.natAbs<=20000000):ACt 142 [sT s a] (iv (bl a.natAbs:Nat)):=q3E (q3Q ha)
def qnT {s:Bool} (_:s=decide (a < 0)) (ha:bl a.natAbs<=20000000):ACt 76 [sT s a] (bT a.natAbs):=q3E (q6h ha)
def qnR {s:Bool} (hs:s=decide (a < 0)) (h0:0<=a) (ha:a<=9223372036854775807):ACt 219 [sT s a] (.tu [iv a,bv true]):=q3E (qgL hs h0 ha)
def q3c {z:Int} (h1 : -9223372036854775808<=z) (h2:z<=9223372036854775807) (hv:mkV z 0=some V):ACt 50 [iv z] (pV V):=by
 have hz:bl z.natAbs<=64:=q0N (uQ (show z.natAbs<=9223372036854775808 by omega) (by decide));have C1:=@q8J;have C2:=@q3t;refine ac0 Tryz.func50 Tryz.ntmps50 [.cell 2 46] ?_;exact wk trivial
def q8v (hv:mkV (a*b) (-131072)=some V):ACt 22 [pV a,pV b] (pV V):=ac_2 κ λ⟨ha,hb⟩=>by
 obtain ⟨ha1,ha2,ha3⟩:=q0z ha;obtain ⟨hb1,hb22,hb33⟩:=q0z hb;have hmul:=q2P (od a).natAbs (od b).natAbs;rw [<- y6] at hmul;have C1:=q0w ha;have C4:=q0w hb;have C2:=@qho;have C3:=q3t (m:=od a*od b) (e:=dyE a+dyE b) rfl Oq Oq Oq ((qd6 a b).trans hv);refine ac0 Tryz.func22 Tryz.ntmps22 [.cell 4 46] ?_;exact wk trivial
def od_sg {V:Int} (hz:V≠0):((od V).sign == 0)=false:=by
 have hod:=q3S hz
 rcases uJ hod with h | h
 .rw [z8 h]; rfl
 .rw [zM h]; rfl
def ac_1x {x r:PV} (hc:q0H Tryz.prog f=true) (ha:q0d V->ACt f [dT V,x] r):ACt f [pV V,x] r:=q84 hc (λD w vs hR=>by
 obtain ⟨a,b,rfl,h1,h2⟩:=rd_2 hR;obtain ⟨h3,h4⟩:=q3a.2 (qb1 h1);refine ⟨?_,h4⟩;unfold RdL;exact ⟨_,_,rfl,h3,RdL.one h2⟩) ha
end
section
variable {f:Nat} {neg:Bool}
def q4N (hf:f < 9223372036854775808):ACt 220 [bv neg,uv f] (uv (sb neg f:Nat)):=by
 have h:=qdT hf;refine ac0 Tryz.func220 Tryz.ntmps220 [.tmp 4] ?_;cases neg
 .exact wk1 (show sb false f=f from rfl) trivial
 .exact wk1 (x2 h (show sb true f=f+9223372036854775808 from rfl)) trivial
def qgJ {mode:Int}:ACt 217 [bv neg,iv mode] (uv (q8a mode neg:Nat)):=by
 have C1:=q4N (f:=9218868437227405312) (neg:=neg) Oq;have C2:=q4N (f:=9218868437227405311) (neg:=neg) Oq;have e:q8a mode neg=sb neg (if mode=3\/mode=1/\neg=false\/mode=2/\neg=true then 9218868437227405311 else 9218868437227405312):=by
  unfold q8a;cases neg <;> simp <;> split <;> rfl
 rw [e];clear e;refine ac0 Tryz.func217 Tryz.ntmps217 [.tmp 4] ?_
 by_cases m3:mode=3
 .rw [if_pos (.inl m3)];exact wk trivial
 .by_cases m1:mode=1
  .have m2:mode≠2:=ω
   cases neg
   .rw [if_pos (.inr (.inl ⟨m1,rfl⟩))];exact wk trivial
   .rw [if_neg (by simp [m1])];exact wk trivial
  .by_cases m2:mode=2
   .cases neg
    .rw [if_neg (by simp [m2])];exact wk trivial
    .rw [if_pos (.inr (.inr ⟨m2,rfl⟩))];exact wk trivial
   .rw [if_neg (by simp [m1,m2,m3])];exact wk trivial
def q5J (hf:f < 18446744073709551616):ACt 31 [uv f] (bv (decide (q0O f))):=by
 have h1:=q4p (a:=f / 4503599627370496) Oq;have h2:(((f / 4503599627370496 % 2048:Nat):Int) != 2047)=decide (q0O f):=bneN (b:=2047);refine ac0 Tryz.func31 Tryz.ntmps31 [.tmp 2] ?_;exact wk1 (x2 h1 h2) trivial
end
def qad (q:Int) (n:Nat) (h1:0<=q+1075) (h2:¬ 2047<=q+1075) (h3:4503599627370496<=n) (h4:n < 9007199254740992):∃ x:Nat,q+1075=x/\(q+1075).toNat=x/\IntKind.u64.wrap (x:Int)=x/\(q0r Tryz.prog .shl 32 (.int .u64 (x:Int)) (.int .u64 52)=some (.int .u64 ((x*4503599627370496:Nat):Int)))/\IntKind.u64.wrap ((n:Int)-4503599627370496)=((n-4503599627370496:Nat):Int)/\q0q .or .u64 ((x*4503599627370496:Nat):Int) ((n-4503599627370496:Nat):Int)=((x*4503599627370496+(n-4503599627370496):Nat):Int)/\x*4503599627370496+(n-4503599627370496) < 9223372036854775808 :=
 ⟨(q+1075).toNat,ω,rfl,u64_in ω ω,q9y ω,by rw [u64_in ω ω]; omega,qj9 ω ω,ω⟩
def q5H {N M:Nat} {neg more s:Bool} {mode e:Int} (hs:s=decide (((N / M:Nat):Int) < 0)) (hM:0 < M) (hN:M<=N) (hm:more=decide (N % M≠0)) (hmb:more=true->55<=bl (N / M)) (hb:bl (N / M)<=200000) (he1 : -200000<=e) (he2:e<=200000) :
  ACt 149 [bv neg,sT s (N / M:Nat),iv e,bv more,iv mode] (uv (rE mode neg N M e:Nat)):=by
 obtain rfl:s=false:=hs.trans negN;have hp:=xS hN hM;have hL1:=q48 (n:=N / M) Oq;have C1:=@qbq;have C3:=@q3s;have C4:=@qnR;have C5:=@q4N;have C6:=@qgJ
 by_cases ht:1024<=e+(bl (N / M):Int)-1
 .rw [qlt (mode:=mode) (neg:=neg) hM hN (e:=e) ht];obtain ⟨L,hL⟩:∃ L,bl (N / M)=L:=⟨_,rfl⟩;rw [hL] at ht hb hL1;refine ac0 Tryz.func149 Tryz.ntmps149 [.tmp 10] ?_;exact wk1 hL trivial
 .have hval:=qdJ (mode:=mode) (neg:=neg) (e:=e) hM hN;have hnle:=qlu (mode:=mode) (neg:=neg) (e:=e) (q:=max (e+(bl (N / M):Int)-53) (-1074)) hM hN Oq;obtain ⟨L,hL⟩:∃ L,bl (N / M)=L:=⟨_,rfl⟩;rw [hL] at hmb hb hval hnle hL1 ht;obtain ⟨q,hq⟩:∃ q,max (e+(L:Int)-53) (-1074)=q:=⟨_,rfl⟩;rw [hq] at hval hnle;have hq':max (e+(L:Int)-1-52) (-1074)=q:=by omega
  have C2:=λh:e<=q=>qnS (neg:=neg) (mode:=mode) (k:=(q-e).toNat) negN.symm hM hm (λh=>by have:=hmb h; omega) Oq Oq;have hr2:q < e->shI ((N / M:Nat):Int) (e-q)=(rq mode neg (N*2 ^ (e-q).toNat) (M*2 ^ (q-e).toNat):Nat):=λhqe=>by
   have hmo:N % M=0:=by
    cases more
    .simpa using hm.symm
    .have:=hmb rfl; omega
   have hd:N=N / M*M:=by have:=xM N M; rw [uU] at this; omega
   rw [show (q-e).toNat=0 by omega,xK,xE];unfold shI;rw [if_pos ω,q4k (by rw [hd,yU]; exact Nat.mul_mod_left _ _)]
   conv=>rhs; rw [hd,yU,Nat.mul_div_cancel _ hM]
   rw [Int.natCast_mul,q00]
  have hr3:e<=q->N*2 ^ (e-q).toNat=N:=λh=>by rw [show (e-q).toNat=0 by omega,xK,xE]
  obtain ⟨r,hr⟩:∃ r,rq mode neg (N*2 ^ (e-q).toNat) (M*2 ^ (q-e).toNat)=r:=⟨_,rfl⟩;rw [hr] at hval hnle hr2;have hbr:bl r<=54:=q0N (uQ hnle (by decide));have C2':e<=q->ACt _ _ (bT r):=λh=>by
   have:=C2 h;rw [<- hr3 h,hr] at this
   rwa [hr3 h] at this
  rw [hval];generalize N / M=d at *;clear hval hr hr3 C2 hm hmb;unfold Go.Sp.fin Go.Sp.q5c;refine ac0 Tryz.func149 Tryz.ntmps149 [.tmp 10] ?_;refine wk1 (x2 hL hq') ?_;refine A_jn λK hK=>?_;have fin0:∀ (s:Nat->PV) (h:Hp),s 0=bv neg->s 4=iv mode->s 12=iv q->s 13=.pt 13 0 0->h 13=some ⟨42,some 2,[bT r],false⟩->K s h:=by
   intro s h s0 s4 s12 s13 h13;refine hK _ _ ?_; clear hK K;have e2:IntKind.u64.wrap ((r:Nat):Int)=r:=u64_in Oq Oq
   by_cases h53:r=9007199254740992
   .rw [if_pos h53,if_neg ω]
    by_cases hov:2047<=q+1+1075
    .rw [if_pos hov];exact wk1 (x6 s0 s4 s12 s13 h13 h53) trivial
    .rw [if_neg hov];obtain ⟨x,f1,f2,f3,f4,f5,f6,f7⟩:=qad (q+1) 4503599627370496 Oq hov Oq Oq;rw [f2,uW,yM];rw [uW,yM] at f6 f7;replace f6:q0q .or .u64 ((x*4503599627370496:Nat):Int) 0=((x*4503599627370496:Nat):Int):=f6;replace f5:IntKind.u64.wrap 0=0:=f5;have f8:IntKind.i64.wrap (4503599627370496-4503599627370496)=0:=rfl;exact wk1 (x6 s0 s4 s12 s13 h13 (x6 h53 f1 f3 f4 f5 (x2 f6 f8))) trivial
   .rw [if_neg h53]
    by_cases h52:r < 4503599627370496
    .rw [if_pos h52];exact wk1 (x6 s0 s4 s12 s13 h13 e2) trivial
    .rw [if_neg h52]
     by_cases hov:2047<=q+1075
     .rw [if_pos hov];exact wk1 (x6 s0 s4 s12 s13 h13 e2) trivial
     .rw [if_neg hov];obtain ⟨x,f1,f2,f3,f4,f5,f6,f7⟩:=qad q r Oq hov Oq Oq;rw [f2];exact wk1 (x6 s0 s4 s12 s13 h13 (x6 e2 f1 f3 f4 f5 f6)) trivial
  by_cases hqe:e<=q
  .have C2:=C2' hqe;obtain ⟨k,f0⟩:∃ k:Nat,q-e=(k:Int):=⟨(q-e).toNat,ω⟩;rw [show (q-e).toNat=k by omega] at C2;refine wk1 f0 ?_;refine fin0 _ _ ?_ ?_ ?_ ?_ ?_ <;> simp -implicitDefEqProofs (disch:=omega) only [go_sem,Nat.reduceEqDiff,Nat.reduceAdd,↓reduceIte,f0]
  .have f0:=hr2 Oq;refine wk1 f0 ?_;refine fin0 _ _ ?_ ?_ ?_ ?_ ?_ <;> simp -implicitDefEqProofs (disch:=omega) only [go_sem,Nat.reduceEqDiff,Nat.reduceAdd,↓reduceIte,f0]
def qc9 {V mode:Int} (ho:q0d V):ACt 83 [dT V,iv mode] (uv (fR mode V:Nat)):=by
 obtain ⟨hd1,hd2,hd3⟩:=q0z ho;have C1:=q0w ho;have C2:=@q4o;have C3:=@qnT;refine ac0 Tryz.func83 Tryz.ntmps83 [.tmp 4] ?_
 by_cases hz:V=0
 .have q1:((od V).sign == 0)=true:=by rw [hz]; rfl
  rw [show ((fR mode V:Nat):Int)=0 by rw [show fR mode V=0 from if_pos hz]; rfl];exact wk1 q1 trivial
 .have q1:=od_sg hz;have hod:=q3S hz;have C4:=q5H (N:=(od V).natAbs) (M:=1) (neg:=decide (od V < 0)) (more:=false) (s:=false) (mode:=mode) (e:=dyE V) negN.symm Nat.one_pos ω (by rw [x8]; rfl) (λh=>by cases h) (by rw [xT]; omega) ω ω;rw [xT,rE_V hz,q1w,show rF mode (decide (V < 0)) V.natAbs (2 ^ 65536)=fR mode V from (if_neg hz).symm] at C4;rw [<- q1w] at C4;exact wk1 q1 trivial
def q5I {V mode:Int}:ACt 83 [pV V,iv mode] (uv (fR mode V:Nat)):=ac_1x κ λho=>qc9 ho
def q6B {z V mode:Int} (h1 : -9223372036854775808<=z) (h2:z<=9223372036854775807) (hv:mkV z 0=some V):ACt 68 [iv z,iv mode] (uv (fR mode V:Nat)):=by
 have C1:=q3c h1 h2 hv;have C2:=q5I (V:=V) (mode:=mode);refine ac0 Tryz.func68 Tryz.ntmps68 [.tmp 4] ?_;exact wk trivial
def q3H {a:Int} {n:Nat} (h1 : -9223372036854775808<=a) (h2:a<=9223372036854775807) (hn:0 < n) (hn2:n<=9223372036854775807):ACt 23 [iv a,iv n] (iv (q06 a n:Nat)):=by
 have e1:IntKind.u64.wrap a=a % 18446744073709551616:=q0v a;have e2:IntKind.u64.wrap (n:Int)=n:=u64_in Oq Oq;have e3:¬ ((n:Int)=0):=ω
 have hlt:=q3T (a:=a) hn;have e4:(a % 18446744073709551616).tmod (n:Int)=((q06 a n:Nat):Int):=by
  unfold q06;rw [y7 ω,Int.natCast_emod]
  congr 1; omega
 refine ac0 Tryz.func23 Tryz.ntmps23 [.tmp 4] ?_;exact wk1 (x4 e1 e2 e3 e4) trivial
def qcT {raw:List Nat} {k:Int} (hr:raw.length<=9223372036854775807) (h1 : -9223372036854775808<=k) (h2:k<=9223372036854775807):ACt 52 [pF raw,iv k] (uv (q4u raw k:Nat)):=by
 rw [q72 raw k];unfold q8g qkv qkw;have q1:∀ x:Int,q0r Tryz.prog .shr 31 (.int .u64 x) (.int .u64 31)=some (.int .u64 (x.fdiv (2 ^ 31))):=λx=>by rw [q1f,if_neg ω]; rfl
 have q2:∀ x:Int,q0r Tryz.prog .shr 31 (.int .u64 x) (.int .u64 29)=some (.int .u64 (x.fdiv (2 ^ 29))):=λx=>by rw [q1f,if_neg ω]; rfl
 refine ac0 Tryz.func52 Tryz.ntmps52 [.tmp 4] ?_
 by_cases h0:raw.length=0
 .rw [if_pos h0];exact wk1 (x2 q1 q2) trivial
 .rw [if_neg h0];have C1:=q3H (n:=raw.length) h1 h2 Oq hr;have hlt:=q3T (a:=k) (n:=raw.length) Oq;have hx:raw[q06 k raw.length]?=some (raw.getD (q06 k raw.length) 0):=by rw [zB,zA hlt]; rfl
  generalize raw.getD (q06 k raw.length) 0=x at *;generalize q06 k raw.length=m at *;exact wk1 (x3 hx q1 q2) trivial
def qft {x:Nat} (hx:x < 18446744073709551616):ACt 150 [uv x] (uv (flz (q4M x):Nat)):=by
 have hs:=q6d x;have e1:((x:Nat):Int).tmod 19=((x % 19:Nat):Int):=rfl;have e3:IntKind.i64.wrap (((x % 19:Nat):Int)-9)=q4M x:=by rw [i64_in ω ω]; rfl
 have hb:bl (q4M x).natAbs<=4:=q0N (show (q4M x).natAbs < 2 ^ 4 by omega);have C1:=q6B (z:=q4M x) (mode:=0) Oq Oq (q9J Oq);rw [show fR 0 (q4M x*2 ^ 65536)=flz (q4M x) from rfl] at C1;generalize flz (q4M x)=y at *;refine ac0 Tryz.func150 Tryz.ntmps150 [.tmp 2] ?_;exact wk1 (x2 e1 e3) trivial
def qrx {x:Nat} {st:Int} (hx:x < 18446744073709551616) (h1 : -9223372036854775808<=st) (h2:st<=9223372036854775807):ACt 84 [uv x,iv st] (uv (q2v (q06 st 4) x:Nat)):=by
 have C1:=q3H (n:=4) h1 h2 Oq Oq;have hm4:q06 st 4 < 4:=by unfold q06; omega
 generalize q06 st 4=m at *
 rcases (by omega:m=1\/m=2\/m=3\/m=0) with h | h | h | h <;> subst h
 .have a1:q0q .and .u64 (x:Int) 9227875636482146303=((x &&& 9227875636482146303:Nat):Int):=q4C hx (b:=9227875636482146303) Oq;have a2:q0q .and .u64 ((x / 4503599627370496:Nat):Int) 7=((x / 4503599627370496 % 8:Nat):Int):=by
   have:=q4C (a:=x / 4503599627370496) (b:=7) Oq Oq;rw [show x / 4503599627370496 &&& 7=x / 4503599627370496 % 8 from yW _ 3] at this;exact this
  obtain ⟨e,he⟩:∃ e,e=x / 4503599627370496 % 8:=⟨_,rfl⟩;rw [<- he] at a2;have a3:IntKind.u64.wrap (1019+(e:Int))=((1019+e:Nat):Int):=by rw [u64_in (by omega) (by omega)]; omega
  have a4':IntKind.u64.wrap (((1019+e:Nat):Int)*2 ^ min (uI 52) 64)=(((1019+e)*4503599627370496:Nat):Int):=by
   rw [show (2:Int) ^ min (uI 52) 64=4503599627370496 from rfl,u64_in ω ω]; omega
  have ha:x &&& 9227875636482146303 < 18446744073709551616:=uQ Nat.and_le_left hx;have a5:q0q .or .u64 ((x &&& 9227875636482146303:Nat):Int) (((1019+e)*4503599627370496:Nat):Int)=((q2v 1 x:Nat):Int):=by
   rw [qb6 ha ω,he,num_1 hx]
  generalize q2v 1 x=r at *;generalize x &&& 9227875636482146303=y at *;refine ac0 Tryz.func84 Tryz.ntmps84 [.tmp 4] ?_;exact wk1 (x5 a1 a2 a3 a4' a5) trivial
 .have a1:q0q .and .u64 (x:Int) 9225623836668461056=((x &&& 9225623836668461056:Nat):Int):=q4C hx (b:=9225623836668461056) Oq;obtain ⟨e,he⟩:∃ e,e=x / 256 % 81:=⟨_,rfl⟩;have a0:Int.fdiv (x:Int) (2 ^ min (uI 8) 64)=((x / 256:Nat):Int):=by
   rw [show (2:Int) ^ min (uI 8) 64=((256:Nat):Int) from rfl,y8 _ ω]; rfl
  have a2:Int.tmod ((x / 256:Nat):Int) 81=(e:Int):=by rw [he]; rfl
  have a3:IntKind.u64.wrap (983+(e:Int))=((983+e:Nat):Int):=by rw [u64_in (by omega) (by omega)]; omega
  have a4:IntKind.u64.wrap (((983+e:Nat):Int)*2 ^ min (uI 52) 64)=(((983+e)*4503599627370496:Nat):Int):=by
   rw [show (2:Int) ^ min (uI 52) 64=4503599627370496 from rfl,u64_in ω ω]; omega
  have ha:x &&& 9225623836668461056 < 18446744073709551616:=uQ Nat.and_le_left hx;have a5:q0q .or .u64 ((x &&& 9225623836668461056:Nat):Int) (((983+e)*4503599627370496:Nat):Int)=((q2v 2 x:Nat):Int):=by
   rw [qb6 ha ω,he,num_2 hx]
  generalize q2v 2 x=r at *;generalize x &&& 9225623836668461056=y at *;generalize x / 256=z at *;refine ac0 Tryz.func84 Tryz.ntmps84 [.tmp 4] ?_;exact wk1 (x6 a0 a1 a2 a3 a4 a5) trivial
 .have C2:=q5J hx;refine ac0 Tryz.func84 Tryz.ntmps84 [.tmp 4] ?_
  by_cases hfi:q0O x
  .rw [show q2v 3 x=x by unfold q0O at hfi; simp [q2v,hfi]];rw [decide_eq_true hfi] at C2;exact wk trivial
  .rw [show ((q2v 3 x:Nat):Int)=0 by rw [show q2v 3 x=0 by unfold q0O at hfi; simp [q2v]; omega]; rfl];rw [decide_eq_false hfi] at C2;exact wk trivial
 .have C2:=qft hx;rw [show flz (q4M x)=q2v 0 x by simp [q2v]] at C2;generalize q2v 0 x=r at *;refine ac0 Tryz.func84 Tryz.ntmps84 [.tmp 4] ?_;exact wk trivial
def qrw (V:Int):(od V).sign=V.sign:=by
 conv=>rhs; rw [<- q1Q V,xV,zM (q0R _),x9]
section
variable {a b m e V:Int}
def q34 {s:Bool} (hs:s=decide (a < 0)) (ha:bl a.natAbs<=10000000) (h1 : -1048576<=m) (h2:m<=1048576):ACt 203 [sT s a,iv m] (bT (shI a m)):=by
 have C1:=@q7y;refine ac0 Tryz.func203 Tryz.ntmps203 [.cell 4 42] ?_;exact wk trivial
def q71 {s:Bool} {N:Nat} (hs:s=decide (a < 0)) (ha:bl a.natAbs<=10000000) (hn:N<=1048576):ACt 234 [sT s a,iv N] (bT (shI a (-(N:Int)))):=by
 have C1:=@q7y;refine ac0 Tryz.func234 Tryz.ntmps234 [.cell 4 42] ?_;refine wk ?_;refine q0B (λ_:Unit=>True) [1,2,4] [2,4] Lk Lk (λ_=>[]) (λ_=>[]) (λ_=>0) () trivial ?_ ?_
 .refine LeM [] rfl rfl ?_;exact Zy
 .intro _ _;exact wk1 @Int.zero_sub trivial
def qsD {D:Nat->Prop} {v:Value} {w:World} (h:Rd w D (.ag [bv false,bv false,q0T,iv 0]) (λ_=>none) h0 v):Rd w D (dT 0) (λ_=>none) h0 v:=by
 unfold Rd at h;obtain ⟨vs,rfl,h1⟩:=h;obtain ⟨_,_,_,_,rfl,h2,h3,h4,h5⟩:=rd_4 h1;rw [q8u h2,q8u h3,q8u h4,q8u h5];have h6:In (fV 0) D (.agg #[.bool false,.bool false,.slice none 0 0,.int .i64 0]) w:=⟨false,none,0,0,rfl,⟨rfl,U32.nil⟩,by simp [q0d,q0m]⟩;exact (q3a.2 h6).1
def qpe {s:Bool} (hs:s=decide (m < 0)) (hb:bl m.natAbs<=1000000) (he1 : -1000000<=e) (he2:e<=1000000) (hv:mkV m e=some V):ACt 190 [.ag [bv false,bv s,.fm (fL m),iv e]] (.tu [dT V,bv true]):=by
 have C1:=@qgi;have C2:=@q3i
 by_cases hz:m=0
 .obtain rfl:V=0:=by rw [hz,q21] at hv; exact (z6.inj hv).symm
  refine qk9 (r:=.tu [.ag [bv false,bv false,q0T,iv 0],bv true]) (λD w v h=>?_) ?_
  .unfold Rd at h ⊢;obtain ⟨vs,rfl,h1⟩:=h;obtain ⟨_,_,rfl,h2,h3⟩:=rd_2 h1;refine ⟨_,rfl,?_⟩;unfold RdL;exact ⟨_,_,rfl,qsD h2,RdL.one h3⟩
  .have e1:(m.sign == 0)=true:=by rw [hz]; rfl
   refine ac0 Tryz.func190 Tryz.ntmps190 [.cell 2 46,.tmp 3] ?_;exact wk1 e1 trivial
 .have hz':(m.sign == 0)=false:=by
   rw [beq_eq_false_iff_ne]; intro h0; exact hz (zK.1 h0)
  obtain ⟨hv1,hv2,hv3⟩:=q6k hz hv;obtain ⟨hv4,hv5,_,hv6⟩:=q6H hv;have htl:=qfn (n:=m.natAbs) Oq;have hbo:=q92 hz;have C3:=@qjy;have C4:=@q2w;have C5:=@q71;have f1:=(qlc m).trans hv4.symm;have f2:=(hv5 hz).2.symm;refine ac0 Tryz.func190 Tryz.ntmps190 [.cell 2 46,.tmp 3] ?_;exact wk1 (x3 hz' f1 f2) trivial
def qbO (hV:q0d V):ACt 190 [dT V] (.tu [dT V,bv true]):=by
 obtain ⟨h1,h2,h3⟩:=q0z hV;exact qpe rfl Oq Oq Oq (qaT hV)
def q6W (hV:q0d V):ACt 209 [dT V] (dT V):=by
 have C1:=qbO hV;refine ac0 Tryz.func209 Tryz.ntmps209 [.cell 2 46] ?_;exact wk trivial
def q33 (hV:q0d V):ACt 156 [dT V] (iv V.sign):=by
 have C1:=qbO hV;have C2:=@q3i;have:=(q0z hV).2.2;refine ac0 Tryz.func156 Tryz.ntmps156 [.tmp 2] ?_;exact wk1 (qrw V) trivial
def qks (hV:q0d V):ACt 192 [dT V] (dT (-V)):=by
 have C1:=qbO hV;have C2:=@q9P;have:=(q0z hV).2.2;have f1:=(qjd V).symm;have f2:=qe9 V;refine ac0 Tryz.func192 Tryz.ntmps192 [.cell 2 46] ?_;exact wk1 (x2 f1 f2) trivial
def q4g {s:Bool} (hs:s=decide (m < 0)) (hb:bl m.natAbs<=1000000) (he1 : -1000000<=e) (he2:e<=1000000) (hv:mkV m e=some V):ACt 131 [sT s m,iv e] (dT V):=by
 have C1:=qpe hs hb he1 he2 hv;refine ac0 Tryz.func131 Tryz.ntmps131 [.cell 4 46] ?_;exact wk trivial
def qcQ (ha:q0d a) (hb:q0d b):ACt 195 [dT a,dT b] (.tu [dT a,dT b,bv true]):=by
 have C1:=qbO ha;have C2:=qbO hb;refine ac0 Tryz.func195 Tryz.ntmps195 [.cell 4 46,.cell 5 46,.tmp 6] ?_;exact wk trivial
def q8e (ha:q0d a) (hb:q0d b) (hv:mkV (a*b) (-131072)=some V):ACt 121 [dT a,dT b] (dT V):=by
 obtain ⟨ha1,ha2,ha3⟩:=q0z ha;obtain ⟨hb1,hb22,hb33⟩:=q0z hb;have hmul:=q2P (od a).natAbs (od b).natAbs;rw [<- y6] at hmul;have C1:=qcQ ha hb;have C2:=@qmg;have C3:=q4g (m:=od a*od b) (e:=dyE a+dyE b) rfl Oq Oq Oq ((qd6 a b).trans hv);refine ac0 Tryz.func121 Tryz.ntmps121 [.cell 4 46] ?_;exact wk trivial
end
abbrev reT (neg:Bool) (q:Nat) (e:Int) (inx:Bool):PV:=.ag [bv neg,bv false,.fm (fL q),iv e,bv inx]
section
variable {neg inx:Bool} {q k:Nat} {e p:Int}
def qfb (hb:bl q<=1000000) (he1 : -1000000<=e) (he2:e<=1000000):ACt 246 [reT neg q e inx] (iv (e+bl q-1)):=by
 have C1:=@q2w;refine ac0 Tryz.func246 Tryz.ntmps246 [.tmp 2] ?_;exact wk trivial
def qkt (hq:q≠0) (hb:bl q<=1000000) (hk:0 < k) (hk2:k<=5000000):ACt 275 [reT neg q e inx,iv k] (.tu [bT (q / 2 ^ k:Nat),iv (Go.Sp.hf q k inx),bv (decide (q % 2 ^ k=0) && !inx)]):=by
 have C1:=@q2w
 by_cases hkb:bl q < k
 .have hqp:=q1y q;have hp1:2 ^ bl q<=2 ^ (k-1):=yK Oq Oq;have hp2:2 ^ (k-1)<=2 ^ k:=yK Oq Oq;have hmod:q % 2 ^ k=q:=xI Oq;have hdiv:q / 2 ^ k=0:=Nat.div_eq_of_lt Oq;have hhf:Go.Sp.hf q k inx = -1:=by
   unfold Go.Sp.hf;have:(((q % 2 ^ k:Nat):Int)-2 ^ (k-1)).sign = -1:=by
    refine z8 ?_;rw [hmod,<- q00]; omega
   rw [this]; simp
  have hex:(decide (q % 2 ^ k=0) && !inx)=false:=by rw [hmod,decide_eq_false hq]; rfl
  rw [hdiv,hhf,hex];refine ac0 Tryz.func275 Tryz.ntmps275 [.cell 4 42,.tmp 5,.tmp 6] ?_;exact wk trivial
 .have C2:=@q71;have C3:=@q34;have C4:=@qmf;have C5:=@q24;have C6:=@qds;have C7:=@q3i;have hsh:shI ((q:Nat):Int) (-(k:Int))=((q / 2 ^ k:Nat):Int):=by
   unfold shI; rw [if_neg ω,show (- -(k:Int)).toNat=k by omega,<- q00]; rfl
  have hql:bl (q / 2 ^ k)<=1000000:=zW (q0t (yQ _ _)) hb;have hsl:shI ((q / 2 ^ k:Nat):Int) (k:Int)=((q / 2 ^ k*2 ^ k:Nat):Int):=by
   unfold shI; rw [if_pos ω,zF,<- q00]; simp
  have hbm:bl (q / 2 ^ k*2 ^ k)<=1000000:=zW (q0t (Nat.div_mul_le_self _ _)) hb;have hrs:((q:Nat):Int)-((q / 2 ^ k*2 ^ k:Nat):Int)=((q % 2 ^ k:Nat):Int):=by
   have:=xM q (2 ^ k);rw [uU] at this; omega
  have hbr:bl (q % 2 ^ k)<=1000000:=zW (q0t (uX _ _)) hb;have hs1:shI 1 ((k:Int)-1)=(2:Int) ^ (k-1):=by
   unfold shI; rw [if_pos ω,show ((k:Int)-1).toNat=k-1 by omega,Int.one_mul]
  have hb1:bl ((2:Int) ^ (k-1)).natAbs<=k:=by
   rw [natAbs_pow]; exact q0N (Nat.pow_lt_pow_right ω ω)
  have hb2:bl (1:Int).natAbs<=1:=by show bl 1<=_; rw [q8Y]; omega
  have sE:(((q % 2 ^ k:Nat):Int).sign == 0)=decide (q % 2 ^ k=0):=by
   by_cases h0:q % 2 ^ k=0
   .rw [h0]; rfl
   .rw [decide_eq_false h0,beq_eq_false_iff_ne];intro h; exact h0 (by have:=zK.1 h; omega)
  have hhf:Go.Sp.hf q k inx=if (((q % 2 ^ k:Nat):Int)-2 ^ (k-1)).sign=0/\inx=true then 1 else (((q % 2 ^ k:Nat):Int)-2 ^ (k-1)).sign:=rfl
  rw [hhf];generalize hr:q % 2 ^ k=r at *;generalize hz:q / 2 ^ k=z at *;generalize hw:z*2 ^ k=zw at *;generalize hP:(2:Int) ^ (k-1)=P at *;refine ac0 Tryz.func275 Tryz.ntmps275 [.cell 4 42,.tmp 5,.tmp 6] ?_;refine wk1 (x4 hsh hsl hrs hs1) ?_
  by_cases hS:((r:Int)-P).sign=0
  .rw [hS];cases inx
   .rw [if_neg λh=>Bool.noConfusion h.2]
    by_cases h0:r=0
    .exact wk1 (x2 sE (decide_eq_true h0)) trivial
    .exact wk1 (x2 sE (decide_eq_false h0)) trivial
   .rw [if_pos ⟨rfl,rfl⟩]
    by_cases h0:r=0
    .exact wk1 (x2 sE (decide_eq_true h0)) trivial
    .exact wk1 (x2 sE (decide_eq_false h0)) trivial
  .rw [if_neg λh=>hS h.1]
   by_cases h0:r=0
   .exact wk1 (x2 sE (decide_eq_true h0)) trivial
   .exact wk1 (x2 sE (decide_eq_false h0)) trivial
def qfa (hq:q≠0) (hb:bl q<=900000) (he1 : -900000<=e) (he2:e<=900000) (hp1 : -100000<=p) (hp2:p<=1000000):ACt 248 [reT neg q e inx,iv p,iv 0] (bT (sgn neg (qmV q e p inx))):=by
 have C1:=@q34;have C2:=@q9P;have s0:∀ n:Nat,sgn false n=n:=λn=>rfl;have s1:∀ n:Nat,sgn true n = -(n:Int):=λn=>rfl
 by_cases hpe:p<=e
 .have hsl:shI ((q:Nat):Int) (e-p)=((q*2 ^ (e-p).toNat:Nat):Int):=by
   unfold shI; rw [if_pos ω,<- q00]; simp
  have hbq:bl (q*2 ^ (e-p).toNat)<=2000000:=by rw [q1R hq]; omega
  rw [show qmV q e p inx=q*2 ^ (e-p).toNat from if_pos hpe];generalize q*2 ^ (e-p).toNat=z at *;refine ac0 Tryz.func248 Tryz.ntmps248 [.cell 6 42] ?_;cases neg
  .exact wk1 (x2 hsl s0) trivial
  .exact wk1 (x2 hsl s1) trivial
 .obtain ⟨k,hk⟩:∃ k:Nat,p-e=k:=⟨(p-e).toNat,by omega⟩;have hbq:bl (q / 2 ^ k)<=2000000:=zW (q0t (yQ _ _)) Oq;have C3:=qkt (neg:=neg) (inx:=inx) (e:=e) (q:=q) (k:=k) hq Oq Oq Oq;have C4:=@q24;have C5:=@qdt;have C6:=@q3i;have C7:=@qjy;have hb2:bl (1:Int).natAbs<=1:=by show bl 1<=_; rw [q8Y]; omega
  have hm:qmV q e p inx=q / 2 ^ k+(if ¬ (q % 2 ^ k=0/\inx=false)/\(0 < Go.Sp.hf q k inx\/(Go.Sp.hf q k inx=0/\q / 2 ^ k % 2=1)) then 1 else 0):=by
   unfold qmV; rw [if_neg hpe,show (p-e).toNat=k by omega]
  generalize qmV q e p inx=m at *;generalize Go.Sp.hf q k inx=H at *;generalize hr:q % 2 ^ k=r at *;generalize hz:q / 2 ^ k=z at *;have hbz:bl ((z:Int)+1).natAbs<=2000001:=by
   have:=q80 (k:=2000000) (a:=z) (b:=1) ω (by rw [q8Y]; omega);exact this
  have e2:((z+1:Nat):Int)=(z:Int)+1:=rfl;refine ac0 Tryz.func248 Tryz.ntmps248 [.cell 6 42] ?_
  by_cases hex:r=0/\inx=false
  .have f:(decide (r=0) && !inx)=true:=by simp [hex]
   rw [if_neg λh=>h.1 hex,yM] at hm;subst hm;cases neg
   .exact wk1 (x3 hk f s0) trivial
   .exact wk1 (x3 hk f s1) trivial
  .have f:(decide (r=0) && !inx)=false:=by
    rw [Bool.and_eq_false_iff]
    by_cases h:r=0
    .exact .inr (by cases inx <;> simp_all)
    .exact .inl (decide_eq_false h)
   by_cases hh:0 < H
   .rw [if_pos ⟨hex,.inl hh⟩] at hm;subst hm;cases neg
    .exact wk1 (x4 hk f s0 e2) trivial
    .exact wk1 (x4 hk f s1 e2) trivial
   .by_cases h0:H=0
    .by_cases hodd:z % 2=1
     .rw [if_pos ⟨hex,.inr ⟨h0,hodd⟩⟩] at hm;subst hm;have q3:(((z:Nat):Int).sign != 0)=true:=by rw [zM ω]; rfl
      have q4:(((tz z:Nat):Int) == 0)=true:=by rw [q9l hodd]; rfl
      cases neg
      .exact wk1 (x6 hk f q3 q4 s0 e2) trivial
      .exact wk1 (x6 hk f q3 q4 s1 e2) trivial
     .rw [if_neg λh=>h.2.elim hh λh=>hodd h.2,yM] at hm;subst hm
      by_cases hz0:m=0
      .have q3:(((m:Nat):Int).sign != 0)=false:=by rw [hz0]; rfl
       cases neg
       .exact wk1 (x4 hk f q3 s0) trivial
       .exact wk1 (x4 hk f q3 s1) trivial
      .have q3:(((m:Nat):Int).sign != 0)=true:=by rw [zM ω]; rfl
       have q4:(((tz m:Nat):Int) == 0)=false:=by
        rw [beq0];refine decide_eq_false λh0=>hodd ?_;obtain ⟨r,hr,he⟩:=q2c hz0;rw [h0,xK,xE] at he;omega
       cases neg
       .exact wk1 (x5 hk f q3 q4 s0) trivial
       .exact wk1 (x5 hk f q3 q4 s1) trivial
    .rw [if_neg λh=>h.2.elim hh λh=>h0 h.1,yM] at hm;subst hm;cases neg
     .exact wk1 (x3 hk f s0) trivial
     .exact wk1 (x3 hk f s1) trivial
end
def qcR {a b:Int} (hA:q0d a) (hB:q0d b) (ha:a≠0) (hb:b≠0):∃ k:Nat,(bl (od b).natAbs+58 < bl ((od a).natAbs*2 ^ k)/\k<=140000/\bl ((od a).natAbs*2 ^ k)<=140000) /\
  ACt 211 [dT a,dT b,iv 56] (reT (decide (a < 0) != decide (b < 0)) ((od a).natAbs*2 ^ k / (od b).natAbs) (dyE a-k-dyE b) (decide ((od a).natAbs*2 ^ k % (od b).natAbs≠0))):=by
 obtain ⟨ha1,ha2,ha3⟩:=q0z hA;obtain ⟨hb1,hb2,hb3⟩:=q0z hB;have hoa:=q3S ha;have hob:=q3S hb;rw [<- q1w a,<- q1w b];have C1:=@q2w;have C2:=@q9S;have C3:=@q34;have C4:=@qbh;have C5:=@q3i;obtain ⟨p,hp⟩:∃ p,(od a).natAbs=p:=⟨_,rfl⟩;obtain ⟨r,hr⟩:∃ r,(od b).natAbs=r:=⟨_,rfl⟩;have hbp:=hp ▸ ha3;have hbr:=hr ▸ hb3;rw [hp,hr];have hp0:p≠0:=ω
 have hr0:r≠0:=ω
 obtain ⟨k,hk⟩:∃ k:Nat,max 0 (56+3+((bl r:Nat):Int)-((bl p:Nat):Int))=k:=⟨(max 0 (56+3+((bl r:Nat):Int)-((bl p:Nat):Int))).toNat,ω⟩;have hbN:bl (p*2 ^ k)=bl p+k:=q1R hp0 k;refine ⟨k,⟨ω,ω,ω⟩,?_⟩;have hsh:shI ((p:Nat):Int) (k:Int)=((p*2 ^ k:Nat):Int):=by
  unfold shI; rw [if_pos ω,zF,<- q00]; simp
 have hml:bl (p*2 ^ k % r)<=300000:=zW (q0t (uX _ _)) Oq;have sE:(((p*2 ^ k % r:Nat):Int).sign != 0)=decide (p*2 ^ k % r≠0):=by
  by_cases h0:p*2 ^ k % r=0
  .rw [h0]; rfl
  .rw [decide_eq_true h0,bne_iff_ne];intro h; exact h0 (by have:=zK.1 h; omega)
 refine ac0 Tryz.func211 Tryz.ntmps211 [.cell 6 240] ?_;exact wk1 (x6 hp hr @qjn hk hsh sE) trivial
def clD {l:List Int}:ClL (l.map λx=>dT x):=λx hx=>by
 obtain ⟨z,_,rfl⟩:=zR.1 hx;intro y hy;simp at hy
 rcases hy with rfl | rfl | rfl | rfl <;> trivial
def q6V {l:List Int} (hn:l.length<=1000) (ho:∀ x ∈ l,q0d x) (hv:q0d (q1l l)):ACt 122 [.sl (some 4) (l.map λV=>pV V)] (dT (q1l l)):=by
 refine ac0 Tryz.func122 Tryz.ntmps122 [.cell 2 46] ?_;refine wk ?_;refine q0B (λq:Nat × Int=>q.1<=l.length /\ -65536<=q.2/\q.2<=0/\∀ x ∈ l.take q.1,q.2<=dyE x) [0,2,12,13] [2] Lk Lk (λq=>[(14,iv q.1),(4,iv q.2),(3,.ow 1001 (some 4) 0 q.1)]) (λq=>[(1001,⟨46,some 4,(l.take q.1).map λx=>dT x,false⟩)]) (λq=>l.length-q.1) (0,0) ⟨zJ _,ω,ω,λx hx=>by simp at hx⟩ ?_ ?_
 .refine LeM [(1001,none)] rfl rfl ?_;refine Zz ?_
  rfl
 .rintro ⟨i,lo⟩ ⟨hi,hlo1,hlo2,hmin⟩;simp only at hi hlo1 hlo2 hmin ⊢
  by_cases hlt:i < l.length
  .obtain ⟨x,hxi⟩:∃ x,l[i]?=some x:=⟨_,zA Oq⟩;have hox:=ho x (zG hxi);obtain ⟨hd1,hd2,hd3⟩:=q0z hox;have C1:=qp5 κ λh=>qbO h (V:=x);have htk:l.take (i+1)=l.take i ++ [x]:=by
    obtain ⟨hlt,he⟩:=zD.1 hxi;rw [uM hlt,he]
   have ht:(l.take i).length=i:=by rw [yX]; omega
   refine wk1 (x3 hxi @qjm ht) ?_;refine ⟨(i+1,min lo (dyE x)),⟨by simp only; omega,by simp only; omega,by simp only; omega,λy hy=>?_⟩,by simp only; omega,?_⟩
   .simp only at hy ⊢;rw [htk] at hy
    rcases zN.1 hy with hy | hy
    .have:=hmin y hy; omega
    .simp at hy; subst hy; omega
   .simp only;refine LeM [(1001,some 33)] rfl rfl ?_;refine Zz ?_;exact ⟨ω,q0G (by rw [htk,yR]; rfl) clD⟩
  .obtain rfl:i=l.length:=ω
   rw [uL] at hmin;refine wk ?_;refine q0B (λq:Nat × Int=>q.1<=l.length/\q.2*(2:Int) ^ (lo+65536).toNat=q1l (l.take q.1)) [2,4,9,35,36] [2,1001] Lk Lk (λq=>[(37,iv q.1)]) (λq=>[(9,⟨42,some 2,[bT q.2],false⟩)]) (λq=>l.length-q.1) (0,0) ⟨zJ _,by rw [yL]; rfl⟩ ?_ ?_
   .refine LeM [] rfl rfl ?_;refine Zz ?_;exact ⟨rfl,rfl,q0G rfl clD⟩
   .rintro ⟨j,tot⟩ ⟨hj,hs⟩;simp only at hj hs ⊢;have hbs:=qiz (i:=j) ho Oq;have hbt:=q3z hs
    by_cases hlt:j < l.length
    .obtain ⟨x,hxi⟩:∃ x,l[j]?=some x:=⟨_,zA Oq⟩;have hox:=ho x (zG hxi);obtain ⟨hd1,hd2,hd3⟩:=q0z hox;have hst:=q5A l j x hxi;have hlo:=hmin x (zG hxi);have hsh:shI (od x) (dyE x-lo)=od x*(2:Int) ^ (dyE x-lo).toNat:=by unfold shI; rw [if_pos ω]
     have hlf:=q20 (V:=x) (E:=lo) Oq Oq;have hb12:=q3z hlf;have hbx:bl x.natAbs<=131072:=hox;have C1:=@q34;have C2:=@qdt;refine wk1 (x2 hxi hsh) ?_;refine ⟨(j+1,tot+od x*(2:Int) ^ (dyE x-lo).toNat),⟨by simp only; omega,by simp only; rw [hst,x7,hs,hlf]⟩,by simp only; omega,?_⟩;simp only;refine LeM [] rfl rfl ?_;refine Zz ?_;exact ⟨ω,q0G rfl clD⟩
    .obtain rfl:j=l.length:=ω
     rw [uL] at hs hbs hbt;have C1:=@q4g;have hmk:mkV tot lo=some (q1l l):=by rw [q6l ω hs]; exact q3e hv
     exact wk trivial
section
variable {f:Nat} {neg:Bool}
def q5X (hf:f < 18446744073709551616):ACt 155 [uv f] (.tu [iv (f / 4503599627370496 % 2048:Nat),uv (f % 4503599627370496:Nat)]):=by
 have h1:=q4p (a:=f / 4503599627370496) Oq;have h2:=qbE hf;refine ac0 Tryz.func155 Tryz.ntmps155 [.tmp 2,.tmp 3] ?_;exact wk1 (x2 h1 h2) trivial
def qnN (hf:f < 18446744073709551616):ACt 193 [uv f] (bv (decide (9223372036854775808<=f))):=by
 have h2:=qdY hf;refine ac0 Tryz.func193 Tryz.ntmps193 [.tmp 2] ?_;exact wk1 h2 trivial
def q6M (hf:f < 9223372036854775808):ACt 249 [uv f,bv neg] (uv (sb neg f:Nat)):=by
 have h:=qdT hf;refine ac0 Tryz.func249 Tryz.ntmps249 [.tmp 4] ?_;cases neg
 .exact wk1 (show sb false f=f from rfl) trivial
 .exact wk1 (x2 h (show sb true f=f+9223372036854775808 from rfl)) trivial
def q6y (hf:f < 18446744073709551616):ACt 88 [uv f] (bv (decide (q0O f))):=by
 have C1:=q5X hf;have h2:(((f / 4503599627370496 % 2048:Nat):Int) != 2047)=decide (q0O f):=bneN (b:=2047);refine ac0 Tryz.func88 Tryz.ntmps88 [.tmp 2] ?_;exact wk1 h2 trivial
def qhj:ACt 250 [bv neg,iv 0] (uv (q8a 0 neg:Nat)):=by
 have C1:=q6M (f:=9218868437227405312) (neg:=neg) Oq;have e:q8a 0 neg=sb neg 9218868437227405312:=by simp [q8a]
 refine ac0 Tryz.func250 Tryz.ntmps250 [.tmp 4] ?_;exact wk1 e trivial
def q8H {V:Int} (hf:f < 18446744073709551616) (hv:ofF f=some V):ACt 113 [uv f] (dT V):=by
 have hfin:q0O f:=λh=>by unfold ofF at hv; rw [if_pos h] at hv; cases hv
 obtain ⟨V',hv',hmk⟩:=q9E hfin;rw [hv] at hv'; cases hv';have C1:=q5X hf;have C2:=qnN hf;have C3:=@q24;have C4:=@q9P;have C5:=@q4g;have hxm:=yY (f / 4503599627370496) (show 0 < 2048 by omega);have hm:=yY f (show 0 < 4503599627370496 by omega);unfold q0O at hfin;generalize f / 4503599627370496 % 2048=x at *;generalize f % 4503599627370496=m at *;generalize decide (9223372036854775808<=f)=sg at *;have h4:=qj8 hm;obtain ⟨M,hM⟩:∃ M,M=if x=0 then m else 4503599627370496+m:=⟨_,rfl⟩
 have hMl:M < 9007199254740992:=by rw [hM]; split <;> omega
 have hbl:bl M<=53:=q0N (show M < 2 ^ 53 by omega);have hbn:bl (-(M:Int)).natAbs<=53:=by rw [y9]; exact hbl
 refine ac0 Tryz.func113 Tryz.ntmps113 [.cell 2 46] ?_
 by_cases hx0:x=0
 .rw [if_pos hx0] at hM;subst hM;rw [if_pos hx0,if_pos hx0] at hmk;cases sg
  .exact wk trivial
  .exact wk trivial
 .rw [if_neg hx0] at hM;rw [if_neg hx0,if_neg hx0,<- hM] at hmk;rw [<- hM] at h4;cases sg
  .exact wk1 h4 trivial
  .exact wk1 h4 trivial
end
def qmh {a:Int} {s:Bool} (hs:s=decide (a < 0)) (h0:0<=a) (ha:a<=9223372036854775807):ACt 247 [sT s a] (.tu [iv a,bv true]):=q3E (qgl hs h0 ha)
def q5W {N M:Nat} {neg:Bool} {e:Int} (hM:0 < M) (hN:M<=N) (hmb:N % M≠0->55<=bl (N / M)) (hb:bl (N / M)<=200000) (he1 : -400000<=e) (he2:e<=400000):ACt 210 [reT neg (N / M) e (decide (N % M≠0)),iv 0] (uv (rE 0 neg N M e:Nat)):=by
 have hp:=xS hN hM;have hL1:=q48 (n:=N / M) Oq;have hval:=qdJ (mode:=0) (neg:=neg) (e:=e) hM hN;have hnle:=qlu (mode:=0) (neg:=neg) (e:=e) (q:=max (e+(bl (N / M):Int)-53) (-1074)) hM hN Oq;have hmul:=qmU (neg:=neg) (e:=e) (p:=max (e+(bl (N / M):Int)-53) (-1074)) hM (λh=>by have:=hmb h; omega);have C1:=qfb (neg:=neg) (q:=N / M) (e:=e) (inx:=decide (N % M≠0)) Oq Oq Oq;obtain ⟨L,hL⟩:∃ L,bl (N / M)=L:=⟨_,rfl⟩;rw [hL] at hmb hb hval hnle hmul hL1 C1;obtain ⟨q,hq⟩:∃ q,max (e+(L:Int)-53) (-1074)=q:=⟨_,rfl⟩;rw [hq] at hval hnle hmul;have hq':max (e+(L:Int)-1-52) (-1074)=q:=by omega
 have C2:=qfa (neg:=neg) (inx:=decide (N % M≠0)) (q:=N / M) (e:=e) (p:=q) Oq Oq Oq Oq Oq Oq;rw [hmul] at C2;obtain ⟨r,hr⟩:∃ r,rq 0 neg (N*2 ^ (e-q).toNat) (M*2 ^ (q-e).toNat)=r:=⟨_,rfl⟩;rw [hr] at hval hnle C2;have hbr:bl r<=54:=q0N (uQ hnle (by decide));have hsn:=q13 neg r;have hbs:bl (sgn neg r).natAbs<=54:=by rw [hsn]; exact hbr
 have C3:=@q9S;have C4:=@qmh;have C5:=@q6M;have C6:=@qhj;have e2:IntKind.u64.wrap ((r:Nat):Int)=r:=u64_in Oq Oq;rw [hval];generalize N / M=d at *;generalize decide (N % M≠0)=ix at *;clear hmul hmb hp hval hr;unfold Go.Sp.fin Go.Sp.q5c;have comp:∀ (q2:Int) (n2:Nat),0<=q2+1075->¬ 2047<=q2+1075->4503599627370496<=n2->n2 < 9007199254740992->∃ x:Nat,q2+1075=x/\(q2+1075).toNat=x/\IntKind.u64.wrap (x:Int)=x/\(q0r Tryz.prog .shl 32 (.int .u64 (x:Int)) (.int .u64 52)=some (.int .u64 ((x*4503599627370496:Nat):Int)))/\IntKind.u64.wrap ((n2:Int)-4503599627370496)=((n2-4503599627370496:Nat):Int)/\q0q .or .u64 ((x*4503599627370496:Nat):Int) ((n2-4503599627370496:Nat):Int)=((x*4503599627370496+(n2-4503599627370496):Nat):Int)/\x*4503599627370496+(n2-4503599627370496) < 9223372036854775808:=λq2 n2 h1 h2 h3 h4 =>
  ⟨(q2+1075).toNat,ω,rfl,u64_in ω ω,q9y ω,by rw [u64_in ω ω]; omega,qj9 ω ω,ω⟩
 refine ac0 Tryz.func210 Tryz.ntmps210 [.tmp 4] ?_
 by_cases h53:r=9007199254740992
 .rw [if_pos h53,if_neg ω]
  by_cases hov:2047<=q+1+1075
  .rw [if_pos hov];exact wk1 (x3 hq' hsn e2) trivial
  .rw [if_neg hov];obtain ⟨x,f1,f2,f3,f4,f5,f6,f7⟩:=comp (q+1) 4503599627370496 Oq hov Oq Oq;rw [f2,uW,yM];rw [uW,yM] at f6 f7;replace f5:IntKind.u64.wrap (4503599627370496-4503599627370496)=0:=f5;replace f6:q0q .or .u64 ((x*4503599627370496:Nat):Int) 0=((x*4503599627370496:Nat):Int):=f6;exact wk1 (x6 hq' hsn e2 f1 f3 (x3 f4 f5 f6)) trivial
 .rw [if_neg h53]
  by_cases h52:r < 4503599627370496
  .rw [if_pos h52];exact wk1 (x3 hq' hsn e2) trivial
  .rw [if_neg h52]
   by_cases hov:2047<=q+1075
   .rw [if_pos hov];exact wk1 (x3 hq' hsn e2) trivial
   .rw [if_neg hov];obtain ⟨x,f1,f2,f3,f4,f5,f6,f7⟩:=comp q r Oq hov Oq Oq;rw [f2];exact wk1 (x6 hq' hsn e2 f1 f3 (x3 f4 f5 f6)) trivial
def qnM {a b:Int} (hA:q0d a) (hB:q0d b) (hb0:b≠0):ACt 129 [dT a,dT b,iv 0] (uv (fQ 0 a b:Nat)):=by
 have C1:=q6W hA;have C2:=q6W hB;have C3:=q33 hA;have C4:=q33 hB;have q1:(b.sign == 0)=false:=by
  rw [beq_eq_false_iff_ne]; intro h; exact hb0 (zK.1 h)
 refine ac0 Tryz.func129 Tryz.ntmps129 [.tmp 6] ?_
 by_cases ha0:a=0
 .have q2:(a.sign == 0)=true:=by rw [ha0]; rfl
  rw [show ((fQ 0 a b:Nat):Int)=0 by rw [show fQ 0 a b=0 from if_pos ha0]; rfl];exact wk1 (x2 q1 q2) trivial
 .have q2:(a.sign == 0)=false:=by
   rw [beq_eq_false_iff_ne]; intro h; exact ha0 (zK.1 h)
  obtain ⟨k,⟨c1,c2,c3⟩,C5⟩:=qcR hA hB ha0 hb0;have hob:=q3S hb0;have hd1:=q0z hA;have hd2:=q0z hB;have hge:=q8Z (N:=(od a).natAbs*2 ^ k) (M:=(od b).natAbs) Oq (k:=57) Oq;have hle:bl ((od a).natAbs*2 ^ k / (od b).natAbs)<=140000:=zW (q0t (yQ _ _)) c3;have hMN:(od b).natAbs<=(od a).natAbs*2 ^ k:=by
   rcases xW ((od a).natAbs*2 ^ k) (od b).natAbs with h | h
   .have:=q0t (xX h); omega
   .exact h
  have C6:=q5W (neg:=decide (a < 0) != decide (b < 0)) (e:=dyE a-k-dyE b) Oq hMN (λ_=>by omega) Oq Oq Oq;rw [qj4 ha0 hb0,show rF 0 (decide (a < 0) != decide (b < 0)) a.natAbs b.natAbs=fQ 0 a b from (if_neg ha0).symm] at C6;exact wk1 (x2 q1 q2) trivial
end Go.Proofs.YtbjoghfmhgadkaaGreatDoor
namespace Go.E
open Go
section
variable {G:Fam} {D:Nat->Prop} {A:Option Addr} {v:Value} {w w':World} {L:List Nat} {α:Type} {H:α->Fam} {T sz B n c:Nat} {l:List α}
end
end Go.E
namespace Go.Proofs.YtbjoghfmhgadkaaGreatDoor
open Go Go.E Go.Sp
section
variable {f:Nat} {w:World}
end
section
variable {g:FuncId} {al:List PV} {vs:List Value} {V:Int} {c:Value} {D:Nat->Prop} {w:World} {v v':Value} {a b:Int}
end
def fins (l:List Nat):Prop:=∀ f ∈ l,f < 18446744073709551616/\q0O f
section
variable {D:Nat->Prop} {A:Option Addr} {n c:Nat} {l:List Nat} {w:World}
def q29 (n:Nat):List Int:=(List.range n).map λk:Nat=>(k:Int)
def qcY (n:Nat):q29 (n+1)=q29 n ++ [(n:Int)]:=by unfold q29; rw [xN,yR]; rfl
def q62 (n:Nat):(q29 n).length=n:=by simp [q29]
end
end Go.Proofs.YtbjoghfmhgadkaaGreatDoor
namespace Go.E
open Go
end Go.E
namespace Go.Proofs.YtbjoghfmhgadkaaGreatDoor
open Go Go.E Go.Sp
def qtD (l:List Int):Prop:=(∀ x ∈ l,0<=x/\x < l.length)/\l.Nodup
section
variable {D:Nat->Prop} {A:Option Addr} {n c:Nat} {l:List Int} {w:World}
end
end Go.Proofs.YtbjoghfmhgadkaaGreatDoor
namespace Go.E
open Go Go.Sp
section
variable {D:Nat->Prop} {A:Option Addr} {n c:Nat} {w:World}
end
end Go.E
namespace Go.Proofs.YtbjoghfmhgadkaaGreatDoor
open Go Go.E Go.Sp
structure Fac where
 pm:List Int
 cp:List Int
 ri:List Int
 vs:List Nat
section
variable {D:Nat->Prop} {L:List Nat} {N0 g n:Nat} {rows:List (List Int)} {ss:List (Option Addr × Nat × Nat)} {w w':World}
end
section
variable {D:Nat->Prop} {L:List Nat} {N0 g n i:Nat} {rows:List (List Int)} {ss:List (Option Addr × Nat × Nat)} {w w2 w3:World} {A A':Option Addr} {m c m' c':Nat} {r r':List Int}
end
section
variable {D:Nat->Prop} {L:List Nat} {N0 g n i:Nat} {rows:List (List Int)} {ss:List (Option Addr × Nat × Nat)} {w w2 w3:World} {r:List Int} {x y:Nat} {a b V:Int}
end
def rows0 (vals:List Int) (i n:Nat):List (List Int):=(vals.take i).map (λV=>[V]) ++ List.replicate (n-i) []
end Go.Proofs.YtbjoghfmhgadkaaGreatDoor
namespace Go.Sp
open Go Go.E
def q3R (raw:List Nat):Nat->List Int
 | 0=>[]
 | i+1=>(q3R raw i).take (q06 ((q4u raw (700+i) / 2:Nat):Int) (i+1)) ++ [(i:Int)] ++ (q3R raw i).drop (q06 ((q4u raw (700+i) / 2:Nat):Int) (i+1))
def q5K (raw:List Nat):∀ n,(q3R raw n).length=n
 | 0=>rfl
 | n+1=>by
  have ih:=q5K raw n;have:=q3T (a:=((q4u raw (700+n) / 2:Nat):Int)) (n:=n+1) Oq;unfold q3R;simp only [zP,yX,List.length_drop,yH,ih];omega
def q6i (raw:List Nat):∀ n (x:Int),x ∈ q3R raw n->0<=x/\x < n
 | 0,x,h=>by simp [q3R] at h
 | n+1,x,h=>by
  unfold q3R at h;rw [zN,zN] at h
  rcases h with (h | h) | h
  .have:=q6i raw n x (List.mem_of_mem_take h); omega
  .simp at h; omega
  .have:=q6i raw n x (List.mem_of_mem_drop h); omega
def q7j (raw:List Nat):∀ n,(q3R raw n).Nodup
 | 0=>by simp [q3R]
 | n+1=>by
  have ih:=q7j raw n;unfold q3R;generalize q06 _ _=p;have hp:((q3R raw n).take p ++ [(n:Int)] ++ (q3R raw n).drop p).Perm ((n:Int) :: q3R raw n):=by
   rw [xF];have h1:((q3R raw n).take p ++ (n:Int) :: (q3R raw n).drop p).Perm ((n:Int) :: ((q3R raw n).take p ++ (q3R raw n).drop p)):=List.perm_middle;rw [List.take_append_drop] at h1;exact h1
  rw [hp.nodup_iff,List.nodup_cons];exact ⟨λh=>by have:=q6i raw n _ h; omega,ih⟩
end Go.Sp
namespace Go.Proofs.YtbjoghfmhgadkaaGreatDoor
open Go.Sp
def qaP (raw:List Nat) (n:Nat):qtD (q3R raw n):=⟨λx hx=>by rw [q5K]; exact q6i raw n x hx,q7j raw n⟩
end Go.Proofs.YtbjoghfmhgadkaaGreatDoor
namespace Go.Sp
open Go Go.E
def ofZ (x:Nat):Int:=(ofF x).getD 0
def q4J (x y:Nat):Int:=(mkV (ofZ x*ofZ y) (-131072)).getD 0
def q2Z {f:Nat} (hf:q0O f):∃ (m:Int) (k:Nat),ofF f=some (m*(2:Int) ^ k)/\bl m.natAbs<=53/\64462<=k/\k<=66507:=by
 unfold q0O at hf;have hx:=yY (f / 4503599627370496) (show 0 < 2048 by omega);have hm:=yY f (show 0 < 4503599627370496 by omega);unfold ofF;rw [if_neg hf];generalize f / 4503599627370496 % 2048=x at *;generalize f % 4503599627370496=m at *;have h53:∀ n:Nat,n < 9007199254740992->bl n<=53:=λn h=>q0N (yS h (zX _))
 split
 .exact ⟨_,64462,rfl,by rw [q13]; exact h53 _ Oq,ω,ω⟩
 .exact ⟨_,64461+x,rfl,by rw [q13]; exact h53 _ Oq,ω,ω⟩
def q03 {f:Nat} {V:Int} (h:ofF f=some V):ofZ f=V:=by unfold ofZ; rw [h]; rfl
def q1S {f:Nat} (hf:q0O f):ofF f=some (ofZ f):=by
 obtain ⟨m,k,h,_⟩:=q2Z hf;rw [q03 h,h]
def q46 {f:Nat} (hf:q0O f):bl (ofZ f).natAbs<=67600:=by
 obtain ⟨m,k,h,h1,h2,h3⟩:=q2Z hf;rw [q03 h]
 by_cases hm:m=0
 .subst hm; rw [yL]; simp [q0m]
 .rw [q0M,q1R ω]; omega
def q4m {x y:Nat} (hx:q0O x) (hy:q0O y):mkV (ofZ x*ofZ y) (-131072)=some (q4J x y)/\bl (q4J x y).natAbs<=67600:=by
 obtain ⟨m,k,h,h1,h2,h3⟩:=q2Z hx;obtain ⟨m',k',h',h1',h2',h3'⟩:=q2Z hy;have e:ofZ x*ofZ y=m*m'*(2:Int) ^ (k+k'):=by
  rw [q03 h,q03 h',uK];simp only [xH,Int.mul_left_comm,Int.mul_comm]
 unfold q4J;rw [e,q2O]
 by_cases hM:m*m'=0
 .rw [hM,q21]; exact ⟨rfl,by simp [q0m]⟩
 .have hb:bl (m*m').natAbs<=106:=by
   rw [y6];exact zW (q2P _ _) Oq
  generalize m*m'=M at *;have ht:=qfn (n:=M.natAbs) Oq;unfold mkV;rw [if_neg hM,if_pos ω];refine ⟨rfl,?_⟩;have ho:=q92 hM;have hne:=q3S hM;rw [yN,q0M,q1R ω];omega
end Go.Sp
namespace Go.Proofs.YtbjoghfmhgadkaaGreatDoor
open Go Go.E Go.Sp
def getD_some {α:Type} {l:List α} {i:Nat} {x d:α} (h:l[i]?=some x):l.getD i d=x:=by rw [zB,h]; rfl
def q44 {x:Nat} {V:Int} (hx:x < 18446744073709551616) (hv:ofF x=some V):ACt 33 [uv x] (pV V):=by
 obtain ⟨V',hv',hmk⟩:=q9E (f:=x) λh=>by unfold ofF at hv; rw [if_pos h] at hv; cases hv
 rw [hv] at hv'; cases hv';exact q8w (q3E (qrv hx hv)) (q6H hmk).2.2.2
def clI {l:List Int}:ClL (l.map λz=>iv z):=λx hx=>by
 obtain ⟨e,_,rfl⟩:=zR.1 hx
 trivial
def q8p {a:Int} (ha:bl a.natAbs<=20000000):ACt 76 [bT a] (bT a.natAbs):=q3E (q6h ha)
def qlR {a:Int} (ha:bl a.natAbs<=20000000):ACt 105 [bT a] (bT (-a)):=q3E (qaH rfl ha)
def qd5 {V:Int} (h:q0d V):mkV (-od V) (dyE V)=some (-V):=by
 have:=qaT (qhr h)
 rwa [qjd,qe9] at this
def qmY {V:Int} (h:q0d V):mkV ((od V).natAbs:Int) (dyE V)=some (V.natAbs:Int):=by
 have hs:=q1w V
 by_cases hv:V < 0
 .rw [decide_eq_true hv] at hs;have ho:od V < 0:=of_decide_eq_true hs;rw [show ((od V).natAbs:Int) = -od V by omega,show (V.natAbs:Int) = -V by omega];exact qd5 h
 .rw [decide_eq_false hv] at hs;have ho:¬ od V < 0:=of_decide_eq_false hs;rw [show ((od V).natAbs:Int)=od V by omega,show (V.natAbs:Int)=V by omega];exact qaT h
def qnV {V:Int}:ACt 44 [pV V] (pV (-V)):=qp5 qu3 λho=>by
 have hb:=q27 ho;have h1:=q8K (V:=V);have h2:=q6N ho;have cN:=q0w ho;have cB:=qlR (a:=od V) Oq;have cM:=q3t rfl (m := -od V) (e:=dyE V) (by rw [y9]; omega) ω ω (qd5 ho);unfold dT at cN ⊢;unfold bT at cB cM;refine ac0 Tryz.func44 Tryz.ntmps44 [.cell 2 46] ?_;exact wk trivial
def q9X {V:Int}:ACt 46 [pV V] (pV (V.natAbs:Int)):=qp5 qu2 λho=>by
 have hb:=q27 ho;have h1:=q8K (V:=V);have h2:=q6N ho;have cN:=q0w ho;have cB:=q8p (a:=od V) Oq;have cM:=q3t rfl (m:=((od V).natAbs:Int)) (e:=dyE V) (by rw [zS]; omega) ω ω (qmY ho);unfold dT at cN ⊢;unfold bT at cB cM;refine ac0 Tryz.func46 Tryz.ntmps46 [.cell 2 46] ?_;exact wk trivial
def q19 {a:Int} (ha:bl a.natAbs<=20000000):ACt 106 [bT a] (iv a.sign):=q4o rfl ha
def q4z {a m:Int} (ha:bl a.natAbs<=20000000) (h1 : -1000000000<=m) (h2:m<=1000000000):ACt 107 [bT a,iv m] (bT (shI a m)):=q3s rfl ha h1 h2
structure Aln (A B x y e:Int):Prop where
 e1 : -65536<=e
 e2:e<=65536
 a:x*(2:Int) ^ (e+65536).toNat=A
 b:y*(2:Int) ^ (e+65536).toNat=B
def qdi {x V:Int} {k:Nat} (h:x*(2:Int) ^ k=V) (hv:q0d V):bl x.natAbs<=131072:=by
 subst h;unfold q0d at hv;rw [q0M] at hv
 by_cases h0:x.natAbs=0
 .rw [h0]; simp [bl]
 .rw [q1R h0] at hv; omega
def Aln.bl {A B x y e:Int} (h:Aln A B x y e) (ha:q0d A) (hb:q0d B):Sp.bl x.natAbs<=131072/\Sp.bl y.natAbs<=131072:=⟨qdi h.a ha,qdi h.b hb⟩
def q6b {a b:Int} (h1 : -65536<=a/\a<=65536) (h2 : -65536<=b/\b<=65536):IntKind.i64.wrap (a-b)=a-b:=i64_in Oq Oq
def qee {A B:Int} (hA:q0d A) (hB:q0d B):∃ x y e,ACt 108 [dT A,dT B] (.tu [bT x,bT y,iv e])/\Aln A B x y e:=by
 have a1:=q8K (V:=A);have a2:=q6N hA;have b1:=q8K (V:=B);have b2:=q6N hB;have a3:=q27 hA;have b3:=q27 hB;have sA:=q19 (a:=od A) Oq;have sB:=q19 (a:=od B) Oq;have shA:=q4z (a:=od A) (m:=dyE A-dyE B) Oq Oq Oq;have shB:=q4z (a:=od B) (m:=dyE B-dyE A) Oq Oq Oq;have wA:=q6b (a:=dyE A) (b:=dyE B) Oq Oq;have wB:=q6b (a:=dyE B) (b:=dyE A) Oq Oq;unfold bT at *
 by_cases hA0:od A=0
 .have e1:((od A).sign == 0)=true:=by rw [hA0]; rfl
  refine ⟨od A,od B,dyE B,?_,⟨b1,ω,?_,?_⟩⟩
  .unfold dT;refine ac0 Tryz.func108 Tryz.ntmps108 [.cell 4 42,.cell 5 42,.tmp 6] ?_;exact wk1 e1 trivial
  .have:A=0:=by
    have:=q1Q A;rw [hA0] at this; simpa using this.symm
   rw [hA0,this]; simp
  .have:=q20 b1 (xG (dyE B));simpa using this
 have e1:((od A).sign == 0)=false:=by simpa [zK] using hA0
 by_cases hB0:od B=0
 .have e2:((od B).sign == 0)=true:=by rw [hB0]; rfl
  refine ⟨od A,od B,dyE A,?_,⟨a1,ω,?_,?_⟩⟩
  .unfold dT;refine ac0 Tryz.func108 Tryz.ntmps108 [.cell 4 42,.cell 5 42,.tmp 6] ?_;exact wk1 (x2 e1 e2) trivial
  .have:=q20 a1 (xG (dyE A));simpa using this
  .have:B=0:=by
    have:=q1Q B;rw [hB0] at this; simpa using this.symm
   rw [hB0,this]; simp
 have e2:((od B).sign == 0)=false:=by simpa [zK] using hB0
 by_cases hlt:dyE B < dyE A
 .refine ⟨shI (od A) (dyE A-dyE B),od B,dyE B,?_,⟨b1,ω,?_,?_⟩⟩
  .unfold dT;refine ac0 Tryz.func108 Tryz.ntmps108 [.cell 4 42,.cell 5 42,.tmp 6] ?_;exact wk1 (x4 e1 e2 hlt wA) trivial
  .unfold shI;rw [if_pos ω];exact q20 b1 Oq
  .have:=q20 b1 (xG (dyE B));simpa using this
 .refine ⟨od A,shI (od B) (dyE B-dyE A),dyE A,?_,⟨a1,ω,?_,?_⟩⟩
  .unfold dT;refine ac0 Tryz.func108 Tryz.ntmps108 [.cell 4 42,.cell 5 42,.tmp 6] ?_;exact wk1 (x4 e1 e2 hlt wB) trivial
  .have:=q20 a1 (xG (dyE A));simpa using this
  .unfold shI;rw [if_pos ω];exact q20 a1 Oq
def qui {a b:Int} {k:Nat} (ha:bl a.natAbs<=k) (hb:bl b.natAbs<=k):bl (a-b).natAbs<=k+1:=by
 have h1:=q2Q ha;have h2:=q2Q hb;exact qez.2 (by rw [Nat.pow_succ]; omega)
def qlQ {a b:Int} (ha:bl a.natAbs<=20000000) (hb:bl b.natAbs<=20000000):ACt 147 [bT a,bT b] (bT (a-b)):=q3E (qaG rfl rfl ha hb)
def qlS {a b:Int} (ha:bl a.natAbs<=10000000) (hb:bl b.natAbs<=10000000):ACt 77 [bT a,bT b] (iv (a-b).sign):=by
 have cS:=qlQ (a:=a) (b:=b) Oq Oq;have cG:=q19 (a:=a-b) (by have:=qui ha hb; omega);unfold bT at *;refine ac0 Tryz.func77 Tryz.ntmps77 [.tmp 4] ?_;exact wk trivial
def qam {V:Int}:ACt 160 [pV V] (iv V.sign):=qp5 qkZ λho=>by
 have hb:=q27 ho;have cN:=q0w ho;have cS:=q19 (a:=od V) Oq;have es:(od V).sign=V.sign:=by
  conv=>rhs; rw [<- q1Q V,xV,zM (q0R _),x9]
 rw [es] at cS;unfold dT at cN ⊢;unfold bT at cS;refine ac0 Tryz.func160 Tryz.ntmps160 [.tmp 2] ?_;exact wk trivial
def Aln.sgn {A B x y e:Int} (h:Aln A B x y e):(x-y).sign=(A-B).sign:=by
 rw [<- h.a,<- h.b,<- Int.sub_mul,xV,zM (q0R _),x9]
def qnW {A B:Int}:ACt 95 [pV A,pV B] (.tu [iv (A-B).sign,bv true]):=ac_2 qu0 λ⟨hA,hB⟩=>by
 have cA:=q0w hA;have cB:=q0w hB;obtain ⟨x,y,e,cL,hL⟩:=qee hA hB;obtain ⟨l1,l2⟩:=hL.bl hA hB;have cC:=qlS (a:=x) (b:=y) Oq Oq;rw [hL.sgn] at cC;unfold dT at cA cB cL ⊢;unfold bT at cL cC;refine ac0 Tryz.func95 Tryz.ntmps95 [.tmp 4,.tmp 5] ?_;exact wk trivial

def q4E (l:List Int) (n:Int):Prop:=(l.length:Int)=n/\(∀ x ∈ l,0<=x/\x < n)/\l.Nodup
def q5D (l:List Int) (i:Nat):List Bool:=(List.range l.length).map λk:Nat=>decide ((k:Int) ∈ l.take i)
def qaB {l:List Int} {i:Nat}:(q5D l i).length=l.length:=by simp [q5D]
def qjV {l:List Int}:List.replicate l.length false=q5D l 0:=by simp [q5D,yZ]
def qaC {l:List Int} {i k:Nat} (hk:k < l.length):(q5D l i)[k]?=some (decide ((k:Int) ∈ l.take i)):=by simp [q5D,hk]
def qaA {l:List Int} {i k:Nat} (hi:l[i]?=some (k:Int)):(q5D l i).set k true=q5D l (i+1):=by
 obtain ⟨hlt,he⟩:=zD.1 hi
 apply z9
 intro m;rw [yA];simp only [q5D,zH,uN,z7,uM hlt,he,zN,List.mem_singleton]
 by_cases hm:m < l.length
 .rw [zC hm]
  by_cases hkm:k=m
  .subst hkm; simp [hm]
  .rw [if_neg hkm]; simp; omega
 .rw [zY (by simp; omega)]
  by_cases hkm:k=m <;> simp [hkm] <;> omega
open Classical in
def qgI {l:List Int} {n:Int} (hn : -1000000<=n/\n<=1000000):ACt 157 [pI l,iv n] (bv (decide (q4E l n))):=by
 refine ac0 Tryz.func157 Tryz.ntmps157 [.tmp 4] ?_;refine wk ?_
 by_cases hl:(l.length:Int)=n
 .subst hl;have e1:((l.length:Int) != l.length)=false:=σ
  refine wk1 e1 ?_;refine q0B (λi=>i<=l.length/\(∀ x ∈ l.take i,0<=x/\x < l.length)/\(l.take i).Nodup) [0,1,5] [] Lk Lk (λi:Nat=>[(6,iv i)]) (λi=>[(12,⟨4,none,(q5D l i).map λz=>bv z,false⟩)]) (λi=>l.length-i) 0 ⟨zJ _,σ,σ⟩ ?_ ?_
  .refine LeM [] rfl rfl ?_;refine Zz ?_;exact ⟨rfl,qjV⟩
  .rintro i ⟨hi,hr,hd⟩;refine wk ?_
   by_cases hlt:i < l.length
   .have hlt':(i:Int) < l.length:=ω
    refine wk1 hlt' ?_;obtain ⟨x,hx⟩:∃ x,l[i]?=some x:=⟨_,zA hlt⟩;have hmem:=zG hx;have ht:l.take (i+1)=l.take i ++ [x]:=by rw [uM hlt]; congr 2; exact z6.inj ((zA hlt).symm.trans hx)
    refine wk ?_
    by_cases hx0:x < 0
    .refine wk1 (x2 hx hx0) ?_;exact (decide_eq_false λh=>by have:=(h.2.1 x hmem).1; omega).symm
    .obtain ⟨k,rfl⟩:∃ k:Nat,x=k:=⟨x.toNat,ω⟩
     by_cases hxn:(l.length:Int)<=k
     .refine wk1 (x3 hx hx0 hxn) ?_;exact (decide_eq_false λh=>by have:=(h.2.1 _ hmem).2; omega).symm
     .have hk:k < l.length:=ω
      have hs:=qaC (i:=i) hk
      by_cases hm:(k:Int) ∈ l.take i
      .refine wk1 (x5 hx hx0 hxn hs hm) ?_;refine (decide_eq_false λh=>?_).symm;have:=(h.2.2.sublist (List.take_sublist (i+1) l));rw [ht,yJ] at this;exact this.2.2 _ hm _ σ rfl
      .refine wk1 (x6 hx hx0 hxn hs hm @qaB) ?_;refine ⟨i+1,⟨ω,?_,?_⟩,ω,?_⟩
       .rw [ht];intro y hy
        rcases zN.1 hy with hy | hy
        .exact hr y hy
        .simp at hy; subst hy; omega
       .rw [ht,yJ];exact ⟨hd,σ,λa ha b hb e=>by simp at hb; subst hb; subst e; exact hm ha⟩
       .refine LeM [] rfl rfl ?_;refine Zz ?_;exact ⟨ω,qaA hx⟩
   .have hlt':¬ (i:Int) < l.length:=ω
    have hil:i=l.length:=ω
    refine wk1 hlt' ?_;rw [hil,uL] at hr hd;exact (decide_eq_true ⟨rfl,hr,hd⟩).symm
 .have e1:((l.length:Int) != n)=true:=by simpa using hl
  refine wk1 e1 ?_;exact (decide_eq_false λh=>hl h.1).symm
def q2f {α:Type} {l:List α} {i:Nat} {x:α} (hx:l[i]?=some x):l.take (i+1)=l.take i ++ [x]:=by
 obtain ⟨h1,h2⟩:=zD.1 hx;rw [uM h1,h2]
def qfq {α:Type} {p:α->Prop} {l:List α} {i:Nat} {x:α} (hx:l[i]?=some x) (h:∀ y ∈ l.take i,p y) (hp:p x):∀ y ∈ l.take (i+1),p y:=by
 rw [q2f hx];intro y hy
 rcases zN.1 hy with hy | hy
 .exact h y hy
 .simp at hy; subst hy; exact hp
open Classical in
def qb4 {l:List Nat} (hl:l.length<=9223372036854775807) (hu:∀ x ∈ l,x < 18446744073709551616):ACt 137 [pF l] (bv (decide (∀ x ∈ l,q0O x))):=by
 refine ac0 Tryz.func137 Tryz.ntmps137 [.tmp 2] ?_;refine wk ?_;refine q0B (λi=>i<=l.length/\∀ x ∈ l.take i,q0O x) [0] [] Lk Lk (λi:Nat=>[(3,iv i)]) (λ_=>[]) (λi=>l.length-i) 0 ⟨zJ _,σ⟩ ?_ ?_
 .refine LeM [] rfl rfl ?_;refine Zz ?_
  rfl
 .rintro i ⟨hi,hr⟩;refine wk ?_
  by_cases hlt:i < l.length
  .have hlt':(i:Int) < l.length:=ω
   refine wk1 hlt' ?_;obtain ⟨x,hx⟩:∃ x,l[i]?=some x:=⟨_,zA hlt⟩;have hm:=zG hx;have C1:=(q5J (hu x hm));refine wk1 hx ?_
   by_cases hf:q0O x
   .refine wk1 hf ?_;refine ⟨i+1,⟨ω,qfq hx hr hf⟩,ω,?_⟩;refine LeM [] rfl rfl ?_;refine Zz ?_;omega
   .refine wk1 hf ?_;exact (decide_eq_false λh=>hf (h x hm)).symm
  .have hlt':¬ (i:Int) < l.length:=ω
   refine wk1 hlt' ?_;obtain rfl:i=l.length:=ω
   rw [uL] at hr;exact (decide_eq_true hr).symm
def q3G (rows cols:Int) (st ix:List Int) (vl:List Nat):PV:=.ag [iv rows,iv cols,pI st,pI ix,pF vl]
structure MSz (rows cols:Int) (ix:List Int):Prop where
 r0:¬ rows < 0
 r1:¬ 200 < rows
 c0:¬ cols < 0
 c1:¬ 200 < cols
 i1:¬ (10000:Int) < ix.length
structure MPt (cols:Int) (st ix:List Int) (vl:List Nat):Prop where
 v:vl.length=ix.length
 s:(st.length:Int)=cols+1
 f:st[0]?=some 0
 l:st[cols.toNat]?=some (ix.length:Int)
 m:∀ (j:Nat) (x y:Int),st[j]?=some x->st[j+1]?=some y->x<=y
def MIx1 (rows:Int) (ix:List Int) (x:Int) (k:Nat):Prop:=∀ v,ix[k]?=some v->0<=v/\v < rows/\(x < k->∀ u,ix[k-1]?=some u->u < v)
def MIx (rows:Int) (st ix:List Int):Prop:=∀ (j:Nat) (x y:Int),st[j]?=some x->st[j+1]?=some y->∀ k:Nat,x<=k->(k:Int) < y->MIx1 rows ix x k
open Classical in
noncomputable def q30 (rows cols:Int) (st ix:List Int) (vl:List Nat):Int :=
 if MSz rows cols ix then (if MPt cols st ix vl/\MIx rows st ix then (if ∀ x ∈ vl,q0O x then 0 else 4) else 1) else 6
def MPt.nn {cols:Int} {st ix:List Int} {vl:List Nat} (h:MPt cols st ix vl):∀ (j:Nat) (x:Int),st[j]?=some x->0<=x
 | 0,x,hx=>by rw [h.f] at hx; cases hx; omega
 | j+1,x,hx=>by
  have hlt:=(zD.1 hx).1;have hj:st[j]?=some st[j]:=zA Oq;have:=h.m j _ _ hj hx;have:=h.nn j _ hj;omega
def MPt.ub {cols:Int} {st ix:List Int} {vl:List Nat} (h:MPt cols st ix vl) (hc:0<=cols):∀ (d j:Nat) (x:Int),j+d=cols.toNat->st[j]?=some x->x<=ix.length
 | 0,j,x,hd,hx=>by
  have:j=cols.toNat:=ω
  subst this;rw [h.l] at hx; cases hx; omega
 | d+1,j,x,hd,hx=>by
  have hlt:j+1 < st.length:=by have:=h.s; omega
  have hj:st[j+1]?=some st[j+1]:=zA hlt;have:=h.m j _ _ hx hj;have:=h.ub hc d (j+1) _ Oq hj;omega
def qaI {rows cols:Int} {st ix:List Int} {vl:List Nat} (hl:st.length<=9223372036854775807) (hli:ix.length<=9223372036854775807) (hlv:vl.length<=9223372036854775807) (hu:∀ x ∈ vl,x < 18446744073709551616) :
  ACt 72 [q3G rows cols st ix vl] (iv (q30 rows cols st ix vl)):=by
 have c6:¬ MSz rows cols ix->q30 rows cols st ix vl=6:=λh=>if_neg h;have c1:MSz rows cols ix->¬ (MPt cols st ix vl/\MIx rows st ix)->q30 rows cols st ix vl=1:=λh h2=>by unfold q30; rw [if_pos h,if_neg h2]
 have c0:MSz rows cols ix->MPt cols st ix vl/\MIx rows st ix->q30 rows cols st ix vl=if ∀ x ∈ vl,q0O x then 0 else 4:=λh h2=>by unfold q30; rw [if_pos h,if_pos h2]
 generalize q30 rows cols st ix vl=res at *;unfold q3G;refine ac0 Tryz.func72 Tryz.ntmps72 [.tmp 2] ?_;refine wk ?_
 by_cases h1:rows < 0
 .refine wk1 h1 ?_;rw [c6 λh=>h.r0 h1]
 by_cases h2:200 < rows
 .refine wk1 (x2 h1 h2) ?_;rw [c6 λh=>h.r1 h2]
 by_cases h3:cols < 0
 .refine wk1 (x3 h1 h2 h3) ?_;rw [c6 λh=>h.c0 h3]
 by_cases h4:200 < cols
 .refine wk1 (x4 h1 h2 h3 h4) ?_;rw [c6 λh=>h.c1 h4]
 by_cases h5:(10000:Int) < ix.length
 .refine wk1 (x5 h1 h2 h3 h4 h5) ?_;rw [c6 λh=>h.i1 h5]
 refine wk1 (x5 h1 h2 h3 h4 h5) ?_;have hz:MSz rows cols ix:=⟨h1,h2,h3,h4,h5⟩;obtain ⟨n,rfl⟩:∃ n:Nat,cols=n:=⟨cols.toNat,ω⟩;refine wk ?_;have w0:IntKind.i64.wrap ((n:Int)+1)=(n:Int)+1:=i64_in Oq Oq
 by_cases hv:vl.length=ix.length
 case neg =>
  have e1:((vl.length:Int) != ix.length)=true:=by simp; omega
  refine wk1 e1 ?_;rw [c1 hz λh=>hv h.1.v]
 have e1:((vl.length:Int) != ix.length)=false:=by simp; omega
 by_cases hs:st.length=n+1
 case neg =>
  have e2:((st.length:Int) != (n:Int)+1)=true:=by simp; omega
  refine wk1 (x3 e1 w0 e2) ?_;rw [c1 hz λh=>by have:=h.1.s; omega]
 have e2:((st.length:Int) != (n:Int)+1)=false:=by simp; omega
 obtain ⟨x0,hx0⟩:∃ x,st[0]?=some x:=⟨_,zA Oq⟩;obtain ⟨xn,hxn⟩:∃ x,st[n]?=some x:=⟨_,zA Oq⟩
 by_cases h0:x0=0
 case neg =>
  have e3:(x0 != 0)=true:=by simpa using h0
  refine wk1 (x5 e1 w0 e2 hx0 e3) ?_;rw [c1 hz λh=>by have:=h.1.f; rw [hx0] at this; exact h0 (z6.inj this)]
 subst h0;have e3:((0:Int) != 0)=false:=rfl
 by_cases hn:xn=ix.length
 case neg =>
  have e4:(xn != (ix.length:Int))=true:=by simpa using hn
  refine wk1 (x6 e1 w0 e2 hx0 e3 (x2 hxn e4)) ?_;rw [c1 hz λh=>by have:=h.1.l; rw [zF,hxn] at this; exact hn (z6.inj this)]
 subst hn;have e4:((ix.length:Int) != (ix.length:Int))=false:=σ
 refine wk1 (x6 e1 w0 e2 hx0 e3 (x2 hxn e4)) ?_;have hp:∀ {j:Nat} {x:Int},(∀ (j:Nat) (x y:Int),st[j]?=some x->st[j+1]?=some y->x<=y)->MPt n st ix vl:=λhm=>⟨hv,ω,hx0,by rw [zF]; exact hxn,hm⟩;refine q7Y [1,3,4] Lk ?_;refine wk ?_;refine q0B (λi=>i<=n/\∀ j x y,j < i->st[j]?=some x->st[j+1]?=some y->x<=y) [1] [1] Lk Lk (λi:Nat=>[(4,iv i)]) (λ_=>[]) (λi=>n-i) 0 ⟨zJ _,ω⟩ ?_ ?_
 .refine LeM [] rfl rfl ?_;refine Zz ?_
  rfl
 .rintro i ⟨hi,hr⟩;refine wk ?_
  by_cases hlt:i < n
  .have hlt':(i:Int) < n:=ω
   refine wk1 hlt' ?_;obtain ⟨x,hx⟩:∃ x,st[i]?=some x:=⟨_,zA Oq⟩;obtain ⟨y,hy⟩:∃ x,st[i+1]?=some x:=⟨_,zA Oq⟩;have wi:IntKind.i64.wrap ((i:Int)+1)=((i+1:Nat):Int):=by rw [i64_in ω ω]; omega
   by_cases hxy:y < x
   .refine wk1 (x4 hx hy wi hxy) ?_;rw [c1 hz λh=>by have:=h.1.m i x y hx hy; omega]
   .refine wk1 (x4 hx hy wi hxy) ?_;refine ⟨i+1,⟨ω,λj x' y' hj hx' hy'=>?_⟩,ω,?_⟩
    .by_cases hji:j=i
     .subst hji;rw [hx] at hx'; rw [hy] at hy';cases hx'; cases hy'; omega
     .exact hr j x' y' Oq hx' hy'
    .refine LeM [] rfl rfl ?_;exact Zy
  .have hlt':¬ (i:Int) < n:=ω
   refine wk1 hlt' ?_;obtain rfl:i=n:=ω
   have hP:MPt i st ix vl:=⟨hv,ω,hx0,by rw [zF]; exact hxn,λj x y hx hy=>hr j x y (by have:=(zD.1 hy).1; omega) hx hy⟩;clear hr hp hlt hlt';refine wk ?_;refine q0B (λj=>j<=i/\∀ j' x y,j' < j->st[j']?=some x->st[j'+1]?=some y->∀ k:Nat,x<=k->(k:Int) < y->MIx1 rows ix x k) [1] [1] Lk Lk (λj:Nat=>[(5,iv j)]) (λ_=>[]) (λj=>i-j) 0 ⟨zJ _,ω⟩ ?_ ?_
   .refine LeM [] rfl rfl ?_;refine Zz ?_
    rfl
   .rintro j ⟨hj,hr⟩;refine wk ?_
    by_cases hlt:j < i
    .have hlt':(j:Int) < i:=ω
     refine wk1 hlt' ?_;obtain ⟨x,hx⟩:∃ x,st[j]?=some x:=⟨_,zA Oq⟩;obtain ⟨y,hy⟩:∃ x,st[j+1]?=some x:=⟨_,zA Oq⟩;have wi:IntKind.i64.wrap ((j:Int)+1)=((j+1:Nat):Int):=by rw [i64_in ω ω]; omega
     have hxy:=hP.m j x y hx hy;obtain ⟨a,rfl⟩:∃ a:Nat,x=a:=⟨x.toNat,by have:=hP.nn j x hx; omega⟩;obtain ⟨b,rfl⟩:∃ b:Nat,y=b:=⟨y.toNat,ω⟩;have hb:b<=ix.length:=by have:=hP.ub ω (i-(j+1)) (j+1) b (by rw [zF]; omega) hy; omega
     refine wk1 hx ?_;refine q0B (λk=>a<=k/\k<=b/\∀ k':Nat,a<=k'->k' < k->MIx1 rows ix a k') [1,5] [1] Lk Lk (λk:Nat=>[(6,iv k)]) (λ_=>[]) (λk=>b-k) a ⟨zX _,ω,ω⟩ ?_ ?_
     .refine LeM [] rfl rfl ?_;exact Zy
     .rintro k ⟨hk,hkb,hrk⟩;refine wk ?_
      by_cases hltk:k < b
      .have hltk':(k:Int) < b:=ω
       refine wk1 (x3 wi hy hltk') ?_;obtain ⟨v,hv⟩:∃ v,ix[k]?=some v:=⟨_,zA Oq⟩;have fin:(¬ (0<=v/\v < rows/\((a:Int) < k->∀ u,ix[k-1]?=some u->u < v)))->res=1:=λhb'=>c1 hz λh=>hb' (h.2 j a b hx hy k Oq Oq v hv);have ok:0<=v->v < rows->((a:Int) < k->∀ u,ix[k-1]?=some u->u < v)->∀ k':Nat,a<=k'->k' < k+1->MIx1 rows ix a k':=λq1 q2 q3 k' hk' hk1=>by
        by_cases hkk:k'=k
        .subst hkk;intro v' hv';rw [hv] at hv'; cases hv';exact ⟨q1,q2,q3⟩
        .exact hrk k' hk' Oq
       by_cases hv0:v < 0
       .refine wk1 (x2 hv hv0) ?_;rw [fin λh=>by omega]
       .by_cases hvr:rows<=v
        .refine wk1 (x3 hv hv0 hvr) ?_;rw [fin λh=>by omega]
        .by_cases hak:(a:Int) < k
         .obtain ⟨k,rfl⟩:∃ k',k=k'+1:=⟨k-1,ω⟩;obtain ⟨u,hu⟩:∃ v,ix[k]?=some v:=⟨_,zA Oq⟩;have wk:IntKind.i64.wrap (((k+1:Nat):Int)-1)=k:=by rw [i64_in ω ω]; omega
          by_cases huv:v<=u
          .refine wk1 (x6 hv hv0 hvr hx hak (x3 @wk hu huv)) ?_;rw [fin λh=>by have:=h.2.2 hak u hu; omega]
          .refine wk1 (x6 hv hv0 hvr hx hak (x3 @wk hu huv)) ?_;refine ⟨k+1+1,⟨ω,ω,ok Oq Oq λ_ u' hu'=>?_⟩,ω,?_⟩
           .rw [xA,hu] at hu'; cases hu'; omega
           .refine LeM [] rfl rfl ?_;refine Zz ?_;omega
         .refine wk1 (x5 hv hv0 hvr hx hak) ?_;refine ⟨k+1,⟨ω,ω,ok Oq Oq λh=>absurd h hak⟩,ω,?_⟩;refine LeM [] rfl rfl ?_;refine Zz ?_;omega
      .have hltk':¬ (k:Int) < b:=ω
       refine wk1 (x3 wi hy hltk') ?_;refine ⟨j+1,⟨ω,λj' x' y' hj' hx' hy' k' h1' h2'=>?_⟩,ω,?_⟩
       .by_cases hji:j'=j
        .subst hji;rw [hx] at hx'; rw [hy] at hy';cases hx'; cases hy';exact hrk k' Oq Oq
        .exact hr j' x' y' Oq hx' hy' k' h1' h2'
       .refine LeM [] rfl rfl ?_;exact Zy
    .have hlt':¬ (j:Int) < i:=ω
     refine wk1 hlt' ?_;obtain rfl:j=i:=ω
     have hX:MIx rows st ix:=λj' x y hx hy=>hr j' x y (by have:=(zD.1 hy).1; omega) hx hy;have c0:=c0 hz ⟨hP,hX⟩;have C1:=(qb4 hlv hu);refine wk ?_
     by_cases hf:∀ x ∈ vl,q0O x
     .rw [if_pos hf] at c0;have ef:∀ (i:Decidable (∀ x ∈ vl,q0O x)),@decide _ i=true:=λ_=>decide_eq_true hf;refine wk1 ef ?_;rw [c0]
     .rw [if_neg hf] at c0;have ef:∀ (i:Decidable (∀ x ∈ vl,q0O x)),@decide _ i=false:=λ_=>decide_eq_false hf;refine wk1 ef ?_;rw [c0]
def q8C (ix:List Int) (i:Int) (a b:Nat):Option Nat:=(List.range' a (b-a)).find? λk=>decide (ix[k]?=some i)
def qkC {ix:List Int} {i v:Int} {a b:Nat} (h:a < b) (hv:ix[a]?=some v) (hn:¬ v=i):q8C ix i a b=q8C ix i (a+1) b:=by
 unfold q8C;rw [show b-a=(b-(a+1))+1 by omega,List.range'_succ,List.find?_cons,hv];have:decide (some v=some i)=false:=decide_eq_false λe=>hn (z6.inj e);rw [this]
def qeA {ix:List Int} {v:Int} {a b:Nat} (h:a < b) (hv:ix[a]?=some v):q8C ix v a b=some a:=by
 unfold q8C;rw [show b-a=(b-(a+1))+1 by omega,List.range'_succ,List.find?_cons,hv];have:decide (some v=some v)=true:=decide_eq_true rfl;rw [this]
def qeB {ix:List Int} {v:Int} {a b:Nat} (h:b<=a):q8C ix v a b=none:=by
 unfold q8C;rw [show b-a=0 by omega]; rfl
def qeh (st ix:List Int) (i:Int) (j:Nat):Option Nat:=q8C ix i (st.getD j 0).toNat (st.getD (j+1) 0).toNat
open Classical in
noncomputable def qq2 (rows cols:Int) (st ix:List Int) (i j:Int):Bool:=if 0<=i/\i < rows/\0<=j/\j < cols then (qeh st ix i j.toNat).isSome else false
open Classical in
noncomputable def atM (rows cols:Int) (st ix:List Int) (vl:List Nat) (i j:Int):Nat:=if q30 rows cols st ix vl=0/\0<=j/\j < cols then (match qeh st ix i j.toNat with | some k=>vl.getD k 0 | none=>0) else 0
def chk0 {rows cols:Int} {st ix:List Int} {vl:List Nat} (h:q30 rows cols st ix vl=0):MSz rows cols ix/\MPt cols st ix vl/\MIx rows st ix/\∀ x ∈ vl,q0O x:=by
 unfold q30 at h
 split at h
 .split at h
  .split at h
   .exact ⟨‹_›,(‹_/\_›).1,(‹_/\_›).2,‹_›⟩
   .cases h
  .cases h
 .cases h
def MPt.col {n:Nat} {st ix:List Int} {vl:List Nat} (h:MPt n st ix vl) {j:Nat} (hj:j < n):∃ a b:Nat,st[j]?=some (a:Int)/\st[j+1]?=some (b:Int)/\a<=b/\b<=ix.length/\(st.getD j 0).toNat=a/\(st.getD (j+1) 0).toNat=b:=by
 have hs:=h.s;obtain ⟨x,hx⟩:∃ x,st[j]?=some x:=⟨_,zA Oq⟩;obtain ⟨y,hy⟩:∃ x,st[j+1]?=some x:=⟨_,zA Oq⟩;have h1:=h.nn j x hx;have h2:=h.nn (j+1) y hy;have h3:=h.m j x y hx hy;have h4:=h.ub ω (n-(j+1)) (j+1) y (by rw [zF]; omega) hy;refine ⟨x.toNat,y.toNat,by rw [hx]; congr 1; omega,by rw [hy]; congr 1; omega,ω,ω,?_,?_⟩
 .rw [zB,hx]; rfl
 .rw [zB,hy]; rfl
def qb2 {rows cols i j:Int} {st ix:List Int} {vl:List Nat} (hc:cols<=200) (hi:ix.length<=10000) (hP:MPt cols st ix vl):ACt 102 [q3G rows cols st ix vl,iv i,iv j] (bv (qq2 rows cols st ix i j)):=by
 have c0:¬ (0<=i/\i < rows/\0<=j/\j < cols)->qq2 rows cols st ix i j=false:=λh=>if_neg h;have c1:(0<=i/\i < rows/\0<=j/\j < cols)->qq2 rows cols st ix i j=(qeh st ix i j.toNat).isSome:=λh=>if_pos h;generalize qq2 rows cols st ix i j=res at *;unfold q3G;refine ac0 Tryz.func102 Tryz.ntmps102 [.tmp 6] ?_;refine wk ?_
 by_cases h1:i < 0
 .refine wk1 h1 ?_;rw [c0 λh=>by omega]
 by_cases h2:rows<=i
 .refine wk1 (x2 h1 h2) ?_;rw [c0 λh=>by omega]
 by_cases h3:j < 0
 .refine wk1 (x3 h1 h2 h3) ?_;rw [c0 λh=>by omega]
 by_cases h4:cols<=j
 .refine wk1 (x4 h1 h2 h3 h4) ?_;rw [c0 λh=>by omega]
 refine wk1 (x4 h1 h2 h3 h4) ?_;have d1:=c1 ⟨ω,ω,ω,ω⟩;obtain ⟨j,rfl⟩:∃ j':Nat,j=j':=⟨j.toNat,ω⟩;obtain ⟨n,rfl⟩:∃ n:Nat,cols=n:=⟨cols.toNat,ω⟩;obtain ⟨a,b,hx,hy,hab,hb,ea,eb⟩:=hP.col (show j < n by omega);rw [zF] at d1;unfold qeh at d1;rw [ea,eb] at d1;have wi:IntKind.i64.wrap ((j:Int)+1)=((j+1:Nat):Int):=by rw [i64_in ω ω]; omega
 refine wk1 hx ?_;refine q7Y [1,2,3,7] Lk ?_;refine wk ?_;refine q0B (λk=>a<=k/\k<=b/\q8C ix i a b=q8C ix i k b) [1,2,3] [3] Lk Lk (λk:Nat=>[(7,iv k)]) (λ_=>[]) (λk=>b-k) a ⟨zX _,hab,rfl⟩ ?_ ?_
 .refine LeM [] rfl rfl ?_;exact Zy
 .rintro k ⟨hk,hkb,hr⟩;refine wk ?_
  by_cases hlt:k < b
  .have hlt':(k:Int) < b:=ω
   refine wk1 (x3 wi hy hlt') ?_;obtain ⟨v,hv⟩:∃ v,ix[k]?=some v:=⟨_,zA Oq⟩
   by_cases hvi:v=i
   .subst hvi;have e1:(v == v)=true:=σ
    refine wk1 (x2 hv e1) ?_;rw [d1,hr,qeA hlt hv]; rfl
   .have e1:(v == i)=false:=by simpa using hvi
    refine wk1 (x2 hv e1) ?_;refine ⟨k+1,⟨ω,ω,by rw [hr,qkC hlt hv hvi]⟩,ω,?_⟩;refine LeM [] rfl rfl ?_;refine Zz ?_;omega
  .have hlt':¬ (k:Int) < b:=ω
   refine wk1 (x3 wi hy hlt') ?_;rw [d1,hr,qeB ω]; rfl
def qra {rows cols i j:Int} {st ix:List Int} {vl:List Nat} (hl:st.length<=9223372036854775807) (hli:ix.length<=9223372036854775807) (hlv:vl.length<=9223372036854775807) (hu:∀ x ∈ vl,x < 18446744073709551616):ACt 39 [q3G rows cols st ix vl,iv i,iv j] (uv (atM rows cols st ix vl i j:Nat)):=by
 have c0:¬ (q30 rows cols st ix vl=0/\0<=j/\j < cols)->atM rows cols st ix vl i j=0:=λh=>if_neg h;have c1:(q30 rows cols st ix vl=0/\0<=j/\j < cols)->atM rows cols st ix vl i j=(match qeh st ix i j.toNat with | some k=>vl.getD k 0 | none=>0):=λh=>if_pos h;have hA:=qaI (rows:=rows) (cols:=cols) hl hli hlv hu;generalize atM rows cols st ix vl i j=res at *;unfold q3G at *;refine ac0 Tryz.func39 Tryz.ntmps39 [.tmp 6] ?_;refine wk ?_
 by_cases hz:q30 rows cols st ix vl=0
 case neg =>
  have e1:(q30 rows cols st ix vl != 0)=true:=by simpa using hz
  refine wk1 e1 ?_;rw [c0 λh=>hz h.1]; rfl
 have e1:(q30 rows cols st ix vl != 0)=false:=by simpa using hz
 by_cases h3:j < 0
 .refine wk1 (x2 e1 h3) ?_;rw [c0 λh=>by omega]; rfl
 by_cases h4:cols<=j
 .refine wk1 (x3 e1 h3 h4) ?_;rw [c0 λh=>by omega]; rfl
 refine wk1 (x3 e1 h3 h4) ?_;have d1:=c1 ⟨hz,ω,ω⟩;obtain ⟨hz1,hP,hX,hfn⟩:=chk0 hz;have hc:=hz1.c1;have hi:=hz1.i1;obtain ⟨j,rfl⟩:∃ j':Nat,j=j':=⟨j.toNat,ω⟩;obtain ⟨n,rfl⟩:∃ n:Nat,cols=n:=⟨cols.toNat,ω⟩;obtain ⟨a,b,hx,hy,hab,hb,ea,eb⟩:=hP.col (show j < n by omega);rw [zF] at d1;unfold qeh at d1;rw [ea,eb] at d1;have wi:IntKind.i64.wrap ((j:Int)+1)=((j+1:Nat):Int):=by rw [i64_in ω ω]; omega
 refine wk1 hx ?_;refine q7Y [1,2,3,7] Lk ?_;refine wk ?_;refine q0B (λk=>a<=k/\k<=b/\q8C ix i a b=q8C ix i k b) [1,2,3] [3] Lk Lk (λk:Nat=>[(7,iv k)]) (λ_=>[]) (λk=>b-k) a ⟨zX _,hab,rfl⟩ ?_ ?_
 .refine LeM [] rfl rfl ?_;exact Zy
 .rintro k ⟨hk,hkb,hr⟩;refine wk ?_
  by_cases hlt:k < b
  .have hlt':(k:Int) < b:=ω
   refine wk1 (x3 wi hy hlt') ?_;obtain ⟨v,hv⟩:∃ v,ix[k]?=some v:=⟨_,zA Oq⟩
   by_cases hvi:v=i
   .subst hvi;have e1:(v == v)=true:=σ
    refine wk1 (x2 hv e1) ?_;obtain ⟨u,hu'⟩:∃ u,vl[k]?=some u:=⟨_,zA (by have:=hP.v; omega)⟩;refine wk1 hu' ?_;rw [d1,hr,qeA hlt hv];simp only [zB,hu']; rfl
   .have e1:(v == i)=false:=by simpa using hvi
    refine wk1 (x2 hv e1) ?_;refine ⟨k+1,⟨ω,ω,by rw [hr,qkC hlt hv hvi]⟩,ω,?_⟩;refine LeM [] rfl rfl ?_;refine Zz ?_;omega
  .have hlt':¬ (k:Int) < b:=ω
   refine wk1 (x3 wi hy hlt') ?_;rw [d1,hr,qeB ω]; rfl

def tC (f:Nat->Nat->Option Nat) (j:Nat) (p:List Int × List Nat):Nat->List Int × List Nat
 | 0=>p
 | i+1=>match f j i with
  | some x=>((tC f j p i).1 ++ [(i:Int)],(tC f j p i).2 ++ [x])
  | none=>tC f j p i
def tM (f:Nat->Nat->Option Nat) (R:Nat):Nat->List Int × List Int × List Nat
 | 0=>([0],[],[])
 | j+1=>((tM f R j).1 ++ [((tC f j (tM f R j).2 R).1.length:Int)],tC f j (tM f R j).2 R)
def pT (R C:Nat) (f:Nat->Nat->Option Nat):PV:=q3G R C (tM f R C).1 (tM f R C).2.1 (tM f R C).2.2
def q5j {f:Nat->Nat->Option Nat} {j:Nat} {p:List Int × List Nat} (hp:p.1.length=p.2.length):∀ i,(tC f j p i).1.length=(tC f j p i).2.length/\p.1.length<=(tC f j p i).1.length/\(tC f j p i).1.length<=p.1.length+i
 | 0=>⟨hp,zX _,zX _⟩
 | i+1=>by
  have:=q5j (f:=f) (j:=j) hp i;simp only [tC]
  split
  .simp only [zP,List.length_cons,List.length_nil]; omega
  .omega
def q0y {f:Nat->Nat->Option Nat} {R:Nat}:∀ j,(tM f R j).1.length=j+1/\(tM f R j).2.1.length=(tM f R j).2.2.length/\(tM f R j).2.1.length<=j*R
 | 0=>⟨rfl,rfl,by simp [tM]⟩
 | j+1=>by
  have h1:=q0y (f:=f) (R:=R) j;have h2:=q5j (f:=f) (j:=j) h1.2.1 R;simp only [tM];refine ⟨by simp [h1.1],h2.1,?_⟩;rw [Nat.succ_mul]; omega
section
variable {f:Nat->Nat->Option Nat} {R C:Nat}
def tZ (f:Nat->Nat->Option Nat) (j i:Nat):List (Nat × Nat):=(List.range i).filterMap λk=>(f j k).map λx=>(k,x)
def qlP {j i:Nat}:tZ f j (i+1)=tZ f j i ++ (match f j i with | some x=>[(i,x)] | none=>[]):=by
 unfold tZ;rw [xN,List.filterMap_append]
 congr 1
 cases h:f j i <;> simp [h]
def q42 {j i k x:Nat}:(k,x) ∈ tZ f j i ↔ k < i/\f j k=some x:=by
 unfold tZ;rw [List.mem_filterMap]
 constructor
 .rintro ⟨a,ha,h⟩;obtain ⟨y,hy,h2⟩:=uZ.1 h;cases h2;exact ⟨zZ.1 ha,hy⟩
 .rintro ⟨h1,h2⟩;exact ⟨k,zZ.2 h1,by rw [h2]; rfl⟩
def q77 {j:Nat}:∀ i,(tZ f j i).Pairwise λa b=>a.1 < b.1
 | 0=>by simp [tZ]
 | i+1=>by
  rw [qlP,List.pairwise_append];refine ⟨q77 i,?_,λa ha b hb=>?_⟩
  .split <;> simp
  .have h1:=(q42.1 (show (a.1,a.2) ∈ tZ f j i from ha)).1
   split at hb
   .simp at hb; subst hb; exact h1
   .cases hb
def q4b {j:Nat} {p:List Int × List Nat}:∀ i,tC f j p i=(p.1 ++ (tZ f j i).map (λq=>(q.1:Int)),p.2 ++ (tZ f j i).map (·.2))
 | 0=>by simp [tC,tZ]
 | i+1=>by
  rw [tC,qlP,q4b i];cases h:f j i <;> simp
def tO (f:Nat->Nat->Option Nat) (R j:Nat):Nat:=(tM f R j).2.1.length
def qiw {j:Nat}:tO f R (j+1)=tO f R j+(tZ f j R).length:=by simp [tO,tM,q4b]
def tM_st {j:Nat}:(tM f R j).1[j]?=some (tO f R j:Int):=by
 cases j with
 | zero=>simp [tM,tO]
 | succ j =>
  have:=(q0y (f:=f) (R:=R) j).1;simp only [tM,tO];rw [zU ω,this];simp
def qcb {j:Nat}:∀ d,∃ a b c,(tM f R (j+d)).1=(tM f R j).1 ++ a/\(tM f R (j+d)).2.1=(tM f R j).2.1 ++ b/\(tM f R (j+d)).2.2=(tM f R j).2.2 ++ c
 | 0=>⟨[],[],[],σ,σ,σ⟩
 | d+1=>by
  obtain ⟨a,b,c,h1,h2,h3⟩:=qcb (j:=j) d;have e1:(tM f R (j+(d+1))).1=(tM f R (j+d)).1 ++ [((tC f (j+d) (tM f R (j+d)).2 R).1.length:Int)]:=rfl;have e2:(tM f R (j+(d+1))).2=tC f (j+d) (tM f R (j+d)).2 R:=rfl;rw [q4b] at e2;rw [e1,e2,h1,h2,h3];simp only [xF];exact ⟨_,_,_,rfl,rfl,rfl⟩
def q3F {j:Nat} (hj:j<=C):(tM f R C).1[j]?=some (tO f R j:Int):=by
 obtain ⟨a,b,c,h1,_,_⟩:=qcb (f:=f) (R:=R) (j:=j) (C-j);rw [show j+(C-j)=C by omega] at h1;rw [h1,zL (by rw [(q0y j).1]; omega)];exact tM_st
def qqZ {j:Nat} (hj:j < C):∃ b c,(tM f R C).2.1=(tM f R j).2.1 ++ (tZ f j R).map (λq=>(q.1:Int)) ++ b/\(tM f R C).2.2=(tM f R j).2.2 ++ (tZ f j R).map (·.2) ++ c:=by
 obtain ⟨a,b,c,_,h2,h3⟩:=qcb (f:=f) (R:=R) (j:=j+1) (C-(j+1));rw [show j+1+(C-(j+1))=C by omega] at h2 h3;refine ⟨b,c,?_,?_⟩
 .rw [h2]; simp only [tM,q4b]
 .rw [h3]; simp only [tM,q4b]
def qbU {j k:Nat} (hj:j < C) (h1:tO f R j<=k) (h2:k < tO f R (j+1)):∃ q,(tZ f j R)[k-tO f R j]?=some q/\(tM f R C).2.1[k]?=some (q.1:Int)/\(tM f R C).2.2[k]?=some q.2:=by
 obtain ⟨b,c,e1,e2⟩:=qqZ (f:=f) (R:=R) hj;rw [qiw] at h2;have hl:=(q0y (f:=f) (R:=R) j).2.1;have ho:tO f R j=(tM f R j).2.1.length:=rfl;obtain ⟨q,hq⟩:∃ q,(tZ f j R)[k-tO f R j]?=some q:=⟨_,zA Oq⟩;refine ⟨q,hq,?_,?_⟩
 .rw [e1,zL (by simp; omega),zU ω,zH,<- ho,hq]; rfl
 .rw [e2,zL (by simp; omega),zU ω,zH,<- hl,<- ho,hq]; rfl
def qqX:MPt C (tM f R C).1 (tM f R C).2.1 (tM f R C).2.2:=by
 have hl:=q0y (f:=f) (R:=R) C;refine ⟨hl.2.1.symm,ω,?_,by rw [zF]; exact q3F (zX _),λj x y hx hy=>?_⟩
 .rw [q3F (zJ _)]; rfl
 .have h1:=(zD.1 hy).1;rw [q3F ω] at hx hy;cases hx; cases hy;have:=qiw (f:=f) (R:=R) (j:=j);omega
def qqY:MIx R (tM f R C).1 (tM f R C).2.1:=λj x y hx hy k h1 h2 v hv=>by
 have hl:=q0y (f:=f) (R:=R) C;have h3:=(zD.1 hy).1;rw [q3F ω] at hx hy;cases hx; cases hy;obtain ⟨q,q1,q2,q3⟩:=qbU (f:=f) (R:=R) (C:=C) (j:=j) (k:=k) Oq Oq Oq;rw [hv] at q2;cases q2;have:=(q42.1 (show (q.1,q.2) ∈ _ from zG q1)).1;refine ⟨ω,ω,λhk u hu=>?_⟩;obtain ⟨p,p1,p2,p3⟩:=qbU (f:=f) (R:=R) (C:=C) (j:=j) (k:=k-1) Oq Oq Oq;rw [hu] at p2;cases p2;have ha:=List.pairwise_iff_getElem.1 (q77 (f:=f) (j:=j) R);obtain ⟨a1,a2⟩:=zD.1 p1;obtain ⟨b1,b2⟩:=zD.1 q1;have:=ha _ _ a1 b1 Oq;rw [a2,b2] at this;omega
def q8n {x:Nat}:∀ C,x ∈ (tM f R C).2.2->∃ j i,j < C/\i < R/\f j i=some x
 | 0,h=>by simp [tM] at h
 | C+1,h=>by
  simp only [tM,q4b,zN] at h
  rcases h with h | h
  .obtain ⟨j,i,h1,h2,h3⟩:=q8n C h;exact ⟨j,i,ω,h2,h3⟩
  .obtain ⟨⟨k,y⟩,hq,rfl⟩:=zR.1 h;have:=q42.1 hq;exact ⟨C,k,ω,this.1,this.2⟩
def qq0 (hR:R<=200) (hC:C<=200) (hRC:C*R<=10000) (hf:∀ j i x,j < C->i < R->f j i=some x->q0O x):q30 R C (tM f R C).1 (tM f R C).2.1 (tM f R C).2.2=0:=by
 have hl:=q0y (f:=f) (R:=R) C;have hz:MSz R C (tM f R C).2.1:=⟨ω,ω,ω,ω,ω⟩;unfold q30;rw [if_pos hz,if_pos ⟨qqX,qqY⟩,if_pos];intro x hx;obtain ⟨j,i,h1,h2,h3⟩:=q8n C hx;exact hf j i x h1 h2 h3
end
structure TOk (f:Nat->Nat->Option Nat) (R C:Nat):Prop where
 r:R<=200
 c:C<=200
 m:C*R<=10000
 u:∀ j i x,j < C->i < R->f j i=some x->x < 18446744073709551616
 v:∀ j i x,j < C->i < R->f j i=some x->q0O x
def TOk.vl {f:Nat->Nat->Option Nat} {R C:Nat} (h:TOk f R C):(tM f R C).1.length<=9223372036854775807/\(tM f R C).2.1.length<=9223372036854775807/\(tM f R C).2.2.length<=9223372036854775807/\(∀ x ∈ (tM f R C).2.2,x < 18446744073709551616):=by
 have:=q0y (f:=f) (R:=R) C;have:=h.c;have:=h.m;refine ⟨ω,ω,ω,λx hx=>?_⟩;obtain ⟨j,i,h1,h2,h3⟩:=q8n C hx;exact h.u j i x h1 h2 h3
def TOk.chk {f:Nat->Nat->Option Nat} {R C:Nat} (h:TOk f R C):q30 R C (tM f R C).1 (tM f R C).2.1 (tM f R C).2.2=0:=qq0 h.r h.c h.m h.v

section
def qfP {τ:Nat->Option Nat} {h h':Hp} {a b c d:List PV} (h1:LeL τ h h' a c) (h2:LeL τ h h' b d):LeL τ h h' (a ++ b) (c ++ d):=by
 obtain ⟨l1,e1⟩:=h1;obtain ⟨l2,e2⟩:=h2;refine ⟨by simp [l1,l2],λi x y hx hy=>?_⟩
 by_cases hi:i < a.length
 .rw [zL hi] at hx;rw [zL ω] at hy;exact e1 i x y hx hy
 .rw [zU ω] at hx;rw [zU ω,<- l1] at hy;exact e2 _ x y hx hy
def clR {α:Type} {f:α->List Int} {l:List α}:ClL (l.map λv=>pI (f v)):=λx hx=>by
 obtain ⟨e,_,rfl⟩:=zR.1 hx
 trivial
def qwT {α:Type} {f:α->List Int} {l:List α} {τ:Nat->Option Nat} {h h':Hp}:LeL τ h h' (l.map λv=>pI (f v)) (l.map λv=>pI (f v))=True:=eq_true (q0G rfl clR)
attribute [local go_sem] qwT
end
open Classical in
noncomputable def sqM (rows cols:Int) (st ix:List Int) (vl:List Nat) (order:List Int):Int :=
 if q30 rows cols st ix vl=0 then (if rows=cols then (if q4E order rows then 0 else 90) else 5) else q30 rows cols st ix vl
def qb3 {rows cols:Int} {st ix order:List Int} {vl:List Nat} (hl:st.length<=9223372036854775807) (hli:ix.length<=9223372036854775807) (hlv:vl.length<=9223372036854775807) (hu:∀ x ∈ vl,x < 18446744073709551616):ACt 90 [q3G rows cols st ix vl,pI order] (iv (sqM rows cols st ix vl order)):=by
 have hA:=qaI (rows:=rows) (cols:=cols) hl hli hlv hu;have c1:¬ q30 rows cols st ix vl=0->sqM rows cols st ix vl order=q30 rows cols st ix vl:=λh=>if_neg h;have c2:q30 rows cols st ix vl=0->¬ rows=cols->sqM rows cols st ix vl order=5:=λh h2=>by unfold sqM; rw [if_pos h,if_neg h2]
 have c3:q30 rows cols st ix vl=0->rows=cols->¬ q4E order rows->sqM rows cols st ix vl order=90:=λh h2 h3=>by unfold sqM; rw [if_pos h,if_pos h2,if_neg h3]
 have c4:q30 rows cols st ix vl=0->rows=cols->q4E order rows->sqM rows cols st ix vl order=0:=λh h2 h3=>by unfold sqM; rw [if_pos h,if_pos h2,if_pos h3]
 generalize sqM rows cols st ix vl order=res at *;unfold q3G at *;refine ac0 Tryz.func90 Tryz.ntmps90 [.tmp 4] ?_;refine wk ?_
 by_cases hz:q30 rows cols st ix vl=0
 case neg =>
  have e1:(q30 rows cols st ix vl != 0)=true:=by simpa using hz
  refine wk1 e1 ?_;rw [c1 hz]
 have e1:(q30 rows cols st ix vl != 0)=false:=by simpa using hz
 refine wk1 e1 ?_;obtain ⟨hz1,_⟩:=chk0 hz;have b0:=hz1.r0;have b1:=hz1.r1;refine wk ?_
 by_cases hrc:rows=cols
 case neg =>
  have e2:(rows != cols)=true:=by simpa using hrc
  refine wk1 e2 ?_;rw [c2 hz hrc]
 have e2:(rows != cols)=false:=by simpa using hrc
 have C1:=@qgI;refine wk1 e2 ?_
 by_cases hp:q4E order rows
 .have ep:∀ (i:Decidable (q4E order rows)),@decide _ i=true:=λ_=>decide_eq_true hp;refine wk1 ep ?_;rw [c4 hz hrc hp]
 .have ep:∀ (i:Decidable (q4E order rows)),@decide _ i=false:=λ_=>decide_eq_false hp;refine wk1 ep ?_;rw [c3 hz hrc hp]
def qbT {f:Nat->Nat->Option Nat} {R:Nat} {order:List Int} (h:TOk f R R) (hp:q4E order R):ACt 90 [pT R R f,pI order] (iv 0):=by
 obtain ⟨h1,h2,h3,h4⟩:=h.vl;have:=qb3 (rows:=R) (cols:=R) (order:=order) h1 h2 h3 h4;unfold sqM at this;rw [if_pos h.chk,if_pos rfl,if_pos hp] at this;exact this
def qaa {ix:List Int} {i:Int}:∀ {d a:Nat} {k:Nat},q8C ix i a (a+d)=some k->a<=k/\k < a+d/\ix[k]?=some i:=λ{d a k} h=>by
 unfold q8C at h;have h1:=List.find?_some h;have h2:=List.mem_of_find?_eq_some h;rw [List.mem_range'_1] at h2;exact ⟨h2.1,ω,by simpa using h1⟩
def qgw {ix:List Int} {i:Int} {d a:Nat} (h:q8C ix i a (a+d)=none):∀ k,a<=k->k < a+d->¬ ix[k]?=some i:=λk h1 h2 h3=>by
 unfold q8C at h;have:=List.find?_eq_none.1 h k (by rw [List.mem_range'_1]; omega);simp [h3] at this
def qiy {f:Nat->Nat->Option Nat} {R C i j:Nat} (hi:i < R) (hj:j < C):(match qeh (tM f R C).1 (tM f R C).2.1 i j with | some k=>(tM f R C).2.2[k]? | none=>none)=f j i:=by
 have e1:((tM f R C).1.getD j 0).toNat=tO f R j:=by rw [zB,q3F ω]; rfl
 have e2:((tM f R C).1.getD (j+1) 0).toNat=tO f R (j+1):=by rw [zB,q3F ω]; rfl
 unfold qeh;rw [e1,e2,qiw];cases h:q8C (tM f R C).2.1 i (tO f R j) (tO f R j+(tZ f j R).length) with
 | some k =>
  obtain ⟨h1,h2,h3⟩:=qaa h;obtain ⟨q,q1,q2,q3⟩:=qbU (f:=f) (R:=R) (C:=C) (j:=j) (k:=k) hj h1 (by rw [qiw]; exact h2);rw [q2] at h3;have hqi:q.1=i:=by have:=z6.inj h3; omega
  have:=(q42.1 (show (q.1,q.2) ∈ _ from zG q1)).2;simp only;rw [q3,<- this,hqi]
 | none =>
  cases hx:f j i with
  | none=>rfl
  | some x =>
   obtain ⟨m,hm⟩:=List.getElem?_of_mem (q42.2 ⟨hi,hx⟩:(i,x) ∈ tZ f j R);have hml:=(zD.1 hm).1;obtain ⟨q,q1,q2,q3⟩:=qbU (f:=f) (R:=R) (C:=C) (j:=j) (k:=tO f R j+m) hj ω (by rw [qiw]; omega);rw [Nat.add_sub_cancel_left,hm] at q1;cases q1;exact absurd q2 (qgw h _ Oq Oq)
def qce {f:Nat->Nat->Option Nat} {R C i j:Nat} (h:TOk f R C) (hi:i < R) (hj:j < C):ACt 39 [pT R C f,iv i,iv j] (uv (((f j i).getD 0:Nat):Int)):=by
 obtain ⟨h1,h2,h3,h4⟩:=h.vl;have:=qra (rows:=R) (cols:=C) (i:=i) (j:=j) h1 h2 h3 h4;unfold atM at this;rw [if_pos ⟨h.chk,ω,ω⟩,zF] at this;have hf:=qiy (f:=f) hi hj;cases hc:qeh (tM f R C).1 (tM f R C).2.1 i j with
 | some k =>
  rw [hc] at this hf;simp only at this hf;rw [zB,hf] at this;exact this
 | none =>
  rw [hc] at this hf;simp only at this hf;rw [<- hf];exact this
def qbS {f:Nat->Nat->Option Nat} {R C i j:Nat} (h:TOk f R C) (hi:i < R) (hj:j < C):ACt 102 [pT R C f,iv i,iv j] (bv (f j i).isSome):=by
 have hl:=q0y (f:=f) (R:=R) C;have hm:=h.m;have hcc:=h.c;have:=qb2 (rows:=R) (cols:=C) (i:=i) (j:=j) (st:=(tM f R C).1) (ix:=(tM f R C).2.1) (vl:=(tM f R C).2.2) Oq Oq qqX;unfold qq2 at this;rw [if_pos ⟨ω,ω,ω,ω⟩,zF] at this;have hf:=qiy (f:=f) hi hj;cases hc:qeh (tM f R C).1 (tM f R C).2.1 i j with
 | some k =>
  rw [hc] at this hf;simp only at this hf;have hk:k < (tM f R C).2.2.length:=by
   unfold qeh at hc;have e1:((tM f R C).1.getD j 0).toNat=tO f R j:=by rw [zB,q3F ω]; rfl
   have e2:((tM f R C).1.getD (j+1) 0).toNat=tO f R (j+1):=by rw [zB,q3F ω]; rfl
   rw [e1,e2,qiw] at hc;have:=(zD.1 (qaa hc).2.2).1;omega
  rw [<- hf,zA hk];exact this
 | none =>
  rw [hc] at this hf;simp only at this hf;rw [<- hf];exact this
def qbN {x:Nat}:ACt 162 [uv x] (bv (decide (x=0\/x=9223372036854775808))):=by
 have h0:((x:Int) == 0)=decide (x=0):=by
  rw [Bool.eq_iff_iff,beq_iff_eq,decide_eq_true_iff]; omega
 have h1:((x:Int) == 9223372036854775808)=decide (x=9223372036854775808):=by
  rw [Bool.eq_iff_iff,beq_iff_eq,decide_eq_true_iff]; omega
 refine ac0 Tryz.func162 Tryz.ntmps162 [.tmp 2] ?_;refine wk ?_
 by_cases e0:x=0
 .refine wk1 (x2 h0 (decide_eq_true e0)) ?_;simp [e0]
 .by_cases e1:x=9223372036854775808
  .refine wk1 (x4 h0 (decide_eq_false e0) h1 (decide_eq_true e1)) ?_;simp [e1]
  .refine wk1 (x4 h0 (decide_eq_false e0) h1 (decide_eq_false e1)) ?_;simp [e0,e1]
def q8d {x y:Nat} {A B V:Int} (hx:x < 18446744073709551616) (hy:y < 18446744073709551616) (ha:ofF x=some A) (hb:ofF y=some B) (hv:mkV (A*B) (-131072)=some V):ACt 123 [uv x,uv y] (pV V):=by
 refine ac0 Tryz.func123 Tryz.ntmps123 [.cell 4 46] ?_;have C1:=(q44 hx ha);have C2:=(q44 hy hb);have C3:=(q8v hv);exact wk trivial
def qkr {A B:Int} {x:Nat} (h:ACt 223 [pV A,pV B,iv 0] (uv x)):ACt 164 [pV A,pV B] (uv x):=by
 refine ac0 Tryz.func164 Tryz.ntmps164 [.tmp 4] ?_;have C1:=@h;exact wk trivial
def qbW {x y:Nat} (hx:bl x<=20000000) (hy:bl y<=20000000) (hy0:y≠0):ACt 296 [.fm (fL x),.fm (fL y)] (.tu [.fm (fL (x / y:Nat)),.fm (fL (x % y:Nat))]):=q3E (qeb hx hy hy0)
def q79 {s:Bool} {z:Nat} (hz:bl z<=20000000):ACt 134 [bv s,.fm (fL z)] (bT (sgn s z)):=by
 have C:=q1K (s:=s) (q0C z) (q3I hz);rw [q0D] at C;exact q3E C
def q78 {a:Int} (ha:bl a.natAbs<=20000000):ACt 139 [bT a] (bT a):=q3E (q3b rfl ha)
def q5k {a:Int} (ha:bl a.natAbs<=20000000):ACt 142 [bT a] (iv (bl a.natAbs:Nat)):=q3E (q3Q ha)
def qbV {a b:Nat} (ha:bl a<=20000000) (hb:bl b<=20000000) (hb0:b≠0):ACt 279 [bT a,bT b] (.tu [bT (a / b:Nat),bT (a % b:Nat)]):=by
 have h1:=q0t (yQ a b);have h2:=q0t (uX a b);have cA:=q78 (a:=a) (by rw [zS]; exact ha);have cB:=q78 (a:=b) (by rw [zS]; exact hb);have cD:=qbW ha hb hb0;have cQ:=q79 (s:=false) (z:=a / b) Oq;have cR:=q79 (s:=false) (z:=a % b) Oq;have cS:=q19 (a:=(a % b:Nat)) (by rw [zS]; omega);rw [q7d] at cQ cR;have d:∀ z:Nat,decide ((z:Int) < 0)=false:=λz=>decide_eq_false Oq;have hs:((a % b:Nat):Int).sign < 0 ↔ False:=by
  rcases Nat.eq_zero_or_pos (a % b) with h | h
  .rw [h]; simp
  .rw [zM ω]; simp
 generalize ((a % b:Nat):Int).sign=sg at *;generalize a % b=r at *;generalize a / b=q at *;have hs':¬ sg < 0:=λh=>hs.1 h;have e0:(false != false)=false:=rfl;unfold bT at *;rw [d] at *;simp only [d] at *;refine ac0 Tryz.func279 Tryz.ntmps279 [.cell 4 42,.cell 5 42] ?_;exact wk1 (x2 e0 hs') trivial
def q8m {N M:Nat} {neg more:Bool} {mode e:Int} (hM:0 < M) (hN:M<=N) (hm:more=decide (N % M≠0)) (hmb:more=true->55<=bl (N / M)) (hb:bl (N / M)<=200000) (he1 : -200000<=e) (he2:e<=200000) :
  ACt 149 [bv neg,bT (N / M:Nat),iv e,bv more,iv mode] (uv (rE mode neg N M e:Nat)):=q5H rfl hM hN hm hmb hb he1 he2
def rtK (a b:Nat):Nat:=62+bl b-bl a
def qca {a b:Nat} (ha0:a≠0) (hb0:b≠0) (ha:bl a<=200000) (hb:bl b<=200000) :
  ACt 258 [bT a,bT b,iv 60] (.tu [bT (a*2 ^ rtK a b / b:Nat),iv (-(rtK a b:Int)),bv (decide (a*2 ^ rtK a b % b≠0))]):=by
 obtain ⟨k,hk⟩:∃ k,k=rtK a b:=⟨_,rfl⟩;rw [<- hk];unfold rtK at hk;have cA:=q5k (a:=a) (by rw [zS]; omega);have cB:=q5k (a:=b) (by rw [zS]; omega);rw [zS] at cA cB;have cH:=q4z (a:=a) (m:=k) (by rw [zS]; omega) ω ω;have eH:shI a (k:Int)=((a*2 ^ k:Nat):Int):=by unfold shI; rw [if_pos ω,zF]; simp
 rw [eH] at cH;have hbk:bl (a*2 ^ k)<=600000:=by rw [q1R ha0]; omega
 have cD:=qbV (a:=a*2 ^ k) (b:=b) Oq Oq hb0;have hbm:=q0t (uX (a*2 ^ k) b);have cS:=q19 (a:=(a*2 ^ k % b:Nat)) (by rw [zS]; omega);have w1:IntKind.i64.wrap ((62:Int)+(bl b:Nat))=((62+bl b:Nat):Int):=by rw [i64_in ω ω]; omega
 have w2:IntKind.i64.wrap (((62+bl b:Nat):Int)-(bl a:Nat))=((62+bl b:Nat):Int)-(bl a:Nat):=i64_in Oq Oq;have em:max (((62+bl b:Nat):Int)-(bl a:Nat)) 0=(k:Int):=ω
 have w3:IntKind.i64.wrap (0-(k:Int)) = -(k:Int):=by rw [i64_in ω ω]; omega
 have es:(((a*2 ^ k % b:Nat):Int).sign != 0)=decide (a*2 ^ k % b≠0):=by
  by_cases h:a*2 ^ k % b=0
  .rw [h]; rfl
  .rw [zM ω,decide_eq_true h]; rfl
 generalize decide (a*2 ^ k % b≠0)=mr at *;generalize ((a*2 ^ k % b:Nat):Int).sign=sg at *;generalize a*2 ^ k % b=r at *;generalize a*2 ^ k / b=q at *;generalize a*2 ^ k=m at *;unfold bT at *;have w0:IntKind.i64.wrap ((60:Int)+2)=62:=rfl;refine ac0 Tryz.func258 Tryz.ntmps258 [.cell 6 42,.tmp 7,.tmp 8] ?_;exact wk1 (x6 w0 w1 w2 em w3 es) trivial
def qls {A B mode:Int} (hB0:B≠0):ACt 223 [pV A,pV B,iv mode] (uv (fQ mode A B:Nat)):=q84 (al':=[dT A,dT B,iv mode]) (p:=q0d A/\q0d B) qeq (λD w vs hR=>by
 obtain ⟨a,b,c,rfl,h1,h2,h3⟩:=rd_3 hR;obtain ⟨h4,h5⟩:=q3a.2 (qb1 h1);obtain ⟨h6,h7⟩:=q3a.2 (qb1 h2);refine ⟨?_,h5,h7⟩;unfold RdL;refine ⟨_,_,rfl,h4,?_⟩;unfold RdL;exact ⟨_,_,rfl,h6,RdL.one h3⟩) λ⟨hA,hB⟩=>by
 obtain ⟨a1,a2,a3⟩:=q0z hA;obtain ⟨b1,b2,b3⟩:=q0z hB;have b4:=q6N hB;have cA:=q0w hA;have cB:=q0w hB;have sB:=q19 (a:=od B) Oq;have sA:=q19 (a:=od A) Oq;have oB:=q3S hB0;have e1:((od B).sign == 0)=false:=by simpa [zK] using oB
 by_cases hA0:A=0
 .have oA:od A=0:=by
   have:=q1Q A;rw [hA0] at this ⊢
   rcases xO.1 this with h | h
   .exact h
   .exact absurd h (xY (q0R _))
  have e2:((od A).sign == 0)=true:=by rw [oA]; rfl
  have hres:fQ mode A B=0:=by unfold fQ; rw [if_pos hA0]
  rw [hres];unfold dT at *;unfold bT at *;refine ac0 Tryz.func223 Tryz.ntmps223 [.tmp 6] ?_;refine wk1 (x2 e1 e2) ?_
  rfl
 have oA:=q3S hA0;have e2:((od A).sign == 0)=false:=by simpa [zK] using oA
 have tA:=q8p (a:=od A) Oq;have tB:=q8p (a:=od B) Oq;have pA:(od A).natAbs≠0:=ω
 have pB:(od B).natAbs≠0:=ω
 have cR:=qca pA pB Oq Oq;obtain ⟨k,hk⟩:∃ k,k=rtK (od A).natAbs (od B).natAbs:=⟨_,rfl⟩;rw [<- hk] at cR;have hk2:62+bl (od B).natAbs-bl (od A).natAbs=k:=hk.symm;have hbk:=q1R pA (k:=k);have hge:=q8Z pB (N:=(od A).natAbs*2 ^ k) (k:=60) (by rw [hbk]; omega);have hle:(od B).natAbs<=(od A).natAbs*2 ^ k:=by
  rcases xW ((od A).natAbs*2 ^ k) (od B).natAbs with h | h
  .rw [Nat.div_eq_of_lt h] at hge; simp [bl] at hge
  .exact h
 have hbq:=q0t (yQ ((od A).natAbs*2 ^ k) (od B).natAbs);have hrd:=q8m (N:=(od A).natAbs*2 ^ k) (M:=(od B).natAbs) (neg:=decide (A < 0) != decide (B < 0)) (mode:=mode) (e:=dyE A-k-dyE B) (Nat.pos_of_ne_zero pB) hle rfl (λ_=>by omega) Oq Oq Oq;rw [qj4 hA0 hB0] at hrd;have hres:fQ mode A B=rF mode (decide (A < 0) != decide (B < 0)) A.natAbs B.natAbs:=by unfold fQ; rw [if_neg hA0]
 rw [hres];have w1:IntKind.i64.wrap (dyE A-dyE B)=dyE A-dyE B:=q6b Oq Oq;have w2:IntKind.i64.wrap (dyE A-dyE B + -(k:Int))=dyE A-k-dyE B:=by rw [i64_in ω ω]; omega
 have s1:=q1w A;have s2:=q1w B;generalize rF mode (decide (A < 0) != decide (B < 0)) A.natAbs B.natAbs=res at *;generalize decide ((od A).natAbs*2 ^ k % (od B).natAbs≠0)=mr at *;generalize (od A).natAbs*2 ^ k / (od B).natAbs=q at *;have d1:∀ z:Nat,decide ((z:Int) < 0)=false:=λz=>decide_eq_false Oq;unfold dT at *;unfold bT at *;rw [<- s1,<- s2] at hrd;refine ac0 Tryz.func223 Tryz.ntmps223 [.tmp 6] ?_;exact wk1 (x4 e1 e2 w1 w2) trivial


def qgc (x:Nat):Prop:=0 < x / 1099511627776 % 3
instance {x:Nat}:Decidable (qgc x):=inferInstanceAs (Decidable (_ < _))
def gC (raw:List Nat) (R st j:Nat) (p:List Int × List Nat):Nat->List Int × List Nat
 | 0=>p
 | i+1=>let q:=gC raw R st j p i
  if qgc (q4u raw (100+j*R+i)) then (q.1 ++ [(i:Int)],q.2 ++ [q2v st (q4u raw (100+j*R+i))]) else q
def gM (raw:List Nat) (R st:Nat):Nat->List Int × List Int × List Nat
 | 0=>([0],[],[])
 | j+1=>let m:=gM raw R st j
  let p:=gC raw R st j m.2 R
  (m.1 ++ [(p.1.length:Int)],p)
abbrev pM (R C:Int) (m:List Int × List Int × List Nat):PV:=.ag [iv R,iv C,pI m.1,pI m.2.1,pF m.2.2]
def qdz {raw:List Nat} {R st j:Nat} {p:List Int × List Nat} (hp:p.1.length=p.2.length):∀ i,(gC raw R st j p i).1.length=(gC raw R st j p i).2.length/\(gC raw R st j p i).1.length<=p.1.length+i
 | 0=>⟨hp,zX _⟩
 | i+1=>by
  have:=qdz (raw:=raw) (R:=R) (st:=st) (j:=j) hp i;simp only [gC]
  split
  .simp only [zP,List.length_cons,List.length_nil]; omega
  .omega
def qkB {raw:List Nat} {R st:Nat}:∀ j,(gM raw R st j).1.length=j+1/\(gM raw R st j).2.1.length=(gM raw R st j).2.2.length/\(gM raw R st j).2.1.length<=j*R
 | 0=>⟨rfl,rfl,by simp [gM]⟩
 | j+1=>by
  have h1:=qkB (raw:=raw) (R:=R) (st:=st) j;have h2:=qdz (raw:=raw) (R:=R) (st:=st) (j:=j) h1.2.1 R;simp only [gM];refine ⟨by simp [h1.1],h2.1,?_⟩;rw [Nat.succ_mul]; omega
def qbm {raw : List Nat} {st : Int} {R C : Nat} (hr : raw.length <= 9223372036854775807) (hR : R <= 1000) (hC : C <= 1000) (h3 : -9223372036854775808 <= st) (h4 : st <= 9223372036854775807) :
    ACt 51 [pF raw, iv R, iv C, iv st] (pM R C (gM raw R (q06 st 4) C)) := by
  refine ac0 Tryz.func51 Tryz.ntmps51 [.cell 8 26] ?_
  refine wk ?_
  obtain ⟨sm, hsm⟩ : ∃ sm, sm = q06 st 4 := ⟨_, rfl⟩
  rw [<- hsm]
  refine q0B (λj => j <= C) [0, 1, 2, 3, 8, 9] [8] Lk Lk (λj : Nat => [(10, iv j)]) (λj => [(9, ⟨26, some 5, [.ag [iv R, iv C, .ow 1001 none 0 (gM raw R sm j).1.length, .ow 1002 none 0 (gM raw R sm j).2.1.length, .ow 1003 none 0 (gM raw R sm j).2.2.length]], false⟩), (1001, ⟨3, none, (gM raw R sm j).1.map λz => iv z, false⟩), (1002, ⟨3, none, (gM raw R sm j).2.1.map λz => iv z, false⟩), (1003, ⟨32, none, (gM raw R sm j).2.2.map λz : Nat => uv z, false⟩)]) (λj => C - j) 0 (zJ _) ?_ ?_
  . refine LeM [(1001, some 15), (1002, none), (1003, none)] rfl rfl ?_
    refine Zz ?_
    exact ⟨rfl, ⟨rfl, rfl, rfl⟩, rfl, rfl, rfl⟩
  . intro j hj
    have hg := qkB (raw := raw) (R := R) (st := sm) j
    have hjR : j * R <= 1000 * 1000 := xB Oq hR
    refine wk ?_
    by_cases hlt : j < C
    . have hlt' : (j : Int) < C := by omega
      refine wk1 hlt' ?_
      refine q0B (λi => i <= R) [0, 1, 2, 3, 8, 9, 10] [8, 1001] Lk Lk (λi : Nat => [(11, iv i)]) (λi => [(9, ⟨26, some 5, [.ag [iv R, iv C, .ow 1001 none 0 (gM raw R sm j).1.length, .ow 1002 none 0 (gC raw R sm j (gM raw R sm j).2 i).1.length, .ow 1003 none 0 (gC raw R sm j (gM raw R sm j).2 i).2.length]], false⟩), (1002, ⟨3, none, (gC raw R sm j (gM raw R sm j).2 i).1.map λz => iv z, false⟩), (1003, ⟨32, none, (gC raw R sm j (gM raw R sm j).2 i).2.map λz : Nat => uv z, false⟩)]) (λi => R - i) 0 (zJ _) ?_ ?_
      . refine LeM [] rfl rfl ?_
        refine Zz ?_
        exact ⟨rfl, ⟨rfl, rfl⟩, rfl, rfl⟩
      . intro i hi
        have hq := qdz (raw := raw) (R := R) (st := sm) (j := j) hg.2.1 i
        refine wk ?_
        by_cases hlt2 : i < R
        . have hlt2' : (i : Int) < R := by omega
          refine wk1 hlt2' ?_
          have e0 : 0 <= (j : Int) * R := Int.mul_nonneg Oq Oq
          have e1 : (j : Int) * R <= 1000000 := by have : ((j * R : Nat) : Int) <= 1000000 := by omega
                                                   rwa [Int.natCast_mul] at this
          obtain ⟨x, hx⟩ : ∃ x, x = q4u raw (100 + j * R + i) := ⟨_, rfl⟩
          have hxl : x < 18446744073709551616 := by rw [hx]; exact q4t _ _
          have e2 : (((x : Nat) : Int).fdiv (2 ^ min (uI 40) 64)) = ((x / 1099511627776 : Nat) : Int) := by
            show (((x : Nat) : Int).fdiv (2 ^ 40)) = _
            rw [show ((2 : Int) ^ 40) = ((1099511627776 : Nat) : Int) from rfl, y8 _ ω]; rfl
          have e3 : (((x / 1099511627776 : Nat) : Int).tmod 3) = ((x / 1099511627776 % 3 : Nat) : Int) := by rw [y7 ω]; rfl
          have C1 := @qcT
          have C2 := @qrx
          have ek : (decide (((x / 1099511627776 % 3 : Nat) : Int) > 0)) = decide (qgc x) := by unfold qgc; congr 1; exact propext ⟨λh => by omega, λh => by omega⟩
          by_cases hkp : qgc x
          . refine wk1 (x6 hx.symm hsm.symm e2 e3 ek hkp) ?_
            have eg : gC raw R sm j (gM raw R sm j).2 (i + 1) = ((gC raw R sm j (gM raw R sm j).2 i).1 ++ [(i : Int)], (gC raw R sm j (gM raw R sm j).2 i).2 ++ [q2v sm x]) := by
              simp only [gC]; rw [<- hx, if_pos hkp]
            refine ⟨i + 1, by omega, by omega, ?_⟩
            rw [eg]
            refine LeM [(1002, some 43), (1003, some 51)] rfl rfl ?_
            refine Zz ?_
            omega
          . refine wk1 (x5 hx.symm e2 e3 ek hkp) ?_
            refine ⟨i + 1, by omega, by omega, ?_⟩
            have eg : gC raw R sm j (gM raw R sm j).2 (i + 1) = gC raw R sm j (gM raw R sm j).2 i := by
              simp only [gC]; rw [<- hx, if_neg hkp]
            rw [eg]
            refine LeM [] rfl rfl ?_
            refine Zz ?_
            omega
        . have hlt2' : ¬ (i : Int) < R := by omega
          obtain rfl : i = R := by omega
          refine wk1 hlt2' ?_
          refine ⟨j + 1, by omega, by omega, ?_⟩
          refine LeM [(1001, some 59)] rfl rfl ?_
          refine Zz ?_
          exact ⟨ω, ⟨by simp [gM], rfl, rfl⟩, rfl, rfl, rfl⟩
    . have hlt' : ¬ (j : Int) < C := by omega
      obtain rfl : j = C := by omega
      exact wk1 (x2 hlt' hsm.symm) trivial
def gF (raw:List Nat) (R st:Nat) (j i:Nat):Option Nat:=if qgc (q4u raw (100+j*R+i)) then some (q2v st (q4u raw (100+j*R+i))) else none
def gC_s {raw:List Nat} {R st j i:Nat} {p:List Int × List Nat} {x:Nat} (hx:q4u raw (100+j*R+i)=x):gC raw R st j p (i+1)=if qgc x then ((gC raw R st j p i).1 ++ [(i:Int)],(gC raw R st j p i).2 ++ [q2v st x]) else gC raw R st j p i:=by
 subst hx; rfl
def gF_x {raw:List Nat} {R st j i x:Nat} (hx:q4u raw (100+j*R+i)=x):gF raw R st j i=if qgc x then some (q2v st x) else none:=by
 subst hx; rfl
def qcd {f:Nat->Nat->Option Nat} {j i x:Nat} {p:List Int × List Nat} (h:f j i=some x):tC f j p (i+1)=((tC f j p i).1 ++ [(i:Int)],(tC f j p i).2 ++ [x]):=by simp only [tC,h]
def qbX {f:Nat->Nat->Option Nat} {j i:Nat} {p:List Int × List Nat} (h:f j i=none):tC f j p (i+1)=tC f j p i:=by simp only [tC,h]
def gC_eq {raw:List Nat} {R st j:Nat} {p:List Int × List Nat} {G:Nat->Nat->Option Nat} (hG:∀ i,G j i=gF raw R st j i) (i:Nat):gC raw R st j p i=tC G j p i:=by
 induction i with
 | zero=>unfold gC tC; rfl
 | succ i ih =>
  obtain ⟨x,hx⟩:∃ x,q4u raw (100+j*R+i)=x:=⟨_,rfl⟩;have e2:=(hG i).trans (gF_x (R:=R) (st:=st) hx);rw [gC_s hx,ih]
  by_cases h:qgc x
  .rw [if_pos h] at e2 ⊢;rw [qcd e2]
  .rw [if_neg h] at e2 ⊢;rw [qbX e2]
def gM_eq {raw:List Nat} {R st:Nat} (j:Nat):gM raw R st j=tM (gF raw R st) R j:=by
 induction j with
 | zero=>rfl
 | succ j ih =>
  have e1:gM raw R st (j+1)=((gM raw R st j).1 ++ [((gC raw R st j (gM raw R st j).2 R).1.length:Int)],gC raw R st j (gM raw R st j).2 R):=rfl;rw [e1,ih,gC_eq (G:=gF raw R st) λ_=>rfl]; rfl
def q5V {raw:List Nat} {st:Int} {R C:Nat} (hr:raw.length<=9223372036854775807) (hR:R<=1000) (hC:C<=1000) (h3 : -9223372036854775808<=st) (h4:st<=9223372036854775807) :
  ACt 51 [pF raw,iv R,iv C,iv st] (pT R C (gF raw R (q06 st 4))):=by
 have:=qbm (R:=R) (C:=C) hr hR hC h3 h4;rw [gM_eq] at this;exact this
def qmR {x:Nat} (hx:x < 18446744073709551616):q0O (q2v 2 x)/\q2v 2 x < 18446744073709551616:=by
 unfold q0O q2v;rw [if_neg ω,if_pos rfl];have h1:x / 9223372036854775808<=1:=ω
 have h2:x / 256 % 81 < 81:=ω
 have h3:x / 2251799813685248 % 2<=1:=ω
 generalize x / 9223372036854775808=a at *;generalize x / 256 % 81=b at *;generalize x / 2251799813685248 % 2=c at *;omega
def qmP {k x:Nat} (hx:x < 18446744073709551616):q0O (q2v k x)/\q2v k x < 18446744073709551616:=by
 by_cases h1:k=1
 .subst h1;unfold q0O q2v;rw [if_pos rfl];omega
 by_cases h2:k=2
 .subst h2; exact qmR hx
 by_cases h3:k=3
 .subst h3;unfold q0O q2v;rw [if_neg ω,if_neg ω,if_pos rfl]
  split <;> omega
 have hs:=q6d x;unfold q2v;rw [if_neg h1,if_neg h2,if_neg h3];exact ⟨qmq Oq,qtK Oq⟩
def qgu {raw:List Nat} {R C st:Nat} (hR:R<=200) (hC:C<=200) (hm:C*R<=10000):TOk (gF raw R st) R C:=by
 have key:∀ j i x,gF raw R st j i=some x->q0O x/\x < 18446744073709551616:=λj i x h=>by
  obtain ⟨u,hu⟩:∃ u,q4u raw (100+j*R+i)=u:=⟨_,rfl⟩;have hl:u < 18446744073709551616:=by rw [<- hu]; exact q4t _ _
  rw [gF_x hu] at h
  split at h
  .have h:=z6.inj h;rw [<- h]; exact qmP hl
  .cases h
 exact ⟨hR,hC,hm,λj i x _ _ h=>(key j i x h).2,λj i x _ _ h=>(key j i x h).1⟩
section
variable {D:Nat->Prop} {L:List Nat} {N0 g n gy:Nat} {rows:List (List Int)} {ss:List (Option Addr × Nat × Nat)} {w w':World}
def qr7 {mode:Int} {neg:Bool} {N M:Nat} (hN:0 < N) (hM:0 < M):rF mode neg N M < 18446744073709551616:=by
 have h1:M<=N*2 ^ bl M:=zW (xX (q1y M)) (xL _ hN);have:=qr9 (mode:=mode) (neg:=neg) (e := -((bl M:Nat):Int)) hM h1;unfold rE at this;rw [show (-((bl M:Nat):Int)).toNat=0 by omega,show (- -((bl M:Nat):Int)).toNat=bl M by omega,xK,xE,q3d hN hM (q0F _)] at this;exact this
def qt5 {mode a b:Int} (hb:b≠0):fQ mode a b < 18446744073709551616:=by
 unfold fQ
 split
 .omega
 .exact qr7 Oq Oq
end
def qmO {V:Int}:Nz (pV V):=λw D B v hB h=>by
 obtain ⟨s,A,n,c,rfl,⟨h1,h2⟩,h3⟩:=qb1 h;refine qdE ⟨s,A,n,c,rfl,⟨h1,⟨h2.1.cap,h2.1.len,λhx=>?_⟩,h2.2⟩,h3⟩;obtain ⟨ad,hA,hd,hcell⟩:=h2.1.at_ hx;refine ⟨ad,hA,⟨hd,λhb=>?_⟩,hcell⟩;obtain ⟨cs,T,hb,hc⟩:=hB _ hb;obtain ⟨x,hx0⟩:∃ x,((lim (od V).natAbs).map u32v)[0]?=some x:=⟨_,zA hx⟩;have h1:=hcell 0 x hx0;have h2:∃ d:Int,x=.int .u32 d:=by
  rw [zH] at hx0;cases hl:(lim (od V).natAbs)[0]? with
  | none=>rw [hl] at hx0; cases hx0
  | some d=>rw [hl] at hx0; exact ⟨_,(z6.inj hx0).symm⟩
 obtain ⟨d,rfl⟩:=h2;have h3:w.heap[ad.block]?=some (.cells cs T (0,0)):=hb;have h4:(ad.add 0).block=ad.block:=q1C ad 0;unfold World.cell? at h1;rw [h4,h3] at h1;simp only at h1
 split at h1
 .cases h1
 .have:=hc _ (Array.mem_toList_iff.2 (Array.mem_of_getElem? h1));cases this
abbrev pVs (l:List Int):PV:=.sl (some 4) (l.map λV=>pV V)
def clV {l:List Int}:ClL (l.map λV=>pV V):=λx hx=>by
 obtain ⟨e,_,rfl⟩:=zR.1 hx
 trivial
def qed {l:List Int} (hn:l.length<=1000) (hv:q0d (q1l l)):ACt 45 [pVs l] (pV (q1l l)):=⟨κ,λD w vs hT hF hR=>by
 refine (qnQ hn (λx hx=>?_) hv).2 D w vs hT hF hR;obtain ⟨_,rfl,h3⟩:=qlq hR;obtain ⟨i,hi⟩:=List.mem_iff_getElem?.1 hx;unfold Rd at h3;obtain ⟨_,_,_,us,_,_,_,h5,_⟩:=h3;obtain ⟨v,_,hr⟩:=h5.get (show (l.map λV=>pV V)[i]?=some (pV x) by simp [hi]);exact ((q3a (ρ:=λ_=>none) (h:=h0)).2 (qb1 hr)).2⟩
def qja:Int:=(mkV 1 0).getD 0
def q9B:mkV 1 0=some qja/\bl qja.natAbs<=67600:=by
 have h1:bl (Int.natAbs 1)<=1:=q0N (by decide);have h:=q5L (m:=1) (E:=0) Oq Oq;unfold qja;rw [h];refine ⟨rfl,?_⟩;obtain ⟨k,hk⟩:∃ k,k=((0:Int)+65536).toNat:=⟨_,rfl⟩;have hk2:k<=65536:=ω
 rw [<- hk,yN,q0M,q1R (by decide)];omega
def q3q {mode V:Int}:fR mode V < 18446744073709551616:=by
 unfold fR
 split
 .omega
 .exact qr7 Oq (by exact Nat.two_pow_pos 65536)
def TOk.fin {f:Nat->Nat->Option Nat} {R C j i:Nat} (h:TOk f R C) (hj:j < C) (hi:i < R):q0O ((f j i).getD 0)/\(f j i).getD 0 < 18446744073709551616:=by
 cases hx:f j i with
 | none=>exact ⟨by unfold q0O; simp,σ⟩
 | some x=>exact ⟨h.v j i x hj hi hx,h.u j i x hj hi hx⟩
def q9q {l:List Int} (h:∀ x ∈ l,bl x.natAbs<=67600) (hl:l.length<=1024):q0d (q1l l):=by
 have:=q6a h hl;rw [uL] at this;unfold q0d;omega




def lfN (l:List Int) (r:Nat):Nat:=(l.getD r 0).toNat
def q9N {l:List Int} {r x:Nat} (h:l[r]?=some (x:Int)):lfN l r=x:=by
 unfold lfN; rw [zB,h]; simp
section
variable {n:Nat} {g g':Nat->Nat->Bool} {gn gn':Nat->Bool} {h:Hp}
end

def od_z0 {V:Int} (h:V=0):od V=0:=by
 have:=q1Q V;rw [h] at this ⊢
 rcases xO.1 this with h | h
 .exact h
 .exact absurd h (xY (q0R _))
def qgH {A B mode:Int} (hB0:B=0):ACt 223 [pV A,pV B,iv mode] (uv 9221120237041090560):=q84 (al':=[dT A,dT B,iv mode]) (p:=q0d A/\q0d B) qeq (λD w vs hR=>by
 obtain ⟨a,b,c,rfl,h1,h2,h3⟩:=rd_3 hR;obtain ⟨h4,h5⟩:=q3a.2 (qb1 h1);obtain ⟨h6,h7⟩:=q3a.2 (qb1 h2);refine ⟨?_,h5,h7⟩;unfold RdL;refine ⟨_,_,rfl,h4,?_⟩;unfold RdL;exact ⟨_,_,rfl,h6,RdL.one h3⟩) λ⟨hA,hB⟩=>by
 have b3:=q27 hB;have cA:=q0w hA;have cB:=q0w hB;have sB:=q19 (a:=od B) Oq;have e1:((od B).sign == 0)=true:=by rw [od_z0 hB0]; rfl
 unfold dT at *;unfold bT at *;refine ac0 Tryz.func223 Tryz.ntmps223 [.tmp 6] ?_;exact wk1 e1 trivial
def q4H (mode A B:Int):Nat:=if B=0 then 9221120237041090560 else fQ mode A B
def qdL {mode A B:Int}:q4H mode A B < 18446744073709551616:=by
 unfold q4H
 split
 .omega
 .exact qt5 (by assumption)
def qgG {A B mode:Int}:ACt 223 [pV A,pV B,iv mode] (uv (q4H mode A B:Nat)):=by
 unfold q4H
 split
 .exact qgH (by assumption)
 .exact qls (by assumption)
end Go.Proofs.YtbjoghfmhgadkaaGreatDoor
namespace Go.E
open Go Go.RowKit
section
variable {P:Program} {J:Nat->Prop} {s:Nat->PV} {h hw:Hp} {τ:Nat->Option Nat} {T1 T2:TypeId} {N R n k m:Nat} {g:Nat->Nat->Nat}
def tabU (T1 T2:TypeId) (N R n k m:Nat) (g:Nat->Nat->Nat):Hp:=λi =>
 if i=N then some ⟨T1,none,(List.range n).map λj=>if j < k then .ow (j+R) none 0 m else .vl (.slice none 0 0),false⟩
 else if R<=i/\i < R+k then some ⟨T2,none,(List.range m).map λc=>.vl (.int .u64 (g (i-R) c:Nat)),false⟩ else none
def qqR:tabU T1 T2 N R n k m g N=some ⟨T1,none,(List.range n).map λj=>if j < k then .ow (j+R) none 0 m else .vl (.slice none 0 0),false⟩:=if_pos rfl
def qqQ {j:Nat} (hN:N < R) (hj:j < k):tabU T1 T2 N R n k m g (j+R)=some ⟨T2,none,(List.range m).map λc=>.vl (.int .u64 (g j c:Nat)),false⟩:=by
 unfold tabU;rw [if_neg ω,if_pos ω,xA]
attribute [go_sem ↓] qqR qqQ
def q28 (g:Nat->Nat->Nat) (r c v:Nat):Nat->Nat->Nat:=λx y=>if x=r/\y=c then v else g x y
def qgE {f:Nat->Nat} {c v:Nat}:((List.range m).map λy=>PV.vl (.int .u64 (f y:Nat))).set c (.vl (.int .u64 (v:Nat)))=(List.range m).map λy=>PV.vl (.int .u64 (if y=c then v else f y:Nat)):=by
 apply z9
 intro i;rw [yA];simp only [uN,z7,zH]
 by_cases hi:i < m
 .rw [zC hi]
  by_cases hc:c=i
  .subst hc; simp [hi]
  .simp [hc,Ne.symm hc]
 .rw [zY (by simpa using hi)]
  by_cases hc:c=i <;> simp [hc]
  omega
def tnU (N o:Nat):Nat->Option Nat:=λi=>if i=N then some o else some i
def qqD {o i:Nat}:tnU N o i=if i=N then some o else some i:=rfl
attribute [go_sem ↓] qqD
end
section
variable {P:Program} {Tb:World->Prop} {J:Nat->Prop} {n:Nat} {Q:SQ} {s:Nat->PV} {h:Hp}
def A_jW [NL] {a b:Code} (xs:List (Nat × PV)) (bs:List (Nat × Bk)) (hw:Hp) (hb:AW P Tb J n b Q (stM xs []) (q0o hw (hpM bs [])))
  (ha:∀ K:(Nat->PV)->Hp->Prop,(∀ s h,Le J s h (stM xs []) (q0o hw (hpM bs []))->K s h)->AW P Tb J n a (thA K Q) s h):AW P Tb J n (.seq a b) Q s h :=
 q3N λK hK=>ha K λs h hl=>hK s h (q1h hl hb)
end
section
variable {J:Nat->Prop} {s:Nat->PV} {h hw:Hp} {τ:Nat->Option Nat}
def LeT [NL] (τ:Nat->Option Nat) {xs kv:List (Nat × PV)} {bs:List (Nat × Bk)} {kb:List (Nat × Option Bk)} (hJ:∀ i,J i->τ i=some i) (hlo:∀ i ∈ bs.map (·.1) ++ kb.map (·.1),¬ win i)
  (hW:∀ i b,win i->hw i=some b->LeB τ h (q0o hw (hpM bs kb)) i b)
  (hi:∀ i j k,(win i/\hw i≠none\/i ∈ bs.map (·.1) ++ kb.map (·.1))->(win j/\hw j≠none\/j ∈ bs.map (·.1) ++ kb.map (·.1))->τ i=some k->τ j=some k->i=j)
  (hh:q57 τ h (q0o hw (hpM bs kb)) s xs/\q57 τ h (q0o hw (hpM bs kb)) s kv/\q87 τ h (q0o hw (hpM bs kb)) bs/\q9e τ h (q0o hw (hpM bs kb)) kb):Le J s h (stM xs kv) (q0o hw (hpM bs kb)):=by
 obtain ⟨h1,h2,h3,h4⟩:=hh;have hm:∀ i b,q0o hw (hpM bs kb) i=some b->(win i/\hw i=some b)\/(¬ win i/\LeB τ h (q0o hw (hpM bs kb)) i b/\i ∈ bs.map (·.1) ++ kb.map (·.1)):=λi b hb=>by
  by_cases hi:win i
  .rw [q0P hi] at hb; exact .inl ⟨hi,hb⟩
  .rw [q1G hi] at hb; exact .inr ⟨hi,q3M h4 h3 i b hb⟩
 have hm2:∀ i b,q0o hw (hpM bs kb) i=some b->(win i/\hw i≠none\/i ∈ bs.map (·.1) ++ kb.map (·.1)):=λi b hb=>by
  rcases hm i b hb with ⟨a,c⟩ | ⟨_,_,c⟩
  .exact .inl ⟨a,by rw [c]; exact zI _⟩
  .exact .inr c
 refine q7R τ (λi b hb=>?_) (λi j k b c hi' hj ti tj=>hi i j k (hm2 i b hi') (hm2 j c hj) ti tj) (λt=>q6S h2 h1 t) λi q _ _=>hJ i q
 rcases hm i b hb with ⟨q1,q2⟩ | ⟨_,q,_⟩
 .exact hW i b q1 q2
 .exact q
variable {T1 T2:TypeId} {K:Kd} {N R n:Nat} {row:Nat->List PV} {B:Hp}
def q2B (T1 T2:TypeId) (K:Kd) (N R n:Nat) (row:Nat->List PV) (B:Hp):Hp:=λi =>
 if i=N then some ⟨T1,none,(List.range n).map λj=>.ow (j+R) K 0 (row j).length,false⟩
 else if R<=i/\i < R+n then some ⟨T2,K,row (i-R),false⟩ else B i
def q1k:q2B T1 T2 K N R n row B N=some ⟨T1,none,(List.range n).map λj=>.ow (j+R) K 0 (row j).length,false⟩:=if_pos rfl
def q1a {j:Nat} (hN:N < R) (hj:j < n):q2B T1 T2 K N R n row B (j+R)=some ⟨T2,K,row j,false⟩:=by
 unfold q2B;rw [if_neg ω,if_pos ω,xA]
def q0L {i:Nat} (h1:i≠N) (h2:i < R\/R+n<=i):q2B T1 T2 K N R n row B i=B i:=by
 unfold q2B;rw [if_neg h1,if_neg ω]
attribute [go_sem ↓] q1k q1a q0L
def q2D {i:Nat} {b:Bk} (hb:q2B T1 T2 K N R n row B i=some b):(i=N/\b=⟨T1,none,(List.range n).map λj=>.ow (j+R) K 0 (row j).length,false⟩)\/(i≠N/\R<=i/\i < R+n/\b=⟨T2,K,row (i-R),false⟩)\/(i≠N/\(i < R\/R+n<=i)/\B i=some b):=by
 unfold q2B at hb
 split at hb
 .cases hb; exact .inl ⟨‹_›,rfl⟩
 .rename_i h1
  split at hb
  .rename_i hi; cases hb; exact .inr (.inl ⟨h1,hi.1,hi.2,rfl⟩)
  .exact .inr (.inr ⟨h1,ω,hb⟩)
structure BOk (B:Hp) (p:Nat->Prop):Prop where
 b:∀ i b,B i=some b->p i/\b.st=false/\IdL (λj=>B j≠none) b.xs
def BOk.h0 {p:Nat->Prop}:BOk h0 p:=⟨λ_ _ h=>by cases h⟩
def qep {p:Nat->Prop} {x:PV} (h:q2n x):IdP p x:=by
 cases x <;> unfold IdP <;> first | trivial | exact h.elim
def q09 {p:Nat->Prop} {x:PV} (h:Cld x):IdP p x:=by
 cases x with
 | ag l=>unfold IdP; exact IdL.of λx hx=>qep (h x hx)
 | _=>exact qep h
def q2g {p:Nat->Prop} (hB:BOk B p) (hrow:∀ j,j < n->ClL (row j)) (hNR:N < R) (hp:p N/\∀ j,j < n->p (j+R)):BOk (q2B T1 T2 K N R n row B) p:=⟨λi b hb=>by
 rcases q2D hb with ⟨rfl,rfl⟩ | ⟨h0,h1,h2,rfl⟩ | ⟨h1,h2,h3⟩
 .refine ⟨hp.1,rfl,IdL.of λx hx=>?_⟩;obtain ⟨z,hz,rfl⟩:=zR.1 hx;unfold IdP;rw [q1a hNR (zZ.1 hz)];exact zI _
 .refine ⟨by have:=hp.2 (i-R) ω; rwa [Nat.sub_add_cancel h1] at this,rfl,IdL.of λx hx=>?_⟩;exact q09 (hrow (i-R) Oq x hx)
 .obtain ⟨q1,q2,q3⟩:=hB.b i b h3;refine ⟨q1,q2,IdL_mono (λj hj=>?_) _ q3⟩;unfold q2B
  split
  .exact zI _
  .split
   .exact zI _
   .exact hj⟩
def qlj (row:Nat->List PV) (k:Nat) (l:List PV):Nat->List PV:=λj=>if j=k then l else row j
def qjW {k:Nat} {l:List PV}:qlj row k l k=l:=if_pos rfl
def qjX {k j:Nat} {l:List PV} (h:j≠k):qlj row k l j=row j:=if_neg h
def q4j {j:Nat} {l:List PV} (hNR:N < R) (hj:j < n) (hl:l.length=(row j).length):q0S (q2B T1 T2 K N R n row B) (j+R) ⟨T2,K,l,false⟩=q2B T1 T2 K N R n (qlj row j l) B:=by
 funext i
 unfold q0S
 split
 .rename_i hi; subst hi;rw [q1a hNR hj,qjW]
 .rename_i hi;unfold q2B
  split
  .congr 2
   refine zQ λc _=>?_
   by_cases hc:c=j
   .subst hc; rw [qjW,hl]
   .rw [qjX hc]
  .split
   .rw [qjX ω]
   .rfl
def q2q {i:Nat} {b:Bk} (h1:i≠N) (h2:i < R\/R+n<=i):q0S (q2B T1 T2 K N R n row B) i b=q2B T1 T2 K N R n row (q0S B i b):=by
 funext j
 unfold q0S q2B
 by_cases hj:j=i
 .subst hj;simp only [if_true];rw [if_neg h1,if_neg ω]
 .simp only [if_neg hj]
variable {xs kv:List (Nat × PV)} {bs:List (Nat × Bk)} {kb:List (Nat × Option Bk)}
def quV {h:Hp} {i:Nat} {b:Bk} {f:Nat->Nat} (hi:i < R\/R+n<=i):q7H (q0S h i b) n R K f=q7H h n R K f:=by
 have:∀ l:List Nat,(∀ j ∈ l,j < n)->q1U (q0S h i b) (l.map λj=>.ow (j+R) K 0 (f j))=q1U h (l.map λj=>.ow (j+R) K 0 (f j)):=λl=>by
  induction l with
  | nil=>intro _; rfl
  | cons j l ih =>
   intro hl;have hj:=hl j uO;rw [yG,q1U,q1U,ih λk hk=>hl k (zV _ hk)];simp only [qbt];rw [q0A ω]
 exact this _ λj hj=>zZ.1 hj
def qkL {h h':Hp} {f:Nat->Nat} (hh:∀ j,j < n->h (j+R)=h' (j+R)):q7H h n R K f=q7H h' n R K f:=by
 have:∀ l:List Nat,(∀ j ∈ l,j < n)->q1U h (l.map λj=>.ow (j+R) K 0 (f j))=q1U h' (l.map λj=>.ow (j+R) K 0 (f j)):=λl=>by
  induction l with
  | nil=>intro _; rfl
  | cons j l ih =>
   intro hl;have hj:=hl j uO;rw [yG,q1U,q1U,ih λk hk=>hl k (zV _ hk)];simp only [qbt];rw [hh j hj]
 exact this _ λj hj=>zZ.1 hj
def quU {h hw:Hp} {f:Nat->Nat} (h5:5000<=R) (h6:R+n<=1000000):q7H (q0o hw h) n R K f=q7H hw n R K f:=qkL λj hj=>q0P ⟨ω,ω⟩
def q50 {K':Kd} {N' R' n':Nat} {f:Nat->Nat} (h1:N' < R\/R+n<=N') (h2:R'+n'<=R\/R+n<=R'):q7H (q2B T1 T2 K' N' R' n' row B) n R K f=q7H B n R K f:=qkL λj hj=>q0L Oq Oq
def q8Q {f:Nat->Nat} (h1:N < R):q7H (q2B T1 T2 K N R n row B) n R K f=cO (∀ j,j < n->ClL (row j)) (some ((List.range n).map λj=>.sl K ((row j).take (f j)),(List.range n).map (·+R))):=by
 unfold cO
 split
 .rename_i hc;have:∀ l:List Nat,(∀ j ∈ l,j < n)->q1U (q2B T1 T2 K N R n row B) (l.map λj=>.ow (j+R) K 0 (f j))=some (l.map λj=>.sl K ((row j).take (f j)),l.map (·+R)):=λl=>by
   induction l with
   | nil=>intro _; rfl
   | cons j l ih =>
    intro hl;have hj:=hl j uO;rw [yG,q1U,ih λk hk=>hl k (zV _ hk)];simp only [qbt];rw [q1a h1 hj,yC,if_pos ⟨rfl,rfl,hc j hj⟩];simp
  exact this _ λj hj=>zZ.1 hj
 .rename_i hc;obtain ⟨j,hc⟩:=Classical.not_forall.1 hc;obtain ⟨hj,hc⟩:=Classical.not_forall.1 hc;have:∀ l:List Nat,(∀ i ∈ l,i < n)->j ∈ l->q1U (q2B T1 T2 K N R n row B) (l.map λj=>.ow (j+R) K 0 (f j))=none:=λl=>by
   induction l with
   | nil=>intro _ h; cases h
   | cons i l ih =>
    intro hl hm;have hi:=hl i uO;rw [yG,q1U]
    by_cases hij:j=i
    .subst hij;simp only [qbt];rw [q1a h1 hj,yC,if_neg λh=>hc h.2.2]; rfl
    .rw [ih (λk hk=>hl k (zV _ hk)) (by simpa [hij] using hm)];cases qbt (q2B T1 T2 K N R n row B) (.ow (i+R) K 0 (f i)) <;> rfl
  exact this _ (λj hj=>zZ.1 hj) (zZ.2 hj)
def qc4 {α:Type} {f:Nat->α}:((List.range n).map f).take n=(List.range n).map f:=yE σ
def qmS {x:Nat} {a b:List Nat}:nin x (a ++ b)=(nin x a/\nin x b):=by
 rw [q6E,q6E,q6E,zN];exact propext not_or
def qsC {x:Nat} (h:x < R\/R+n<=x):nin x ((List.range n).map (·+R))=True:=by
 rw [q6E];refine eq_true λhm=>?_;obtain ⟨j,hj,rfl⟩:=zR.1 hm;have:=zZ.1 hj;omega
attribute [go_sem ↓] quV quU q50 q8Q
attribute [go_sem] qc4 qmS qsC
end
section
variable {α:Type} {v:α->PV} {g:Nat->Option α} {A B:List (Int × PV)} {z:Int} {x y:PV}
def cM (v:α->PV) (g:Nat->Option α):Nat->List (Int × PV)
 | 0=>[]
 | n+1=>cM v g n ++ ((g n).map λa=>((n:Int),v a)).toList
def gsT (g:Nat->Option α) (k:Nat) (a:α):Nat->Option α:=λi=>if i=k then some a else g i
def qd4:q0b (A ++ B) z=(q0b A z).or (q0b B z):=by
 induction A with
 | nil=>rfl
 | cons p A ih =>
  show (if p.1=z then some p.2 else q0b (A ++ B) z)=(if p.1=z then some p.2 else q0b A z).or (q0b B z)
  by_cases hp:p.1=z
  .rw [if_pos hp,if_pos hp]; rfl
  .rw [if_neg hp,if_neg hp]; exact ih
def q2N:∀ {A:List (Int × PV)},q0b A z=none->q1E A z x=A ++ [(z,x)]
 | [],_=>rfl
 | p :: A,h=>by
  unfold q0b at h;unfold q1E
  split at h
  .cases h
  .rename_i hp;rw [if_neg hp,q2N h]; rfl
def q6G:∀ {A:List (Int × PV)},q0b A z=some y->q1E (A ++ B) z x=q1E A z x ++ B
 | [],h=>by cases h
 | p :: A,h=>by
  unfold q0b at h;rw [List.cons_append];unfold q1E
  split at h
  .rename_i hp;rw [if_pos hp,if_pos hp]; rfl
  .rename_i hp;rw [if_neg hp,if_neg hp,q6G h]; rfl
def q4Q:∀ {A:List (Int × PV)},q0b A z=none->q1E (A ++ B) z x=A ++ q1E B z x
 | [],_=>rfl
 | p :: A,h=>by
  unfold q0b at h;rw [List.cons_append]
  split at h
  .cases h
  .rename_i hp;rw [q1E,if_neg hp,q4Q h]; rfl
def q51 {g':Nat->Option α}:∀ {n:Nat},(∀ i,i < n->g i=g' i)->cM v g n=cM v g' n
 | 0,_=>rfl
 | n+1,h=>by rw [cM,cM,q51 λi hi=>h i ω,h n ω]
def q8S {k:Nat}:∀ {n:Nat},q0b (cM v g n) (k:Int)=if k < n then (g k).map v else none
 | 0=>by rw [if_neg ω]; rfl
 | n+1=>by
  rw [cM,qd4,q8S (n:=n)]
  by_cases h1:k < n
  .rw [if_pos h1,if_pos ω];have:q0b ((g n).map λa=>((n:Int),v a)).toList (k:Int)=none:=by
    cases g n with
    | none=>rfl
    | some a=>simp only [zO,xC,q0b]; rw [if_neg ω]
   rw [this];cases (g k).map v <;> rfl
  .rw [if_neg h1]
   by_cases h2:k=n
   .subst h2;rw [if_pos ω];cases g k with
    | none=>rfl
    | some a=>simp [q0b]
   .rw [if_neg ω];cases g n with
    | none=>rfl
    | some a=>simp only [zO,xC,q0b,Option.none_or]; rw [if_neg ω]
def qer {k:Nat} {a:α}:∀ {n:Nat},k < n->(q1E (cM v g n) (k:Int) (v a)).Perm (cM v (gsT g k a) n)
 | 0,h=>by omega
 | n+1,h=>by
  have hB:∀ i,i≠k->gsT g k a i=g i:=λi hi=>if_neg hi
  by_cases h2:k=n
  .subst h2;have e1:cM v (gsT g k a) k=cM v g k:=q51 λi hi=>hB i Oq;rw [cM,cM,e1,q4Q (by rw [q8S,if_neg ω]),show gsT g k a k=some a from if_pos rfl];cases g k with
   | none=>exact .refl _
   | some b=>simp [q1E]
  .have ih:=qer (n:=n) (a:=a) (show k < n by omega);rw [cM,cM,hB n ω];cases hg:q0b (cM v g n) (k:Int) with
   | some y=>rw [q6G hg]; exact ih.append_right _
   | none =>
    rw [q2N hg] at ih;rw [q4Q hg];have:q1E ((g n).map λa=>((n:Int),v a)).toList (k:Int) (v a)=((g n).map λa=>((n:Int),v a)).toList ++ [((k:Int),v a)]:=q2N (by
     cases g n with
     | none=>rfl
     | some b=>simp only [zO,xC,q0b]; rw [if_neg ω])
    rw [this];refine List.Perm.trans ?_ (ih.append_right _);rw [xF];exact List.Perm.append_left _ List.perm_append_comm
def q8R {p:Int × PV}:∀ {n:Nat},p ∈ cM v g n->∃ i a,i < n/\g i=some a/\p=((i:Int),v a)
 | 0,h=>by cases h
 | n+1,h=>by
  rw [cM] at h
  rcases zN.1 h with h | h
  .obtain ⟨i,a,h1,h2⟩:=q8R h;exact ⟨i,a,ω,h2⟩
  .cases hg:g n with
   | none=>rw [hg] at h; cases h
   | some a=>rw [hg] at h; simp at h; exact ⟨n,a,ω,hg,h⟩
def qjo {i:Nat} {a:α}:∀ {n:Nat},i < n->g i=some a->((i:Int),v a) ∈ cM v g n
 | 0,h,_=>by omega
 | n+1,h,hg=>by
  rw [cM]
  by_cases e:i=n
  .subst e; rw [hg]; exact xP _ σ
  .exact yB _ (qjo Oq hg)
def qau:∀ {n:Nat},((cM v g n).map (·.1)).Nodup
 | 0=>List.nodup_nil
 | n+1=>by
  rw [cM,yR,yJ];refine ⟨qau,?_,λa ha b hb=>?_⟩
  .cases g n <;> simp
  .obtain ⟨p,hp,rfl⟩:=zR.1 ha;obtain ⟨i,c,h1,_,rfl⟩:=q8R hp;cases hg:g n with
   | none=>rw [hg] at hb; cases hb
   | some d=>rw [hg] at hb; simp at hb; subst hb; simp; omega
end
section
variable {w w':World} {D D' D0:Nat->Prop} {ρ ρ':Nat->Option Nat} {h h':Hp} {s s':Nat->PV} {J:Nat->Prop} {k:Kd} {l:List PV}
def fClp [NL] (k:Kd) (l:List PV):Fam:=⟨λD v w=>∃ A vs,v=.slice A l.length l.length/\Row w D (ksz k) A l.length l.length (q01 vs)/\RdL w D l (λ_=>none) h0 vs/\∀ u ∈ vs,q2S k u,
 λk ⟨A,vs,h1,h2,h3,h4⟩=>⟨A,vs,h1,(h2.lt.kp (k.mono λk _ hq=>hq.1)).sub λk _ hq=>hq.1,RdL.mv k (λ_ _ h=>h) l _ _ _ _ vs Cpt.h0 h3,h4⟩,
 λk ⟨A,vs,h1,h2,h3,h4⟩=>⟨A,vs,h1,h2.lt.sub λj _ hq=>k j hq.2 hq.1,RdL.mv (Kp.refl _ _) k l _ _ _ _ vs Cpt.h0 h3,h4⟩⟩
def qwl [NL]:ClP (.fm (fClp k l)) k l:=λw D ρ h v hr=>by
 unfold Rd at hr;obtain ⟨A,vs,h1,h2,h3,h4⟩:=hr;exact ⟨A,vs,h1,h2,h3,h4⟩
def hpG:List (Nat × Bk)->Hp->Hp
 | [],B,i=>B i
 | p :: l,B,i=>if i=p.1 then some p.2 else hpG l B i
def q1c {B:Hp} {i:Nat}:hpG [] B i=B i:=rfl
def q1O {a i:Nat} {b:Bk} {L:List (Nat × Bk)} {B:Hp}:hpG ((a,b) :: L) B i=if i=a then some b else hpG L B i:=rfl
attribute [go_sem] q1c q1O
def q1s {B:Hp} {i:Nat} {b:Bk}:∀ {L:List (Nat × Bk)},hpG L B i=some b->(i,b) ∈ L\/(i ∉ L.map (·.1)/\B i=some b)
 | [],h=>.inr ⟨σ,h⟩
 | p :: L,h=>by
  unfold hpG at h
  split at h
  .rename_i hi; cases h; subst hi; exact .inl uO
  .rename_i hi
   rcases q1s h with h | ⟨h1,h2⟩
   .exact .inl (zV _ h)
   .exact .inr ⟨λhm=>by
     rw [yG] at hm
     rcases yO.1 hm with e | hm
     .exact hi e
     .exact h1 hm,h2⟩
def q1L {B:Hp} {i:Nat}:∀ {L:List (Nat × Bk)},B i≠none\/i ∈ L.map (·.1)->hpG L B i≠none
 | [],h=>h.resolve_right σ
 | p :: L,h=>by
  unfold hpG
  split
  .exact zI _
  .rename_i hi;refine q1L (h.imp id λhm=>?_);rw [yG] at hm;exact (yO.1 hm).resolve_left hi
def q8A {B:Hp} {i:Nat}:∀ {L:List (Nat × Bk)},i ∉ L.map (·.1)->hpG L B i=B i
 | [],_=>rfl
 | p :: L,h=>by
  unfold hpG;rw [yG,yO,not_or] at h;rw [if_neg h.1];exact q8A h.2
def q9c {τ:Nat->Option Nat} {z:Int} {x y:PV} (hx:LeV τ h h' x y):LeV τ h h' (mPv (z,x)) (mPv (z,y)):=.tu rfl λi a b ha hb=>by
 rcases i with _ | _ | i
 .cases ha; cases hb; exact .cl trivial
 .cases ha; cases hb; exact hx
 .simp at ha
def q7U {τ:Nat->Option Nat}:∀ {L:List (Nat × Bk)},q87 τ h h' L->∀ p ∈ L,LeB τ h h' p.1 p.2
 | _ :: _,hl,p,hp=>by
  unfold q87 at hl
  rcases yO.1 hp with rfl | hp
  .exact hl.1
  .exact q7U hl.2 p hp
def q2e (τ:Nat->Option Nat) (B:Hp):List Nat->Prop
 | []=>True
 | i :: l=>(∀ j,τ i=some j->¬ win j\/B j=none\/j=i)/\q2e τ B l
def q9o {τ:Nat->Option Nat} {B:Hp}:∀ {l:List Nat},q2e τ B l->∀ i ∈ l,∀ j,τ i=some j->¬ win j\/B j=none\/j=i
 | a :: l,h,i,hi=>by
  rcases yO.1 hi with rfl | hi
  .exact h.1
  .exact q9o h.2 i hi
def LeG0 [NL] {N:List Nat} {B:Hp} (τ:Nat->Option Nat) (hJ:∀ i,J i->τ i=some i) (hB:BOk B win) (hd:∀ i b,h' i=some b->(i ∈ N/\LeB τ h h' i b)\/(i ∉ N/\B i=some b)) (hk:∀ i,B i≠none->τ i=some i/\(i ∈ N\/h i=B i)/\h' i≠none) (hg:q2e τ B N) (ho:q4y τ N) (hs:∀ t,LeV τ h h' (s t) (s' t)):Le J s h s' h':=by
 have hbw:∀ i,B i≠none->win i:=λi hi=>by
  obtain ⟨b,hb⟩:=zE.1 hi;exact (hB.b i b hb).1
 refine q7R τ (λi b hb=>?_) (λi j k b c hi hj ti tj=>?_) hs λi q _ _=>hJ i q
 .rcases hd i b hb with ⟨_,q⟩ | ⟨q0,q⟩
  .exact q
  .obtain ⟨q1,q2,q3⟩:=hB.b i b q;obtain ⟨k1,k2,k3⟩:=hk i (by rw [q]; exact zI _);unfold LeB;rw [k1];refine ⟨b,(k2.resolve_left q0).trans q,rfl,rfl,⟨q2,q2⟩,LeL_self (λj hj=>?_) _ q3⟩;obtain ⟨j1,j2,j3⟩:=hk j hj;exact ⟨j1,zE.1 j3⟩
 .have one:∀ {i j:Nat} {c:Bk},i ∈ N->(j ∉ N/\B j=some c)->τ i=some k->τ j=some k->i=j:=λ{i j c} h1 h2 ti tj=>by
   have hj:=(hk j (by rw [h2.2]; exact zI _)).1;have hkj:j=k:=z6.inj (hj.symm.trans tj);rw [<- hkj] at ti
   rcases q9o hg i h1 j ti with q | q | q
   .exact absurd (hbw j (by rw [h2.2]; exact zI _)) q
   .rw [h2.2] at q; cases q
   .exact q.symm
  rcases hd i b hi with ⟨q1,_⟩ | q1 <;> rcases hd j c hj with ⟨q2,_⟩ | q2
  .rcases q2d ho i q1 j q2 with q | q | q
   .exact q
   .rw [ti] at q; cases q
   .rw [ti,tj] at q; exact absurd rfl q
  .exact one q1 q2 ti tj
  .exact (one q2 q1 tj ti).symm
  .have a1:=(hk i (by rw [q1.2]; exact zI _)).1;have a2:=(hk j (by rw [q2.2]; exact zI _)).1;exact (z6.inj (a1.symm.trans ti)).trans (z6.inj (a2.symm.trans tj)).symm
variable {xs kv:List (Nat × PV)} {bs L:List (Nat × Bk)} {kb:List (Nat × Option Bk)} {B:Hp} {τ:Nat->Option Nat}
def loN:List Nat->Prop
 | []=>True
 | i :: l=>¬ win i/\loN l
def qdg:∀ {l:List Nat},loN l->∀ i ∈ l,¬ win i
 | a :: l,h,i,hi=>by
  rcases yO.1 hi with rfl | hi
  .exact h.1
  .exact qdg h.2 i hi
def LeG [NL] (l:List (Nat × Option Nat)) (hlt:q0Z l=τ) (hJ:∀ i,J i->τ i=some i) (hB:BOk B win) (hk:∀ i,B i≠none->τ i=some i) (hq:∀ i,B i≠none->i ∉ L.map (·.1)->h i=B i) (hL:∀ p ∈ L,win p.1) (hlo:loN (bs.map (·.1) ++ kb.map (·.1))) (hg:q2e τ B (L.map (·.1) ++ (bs.map (·.1) ++ kb.map (·.1))))
  (hh:q57 τ h (q0o (hpG L B) (hpM bs kb)) s xs/\q57 τ h (q0o (hpG L B) (hpM bs kb)) s kv/\q87 τ h (q0o (hpG L B) (hpM bs kb)) L/\q87 τ h (q0o (hpG L B) (hpM bs kb)) bs/\q9e τ h (q0o (hpG L B) (hpM bs kb)) kb/\q4y τ (L.map (·.1) ++ (bs.map (·.1) ++ kb.map (·.1)))):Le J s h (stM xs kv) (q0o (hpG L B) (hpM bs kb)):=by
 obtain ⟨h1,h2,h3,h4,h5,h6⟩:=hh;have hbw:∀ i,B i≠none->win i:=λi hi=>by
  obtain ⟨b,hb⟩:=zE.1 hi;exact (hB.b i b hb).1
 refine LeG0 τ hJ hB (λi b hb=>?_) (λi hi=>⟨hk i hi,?_,?_⟩) hg h6 λt=>q6S h2 h1 t
 .by_cases hi:win i
  .rw [q0P hi] at hb
   rcases q1s hb with q | ⟨q1,q2⟩
   .exact .inl ⟨yB _ (zR.2 ⟨_,q,rfl⟩),q7U h3 _ q⟩
   .refine .inr ⟨λhm=>?_,q2⟩
    rcases zN.1 hm with hm | hm
    .exact q1 hm
    .exact qdg hlo i hm hi
  .rw [q1G hi] at hb;obtain ⟨q1,q2⟩:=q3M h5 h4 i b hb;exact .inl ⟨xP _ q2,q1⟩
 .by_cases hm:i ∈ L.map (·.1)
  .exact .inl (yB _ hm)
  .exact .inr (hq i hi hm)
 .rw [q0P (hbw i hi)];exact q1L (.inl hi)
def qcF [NL] {m x:PV} (l:List (Nat × Option Nat)) (hlt:q0Z l=τ) (hJ:∀ i,J i->τ i=some i) (hB:BOk B win) (hk:∀ i,B i≠none->τ i=some i) (hq:∀ i,B i≠none->i ∉ L.map (·.1)->h i=B i) (hg:q2e τ B (L.map (·.1)))
  (hh:LeV τ h (hpG L B) m x/\q87 τ h (hpG L B) L/\q4y τ (L.map (·.1))):Le J (λ_=>m) h (λ_=>x) (hpG L B):=by
 obtain ⟨h1,h3,h6⟩:=hh;refine LeG0 τ hJ hB (λi b hb=>?_) (λi hi=>⟨hk i hi,?_,q1L (.inl hi)⟩) hg h6 λt=>h1
 .rcases q1s hb with q | ⟨q1,q2⟩
  .exact .inl ⟨zR.2 ⟨_,q,rfl⟩,q7U h3 _ q⟩
  .exact .inr ⟨q1,q2⟩
 .by_cases hm:i ∈ L.map (·.1)
  .exact .inl hm
  .exact .inr (hq i hi hm)
def qic {τ:Nat->Option Nat} {x y:PV} {l m:List PV}:LeL τ h h' (x :: l) (y :: m) ↔ LeV τ h h' x y/\LeL τ h h' l m:=by
 rw [<- q0e,<- q0e];exact Iff.rfl
def q1g {τ:Nat->Option Nat}:∀ {l:List (Int × PV)},(∀ p ∈ l,Cld p.2)->LeL τ h h' (mpL l) (mpL l)
 | [],_=>⟨rfl,λi x y hx=>by simp [mpL] at hx⟩
 | p :: l,hl=>qic.2 ⟨.tu rfl λi x y hx hy=>by
   rw [hx] at hy;cases hy
   rcases i with _ | _ | i
   .cases hx; exact .cl trivial
   .cases hx; exact .cl (hl p uO)
   .simp at hx,q1g λq hq=>hl q (zV _ hq)⟩
def q4r {τ:Nat->Option Nat} {z:Int} {x y:PV} (hx:LeV τ h h' x y):∀ {l:List (Int × PV)},(∀ p ∈ l,Cld p.2)->LeL τ h h' (mpL (q1E l z x)) (mpL (q1E l z y))
 | [],_=>qic.2 ⟨q9c hx,q1g (l:=[]) λp hp=>by cases hp⟩
 | p :: l,hl=>by
  unfold q1E
  split
  .exact qic.2 ⟨q9c hx,q1g λq hq=>hl q (zV _ hq)⟩
  .refine qic.2 ⟨q9c (.cl (hl p uO)),q4r hx λq hq=>hl q (zV _ hq)⟩
def qwE {τ:Nat->Option Nat} {i j:Nat}:LeV τ h h' (.mp j) (.mp i)=(τ i=some j/\∃ b,h' i=some b):=by
 refine propext ⟨λq=>?_,λ⟨a,b,c⟩=>.mp a c⟩;cases q with
 | mp a b=>exact ⟨a,_,b⟩
 | cl a=>exact a.elim
attribute [go_sem] qwE
def qvt [NL] {h1:Hp} {id:Nat} {T:TypeId} {l l':List (Int × PV)} (hL:Le J s h s' h1) (hi:h1 id=some ⟨T,some 0,[.tu (mpL l)],false⟩) (hp:l.Perm l') (he:q0S h1 id ⟨T,some 0,[.tu (mpL l')],false⟩=h'):Le J s h s' h':=λD0 w0 ρ e w hJ S=>by
 obtain ⟨ρ1,S1⟩:=hL D0 w0 ρ e w hJ S;subst he;exact Le_mp hi hp D0 w0 ρ1 e w hJ S1
def BOk.hi {H:Hp} (hB:BOk H win):∀ i b,H i=some b->win i/\b.st=false/\IdL win b.xs/\∃ b',H i=some b'/\b'.k=b.k/\b.xs.length<=b'.xs.length:=λi b hb=>by
 obtain ⟨h1,h2,h3⟩:=hB.b i b hb;exact ⟨h1,h2,IdL_mono (λj hj=>by
  obtain ⟨c,hc⟩:=zE.1 hj;exact (hB.b j c hc).1) _ h3,b,hb,rfl,zX _⟩
def BOk.ho {H:Hp} (hB:BOk H win):∀ i b,H i=some b->win i:=λi b hb=>(hB.b i b hb).1
end
end Go.E
namespace Go.Proofs.YtbjoghfmhgadkaaGreatDoor
open Go Go.E Go.Sp
abbrev LSt:=(Nat->Nat->Nat) × List Int × List Nat
section
variable {F:Nat->Nat->Option Nat} {l:List Int} {cs:List Nat} {cols:List (List Nat)} {j n:Nat} {p:LSt}
end
end Go.Proofs.YtbjoghfmhgadkaaGreatDoor
namespace Go.E
open Go Go.RowKit
end Go.E
namespace Go.Proofs.YtbjoghfmhgadkaaGreatDoor
open Go Go.E Go.Sp


def qlp {w:World} {D:Nat->Prop} {ρ:Nat->Option Nat} {h:Hp} {v:Value} {l:List Nat} (hr:In (fSc u64v l) D v w):Rd w D (pF l) ρ h v:=qrN (f:=u64v) (λx=>⟨rfl,rfl⟩) hr

def qqj {id m n:Nat} (h:m<=n):slP (some 1) none (some (iv (m:Int))) (.ow id none 0 n)=some (.ow id none 0 m):=by
 simp [slP,qcN,ksz];omega
def qqi {id m n:Nat} (h:m<=n):slP (some 1) (some (iv (m:Int))) none (.ow id none 0 n)=some (.ow id none m (n-m)):=by
 simp [slP,qcN,ksz];omega
def qgQ {raw:List Nat} {N:Nat} (hr:raw.length<=9223372036854775807) (hN:N<=1000000):ACt 53 [pF raw,iv N] (pI (q3R raw N)):=by
 have hol:=q5K raw;refine ac0 Tryz.func53 Tryz.ntmps53 [.tmp 4] ?_;refine wk ?_;refine q0B (λi=>i<=N) [0,1] [] Lk Lk (λi:Nat=>[(6,iv i),(5,.ow 1001 none 0 i)]) (λi=>[(1001,⟨3,none,(q3R raw i).map λz=>iv z,false⟩)]) (λi=>N-i) 0 (zJ _) ?_ ?_
 .refine LeM [(1001,some 8)] rfl rfl ?_;refine Zz ?_;exact ⟨rfl,rfl⟩
 .intro i hi
  by_cases hlt:i < N
  .have C1:=qcT (raw:=raw) (k:=700+(i:Int)) hr Oq Oq;have C2:=q3H (a:=((q4u raw (700+(i:Int)) / 2:Nat):Int)) (n:=i+1) Oq (by have:=q4t raw (700+(i:Int)); omega) Oq Oq;have e2':IntKind.i64.wrap ((i:Int)+1)=((i+1:Nat):Int):=by rw [i64_in ω ω]; omega
   have e3':IntKind.i64.wrap ((q4u raw (700+i) / 2:Nat):Int)=((q4u raw (700+i) / 2:Nat):Int):=i64_in Oq (by have:=q4t raw (700+(i:Int)); omega);have hs:q3R raw (i+1)=(q3R raw i).take (q06 ((q4u raw (700+i) / 2:Nat):Int) (i+1)) ++ [(i:Int)] ++ (q3R raw i).drop (q06 ((q4u raw (700+i) / 2:Nat):Int) (i+1)):=rfl;have hlt2:=q3T (a:=((q4u raw (700+i) / 2:Nat):Int)) (n:=i+1) Oq;have hl:=hol i;generalize q06 ((q4u raw (700+i) / 2:Nat):Int) (i+1)=m at *;generalize q3R raw i=L at *;have f1:slP (some 1) none (some (iv (m:Int))) (.ow 1001 none 0 i)=some (.ow 1001 none 0 m):=qqj Oq;have f2:slP (some 1) (some (iv (m:Int))) none (.ow 1001 none 0 i)=some (.ow 1001 none m (i-m)):=qqi Oq;have f3:(xZ m (List.map (λz=>iv z) L)).length=m:=by
    rw [yX,uN];omega
   have f4:(xU m (List.map (λz=>iv z) L)).length=i-m:=by rw [List.length_drop,uN,hl]
   have f5:xZ (i-m) (xU m (List.map (λz=>iv z) L))=xU m (List.map (λz=>iv z) L):=yE Oq;refine wk1 (x6 e2' e3' hl f1 f2 (x3 f3 f4 f5)) ?_;refine ⟨i+1,ω,ω,?_⟩;rw [hs];have f6:(xZ m (List.map (λz=>iv z) L) ++ [iv (i:Int)] ++ xU m (List.map (λz=>iv z) L))=(xZ m L ++ [(i:Int)] ++ xU m L).map λz=>iv z:=σ
   refine LeM [(1001,some 34)] rfl rfl ?_;refine Zz ?_;rw [f6];exact ⟨ω,q0G rfl clI⟩
  .obtain rfl:i=N:=ω
   exact wk1 (hol i) trivial
def qrT {neg:Bool} {A B:Nat} (hB:0 < B):2*A<=2*(B*rq 0 neg A B)+B/\2*(B*rq 0 neg A B)<=2*A+B:=by
 have h1:=xM A B;have h2:=yY A hB;unfold rq;rw [if_neg (by omega:¬ (0:Int)=1),if_neg (by omega:¬ (0:Int)=2),if_neg (by omega:¬ (0:Int)=3)];have h3:B*(A / B+1)=B*(A / B)+B:=by rw [Nat.mul_add,xE]
 split
 .omega
 .split
  .rw [h3]; omega
  .omega
def qlk {mode:Int} {neg:Bool} {N D:Nat}:N / D<=rq mode neg N D:=by unfold rq; (repeat' split) <;> omega
def q6f {mode:Int} {neg:Bool} {N D K:Nat} (hN:0 < N) (hD:0 < D) (hK:1074<=K):∃ u r:Nat,K<=u+1074/\rF mode neg N D=fin mode neg r ((u:Int)-K)/\r=rq mode neg (N*2 ^ K) (D*2 ^ u)/\r<=9007199254740992/\(u+1074=K\/(4503599627370496<=r/\D*2 ^ (u+52)<=N*2 ^ K)):=by
 obtain ⟨q,hq⟩:∃ q,q=qdl N D:=⟨_,rfl⟩;have hq1:q=max (lgq N D-52) (-1074):=hq;obtain ⟨u,hu⟩:∃ u:Nat,(u:Int)=q+K:=⟨(q+K).toNat,ω⟩;have hbl:D<=N*2 ^ bl D:=zW (xX (q1y D)) (xL _ hN);obtain ⟨g,hg⟩:∃ g,bl (N*2 ^ bl D / D)=g+1:=⟨bl (N*2 ^ bl D / D)-1,by
  have:bl (N*2 ^ bl D / D)≠0:=λh=>by
   have h1:=q1y (N*2 ^ bl D / D);rw [h] at h1;have:=xS hbl hD;omega
  omega⟩
 have hlg:lgq N D=(g:Int)-bl D:=by unfold lgq; omega
 have f2:N*2 ^ bl D < D*2 ^ (g+1):=by
  have:=q1y (N*2 ^ bl D / D);rw [hg,xQ hD] at this;rw [uU D];exact this
 have f1:D*2 ^ g<=N*2 ^ bl D:=by
  have:=q7K (n:=N*2 ^ bl D / D) (by have:=xS hbl hD; omega);rw [hg,uY hD] at this;rw [uU D];exact this
 generalize bl D=b at *;have hr:rat mode neg N D q=rq mode neg (N*2 ^ K) (D*2 ^ u):=by
  unfold rat;rw [<- q39 (c:=2 ^ (K-(-q).toNat)) (q0F _),yP,yP,<- uS,<- uS,show (-q).toNat+(K-(-q).toNat)=K by omega,show q.toNat+(K-(-q).toNat)=u by omega]
 refine ⟨u,_,ω,?_,rfl,?_,?_⟩
 .unfold rF;rw [<- hq,hr,show (u:Int)-K=q by omega]
 .refine zW qrS ?_;have:N*2 ^ K / (D*2 ^ u) < 2 ^ 53:=by
   rw [xQ (Nat.mul_pos hD (q0F _))];refine Nat.lt_of_mul_lt_mul_right (a:=2 ^ b) ?_;have e1:N*2 ^ K*2 ^ b=N*2 ^ b*2 ^ K:=by rw [yU]
   have e2:2 ^ 53*(D*2 ^ u)*2 ^ b=D*2 ^ (53+u+b):=by rw [Nat.mul_left_comm,yP,<- uS,<- uS]
   rw [e1,e2];refine yS (yI f2 (q0F K)) ?_;rw [yP,<- uS];exact Nat.mul_le_mul_left _ (yK Oq Oq)
  have h53:(2:Nat) ^ 53=9007199254740992:=by decide
  omega
 .by_cases h:u+1074=K
  .exact .inl h
  .right
   have hm:D*2 ^ (u+52)<=N*2 ^ K:=by
    refine Nat.le_of_mul_le_mul_right (c:=2 ^ b) ?_ (q0F b);have e1:N*2 ^ K*2 ^ b=N*2 ^ b*2 ^ K:=by rw [yU]
    have e2:D*2 ^ (u+52)*2 ^ b=D*2 ^ g*2 ^ K:=by rw [yP,yP,<- uS,<- uS]; congr 2; omega
    rw [e1,e2];exact Nat.mul_le_mul_right _ f1
   refine ⟨zW ?_ qlk,hm⟩;rw [uY (Nat.mul_pos hD (q0F _))];have h52:(2:Nat) ^ 52=4503599627370496:=by decide
   rw [<- h52,Nat.mul_left_comm,<- uS,Nat.add_comm 52];exact hm
def q6v {mode:Int} {neg:Bool} {r u:Nat} {K:Nat} (hK:K=65536) (h1:K<=u+1074) (h2:r<=9007199254740992) (h3:u+1074=K\/4503599627370496<=r) (h4:u+1076 < 2047+K):ofF (fin mode neg r ((u:Int)-K))=some (sgn neg r*(2:Int) ^ u):=by
 unfold fin
 split
 .rename_i h;rw [q3p Oq Oq Oq Oq,show ((u:Int)-K+1+65536).toNat=u+1 by omega,h]
  congr 1
  cases neg <;> simp [sgn,Int.pow_succ] <;> omega
 .rw [q3p Oq Oq Oq Oq,show ((u:Int)-K+65536).toNat=u by omega]
def q4l {neg:Bool}:¬ q0O (q8a 0 neg):=by
 cases neg <;> exact λh=>h (by decide)
def qhf {neg:Bool} {r u:Nat} {K:Nat} (hK:K=65536) (h1:K<=u+1074) (h2:r<=9007199254740992) (h3:u+1074=K\/4503599627370496<=r) (hf:q0O (fin 0 neg r ((u:Int)-K))):ofF (fin 0 neg r ((u:Int)-K))=some (sgn neg r*(2:Int) ^ u):=by
 by_cases h4:u+1076 < 2047+K
 .exact q6v hK h1 h2 h3 h4
 .unfold fin at hf ⊢
  split
  .rename_i h;rw [if_pos h] at hf;unfold q5c at hf;rw [if_neg Oq,if_pos ω] at hf;exact absurd hf q4l
  .rename_i h;rw [if_neg h] at hf
   by_cases h5:u+1075 < 2047+K
   .rw [q3p Oq Oq Oq Oq,show ((u:Int)-K+65536).toNat=u by omega]
   .unfold q5c at hf;rw [if_neg Oq,if_pos ω] at hf;exact absurd hf q4l
def q2u:ofF 0=some 0:=by
 unfold ofF;rw [if_neg (by decide),if_pos (by decide)];have:sgn (decide (9223372036854775808<=0)) (0 % 4503599627370496)=0:=by decide
 rw [this,yL]
def qag {mode V:Int} {K c:Nat} (hK:K=65536) (hc:c=900) (h:V.natAbs < 2 ^ c*2 ^ K):q0O (fR mode V):=by
 unfold fR
 split
 .unfold q0O; simp
 .rw [<- hK];obtain ⟨u,r,h1,h2,h3,h4,h5⟩:=q6f (mode:=mode) (neg:=decide (V < 0)) (N:=V.natAbs) (D:=2 ^ K) (K:=K) Oq (q0F _) Oq;rw [h2];have hu:u+1076 < 2047+K:=by
   rcases h5 with h5 | ⟨_,h5⟩
   .omega
   .have h6:2 ^ K*2 ^ (u+52) < 2 ^ c*2 ^ K*2 ^ K:=uQ h5 (yI h (q0F K));rw [<- uS,<- uS,<- uS] at h6;have:=(Nat.pow_lt_pow_iff_right (by omega:1 < 2)).1 h6;omega
  have:=q6v (mode:=mode) (neg:=decide (V < 0)) hK h1 h4 Oq hu;intro hn;unfold ofF at this;rw [if_pos hn] at this;cases this
def qoH (m:Int) (k:Nat) (h1:m.natAbs < 9007199254740992) (h2:k<=65561):bl (m*(2:Int) ^ k).natAbs<=66000:=by
 have h53:∀ n:Nat,n < 9007199254740992->bl n<=53:=λn h=>q0N (yS h (zX _))
 by_cases hm:m=0
 .subst hm; rw [yL]; simp [q0m]
 .rw [q0M,q1R ω]; have:=h53 _ h1; omega
def qjc {f:Nat} (h:f / 4503599627370496 % 2048<=1100):bl (ofZ f).natAbs<=66000:=by
 have hm:=yY f (show 0 < 4503599627370496 by omega);have hfm:∃ (m:Int) (k:Nat),ofF f=some (m*(2:Int) ^ k)/\m.natAbs < 9007199254740992/\k<=65561:=by
  unfold ofF;rw [if_neg ω];generalize f / 4503599627370496 % 2048=x at *;generalize f % 4503599627370496=m at *
  split
  .exact ⟨_,64462,rfl,by rw [q13]; omega,ω⟩
  .exact ⟨_,64461+x,rfl,by rw [q13]; omega,ω⟩
 obtain ⟨m,k,h1,h2,h3⟩:=hfm;rw [q03 h1];exact qoH m k h2 h3
def qmQ {k x:Nat} (hk:k < 3) (hx:x < 18446744073709551616):bl (ofZ (q2v k x)).natAbs<=66000:=by
 by_cases h1:k=1
 .subst h1;refine qjc ?_;unfold q2v;rw [if_pos rfl];omega
 by_cases h2:k=2
 .subst h2;refine qjc ?_;unfold q2v;rw [if_neg ω,if_pos rfl];have h1:x / 9223372036854775808<=1:=ω
  have h2:x / 256 % 81 < 81:=ω
  have h3:x / 2251799813685248 % 2<=1:=ω
  generalize x / 9223372036854775808=a at *;generalize x / 256 % 81=b at *;generalize x / 2251799813685248 % 2=c at *;omega
 have hs:=q6d x;unfold q2v;rw [if_neg h1,if_neg h2,if_neg ω,q03 (qkD ω)];exact qoH _ 65536 Oq Oq
def qmK:bl qja.natAbs<=66000:=by
 have h:=q9J (z:=1) (by have:=q0N (n:=Int.natAbs 1) (k:=1) (by decide); omega);rw [q9B.1] at h;rw [z6.inj h];exact qoH 1 65536 (by decide) Oq
def qtG {raw:List Nat} {R k:Nat} (hk:k < 3) {j i:Nat}:bl (ofZ ((gF raw R k j i).getD 0)).natAbs<=66000:=by
 unfold gF
 split
 .exact qmQ hk (q4t _ _)
 .rw [Option.getD_none,q03 q2u]; simp [q0m]
structure LuS where
 rows:List Nat
 l:Nat->Nat->Nat
 iL:Nat->Nat->Bool
 u:Nat->Nat->Nat
 iU:Nat->Nat->Bool
def luL (F:Nat->Nat->Option Nat) (l u:Nat->Nat->Nat) (i j k:Nat):Nat->List Int
 | 0=>[ofZ ((F j i).getD 0)]
 | m+1=>luL F l u i j k m ++ [-(q4J (l i m) (u m k))]
def luZ (F:Nat->Nat->Option Nat) (l u:Nat->Nat->Nat) (i j k m:Nat):Int:=q1l (luL F l u i j k m)
def q3D (g:Nat->Nat->Nat):Prop:=∀ r c,q0O (g r c)/\g r c < 18446744073709551616
def q6o {F:Nat->Nat->Option Nat} {l u:Nat->Nat->Nat} {i j k:Nat}:∀ m,(luL F l u i j k m).length=m+1
 | 0=>rfl
 | m+1=>by rw [luL,zP,q6o m]; rfl
def qjr {F:Nat->Nat->Option Nat} {l u:Nat->Nat->Nat} {i j k:Nat} (hl:q3D l) (hu:q3D u) (hF:q0O ((F j i).getD 0)):∀ m,∀ x ∈ luL F l u i j k m,bl x.natAbs<=67600
 | 0,x,hx=>by unfold luL at hx; simp at hx; subst hx; exact q46 hF
 | m+1,x,hx=>by
  unfold luL at hx
  rcases zN.1 hx with hx | hx
  .exact qjr hl hu hF m x hx
  .simp at hx; subst hx;rw [y9];exact (q4m (hl i m).1 (hu m k).1).2
def qjp {F:Nat->Nat->Option Nat} {l u:Nat->Nat->Nat} {i j k m:Nat} (hl:q3D l) (hu:q3D u) (hF:q0O ((F j i).getD 0)) (hm:m<=500):q0d (luZ F l u i j k m):=q9q (qjr hl hu hF m) (by rw [q6o]; omega)
abbrev pRw (l:List Nat):PV:=.sl none (l.map λz:Nat=>iv z)
abbrev rU (n:Nat) (g:Nat->Nat->Nat) (j:Nat):List PV:=(List.range n).map λc=>.vl (.int .u64 (g j c:Nat))
abbrev rB (n:Nat) (g:Nat->Nat->Bool) (j:Nat):List PV:=(List.range n).map λc=>.vl (.bool (g j c))
abbrev tU (n:Nat) (g:Nat->Nat->Nat):PV:=.sl none ((List.range n).map λj=>.sl none ((List.range n).map λc=>.vl (.int .u64 (g j c:Nat))))
abbrev tB (n:Nat) (g:Nat->Nat->Bool):PV:=.sl none ((List.range n).map λj=>.sl none ((List.range n).map λc=>.vl (.bool (g j c))))
abbrev pSt (n:Nat) (S:LuS):PV:=.ag [pRw S.rows,tU n S.l,tB n S.iL,tU n S.u,tB n S.iU]
section
variable {F:Nat->Nat->Option Nat} {S:LuS} {n:Nat}
def qg2 (h:TOk F n n) (hn:n<=100) (hl:q3D S.l) (hu:q3D S.u) {i j k m:Nat} (hi:i < n) (hj:j < n) (hk:k < n) (hm:m<=n):ACt 158 [pSt n S,pT n n F,iv i,iv j,iv k,iv m] (pV (luZ F S.l S.u i j k m)):=by
 have hF:=h.fin (j:=j) (i:=i) hj hi;have cA:=qce (i:=i) (j:=j) h hi hj;have cO:=q44 hF.2 (q1S hF.1);have hd:=qjp (F:=F) (i:=i) (j:=j) (k:=k) (m:=m) hl hu hF.1 Oq;have cS:=qed (l:=luL F S.l S.u i j k m) (by rw [q6o]; omega) hd;have cZ:=qmO (V:=q1l (luL F S.l S.u i j k m));have cN:=@qnV;unfold luZ;have hL0:luL F S.l S.u i j k 0=[ofZ ((F j i).getD 0)]:=rfl;have hLs:=λm=>show luL F S.l S.u i j k (m+1)=luL F S.l S.u i j k m ++ [-(q4J (S.l i m) (S.u m k))] from rfl;have hLl:=q6o (F:=F) (l:=S.l) (u:=S.u) (i:=i) (j:=j) (k:=k);have ri:(List.range n)[i]?=some i:=zC hi;have rk:(List.range n)[k]?=some k:=zC hk;have hpl:pT n n F=q3G n n (tM F n n).1 (tM F n n).2.1 (tM F n n).2.2:=rfl;rw [hpl] at cA ⊢;clear hpl;unfold q3G at cA ⊢;generalize (tM F n n).1=ms at *;generalize (tM F n n).2.1=mi at *;generalize (tM F n n).2.2=mv at *;generalize luL F S.l S.u i j k=L at *;generalize hfx:(F j i).getD 0=fx at *;refine ac0 Tryz.func158 Tryz.ntmps158 [.cell 12 46] ?_;refine wk ?_;refine q7Y [2,3,4,5,6,12,13,14] Lk ?_;refine q0B (λp=>p<=m) [2,3,4,5,6,12] [6,12] Lk Lk (λp:Nat=>[(14,iv p),(13,.ow 1001 (some 4) 0 (p+1))]) (λp=>[(1001,⟨46,some 4,(L p).map λV=>pV V,false⟩)]) (λp=>m-p) 0 (zJ _) ?_ ?_
 .refine LeM [(1001,some 20)] rfl rfl ?_;refine Zz ?_;rw [hL0];exact ⟨rfl,q0G rfl (clV (l:=[_]))⟩
 .intro p hp;have hl1:=hLl p
  by_cases hlt:p < m
  .have rp:(List.range n)[p]?=some p:=zC Oq;obtain ⟨u1,u2⟩:=hl i p;obtain ⟨v1,v2⟩:=hu p k;have cP:=q8d u2 v2 (q1S u1) (q1S v1) (q4m u1 v1).1;refine wk1 (x4 ri rk rp hl1) ?_;refine ⟨p+1,ω,ω,?_⟩;rw [hLs,yR];refine LeM [(1001,some 46)] rfl rfl ?_;refine Zz ?_;exact ⟨ω,qfP (q0G rfl clV) (q0G rfl (clV (l:=[_])))⟩
  .obtain rfl:p=m:=ω
   exact wk1 hl1 trivial
def q4O (hr:S.rows.length<=1000000) {i:Nat}:ACt 161 [pSt n S,iv i] (bv (decide (i ∈ S.rows))):=by
 obtain ⟨res,hres⟩:∃ res,res=decide (i ∈ S.rows):=⟨_,rfl⟩;rw [<- hres];refine ac0 Tryz.func161 Tryz.ntmps161 [.tmp 4] ?_;refine wk ?_;refine q0B (λp=>p<=S.rows.length/\i ∉ S.rows.take p) [1,2] [2] Lk Lk (λp:Nat=>[(5,iv p)]) (λ_=>[]) (λp=>S.rows.length-p) 0 ⟨zJ _,σ⟩ ?_ ?_
 .refine LeM [] rfl rfl ?_;refine Zz ?_
  rfl
 .rintro p ⟨hp,hm⟩
  by_cases hlt:p < S.rows.length
  .obtain ⟨x,hx⟩:∃ x,S.rows[p]?=some x:=⟨_,zA hlt⟩
   by_cases hxi:x=i
   .have q:((x:Int) == (i:Int))=true:=by simp [hxi]
    refine wk1 (x2 hx q) ?_;exact (hres.trans (decide_eq_true (hxi ▸ zG hx))).symm
   .have q:((x:Int) == (i:Int))=false:=by simp; omega
    refine wk1 (x2 hx q) ?_;refine ⟨p+1,⟨ω,?_⟩,ω,?_⟩
    .rw [q2f hx,zN];rintro (h | h)
     .exact hm h
     .simp at h; exact hxi h.symm
    .refine LeM [] rfl rfl ?_;refine Zz ?_
     rfl
  .obtain rfl:p=S.rows.length:=ω
   rw [uL] at hm;refine wk ?_;exact (hres.trans (decide_eq_false hm)).symm
def q15 (l:List Int) (i:Nat):Nat:=(l.filter λx:Int=>decide (x=(i:Int))).length
def qao {ms mi:List Int} {mv:List Nat} {n:Nat} (hi:mi.length<=1000000) {i:Nat}:ACt 163 [q3G n n ms mi mv,iv i] (iv (q15 mi i)):=by
 unfold q3G;refine ac0 Tryz.func163 Tryz.ntmps163 [.tmp 4] ?_;refine wk ?_;refine q0B (λp=>p<=mi.length) [1,2] [2] Lk Lk (λp:Nat=>[(6,iv p),(5,iv (q15 (mi.take p) i))]) (λ_=>[]) (λp=>mi.length-p) 0 (zJ _) ?_ ?_
 .refine LeM [] rfl rfl ?_;refine Zz ?_;exact ⟨rfl,rfl⟩
 .intro p hp
  by_cases hlt:p < mi.length
  .obtain ⟨x,hx⟩:∃ x,mi[p]?=some x:=⟨_,zA hlt⟩;have hc:q15 (mi.take p) i<=1000000:=zW (yV _ _) (by rw [yX]; omega)
   by_cases hxi:x=i
   .have q:(x == (i:Int))=true:=by simp [hxi]
    have es:q15 (mi.take (p+1)) i=q15 (mi.take p) i+1:=by unfold q15; rw [q2f hx,xD,zP]; simp [hxi]
    generalize q15 (mi.take p) i=c at *;refine wk1 (x2 hx q) ?_;refine ⟨p+1,ω,ω,?_⟩;rw [es];refine LeM [] rfl rfl ?_;refine Zz ?_;exact ⟨rfl,rfl⟩
   .have q:(x == (i:Int))=false:=by simpa using hxi
    have es:q15 (mi.take (p+1)) i=q15 (mi.take p) i:=by unfold q15; rw [q2f hx,xD,zP]; simp [hxi]
    generalize q15 (mi.take p) i=c at *;refine wk1 (x2 hx q) ?_;refine ⟨p+1,ω,ω,?_⟩;rw [es];refine LeM [] rfl rfl ?_;refine Zz ?_
    rfl
  .obtain rfl:p=mi.length:=ω
   rw [uL];exact wk trivial
end
end Go.Proofs.YtbjoghfmhgadkaaGreatDoor
namespace Go.Sp
open Go Go.E
def q97 {a:Nat} (ha:a < 18446744073709551616):q0q .andNot .u64 (a:Int) 9223372036854775808=((a % 9223372036854775808:Nat):Int):=by
 have h2:(BitVec.ofInt 64 (a:Int) &&& ~~~(BitVec.ofInt 64 9223372036854775808)).toNat=a % 9223372036854775808:=by
  rw [show ~~~(BitVec.ofInt 64 9223372036854775808)=BitVec.ofNat 64 9223372036854775807 from rfl,q3y,BitVec.toNat_and,BitVec.toNat_ofNat,BitVec.toNat_ofNat,xI ha];exact yW a 63
 show IntKind.u64.wrap ((BitVec.ofInt 64 (a:Int) &&& ~~~(BitVec.ofInt 64 9223372036854775808)).toNat:Int)=_
 rw [h2,q0v];omega
def q31 (f:Nat):Nat:=f % 9223372036854775808
def qf1 (a b:Int):Int:=if a < b then -1 else if b < a then 1 else 0
def qfK {f:Nat}:q31 f < 9223372036854775808:=yY _ Oq
def qi4 {f:Nat} (h:q0O f):q0O (q31 f):=by unfold q0O q31 at *; omega
def qgb {f:Nat} (h:q0O f):q5Q f≠3:=by unfold q0O at h; unfold q5Q; rw [if_neg λq=>h q.1,if_neg h]; split <;> omega
def q7u {f:Nat} (hf:f < 18446744073709551616):q5Q f=0 ↔ q31 f=0:=by
 unfold q5Q q31
 constructor
 .intro h
  split at h
  .cases h
  .split at h
   .cases h
   .split at h
    .omega
    .cases h
 .intro h;rw [if_neg ω,if_neg ω,if_pos ω]
end Go.Sp
namespace Go.Proofs.YtbjoghfmhgadkaaGreatDoor
open Go Go.E Go.Sp
section
variable {f g:Nat}
def qai (hf:f < 18446744073709551616):ACt 104 [uv f] (iv (q5Q f:Nat)):=by
 have C1:=@q5X f hf;unfold q5Q;generalize f / 4503599627370496 % 2048=x at *;generalize f % 4503599627370496=m at *;refine ac0 Tryz.func104 Tryz.ntmps104 [.tmp 2] ?_
 by_cases hx2:x=2047
 .by_cases hm0:m=0
  .rw [if_neg (by simp [hm0]),if_pos hx2];exact wk1 (show ((2:Nat):Int)=2 from rfl) trivial
  .rw [if_pos ⟨hx2,hm0⟩];exact wk1 (show ((3:Nat):Int)=3 from rfl) trivial
 .rw [if_neg λh=>hx2 h.1,if_neg hx2]
  by_cases hx0:x=0
  .by_cases hm0:m=0
   .rw [if_pos ⟨hx0,hm0⟩];exact wk1 (show ((0:Nat):Int)=0 from rfl) trivial
   .rw [if_neg λh=>hm0 h.2];exact wk1 (show ((1:Nat):Int)=1 from rfl) trivial
  .rw [if_neg λh=>hx0 h.1];exact wk1 (show ((1:Nat):Int)=1 from rfl) trivial
def qnO {l:List Nat} (hl:fins l) (hn:l.length<=1000):ACt 172 [pF l] (bv false):=by
 refine ac0 Tryz.func172 Tryz.ntmps172 [.tmp 2] ?_;refine wk ?_;refine q0B (λi=>i<=l.length) [5,6] [] Lk Lk (λi:Nat=>[(7,iv i)]) (λ_=>[]) (λi=>l.length-i) 0 (zJ _) ?_ ?_
 .refine LeM [] rfl rfl ?_;refine Zz ?_
  rfl
 .intro i hi
  by_cases hlt:i < l.length
  .obtain ⟨x,hx⟩:∃ x,l[i]?=some x:=⟨_,zA hlt⟩;obtain ⟨h1,h2⟩:=hl x (zG hx);have C1:=qai h1;have q:(((q5Q x:Nat):Int) == 3)=false:=by
    have:=qgb h2;simp; omega
   refine wk1 (x2 hx q) ?_;refine ⟨i+1,ω,ω,?_⟩;refine LeM [] rfl rfl ?_;refine Zz ?_;omega
  .exact wk trivial
def qe4 (hf:f < 18446744073709551616) (h:q0O f):ACt 133 [uv f] (uv (q31 f:Nat)):=by
 have C1:ACt 172 [.sl none [uv f]] (bv false):=qnO (l:=[f]) (λx hx=>by simp at hx; subst hx; exact ⟨hf,h⟩) σ;have N1:Nz (bv false):=qpH;have h1:=q97 hf;rw [show f % 9223372036854775808=q31 f from rfl] at h1;refine ac0 Tryz.func133 Tryz.ntmps133 [.tmp 2] ?_;exact wk1 h1 trivial
end
section
variable {A B:Int}
def q8f (hA:q0d A) (hB:q0d B):∃ x y e,ACt 196 [dT A,dT B] (.tu [bT x,bT y,iv e])/\Aln A B x y e:=by
 obtain ⟨a1,a2,a3⟩:=q0z hA;obtain ⟨b1,b2,b3⟩:=q0z hB;have C1:=@q34;have key:∀ e:Int,e<=dyE A->e<=dyE B -> -65536<=e->e<=65536->Aln A B (shI (od A) (dyE A-e)) (shI (od B) (dyE B-e)) e:=λe h1 h2 h3 h4 =>
  ⟨h3,h4,by unfold shI; rw [if_pos ω]; exact q20 h3 h1,by unfold shI; rw [if_pos ω]; exact q20 h3 h2⟩
 obtain ⟨e,he⟩:∃ e,min (dyE A) (dyE B)=e:=⟨_,rfl⟩;refine ⟨_,_,e,?_,key e Oq Oq Oq Oq⟩;refine ac0 Tryz.func196 Tryz.ntmps196 [.cell 4 42,.cell 5 42,.tmp 6] ?_;exact wk1 he trivial
def qpf (hA:q0d A):ACt 259 [dT A] (reT (decide (od A < 0)) (od A).natAbs (dyE A) false):=by
 have C1:=@q9S;have:=(q0z hA).2.2;refine ac0 Tryz.func259 Tryz.ntmps259 [.cell 2 240] ?_;exact wk trivial
def q8G (hA:q0d A):ACt 225 [dT A,iv 0] (uv (fR 0 A:Nat)):=by
 obtain ⟨hd1,hd2,hd3⟩:=q0z hA;have C1:=q6W hA;have C2:=q33 hA;have C3:=qpf hA;refine ac0 Tryz.func225 Tryz.ntmps225 [.tmp 4] ?_
 by_cases hz:A=0
 .have q1:(A.sign == 0)=true:=by rw [hz]; rfl
  rw [show ((fR 0 A:Nat):Int)=0 by rw [show fR 0 A=0 from if_pos hz]; rfl];exact wk1 q1 trivial
 .have q1:(A.sign == 0)=false:=by
   rw [beq_eq_false_iff_ne]; intro h; exact hz (zK.1 h)
  have hod:=q3S hz;have C4:=q5W (N:=(od A).natAbs) (M:=1) (neg:=decide (od A < 0)) (e:=dyE A) Nat.one_pos ω (by rw [x8]; intro h; exact absurd rfl h) (by rw [xT]; omega) ω ω;rw [xT,x8,show decide ((0:Nat)≠0)=false from rfl,rE_V hz,q1w,show rF 0 (decide (A < 0)) A.natAbs (2 ^ 65536)=fR 0 A from (if_neg hz).symm] at C4;rw [<- q1w] at C4;exact wk1 q1 trivial
def qdH:ACt 159 [pV A] (uv (fR 0 A:Nat)):=by
 have C1:=q5I (V:=A) (mode:=0);refine ac0 Tryz.func159 Tryz.ntmps159 [.tmp 2] ?_;exact wk trivial
end
section
variable {l:List Nat}
end



def clU {l:List Nat}:ClL (l.map λz:Nat=>uv z):=λx hx=>by
 obtain ⟨q,_,rfl⟩:=zR.1 hx
 trivial
def qrU {n c v:Nat} {f:Nat->Nat}:(((List.range n).map f).set c v)=(List.range n).map λy=>if y=c then v else f y:=by
 apply z9
 intro i;rw [yA];simp only [uN,z7,zH]
 by_cases hi:i < n
 .rw [zC hi]
  by_cases hc:c=i
  .subst hc; simp [hi]
  .simp [hc,Ne.symm hc]
 .rw [zY (by simpa using hi)]
  by_cases hc:c=i <;> simp [hc]
  omega
def rwG (n:Nat) (g:Nat->Nat) (m:Nat):List Nat:=(List.range n).map λj=>if j < m then g j else 0
def qli {n m:Nat} {g:Nat->Nat}:(rwG n g m).length=n:=by simp [rwG]
def rwG_s {n m:Nat} {g:Nat->Nat}:(rwG n g m).set m (g m)=rwG n g (m+1):=by
 unfold rwG;rw [qrU];refine zQ λy _=>?_
 by_cases h:y=m
 .subst h; rw [if_pos rfl,if_pos ω]
 .rw [if_neg h]
  by_cases h2:y < m
  .rw [if_pos h2,if_pos ω]
  .rw [if_neg h2,if_neg ω]
def rwG_0 {n:Nat} {g:Nat->Nat}:List.replicate n 0=rwG n g 0:=by
 unfold rwG;simp [yZ]
end Go.Proofs.YtbjoghfmhgadkaaGreatDoor
namespace Go.E
open Go Go.RowKit
section
variable {J:Nat->Prop} {h hin hw:Hp} {T1 T2:TypeId} {K:Kd} {N R n:Nat} {row row':Nat->List PV} {B B':Hp}
def q7Z (h:Hp):Hp:=λi=>(h i).map λb=>⟨b.T,b.k,b.xs.map λ_=>.un,false⟩
def q70 (h:Hp) (a:Nat):Hp:=λi=>if i=a then none else h i
def SSh (h h':Hp):Prop:=∀ i b,h i=some b->∃ b',h' i=some b'/\b'.T=b.T/\b'.k=b.k/\b'.st=false/\b'.xs.length=b.xs.length
def q4q (hB:SSh B B') (hl:∀ j,(row' j).length=(row j).length):SSh (q2B T1 T2 K N R n row B) (q2B T1 T2 K N R n row' B'):=λi b hb=>by
 unfold q2B at hb ⊢
 split
 .rename_i hi; rw [if_pos hi] at hb; cases hb; exact ⟨_,rfl,rfl,rfl,rfl,σ⟩
 .rename_i hi;rw [if_neg hi] at hb
  split
  .rename_i hj; rw [if_pos hj] at hb; cases hb; exact ⟨_,rfl,rfl,rfl,rfl,hl _⟩
  .rename_i hj; rw [if_neg hj] at hb; exact hB i b hb
def qvs {i:Nat} {b b':Bk} (hB:SSh B B') (h1:b'.T=b.T) (h2:b'.k=b.k) (h3:b'.st=false) (h4:b'.xs.length=b.xs.length):SSh (q0S B i b) (q0S B' i b'):=λj c hc=>by
 unfold q0S at hc ⊢
 split
 .rename_i hj; rw [if_pos hj] at hc; cases hc; exact ⟨_,rfl,h1,h2,h3,h4⟩
 .rename_i hj; rw [if_neg hj] at hc; exact hB j c hc
def SSh_0:SSh h0 B:=λ_ _ h=>by cases h
def LeUnk {l:List PV} {v:Value} (hq:Wn h hw) (hin':∀ i b,hin i=some b->win i) (hs:SSh hin hw) (hx:mkR l=.vl v):Le J (λ_=>mkR l) h (λ_=>.vl v) (q7Z hin):=by
 refine q7R some (λi b hb=>?_) (λi j k b c _ _ ti tj=>by cases ti; cases tj; rfl) (λ_=>by rw [hx]; exact .cl trivial) λ_ _ _ _=>rfl;unfold q7Z at hb;obtain ⟨c,hc,rfl⟩:=uZ.1 hb;obtain ⟨b',h1,h2,h3,h4,h5⟩:=hs i c hc;unfold LeB;exact ⟨b',(hq i (hin' i c hc)).trans h1,h2.symm,h3.symm,⟨rfl,h4⟩,by simp [h5],λj x y _ hy=>by
  rw [zH] at hy;cases hcj:c.xs[j]? with
  | none=>rw [hcj] at hy; cases hy
  | some z=>rw [hcj] at hy; cases hy; exact .un⟩
def rwP (n:Nat) (g:Nat->PV) (m:Nat):List PV:=(List.range n).map λc=>if c < m then g c else .un
def qdA {g:Nat->PV} {m:Nat}:(rwP n g m).length=n:=by simp [rwP]
def qlh {g:Nat->PV} {m i:Nat} (hi:i < m) (hm:m<=n):(rwP n g m)[i]?=some (g i):=by
 unfold rwP;rw [zH,zC ω,zO,if_pos hi]
def rwP_s {g:Nat->PV} {m:Nat}:(rwP n g m).set m (g m)=rwP n g (m+1):=by
 unfold rwP
 apply z9
 intro i;rw [yA];simp only [uN,z7,zH]
 by_cases hi:i < n
 .rw [zC hi]
  by_cases hc:m=i
  .subst hc; simp [hi]
  .rw [if_neg hc,zO,zO]
   by_cases h2:i < m
   .rw [if_pos h2,if_pos ω]
   .rw [if_neg h2,if_neg ω]
 .rw [zY (by simpa using hi)]
  by_cases hc:m=i <;> simp [hc]
  omega
def rwP_u {g:Nat->PV} {m:Nat} (h:g m=.un):rwP n g m=rwP n g (m+1):=by
 unfold rwP;refine zQ λy _=>?_
 by_cases h2:y < m
 .rw [if_pos h2,if_pos ω]
 .rw [if_neg h2]
  by_cases h3:y=m
  .subst h3; rw [if_pos ω,h]
  .rw [if_neg ω]
def q1n {g:Nat->PV} {m:Nat} (h:∀ c,Cld (g c)):ClL (rwP n g m):=λx hx=>by
 obtain ⟨c,_,rfl⟩:=zR.1 hx
 split
 .exact h c
 .trivial
def qmk {i j R':Nat} {b:Bk} (hne:j+R'≠i+R):q0S h (i+R) b (j+R')=h (j+R'):=q0A hne
attribute [go_sem ↓ 2000] qmk
end
end Go.E
namespace Go.Proofs.YtbjoghfmhgadkaaGreatDoor
open Go Go.E Go.Sp
def inZ (z:Int):Int:=(mkV z 0).getD 0
def inZK {z:Int} {K:Nat} (hK:K=65536) (hz:z.natAbs < 9007199254740992):mkV z 0=some (z*(2:Int) ^ K):=by
 have h1:bl z.natAbs<=53:=q0N Oq;have h:=q5L (m:=z) (E:=0) Oq Oq;rw [h,show ((0:Int)+65536).toNat=K by omega]
def q7x {z:Int} (hz:z.natAbs < 9007199254740992):mkV z 0=some (inZ z):=by
 unfold inZ;rw [inZK rfl hz]; rfl
def mulI {z W:Int} (hz:z.natAbs < 9007199254740992) (hW:bl W.natAbs<=67600):mkV (inZ z*W) (-131072)=some (z*W):=by
 obtain ⟨K,hK⟩:∃ K,K=65536:=⟨_,rfl⟩;unfold inZ;rw [inZK hK hz,yN,show z*(2:Int) ^ K*W=z*W*(2:Int) ^ K by simp only [xH,Int.mul_comm,Int.mul_left_comm],q2O,show (-131072:Int)+K = -65536 by omega];refine q3e ?_;unfold q0d;have h1:bl z.natAbs<=53:=q0N Oq;have:=q2P z.natAbs W.natAbs;rw [y6];omega
def q9j {A B:Int}:ACt 138 [pV A,pV B] (bv (decide (A < B))):=by
 have cC:=qnW (A:=A) (B:=B);have es:decide ((A-B).sign < 0)=decide (A < B):=by
  congr 1
  rw [Int.sign_neg_iff];exact propext ⟨λh=>by omega,λh=>by omega⟩
 refine ac0 Tryz.func138 Tryz.ntmps138 [.tmp 4] ?_;exact wk1 es trivial
def q4W (g:Nat->Nat->Bool) (r c:Nat) (v:Bool):Nat->Nat->Bool:=λx y=>if x=r/\y=c then v else g x y
section
open Classical
variable (F:Nat->Nat->Option Nat) (mi:List Int) (n:Nat) (S:LuS) (j k num den:Nat)
noncomputable def upS:Nat->Option LuS
 | 0=>some S
 | m+1=>(upS m).bind λq=>if q0O (fR 0 (luZ F q.l q.u (S.rows.getD m 0) j k m)) then some { q with u:=q28 q.u m k (fR 0 (luZ F q.l q.u (S.rows.getD m 0) j k m)),iU:=q4W q.iU m k (decide (luZ F q.l q.u (S.rows.getD m 0) j k m≠0)) } else none
noncomputable def rsZ (i:Nat):Int:=luZ F S.l S.u i j k k
noncomputable def rsV (i:Nat):Nat:=if i ∈ S.rows then 0 else fR 0 (rsZ F S j k i)
end
section
variable (v:Nat->Nat) (S:LuS) (mi:List Int) (num den:Nat) (w:Int)
def abZ (x:Nat):Int:=((ofZ x).natAbs:Int)
def mxZ:Nat->Int
 | 0=>0
 | i+1=>if mxZ i < abZ (v i) then abZ (v i) else mxZ i
def bsP:Nat->Int
 | 0 => -1
 | i+1=>if i ∈ S.rows\/(v i=0\/v i=9223372036854775808)\/(den:Int)*abZ (v i) < num*w then bsP i else if bsP i < 0\/q15 mi i < q15 mi (bsP i).toNat then (i:Int) else bsP i
end
section
open Classical
variable (F:Nat->Nat->Option Nat) (mi:List Int) (n:Nat) (S:LuS) (j k num den:Nat)
noncomputable def loS (z:Nat->Int) (d:Int):Nat->Option LuS
 | 0=>some S
 | i+1=>(loS z d i).bind λq=>if i ∈ S.rows then some q else if q0O (q4H 0 (z i) d) then some { q with l:=q28 q.l i k (q4H 0 (z i) d),iL:=q4W q.iL i k (decide (z i≠0)) } else none
noncomputable def pvS (v:Nat->Nat) (p:Nat):LuS:={ S with rows:=S.rows ++ [p],u:=q28 S.u k k (v p),iU:=q4W S.iU k k true }
noncomputable def qf0 (q:LuS):Int × LuS :=
 if ∀ i,i < n->q0O (rsV F q j k i) then
  (if bsP (rsV F q j k) q mi num den (mxZ (rsV F q j k) n) n < 0 then (9,S) else
   match loS (pvS q k (rsV F q j k) (bsP (rsV F q j k) q mi num den (mxZ (rsV F q j k) n) n).toNat) k (rsZ F q j k) (ofZ (rsV F q j k (bsP (rsV F q j k) q mi num den (mxZ (rsV F q j k) n) n).toNat)) n with
   | none=>(233,S)
   | some r=>(0,r))
 else (233,S)
noncomputable def q14:Int × LuS:=match upS F S j k k with
 | none=>(233,S)
 | some q=>qf0 F mi n S j k num den q
end
structure LUt where
 rows:List Int
 cols:List Int
 ls:List Int
 li:List Int
 lv:List Nat
 us:List Int
 ui:List Int
 uv:List Nat
def pLU (f:LUt):PV:=.ag [pI f.rows,pI f.cols,pI f.ls,pI f.li,pF f.lv,pI f.us,pI f.ui,pF f.uv]
open Classical in
def qga {l:List Int} {n:Nat} (hl:n<=1000000):ACt 97 [pI l,iv n] (bv (decide (q4E l n))):=by
 by_cases hln:l.length=n
 case neg =>
  have q:((l.length:Int) != (n:Int))=true:=by simp; omega
  rw [decide_eq_false λh=>hln (by have:=h.1; omega)];refine ac0 Tryz.func97 Tryz.ntmps97 [.tmp 4] ?_;exact wk1 q trivial
 subst hln;have q:((l.length:Int) != (l.length:Int))=false:=σ
 refine ac0 Tryz.func97 Tryz.ntmps97 [.tmp 4] ?_;refine wk1 q ?_;refine q0B (λi=>i<=l.length/\(∀ x ∈ l.take i,0<=x/\x < l.length)/\(l.take i).Nodup) [0,1,14,15] [] Lk Lk (λi:Nat=>[(16,iv i),(5,.ow 1001 none 0 l.length)]) (λi=>[(1001,⟨4,none,(q5D l i).map λz=>bv z,false⟩)]) (λi=>l.length-i) 0 ⟨zJ _,σ,σ⟩ ?_ ?_
 .refine LeM [(1001,some 13)] rfl rfl ?_;refine Zz ?_;exact ⟨rfl,qjV⟩
 .rintro i ⟨hi,hr,hd⟩
  by_cases hlt:i < l.length
  .have hlt':(i:Int) < l.length:=ω
   obtain ⟨x,hx⟩:∃ x,l[i]?=some x:=⟨_,zA hlt⟩;have hmem:=zG hx;have ht:=q2f hx;refine wk1 (x2 hlt' hx) ?_
   by_cases hx0:x < 0
   .refine wk1 hx0 ?_;exact (decide_eq_false λh=>by have:=(h.2.1 x hmem).1; omega).symm
   .obtain ⟨k,rfl⟩:∃ k:Nat,x=k:=⟨x.toNat,ω⟩
    by_cases hxn:(l.length:Int)<=k
    .refine wk1 (x2 hx0 hxn) ?_;exact (decide_eq_false λh=>by have:=(h.2.1 _ hmem).2; omega).symm
    .have hk:k < l.length:=ω
     have hs:=qaC (i:=i) hk
     by_cases hm:(k:Int) ∈ l.take i
     .refine wk1 (x4 hx0 hxn hs hm) ?_;refine (decide_eq_false λh=>?_).symm;have:=(h.2.2.sublist (List.take_sublist (i+1) l));rw [ht,yJ] at this;exact this.2.2 _ hm _ σ rfl
     .refine wk1 (x6 hx0 hxn hs hm hx @qaB) ?_;refine ⟨i+1,⟨ω,?_,?_⟩,ω,?_⟩
      .rw [ht];intro y hy
       rcases zN.1 hy with hy | hy
       .exact hr y hy
       .simp at hy; subst hy; omega
      .rw [ht,yJ];exact ⟨hd,σ,λa ha b hb=>by simp at hb; subst hb; exact λe=>hm (e ▸ ha)⟩
      .refine LeM [] rfl rfl ?_;refine Zz ?_;exact ⟨ω,qaA hx⟩
  .have hlt':¬ (i:Int) < l.length:=ω
   refine wk1 hlt' ?_;have hil:i=l.length:=ω
   rw [hil,uL] at hr hd;exact (decide_eq_true ⟨rfl,hr,hd⟩).symm

end Go.Proofs.YtbjoghfmhgadkaaGreatDoor
namespace Go.Sp
open Go.E Go.Proofs.YtbjoghfmhgadkaaGreatDoor
def qrF {s:Bool} {m K:Nat}:sgn s m*(2:Int) ^ K=0 ↔ m=0:=by
 constructor
 .intro h
  rcases xO.1 h with h | h
  .have:=q13 s m; rw [h] at this; exact this.symm
  .exact absurd h (xY (q0R _))
 .rintro rfl;have:sgn s 0=0:=by unfold sgn; split <;> rfl
  rw [this,yL]
def q9D {f:Nat} (h:q0O f):ofZ f=0 ↔ q31 f=0:=by
 unfold ofZ ofF q31;rw [if_neg h];unfold q0O at h
 split
 .rw [yN,qrF]; omega
 .rw [yN,qrF]; omega
def q6r {f:Nat} (h:f < 18446744073709551616):(f=0\/f=9223372036854775808) ↔ q31 f=0:=by
 unfold q31; omega
end Go.Sp
namespace Go.Proofs.YtbjoghfmhgadkaaGreatDoor
open Go Go.E Go.Sp
def q2h (n r len:Nat):Bk:=⟨133,some 5,[.ag [.ow r none 0 len,.ow 6000 none 0 n,.ow 6001 none 0 n,.ow 6002 none 0 n,.ow 6003 none 0 n]],false⟩
def qcq {n r len:Nat}:q2h n r len=⟨133,some 5,[.ag [.ow r none 0 len,.ow 6000 none 0 n,.ow 6001 none 0 n,.ow 6002 none 0 n,.ow 6003 none 0 n]],false⟩:=rfl
attribute [go_sem ↓] qcq
abbrev rwB (rows:List Nat):Bk:=⟨3,none,rows.map λz:Nat=>iv z,false⟩
def stT (n:Nat) (S:LuS):Hp:=q2B 24 32 none 6000 10000 n (rU n S.l) (q2B 134 4 none 6001 20000 n (rB n S.iL) (q2B 24 32 none 6002 30000 n (rU n S.u) (q2B 134 4 none 6003 40000 n (rB n S.iU) h0)))
abbrev q0n (n:Nat) (S:LuS) (r:Nat):Hp:=q0S (q0S (stT n S) 5000 (q2h n r S.rows.length)) r (rwB S.rows)
section
variable {n:Nat} {S S':LuS} {rows0:List Nat}
def qjY {g:Nat->Nat->Nat} {r c v:Nat}:qlj (rU n g) r ((rU n g r).set c (.vl (.int .u64 (v:Nat))))=rU n (q28 g r c v):=by
 funext j
 unfold qlj
 split
 .rename_i h; subst h;unfold rU;rw [qgE];refine zQ λy _=>?_;unfold q28;simp
 .rename_i h;refine zQ λy _=>?_;unfold q28;rw [if_neg λq=>h q.1]
def qjZ {g:Nat->Nat->Bool} {r c:Nat} {v:Bool}:qlj (rB n g) r ((rB n g r).set c (.vl (.bool v)))=rB n (q4W g r c v):=by
 funext j
 unfold qlj
 split
 .rename_i h; subst h
  apply z9
  intro i;unfold rB q4W;rw [yA];simp only [uN,z7,zH]
  by_cases hi:i < n
  .rw [zC hi]
   by_cases hc:c=i
   .subst hc; simp [hi]
   .simp [hc,Ne.symm hc]
  .rw [zY (by simpa using hi)]
   by_cases hc:c=i <;> simp [hc]
   omega
 .rename_i h;refine zQ λy _=>?_;unfold q4W;rw [if_neg λq=>h q.1]
variable {r c:Nat}
def stT_l {v:Nat} (hn:n<=100) (hr:r < n):q0S (stT n S) (r+10000) ⟨32,none,(rU n S.l r).set c (.vl (.int .u64 (v:Nat))),false⟩=stT n { S with l:=q28 S.l r c v }:=by
 unfold stT;rw [q4j ω hr σ,qjY]
def qqb {v:Bool} (hn:n<=100) (hr:r < n):q0S (stT n S) (r+20000) ⟨4,none,(rB n S.iL r).set c (.vl (.bool v)),false⟩=stT n { S with iL:=q4W S.iL r c v }:=by
 unfold stT;rw [q2q ω ω,q4j ω hr σ,qjZ]
def qq9 {v:Nat} (hn:n<=100) (hr:r < n):q0S (stT n S) (r+30000) ⟨32,none,(rU n S.u r).set c (.vl (.int .u64 (v:Nat))),false⟩=stT n { S with u:=q28 S.u r c v }:=by
 unfold stT;rw [q2q ω ω,q2q ω ω,q4j ω hr σ,qjY]
def qjO {v:Bool} (hn:n<=100) (hr:r < n):q0S (stT n S) (r+40000) ⟨4,none,(rB n S.iU r).set c (.vl (.bool v)),false⟩=stT n { S with iU:=q4W S.iU r c v }:=by
 unfold stT;rw [q2q ω ω,q2q ω ω,q2q ω ω,q4j ω hr σ,qjZ]
def q3V {h:Hp} {i j:Nat} {b c:Bk} (hne:i≠j):q0S (q0S h i b) j c=q0S (q0S h j c) i b:=(q5U hne).symm
def q9w {i r:Nat} {b:Bk} (hi:6000 < i) (hr:r < 6000):q0S (q0n n S r) i b=q0S (q0S (q0S (stT n S) i b) 5000 (q2h n r S.rows.length)) r (rwB S.rows):=by
 unfold q0n;rw [q3V (i:=r) ω,q3V (i:=5000) ω]
def qcL {g:Nat->Nat->Nat} {j:Nat}:ClL (rU n g j):=λx hx=>by
 obtain ⟨_,_,rfl⟩:=zR.1 hx; trivial
def qcM {g:Nat->Nat->Bool} {j:Nat}:ClL (rB n g j):=λx hx=>by
 obtain ⟨_,_,rfl⟩:=zR.1 hx; trivial
def q7b (hn:n<=100):BOk (stT n S) win:=by
 unfold stT;have w:∀ R j:Nat,5000<=R->R<=40000->j < n->win (j+R):=λR j h1 h2 h3=>⟨ω,ω⟩;exact q2g (q2g (q2g (q2g BOk.h0 (λ_ _=>qcM) Oq ⟨⟨ω,ω⟩,λj hj=>w _ j Oq Oq hj⟩) (λ_ _=>qcL) Oq ⟨⟨ω,ω⟩,λj hj=>w _ j Oq Oq hj⟩) (λ_ _=>qcM) Oq ⟨⟨ω,ω⟩,λj hj=>w _ j Oq Oq hj⟩) (λ_ _=>qcL) Oq ⟨⟨ω,ω⟩,λj hj=>w _ j Oq Oq hj⟩
def ql2 (hn:n<=100):stT n S 6000≠none/\stT n S 6001≠none/\stT n S 6002≠none/\stT n S 6003≠none:=by
 unfold stT;refine ⟨?_,?_,?_,?_⟩
 .rw [q1k]; simp
 .rw [q0L ω ω,q1k]; simp
 .rw [q0L ω ω,q0L ω ω,q1k]; simp
 .rw [q0L ω ω,q0L ω ω,q0L ω ω,q1k]; simp
def clRw {l:List Nat}:ClL (l.map λz:Nat=>iv z):=λx hx=>by
 obtain ⟨_,_,rfl⟩:=zR.1 hx; trivial
def clIds {l:List PV} {p:Nat->Prop} (h:ClL l):IdL p l:=IdL.of λx hx=>q09 (h x hx)
def ql5 {H:Hp} {r len:Nat} (h:H 6000≠none/\H 6001≠none/\H 6002≠none/\H 6003≠none) (hr:H r≠none):IdL (λj=>H j≠none) (q2h n r len).xs:=by
 unfold q2h;unfold IdL IdL IdP;unfold IdL IdL IdL IdL IdL IdL;unfold IdP;exact ⟨⟨hr,h.1,h.2.1,h.2.2.1,h.2.2.2,trivial⟩,trivial⟩
def q04 {H:Hp} (h:BOk H win):WfH H:=⟨λi b hb=>⟨(h.b i b hb).2.1,IdL_mono (λj hj=>by
 obtain ⟨c,hc⟩:=zE.1 hj;exact ⟨(h.b j c hc).1,hj⟩) _ (h.b i b hb).2.2⟩⟩
def q1x {h:Hp} {i j:Nat} {b:Bk} (hj:h j≠none):q0S h i b j≠none:=by
 unfold q0S
 split
 .exact zI _
 .exact hj
def qkn {H:Hp} {p:Nat->Prop} {i:Nat} {b:Bk} (hB:BOk H p) (hp:p i) (hs:b.st=false) (hx:IdL (λj=>q0S H i b j≠none) b.xs):BOk (q0S H i b) p:=⟨λj c hc=>by
 unfold q0S at hc
 split at hc
 .rename_i hj; subst hj; cases hc; exact ⟨hp,hs,hx⟩
 .obtain ⟨h1,h2,h3⟩:=hB.b j c hc;exact ⟨h1,h2,IdL_mono (λk hk=>q1x hk) _ h3⟩⟩
def q05 {r:Nat} (hn:n<=100) (h1:5000 < r) (h2:r < 6000):BOk (q0n n S r) win:=by
 have h:=ql2 (S:=S) hn;unfold q0n;rw [q3V ω];refine qkn (qkn (q7b hn) ⟨ω,ω⟩ rfl (clIds clRw)) ⟨ω,ω⟩ rfl (ql5 ?_ ?_)
 .exact ⟨q1x (q1x h.1),q1x (q1x h.2.1),q1x (q1x h.2.2.1),q1x (q1x h.2.2.2)⟩
 .refine q1x ?_; rw [q0K]; exact zI _
def qjF:SSh (stT n S) (stT n S'):=by
 unfold stT;exact q4q (q4q (q4q (q4q SSh_0 λj=>by simp) λj=>by simp) λj=>by simp) λj=>by simp
def q5l {i:Nat} (hi:i < 6000):stT n S i=none:=by
 unfold stT;rw [q0L ω ω,q0L ω ω,q0L ω ω,q0L ω ω]
 rfl
def ql3 {r i:Nat} (h:q0n n S r i=none):i≠r/\i≠5000/\stT n S i=none:=by
 unfold q0n q0S at h
 split at h
 .cases h
 .split at h
  .cases h
  .exact ⟨by assumption,by assumption,h⟩
def qqa {i:Nat} (h:stT n S i=none):stT n S' i=none:=by
 cases h2:stT n S' i with
 | none=>rfl
 | some b =>
  obtain ⟨b',h3,_⟩:=qjF (S:=S') (S':=S) i b h2;rw [h] at h3; cases h3
def q5B {r r':Nat} (h1:5000 < r) (h2:5000 < r') (h3:r < 6000) (h4:r' < 6000):SSh (q70 (q0n n S r) r) (q0n n S' r'):=λi b hb=>by
 unfold q70 at hb
 split at hb
 .cases hb
 .rename_i hi;unfold q0n at hb ⊢;rw [q0A hi] at hb
  by_cases h5:i=r'
  .subst h5;rw [q0A ω,q5l h4] at hb;cases hb
  .rw [q0A h5];exact (qvs (b:=q2h n r S.rows.length) (b':=q2h n r' S'.rows.length) qjF rfl rfl rfl rfl) i b hb
def qjN (hn:n<=100):stT n S 6000=some ⟨24,none,(List.range n).map λj=>.ow (j+10000) none 0 n,false⟩:=by
 unfold stT;rw [q1k];simp
def qjJ {j:Nat} (hn:n<=100) (hj:j < n):stT n S (j+10000)=some ⟨32,none,rU n S.l j,false⟩:=by
 unfold stT;rw [q1a ω hj]
def qqf {f:Nat->Nat} (hn:n<=100) (hf:∀ j,f j=n):q7H (stT n S) n 10000 none f=some ((List.range n).map λj=>.sl none (rU n S.l j),(List.range n).map (·+10000)):=by
 unfold stT;rw [q8Q ω,cO,if_pos λj _=>qcL]
 congr 2
 refine zQ λj _=>?_;rw [hf j]
 congr 1
 exact qc4
def qjM (hn:n<=100):stT n S 6001=some ⟨134,none,(List.range n).map λj=>.ow (j+20000) none 0 n,false⟩:=by
 unfold stT;rw [q0L ω ω,q1k];simp
def qjI {j:Nat} (hn:n<=100) (hj:j < n):stT n S (j+20000)=some ⟨4,none,rB n S.iL j,false⟩:=by
 unfold stT;rw [q0L ω ω,q1a ω hj]
def qqe {f:Nat->Nat} (hn:n<=100) (hf:∀ j,f j=n):q7H (stT n S) n 20000 none f=some ((List.range n).map λj=>.sl none (rB n S.iL j),(List.range n).map (·+20000)):=by
 unfold stT;rw [q50 ω ω,q8Q ω,cO,if_pos λj _=>qcM]
 congr 2
 refine zQ λj _=>?_;rw [hf j]
 congr 1
 exact qc4
def qjL (hn:n<=100):stT n S 6002=some ⟨24,none,(List.range n).map λj=>.ow (j+30000) none 0 n,false⟩:=by
 unfold stT;rw [q0L ω ω,q0L ω ω,q1k];simp
def qjH {j:Nat} (hn:n<=100) (hj:j < n):stT n S (j+30000)=some ⟨32,none,rU n S.u j,false⟩:=by
 unfold stT;rw [q0L ω ω,q0L ω ω,q1a ω hj]
def qqd {f:Nat->Nat} (hn:n<=100) (hf:∀ j,f j=n):q7H (stT n S) n 30000 none f=some ((List.range n).map λj=>.sl none (rU n S.u j),(List.range n).map (·+30000)):=by
 unfold stT;rw [q50 ω ω,q50 ω ω,q8Q ω,cO,if_pos λj _=>qcL]
 congr 2
 refine zQ λj _=>?_;rw [hf j]
 congr 1
 exact qc4
def qjK (hn:n<=100):stT n S 6003=some ⟨134,none,(List.range n).map λj=>.ow (j+40000) none 0 n,false⟩:=by
 unfold stT;rw [q0L ω ω,q0L ω ω,q0L ω ω,q1k];simp
def qjG {j:Nat} (hn:n<=100) (hj:j < n):stT n S (j+40000)=some ⟨4,none,rB n S.iU j,false⟩:=by
 unfold stT;rw [q0L ω ω,q0L ω ω,q0L ω ω,q1a ω hj]
def qqc {f:Nat->Nat} (hn:n<=100) (hf:∀ j,f j=n):q7H (stT n S) n 40000 none f=some ((List.range n).map λj=>.sl none (rB n S.iU j),(List.range n).map (·+40000)):=by
 unfold stT;rw [q50 ω ω,q50 ω ω,q50 ω ω,q8Q ω,cO,if_pos λj _=>qcM]
 congr 2
 refine zQ λj _=>?_;rw [hf j]
 congr 1
 exact qc4
def ql1 (hn:n<=100):q7H (stT n S) n 10000 none (λ_=>n)=some ((List.range n).map λj=>.sl none (rU n S.l j),(List.range n).map (·+10000)):=qqf hn λ_=>rfl
def ql0 (hn:n<=100):q7H (stT n S) n 20000 none (λ_=>n)=some ((List.range n).map λj=>.sl none (rB n S.iL j),(List.range n).map (·+20000)):=qqe hn λ_=>rfl
def qlZ (hn:n<=100):q7H (stT n S) n 30000 none (λ_=>n)=some ((List.range n).map λj=>.sl none (rU n S.u j),(List.range n).map (·+30000)):=qqd hn λ_=>rfl
def qlY (hn:n<=100):q7H (stT n S) n 40000 none (λ_=>n)=some ((List.range n).map λj=>.sl none (rB n S.iU j),(List.range n).map (·+40000)):=qqc hn λ_=>rfl
attribute [go_sem ↓] q5l qjN qjM qjL qjK qjJ qjI qjH qjG ql1 ql0 qlZ qlY
variable {J:Nat->Prop} {s:Nat->PV} {h:Hp} {xs kv:List (Nat × PV)} {bs:List (Nat × Bk)} {kb:List (Nat × Option Bk)}
def q9u {i:Nat} {b:Bk} (hb:stT n S i=some b):6000<=i:=by
 rcases xW i 6000 with h | h
 .rw [q5l h] at hb; cases hb
 .exact h
def q9v {o r:Nat} (hn:n<=100) (h5:5000 < r) (h6:r < 6000) (hJ:∀ i,J i->i≠r) (hq:∀ i,6000<=i->win i->h i=stT n S i) (h0:h 5000=some (q2h n o S.rows.length)) (h1:h o=some (rwB S.rows)) (ho:o < 5000\/(5000 < o/\o < 6000/\o≠r)) (hl:nmW o o (bs.map (·.1) ++ kb.map (·.1)))
  (hh:q57 (tnU r o) h (q0o (q0n n S r) (hpM bs kb)) s xs/\q57 (tnU r o) h (q0o (q0n n S r) (hpM bs kb)) s kv/\q87 (tnU r o) h (q0o (q0n n S r) (hpM bs kb)) bs/\q9e (tnU r o) h (q0o (q0n n S r) (hpM bs kb)) kb):Le J s h (stM xs kv) (q0o (q0n n S r) (hpM bs kb)):=by
 have tr:tnU r o r=some o:=if_pos rfl;have tI:∀ i,i≠r->tnU r o i=some i:=λi a=>if_neg a;have hl:=λi hi=>q6j hl i hi;have hex:∀ i,win i->∀ b,q0n n S r i=some b->∃ b,q0o (q0n n S r) (hpM bs kb) i=some b:=λi hi b hb=>⟨b,by rw [q0P hi]; exact hb⟩;refine LeT (tnU r o) (λi q=>tI i (hJ i q)) (λi hi hw=>?_) (λi b hw hb=>?_) (λi j k' hi hj ti tj=>?_) hh
 .have:=(hl i hi).1; unfold win at hw; omega
 .have hb2:=hb;unfold q0n q0S at hb
  split at hb
  .rename_i e; subst e; cases hb;unfold LeB;rw [tr];exact ⟨_,h1,rfl,rfl,⟨rfl,rfl⟩,q0G rfl clRw⟩
  .rename_i e
   split at hb
   .rename_i e2; subst e2; cases hb;unfold LeB;rw [tI _ e];refine ⟨_,h0,rfl,rfl,⟨rfl,rfl⟩,?_⟩;unfold q2h;simp only;rw [q7S];obtain ⟨q1,q2,q3,q4⟩:=ql2 (S:=S) hn;have hx:∀ i,6000<=i->win i->stT n S i≠none->∃ b,q0o (q0n n S r) (hpM bs kb) i=some b:=λi hi hw hq=>by
     obtain ⟨b,hb⟩:=zE.1 hq;exact hex i hw b (by unfold q0n; rw [q0A ω,q0A ω]; exact hb)
    rw [qbI,q2R,q2R,q2R,q2R,q2R,q3L,q3L,q3L,q3L,q3L,tr,tI _ ω,tI _ ω,tI _ ω,tI _ ω];exact ⟨⟨rfl,hex r ⟨ω,ω⟩ _ q0K,rfl,rfl,rfl⟩,⟨rfl,hx _ Oq ⟨ω,ω⟩ q1,rfl,rfl,rfl⟩,⟨rfl,hx _ Oq ⟨ω,ω⟩ q2,rfl,rfl,rfl⟩,⟨rfl,hx _ Oq ⟨ω,ω⟩ q3,rfl,rfl,rfl⟩,⟨rfl,hx _ Oq ⟨ω,ω⟩ q4,rfl,rfl,rfl⟩,trivial⟩
   .obtain ⟨q1,q2,q3⟩:=(q7b hn).b i b hb;have hi6:=q9u hb;unfold LeB;rw [tI i e];refine ⟨b,(hq i hi6 hw).trans hb,rfl,rfl,⟨q2,q2⟩,LeL_self (λj hj=>?_) _ q3⟩;obtain ⟨c,hc⟩:=zE.1 hj;have hj6:=q9u hc;exact ⟨tI j ω,hex j ((q7b hn).b j c hc).1 c (by unfold q0n; rw [q0A ω,q0A ω]; exact hc)⟩
 .have a:∀ i,(win i/\q0n n S r i≠none\/i ∈ bs.map (·.1) ++ kb.map (·.1))->i≠o:=λi hi=>by
   rcases hi with ⟨q,hi⟩ | hi
   .rintro rfl;unfold win at q;refine hi ?_;unfold q0n;rw [q0A ω,q0A ω,q5l ω]
   .exact (hl i hi).2.1
  have a1:=a i hi;have a2:=a j hj;unfold tnU at ti tj
  split at ti <;> split at tj <;> cases ti <;> cases tj <;> first | omega | rfl | exact (a1 rfl).elim | exact (a2 rfl).elim
end
end Go.Proofs.YtbjoghfmhgadkaaGreatDoor
namespace Go.E
open Go Go.RowKit
def hx_of {hin hout:Hp} {a:Nat} (hB:BOk hin win) (hs:SSh (q70 hin a) hout) (ha:hout a=none):∀ i b,hin i=some b->win i/\b.st=false/\IdL win b.xs/\(hout i=none\/∃ b',hout i=some b'/\b'.k=b.k/\b.xs.length<=b'.xs.length):=λi b hb=>by
 obtain ⟨h1,h2,h3⟩:=hB.b i b hb;refine ⟨h1,h2,IdL_mono (λj hj=>?_) _ h3,?_⟩
 .obtain ⟨c,hc⟩:=zE.1 hj;exact (hB.b j c hc).1
 .by_cases hi:i=a
  .subst hi; exact .inl ha
  .obtain ⟨b',q1,_,q2,_,q3⟩:=hs i b (by unfold q70; rw [if_neg hi]; exact hb);exact .inr ⟨b',q1,q2,ω⟩
def qog {h:Hp}:SSh h (q7Z h):=λi b hb=>⟨⟨b.T,b.k,b.xs.map λ_=>.un,false⟩,by unfold q7Z; rw [hb,zO],rfl,rfl,rfl,σ⟩
end Go.E
namespace Go.Proofs.YtbjoghfmhgadkaaGreatDoor
open Go Go.E Go.Sp
def In_z0 {V:Int} (hV:V=0) (D:Nat->Prop) (w:World):In (fV V) D (.agg ⟨[.bool false,.bool false,.slice none 0 0,.int .i64 0]⟩) w:=by
 subst hV;refine (q3a (ρ:=λ_=>none) (h:=h0)).1 ⟨?_,by simp [q0d,q0m]⟩;unfold Rd;refine ⟨_,rfl,?_⟩;unfold RdL RdL RdL RdL RdL Rd;rw [q1v,show dyE 0=0 from rfl];refine ⟨_,_,rfl,rfl,_,_,rfl,rfl,_,_,rfl,?_,_,_,rfl,rfl,rfl⟩;exact ⟨none,0,0,rfl,U32.nil⟩
def qvw {τ:Nat->Option Nat} {h h':Hp} {V:Int} (hV:V=0):LeV τ h h' (.ag [bv false,bv false,q0T,iv 0]) (pV V) :=
 .agv (l:=[.bool false,.bool false,.slice none 0 0,.int .i64 0]) (In_z0 hV)
def qoj {τ:Nat->Option Nat} {h h':Hp} {n:Nat} {P:Nat->PV} {l:List PV} (hl:l.length=n):LeL τ h h' l (rwP n P 0):=⟨by rw [hl,qdA],λi x y _ hy=>by
 unfold rwP at hy;rw [zH] at hy;cases hc:(List.range n)[i]? with
 | none=>rw [hc] at hy; cases hy
 | some c=>rw [hc,zO,if_neg ω] at hy; cases hy; exact .un⟩
def rwG_z {n m:Nat} {g:Nat->Nat} (h:g m=0):rwG n g m=rwG n g (m+1):=by
 unfold rwG;refine zQ λy _=>?_
 by_cases h2:y < m
 .rw [if_pos h2,if_pos ω]
 .rw [if_neg h2]
  by_cases h3:y=m
  .subst h3; rw [if_pos ω,h]
  .rw [if_neg ω]
def qrO {n i:Nat} {g:Nat->Nat} (hi:i < n):(rwG n g n)[i]?=some (g i):=by
 unfold rwG;rw [zH,zC hi,zO,if_pos hi]
def qa3 {S:LuS} {k:Nat} {z:Nat->Int} {d:Int} {m:Nat} (h:loS S k z d m=none):∀ m',m<=m'->loS S k z d m'=none
 | 0,hc=>by
  obtain rfl:m=0:=ω
  exact h
 | c+1,hc=>by
  by_cases e:m=c+1
  .subst e; exact h
  .rw [loS,qa3 h c ω]; rfl
def abZ_0:abZ 0=0:=by
 unfold abZ;rw [(q9D (f:=0) (by unfold q0O; simp)).2 rfl]; rfl
def qjh {v:Nat->Nat}:∀ i,0<=mxZ v i
 | 0=>xG _
 | i+1=>by
  have:=qjh (v:=v) i;unfold mxZ
  split
  .unfold abZ; omega
  .exact this
def qsE {v:Nat->Nat} {i:Nat} (h:v i=0):mxZ v (i+1)=mxZ v i:=by
 have:=qjh (v:=v) i;rw [mxZ,h,abZ_0,if_neg ω]
def qji {v:Nat->Nat}:∀ i,(∀ c,c < i->q0O (v c))->bl (mxZ v i).natAbs<=67600
 | 0,_=>by unfold mxZ; simp [q0m]
 | i+1,h=>by
  unfold mxZ
  split
  .unfold abZ; rw [zS]; exact q46 (h i ω)
  .exact qji i λc hc=>h c Oq
section
variable {v:Nat->Nat} {S:LuS} {mi:List Int} {num den:Nat} {w:Int}
def qeu:∀ i:Nat,-1<=bsP v S mi num den w i/\bsP v S mi num den w i < i
 | 0=>by unfold bsP; omega
 | i+1=>by
  have:=qeu i;unfold bsP
  split
  .omega
  .split <;> omega
def qav:∀ i:Nat,0<=bsP v S mi num den w i->(bsP v S mi num den w i).toNat ∉ S.rows/\¬ (v (bsP v S mi num den w i).toNat=0\/v (bsP v S mi num den w i).toNat=9223372036854775808)
 | 0,h=>by unfold bsP at h; omega
 | i+1,h=>by
  unfold bsP at h ⊢
  split
  .rename_i h1; rw [if_pos h1] at h; exact qav i h
  .rename_i h1;rw [if_neg h1] at h
   split
   .rename_i h2;rw [zF];exact ⟨λq=>h1 (.inl q),λq=>h1 (.inr (.inl q))⟩
   .rename_i h2;rw [if_neg h2] at h;exact qav i h
end
section
variable {F:Nat->Nat->Option Nat} {S:LuS} {n j k num den:Nat}
def q4h {m:Nat} (h:upS F S j k m=none):∀ m',m<=m'->upS F S j k m'=none
 | 0,hc=>by
  obtain rfl:m=0:=ω
  exact h
 | c+1,hc=>by
  by_cases e:m=c+1
  .subst e; exact h
  .rw [upS,q4h h c ω]; rfl
noncomputable def quJ (F:Nat->Nat->Option Nat) (mi:List Int) (n:Nat) (S:LuS) (j k num den:Nat):Hp:=if (q14 F mi n S j k num den).1=0 then q0n n (q14 F mi n S j k num den).2 5002 else q7Z (q70 (q0n n S 5001) 5001)
def qiA (h:TOk F n n) (hn:n<=100) (hl:q3D S.l) (hu:q3D S.u) (hr:∀ x ∈ S.rows,x < n) (hk:S.rows.length=k) (hkn:k < n) (hj:j < n) (hnum:num<=1000) (hden:den<=1000) :
  ACxt 91 [.pt 5000 0 0,pT n n F,iv j,iv k,iv num,iv den] (q0n n S 5001) (iv (q14 F (tM F n n).2.1 n S j k num den).1) (quJ F (tM F n n).2.1 n S j k num den):=by
 have hM:=q0y (f:=F) (R:=n) n;have cT:∀ {q:LuS} {i:Nat} {m:Nat},q3D q.l->q3D q.u->i < n->m<=n->_:=λ{q i m} h1 h2 h3 h4=>qg2 (S:=q) (i:=i) (j:=j) (k:=k) (m:=m) h hn h1 h2 h3 hj hkn h4;have hF:∀ i,i < n->q0O ((F j i).getD 0):=λi hi=>(h.fin hj hi).1;have hnn:n*n<=100*100:=xB hn hn;have hpl:pT n n F=q3G n n (tM F n n).1 (tM F n n).2.1 (tM F n n).2.2:=rfl;simp only [hpl] at cT;rw [hpl];clear hpl;unfold q3G at cT ⊢;have hT:=Hid.mk @cT;clear cT;generalize (tM F n n).1=ms at *;generalize (tM F n n).2.1=mi at *;generalize (tM F n n).2.2=mv at *;have hcO:∀ e r,q14 F mi n S j k num den=(e,r)->quJ F mi n S j k num den=if e=0 then q0n n r 5002 else q7Z (q70 (q0n n S 5001) 5001):=λe r hq=>by unfold quJ; rw [hq]
 obtain ⟨⟨e,r⟩,hres⟩:∃ q,q=q14 F mi n S j k num den:=⟨_,rfl⟩;rw [hcO e r hres.symm,<- hres];clear hcO;have hno:(if e=0 then q0n n r 5002 else q7Z (q70 (q0n n S 5001) 5001):Hp) 5001=none:=by
  split
  .unfold q0n; rw [q0A ω,q0A ω,q5l ω]
  .unfold q7Z q70; rw [if_pos rfl]; rfl
 have hno2:q0n n S 5001 5002=none:=by unfold q0n; rw [q0A ω,q0A ω,q5l ω]
 refine actx qu1 Tryz.func91 rfl Tryz.ntmps91 κ ?_ ?_ ?_ ?_
 .refine hx_of (a:=5001) (q05 (r:=5001) hn Oq Oq) ?_ hno
  split
  .exact q5B Oq Oq Oq Oq
  .exact qog
 .intro i b hb
  split at hb
  .exact ((q05 hn Oq Oq).b i b hb).1
  .unfold q7Z q70 at hb;obtain ⟨c,hc,_⟩:=uZ.1 hb
   split at hc
   .cases hc
   .exact ((q05 hn Oq Oq).b i c hc).1
 .refine IdL.of λx hx=>?_;simp at hx
  rcases hx with rfl | rfl | rfl | rfl | rfl | rfl <;> unfold IdP
  .exact ⟨ω,ω⟩
  .unfold IdL IdL IdL IdL IdL IdL;unfold IdP;exact ⟨trivial,trivial,trivial,trivial,trivial,trivial⟩
  all_goals trivial
 simp only;have hJ:∀ i,(q0n n S 5001 i≠none/\(if e=0 then q0n n r 5002 else q7Z (q70 (q0n n S 5001) 5001):Hp) i≠none)->i≠5002:=λi hi=>by rintro rfl; exact hi.1 hno2
 have hbad:∀ (hw:Hp) (h:Hp) (l:List PV) (v:Value),Wn h hw->SSh (q70 (q0n n S 5001) 5001) hw->mkR l=.vl v->∀ J,Le J (λ_=>mkR l) h (λ_=>.vl v) (q7Z (q70 (q0n n S 5001) 5001)):=λhw h l v h1 h2 h3 J=>LeUnk h1 (λi b hb=>by
  unfold q70 at hb
  split at hb
  .cases hb
  .exact ((q05 hn Oq Oq).b i b hb).1) h2 h3
 generalize hHo:(if e=0 then q0n n r 5002 else q7Z (q70 (q0n n S 5001) 5001):Hp)=Ho at *;have hHe:e≠0->Ho=q7Z (q70 (q0n n S 5001) 5001):=λh=>by rw [<- hHo,if_neg h]
 have hH0:e=0->Ho=q0n n r 5002:=λh=>by rw [<- hHo,if_pos h]
 clear hHo hno;unfold q14 at hres;refine wk ?_;refine q0g (λq:Nat × LuS=>q.1<=k/\upS F S j k q.1=some q.2/\q3D q.2.l/\q3D q.2.u/\q.2.rows=S.rows) [0,2,3,4,5,7,13] [7] Lk Lk (λq=>[(14,iv q.1)]) (λ_=>[]) (λq=>q0n n q.2 5001) (λq=>k-q.1) (0,S) ⟨zJ _,rfl,hl,hu,rfl⟩ ?_ ?_
 .refine LeW [] rfl rfl ?_ ?_ (by simp [q1W,q0Z,win]) ?_
  .exact Ow
  .exact q04 (q05 hn Oq Oq)
  .try refine Zz ?_
   rfl
 .rintro ⟨m,q⟩ ⟨hm,hq,ql,qu,qr⟩;simp only at hm hq ql qu qr ⊢
  by_cases hlt:m < k
  .obtain ⟨i,hi⟩:∃ i,q.rows[m]?=some i:=⟨_,zA (by rw [qr]; omega)⟩;have hql:q.rows.length=k:=by rw [qr]; exact hk
   have hin:=hr i (by rw [<- qr]; exact zG hi);unfold q0n q2h;refine wk ?_;have cS:=hT.o (m:=m) ql qu hin Oq;have N1:=qmO (V:=luZ F q.l q.u i j k m);have rm:(List.range n)[m]?=some m:=zC Oq;have rk:(List.range n)[k]?=some k:=zC hkn;have cR:=@qdH (luZ F q.l q.u i j k m);have cG:=qam (V:=luZ F q.l q.u i j k m);obtain ⟨z,hz⟩:∃ z,z=luZ F q.l q.u i j k m:=⟨_,rfl⟩;have hvl:fR 0 z < 18446744073709551616:=q3q;have hqs:upS F S j k (m+1)=if q0O (fR 0 z) then some { q with u:=q28 q.u m k (fR 0 z),iU:=q4W q.iU m k (decide (z≠0)) } else none:=by rw [upS,hq,yC,show S.rows.getD m 0=i by rw [<- qr]; exact getD_some hi,<- hz]
   rw [<- hz] at cS N1 cR cG;have cF:=q5J hvl;generalize fR 0 z=v at *;have hset:((List.range n).map λc=>PV.vl (.int .u64 (q.u m c:Nat))).set k (uv v)=(rU n q.u m).set k (uv v):=rfl;have hget:((rU n q.u m).set k (uv (v:Nat)))[k]?=some (uv (v:Nat)):=yF (by simp; omega);have qz:(z.sign != 0)=decide (z≠0):=by
    by_cases h0:z=0
    .subst h0; rfl
    .rw [decide_eq_true h0]; simpa using h0
   have eq1:∀ b,q0S (q0S (q0n n q 5001) (m+30000) ⟨32,none,(rU n q.u m).set k (uv (v:Nat)),false⟩) (m+40000) ⟨4,none,(rB n q.iU m).set k (bv b),false⟩=q0n n { q with u:=q28 q.u m k v,iU:=q4W q.iU m k b } 5001:=λb=>by
    rw [q9w ω ω,q3V (i:=5001) ω,q3V (i:=5000) ω,qq9 hn ω,qjO (S:={ q with u:=q28 q.u m k v }) hn ω]
   refine A_sd [(2,15),(3,15),(7,15),(10,15),(14,15)] q3f κ λK hK=>?_;refine Zz3 hi rm rk ?_;refine q2z cS N1 ?_
   try refine Zz ?_
   refine hK _ _ ?_; clear hK K
   by_cases hf:q0O v
   .rw [decide_eq_true hf] at cF;rw [if_pos hf] at hqs;refine wk1 (x5 hi rm rk qz hget) ?_;refine ⟨(m+1,{ q with u:=q28 q.u m k v,iU:=q4W q.iU m k (decide (z≠0)) }),⟨by simp only; omega,hqs,ql,λx y=>?_,qr⟩,by simp only; omega,?_⟩
    .simp only [q28]
     split
     .exact ⟨hf,hvl⟩
     .exact qu x y
    .simp only;refine LeW [] rfl rfl ?_ ?_ (by simp [q1W,q0Z,win]) ?_
     .refine qi6 (q85 (q85 (qcB Oq (qcB Oq q2A)))) (eq1 _)
     .exact q04 (q05 hn Oq Oq)
     .try refine Zz ?_
      omega
   .rw [decide_eq_false hf] at cF;rw [if_neg hf] at hqs;rw [q4h hqs k ω] at hres;cases hres;rw [hHe (by decide)];refine wk1 (x5 hi rm rk qz hget) ?_;refine (rtM (rs:=[.tmp 12]) rfl rfl Lq ?_ (.inl rfl));exact hbad _ _ _ _ (qi6 (q85 (q85 (qcB Oq (qcB Oq q2A)))) (eq1 _)) (q5B Oq Oq Oq Oq) rfl _
  .obtain rfl:k=m:=ω
   rw [hq] at hres;simp only at hres;unfold qf0 at hres;clear hm hq hlt;have hql:q.rows.length=k:=by rw [qr]; exact hk
   have hRl:=λi=>qli (n:=n) (g:=rsV F q j k) (m:=i);have hsl:=λi=>qdA (n:=n) (g:=λc=>if c ∈ q.rows then .un else pV (rsZ F q j k c)) (m:=i);have hVu:∀ c,rsV F q j k c=if c ∈ q.rows then 0 else fR 0 (rsZ F q j k c):=λc=>rfl
   have hvl:∀ c,rsV F q j k c < 18446744073709551616:=λc=>by rw [hVu]; split <;> first | omega | exact q3q
   have hzE:∀ c,rsZ F q j k c=luZ F q.l q.u c j k k:=λc=>rfl;have hsP:∀ c,c ∉ q.rows->(if c ∈ q.rows then PV.un else pV (rsZ F q j k c))=pV (rsZ F q j k c):=λc hc=>if_neg hc;have hsU:∀ c,c ∈ q.rows->(if c ∈ q.rows then PV.un else pV (rsZ F q j k c))=.un:=λc hc=>if_pos hc;have hsC:∀ c,Cld (if c ∈ q.rows then PV.un else pV (rsZ F q j k c)):=λc=>by split <;> trivial
   generalize hVg:rsV F q j k=V at *;generalize hZg:rsZ F q j k=Z at *;generalize hPg:(λc=>if c ∈ q.rows then PV.un else pV (Z c))=P at *;have hP1:∀ c,c ∉ q.rows->P c=pV (Z c):=λc hc=>by rw [<- hPg]; exact if_neg hc
   have hP2:∀ c,c ∈ q.rows->P c=.un:=λc hc=>by rw [<- hPg]; exact if_pos hc
   have hP3:∀ c,Cld (P c):=λc=>by rw [<- hPg]; exact hsC c
   clear hPg hsP hsU hsC;refine wk ?_;refine q0g (λi=>i<=n/\∀ c,c < i->q0O (V c)) [0,2,3,4,5,7,13,18] [7] Lk Lk (λi:Nat=>[(19,iv i),(16,.ow 1001 (some 4) 0 n),(17,.ow 1002 none 0 n)]) (λi=>[(18,⟨46,some 4,[pV (mxZ V i)],false⟩),(1001,⟨46,some 4,rwP n P i,false⟩),(1002,⟨32,none,(rwG n V i).map λz:Nat=>uv z,false⟩)]) (λ_=>q0n n q 5001) (λi=>n-i) 0 ⟨zJ _,ω⟩ ?_ ?_
   .refine LeW [(1001,some 82),(1002,some 84)] rfl rfl ?_ ?_ (by simp [q1W,q0Z,win]) ?_
    .exact Ow
    .exact q04 (q05 hn Oq Oq)
    .try refine Zz ?_
     exact ⟨rfl,qvw rfl,qoj σ,rwG_0⟩
   .rintro i ⟨hi,hfin⟩;have hwl:=hRl i;have hsl1:=hsl i
    by_cases hlt:i < n
    .have cP:=q4O (S:=q) (n:=n) (i:=i) (by rw [hql]; omega)
     by_cases hmem:i ∈ q.rows
     .rw [decide_eq_true hmem] at cP;have N2:Nz (bv true):=qpH;have hV0:V i=0:=by rw [hVu]; exact if_pos hmem
      refine wk ?_;refine ⟨i+1,⟨ω,λc hc=>?_⟩,ω,?_⟩
      .by_cases h1:c < i
       .exact hfin c h1
       .rw [show c=i by omega,hV0]; unfold q0O; simp
      .rw [<- rwG_z hV0,<- rwP_u (hP2 i hmem),qsE hV0];refine LeW [] rfl rfl ?_ ?_ (by simp [q1W,q0Z,win]) ?_
       .exact Ow
       .exact q04 (q05 hn Oq Oq)
       .try refine Zz ?_
        exact ⟨rfl,q0G rfl (q1n hP3)⟩
     .rw [decide_eq_false hmem] at cP;have N2:Nz (bv false):=qpH;have hVi:V i=fR 0 (Z i):=by rw [hVu]; exact if_neg hmem
      have cS:=hT.o (i:=i) (m:=k) ql qu hlt Oq;rw [<- hzE] at cS;have N3:=qmO (V:=Z i);have cR:=@qdH (Z i);have hPi:=hP1 i hmem;have hs1:((rwP n P i).set i (pV (Z i)))[i]?=some (pV (Z i)):=yF (by rw [hsl1]; omega);have hs2:(((rwG n V i).map λz:Nat=>uv z).set i (uv (V i:Nat)))[i]?=some (uv (V i:Nat)):=yF (by rw [uN,hwl]; omega);have hs3:rwP n P (i+1)=(rwP n P i).set i (pV (Z i)):=by rw [<- rwP_s,hPi]
      have hs4:((rwG n V (i+1)).map λz:Nat=>uv z)=((rwG n V i).map λz:Nat=>uv z).set i (uv (V i:Nat)):=by rw [<- rwG_s,List.map_set]
      rw [<- hVi] at cR;have cF:=q5J (hvl i)
      by_cases hf:q0O (V i)
      .rw [decide_eq_true hf] at cF;have cO:=q44 (hvl i) (q1S hf);have cA:ACt 46 [pV (ofZ (V i))] (pV (abZ (V i))):=q9X;have cL:=q9j (A:=mxZ V i) (B:=abZ (V i));have hfin2:∀ c,c < i+1->q0O (V c):=λc hc=>by
        by_cases h1:c < i
        .exact hfin c h1
        .rw [show c=i by omega]; exact hf
       by_cases hlw:mxZ V i < abZ (V i)
       .rw [decide_eq_true hlw] at cL;have hm:mxZ V (i+1)=abZ (V i):=if_pos hlw;refine wk1 (x4 hs1 hs2 hwl hsl1) ?_;refine ⟨i+1,⟨ω,hfin2⟩,ω,?_⟩;rw [hs3,hs4,hm];refine LeW [] rfl rfl ?_ ?_ (by simp [q1W,q0Z,win]) ?_
        .exact Ow
        .exact q04 (q05 hn Oq Oq)
        .try refine Zz ?_
         exact ⟨rfl,q0G rfl (q7W (q1n hP3) trivial),q0G rfl (q7W clU trivial)⟩
       .rw [decide_eq_false hlw] at cL;have hm:mxZ V (i+1)=mxZ V i:=if_neg hlw;refine wk1 (x4 hs1 hs2 hwl hsl1) ?_;refine ⟨i+1,⟨ω,hfin2⟩,ω,?_⟩;rw [hs3,hs4,hm];refine LeW [] rfl rfl ?_ ?_ (by simp [q1W,q0Z,win]) ?_
        .exact Ow
        .exact q04 (q05 hn Oq Oq)
        .try refine Zz ?_
         exact ⟨rfl,q0G rfl (q7W (q1n hP3) trivial),q0G rfl (q7W clU trivial)⟩
      .rw [decide_eq_false hf] at cF;rw [if_neg λh=>hf (h i hlt)] at hres;cases hres;rw [hHe (by decide)];refine wk1 (x4 hs1 hs2 hwl hsl1) ?_;refine (rtM (rs:=[.tmp 12]) rfl rfl Lq ?_ (.inl rfl));refine hbad (q0n n q 5001) _ _ _ ?_ (q5B Oq Oq Oq Oq) rfl _;exact Ow
    .obtain rfl:n=i:=ω
     rw [if_pos hfin] at hres;have hWb:=qji n hfin;obtain ⟨W,hW⟩:∃ W,W=mxZ V n:=⟨_,rfl⟩;rw [<- hW] at hWb hres ⊢;have cI1:=q3c (z:=num) Oq Oq (q7x Oq);have cI2:=q3c (z:=den) Oq Oq (q7x Oq);have cM1:=q8v (mulI (z:=num) (W:=W) Oq hWb);have hrg:=λi=>qeu (v:=V) (S:=q) (mi:=mi) (num:=num) (den:=den) (w:=W) i;have hbs:=λi=>show bsP V q mi num den W (i+1)=if i ∈ q.rows\/(V i=0\/V i=9223372036854775808)\/(den:Int)*abZ (V i) < num*W then bsP V q mi num den W i else if bsP V q mi num den W i < 0\/q15 mi i < q15 mi (bsP V q mi num den W i).toNat then (i:Int) else bsP V q mi num den W i from rfl
     have hbok:=qav (v:=V) (S:=q) (mi:=mi) (num:=num) (den:=den) (w:=W) n;have hb0:bsP V q mi num den W 0 = -1:=rfl;generalize bsP V q mi num den W=b at *;have hsl1:=hsl n;have hwl:=hRl n;refine wk ?_;refine q0g (λi=>i<=n) [0,2,3,4,5,7,13,16,17,18] [7,18,1001,1002] Lk Lk (λi:Nat=>[(21,iv i),(20,iv (b i))]) (λ_=>[]) (λ_=>q0n n q 5001) (λi=>n-i) 0 (zJ _) ?_ ?_
     .refine LeW [] rfl rfl ?_ ?_ (by simp [q1W,q0Z,win]) ?_
      .exact Ow
      .exact q04 (q05 hn Oq Oq)
      .try refine Zz ?_
       exact ⟨⟨rfl,by rw [hb0]⟩,q0G rfl (q1n hP3)⟩
     .intro i hi
      by_cases hlt:i < n
      .have cP:=q4O (S:=q) (n:=n) (i:=i) (by rw [hql]; omega);have hbi:=hrg i;have hsi:=hbs i;have hvg:(rwG n V n)[i]?=some (V i):=qrO hlt;have cZ:=@qbN (V i);have cO:=q44 (hvl i) (q1S (hfin i hlt));have cA:ACt 46 [pV (ofZ (V i))] (pV (abZ (V i))):=q9X;have hab:bl (abZ (V i)).natAbs<=67600:=by unfold abZ; rw [zS]; exact q46 (hfin i hlt)
       have cM2:=q8v (mulI (z:=den) (W:=abZ (V i)) Oq hab);have cL:=q9j (A:=(den:Int)*abZ (V i)) (B:=(num:Int)*W);have N9:∀ b:Bool,Nz (bv b):=λb=>qpH;have hskip:(i ∈ q.rows\/(V i=0\/V i=9223372036854775808)\/(den:Int)*abZ (V i) < num*W)->b (i+1)=b i:=λh=>by rw [hsi,if_pos h]
       have htake:¬ (i ∈ q.rows\/(V i=0\/V i=9223372036854775808)\/(den:Int)*abZ (V i) < num*W)->b (i+1)=if b i < 0\/q15 mi i < q15 mi (b i).toNat then (i:Int) else b i:=λh=>by rw [hsi,if_neg h]
       clear hsi hbs
       by_cases hmem:i ∈ q.rows
       .rw [decide_eq_true hmem] at cP;have N2:=N9 true;have hbn:=hskip (.inl hmem);generalize b i=bi at *;refine wk ?_;refine ⟨i+1,ω,ω,?_⟩;rw [hbn];refine LeW [] rfl rfl ?_ ?_ (by simp [q1W,q0Z,win]) ?_
        .exact Ow
        .exact q04 (q05 hn Oq Oq)
        .try refine Zz ?_
         exact ⟨rfl,q0G rfl (q1n hP3)⟩
       rw [decide_eq_false hmem] at cP;have N2:=N9 false
       by_cases hz:V i=0\/V i=9223372036854775808
       .rw [decide_eq_true hz] at cZ;have hbn:=hskip (.inr (.inl hz));generalize b i=bi at *;refine wk1 hvg ?_;refine ⟨i+1,ω,ω,?_⟩;rw [hbn];refine LeW [] rfl rfl ?_ ?_ (by simp [q1W,q0Z,win]) ?_
        .exact Ow
        .exact q04 (q05 hn Oq Oq)
        .try refine Zz ?_
         exact ⟨rfl,q0G rfl (q1n hP3)⟩
       rw [decide_eq_false hz] at cZ
       by_cases hle:(den:Int)*abZ (V i) < num*W
       .rw [decide_eq_true hle] at cL;have hbn:=hskip (.inr (.inr hle));generalize b i=bi at *;refine wk1 hvg ?_;refine ⟨i+1,ω,ω,?_⟩;rw [hbn];refine LeW [] rfl rfl ?_ ?_ (by simp [q1W,q0Z,win]) ?_
        .exact Ow
        .exact q04 (q05 hn Oq Oq)
        .try refine Zz ?_
         exact ⟨rfl,q0G rfl (q1n hP3)⟩
       rw [decide_eq_false hle] at cL;have hbn:=htake λh=>h.elim hmem λh=>h.elim hz hle;have cC1:=qao (ms:=ms) (mi:=mi) (mv:=mv) (n:=n) (i:=i) Oq;have cC2:=λc:Nat=>qao (ms:=ms) (mi:=mi) (mv:=mv) (n:=n) (i:=c) Oq;unfold q3G at cC1 cC2;have hcb:∀ c,q15 mi c<=1000000:=λc=>zW (yV _ _) Oq;generalize b i=bi at *
       by_cases hneg:bi < 0
       .rw [if_pos (.inl hneg)] at hbn;refine wk1 (x2 hvg hneg) ?_;refine ⟨i+1,ω,ω,?_⟩;rw [hbn];refine LeW [] rfl rfl ?_ ?_ (by simp [q1W,q0Z,win]) ?_
        .exact Ow
        .exact q04 (q05 hn Oq Oq)
        .try refine Zz ?_
         exact ⟨rfl,q0G rfl (q1n hP3)⟩
       obtain ⟨c,rfl⟩:∃ c:Nat,bi=c:=⟨bi.toNat,ω⟩;rw [zF] at hbn;have cC3:=cC2 c;have h1:=hcb i;have h2:=hcb c
       by_cases hcnt:q15 mi i < q15 mi c
       .rw [if_pos (.inr hcnt)] at hbn;have hcnt':(q15 mi i:Int) < q15 mi c:=ω
        refine wk1 (x3 hvg hneg hcnt') ?_;refine ⟨i+1,ω,ω,?_⟩;rw [hbn];refine LeW [] rfl rfl ?_ ?_ (by simp [q1W,q0Z,win]) ?_
        .exact Ow
        .exact q04 (q05 hn Oq Oq)
        .try refine Zz ?_
         exact ⟨rfl,q0G rfl (q1n hP3)⟩
       .rw [if_neg λh=>h.elim hneg hcnt] at hbn;have hcnt':¬ (q15 mi i:Int) < q15 mi c:=ω
        refine wk1 (x3 hvg hneg hcnt') ?_;refine ⟨i+1,ω,ω,?_⟩;rw [hbn];refine LeW [] rfl rfl ?_ ?_ (by simp [q1W,q0Z,win]) ?_
        .exact Ow
        .exact q04 (q05 hn Oq Oq)
        .try refine Zz ?_
         exact ⟨rfl,q0G rfl (q1n hP3)⟩
      .obtain rfl:n=i:=ω
       clear hi hlt hbs cI1 cI2 cM1
       by_cases hneg:b n < 0
       .rw [if_pos hneg] at hres;cases hres;rw [hHe (by decide)];refine wk1 hneg ?_;refine (rtM (rs:=[.tmp 12]) rfl rfl Lq ?_ (.inl rfl));refine hbad (q0n n q 5001) _ _ _ ?_ (q5B Oq Oq Oq Oq) rfl _;exact Ow
       rw [if_neg hneg] at hres;obtain ⟨hpm,hpz⟩:=hbok Oq;have hpn:=(hrg n).2;clear hrg hbok hb0;generalize b n=bn at *;obtain ⟨p,rfl⟩:∃ p:Nat,bn=p:=⟨bn.toNat,ω⟩;rw [zF] at hres hpm hpz;have hpn:p < n:=ω
       have hvp:=qrO (g:=V) hpn;have rk:(List.range n)[k]?=some k:=zC hkn;refine wk1 (x3 hneg hvp rk) ?_;obtain ⟨Sp,hSp⟩:∃ Sp,Sp=pvS q k V p:=⟨_,rfl⟩;rw [<- hSp] at hres;have hSr:Sp.rows=q.rows ++ [p]:=by rw [hSp]; rfl
       have hSl:Sp.l=q.l:=by rw [hSp]; rfl
       have eqT:q0S (q0S (stT n q) (k+30000) ⟨32,none,(rU n q.u k).set k (uv (V p:Nat)),false⟩) (k+40000) ⟨4,none,(rB n q.iU k).set k (bv true),false⟩=stT n Sp:=by
        rw [qq9 hn hkn,qjO (S:={ q with u:=q28 q.u k k (V p) }) hn hkn,hSp]
        rfl
       have hSrl:Sp.rows.length=k+1:=by rw [hSr,zP,hql]; rfl
       refine q1h (q9v (S:=Sp) (o:=191) (r:=5002) hn ω ω hJ (λi h6 hw=>?_) ?_ ?_ (.inl ω) (xs:=[(0,.pt 5000 0 0),(3,iv k),(13,iv n),(16,.ow 1001 (some 4) 0 n),(17,.ow 1002 none 0 n),(20,iv p),(23,iv 0)]) (kv:=[]) (bs:=[(1001,⟨46,some 4,rwP n P n,false⟩),(1002,⟨32,none,(rwG n V n).map λz:Nat=>uv z,false⟩)]) (kb:=[]) (by simp [nmW]) ?_) ?_
       .rw [<- eqT]
        by_cases h1:i=k+40000
        .subst h1; rw [q0K,q0K]
        by_cases h2:i=k+30000
        .subst h2; rw [q0A h1,q0K,q0A h1,q0K]
        rw [q0A h1,q0A h2,q0A h1,q0A h2,q0A ω,q0A ω,q0A ω,q0A ω,q0P hw];unfold q0n;rw [q0A ω,q0A ω]
       .try refine Zz ?_
        rw [hSr,zP]; rfl
       .try refine Zz ?_
        unfold rwB;rw [hSr,yR]; rfl
       .try refine Zz ?_
        repeat' (with_reducible apply And.intro)
        all_goals first | exact q0G rfl (q1n hP3) | exact q0G rfl clU | rfl | omega
       refine q0g (λx:Nat × LuS=>x.1<=n/\loS Sp k Z (ofZ (V p)) x.1=some x.2/\q3D x.2.l/\x.2.rows=Sp.rows) [0,3,13,16,17,20] [1001,1002] Lk Lk (λx=>[(23,iv x.1)]) (λ_=>[]) (λx=>q0n n x.2 5002) (λx=>n-x.1) (0,Sp) ⟨zJ _,rfl,by rw [hSl]; exact ql,rfl⟩ ?_ ?_
       .refine LeW [] rfl rfl ?_ ?_ (by simp [q1W,q0Z,win]) ?_
        .exact Ow
        .exact q04 (q05 hn Oq Oq)
        .try refine Zz ?_
         exact ⟨rfl,q0G rfl (q1n hP3)⟩
       .rintro ⟨i,t⟩ ⟨hi,ht,htl,htr⟩;simp only at hi ht htl htr ⊢;have htrl:t.rows.length=k+1:=by rw [htr]; exact hSrl
        by_cases hlt:i < n
        .have cP:=q4O (S:=t) (n:=n) (i:=i) Oq;have hts:loS Sp k Z (ofZ (V p)) (i+1)=if i ∈ Sp.rows then some t else if q0O (q4H 0 (Z i) (ofZ (V p))) then some { t with l:=q28 t.l i k (q4H 0 (Z i) (ofZ (V p))),iL:=q4W t.iL i k (decide (Z i≠0)) } else none:=by rw [loS,ht,yC]
         have N9:∀ b:Bool,Nz (bv b):=λb=>qpH
         by_cases hmem:i ∈ t.rows
         .rw [decide_eq_true hmem] at cP;have N2:=N9 true;rw [if_pos (htr ▸ hmem)] at hts;refine wk ?_;refine ⟨(i+1,t),⟨by simp only; omega,hts,htl,htr⟩,by simp only; omega,?_⟩;simp only;refine LeW [] rfl rfl ?_ ?_ (by simp [q1W,q0Z,win]) ?_
          .exact Ow
          .exact q04 (q05 hn Oq Oq)
          .try refine Zz ?_
           exact ⟨rfl,q0G rfl (q1n hP3)⟩
         .rw [decide_eq_false hmem] at cP;have N2:=N9 false;rw [if_neg (htr ▸ hmem)] at hts;have hmq:i ∉ q.rows:=λh=>hmem (by rw [htr,hSr]; exact yB _ h);have hgs:(rwP n P n)[i]?=some (pV (Z i)):=by rw [qlh hlt (zX _),hP1 i hmq]
          have ri:(List.range n)[i]?=some i:=zC hlt;have cO:=q44 (hvl p) (q1S (hfin p hpn));have cQ:=qkr (qgG (A:=Z i) (B:=ofZ (V p)) (mode:=0));have hvl2:q4H 0 (Z i) (ofZ (V p)) < 18446744073709551616:=qdL;have cG:=qam (V:=Z i);have cF:=q5J hvl2;have qz:((Z i).sign != 0)=decide (Z i≠0):=by
           by_cases h0:Z i=0
           .rw [h0]; rfl
           .rw [decide_eq_true h0]; simpa using h0
          generalize q4H 0 (Z i) (ofZ (V p))=v at *;have hget:((rU n t.l i).set k (uv (v:Nat)))[k]?=some (uv (v:Nat)):=yF (by simp; omega);have eq1:∀ b,q0S (q0S (q0n n t 5002) (i+10000) ⟨32,none,(rU n t.l i).set k (uv (v:Nat)),false⟩) (i+20000) ⟨4,none,(rB n t.iL i).set k (bv b),false⟩=q0n n { t with l:=q28 t.l i k v,iL:=q4W t.iL i k b } 5002:=λb=>by
           rw [q9w ω ω,q3V (i:=5002) ω,q3V (i:=5000) ω,stT_l hn hlt,qqb (S:={ t with l:=q28 t.l i k v }) hn hlt]
          by_cases hf:q0O v
          .rw [decide_eq_true hf] at cF;rw [if_pos hf] at hts;refine wk1 (x6 hgs hvp ri rk qz hget) ?_;refine ⟨(i+1,{ t with l:=q28 t.l i k v,iL:=q4W t.iL i k (decide (Z i≠0)) }),⟨by simp only; omega,hts,λx y=>?_,htr⟩,by simp only; omega,?_⟩
           .simp only [q28]
            split
            .exact ⟨hf,hvl2⟩
            .exact htl x y
           .simp only;refine LeW [] rfl rfl ?_ ?_ (by simp [q1W,q0Z,win]) ?_
            .refine qi6 (q85 (q85 q2A)) (eq1 _)
            .exact q04 (q05 hn Oq Oq)
            .try refine Zz ?_
             exact ⟨rfl,q0G rfl (q1n hP3)⟩
          .rw [decide_eq_false hf] at cF;rw [if_neg hf] at hts;rw [qa3 hts n ω] at hres;cases hres;rw [hHe (by decide)];refine wk1 (x6 hgs hvp ri rk qz hget) ?_;refine (rtM (rs:=[.tmp 12]) rfl rfl Lq ?_ (.inl rfl));exact hbad _ _ _ _ (qi6 (q85 (q85 q2A)) (eq1 _)) (q5B Oq Oq Oq Oq) rfl _
        .obtain rfl:n=i:=ω
         rw [ht] at hres;cases hres;rw [hH0 rfl];refine wk ?_;refine (rtM (rs:=[.tmp 12]) rfl rfl Lq ?_ (.inl rfl));exact LeF q2A (λi b hb=>((q05 hn Oq Oq).b i b hb).1) (q04 (q05 hn Oq Oq)) (.cl trivial)
end
end Go.Proofs.YtbjoghfmhgadkaaGreatDoor
namespace Go.E
open Go Go.RowKit
section
variable {J:Nat->Prop} {s:Nat->PV} {h hw hw':Hp} {T1 T2:TypeId} {K:Kd} {N R n:Nat}
mutual
def qok {p q:Nat->Prop}:∀ x:PV,IdP p x->IdP q x->IdP (λi=>p i/\q i) x
 | .ow _ _ _ _,h1,h2=>by unfold IdP at *; exact ⟨h1,h2⟩
 | .pt _ _ _,h1,h2=>by unfold IdP at *; exact ⟨h1,h2⟩
 | .mp _,h1,h2=>by unfold IdP at *; exact ⟨h1,h2⟩
 | .ag l,h1,h2=>by unfold IdP at *; exact IdL_and l h1 h2
 | .tu l,h1,h2=>by unfold IdP at *; exact IdL_and l h1 h2
 | .un,_,_=>by unfold IdP; trivial
 | .vl _,_,_=>by unfold IdP; trivial
 | .fm _,_,_=>by unfold IdP; trivial
 | .sl _ _,_,_=>by unfold IdP; trivial
 | .qt _ _,_,_=>by unfold IdP; trivial
def IdL_and {p q:Nat->Prop}:∀ l:List PV,IdL p l->IdL q l->IdL (λi=>p i/\q i) l
 | [],_,_=>by unfold IdL; trivial
 | x :: l,h1,h2=>by unfold IdL at *; exact ⟨qok x h1.1 h2.1,IdL_and l h1.2 h2.2⟩
end
def q68 {τ:Nat->Option Nat} {h h':Hp} {row:Nat->List PV} (m:Nat->Nat) (h0:h N=some ⟨T1,none,(List.range n).map λj=>.ow (j+R) K 0 (m j),false⟩) (hr:∀ j,j < n->h (j+R)=some ⟨T2,K,row j,false⟩/\ClL (row j)/\(row j).length=m j) (ht:∀ i j,τ i=some j->j=N\/(R<=j/\j < R+n)->h' i=none):LeV τ h h' (.ow N none 0 n) (.sl none ((List.range n).map λj=>.sl K (row j))):=by
 have e:∀ {α:Type} {l:List α} {k:Nat},l.length=k->(l.drop 0).take k=l:=λ{α l k} hl=>by rw [List.drop_zero]; exact yE ω
 have e1:=e (l:=(List.range n).map λj=>PV.sl K (row j)) (k:=n) σ;rw [<- e1];refine .fzg h0 rfl rfl σ (λc x y hx hy=>?_) (λy hy=>?_) λi hi=>ht i N hi (.inl rfl)
 .have hc:c < n:=by have:=(zD.1 hy).1; simpa using this
  rw [zH,zC hc,zO] at hx hy;cases hx; cases hy;obtain ⟨q1,q2,q3⟩:=hr c hc;exact q1A q1 q2 (λi hi=>ht i _ hi (.inr ⟨ω,ω⟩)) (e q3)
 .obtain ⟨z,_,rfl⟩:=zR.1 hy; trivial
def HId (q:Nat->Prop) (h:Hp):Prop:=∀ i b,h i=some b->IdL q b.xs
def HId_0 {q:Nat->Prop}:HId q h0:=λ_ _ h=>by cases h
def qif {q:Nat->Prop} {row:Nat->List PV} {B:Hp} (hB:HId q B) (hrow:∀ j,j < n->ClL (row j)) (hq:∀ j,j < n->q (j+R)):HId q (q2B T1 T2 K N R n row B):=λi b hb=>by
 rcases q2D hb with ⟨rfl,rfl⟩ | ⟨h0,h1,h2,rfl⟩ | ⟨h1,h2,h3⟩
 .refine IdL.of λx hx=>?_;obtain ⟨z,hz,rfl⟩:=zR.1 hx;unfold IdP;exact hq z (zZ.1 hz)
 .exact IdL.of λx hx=>q09 (hrow (i-R) Oq x hx)
 .exact hB i b h3
def q6Z [NL] {o r:Nat} {l:List PV} {xs kv:List (Nat × PV)} {bs:List (Nat × Bk)} {kb:List (Nat × Option Bk)} (hJ:∀ i,¬ J i) (hcl:ClL l) (f:Nat->Nat) (ho:h o=some ⟨T1,none,((List.range n).map λj=>.ow (j+R) K 0 (f j)) ++ [.ow r K 0 (f n)],false⟩) (hr:h r=some ⟨T2,K,l,false⟩)
  (hq:∀ i,win i->i≠N->h i=hw i) (e0:hw' N=some ⟨T1,none,(List.range (n+1)).map λj=>.ow (j+R) K 0 (f j),false⟩) (e1:hw' (n+R)=some ⟨T2,K,l,false⟩) (e2:∀ i,i≠N->i≠n+R->hw' i=hw i) (e3:∀ j,j < n->hw' (j+R)≠none) (hB:BOk hw win) (hI:HId (λj=>j≠N) hw) (hnr:hw (n+R)=none)
  (h5:o < 5000) (h6:r < 5000) (h7:o≠r) (hN:5000<=N) (hNR:N < R) (hR:R+n < 1000000) (hn:nmW o r (bs.map (·.1) ++ kb.map (·.1)))
  (hh:q57 (tp N (n+R) o r) h (q0o hw' (hpM bs kb)) s xs/\q57 (tp N (n+R) o r) h (q0o hw' (hpM bs kb)) s kv/\q87 (tp N (n+R) o r) h (q0o hw' (hpM bs kb)) bs/\q9e (tp N (n+R) o r) h (q0o hw' (hpM bs kb)) kb):Le J s h (stM xs kv) (q0o hw' (hpM bs kb)):=by
 have tN:tp N (n+R) o r N=some o:=if_pos rfl;have tK:tp N (n+R) o r (n+R)=some r:=by unfold tp; rw [if_neg ω,if_pos rfl]
 have tI:∀ i,i≠N->i≠n+R->tp N (n+R) o r i=some i:=λi a b=>by unfold tp; rw [if_neg a,if_neg b]
 have hl:=λi hi=>q6j hn i hi;have hex:∀ i,win i->hw' i≠none->∃ b,q0o hw' (hpM bs kb) i=some b:=λi hi hb=>by
  rw [q0P hi]; exact zE.1 hb
 refine LeT (tp N (n+R) o r) (λi q=>(hJ i q).elim) (λi hi hw=>?_) (λi b hw1 hb=>?_) (λi j k' hi hj ti tj=>?_) hh
 .have:=(hl i hi).1; unfold win at hw; omega
 .by_cases i1:i=N
  .subst i1;rw [e0] at hb; cases hb;unfold LeB;rw [tN];refine ⟨_,ho,rfl,rfl,⟨rfl,rfl⟩,σ,λc u v hx hy=>?_⟩;have hc:c < n+1:=by have:=(zD.1 hy).1; simpa using this
   rw [zH,zC hc,zO] at hy;cases hy
   by_cases hck:c=n
   .subst hck;rw [zU σ] at hx;simp at hx;subst hx;obtain ⟨b,hbb⟩:=hex (c+R) ⟨ω,ω⟩ (by rw [e1]; exact zI _);exact .ow tK hbb
   .rw [zL (by simp; omega),zH,zC ω,zO] at hx;cases hx;obtain ⟨b,hbb⟩:=hex (c+R) ⟨ω,ω⟩ (e3 c Oq);exact .ow (tI _ Oq Oq) hbb
  .by_cases i2:i=n+R
   .subst i2;rw [e1] at hb; cases hb;unfold LeB;rw [tK];exact ⟨_,hr,rfl,rfl,⟨rfl,rfl⟩,q0G rfl hcl⟩
   .rw [e2 i i1 i2] at hb;obtain ⟨q1,q2,q3⟩:=hB.b i b hb;unfold LeB;rw [tI i i1 i2];refine ⟨b,(hq i hw1 i1).trans hb,rfl,rfl,⟨q2,q2⟩,LeL_self (λj hj=>?_) _ (IdL_and _ q3 (hI i b hb))⟩;obtain ⟨hj,hjN⟩:=hj;obtain ⟨c,hc⟩:=zE.1 hj;have hjR:j≠n+R:=by rintro rfl; exact hj hnr
    exact ⟨tI j hjN hjR,hex j (hB.b j c hc).1 (by rw [e2 j hjN hjR]; exact hj)⟩
 .have a:∀ i,(win i/\hw' i≠none\/i ∈ bs.map (·.1) ++ kb.map (·.1))->i≠r/\i≠o/\(i < 5000->i≠N/\i≠n+R):=λi hi=>by
   rcases hi with ⟨q,hi⟩ | hi
   .unfold win at q; omega
   .have:=hl i hi; omega
  have a1:=a i hi;have a2:=a j hj;unfold tp at ti tj
  split at ti <;> (try split at ti) <;> split at tj <;> (try split at tj) <;> cases ti <;> cases tj <;> first | omega | rfl | (exfalso; omega)
end
end Go.E
namespace Go.Proofs.YtbjoghfmhgadkaaGreatDoor
open Go Go.E Go.Sp
def fLt (S:LuS) (j i:Nat):Option Nat:=if j < i/\S.iL (S.rows.getD i 0) j=true then some (S.l (S.rows.getD i 0) j) else none
def fUt (S:LuS) (j i:Nat):Option Nat:=if i<=j/\S.iU i j=true then some (S.u i j) else none
def qjq (S:LuS) (cols:List Int) (n:Nat):LUt:=⟨S.rows.map λz:Nat=>(z:Int),cols,(tM (fLt S) n n).1,(tM (fLt S) n n).2.1,(tM (fLt S) n n).2.2,(tM (fUt S) n n).1,(tM (fUt S) n n).2.1,(tM (fUt S) n n).2.2⟩
section
variable {S:LuS} {n:Nat} {cols:List Int}
def q8o {F:Nat->Nat->Option Nat} {j:Nat} {p:List Int × List Nat}:∀ i,(∀ c,c < i->F j c=none)->tC F j p i=p
 | 0,_=>rfl
 | i+1,h=>by rw [qbX (h i ω),q8o i λc hc=>h c ω]
def qcc {F:Nat->Nat->Option Nat} {j:Nat} {p:List Int × List Nat} {a:Nat} (h:∀ c,a<=c->F j c=none):∀ i,a<=i->tC F j p i=tC F j p a
 | 0,hi=>by
  obtain rfl:a=0:=ω
  rfl
 | i+1,hi=>by
  by_cases e:a=i+1
  .subst e; rfl
  .rw [qbX (h i ω),qcc h i ω]
def qbs (hn:n<=100) (hc:cols.length=n) (hr:S.rows.length=n) (hrl:∀ x ∈ S.rows,x < n):ACt 92 [pSt n S,pI cols] (pLU (qjq S cols n)):=by
 have hnn:n*n<=100*100:=xB hn hn;have hLl:=λk=>q0y (f:=fLt S) (R:=n) k;have hUl:=λk=>q0y (f:=fUt S) (R:=n) k;have hL1:∀ k,(tM (fLt S) n (k+1)).1=(tM (fLt S) n k).1 ++ [((tC (fLt S) k (tM (fLt S) n k).2 n).1.length:Int)]:=λk=>rfl;have hL2:∀ k,(tM (fLt S) n (k+1)).2=tC (fLt S) k (tM (fLt S) n k).2 n:=λk=>rfl;have hU1:∀ k,(tM (fUt S) n (k+1)).1=(tM (fUt S) n k).1 ++ [((tC (fUt S) k (tM (fUt S) n k).2 n).1.length:Int)]:=λk=>rfl;have hU2:∀ k,(tM (fUt S) n (k+1)).2=tC (fUt S) k (tM (fUt S) n k).2 n:=λk=>rfl;have hL0:tM (fLt S) n 0=([0],[],[]):=rfl;have hU0:tM (fUt S) n 0=([0],[],[]):=rfl;unfold qjq pLU;dsimp only;have hcm:(S.rows.map λz:Nat=>iv z)=(S.rows.map λz:Nat=>(z:Int)).map λz=>iv z:=by rw [List.map_map]; rfl
 have hrl2:(S.rows.map λz:Nat=>(z:Int)).length=n:=by rw [uN,hr]
 generalize hro:(S.rows.map λz:Nat=>(z:Int))=ro at *;refine ac0 Tryz.func92 Tryz.ntmps92 [.cell 4 63] ?_;refine wk1 (x2 hr hc) ?_;refine q0B (λk=>k<=n) [2,4,5,6] [2,4] Lk Lk (λk:Nat=>[(7,iv k)]) (λk=>[(6,⟨63,some 8,[.ag [.ow 1001 none 0 n,.ow 1002 none 0 n,.ow 1003 none 0 (tM (fLt S) n k).1.length,.ow 1004 none 0 (tM (fLt S) n k).2.1.length,.ow 1005 none 0 (tM (fLt S) n k).2.2.length,.ow 1006 none 0 (tM (fUt S) n k).1.length,.ow 1007 none 0 (tM (fUt S) n k).2.1.length,.ow 1008 none 0 (tM (fUt S) n k).2.2.length]],false⟩),(1001,⟨3,none,ro.map λz=>iv z,false⟩),(1002,⟨3,none,cols.map λz=>iv z,false⟩),(1003,⟨3,none,(tM (fLt S) n k).1.map λz=>iv z,false⟩),(1004,⟨3,none,(tM (fLt S) n k).2.1.map λz=>iv z,false⟩),(1005,⟨32,none,(tM (fLt S) n k).2.2.map λz:Nat=>uv z,false⟩),(1006,⟨3,none,(tM (fUt S) n k).1.map λz=>iv z,false⟩),(1007,⟨3,none,(tM (fUt S) n k).2.1.map λz=>iv z,false⟩),(1008,⟨32,none,(tM (fUt S) n k).2.2.map λz:Nat=>uv z,false⟩)]) (λk=>n-k) 0 (zJ _) ?_ ?_
 .refine LeM [(1001,some 15),(1002,some 18),(1003,some 19),(1004,none),(1005,none),(1006,some 20),(1007,none),(1008,none)] rfl rfl ?_;refine Zz ?_
  repeat' (with_reducible apply And.intro)
  all_goals first | rfl | exact q0G hcm clI | exact q0G rfl clI
 .intro k hk;have hkn:k*n<=100*100:=xB Oq hn;have hLk:=hLl k;have hUk:=hUl k
  by_cases hlt:k < n
  .have hL1k:=hL1 k;have hL2k:=hL2 k;have hU1k:=hU1 k;have hU2k:=hU2 k;have rk:(List.range n)[k]?=some k:=zC hlt;generalize (tM (fLt S) n k).1=ls at *;generalize (tM (fLt S) n k).2=lp at *;generalize (tM (fUt S) n k).1=us at *;generalize (tM (fUt S) n k).2=up at *;have hskip:tC (fLt S) k lp (k+1)=lp:=q8o (k+1) λc hc=>if_neg λh=>by omega
   have hstop:tC (fUt S) k up n=tC (fUt S) k up (k+1):=qcc (a:=k+1) (λc hc=>if_neg λh=>by omega) n Oq;refine wk ?_;refine q0B (λp=>k+1<=p/\p<=n) [2,4,5,6,7] [2,4,1001,1002,1003,1006,1007,1008] Lk Lk (λp:Nat=>[(8,iv p)]) (λp=>[(6,⟨63,some 8,[.ag [.ow 1001 none 0 n,.ow 1002 none 0 n,.ow 1003 none 0 ls.length,.ow 1004 none 0 (tC (fLt S) k lp p).1.length,.ow 1005 none 0 (tC (fLt S) k lp p).2.length,.ow 1006 none 0 us.length,.ow 1007 none 0 up.1.length,.ow 1008 none 0 up.2.length]],false⟩),(1004,⟨3,none,(tC (fLt S) k lp p).1.map λz=>iv z,false⟩),(1005,⟨32,none,(tC (fLt S) k lp p).2.map λz:Nat=>uv z,false⟩)]) (λp=>n-p) (k+1) ⟨zX _,hlt⟩ ?_ ?_
   .rw [hskip];refine LeM [] rfl rfl ?_;refine Zz ?_
    rfl
   .rintro p ⟨hp1,hp2⟩;have hq:=q5j (f:=fLt S) (j:=k) hLk.2.1 p
    by_cases hpl:p < n
    .obtain ⟨r,hrp⟩:∃ r,S.rows[p]?=some r:=⟨_,zA Oq⟩;have hrn:=hrl r (zG hrp);have rr:(List.range n)[r]?=some r:=zC hrn;have hgr:S.rows.getD p 0=r:=getD_some hrp;cases qb:S.iL r k with
     | true =>
      have hF:fLt S k p=some (S.l r k):=by unfold fLt; rw [hgr,if_pos ⟨ω,qb⟩]
      have eg:=qcd (p:=lp) hF;refine wk1 (x4 hrp rr rk qb) ?_;refine ⟨p+1,⟨ω,ω⟩,ω,?_⟩;rw [eg];refine LeM [(1004,some 50),(1005,some 67)] rfl rfl ?_;refine Zz ?_
      rfl
     | false =>
      have hF:fLt S k p=none:=by unfold fLt; rw [hgr,if_neg λh=>by rw [qb] at h; cases h.2]
      have eg:=qbX (p:=lp) hF;refine wk1 (x4 hrp rr rk qb) ?_;refine ⟨p+1,⟨ω,ω⟩,ω,?_⟩;rw [eg];refine LeM [] rfl rfl ?_;refine Zz ?_
      rfl
    .obtain rfl:n=p:=ω
     clear hskip hq;refine wk ?_;refine q0B (λm=>m<=k+1) [2,4,5,6,7] [2,4,1001,1002,1003,1004,1005,1006] Lk Lk (λm:Nat=>[(9,iv m)]) (λm=>[(6,⟨63,some 8,[.ag [.ow 1001 none 0 n,.ow 1002 none 0 n,.ow 1003 none 0 ls.length,.ow 1004 none 0 (tC (fLt S) k lp n).1.length,.ow 1005 none 0 (tC (fLt S) k lp n).2.length,.ow 1006 none 0 us.length,.ow 1007 none 0 (tC (fUt S) k up m).1.length,.ow 1008 none 0 (tC (fUt S) k up m).2.length]],false⟩),(1007,⟨3,none,(tC (fUt S) k up m).1.map λz=>iv z,false⟩),(1008,⟨32,none,(tC (fUt S) k up m).2.map λz:Nat=>uv z,false⟩)]) (λm=>k+1-m) 0 (zJ _) ?_ ?_
     .refine LeM [] rfl rfl ?_;refine Zz ?_;exact ⟨rfl,⟨rfl,rfl⟩,rfl,rfl⟩
     .intro m hm;have hq:=q5j (f:=fUt S) (j:=k) hUk.2.1 m
      by_cases hml:m < k+1
      .have hml':(m:Int)<=k:=ω
       have rm:(List.range n)[m]?=some m:=zC Oq;cases qb:S.iU m k with
       | true =>
        have hF:fUt S k m=some (S.u m k):=if_pos ⟨ω,qb⟩;have eg:=qcd (p:=up) hF;refine wk1 (x4 hml' rm rk qb) ?_;refine ⟨m+1,ω,ω,?_⟩;rw [eg];refine LeM [(1007,some 86),(1008,some 99)] rfl rfl ?_;refine Zz ?_
        rfl
       | false =>
        have hF:fUt S k m=none:=if_neg λh=>by rw [qb] at h; cases h.2
        have eg:=qbX (p:=up) hF;refine wk1 (x4 hml' rm rk qb) ?_;refine ⟨m+1,ω,ω,?_⟩;rw [eg];refine LeM [] rfl rfl ?_;refine Zz ?_
        rfl
      .obtain rfl:m=k+1:=ω
       have hml':¬ ((k+1:Nat):Int)<=k:=ω
       refine wk1 hml' ?_;refine ⟨k+1,ω,ω,?_⟩;rw [hL1k,hL2k,hU1k,hU2k,hstop];refine LeM [(1003,some 107),(1006,some 115)] rfl rfl ?_;refine Zz ?_
       rfl
  .obtain rfl:n=k:=ω
   exact wk trivial
end
end Go.Proofs.YtbjoghfmhgadkaaGreatDoor
namespace Go.E
open Go Go.RowKit
section
variable {T1 T2:TypeId} {K:Kd} {N R n:Nat} {row:Nat->List PV} {B B':Hp}
def q37 {i:Nat} (h1:i≠N) (h2:i≠n+R):q2B T1 T2 K N R (n+1) row B i=q2B T1 T2 K N R n row B i:=by
 unfold q2B;rw [if_neg h1,if_neg h1]
 by_cases h:R<=i/\i < R+n
 .rw [if_pos h,if_pos ω]
 .rw [if_neg h,if_neg ω]
def q2E {i:Nat} (h:B i=B' i):q2B T1 T2 K N R n row B i=q2B T1 T2 K N R n row B' i:=by
 unfold q2B; rw [h]
def q69 {j:Nat} (hj:j < n):q2B T1 T2 K N R n row B (j+R)≠none:=by
 unfold q2B
 split
 .exact zI _
 .rw [if_pos ω]; exact zI _
end
end Go.E
namespace Go.Proofs.YtbjoghfmhgadkaaGreatDoor
open Go Go.E Go.Sp
section
open Classical
def q22:LuS:=⟨[],λ_ _=>0,λ_ _=>false,λ_ _=>0,λ_ _=>false⟩
variable (F:Nat->Nat->Option Nat) (mi:List Int) (n:Nat) (cols:List Int) (num den:Nat)
noncomputable def q0i:Nat->Int × Nat × LuS
 | 0=>(0,0,q22)
 | k+1=>if (q0i k).1=0 then ((q14 F mi n (q0i k).2.2 (lfN cols k) k num den).1,if (q14 F mi n (q0i k).2.2 (lfN cols k) k num den).1=9 then k else 0,(q14 F mi n (q0i k).2.2 (lfN cols k) k num den).2) else q0i k
noncomputable def qhi:LUt:=if (q0i F mi n cols num den n).1=0 then qjq (q0i F mi n cols num den n).2.2 cols n else ⟨[],[],[],[],[],[],[],[]⟩
noncomputable def qfZ:PV:=.tu [pLU (qhi F mi n cols num den),iv (if (q0i F mi n cols num den n).1=0 then n else (q0i F mi n cols num den n).2.1:Nat),iv (q0i F mi n cols num den n).1]
end
section
variable {F:Nat->Nat->Option Nat} {mi:List Int} {n:Nat} {cols:List Int} {num den:Nat} {S r:LuS} {j k:Nat}
def q3o {g:Nat->Nat->Nat} {r c v:Nat} (h:q3D g) (h1:q0O v) (h2:v < 18446744073709551616):q3D (q28 g r c v):=λx y=>by
 unfold q28
 split
 .exact ⟨h1,h2⟩
 .exact h x y
def qc1:∀ (m:Nat) (q:LuS),q3D S.l->q3D S.u->upS F S j k m=some q->q3D q.l/\q3D q.u/\q.rows=S.rows
 | 0,q,h1,h2,h=>by unfold upS at h; cases h; exact ⟨h1,h2,rfl⟩
 | m+1,q,h1,h2,h=>by
  unfold upS at h;obtain ⟨t,ht,h⟩:=xJ.1 h;obtain ⟨q1,q2,q3⟩:=qc1 m t h1 h2 ht
  split at h
  .cases h; exact ⟨q1,q3o q2 (by assumption) q3q,q3⟩
  .cases h
def qjt {z:Nat->Int} {d:Int}:∀ (m:Nat) (q:LuS),q3D S.l->loS S k z d m=some q->q3D q.l/\q.u=S.u/\q.rows=S.rows
 | 0,q,h1,h=>by unfold loS at h; cases h; exact ⟨h1,rfl,rfl⟩
 | m+1,q,h1,h=>by
  unfold loS at h;obtain ⟨t,ht,h⟩:=xJ.1 h;obtain ⟨q1,q2,q3⟩:=qjt m t h1 ht
  split at h
  .cases h; exact ⟨q1,q2,q3⟩
  .split at h
   .cases h; exact ⟨q3o q1 (by assumption) qdL,q2,q3⟩
   .cases h
structure LuG (n k:Nat) (S:LuS):Prop where
 l:q3D S.l
 u:q3D S.u
 r:∀ x ∈ S.rows,x < n
 len:S.rows.length=k
def qn4 (h:LuG n k S) (he:q14 F mi n S j k num den=(0,r)):LuG n (k+1) r:=by
 unfold q14 at he
 split at he
 .cases he
 .rename_i q hq;obtain ⟨q1,q2,q3⟩:=qc1 k q h.l h.u hq;unfold qf0 at he
  split at he
  .rename_i hfin
   split at he
   .cases he
   .rename_i hneg
    split at he
    .cases he
    .rename_i t ht;obtain ⟨p,hp⟩:∃ p,p=(bsP (rsV F q j k) q mi num den (mxZ (rsV F q j k) n) n).toNat:=⟨_,rfl⟩;have hpn:p < n:=by have:=(qeu (v:=rsV F q j k) (S:=q) (mi:=mi) (num:=num) (den:=den) (w:=mxZ (rsV F q j k) n) n).2; omega
     rw [<- hp] at ht;have hvl:rsV F q j k p < 18446744073709551616:=by
      unfold rsV
      split
      .omega
      .exact q3q
     obtain ⟨t1,t2,t3⟩:=qjt (S:=pvS q k (rsV F q j k) p) n t q1 ht;cases he;refine ⟨t1,?_,?_,?_⟩
     .rw [t2]; exact q3o q2 (hfin p hpn) hvl
     .rw [t3];intro x hx
      rcases zN.1 hx with hx | hx
      .exact h.r x (by rw [<- q3]; exact hx)
      .simp at hx; subst hx; exact hpn
     .rw [t3]
      show (q.rows ++ [p]).length=k+1
      rw [zP,q3,h.len]; rfl
  .cases he
def q4U:∀ k,(q0i F mi n cols num den k).1=0->LuG n k (q0i F mi n cols num den k).2.2
 | 0,_=>⟨λ_ _=>⟨by unfold q0O; simp [q0i,q22],by simp [q0i,q22]⟩,λ_ _=>⟨by unfold q0O; simp [q0i,q22],by simp [q0i,q22]⟩,λx hx=>by simp [q0i,q22] at hx,rfl⟩
 | k+1,h=>by
  unfold q0i at h ⊢
  split at h
  .rename_i h0;rw [if_pos h0];have ih:=q4U k h0;exact qn4 ih (Prod.ext h rfl)
  .rename_i h0; exact absurd h h0
def q6x {k:Nat} (h:(q0i F mi n cols num den k).1≠0):∀ k',k<=k'->q0i F mi n cols num den k'=q0i F mi n cols num den k
 | 0,hk=>by
  obtain rfl:k=0:=ω
  rfl
 | k'+1,hk=>by
  by_cases e:k=k'+1
  .subst e; rfl
  .have ih:=q6x h k' Oq;rw [q0i,ih,if_neg h]
def quI:(q14 F mi n S j k num den).1=0\/(q14 F mi n S j k num den).1=233\/(q14 F mi n S j k num den).1=9:=by
 unfold q14
 split
 .exact .inr (.inl rfl)
 .unfold qf0
  split
  .split
   .exact .inr (.inr rfl)
   .split
    .exact .inr (.inl rfl)
    .exact .inl rfl
  .exact .inr (.inl rfl)
def q2X (n a b c d:Nat):Hp:=q2B 24 32 none 6000 10000 a (rU n λ_ _=>0) (q2B 134 4 none 6001 20000 b (rB n λ_ _=>false) (q2B 24 32 none 6002 30000 c (rU n λ_ _=>0) (q2B 134 4 none 6003 40000 d (rB n λ_ _=>false) h0)))
def qq8:q2X n n n n n=stT n q22:=rfl
variable {a b c d:Nat}
def q4L (ha:a<=100) (hb:b<=100) (hc:c<=100) (hd:d<=100):BOk (q2X n a b c d) win:=by
 unfold q2X;have w:∀ R j m:Nat,5000<=R->R<=40000->m<=100->j < m->win (j+R):=λR j m h1 h2 h3 h4=>⟨ω,ω⟩;exact q2g (q2g (q2g (q2g BOk.h0 (λ_ _=>qcM) Oq ⟨⟨ω,ω⟩,λj hj=>w _ j _ Oq Oq hd hj⟩) (λ_ _=>qcL) Oq ⟨⟨ω,ω⟩,λj hj=>w _ j _ Oq Oq hc hj⟩) (λ_ _=>qcM) Oq ⟨⟨ω,ω⟩,λj hj=>w _ j _ Oq Oq hb hj⟩) (λ_ _=>qcL) Oq ⟨⟨ω,ω⟩,λj hj=>w _ j _ Oq Oq ha hj⟩
def q6c {q:Nat->Prop} (hq:∀ i,10000<=i->q i):HId q (q2X n a b c d):=by
 unfold q2X;exact qif (qif (qif (qif HId_0 (λ_ _=>qcM) λj _=>hq _ Oq) (λ_ _=>qcL) λj _=>hq _ Oq) (λ_ _=>qcM) λj _=>hq _ Oq) (λ_ _=>qcL) λj _=>hq _ Oq
def qlX {i:Nat} (hi:i < 6000):q2X n a b c d i=none:=by
 unfold q2X;rw [q0L ω ω,q0L ω ω,q0L ω ω,q0L ω ω]
 rfl
def qcp (ha:a<=100) (hb:b<=100) (hc:c<=100):q2X n a b c d 6000=some ⟨24,none,(List.range a).map λj=>.ow (j+10000) none 0 n,false⟩:=by
 unfold q2X; rw [q1k]; simp
def qco (ha:a<=100) (hb:b<=100) (hc:c<=100):q2X n a b c d 6001=some ⟨134,none,(List.range b).map λj=>.ow (j+20000) none 0 n,false⟩:=by
 unfold q2X; rw [q0L ω ω,q1k]; simp
def qcn (ha:a<=100) (hb:b<=100) (hc:c<=100):q2X n a b c d 6002=some ⟨24,none,(List.range c).map λj=>.ow (j+30000) none 0 n,false⟩:=by
 unfold q2X; rw [q0L ω ω,q0L ω ω,q1k]; simp
def qcm (ha:a<=100) (hb:b<=100) (hc:c<=100):q2X n a b c d 6003=some ⟨134,none,(List.range d).map λj=>.ow (j+40000) none 0 n,false⟩:=by
 unfold q2X; rw [q0L ω ω,q0L ω ω,q0L ω ω,q1k]; simp
def qr4 {j:Nat}:List.replicate n (PV.vl (.int .u64 0))=rU n (λ_ _=>0) j:=by
 unfold rU;rw [yZ,z7]; rfl
def qr5 {j:Nat}:List.replicate n (PV.vl (.bool false))=rB n (λ_ _=>false) j:=by
 unfold rB;rw [yZ,z7]
def tnS (o i:Nat):Option Nat:=if i=5000 then some o else if i=5001 then none else some i
def qqE {o i:Nat} (h:i < 5000):tnS o i=some i:=by unfold tnS; rw [if_neg ω,if_neg ω]
def q5i {o i:Nat} (h:6000<=i):tnS o i=some i:=by unfold tnS; rw [if_neg ω,if_neg ω]
def qqF {o:Nat}:tnS o 5000=some o:=rfl
def qlJ {o:Nat}:tnS o 5001=none:=rfl
attribute [go_sem ↓] qqE qqF qlJ
def qfs {J:Nat->Prop} {s:Nat->PV} {h:Hp} {xs kv:List (Nat × PV)} {bs:List (Nat × Bk)} {kb:List (Nat × Option Bk)} {o:Nat} (hn:n<=100) (hS:S.rows=[]) (hJ:∀ i,¬ J i) (hq:∀ i,6000<=i->win i->h i=stT n S i) (h0:h o=some ⟨133,some 5,[.ag [q0T,.ow 6000 none 0 n,.ow 6001 none 0 n,.ow 6002 none 0 n,.ow 6003 none 0 n]],false⟩) (ho:o < 5000) (hl:nmW o o (bs.map (·.1) ++ kb.map (·.1)))
  (hh:q57 (tnS o) h (q0o (q0n n S 5001) (hpM bs kb)) s xs/\q57 (tnS o) h (q0o (q0n n S 5001) (hpM bs kb)) s kv/\q87 (tnS o) h (q0o (q0n n S 5001) (hpM bs kb)) bs/\q9e (tnS o) h (q0o (q0n n S 5001) (hpM bs kb)) kb):Le J s h (stM xs kv) (q0o (q0n n S 5001) (hpM bs kb)):=by
 have hl:=λi hi=>q6j hl i hi;have hex:∀ i,win i->∀ b,q0n n S 5001 i=some b->∃ b,q0o (q0n n S 5001) (hpM bs kb) i=some b:=λi hi b hb=>⟨b,by rw [q0P hi]; exact hb⟩;refine LeT (tnS o) (λi q=>(hJ i q).elim) (λi hi hw=>?_) (λi b hw hb=>?_) (λi j k' hi hj ti tj=>?_) hh
 .have:=(hl i hi).1; unfold win at hw; omega
 .have hb2:=hb;unfold q0n q0S at hb
  split at hb
  .rename_i e; subst e; cases hb;unfold LeB;rw [qlJ,hS]
   rfl
  .rename_i e
   split at hb
   .rename_i e2; subst e2; cases hb;unfold LeB;rw [qqF];refine ⟨_,h0,rfl,rfl,⟨rfl,rfl⟩,?_⟩;unfold q2h;simp only;rw [q7S];obtain ⟨q1,q2,q3,q4⟩:=ql2 (S:=S) hn;have hx:∀ i,6000<=i->win i->stT n S i≠none->∃ b,q0o (q0n n S 5001) (hpM bs kb) i=some b:=λi hi hw hq=>by
     obtain ⟨b,hb⟩:=zE.1 hq;exact hex i hw b (by unfold q0n; rw [q0A ω,q0A ω]; exact hb)
    rw [qbI,q2R,q2R,q2R,q2R,q2R,qkg,q3L,q3L,q3L,q3L,qlJ,q5i ω,q5i ω,q5i ω,q5i ω,hS];exact ⟨⟨rfl,⟨_,by rw [q0P ⟨ω,ω⟩]; exact q0K,rfl⟩,rfl,rfl⟩,⟨rfl,hx _ ω ⟨ω,ω⟩ q1,rfl,rfl,rfl⟩,⟨rfl,hx _ ω ⟨ω,ω⟩ q2,rfl,rfl,rfl⟩,⟨rfl,hx _ ω ⟨ω,ω⟩ q3,rfl,rfl,rfl⟩,⟨rfl,hx _ ω ⟨ω,ω⟩ q4,rfl,rfl,rfl⟩,trivial⟩
   .obtain ⟨q1,q2,q3⟩:=(q7b hn).b i b hb;have hi6:=q9u hb;unfold LeB;rw [q5i hi6];refine ⟨b,(hq i hi6 hw).trans hb,rfl,rfl,⟨q2,q2⟩,LeL_self (λj hj=>?_) _ q3⟩;obtain ⟨c,hc⟩:=zE.1 hj;have hj6:=q9u hc;exact ⟨q5i hj6,hex j ((q7b hn).b j c hc).1 c (by unfold q0n; rw [q0A ω,q0A ω]; exact hc)⟩
 .have a:∀ i,(win i/\q0n n S 5001 i≠none\/i ∈ bs.map (·.1) ++ kb.map (·.1))->i≠o:=λi hi=>by
   rcases hi with ⟨q,hi⟩ | hi
   .unfold win at q; omega
   .exact (hl i hi).2.1
  have a1:=a i hi;have a2:=a j hj;unfold tnS at ti tj
  split at ti <;> (try split at ti) <;> split at tj <;> (try split at tj) <;> cases ti <;> cases tj <;> first | omega | rfl | exact (a1 rfl).elim | exact (a2 rfl).elim
def ql4 {τ:Nat->Option Nat} {h h':Hp} (hn:n<=100) (hq:Wn h (q0n n S 5001)) (ht:∀ i j,τ i=some j->5000 < j->win j->h' i=none):LeV τ h h' (.ow 5001 none 0 S.rows.length) (pRw S.rows)/\LeV τ h h' (.ow 6000 none 0 n) (tU n S.l)/\LeV τ h h' (.ow 6001 none 0 n) (tB n S.iL)/\LeV τ h h' (.ow 6002 none 0 n) (tU n S.u)/\LeV τ h h' (.ow 6003 none 0 n) (tB n S.iU):=by
 have hT:∀ i,6000<=i->win i->h i=stT n S i:=λi h1 h2=>by
  rw [hq i h2];unfold q0n;rw [q0A ω,q0A ω]
 have w:∀ R j:Nat,5000<=R->R<=40000->j < n->win (j+R):=λR j h1 h2 h3=>⟨ω,ω⟩;refine ⟨q1A (T:=3) (l:=S.rows.map λz:Nat=>iv z) ((hq 5001 ⟨ω,ω⟩).trans q0K) clRw (λi hi=>ht i _ hi ω ⟨ω,ω⟩) (by rw [List.drop_zero]; exact yE σ),?_,?_,?_,?_⟩
 .exact q68 (λ_=>n) ((hT _ ω ⟨ω,ω⟩).trans (qjN hn)) (λj hj=>⟨(hT _ ω (w _ j ω ω hj)).trans (qjJ hn hj),qcL,σ⟩) λi j hi hj=>ht i j hi ω ⟨ω,ω⟩
 .exact q68 (λ_=>n) ((hT _ ω ⟨ω,ω⟩).trans (qjM hn)) (λj hj=>⟨(hT _ ω (w _ j ω ω hj)).trans (qjI hn hj),qcM,σ⟩) λi j hi hj=>ht i j hi ω ⟨ω,ω⟩
 .exact q68 (λ_=>n) ((hT _ ω ⟨ω,ω⟩).trans (qjL hn)) (λj hj=>⟨(hT _ ω (w _ j ω ω hj)).trans (qjH hn hj),qcL,σ⟩) λi j hi hj=>ht i j hi ω ⟨ω,ω⟩
 .exact q68 (λ_=>n) ((hT _ ω ⟨ω,ω⟩).trans (qjK hn)) (λj hj=>⟨(hT _ ω (w _ j ω ω hj)).trans (qjG hn hj),qcM,σ⟩) λi j hi hj=>ht i j hi ω ⟨ω,ω⟩
def tnW (i:Nat):Option Nat:=if 5000<=i/\i < 1000000 then none else some i
def qqC {i:Nat} (h:i < 5000):tnW i=some i:=if_neg Oq
def qis {i:Nat} (h1:5000<=i) (h2:i < 1000000):tnW i=none:=if_pos ⟨h1,h2⟩
attribute [go_sem ↓] qqC qis
def qlW {i:Nat} {x:Bk} (hb:q2X n 0 0 0 0 i=some x):x.xs=[]:=by
 unfold q2X at hb
 rcases q2D hb with ⟨rfl,rfl⟩ | ⟨_,h1,h2,_⟩ | ⟨_,_,hb⟩
 .rfl
 .omega
 rcases q2D hb with ⟨rfl,rfl⟩ | ⟨_,h1,h2,_⟩ | ⟨_,_,hb⟩
 .rfl
 .omega
 rcases q2D hb with ⟨rfl,rfl⟩ | ⟨_,h1,h2,_⟩ | ⟨_,_,hb⟩
 .rfl
 .omega
 rcases q2D hb with ⟨rfl,rfl⟩ | ⟨_,h1,h2,_⟩ | ⟨_,_,hb⟩
 .rfl
 .omega
 .cases hb
def qmm {H:Hp}:WfH (q7Z H):=⟨λi b hb=>by
 unfold q7Z at hb;obtain ⟨c,_,rfl⟩:=uZ.1 hb;exact ⟨rfl,IdL.of λx hx=>by
  obtain ⟨_,_,rfl⟩:=zR.1 hx;unfold IdP; trivial⟩⟩
attribute [go_sem ↓] qlX qcp qco qcn qcm
end
section
variable {F:Nat->Nat->Option Nat} {n:Nat} {cols:List Int} {num den:Nat}
def qaZ (h:TOk F n n) (hn:n<=100) (hp:q4E cols n) (hnd:num<=den) (hd1:1<=den) (hd:den<=1000):ACt 28 [pT n n F,pI cols,iv num,iv den] (qfZ F (tM F n n).2.1 n cols num den):=by
 have hll:cols.length=n:=by have:=hp.1; omega
 have hlf:∀ i,i < n->∃ x:Nat,cols[i]?=some (x:Int)/\lfN cols i=x/\x < n:=λi hi=>by
  obtain ⟨x,hx⟩:∃ x,cols[i]?=some x:=⟨_,zA Oq⟩;have:=hp.2.1 x (zG hx);obtain ⟨y,rfl⟩:∃ y:Nat,x=y:=⟨x.toNat,ω⟩;exact ⟨y,hx,q9N hx,ω⟩
 have cS:=qbT h hp;have cC:=λ{S:LuS} {k j:Nat} (h1:LuG n k S) (h2:k < n) (h3:j < n)=>qiA (F:=F) (S:=S) (num:=num) (den:=den) h hn h1.l h1.u h1.r h1.len h2 h3 Oq hd;have hC:=Hid.mk @cC;clear cC;have hpl:pT n n F=q3G n n (tM F n n).1 (tM F n n).2.1 (tM F n n).2.2:=rfl;rw [hpl] at cS ⊢;simp only [hpl] at hC;clear hpl;unfold q3G at cS hC ⊢;generalize (tM F n n).1=ms at *;generalize (tM F n n).2.1=mi at *;generalize (tM F n n).2.2=mv at *;have hG:=λk=>q4U (F:=F) (mi:=mi) (n:=n) (cols:=cols) (num:=num) (den:=den) k;have hE:=λk=>@q6x F mi n cols num den k;have hs:=λk=>show q0i F mi n cols num den (k+1)=if (q0i F mi n cols num den k).1=0 then ((q14 F mi n (q0i F mi n cols num den k).2.2 (lfN cols k) k num den).1,if (q14 F mi n (q0i F mi n cols num den k).2.2 (lfN cols k) k num den).1=9 then k else 0,(q14 F mi n (q0i F mi n cols num den k).2.2 (lfN cols k) k num den).2) else q0i F mi n cols num den k from rfl
 have h0:q0i F mi n cols num den 0=(0,0,q22):=rfl;unfold qfZ qhi;generalize q0i F mi n cols num den=C at *;have q1:¬ (num:Int) < 0:=ω
 have q2:¬ (num:Int) > den:=ω
 have q3:¬ (den:Int) < 1:=ω
 have q4:¬ (den:Int) > 1000:=ω
 refine ac0 Tryz.func28 Tryz.ntmps28 [.cell 8 63,.tmp 9,.tmp 10] ?_;refine wk1 (x4 q1 q2 q3 q4) ?_;refine q1h (LeT (hw:=q2X n 0 0 0 0) tnW (λ_ h=>h.elim) (λi hi hw=>?_) (λi b hw hb=>?_) (λi j x hi hj ti tj=>?_) (xs:=[(1,pI cols),(2,iv num),(3,iv den),(4,.pt 4 0 0),(8,.pt 8 0 0),(9,iv 0),(10,iv 0),(12,iv n),(13,.pt 13 0 0),(14,iv 0)]) (kv:=[]) (bs:=[(4,⟨26,some 5,[.ag [iv n,iv n,pI ms,pI mi,pF mv]],false⟩),(8,⟨63,some 8,[.ag [q0T,q0T,q0T,q0T,q0T,q0T,q0T,q0T]],false⟩),(13,⟨133,some 5,[.ag [q0T,.ow 6000 none 0 0,.ow 6001 none 0 0,.ow 6002 none 0 0,.ow 6003 none 0 0]],false⟩)]) (kb:=[]) ?_) ?_
 .simp at hi;unfold win at hw;omega
 .unfold LeB;rw [qis hw.1 hw.2];exact qlW hb
 .unfold tnW at ti tj
  split at ti <;> split at tj <;> cases ti <;> cases tj <;> rfl
 .try simp -implicitDefEqProofs (disch:=omega) only [go_sem,Nat.reduceEqDiff,Nat.reduceAdd,↓reduceIte]
 refine q0g (λt=>t<=n) [1,2,3,4,8,9,10,12,13] [4,8] Lk Lk (λt:Nat=>[(14,iv t)]) (λt=>[(13,⟨133,some 5,[.ag [q0T,.ow 6000 none 0 t,.ow 6001 none 0 t,.ow 6002 none 0 t,.ow 6003 none 0 t]],false⟩)]) (λt=>q2X n t t t t) (λt=>n-t) 0 (zJ _) ?_ ?_
 .refine LeW [] rfl rfl ?_ ?_ (by simp [q1W,q0Z,win]) ?_
  .exact Ow
  .exact q04 (q4L Oq Oq Oq Oq)
  .try refine Zz ?_
   rfl
 .intro t ht
  by_cases hlt:t < n
  .have hlt':(t:Int) < n:=ω
   have hHn:=Hid.mk hn;clear hn;refine wk1 hlt' ?_;have hn:=hHn.o;refine A_sd [(1,3),(1,4)] q3f κ λK hK=>?_;refine Zz1 @List.length_range ?_;refine hK _ _ ?_; clear hK K;refine q1h (q6Z (T1:=24) (T2:=32) (K:=none) (N:=6000) (R:=10000) (n:=t) (o:=52) (r:=50) (l:=(rU n λ_ _=>0) t) (hw:=q2X n t t t t) (hw':=q2X n (t+1) t t t) (λ_ h=>h) qcL (λ_=>n) ?_ ?_ (λi h1 h2=>?_) (qcp Oq Oq Oq) ?_ (λi h1 h2=>q37 h1 h2) (λj hj=>by
    unfold q2X;exact q69 ω) (q4L ω ω ω ω) (q6c λi hi=>by omega) ?_ ω ω ω ω ω ω (xs:=[(1,pI cols),(2,iv num),(3,iv den),(4,.pt 4 0 0),(8,.pt 8 0 0),(9,iv 0),(10,iv 0),(12,iv n),(13,.pt 13 0 0),(14,iv t)]) (kv:=[]) (bs:=[(4,⟨26,some 5,[.ag [iv n,iv n,pI ms,pI mi,pF mv]],false⟩),(8,⟨63,some 8,[.ag [q0T,q0T,q0T,q0T,q0T,q0T,q0T,q0T]],false⟩),(13,⟨133,some 5,[.ag [q0T,.ow 6000 none 0 (t+1),.ow 6001 none 0 t,.ow 6002 none 0 t,.ow 6003 none 0 t]],false⟩)]) (kb:=[]) (by simp [nmW]) ?_) ?_
   .try simp -implicitDefEqProofs (disch:=omega) only [go_sem,Nat.reduceEqDiff,Nat.reduceAdd,↓reduceIte]
   .try refine Zz ?_
    rw [qr4 (j:=t)]
   .obtain ⟨w1,w2⟩:=h1
    repeat rw [q0A ω]
    rw [q0P ⟨w1,w2⟩]
   .unfold q2X;rw [q1a ω ω]
   .unfold q2X;rw [q0L ω ω,q0L ω ω,q0L ω ω,q0L ω ω]
    rfl
   .try simp -implicitDefEqProofs (disch:=omega) only [go_sem,Nat.reduceEqDiff,Nat.reduceAdd,↓reduceIte]
   refine A_sd [(1,3),(1,4)] q3f κ λK hK=>?_;refine Zz1 @List.length_range ?_;refine hK _ _ ?_; clear hK K;refine q1h (q6Z (T1:=134) (T2:=4) (K:=none) (N:=6001) (R:=20000) (n:=t) (o:=59) (r:=57) (l:=(rB n λ_ _=>false) t) (hw:=q2X n (t+1) t t t) (hw':=q2X n (t+1) (t+1) t t) (λ_ h=>h) qcM (λ_=>n) ?_ ?_ (λi h1 h2=>?_) (qco Oq Oq Oq) ?_ (λi h1 h2=>q2E (q37 h1 h2)) (λj hj=>by
    unfold q2X;rw [q0L ω ω];exact q69 ω) (q4L ω ω ω ω) (q6c λi hi=>by omega) ?_ ω ω ω ω ω ω (xs:=[(1,pI cols),(2,iv num),(3,iv den),(4,.pt 4 0 0),(8,.pt 8 0 0),(9,iv 0),(10,iv 0),(12,iv n),(13,.pt 13 0 0),(14,iv t)]) (kv:=[]) (bs:=[(4,⟨26,some 5,[.ag [iv n,iv n,pI ms,pI mi,pF mv]],false⟩),(8,⟨63,some 8,[.ag [q0T,q0T,q0T,q0T,q0T,q0T,q0T,q0T]],false⟩),(13,⟨133,some 5,[.ag [q0T,.ow 6000 none 0 (t+1),.ow 6001 none 0 (t+1),.ow 6002 none 0 t,.ow 6003 none 0 t]],false⟩)]) (kb:=[]) (by simp [nmW]) ?_) ?_
   .try simp -implicitDefEqProofs (disch:=omega) only [go_sem,Nat.reduceEqDiff,Nat.reduceAdd,↓reduceIte]
   .try refine Zz ?_
    rw [qr5 (j:=t)]
   .obtain ⟨w1,w2⟩:=h1
    repeat rw [q0A ω]
    rw [q0P ⟨w1,w2⟩]
   .unfold q2X;rw [q0L ω ω,q1a ω ω]
   .unfold q2X;rw [q0L ω ω,q0L ω ω,q0L ω ω,q0L ω ω]
    rfl
   .try simp -implicitDefEqProofs (disch:=omega) only [go_sem,Nat.reduceEqDiff,Nat.reduceAdd,↓reduceIte]
   refine A_sd [(1,3),(1,4)] q3f κ λK hK=>?_;refine Zz1 @List.length_range ?_;refine hK _ _ ?_; clear hK K;refine q1h (q6Z (T1:=24) (T2:=32) (K:=none) (N:=6002) (R:=30000) (n:=t) (o:=66) (r:=64) (l:=(rU n λ_ _=>0) t) (hw:=q2X n (t+1) (t+1) t t) (hw':=q2X n (t+1) (t+1) (t+1) t) (λ_ h=>h) qcL (λ_=>n) ?_ ?_ (λi h1 h2=>?_) (qcn Oq Oq Oq) ?_ (λi h1 h2=>q2E (q2E (q37 h1 h2))) (λj hj=>by
    unfold q2X;rw [q0L ω ω];rw [q0L ω ω];exact q69 ω) (q4L ω ω ω ω) (q6c λi hi=>by omega) ?_ ω ω ω ω ω ω (xs:=[(1,pI cols),(2,iv num),(3,iv den),(4,.pt 4 0 0),(8,.pt 8 0 0),(9,iv 0),(10,iv 0),(12,iv n),(13,.pt 13 0 0),(14,iv t)]) (kv:=[]) (bs:=[(4,⟨26,some 5,[.ag [iv n,iv n,pI ms,pI mi,pF mv]],false⟩),(8,⟨63,some 8,[.ag [q0T,q0T,q0T,q0T,q0T,q0T,q0T,q0T]],false⟩),(13,⟨133,some 5,[.ag [q0T,.ow 6000 none 0 (t+1),.ow 6001 none 0 (t+1),.ow 6002 none 0 (t+1),.ow 6003 none 0 t]],false⟩)]) (kb:=[]) (by simp [nmW]) ?_) ?_
   .try simp -implicitDefEqProofs (disch:=omega) only [go_sem,Nat.reduceEqDiff,Nat.reduceAdd,↓reduceIte]
   .try refine Zz ?_
    rw [qr4 (j:=t)]
   .obtain ⟨w1,w2⟩:=h1
    repeat rw [q0A ω]
    rw [q0P ⟨w1,w2⟩]
   .unfold q2X;rw [q0L ω ω,q0L ω ω,q1a ω ω]
   .unfold q2X;rw [q0L ω ω,q0L ω ω,q0L ω ω,q0L ω ω]
    rfl
   .try simp -implicitDefEqProofs (disch:=omega) only [go_sem,Nat.reduceEqDiff,Nat.reduceAdd,↓reduceIte]
   refine A_ld [(1,3),(1,4)] q3f κ λK9 hK9=>?_;refine Zz1 @List.length_range ?_;refine hK9 _ _ ?_; clear hK9 K9
   repeat (first | refine i_n ?_ | refine q_n ?_)
   refine q1h (q6Z (T1:=134) (T2:=4) (K:=none) (N:=6003) (R:=40000) (n:=t) (o:=73) (r:=71) (l:=(rB n λ_ _=>false) t) (hw:=q2X n (t+1) (t+1) (t+1) t) (hw':=q2X n (t+1) (t+1) (t+1) (t+1)) (λ_ h=>h) qcM (λ_=>n) ?_ ?_ (λi h1 h2=>?_) (qcm Oq Oq Oq) ?_ (λi h1 h2=>q2E (q2E (q2E (q37 h1 h2)))) (λj hj=>by
    unfold q2X;rw [q0L ω ω];rw [q0L ω ω];rw [q0L ω ω];exact q69 ω) (q4L ω ω ω ω) (q6c λi hi=>by omega) ?_ ω ω ω ω ω ω (xs:=[(1,pI cols),(2,iv num),(3,iv den),(4,.pt 4 0 0),(8,.pt 8 0 0),(9,iv 0),(10,iv 0),(12,iv n),(13,.pt 13 0 0),(14,iv t)]) (kv:=[]) (bs:=[(4,⟨26,some 5,[.ag [iv n,iv n,pI ms,pI mi,pF mv]],false⟩),(8,⟨63,some 8,[.ag [q0T,q0T,q0T,q0T,q0T,q0T,q0T,q0T]],false⟩),(13,⟨133,some 5,[.ag [q0T,.ow 6000 none 0 (t+1),.ow 6001 none 0 (t+1),.ow 6002 none 0 (t+1),.ow 6003 none 0 (t+1)]],false⟩)]) (kb:=[]) (by simp [nmW]) ?_) ?_
   .try simp -implicitDefEqProofs (disch:=omega) only [go_sem,Nat.reduceEqDiff,Nat.reduceAdd,↓reduceIte]
   .try refine Zz ?_
    rw [qr5 (j:=t)]
   .obtain ⟨w1,w2⟩:=h1
    repeat rw [q0A ω]
    rw [q0P ⟨w1,w2⟩]
   .unfold q2X;rw [q0L ω ω,q0L ω ω,q0L ω ω,q1a ω ω]
   .unfold q2X;rw [q0L ω ω,q0L ω ω,q0L ω ω,q0L ω ω]
    rfl
   .try simp -implicitDefEqProofs (disch:=omega) only [go_sem,Nat.reduceEqDiff,Nat.reduceAdd,↓reduceIte]
   refine wk ?_;refine ⟨t+1,ω,ω,?_⟩;refine LeW [] rfl rfl ?_ ?_ (by simp [q1W,q0Z,win]) ?_
   .exact Ow
   .exact q04 (q4L Oq Oq Oq Oq)
   .try refine Zz ?_
    rfl
  .obtain rfl:n=t:=ω
   have hlt':¬ (n:Int) < n:=ω
   refine wk1 hlt' ?_;refine q1h (qfs (S:=q22) (o:=13) hn rfl (λ_ h=>h) (λi h6 hw=>?_) ?_ ω (xs:=[(1,pI cols),(2,iv num),(3,iv den),(4,.pt 4 0 0),(8,.pt 8 0 0),(9,iv 0),(10,iv 0),(12,iv n),(13,.pt 5000 0 0),(15,iv 0)]) (kv:=[]) (bs:=[(4,⟨26,some 5,[.ag [iv n,iv n,pI ms,pI mi,pF mv]],false⟩),(8,⟨63,some 8,[.ag [q0T,q0T,q0T,q0T,q0T,q0T,q0T,q0T]],false⟩)]) (kb:=[]) (by simp [nmW]) ?_) ?_
   .rw [q0P hw,qq8]
   .try simp -implicitDefEqProofs (disch:=omega) only [go_sem,Nat.reduceEqDiff,Nat.reduceAdd,↓reduceIte]
   .try simp -implicitDefEqProofs (disch:=omega) only [go_sem,Nat.reduceEqDiff,Nat.reduceAdd,↓reduceIte]
   refine q0g (λk=>k<=n/\(C k).1=0) [1,2,3,4,8,9,10,12,13] [4,8] Lk Lk (λk:Nat=>[(15,iv k)]) (λ_=>[]) (λk=>q0n n (C k).2.2 5001) (λk=>n-k) 0 ⟨zJ _,by rw [h0]⟩ ?_ ?_
   .rw [h0];refine LeW [] rfl rfl ?_ ?_ (by simp [q1W,q0Z,win]) ?_
    .exact Ow
    .exact q04 (q05 hn Oq Oq)
    .try refine Zz ?_
     rfl
   .rintro k ⟨hk,hk0⟩;have hGk:=hG k hk0
    by_cases hkn:k < n
    .have hkn':(k:Int) < n:=ω
     obtain ⟨x,hx,hx2,hx3⟩:=hlf k hkn;have hsk:=hs k;rw [if_pos hk0,hx2] at hsk;have hEk:=hE (k+1);have cX:=hC.o hGk hkn hx3;have hce:=quI (F:=F) (mi:=mi) (n:=n) (S:=(C k).2.2) (j:=x) (k:=k) (num:=num) (den:=den);obtain ⟨e,he⟩:∃ e,e=(q14 F mi n (C k).2.2 x k num den).1:=⟨_,rfl⟩;have hcO:quJ F mi n (C k).2.2 x k num den=if e=0 then q0n n (q14 F mi n (C k).2.2 x k num den).2 5002 else q7Z (q70 (q0n n (C k).2.2 5001) 5001):=by rw [he]; rfl
     generalize quJ F mi n (C k).2.2 x k num den=O at *;rw [<- he] at hce hsk cX;generalize (q14 F mi n (C k).2.2 x k num den).2=r at *;generalize (C k).2.2=S at *;have hgo:∀ i,q8b (q0n n S 5001) O i->i=5001:=λi ⟨h1,h2,h3⟩=>by
      refine Classical.byContradiction λhi=>h2 ?_;have hS:i≠5000/\stT n S i=none->q0n n S 5001 i=none:=λh=>by unfold q0n; rw [q0A hi,q0A h.1]; exact h.2
      rw [hcO] at h3
      split at h3
      .obtain ⟨q1,q2,q3⟩:=ql3 h3;exact hS ⟨q2,qqa q3⟩
      .unfold q7Z q70 at h3;rw [if_neg hi] at h3;exact Option.map_eq_none_iff.1 h3
     have hO5:∃ b,O 5000=some b:=by
      rw [hcO]
      split
      .exact ⟨_,by unfold q0n; rw [q0A ω,q0K]⟩
      .exact ⟨_,by unfold q7Z q70 q0n; rw [if_neg ω,q0A ω,q0K]; rfl⟩
     have hwO:WfH O:=by
      rw [hcO]
      split
      .exact q04 (q05 hn Oq Oq)
      .exact qmm
     refine wk1 hkn' ?_;refine A_jW [(1,pI cols),(2,iv num),(3,iv den),(4,.pt 4 0 0),(8,.pt 8 0 0),(9,iv 0),(10,iv 0),(12,iv n),(13,.pt 5000 0 0),(15,iv k),(16,iv e)] [(4,⟨26,some 5,[.ag [iv n,iv n,pI ms,pI mi,pF mv]],false⟩),(8,⟨63,some 8,[.ag [q0T,q0T,q0T,q0T,q0T,q0T,q0T,q0T]],false⟩)] O ?_ λK0 fin=>?_
     rotate_left
     .refine qfV q3f (.one 1 (.one 2 (.one 3 (.one 5 (.one 6 (.one 7 (.alt (.one 0 (.one 4 (.one 8 (.one 9 .fin)))) (.one 4 (.one 0 (.one 8 (.one 9 .fin))))))))))) κ λK9 hK9=>?_;refine Zz1 hx ?_;refine ⟨?_,?_⟩
      .refine jx cX q2A (λ_ h=>h.elim) (qwk (a:=5001) hgo ?_ ?_) ?_
       .repeat (refine q6Q ?_ (by first | (unfold IdP; first | trivial | omega) | simp [IdP,IdL]))
        exact λt=>by unfold stV IdP; trivial
       .repeat (refine q6T ?_ rfl (by simp [IdL,IdP]))
        exact qcG (q9f (by simp [IdL,IdP]) σ)
       .try refine Zz ?_
        refine hK9 _ _ (fin _ _ ?_);refine LeW [] rfl rfl ?_ ?_ (by simp [q1W,q0Z,win]) ?_
        .exact Ow
        .exact hwO
        .try refine Zz ?_
         exact hO5
      .refine jx cX q2A (λ_ h=>h.elim) (qwk (a:=5001) hgo ?_ ?_) ?_
       .repeat (refine q6Q ?_ (by first | (unfold IdP; first | trivial | omega) | simp [IdP,IdL]))
        exact λt=>by unfold stV IdP; trivial
       .repeat (refine q6T ?_ rfl (by simp [IdL,IdP]))
        exact qcG (q9f (by simp [IdL,IdP]) σ)
       .try refine Zz ?_
        refine hK9 _ _ (fin _ _ ?_);refine LeW [] rfl rfl ?_ ?_ (by simp [q1W,q0Z,win]) ?_
        .exact Ow
        .exact hwO
        .try refine Zz ?_
         exact hO5
     .have herr:e≠0->C n=(e,if e=9 then k else 0,r):=λh=>by rw [hEk (by rw [hsk]; exact h) n ω,hsk]
      by_cases e0:e=0
      .subst e0;rw [if_pos rfl] at hcO;subst hcO;have hskr:(C (k+1)).2.2=r:=by rw [hsk]
       have hGr:=hG (k+1) (by rw [hsk]);rw [hskr] at hGr;refine q1h (q9v (S:=r) (o:=5002) (r:=5001) hn ω ω (λ_ h=>h.elim) (λi h6 hw=>?_) ?_ ?_ (.inr ω) (xs:=[(1,pI cols),(2,iv num),(3,iv den),(4,.pt 4 0 0),(8,.pt 8 0 0),(9,iv 0),(10,iv 0),(12,iv n),(13,.pt 5000 0 0),(15,iv k),(16,iv 0)]) (kv:=[]) (bs:=[(4,⟨26,some 5,[.ag [iv n,iv n,pI ms,pI mi,pF mv]],false⟩),(8,⟨63,some 8,[.ag [q0T,q0T,q0T,q0T,q0T,q0T,q0T,q0T]],false⟩)]) (kb:=[]) (by simp [nmW]) ?_) ?_
       .rw [q0P hw];unfold q0n;rw [q0A ω,q0A ω]
       .rw [q0P ⟨ω,ω⟩];unfold q0n;rw [q0A ω,q0K]
       .rw [q0P ⟨ω,ω⟩];unfold q0n;rw [q0K]
       .try simp -implicitDefEqProofs (disch:=omega) only [go_sem,Nat.reduceEqDiff,Nat.reduceAdd,↓reduceIte]
       have b1:((0:Int) == 9)=false:=rfl;have b2:((0:Int) != 0)=false:=rfl;refine wk1 (x2 b1 b2) ?_;refine ⟨k+1,⟨ω,by rw [hsk]⟩,ω,?_⟩;rw [hskr];refine LeW [] rfl rfl ?_ ?_ (by simp [q1W,q0Z,win]) ?_
       .exact Ow
       .exact q04 (q05 hn Oq Oq)
       .try refine Zz ?_
        first | rfl | exact Int.natCast_succ k | (push_cast; rfl) | simp
      .have hne:=herr e0;rw [hne];simp only;rw [if_neg e0,if_neg e0];unfold pLU;dsimp only
       by_cases e9:e=9
       .have b1:(e == 9)=true:=by simpa using e9
        rw [if_pos e9];exact wk1 b1 trivial
       .have b1:(e == 9)=false:=by simpa using e9
        have b2:(e != 0)=true:=by simpa using e0
        rw [if_neg e9,show ((0:Nat):Int)=0 from rfl];exact wk1 (x2 b1 b2) trivial
    .obtain rfl:n=k:=ω
     have hkn':¬ (n:Int) < n:=ω
     have cL:=qbs (S:=(C n).2.2) (cols:=cols) hn hll hGk.len hGk.r;rw [if_pos hk0,if_pos hk0,hk0];generalize (C n).2.2=S at *;generalize qjq S cols n=lu at *;unfold pLU at cL ⊢;refine wk1 hkn' ?_;refine q1h (LeT (hw:=Go.E.h0) (tnU 1013 5000) (λ_ h=>h.elim) (λi hi hw=>?_) (λi b hw hb=>?_) (λi j x hi hj ti tj=>?_) (xs:=[(1,pI cols),(8,.pt 8 0 0),(12,iv n),(13,.pt 1013 0 0)]) (kv:=[]) (bs:=[(8,⟨63,some 8,[.ag [q0T,q0T,q0T,q0T,q0T,q0T,q0T,q0T]],false⟩),(1013,⟨133,some 5,[pSt n S],false⟩)]) (kb:=[]) ?_) ?_
     .simp at hi;unfold win at hw;omega
     .cases hb
     .have a:∀ i,(win i/\(Go.E.h0:Hp) i≠none\/i ∈ List.map (·.1) [(8,⟨63,some 8,[.ag [q0T,q0T,q0T,q0T,q0T,q0T,q0T,q0T]],false⟩),(1013,(⟨133,some 5,[pSt n S],false⟩:Bk))] ++ [])->i≠5000:=λi hi=>by
       rcases hi with ⟨_,hi⟩ | hi
       .exact absurd rfl hi
       .simp at hi; omega
      have a1:=a i hi;have a2:=a j hj;unfold tnU at ti tj
      split at ti <;> split at tj <;> cases ti <;> cases tj <;> first | omega | rfl | exact (a1 rfl).elim | exact (a2 rfl).elim
     .try refine Zz ?_
      exact ql4 hn q2A λi j hi hj hw=>by
       unfold tnU at hi
       split at hi
       .cases hi; omega
       .cases hi; rw [q0P hw]; rfl
     exact wk trivial
end
abbrev sD (L:List Int):PV:=.sl (some 4) (L.map λV=>pV V)
abbrev vD (x:Nat):PV:=pV (ofZ x)
def dM (S:LuS) (n m:Nat):List (Int × PV):=cM vD (λi=>if S.iL i m then some (S.l i m) else none) n
def qd1 {x y:Nat} (h:ofZ x=0):q4J x y=0:=by
 unfold q4J;rw [h,yL]; rfl
def qgV {x y:Nat} (h:ofZ y=0):q4J x y=0:=by
 unfold q4J;rw [h,Int.mul_zero]; rfl
def qgR:ofZ 0=0:=q03 q2u
section
variable {F:Nat->Nat->Option Nat} {l u:Nat->Nat->Nat} {j k n v:Nat} {S:LuS}
def qaW {i:Nat} {u':Nat->Nat->Nat}:∀ m,(∀ p,p < m->u p k=u' p k)->luL F l u i j k m=luL F l u' i j k m
 | 0,_=>rfl
 | m+1,h=>by rw [luL,luL,qaW m λp hp=>h p ω,h m ω]
def qsj {i m:Nat}:luZ F l (q28 u m k v) i j k (m+1)=luZ F l u i j k m + -(q4J (l i m) v):=by
 unfold luZ;rw [luL,q10,show q28 u m k v m k=v from if_pos ⟨rfl,rfl⟩,qaW (u':=u) m λp hp=>if_neg ω]
structure TmOk (F:Nat->Nat->Option Nat) (l u:Nat->Nat->Nat) (j k m n:Nat) (g:Nat->Option (List Int)):Prop where
 s:∀ i,i < n->q1l ((g i).getD [])=luZ F l u i j k m
 c:∀ i,i < n->((g i).getD []).length<=m+1
 b:∀ i,i < n->∀ x ∈ (g i).getD [],bl x.natAbs<=67600
def g0 (F:Nat->Nat->Option Nat) (j:Nat):Nat->Option (List Int):=λi=>(F j i).map λx=>[ofZ x]
def TmOk.zero (hF:∀ i,i < n->q0O ((F j i).getD 0)):TmOk F l u j k 0 n (g0 F j):=by
 refine ⟨λi hi=>?_,λi hi=>?_,λi hi x hx=>?_⟩ <;> unfold g0 at *
 .unfold luZ luL;cases F j i with
  | none=>simp [q1l,qgR]
  | some x=>rfl
 .cases F j i <;> simp
 .have h:=hF i hi;cases hc:F j i with
  | none=>rw [hc] at hx; cases hx
  | some y =>
   rw [hc] at hx h;simp at hx;subst hx;exact q46 h
def gU (S:LuS) (m v:Nat) (g:Nat->Option (List Int)):Nat->Option (List Int):=λi=>if S.iL i m then some ((g i).getD [] ++ [-(q4J (S.l i m) v)]) else g i
def TmOk.skip {m:Nat} {g:Nat->Option (List Int)} (hT:TmOk F l u j k m n g):TmOk F l (q28 u m k 0) j k (m+1) n g :=
 ⟨λi hi=>by rw [qsj,qgV qgR,hT.s i hi]; omega,λi hi=>by have:=hT.c i hi; omega,hT.b⟩
def TmOk.step {m:Nat} {g:Nat->Option (List Int)} (hT:TmOk F S.l u j k m n g) (hz:∀ i,S.iL i m=false->ofZ (S.l i m)=0) (hl:q3D S.l) (hv:q0O v):TmOk F S.l (q28 u m k v) j k (m+1) n (gU S m v g):=by
 have e:∀ i,(gU S m v g i).getD []=if S.iL i m then (g i).getD [] ++ [-(q4J (S.l i m) v)] else (g i).getD []:=λi=>by
  unfold gU
  split <;> rfl
 refine ⟨λi hi=>?_,λi hi=>?_,λi hi x hx=>?_⟩
 .rw [qsj,e]
  split
  .rw [q10,hT.s i hi]
  .rename_i h;rw [hT.s i hi,qd1 (hz i (by simpa using h))]; omega
 .rw [e];have:=hT.c i hi
  split
  .rw [zP,yH]; omega
  .omega
 .rw [e] at hx
  split at hx
  .rcases zN.1 hx with hx | hx
   .exact hT.b i hi x hx
   .simp at hx; subst hx;rw [y9];exact (q4m (hl i m).1 hv).2
  .exact hT.b i hi x hx
structure LuI (k:Nat) (S:LuS):Prop where
 z:∀ i m,S.iL i m=false->ofZ (S.l i m)=0
 f:∀ i m,k<=m->S.iL i m=false
 r:S.rows.Nodup
def liL (S:LuS) (n m:Nat):List Nat:=(List.range n).filter λi=>S.iL i m
def liU (S:LuS) (m:Nat):List Nat:=(List.range (m+1)).filter λt=>S.iU t m
abbrev pLn (r v:List Nat):PV:=.ag [pRw r,pF v]
def lnL (S:LuS) (n m:Nat):PV:=pLn (liL S n m) ((liL S n m).map λi=>S.l i m)
def lnU (S:LuS) (m:Nat):PV:=pLn ((liU S m).map λt=>S.rows.getD t 0) ((liU S m).map λt=>S.u t m)
def plI (rows:List Nat) (i:Nat):Int:=if i ∈ rows then (rows.idxOf i:Int) else -1
def plL (rows:List Nat) (n:Nat):List PV:=(List.range n).map λi=>iv (plI rows i)
def qdR {rows:List Nat} {p i:Nat} (hp:p ∉ rows):plI (rows ++ [p]) i=if i=p then (rows.length:Int) else plI rows i:=by
 unfold plI
 by_cases e:i=p
 .subst e;rw [if_pos σ,if_pos rfl,List.idxOf_append,if_neg hp];simp
 .rw [if_neg e]
  by_cases h:i ∈ rows
  .rw [if_pos (yB _ h),if_pos h,List.idxOf_append,if_pos h]
  .rw [if_neg (by simp [h,e]),if_neg h]
def qly {rows:List Nat} {p n:Nat} (hp:p ∉ rows) (hn:p < n):(plL rows n).set p (iv (rows.length:Nat))=plL (rows ++ [p]) n:=by
 unfold plL
 apply z9
 intro i;rw [yA]
 by_cases hi:i < n
 .by_cases e:p=i
  .subst e;rw [if_pos rfl,if_pos (by simpa using hn),zH,zC hn,zO,qdR hp,if_pos rfl]
  .rw [if_neg e,zH,zH,zC hi,zO,zO,qdR hp,if_neg (Ne.symm e)]
 .have h1:((List.range n).map λi=>iv (plI (rows ++ [p]) i))[i]?=none:=zY (by simpa using hi);have h2:((List.range n).map λi=>iv (plI rows i))[i]?=none:=zY (by simpa using hi);rw [h1,h2,if_neg ω]
def qj7 {rows:List Nat} {i:Nat}:(plI rows i ≥ 0) ↔ i ∈ rows:=by
 unfold plI
 split
 .rename_i h; exact ⟨λ_=>h,λ_=>by omega⟩
 .rename_i h; exact ⟨λh2=>by omega,λh2=>absurd h2 h⟩
noncomputable def loE (S:LuS) (k:Nat) (z:Nat->Int) (d:Int) (m:Nat):LuS:={ S with l:=λa b=>if b=k/\a < m/\a ∉ S.rows then q4H 0 (z a) d else S.l a b,iL:=λa b=>if b=k/\a < m/\a ∉ S.rows then decide (z a≠0) else S.iL a b }
def qa2 {z:Nat->Int} {d:Int}:∀ m,(∀ i,i < m->i ∉ S.rows->q0O (q4H 0 (z i) d))->loS S k z d m=some (loE S k z d m)
 | 0,_=>by
  unfold loS loE
  congr 1
  cases S
  congr 1
  .funext a b; rw [if_neg ω]
  .funext a b; rw [if_neg ω]
 | m+1,h=>by
  rw [loS,qa2 m λi hi=>h i ω,yC]
  by_cases hm:m ∈ S.rows
  .rw [if_pos hm];unfold loE
   congr 2
   .funext a b
    try dsimp only
    by_cases e:a=m
    .subst e; rw [if_neg ω,if_neg (λq=>q.2.2 hm)]
    .by_cases c:b=k/\a < m/\a ∉ S.rows
     .rw [if_pos c,if_pos ⟨c.1,ω,c.2.2⟩]
     .rw [if_neg c,if_neg λq=>c ⟨q.1,ω,q.2.2⟩]
   .funext a b
    try dsimp only
    by_cases e:a=m
    .subst e; rw [if_neg ω,if_neg (λq=>q.2.2 hm)]
    .by_cases c:b=k/\a < m/\a ∉ S.rows
     .rw [if_pos c,if_pos ⟨c.1,ω,c.2.2⟩]
     .rw [if_neg c,if_neg λq=>c ⟨q.1,ω,q.2.2⟩]
  .rw [if_neg hm,if_pos (h m ω hm)];unfold loE
   congr 2
   .funext a b
    unfold q28
    try dsimp only
    by_cases e:a=m/\b=k
    .rw [if_pos e,if_pos ⟨e.2,ω,by rw [e.1]; exact hm⟩,e.1]
    .rw [if_neg e]
     by_cases c:b=k/\a < m/\a ∉ S.rows
     .rw [if_pos c,if_pos ⟨c.1,ω,c.2.2⟩]
     .rw [if_neg c,if_neg λq=>c ⟨q.1,ω,q.2.2⟩]
   .funext a b
    unfold q4W
    try dsimp only
    by_cases e:a=m/\b=k
    .rw [if_pos e,if_pos ⟨e.2,ω,by rw [e.1]; exact hm⟩,e.1]
    .rw [if_neg e]
     by_cases c:b=k/\a < m/\a ∉ S.rows
     .rw [if_pos c,if_pos ⟨c.1,ω,c.2.2⟩]
     .rw [if_neg c,if_neg λq=>c ⟨q.1,ω,q.2.2⟩]
def qdf {z:Nat->Int} {d:Int} {i:Nat} (h1:i ∉ S.rows) (h2:¬ q0O (q4H 0 (z i) d)):∀ m,i < m->loS S k z d m=none
 | m+1,hm=>by
  by_cases e:i=m
  .subst e;rw [loS];cases loS S k z d i with
   | none=>rfl
   | some q=>rw [yC,if_neg h1,if_neg h2]
  .rw [loS,qdf h1 h2 m ω]; rfl
def opR (rows:List Nat) (z:Nat->Int) (m:Nat):List Nat:=(List.range m).filter λi=>decide (i ∉ rows/\z i≠0)
def q9A {rows:List Nat} {z:Nat->Int} {m:Nat}:opR rows z (m+1)=if m ∉ rows/\z m≠0 then opR rows z m ++ [m] else opR rows z m:=by
 unfold opR;rw [xN,xD]
 by_cases h:m ∉ rows/\z m≠0
 .rw [if_pos h,List.filter_cons,if_pos (by simpa using h)]; rfl
 .rw [if_neg h,List.filter_cons,if_neg (by simpa using h)]; simp
def qdV {rows:List Nat} {z:Nat->Int} {m:Nat}:(opR rows z m).length<=m:=zW (yV _ _) σ
def q4T {rows:List Nat} {z:Nat->Int} {m i:Nat}:i ∈ opR rows z m ↔ i < m/\i ∉ rows/\z i≠0:=by
 unfold opR;rw [List.mem_filter,zZ,decide_eq_true_eq]
end
section
variable (v:Nat->Nat) (mi:List Int) (num den:Nat) (w:Int) (L:List Nat)
def mxT:Nat->Int
 | 0=>0
 | t+1=>if mxT t < abZ (v (L.getD t 0)) then abZ (v (L.getD t 0)) else mxT t
def bsT:Nat->Int
 | 0 => -1
 | t+1=>if (v (L.getD t 0)=0\/v (L.getD t 0)=9223372036854775808)\/(den:Int)*abZ (v (L.getD t 0)) < num*w then bsT t else if bsT t < 0\/q15 mi (L.getD t 0) < q15 mi (L.getD (bsT t).toNat 0) then (t:Int) else bsT t
end
section
variable {v:Nat->Nat} {mi:List Int} {num den:Nat} {w:Int} {L:List Nat}
def qd0 {x:Nat}:∀ t,t<=L.length->mxT v (L ++ [x]) t=mxT v L t
 | 0,_=>rfl
 | t+1,h=>by
  have e:(L ++ [x]).getD t 0=L.getD t 0:=by rw [zB,zB,zL ω]
  rw [mxT,mxT,qd0 t ω,e]
def q8U:∀ t:Nat,-1<=bsT v mi num den w L t/\bsT v mi num den w L t < t
 | 0=>by unfold bsT; omega
 | t+1=>by
  have:=q8U t;unfold bsT
  split
  .omega
  .split <;> omega
def qet {x:Nat}:∀ t,t<=L.length->bsT v mi num den w (L ++ [x]) t=bsT v mi num den w L t
 | 0,_=>rfl
 | t+1,h=>by
  have e:∀ c,c < L.length->(L ++ [x]).getD c 0=L.getD c 0:=λc hc=>by rw [zB,zB,zL ω]
  have hr:=q8U (v:=v) (mi:=mi) (num:=num) (den:=den) (w:=w) (L:=L) t;rw [bsT,bsT,qet t ω,e t ω]
  split
  .rfl
  .by_cases h0:bsT v mi num den w L t < 0
   .rw [if_pos (.inl h0),if_pos (.inl h0)]
   .rw [e _ ω]
def qjj {rows:List Nat} {z:Nat->Int} (hv:∀ i,v i=if i ∈ rows then 0 else fR 0 (z i)):∀ m,mxT v (opR rows z m) (opR rows z m).length=mxZ v m
 | 0=>rfl
 | m+1=>by
  rw [q9A];have ih:=qjj hv m
  by_cases h:m ∉ rows/\z m≠0
  .rw [if_pos h,zP,yH,mxT,mxZ,qd0 _ (zX _),ih,show (opR rows z m ++ [m]).getD (opR rows z m).length 0=m by rw [zB,uP]; rfl]
  .have h0:v m=0:=by
    rw [hv]
    split
    .rfl
    .rename_i hr;have:z m=0:=Classical.byContradiction λhz=>h ⟨hr,hz⟩;rw [this]; exact if_pos rfl
   rw [if_neg h,ih,qsE h0]
def qk1 {S:LuS} {z:Nat->Int} (hv:∀ i,v i=if i ∈ S.rows then 0 else fR 0 (z i)):∀ m,(bsP v S mi num den w m < 0 ↔ bsT v mi num den w (opR S.rows z m) (opR S.rows z m).length < 0)/\(0<=bsT v mi num den w (opR S.rows z m) (opR S.rows z m).length->bsP v S mi num den w m=((opR S.rows z m).getD (bsT v mi num den w (opR S.rows z m) (opR S.rows z m).length).toNat 0:Nat))
 | 0=>⟨Iff.rfl,λh=>by simp [opR,bsT] at h⟩
 | m+1=>by
  obtain ⟨ih1,ih2⟩:=qk1 hv m;have hr:=q8U (v:=v) (mi:=mi) (num:=num) (den:=den) (w:=w) (L:=opR S.rows z m) (opR S.rows z m).length;rw [q9A]
  by_cases h:m ∉ S.rows/\z m≠0
  .have eA:∀ c,c < (opR S.rows z m).length->(opR S.rows z m ++ [m]).getD c 0=(opR S.rows z m).getD c 0:=λc hc=>by rw [zB,zB,zL ω]
   have eL:(opR S.rows z m ++ [m]).getD (opR S.rows z m).length 0=m:=by rw [zB,uP]; rfl
   rw [if_pos h,zP,yH,bsT,bsP,qet _ (zX _),eL]
   by_cases c:(v m=0\/v m=9223372036854775808)\/(den:Int)*abZ (v m) < num*w
   .rw [if_pos (.inr c),if_pos c];refine ⟨ih1,λh2=>?_⟩;rw [ih2 h2,eA _ ω]
   .rw [if_neg (λq=>q.elim h.1 c),if_neg c]
    by_cases h0:bsT v mi num den w (opR S.rows z m) (opR S.rows z m).length < 0
    .rw [if_pos (.inl (ih1.2 h0)),if_pos (.inl h0)];refine ⟨ω,λ_=>?_⟩;rw [zF,eL]
    .have h1:=ih2 Oq;rw [eA _ ω];have h3:¬ bsP v S mi num den w m < 0:=λq=>h0 (ih1.1 q);have e:(bsP v S mi num den w m).toNat=(opR S.rows z m).getD (bsT v mi num den w (opR S.rows z m) (opR S.rows z m).length).toNat 0:=by rw [h1,zF]
     rw [e]
     by_cases c2:q15 mi m < q15 mi ((opR S.rows z m).getD (bsT v mi num den w (opR S.rows z m) (opR S.rows z m).length).toNat 0)
     .rw [if_pos (.inr c2),if_pos (.inr c2)];refine ⟨ω,λ_=>?_⟩;rw [zF,eL]
     .rw [if_neg (λq=>q.elim h3 c2),if_neg (λq=>q.elim h0 c2)];refine ⟨ih1,λh2=>?_⟩;rw [h1,eA _ ω]
  .rw [if_neg h,bsP,if_pos]
   .exact ⟨ih1,ih2⟩
   .by_cases hm:m ∈ S.rows
    .exact .inl hm
    .have:z m=0:=Classical.byContradiction λhz=>h ⟨hm,hz⟩;exact .inr (.inl (.inl (by rw [hv,if_neg hm,this]; exact if_pos rfl)))
end
end Go.Proofs.YtbjoghfmhgadkaaGreatDoor
namespace Go.Sp
open Go.E
def ixF (l:List Nat):Nat->Nat->Int
 | _,0 => -1
 | i,m+1=>if q0O (l.getD i 0) then ixF l (i+1) m else i
def qjw {l:List Nat}:∀ (m i:Nat),0<=ixF l i m ↔ ∃ j,i<=j/\j < i+m/\¬ q0O (l.getD j 0)
 | 0,i=>by unfold ixF; exact ⟨λh=>by omega,λ⟨j,h1,h2,_⟩=>by omega⟩
 | m+1,i=>by
  unfold ixF
  by_cases h:q0O (l.getD i 0)
  .rw [if_pos h,qjw m (i+1)]
   constructor
   .rintro ⟨j,h1,h2,h3⟩; exact ⟨j,ω,ω,h3⟩
   .rintro ⟨j,h1,h2,h3⟩;refine ⟨j,?_,ω,h3⟩
    rcases Nat.eq_or_lt_of_le h1 with e | e
    .subst e; exact absurd h h3
    .omega
  .rw [if_neg h];exact ⟨λ_=>⟨i,zX _,ω,h⟩,λ_=>by omega⟩
def qm6 {l:List Nat}:decide (0<=ixF l 0 l.length)=!decide (∀ x ∈ l,q0O x):=by
 rw [<- decide_not,decide_eq_decide,qjw]
 constructor
 .rintro ⟨j,_,h2,h3⟩ h;have hj:j < l.length:=ω
  rw [zB,zA hj] at h3;exact h3 (h _ (List.getElem_mem hj))
 .intro h;refine Classical.byContradiction λhn=>h λx hx=>?_;obtain ⟨j,hj,rfl⟩:=List.getElem_of_mem hx;refine Classical.byContradiction λhf=>hn ⟨j,zJ _,ω,?_⟩;rw [zB,zA hj];exact hf
end Go.Sp
namespace Go.Proofs.YtbjoghfmhgadkaaGreatDoor
open Go Go.E Go.Sp
section
variable {l:List Nat} {f:FuncId}
def pe_fn {s:Nat->PV}:pe s (.func f)=.vl (.func (.func f) #[] #[]):=rfl
attribute [go_sem] pe_fn
def q7w (hf:∀ x:Nat,x < 18446744073709551616->ACt f [uv x] (bv (!decide (q0O x)))) (hu:∀ x ∈ l,x < 18446744073709551616) (hn:l.length<=1000000) :
  ACt 154 [pF l,.vl (.func (.func f) #[] #[])] (iv (ixF l 0 l.length)):=by
 refine ac0 Tryz.func154 Tryz.ntmps154 [.tmp 4] ?_;refine wk ?_;refine q0B (λi=>i<=l.length/\ixF l 0 l.length=ixF l i (l.length-i)) [0,1,7] [] Lk Lk (λi:Nat=>[(8,iv i)]) (λ_=>[]) (λi=>l.length-i) 0 ⟨zJ _,rfl⟩ ?_ ?_
 .refine LeM [] rfl rfl ?_;refine Zz ?_
  rfl
 .rintro i ⟨hi,hx⟩
  by_cases hlt:i < l.length
  .obtain ⟨x,hxi⟩:∃ x,l[i]?=some x:=⟨_,zA hlt⟩;have C1:=hf x (hu x (zG hxi));rw [show l.length-i=(l.length-(i+1))+1 by omega,ixF,getD_some hxi] at hx;refine wk1 hxi ?_;refine qfS λK hK=>?_;refine Zz1 hxi ?_;refine q6z qwj ?_;simp only [List.append_nil]
   try refine Zz ?_
   refine q0J C1 ?_
   try refine Zz ?_
   refine hK _ _ ?_; clear hK K
   by_cases h:q0O x
   .rw [if_pos h] at hx;refine wk1 (decide_eq_true h) ?_;refine ⟨i+1,⟨ω,by rw [show l.length-(i+1)=l.length-(i+1) from rfl]; exact hx⟩,ω,?_⟩;refine LeM [] rfl rfl ?_;refine Zz ?_;omega
   .rw [if_neg h] at hx;rw [hx];exact wk1 (decide_eq_false h) trivial
  .obtain rfl:i=l.length:=ω
   rw [uW,ixF] at hx;rw [hx];exact wk trivial
def q5Z (hf:∀ x:Nat,x < 18446744073709551616->ACt f [uv x] (bv (!decide (q0O x)))) (hu:∀ x ∈ l,x < 18446744073709551616) (hn:l.length<=1000000) :
  ACt 86 [pF l,.vl (.func (.func f) #[] #[])] (bv (!decide (∀ x ∈ l,q0O x))):=by
 have C1:=q7w hf hu hn;rw [<- qm6];generalize ixF l 0 l.length=z at *;refine ac0 Tryz.func86 Tryz.ntmps86 [.tmp 4] ?_;exact wk trivial
end
end Go.Proofs.YtbjoghfmhgadkaaGreatDoor
