/- KrylovExact. 4/6. -/
import Derived.Test.YtfmojhhokfkdaaaGreatDoorPe3
set_option linter.unusedSimpArgs false
set_option linter.unusedVariables false
set_option maxRecDepth 20000
set_option maxHeartbeats 2000000
set_option linter.defProp false
namespace Go.Proofs.YtfmojhhokfkdaaaGreatDoor
open Go Go.E Go.Sp
abbrev reT (neg:Bool) (q:Nat) (e:Int) (inx:Bool):PV:=.ag [bv neg,bv false,.fm (fL q),iv e,bv inx]
section
variable {neg inx:Bool} {q k:Nat} {e p:Int}
def qdo (hb:bl q≤1000000) (he1 : -1000000≤e) (he2:e≤1000000):ACt 272 [reT neg q e inx] (iv (e+bl q-1)):=by
 have C1:=@q2W;refine ac0 Tryz.func272 Tryz.ntmps272 [.tmp 2] ?_;exact wk trivial
def qhi (hq:q≠0) (hb:bl q≤1000000) (hk:0 < k) (hk2:k≤5000000):ACt 290 [reT neg q e inx,iv k] (.tu [bT (q / 2 ^ k:Nat),iv (Go.Sp.hf q k inx),bv (decide (q % 2 ^ k=0) && !inx)]):=by
 have C1:=@q2W
 by_cases hkb:bl q < k
 ·have hqp:=q2o q;have hp1:2 ^ bl q≤2 ^ (k-1):=Nat.pow_le_pow_right Oq Oq;have hp2:2 ^ (k-1)≤2 ^ k:=Nat.pow_le_pow_right Oq Oq;have hmod:q % 2 ^ k=q:=Nat.mod_eq_of_lt Oq;have hdiv:q / 2 ^ k=0:=Nat.div_eq_of_lt Oq;have hhf:Go.Sp.hf q k inx = -1:=by
   unfold Go.Sp.hf;have:(((q % 2 ^ k:Nat):Int)-2 ^ (k-1)).sign = -1:=by
    refine Int.sign_eq_neg_one_of_neg ?_;rw [hmod,← q02]; omega
   rw [this]; simp
  have hex:(decide (q % 2 ^ k=0) && !inx)=false:=by rw [hmod,decide_eq_false hq]; rfl
  rw [hdiv,hhf,hex];refine ac0 Tryz.func290 Tryz.ntmps290 [.cell 4 38,.tmp 5,.tmp 6] ?_;exact wk trivial
 ·have C2:=@q60;have C3:=@q2t;have C4:=@qjE;have C5:=@q2g;have C6:=@qjH;have C7:=@q3G;have hsh:shI ((q:Nat):Int) (-(k:Int))=((q / 2 ^ k:Nat):Int):=by
   unfold shI; rw [if_neg (by omega),show (- -(k:Int)).toNat=k by omega,← q02]; rfl
  have hql:bl (q / 2 ^ k)≤1000000:=Nat.le_trans (q1K (Nat.div_le_self _ _)) hb;have hsl:shI ((q / 2 ^ k:Nat):Int) (k:Int)=((q / 2 ^ k*2 ^ k:Nat):Int):=by
   unfold shI; rw [if_pos (by omega),Int.toNat_natCast,← q02]; simp
  have hbm:bl (q / 2 ^ k*2 ^ k)≤1000000:=Nat.le_trans (q1K (Nat.div_mul_le_self _ _)) hb;have hrs:((q:Nat):Int)-((q / 2 ^ k*2 ^ k:Nat):Int)=((q % 2 ^ k:Nat):Int):=by
   have:=Nat.div_add_mod q (2 ^ k);rw [Nat.mul_comm] at this; omega
  have hbr:bl (q % 2 ^ k)≤1000000:=Nat.le_trans (q1K (Nat.mod_le _ _)) hb;have hs1:shI 1 ((k:Int)-1)=(2:Int) ^ (k-1):=by
   unfold shI; rw [if_pos (by omega),show ((k:Int)-1).toNat=k-1 by omega,Int.one_mul]
  have hb1:bl ((2:Int) ^ (k-1)).natAbs≤k:=by
   rw [q5S]; exact q0O (Nat.pow_lt_pow_right (by omega) (by omega))
  have hb2:bl (1:Int).natAbs≤1:=by show bl 1≤_; rw [q7T]; omega
  have sE:(((q % 2 ^ k:Nat):Int).sign == 0)=decide (q % 2 ^ k=0):=by
   by_cases h0:q % 2 ^ k=0
   ·rw [h0]; rfl
   ·rw [decide_eq_false h0,beq_eq_false_iff_ne];intro h; exact h0 (by have:=Int.sign_eq_zero_iff_zero.1 h; omega)
  have hhf:Go.Sp.hf q k inx=if (((q % 2 ^ k:Nat):Int)-2 ^ (k-1)).sign=0∧inx=true then 1 else (((q % 2 ^ k:Nat):Int)-2 ^ (k-1)).sign:=rfl
  rw [hhf];generalize hr:q % 2 ^ k=r at *;generalize hz:q / 2 ^ k=z at *;generalize hw:z*2 ^ k=zw at *;generalize hP:(2:Int) ^ (k-1)=P at *;refine ac0 Tryz.func290 Tryz.ntmps290 [.cell 4 38,.tmp 5,.tmp 6] ?_;refine wk1 (x4 hsh hsl hrs hs1) ?_
  by_cases hS:((r:Int)-P).sign=0
  ·rw [hS];cases inx
   ·rw [if_neg fun h=>Bool.noConfusion h.2]
    by_cases h0:r=0
    ·exact wk1 (x2 sE (decide_eq_true h0)) trivial
    ·exact wk1 (x2 sE (decide_eq_false h0)) trivial
   ·rw [if_pos ⟨rfl,rfl⟩]
    by_cases h0:r=0
    ·exact wk1 (x2 sE (decide_eq_true h0)) trivial
    ·exact wk1 (x2 sE (decide_eq_false h0)) trivial
  ·rw [if_neg fun h=>hS h.1]
   by_cases h0:r=0
   ·exact wk1 (x2 sE (decide_eq_true h0)) trivial
   ·exact wk1 (x2 sE (decide_eq_false h0)) trivial
def qdn (hq:q≠0) (hb:bl q≤900000) (he1 : -900000≤e) (he2:e≤900000) (hp1 : -100000≤p) (hp2:p≤1000000):ACt 274 [reT neg q e inx,iv p,iv 0] (bT (sgn neg (qim q e p inx))):=by
 have C1:=@q2t;have C2:=@q8D;have s0:∀ n:Nat,sgn false n=n:=fun n=>rfl;have s1:∀ n:Nat,sgn true n = -(n:Int):=fun n=>rfl
 by_cases hpe:p≤e
 ·have hsl:shI ((q:Nat):Int) (e-p)=((q*2 ^ (e-p).toNat:Nat):Int):=by
   unfold shI; rw [if_pos (by omega),← q02]; simp
  have hbq:bl (q*2 ^ (e-p).toNat)≤2000000:=by rw [q1h hq]; omega
  rw [show qim q e p inx=q*2 ^ (e-p).toNat from if_pos hpe];generalize q*2 ^ (e-p).toNat=z at *;refine ac0 Tryz.func274 Tryz.ntmps274 [.cell 6 38] ?_;cases neg
  ·exact wk1 (x2 hsl s0) trivial
  ·exact wk1 (x2 hsl s1) trivial
 ·obtain ⟨k,hk⟩:∃ k:Nat,p-e=k:=⟨(p-e).toNat,by omega⟩;have hbq:bl (q / 2 ^ k)≤2000000:=Nat.le_trans (q1K (Nat.div_le_self _ _)) Oq;have C3:=qhi (neg:=neg) (inx:=inx) (e:=e) (q:=q) (k:=k) hq Oq Oq Oq;have C4:=@q2g;have C5:=@q8G;have C6:=@q3G;have C7:=@qgv;have hb2:bl (1:Int).natAbs≤1:=by show bl 1≤_; rw [q7T]; omega
  have hm:qim q e p inx=q / 2 ^ k+(if ¬ (q % 2 ^ k=0∧inx=false)∧(0 < Go.Sp.hf q k inx∨(Go.Sp.hf q k inx=0∧q / 2 ^ k % 2=1)) then 1 else 0):=by
   unfold qim; rw [if_neg hpe,show (p-e).toNat=k by omega]
  generalize qim q e p inx=m at *;generalize Go.Sp.hf q k inx=H at *;generalize hr:q % 2 ^ k=r at *;generalize hz:q / 2 ^ k=z at *;have hbz:bl ((z:Int)+1).natAbs≤2000001:=by
   have:=q7W (k:=2000000) (a:=z) (b:=1) (by omega) (by rw [q7T]; omega);exact this
  have e2:((z+1:Nat):Int)=(z:Int)+1:=rfl;refine ac0 Tryz.func274 Tryz.ntmps274 [.cell 6 38] ?_
  by_cases hex:r=0∧inx=false
  ·have f:(decide (r=0) && !inx)=true:=by simp [hex]
   rw [if_neg fun h=>h.1 hex,Nat.add_zero] at hm;subst hm;cases neg
   ·exact wk1 (x3 hk f s0) trivial
   ·exact wk1 (x3 hk f s1) trivial
  ·have f:(decide (r=0) && !inx)=false:=by
    rw [Bool.and_eq_false_iff]
    by_cases h:r=0
    ·exact .inr (by cases inx <;> simp_all)
    ·exact .inl (decide_eq_false h)
   by_cases hh:0 < H
   ·rw [if_pos ⟨hex,.inl hh⟩] at hm;subst hm;cases neg
    ·exact wk1 (x4 hk f s0 e2) trivial
    ·exact wk1 (x4 hk f s1 e2) trivial
   ·by_cases h0:H=0
    ·by_cases hodd:z % 2=1
     ·rw [if_pos ⟨hex,.inr ⟨h0,hodd⟩⟩] at hm;subst hm;have q3:(((z:Nat):Int).sign != 0)=true:=by rw [Int.sign_eq_one_of_pos (by omega)]; rfl
      have q4:(((tz z:Nat):Int) == 0)=true:=by rw [q87 hodd]; rfl
      cases neg
      ·exact wk1 (x6 hk f q3 q4 s0 e2) trivial
      ·exact wk1 (x6 hk f q3 q4 s1 e2) trivial
     ·rw [if_neg fun h=>h.2.elim hh fun h=>hodd h.2,Nat.add_zero] at hm;subst hm
      by_cases hz0:m=0
      ·have q3:(((m:Nat):Int).sign != 0)=false:=by rw [hz0]; rfl
       cases neg
       ·exact wk1 (x4 hk f q3 s0) trivial
       ·exact wk1 (x4 hk f q3 s1) trivial
      ·have q3:(((m:Nat):Int).sign != 0)=true:=by rw [Int.sign_eq_one_of_pos (by omega)]; rfl
       have q4:(((tz m:Nat):Int) == 0)=false:=by
        rw [beq0];refine decide_eq_false fun h0=>hodd ?_;obtain ⟨r,hr,he⟩:=q2B hz0;rw [h0,Nat.pow_zero,Nat.mul_one] at he;omega
       cases neg
       ·exact wk1 (x5 hk f q3 q4 s0) trivial
       ·exact wk1 (x5 hk f q3 q4 s1) trivial
    ·rw [if_neg fun h=>h.2.elim hh fun h=>h0 h.1,Nat.add_zero] at hm;subst hm;cases neg
     ·exact wk1 (x3 hk f s0) trivial
     ·exact wk1 (x3 hk f s1) trivial
end
def qaj {a b:Int} (hA:q07 a) (hB:q07 b) (ha:a≠0) (hb:b≠0):∃ k:Nat,(bl (od b).natAbs+58 < bl ((od a).natAbs*2 ^ k)∧k≤140000∧bl ((od a).natAbs*2 ^ k)≤140000) ∧
  ACt 242 [dT a,dT b,iv 56] (reT (decide (a < 0) != decide (b < 0)) ((od a).natAbs*2 ^ k / (od b).natAbs) (dyE a-k-dyE b) (decide ((od a).natAbs*2 ^ k % (od b).natAbs≠0))):=by
 obtain ⟨ha1,ha2,ha3⟩:=q0m hA;obtain ⟨hb1,hb2,hb3⟩:=q0m hB;have hoa:=q3y ha;have hob:=q3y hb;rw [← q2c a,← q2c b];have C1:=@q2W;have C2:=@q8H;have C3:=@q2t;have C4:=@qaO;have C5:=@q3G;obtain ⟨p,hp⟩:∃ p,(od a).natAbs=p:=⟨_,rfl⟩;obtain ⟨r,hr⟩:∃ r,(od b).natAbs=r:=⟨_,rfl⟩;have hbp:=hp ▸ ha3;have hbr:=hr ▸ hb3;rw [hp,hr];have hp0:p≠0:=by omega
 have hr0:r≠0:=by omega
 obtain ⟨k,hk⟩:∃ k:Nat,max 0 (56+3+((bl r:Nat):Int)-((bl p:Nat):Int))=k:=⟨(max 0 (56+3+((bl r:Nat):Int)-((bl p:Nat):Int))).toNat,by omega⟩;have hbN:bl (p*2 ^ k)=bl p+k:=q1h hp0 k;refine ⟨k,⟨by omega,by omega,by omega⟩,?_⟩;have hsh:shI ((p:Nat):Int) (k:Int)=((p*2 ^ k:Nat):Int):=by
  unfold shI; rw [if_pos (by omega),Int.toNat_natCast,← q02]; simp
 have hml:bl (p*2 ^ k % r)≤300000:=Nat.le_trans (q1K (Nat.mod_le _ _)) Oq;have sE:(((p*2 ^ k % r:Nat):Int).sign != 0)=decide (p*2 ^ k % r≠0):=by
  by_cases h0:p*2 ^ k % r=0
  ·rw [h0]; rfl
  ·rw [decide_eq_true h0,bne_iff_ne];intro h; exact h0 (by have:=Int.sign_eq_zero_iff_zero.1 h; omega)
 refine ac0 Tryz.func242 Tryz.ntmps242 [.cell 6 238] ?_;exact wk1 (x6 hp hr @qgm hk hsh sE) trivial
def clD {l:List Int}:ClL (l.map fun x=>dT x):=fun x hx=>by
 obtain ⟨z,_,rfl⟩:=List.mem_map.1 hx;intro y hy;simp at hy
 rcases hy with rfl | rfl | rfl | rfl <;> trivial
def q77 {l:List Int} (hn:l.length≤1000) (ho:∀ x ∈ l,q07 x) (hv:q07 (q1A l)):ACt 114 [.sl (some 4) (l.map fun V=>pV V)] (dT (q1A l)):=by
 refine ac0 Tryz.func114 Tryz.ntmps114 [.cell 2 40] ?_;refine wk ?_;refine q0C (fun q:Nat × Int=>q.1≤l.length ∧ -65536≤q.2∧q.2≤0∧∀ x ∈ l.take q.1,q.2≤dyE x) [0,2,12,13] [2] Lk Lk (fun q=>[(14,iv q.1),(4,iv q.2),(3,.ow 1001 (some 4) 0 q.1)]) (fun q=>[(1001,⟨40,some 4,(l.take q.1).map fun x=>dT x,false⟩)]) (fun q=>l.length-q.1) (0,0) ⟨Nat.zero_le _,by omega,by omega,fun x hx=>by simp at hx⟩ ?_ ?_
 ·refine LeM [(1001,none)] rfl rfl ?_;refine Zz ?_
  rfl
 ·rintro ⟨i,lo⟩ ⟨hi,hlo1,hlo2,hmin⟩;simp only at hi hlo1 hlo2 hmin ⊢
  by_cases hlt:i < l.length
  ·obtain ⟨x,hxi⟩:∃ x,l[i]?=some x:=⟨_,List.getElem?_eq_getElem Oq⟩;have hox:=ho x (List.mem_of_getElem? hxi);obtain ⟨hd1,hd2,hd3⟩:=q0m hox;have C1:=ac_1 (by kernel_rfl) fun h=>q9q h (V:=x);have htk:l.take (i+1)=l.take i ++ [x]:=by
    obtain ⟨hlt,he⟩:=List.getElem?_eq_some_iff.1 hxi;rw [List.take_succ_eq_append_getElem hlt,he]
   have ht:(l.take i).length=i:=by rw [List.length_take]; omega
   refine wk1 (x3 hxi @qgl ht) ?_;refine ⟨(i+1,min lo (dyE x)),⟨by simp only; omega,by simp only; omega,by simp only; omega,fun y hy=>?_⟩,by simp only; omega,?_⟩
   ·simp only at hy ⊢;rw [htk] at hy
    rcases List.mem_append.1 hy with hy | hy
    ·have:=hmin y hy; omega
    ·simp at hy; subst hy; omega
   ·simp only;refine LeM [(1001,some 33)] rfl rfl ?_;refine Zz ?_;exact ⟨by omega,q17 (by rw [htk,List.map_append]; rfl) clD⟩
  ·obtain rfl:i=l.length:=by omega
   rw [List.take_length] at hmin;refine wk ?_;refine q0C (fun q:Nat × Int=>q.1≤l.length∧q.2*(2:Int) ^ (lo+65536).toNat=q1A (l.take q.1)) [2,4,9,35,36] [2,1001] Lk Lk (fun q=>[(37,iv q.1)]) (fun q=>[(9,⟨38,some 2,[bT q.2],false⟩)]) (fun q=>l.length-q.1) (0,0) ⟨Nat.zero_le _,by rw [Int.zero_mul]; rfl⟩ ?_ ?_
   ·refine LeM [] rfl rfl ?_;refine Zz ?_;exact ⟨rfl,rfl,q17 rfl clD⟩
   ·rintro ⟨j,tot⟩ ⟨hj,hs⟩;simp only at hj hs ⊢;have hbs:=qmH (i:=j) ho Oq;have hbt:=q99 hs
    by_cases hlt:j < l.length
    ·obtain ⟨x,hxi⟩:∃ x,l[j]?=some x:=⟨_,List.getElem?_eq_getElem Oq⟩;have hox:=ho x (List.mem_of_getElem? hxi);obtain ⟨hd1,hd2,hd3⟩:=q0m hox;have hst:=q6a l j x hxi;have hlo:=hmin x (List.mem_of_getElem? hxi);have hsh:shI (od x) (dyE x-lo)=od x*(2:Int) ^ (dyE x-lo).toNat:=by unfold shI; rw [if_pos (by omega)]
     have hlf:=q7v (V:=x) (E:=lo) Oq Oq;have hb12:=q99 hlf;have hbx:bl x.natAbs≤131072:=hox;have C1:=@q2t;have C2:=@q8G;refine wk1 (x2 hxi hsh) ?_;refine ⟨(j+1,tot+od x*(2:Int) ^ (dyE x-lo).toNat),⟨by simp only; omega,by simp only; rw [hst,Int.add_mul,hs,hlf]⟩,by simp only; omega,?_⟩;simp only;refine LeM [] rfl rfl ?_;refine Zz ?_;exact ⟨by omega,q17 rfl clD⟩
    ·obtain rfl:j=l.length:=by omega
     rw [List.take_length] at hs hbs hbt;have C1:=@q4C;have hmk:mkV tot lo=some (q1A l):=by rw [q5t (by omega) hs]; exact q3F hv
     exact wk trivial
def fOk {f:Nat} {V:Int} (hv:ofF f=some V):q07 V:=by
 have hfin:q0N f:=fun h=>by unfold ofF at hv; rw [if_pos h] at hv; cases hv
 obtain ⟨V',hv',hmk⟩:=q5o hfin;rw [hv] at hv'; cases hv';exact (q2J hmk).2.2.2
section
variable {f:Nat} {neg:Bool}
def q4f (hf:f < 18446744073709551616):ACt 169 [uv f] (.tu [iv (f / 4503599627370496 % 2048:Nat),uv (f % 4503599627370496:Nat)]):=by
 have h1:=q3U (a:=f / 4503599627370496) Oq;have h2:=q4O hf;refine ac0 Tryz.func169 Tryz.ntmps169 [.tmp 2,.tmp 3] ?_;exact wk1 (x2 h1 h2) trivial
def qce (hf:f < 18446744073709551616):ACt 195 [uv f] (bv (decide (9223372036854775808≤f))):=by
 have h2:=qbm hf;refine ac0 Tryz.func195 Tryz.ntmps195 [.tmp 2] ?_;exact wk1 h2 trivial
def q5X (hf:f < 9223372036854775808):ACt 275 [uv f,bv neg] (uv (sb neg f:Nat)):=by
 have h:=qbi hf;refine ac0 Tryz.func275 Tryz.ntmps275 [.tmp 4] ?_;cases neg
 ·exact wk1 (show sb false f=f from rfl) trivial
 ·exact wk1 (x2 h (show sb true f=f+9223372036854775808 from rfl)) trivial
def q3b (hf:f < 18446744073709551616):ACt 128 [uv f] (bv (decide (q0N f))):=by
 have C1:=q4f hf;have h2:(((f / 4503599627370496 % 2048:Nat):Int) != 2047)=decide (q0N f):=bneN (b:=2047);refine ac0 Tryz.func128 Tryz.ntmps128 [.tmp 2] ?_;exact wk1 h2 trivial
def qf4:ACt 276 [bv neg,iv 0] (uv (qdd 0 neg:Nat)):=by
 have C1:=q5X (f:=9218868437227405312) (neg:=neg) Oq;have e:qdd 0 neg=sb neg 9218868437227405312:=by simp [qdd]
 refine ac0 Tryz.func276 Tryz.ntmps276 [.tmp 4] ?_;exact wk1 e trivial
def q2K {V:Int} (hf:f < 18446744073709551616) (hv:ofF f=some V):ACt 113 [uv f] (dT V):=by
 have hfin:q0N f:=fun h=>by unfold ofF at hv; rw [if_pos h] at hv; cases hv
 obtain ⟨V',hv',hmk⟩:=q5o hfin;rw [hv] at hv'; cases hv';have C1:=q4f hf;have C2:=qce hf;have C3:=@q2g;have C4:=@q8D;have C5:=@q4C;have hxm:=Nat.mod_lt (f / 4503599627370496) (show 0 < 2048 by omega);have hm:=Nat.mod_lt f (show 0 < 4503599627370496 by omega);unfold q0N at hfin;generalize f / 4503599627370496 % 2048=x at *;generalize f % 4503599627370496=m at *;generalize decide (9223372036854775808≤f)=sg at *;have h4:=qgi hm;obtain ⟨M,hM⟩:∃ M,M=if x=0 then m else 4503599627370496+m:=⟨_,rfl⟩
 have hMl:M < 9007199254740992:=by rw [hM]; split <;> omega
 have hbl:bl M≤53:=q0O (show M < 2 ^ 53 by omega);have hbn:bl (-(M:Int)).natAbs≤53:=by rw [Int.natAbs_neg]; exact hbl
 refine ac0 Tryz.func113 Tryz.ntmps113 [.cell 2 40] ?_
 by_cases hx0:x=0
 ·rw [if_pos hx0] at hM;subst hM;rw [if_pos hx0,if_pos hx0] at hmk;cases sg
  ·exact wk trivial
  ·exact wk trivial
 ·rw [if_neg hx0] at hM;rw [if_neg hx0,if_neg hx0,← hM] at hmk;rw [← hM] at h4;cases sg
  ·exact wk1 h4 trivial
  ·exact wk1 h4 trivial
end
def qjG {a:Int} {s:Bool} (hs:s=decide (a < 0)) (h0:0≤a) (ha:a≤9223372036854775807):ACt 273 [sT s a] (.tu [iv a,bv true]):=q3Z (qes hs h0 ha)
def q4e {N M:Nat} {neg:Bool} {e:Int} (hM:0 < M) (hN:M≤N) (hmb:N % M≠0→55≤bl (N / M)) (hb:bl (N / M)≤200000) (he1 : -400000≤e) (he2:e≤400000):ACt 236 [reT neg (N / M) e (decide (N % M≠0)),iv 0] (uv (rE 0 neg N M e:Nat)):=by
 have hp:=Nat.div_pos hN hM;have hL1:=q4l (n:=N / M) Oq;have hval:=qb9 (mode:=0) (neg:=neg) (e:=e) hM hN;have hnle:=qi7 (mode:=0) (neg:=neg) (e:=e) (q:=max (e+(bl (N / M):Int)-53) (-1074)) hM hN Oq;have hmul:=qil (neg:=neg) (e:=e) (p:=max (e+(bl (N / M):Int)-53) (-1074)) hM (fun h=>by have:=hmb h; omega);have C1:=qdo (neg:=neg) (q:=N / M) (e:=e) (inx:=decide (N % M≠0)) Oq Oq Oq;obtain ⟨L,hL⟩:∃ L,bl (N / M)=L:=⟨_,rfl⟩;rw [hL] at hmb hb hval hnle hmul hL1 C1;obtain ⟨q,hq⟩:∃ q,max (e+(L:Int)-53) (-1074)=q:=⟨_,rfl⟩;rw [hq] at hval hnle hmul;have hq':max (e+(L:Int)-1-52) (-1074)=q:=by omega
 have C2:=qdn (neg:=neg) (inx:=decide (N % M≠0)) (q:=N / M) (e:=e) (p:=q) Oq Oq Oq Oq Oq Oq;rw [hmul] at C2;obtain ⟨r,hr⟩:∃ r,rq 0 neg (N*2 ^ (e-q).toNat) (M*2 ^ (q-e).toNat)=r:=⟨_,rfl⟩;rw [hr] at hval hnle C2;have hbr:bl r≤54:=q0O (Nat.lt_of_le_of_lt hnle (by decide));have hsn:=q1o neg r;have hbs:bl (sgn neg r).natAbs≤54:=by rw [hsn]; exact hbr
 have C3:=@q8H;have C4:=@qjG;have C5:=@q5X;have C6:=@qf4;have e2:IntKind.u64.wrap ((r:Nat):Int)=r:=u64_in Oq Oq;rw [hval];generalize N / M=d at *;generalize decide (N % M≠0)=ix at *;clear hmul hmb hp hval hr;unfold Go.Sp.fin Go.Sp.q8M;have comp:∀ (q2:Int) (n2:Nat),0≤q2+1075→¬ 2047≤q2+1075→4503599627370496≤n2→n2 < 9007199254740992→∃ x:Nat,q2+1075=x∧(q2+1075).toNat=x∧IntKind.u64.wrap (x:Int)=x∧(q0f Tryz.prog .shl 43 (.int .u64 (x:Int)) (.int .u64 52)=some (.int .u64 ((x*4503599627370496:Nat):Int)))∧IntKind.u64.wrap ((n2:Int)-4503599627370496)=((n2-4503599627370496:Nat):Int)∧q0n .or .u64 ((x*4503599627370496:Nat):Int) ((n2-4503599627370496:Nat):Int)=((x*4503599627370496+(n2-4503599627370496):Nat):Int)∧x*4503599627370496+(n2-4503599627370496) < 9223372036854775808:=fun q2 n2 h1 h2 h3 h4 =>
  ⟨(q2+1075).toNat,by omega,rfl,u64_in (by omega) (by omega),q8o (by omega),by rw [u64_in (by omega) (by omega)]; omega,qgj (by omega) (by omega),by omega⟩
 refine ac0 Tryz.func236 Tryz.ntmps236 [.tmp 4] ?_
 by_cases h53:r=9007199254740992
 ·rw [if_pos h53,if_neg (by omega)]
  by_cases hov:2047≤q+1+1075
  ·rw [if_pos hov];exact wk1 (x3 hq' hsn e2) trivial
  ·rw [if_neg hov];obtain ⟨x,f1,f2,f3,f4,f5,f6,f7⟩:=comp (q+1) 4503599627370496 Oq hov Oq Oq;rw [f2,Nat.sub_self,Nat.add_zero];rw [Nat.sub_self,Nat.add_zero] at f6 f7;replace f5:IntKind.u64.wrap (4503599627370496-4503599627370496)=0:=f5;replace f6:q0n .or .u64 ((x*4503599627370496:Nat):Int) 0=((x*4503599627370496:Nat):Int):=f6;exact wk1 (x6 hq' hsn e2 f1 f3 (x3 f4 f5 f6)) trivial
 ·rw [if_neg h53]
  by_cases h52:r < 4503599627370496
  ·rw [if_pos h52];exact wk1 (x3 hq' hsn e2) trivial
  ·rw [if_neg h52]
   by_cases hov:2047≤q+1075
   ·rw [if_pos hov];exact wk1 (x3 hq' hsn e2) trivial
   ·rw [if_neg hov];obtain ⟨x,f1,f2,f3,f4,f5,f6,f7⟩:=comp q r Oq hov Oq Oq;rw [f2];exact wk1 (x6 hq' hsn e2 f1 f3 (x3 f4 f5 f6)) trivial
def q8O {a b:Int} (hA:q07 a) (hB:q07 b) (hb0:b≠0):ACt 185 [dT a,dT b,iv 0] (uv (fQ 0 a b:Nat)):=by
 have C1:=q55 hA;have C2:=q55 hB;have C3:=q1l hA;have C4:=q1l hB;have q1:(b.sign == 0)=false:=by
  rw [beq_eq_false_iff_ne]; intro h; exact hb0 (Int.sign_eq_zero_iff_zero.1 h)
 refine ac0 Tryz.func185 Tryz.ntmps185 [.tmp 6] ?_
 by_cases ha0:a=0
 ·have q2:(a.sign == 0)=true:=by rw [ha0]; rfl
  rw [show ((fQ 0 a b:Nat):Int)=0 by rw [show fQ 0 a b=0 from if_pos ha0]; rfl];exact wk1 (x2 q1 q2) trivial
 ·have q2:(a.sign == 0)=false:=by
   rw [beq_eq_false_iff_ne]; intro h; exact ha0 (Int.sign_eq_zero_iff_zero.1 h)
  obtain ⟨k,⟨c1,c2,c3⟩,C5⟩:=qaj hA hB ha0 hb0;have hob:=q3y hb0;have hd1:=q0m hA;have hd2:=q0m hB;have hge:=qdK (N:=(od a).natAbs*2 ^ k) (M:=(od b).natAbs) Oq (k:=57) Oq;have hle:bl ((od a).natAbs*2 ^ k / (od b).natAbs)≤140000:=Nat.le_trans (q1K (Nat.div_le_self _ _)) c3;have hMN:(od b).natAbs≤(od a).natAbs*2 ^ k:=by
   rcases Nat.lt_or_ge ((od a).natAbs*2 ^ k) (od b).natAbs with h | h
   ·have:=q1K (Nat.le_of_lt h); omega
   ·exact h
  have C6:=q4e (neg:=decide (a < 0) != decide (b < 0)) (e:=dyE a-k-dyE b) Oq hMN (fun _=>by omega) Oq Oq Oq;rw [qnJ ha0 hb0,show rF 0 (decide (a < 0) != decide (b < 0)) a.natAbs b.natAbs=fQ 0 a b from (if_neg ha0).symm] at C6;exact wk1 (x2 q1 q2) trivial
end Go.Proofs.YtfmojhhokfkdaaaGreatDoor
namespace Go.E
open Go
section
variable {G:Fam} {D:Nat→Prop} {A:Option Addr} {v:Value} {w w':World} {L:List Nat} {α:Type} {H:α→Fam} {T sz B n c:Nat} {l:List α}
def q2q.blk_lt (h:q2q H T sz w D B A n c l):∀ a,A=some a→a.block < w.heap.size∧B≤a.block:=by
 obtain ⟨vs,h1,_⟩:=h;exact h1.blk_lt
def q2q.nb (h:q2q H T sz w D B A n c l) {k:Nat} (hk:k < B):nb A k:=fun a ha=>by have:=h.blk_lt a ha; omega
def q2q.under {w0:World} (h:q2q H T sz w D B A n c l) (hx:Ext w0 w) (k:Kp (Go.E.nb A) w w') (hB:w0.heap.size≤B):Ext w0 w':=hx.under k fun j hj=>h.nb Oq
end
end Go.E
namespace Go.Proofs.YtfmojhhokfkdaaaGreatDoor
open Go Go.E Go.Sp
def qpG (a b c d:Value):bsV Tryz.prog 45 1 [(0,.agg #[a,b,c,d])]=some (40,#[a,b,c,d]):=by
 unfold bsV;simp only [qje];have hr:Array.range 4=#[0,1,2,3]:=rfl;simp [Instr.fill,Value.cells,hr]
section
variable {f:Nat} {w:World}
def qe1 (hf:f < 18446744073709551616):Calls Tryz.prog 169 #[.int .u64 f] w fun e w'=>e=.returned (.tuple #[.int .i64 (f / 4503599627370496 % 2048:Nat),.int .u64 (f % 4503599627370496:Nat)])∧w=w':=by
 refine q1J Tryz.func169 rfl Tryz.ntmps169 (by kernel_rfl) ?_;refine Wz ?_;have h1:=q3U (a:=f / 4503599627370496) Oq;have h2:=q4O (a:=f) hf;have h3:IntKind.i64.wrap ((f / 4503599627370496 % 2048:Nat):Int)=((f / 4503599627370496 % 2048:Nat):Int):=i64_in Oq Oq;refine Wz3 h1 h2 h3 ?_;refine q4A ?_
 try simp only [q1S,q4a]
 refine qmz rfl ⟨by simp only [q0z,Nat.reduceEqDiff,↓reduceIte],rfl⟩
def q3l (hf:f < 18446744073709551616):Calls Tryz.prog 128 #[.int .u64 f] w fun e w'=>e=.returned (.bool (decide (q0N f)))∧w=w':=by
 refine q1J Tryz.func128 rfl Tryz.ntmps128 (by kernel_rfl) ?_;refine Wz ?_;refine q0P fun K hK=>?_;refine Zz ?_;refine q05 qhQ (qe1 hf) ?_;rintro _ _ ⟨rfl,rfl⟩; refine ⟨_,rfl,?_⟩;have h2:(((f / 4503599627370496 % 2048:Nat):Int) != 2047)=decide (q0N f):=bneN (b:=2047);refine Zz ?_;refine hK _ _ ?_; clear hK;refine Wz1 h2 ?_;refine q4A ?_
 try simp only [q1S,q4a]
 refine qnA rfl ⟨by simp only [q0z,Nat.reduceEqDiff,↓reduceIte],rfl⟩
end
section
variable {g:FuncId} {al:List PV} {vs:List Value} {V:Int} {c:Value} {D:Nat→Prop} {w:World} {v v':Value} {a b:Int}
def acV (h:ACt g al (dT V)) (ho:q07 V) (hT:q1y w) (hF:Fr D w) (hR:RdL w D al (fun _=>none) h0 vs):Calls Tryz.prog g vs.toArray w (Rt (fV V) D w):=(h.2 D w vs hT hF hR).mono fun x w' ⟨v,h1,h2,h3⟩=>⟨v,h1,h2,q4z.1 ⟨h3,ho⟩⟩
def acK (h:ACt g al (.vl c)) (hT:q1y w) (hF:Fr D w) (hR:RdL w D al (fun _=>none) h0 vs):Calls Tryz.prog g vs.toArray w fun e w'=>e=.returned c∧Ext w w':=(h.2 D w vs hT hF hR).mono fun x w' ⟨v,h1,h2,h3⟩=>⟨by rw [h1,qaB h3],h2⟩
def rdV (h:In (fV V) D v w):Rd w D (dT V) (fun _=>none) h0 v:=(q4z.2 h).1
def RdL.two {x y:PV} (h1:Rd w D x (fun _=>none) h0 v) (h2:Rd w D y (fun _=>none) h0 v'):RdL w D [x,y] (fun _=>none) h0 [v,v']:=by
 unfold RdL;exact ⟨_,_,rfl,h1,RdL.one h2⟩
def qcd {f:Nat} (hT:q1y w) (hf:f < 18446744073709551616) (hv:ofF f=some V) (hfr:Fr D w):Calls Tryz.prog 113 #[.int .u64 f] w (Rt (fV V) D w):=acV (q2K hf hv) (fOk hv) hT hfr (RdL.one q7q)
def qom (hT:q1y w) (h:In (fV a) D v w) (h':In (fV b) D v' w) (hv:mkV (a*b) (-131072)=some V) (hf:Fr D w):Calls Tryz.prog 166 #[v,v'] w (Rt (fV V) D w):=acV (q4R h.ok h'.ok hv) (q2J hv).2.2.2 hT hf (RdL.two (rdV h) (rdV h'))
def qol (hT:q1y w) (h:In (fV V) D v w) (hf:Fr D w):Calls Tryz.prog 165 #[v] w (Rt (fV (-V)) D w):=acV (qak h.ok) (qfb h.ok) hT hf (RdL.one (rdV h))
def qgx (hT:q1y w) (h:In (fV a) D v w) (h':In (fV b) D v' w) (hb0:b≠0) (hf:Fr D w):Calls Tryz.prog 185 #[v,v',.int .i64 0] w fun x w'=>x=.returned (.int .u64 (fQ 0 a b:Nat))∧Ext w w':=acK (q8O h.ok h'.ok hb0) hT hf (by
 unfold RdL;exact ⟨_,_,rfl,rdV h,RdL.two (rdV h') q7q⟩)
def qok {A:Option Addr} {n c:Nat} {l:List Int} (hT:q1y w) (h:In (fSl 4 fV l) D (.slice A n c) w) (hn:n≤1000) (ho:∀ x ∈ l,q07 x) (hv:q07 (q1A l)) (hf:Fr D w) :
  Calls Tryz.prog 114 #[.slice A n c] w (Rt (fV (q1A l)) D w):=by
 have hl:=h.sl_len;obtain ⟨_,_,_,vs,e,h1,⟨h2,h3⟩,h4⟩:=h;cases e;refine acV (q77 Oq ho hv) hv hT hf (RdL.one ?_);unfold Rd;refine ⟨A,n,c,vs,rfl,h1,by simpa using h4,RdL.iff.2 ⟨by simpa using h2.symm,fun i x v hx hv=>?_⟩,fun v hv=>?_⟩
 ·rw [List.getElem?_map] at hx;obtain ⟨V,hV,rfl⟩:=Option.map_eq_some_iff.1 hx;obtain ⟨u,hu,q1,_⟩:=h3 i V hV;rw [hv] at hu; cases hu;exact q7r q1
 ·obtain ⟨i,hi,rfl⟩:=List.getElem_of_mem hv;obtain ⟨u,hu,q1,_⟩:=h3 i l[i] (List.getElem?_eq_getElem Oq);rw [List.getElem?_eq_getElem hi] at hu;cases hu;exact fitV _ _ _ q1
end
def q0x (l:List Nat):Prop:=∀ f ∈ l,f < 18446744073709551616∧q0N f
section
variable {D:Nat→Prop} {A:Option Addr} {n c:Nat} {l:List Nat} {w:World}
def qnW {w:World} {B E n c:Nat} {A:Option Addr} {α:Type} {f:α→Value} {l:List α} {D:Nat→Prop} (h:Own w B E 1 A n c (l.map f)) (hd:∀ k,B≤k→D k):In (fSc f l) D (.slice A n c) w:=⟨A,n,c,rfl,h.row.sub fun k _ hk=>hd k hk⟩
def q0t (n:Nat):List Int:=(List.range n).map fun k:Nat=>(k:Int)
def q2x (n:Nat):q0t (n+1)=q0t n ++ [(n:Int)]:=by unfold q0t; rw [List.range_succ,List.map_append]; rfl
def q1C (n:Nat):(q0t n).length=n:=by simp [q0t]
end
end Go.Proofs.YtfmojhhokfkdaaaGreatDoor
namespace Go.E
open Go
def q8k {P:Program} {w:World} {T E Bd g n c:Nat} {xs:List Value} {v:Value} (h:Own w Bd E 1 (some ⟨g,0,none⟩) n c xs) {j:Nat} (hj:j < n) (hs:q0X P T=some 1) (hv:v.cells=#[v]) (h1:v.oneCell'=true) {K:World→Prop}
  (hK:∀ w',Own w' Bd E 1 (some ⟨g,0,none⟩) n c (xs.set j v)→Kp (fun k=>k≠g) w w'→w'.heap.size=w.heap.size→K w'):q3h P T w (.pointer (some ⟨g,j,none⟩)) v K:=by
 have hl:xs.length=n:=by have:=h.len; simpa using this
 obtain ⟨g',hg,hb,hc,hfz⟩:=h.cell (j:=j) Oq;cases hg;rw [q8j,hv];refine ⟨hs,⟨?_,?_,h1,trivial⟩,?_⟩
 ·rw [q03,Nat.add_zero,hc]; rfl
 ·rw [q03,Nat.add_zero]; exact hfz
 ·refine hK _ ?_ ?_ ?_
  ·have:=h.set j v;simpa [stN,q03] using this
  ·simp only [stN,q03,Nat.add_zero];exact Kp.setCell w (fun _ h=>h rfl) v
  ·simp [stN,World.setCell]
end Go.E
namespace Go.Proofs.YtfmojhhokfkdaaaGreatDoor
open Go Go.E Go.Sp
def qgt (l:List Int):Prop:=(∀ x ∈ l,0≤x∧x < l.length)∧l.Nodup
section
variable {D:Nat→Prop} {A:Option Addr} {n c:Nat} {l:List Int} {w:World}
end
end Go.Proofs.YtfmojhhokfkdaaaGreatDoor
namespace Go.E
open Go Go.Sp
section
variable {D:Nat→Prop} {A:Option Addr} {n c:Nat} {w:World}
def In.ixI {l:List Int} (h:In (fSc q3H l) D (.slice A n c) w) {i:Nat} {x:Int} (hi:l[i]?=some x):∃ ad,A=some ad∧((0:Int)≤(i:Int)∧(i:Int) < n)∧w.cell? (ad.add i)=some (.int .i64 x):=by
 obtain ⟨hlt,he⟩:=List.getElem?_eq_some_iff.1 hi;obtain ⟨ad,hA,hc⟩:=h.sc_get hlt;have:=h.sc_len;exact ⟨ad,hA,by omega,by rw [hc,he]; rfl⟩
def In.ixU {l:List Nat} (h:In (fSc q2A l) D (.slice A n c) w) {i:Nat} {x:Nat} (hi:l[i]?=some x):∃ ad,A=some ad∧((0:Int)≤(i:Int)∧(i:Int) < n)∧w.cell? (ad.add i)=some (.int .u64 (x:Int)):=by
 obtain ⟨hlt,he⟩:=List.getElem?_eq_some_iff.1 hi;obtain ⟨ad,hA,hc⟩:=h.sc_get hlt;have:=h.sc_len;exact ⟨ad,hA,by omega,by rw [hc,he]; rfl⟩
end
end Go.E
namespace Go.Proofs.YtfmojhhokfkdaaaGreatDoor
open Go Go.E Go.Sp
structure Fac where
 pm:List Int
 cp:List Int
 ri:List Int
 vs:List Nat
structure Col (f:Fac) (j a b:Nat):Prop where
 ha:f.cp[j]?=some (a:Int)
 hb:f.cp[j+1]?=some (b:Int)
 lt:a < b
 le:b≤f.ri.length
 first:f.ri[a]?=some (j:Int)
 last:∃ z:Int,f.ri[b-1]?=some z∧z < f.pm.length
 inc:∀ i,a < i→i < b→∃ y z:Int,f.ri[i-1]?=some y∧f.ri[i]?=some z∧y < z
 diag:∃ (x:Nat) (V:Int),f.vs[a]?=some x∧ofF x=some V∧0 < V
structure FacOk (f:Fac):Prop where
 perm:qgt f.pm
 n:f.pm.length≤200
 cpl:f.cp.length=f.pm.length+1
 ril:f.ri.length=f.vs.length
 rib:f.ri.length≤1000000
 c0:f.cp[0]?=some 0
 cn:f.cp[f.pm.length]?=some (f.ri.length:Int)
 col:∀ j,j < f.pm.length→∃ a b,Col f j a b
 vals:q0x f.vs
def fFac (f:Fac):Fam:=⟨fun D v w=>∃ a b c d,v=.agg #[a,b,c,d]∧(fSc q3H f.pm).p D a w∧(fSc q3H f.cp).p D b w∧(fSc q3H f.ri).p D c w∧(fSc q2A f.vs).p D d w,fun k ⟨a,b,c,d,e,h1,h2,h3,h4⟩=>⟨a,b,c,d,e,(fSc q3H f.pm).kp k h1,(fSc q3H f.cp).kp k h2,(fSc q3H f.ri).kp k h3,(fSc q2A f.vs).kp k h4⟩,fun k ⟨a,b,c,d,e,h1,h2,h3,h4⟩=>⟨a,b,c,d,e,(fSc q3H f.pm).sub k h1,(fSc q3H f.cp).sub k h2,(fSc q3H f.ri).sub k h3,(fSc q2A f.vs).sub k h4⟩⟩
def q7E {D:Nat→Prop} {f:Fac} {v:Value} {w:World} (h:In (fFac f) D v w):∃ A1 n1 c1 A2 n2 c2 A3 n3 c3 A4 n4 c4,v=.agg #[.slice A1 n1 c1,.slice A2 n2 c2,.slice A3 n3 c3,.slice A4 n4 c4]∧In (fSc q3H f.pm) D (.slice A1 n1 c1) w∧In (fSc q3H f.cp) D (.slice A2 n2 c2) w∧In (fSc q3H f.ri) D (.slice A3 n3 c3) w∧In (fSc q2A f.vs) D (.slice A4 n4 c4) w:=by
 obtain ⟨a,b,c,d,rfl,h1,h2,h3,h4⟩:=h;obtain ⟨A1,n1,c1,rfl,r1⟩:=h1;obtain ⟨A2,n2,c2,rfl,r2⟩:=h2;obtain ⟨A3,n3,c3,rfl,r3⟩:=h3;obtain ⟨A4,n4,c4,rfl,r4⟩:=h4;exact ⟨_,_,_,_,_,_,_,_,_,_,_,_,rfl,⟨_,_,_,rfl,r1⟩,⟨_,_,_,rfl,r2⟩,⟨_,_,_,rfl,r3⟩,⟨_,_,_,rfl,r4⟩⟩
def slv (s:Option Addr × Nat × Nat):Value:=.slice s.1 s.2.1 s.2.2
structure Sums (w:World) (D:Nat→Prop) (L:List Nat) (N0 g n:Nat) (rows:List (List Int)) (ss:List (Option Addr × Nat × Nat)):Prop where
 own:Own w N0 45 1 (some ⟨g,0,none⟩) n n (ss.map slv)
 len:ss.length=rows.length
 row:∀ (i:Nat) (s:Option Addr × Nat × Nat) (r:List Int),ss[i]?=some s→rows[i]?=some r→q2q fV 40 4 w (Dl D L) N0 s.1 s.2.1 s.2.2 r
 mem:∀ (i:Nat) (s:Option Addr × Nat × Nat) (a:Addr),ss[i]?=some s→s.1=some a→a.block ∈ L∧a.block≠g
 ne:∀ (i j:Nat) (s t:Option Addr × Nat × Nat) (a b:Addr),i≠j→ss[i]?=some s→ss[j]?=some t→s.1=some a→t.1=some b→a.block≠b.block
 gL:g ∈ L
 lo:∀ k ∈ L,N0≤k
 hi:∀ k ∈ L,k < w.heap.size
def qks {α:Type} {G:α→Fam} {T sz B n c:Nat} {A:Option Addr} {w:World} {D D':Nat→Prop} {l:List α} (h:q2q G T sz w D' B A n c l) (h1:∀ k,D' k→D k) (h2:∀ k,B≤k→D k):In (fSl sz G l) D (.slice A n c) w:=by
 obtain ⟨vs,a1,a2,a3⟩:=h;exact ⟨A,n,c,vs,rfl,a1.row.sub fun k _ hk=>h2 k hk,a2.sub fun k _ hk=>h1 k hk.1,a3⟩
section
variable {D:Nat→Prop} {L:List Nat} {N0 g n:Nat} {rows:List (List Int)} {ss:List (Option Addr × Nat × Nat)} {w w':World}
def Sums.ext (h:Sums w D L N0 g n rows ss) (k:Ext w w'):Sums w' D L N0 g n rows ss :=
 ⟨h.own.ext k,h.len,fun i s r a b=>(h.row i s r a b).ext k,h.mem,h.ne,h.gL,h.lo,fun j hj=>Nat.lt_of_lt_of_le (h.hi j hj) k.size⟩
def Sums.sub {D':Nat→Prop} (h:Sums w D L N0 g n rows ss) (hd:∀ k,k < w.heap.size→D k→D' k):Sums w D' L N0 g n rows ss :=
 ⟨h.own,h.len,fun i s r a b=>by
  obtain ⟨vs,a1,a2,a3⟩:=h.row i s r a b;exact ⟨vs,a1,a2.sub fun k hk hq=>⟨⟨hd k hk hq.1.1,hq.1.2⟩,hq.2⟩,a3⟩,h.mem,h.ne,h.gL,h.lo,h.hi⟩
def Sums.get (h:Sums w D L N0 g n rows ss) {i:Nat} {r:List Int} (hr:rows[i]?=some r) (hD:∀ k,N0≤k→D k):∃ A m c,ss[i]?=some (A,m,c)∧i < n∧w.cell? ⟨g,i,none⟩=some (.slice A m c)∧In (fSl 4 fV r) D (.slice A m c) w:=by
 have hlt:=(List.getElem?_eq_some_iff.1 hr).1;have hlen:=h.len;have hn:ss.length=n:=by have:=h.own.len; simpa using this
 obtain ⟨⟨A,m,c⟩,hs⟩:∃ s,ss[i]?=some s:=⟨_,List.getElem?_eq_getElem Oq⟩;obtain ⟨g',hg,_,hc,_⟩:=h.own.cell (j:=i) (by simp; omega);cases hg;refine ⟨A,m,c,hs,by omega,?_,qks (h.row i _ r hs hr) (fun k hk=>hk.1) hD⟩;rw [hc];obtain ⟨h1,h2⟩:=List.getElem?_eq_some_iff.1 hs;simp [h2,slv]
def q89 {i:Nat} {r:List Int} (hT:q1y w) (hS:Sums w D L N0 g n rows ss) (hr:rows[i]?=some r) (hl:r.length≤1000) (ho:∀ x ∈ r,q07 x) (hv:q07 (q1A r)) (hD0:∀ k,N0≤k→D k) (hf:Fr D w) :
  Calls Tryz.prog 219 #[.slice (some ⟨g,0,none⟩) n n,.int .i64 i] w (Rt (fV (q1A r)) D w):=by
 obtain ⟨A,m,c,_,hin,hcell,hrow⟩:=hS.get hr hD0;have hm:=hrow.sl_len;refine q1J Tryz.func219 rfl Tryz.ntmps219 (by kernel_rfl) ?_;refine q0P fun K hK=>?_;refine Zz ?_;refine qpc ?_;intro g4 w4 hg4 hx4 hb4 hs4;refine hK _ _ ?_; clear hK K;have hx:Ext w w4:=hx4;replace hrow:=(hrow.nL (L:=[g4]) (by intro g hg; simp at hg; omega)).ext hx;have hD:Fr (Dl D [g4]) w4:=hf.nL hx (by intro g hg; simp at hg; omega);clear hx4;have hcell':w4.cell? ⟨g,i,none⟩=some (.slice A m c):=hx.cell (D:=fun _=>True) trivial hcell;have e1:(0:Int)≤i∧(i:Int) < n:=by omega
 refine q0P fun K hK=>?_;refine Zz2 e1 hcell' ?_;refine Cr qhT (qok (hT.ext hx) hrow Oq ho hv hD) fun v5 w5 hx5 h5=>?_;replace hrow:=hrow.ext hx5;replace hb4:=hb4.ext hx5;replace hD:=hD.kp hx5;replace hx:=hx.trans hx5;clear hx5;refine qmJ hb4 qm2 rfl (fV_s h5) fun w90 hk90 hb90=>?_;refine hK _ _ ?_; clear hK;refine q4A ?_
 try simp only [q1S,q4a]
 exact retS rfl Rf qpp hb90 (fV_s h5) (Rt.fin hx h5 hk90 (by simp) Oq)
end
def q9m {α:Type} {G:α→Fam} {T sz B n c:Nat} {A:Option Addr} {w:World} {D D':Nat→Prop} {l:List α} (h:q2q G T sz w D B A n c l) (h1:∀ k,k < w.heap.size→D k→nb A k→D' k):q2q G T sz w D' B A n c l:=by
 obtain ⟨vs,a1,a2,a3⟩:=h;exact ⟨vs,a1,a2.sub fun k hk hd=>⟨h1 k hk hd.1 hd.2,hd.2⟩,a3⟩
section
variable {D:Nat→Prop} {L:List Nat} {N0 g n i:Nat} {rows:List (List Int)} {ss:List (Option Addr × Nat × Nat)} {w w2 w3:World} {A A':Option Addr} {m c m' c':Nat} {r r':List Int}
def q1B {α:Type} {l:List α} {i j:Nat} {x y:α} (hj:(l.set i x)[j]?=some y):(i=j∧y=x∧i < l.length)∨(i≠j∧l[j]?=some y):=by
 by_cases h:i=j
 ·subst h
  rcases Nat.lt_or_ge i l.length with h1 | h1
  ·rw [List.getElem?_set_self h1] at hj;exact .inl ⟨rfl,(Option.some.inj hj).symm,h1⟩
  ·rw [List.getElem?_eq_none (by simpa using h1)] at hj; cases hj
 ·rw [List.getElem?_set_ne h] at hj;exact .inr ⟨h,hj⟩
def Sums.push (h:Sums w D L N0 g n rows ss) (hs:ss[i]?=some (A,m,c)) (hO:q2q fV 40 4 w2 (Dl D L) N0 A' m' c' r') (hk:Kp (nb A) w w2) (hat:A'=A∨∃ g',w.heap.size≤g'∧A'=some ⟨g',0,none⟩)
  (ho:Own w3 N0 45 1 (some ⟨g,0,none⟩) n n ((ss.set i (A',m',c')).map slv)) (hk3:Kp (fun k=>k≠g) w2 w3) (hs3:w3.heap.size=w2.heap.size) :
  ∃ L',(∀ k ∈ L,k ∈ L')∧(∀ k ∈ L',k ∈ L∨w.heap.size≤k)∧Sums w3 D L' N0 g n (rows.set i r') (ss.set i (A',m',c')):=by
 have hgs:=h.hi g h.gL;have hgl:=h.lo g h.gL;have hsz:=hk.size;have hnA:∀ k,k ∉ L→nb A k:=fun k hk a ha he=>hk (by have:=(h.mem i _ a hs ha).1; rw [he] at this; exact this);have hother:∀ (j:Nat) (s:Option Addr × Nat × Nat) (q:List Int),i≠j→ss[j]?=some s→rows[j]?=some q→q2q fV 40 4 w3 (Dl D L) N0 s.1 s.2.1 s.2.2 q:=fun j s q hij hsj hq=>by
  refine ((h.row j s q hsj hq).kp hk (fun k hd=>hnA k hd.2) fun a ha b hb=>?_).kp hk3 (fun k hd e=>hd.2 (e ▸ h.gL)) fun a ha=>(h.mem j s a hsj ha).2;exact h.ne i j _ s b a hij hs hsj hb ha
 rcases hat with rfl | ⟨g',hg',rfl⟩
 ·refine ⟨L,fun k hk=>hk,fun k hk=>.inl hk,ho,by simpa using h.len,fun j s q hsj hq=>?_,fun j s a hsj ha=>?_,fun j k s t a b hjk hsj htk ha hb=>?_,h.gL,h.lo,fun k hk=>by have:=h.hi k hk; omega⟩
  ·rcases q1B hsj with ⟨rfl,rfl,hlt⟩ | ⟨hne,hsj⟩
   ·rcases q1B hq with ⟨_,rfl,_⟩ | ⟨hne,_⟩
    ·exact hO.kp hk3 (fun k hd e=>hd.2 (e ▸ h.gL)) fun a ha=>(h.mem i _ a hs ha).2
    ·exact absurd rfl hne
   ·rcases q1B hq with ⟨rfl,_,_⟩ | ⟨_,hq⟩
    ·exact absurd rfl hne
    ·exact hother j s q hne hsj hq
  ·rcases q1B hsj with ⟨rfl,rfl,hlt⟩ | ⟨hne,hsj⟩
   ·exact h.mem i _ a hs ha
   ·exact h.mem j s a hsj ha
  ·rcases q1B hsj with ⟨rfl,rfl,hlt⟩ | ⟨hne,hsj⟩ <;> rcases q1B htk with ⟨rfl,rfl,hlt2⟩ | ⟨hne2,htk⟩
   ·exact absurd rfl hjk
   ·exact h.ne i k _ t a b hjk hs htk ha hb
   ·exact h.ne j i s _ a b hjk hsj hs ha hb
   ·exact h.ne j k s t a b hjk hsj htk ha hb
 ·have hlt':=hO.blk_lt _ rfl;simp only at hlt';refine ⟨g' :: L,fun k hk=>List.mem_cons_of_mem _ hk,fun k hk=>?_,ho,by simpa using h.len,fun j s q hsj hq=>?_,fun j s a hsj ha=>?_,fun j k s t a b hjk hsj htk ha hb=>?_,List.mem_cons_of_mem _ h.gL,fun k hk=>?_,fun k hk=>?_⟩
  ·rcases List.mem_cons.1 hk with rfl | hk
   ·exact .inr hg'
   ·exact .inl hk
  ·rcases q1B hsj with ⟨rfl,rfl,hlt⟩ | ⟨hne,hsj⟩
   ·rcases q1B hq with ⟨_,rfl,_⟩ | ⟨hne,_⟩
    ·have h1:q2q fV 40 4 w3 (Dl D L) N0 (some ⟨g',0,none⟩) m' c' q:=hO.kp hk3 (fun k hd e=>hd.2 (e ▸ h.gL)) fun a ha=>by cases ha; simp only; omega
     refine q9m h1 fun k _ hd hn=>⟨hd.1,fun hm=>?_⟩
     rcases List.mem_cons.1 hm with e | hm
     ·exact hn _ rfl e.symm
     ·exact hd.2 hm
    ·exact absurd rfl hne
   ·rcases q1B hq with ⟨rfl,_,_⟩ | ⟨_,hq⟩
    ·exact absurd rfl hne
    ·have h1:q2q fV 40 4 w (Dl D (g' :: L)) N0 s.1 s.2.1 s.2.2 q:=q9m (h.row j s q hsj hq) fun k hk hd _=>⟨hd.1,fun hm=>by
      rcases List.mem_cons.1 hm with e | hm
      ·omega
      ·exact hd.2 hm⟩
     refine (h1.kp hk (fun k hd=>hnA k fun hm=>hd.2 (List.mem_cons_of_mem _ hm)) fun a ha b hb=>?_).kp hk3 (fun k hd e=>hd.2 (List.mem_cons_of_mem _ (e ▸ h.gL))) fun a ha=>(h.mem j s a hsj ha).2;exact h.ne i j _ s b a hne hs hsj hb ha
  ·rcases q1B hsj with ⟨rfl,rfl,hlt⟩ | ⟨hne,hsj⟩
   ·cases ha;exact ⟨List.mem_cons_self,by simp only; omega⟩
   ·obtain ⟨h1,h2⟩:=h.mem j s a hsj ha;exact ⟨List.mem_cons_of_mem _ h1,h2⟩
  ·rcases q1B hsj with ⟨rfl,rfl,hlt⟩ | ⟨hne,hsj⟩ <;> rcases q1B htk with ⟨rfl,rfl,hlt2⟩ | ⟨hne2,htk⟩
   ·exact absurd rfl hjk
   ·cases ha;have:=h.hi _ (h.mem k t b htk hb).1;simp only; omega
   ·cases hb;have:=h.hi _ (h.mem j s a hsj ha).1;simp only; omega
   ·exact h.ne j k s t a b hjk hsj htk ha hb
  ·rcases List.mem_cons.1 hk with rfl | hk
   ·omega
   ·exact h.lo k hk
  ·rcases List.mem_cons.1 hk with rfl | hk
   ·omega
   ·have:=h.hi k hk; omega
end
def appV {w:World} {ty B n c g2:Nat} {A:Option Addr} {D:Nat→Prop} {l:List Int} {V:Int} {v:Value} (hO:q2q fV 40 4 w D B A n c l) (hv:In (fV V) (fun k=>D k∧nb A k) v w) (hb2:Blk w g2 40 v.cells) (hn:n≤1000000000) (hb:B≤w.heap.size) {K:Value→World→Prop}
  (hK:∀ A' c' w',q2q fV 40 4 w' D B A' (n+1) c' (l ++ [V])→Kp (nb A) w w'→(A'=A∨∃ g,w.heap.size≤g∧A'=some ⟨g,0,none⟩)→K (.slice A' (n+1) c') w') :
  qfp Tryz.prog #[45,45] ty [.slice A n c,.slice (some ⟨g2,0,none⟩) 1 1] w K:=by
 obtain ⟨vs,h1,h2,h3⟩:=hO;have hc:=(fV_s hv).cel;have hr:Row w (fun _=>True) 4 (some ⟨g2,0,none⟩) 1 1 v.cells.toList:=⟨Nat.le_refl _,by rw [Array.length_toList,hc.1],fun _=>⟨⟨g2,0,none⟩,rfl,trivial,fun j u hu=>by rw [q03,Nat.zero_add,hb2.cell]; simpa using hu⟩⟩;refine qk5 qje rfl Oq h1 hr (fun u hu=>List.all_eq_true.1 hc.2 u hu) Oq hb fun A' c' w' ho hk hat=>?_;have hat':A'=A∨∃ g,w.heap.size≤g∧A'=some ⟨g,0,none⟩:=hat.imp id fun h=>⟨_,Nat.le_refl _,h⟩;refine hK A' c' w' ⟨vs ++ [v],by rw [qc5]; exact ho,?_,by simp [h3]⟩ hk hat';have hs:=h2.snoc hv hc;exact ⟨hs.len,fun i y hy=>by
  obtain ⟨u,a,b,c⟩:=hs.get i y hy;exact ⟨u,a,b.grew hk hat',c⟩⟩
section
variable {D:Nat→Prop} {L:List Nat} {N0 g n i:Nat} {rows:List (List Int)} {ss:List (Option Addr × Nat × Nat)} {w w2 w3:World} {r:List Int} {x y:Nat} {a b V:Int}
def q4W (hT:q1y w) (hS:Sums w D L N0 g n rows ss) (hr0:rows[i]?=some r) (hx0:x < 18446744073709551616) (hy0:y < 18446744073709551616) (hxa:ofF x=some a) (hyb:ofF y=some b) (hV:mkV (a*b) (-131072)=some V) (hl:r.length≤1000000) (hf:Fr D w) :
  Calls Tryz.prog 220 #[.slice (some ⟨g,0,none⟩) n n,.int .i64 i,.int .u64 x,.int .u64 y] w fun e w'=>e=.returned (.tuple #[])∧Kp (fun k=>k ∉ L) w w'∧∃ L' ss',(∀ k ∈ L,k ∈ L')∧(∀ k ∈ L',k ∈ L∨w.heap.size≤k)∧Sums w' D L' N0 g n (rows.set i (r ++ [-V])) ss':=by
 obtain ⟨A,m,c,hss,hin,hcell,hrow⟩:=(hS.sub (D':=fun _=>True) fun _ _ _=>trivial).get hr0 fun _ _=>trivial;have hm:=hrow.sl_len;have e1:(0:Int)≤i∧(i:Int) < n:=by omega
 have hOi:=hS.row i _ r hss hr0;have hD:Fr (Dl D L) w:=fun k hk=>⟨hf k hk,fun hm=>by have:=hS.hi k hm; omega⟩;obtain ⟨X,hX1,hX2,hX3⟩:∃ X:List Nat,(∀ k,k ∉ X→nb A k)∧(∀ k ∈ X,k ∈ L∧k≠g)∧(∀ k,nb A k→k ∉ X):=by
  cases A with
  | none=>exact ⟨[],fun k _ a ha=>(by cases ha),fun k hk=>(by simp at hk),fun k _=>(by simp)⟩
  | some ad =>
   refine ⟨[ad.block],fun k hk a ha=>(by cases ha; simp at hk; exact fun e=>hk e.symm),fun k hk=>?_,fun k hk=>?_⟩
   ·simp at hk; subst hk; exact hS.mem i _ ad hss rfl
   ·simp; exact fun e=>hk ad rfl e.symm
 have hg0:g ∉ X:=fun h=>(hX2 g h).2 rfl;refine q1J Tryz.func220 rfl Tryz.ntmps220 (by kernel_rfl) ?_;have hx:Ext w w:=Kp.refl _ _;refine qpy q5C (Kp (fun k=>k ∉ X)) (fun _ _=>False) (Kp.pre _) [true,true,true,true,true,true,true,false,true,false,false,false,false,false,false,false] [false,false,false,false,false,false,false,false,false,false,false,false,false,false,false,false] [1,1,1,1,1,1,1,0,1,0,0,0,0,0,1,1] (by kernel_rfl) ?_
 apply Exists.intro
 refine ⟨fun wE hE KE hKE=>?_,fun wE hE KE hKE=>?_,fun wE hxE hr=>?_⟩
 ·have hcellE:=hE.cell (D:=fun k=>k ∉ X) (w':=wE) (by exact hg0) hcell;refine Zz2 e1 hcellE ?_;exact hKE
 ·exact hE.elim
 simp only [q6g,q6i,q6h];have hcellE:=hxE.cell (D:=fun _=>True) trivial hcell;have hnA:∀ k,k ∉ L→nb A k:=fun k hk a ha he=>hk (by have:=(hS.mem i _ a hss ha).1; rw [he] at this; exact this);simp -implicitDefEqProofs (disch:=omega) only [go_sem,Nat.reduceEqDiff,Nat.reduceAdd,↓reduceIte,List.toList_toArray,e1,hcellE];refine q05 q50 (qcd (hT.ext hxE) hx0 hxa (hD.kp hxE)) ?_;rintro _ w7 ⟨v7,rfl,hx7,h7⟩; refine ⟨_,rfl,⟨hr.trans (Kp.of_ext hx7),?_⟩⟩;have hy7:=hxE.trans hx7;refine q05 q50 (qcd (hT.ext hy7) hy0 hyb (hD.kp hy7)) ?_;rintro _ w9 ⟨v9,rfl,hx9,h9⟩; refine ⟨_,rfl,⟨(hr.trans (Kp.of_ext hx7)).trans (Kp.of_ext hx9),?_⟩⟩;have hy9:=hy7.trans hx9;refine q05 qhR (qom (hT.ext hy9) (h7.ext hx9) h9 hV (hD.kp hy9)) ?_;rintro _ w10 ⟨v10,rfl,hx10,h10⟩; refine ⟨_,rfl,⟨((hr.trans (Kp.of_ext hx7)).trans (Kp.of_ext hx9)).trans (Kp.of_ext hx10),?_⟩⟩;have hy10:=hy9.trans hx10;refine q05 qhS (qol (hT.ext hy10) h10 (hD.kp hy10)) ?_;rintro _ w11 ⟨v11,rfl,hx11,h11⟩; refine ⟨_,rfl,⟨(((hr.trans (Kp.of_ext hx7)).trans (Kp.of_ext hx9)).trans (Kp.of_ext hx10)).trans (Kp.of_ext hx11),?_⟩⟩;have hy11:=hy10.trans hx11;obtain ⟨s0,A0,n0,c0,rfl,_⟩:=id h11;rw [qpG];refine qhY fun w12 hx12 hb12 hs12=>⟨((((hr.trans (Kp.of_ext hx7)).trans (Kp.of_ext hx9)).trans (Kp.of_ext hx10)).trans (Kp.of_ext hx11)).trans (Kp.of_ext hx12),?_⟩;have hy12:=hy11.trans hx12;have hr12:=((((hr.trans (Kp.of_ext hx7)).trans (Kp.of_ext hx9)).trans (Kp.of_ext hx10)).trans (Kp.of_ext hx11)).trans (Kp.of_ext hx12);have hS12:=hS.ext hy12;have hO12:q2q fV 40 4 w12 (Dl D L) N0 A m c r:=hS12.row i _ r hss hr0;have h12:=h11.ext hx12;refine appV hO12 (h12.sub fun k _ hd=>⟨hd,hnA k hd.2⟩) hb12 Oq (by have:=hS.lo g hS.gL; have:=hS.hi g hS.gL; have:=hy12.size; omega) fun A' c' w13 hO13 hk13 hat=>⟨hr12.trans (hk13.mono fun k _ hk=>hX1 k hk),?_⟩;have hown:Own w13 N0 45 1 (some ⟨g,0,none⟩) n n (ss.map slv):=hS12.own.kp hk13 fun a ha b hb=>by
  cases ha;exact (hS.mem i _ b hss hb).2
 refine q8k hown hin qiM rfl rfl fun w14 hO14 hk14 hs14=>?_;have hO14':Own w14 N0 45 1 (some ⟨g,0,none⟩) n n ((ss.set i (A',m+1,c')).map slv):=by rw [List.map_set]; exact hO14
 obtain ⟨L',g1,g2,g3⟩:=hS12.push hss hO13 hk13 hat hO14' hk14 hs14;refine ret0n rfl ⟨rfl,?_,L',_,g1,fun k hk=>?_,g3⟩
 ·exact ((hy12.mono fun _ _ _=>trivial).trans (hk13.mono fun k _ hk=>hnA k hk)).trans (hk14.mono fun k _ hk e=>hk (e ▸ hS.gL))
 ·rcases g2 k hk with h | h
  ·exact .inl h
  ·exact .inr (Nat.le_trans hy12.size h)
end
def newRow {w1 w2:World} {D:Nat→Prop} {N0:Nat} {V:Int} {v:Value} (hb:Blk w2 w1.heap.size 40 v.cells) (hv:In (fV V) (fun k=>D k∧nb (some ⟨w1.heap.size,0,none⟩) k) v w2) (hN:N0≤w1.heap.size):q2q fV 40 4 w2 D N0 (some ⟨w1.heap.size,0,none⟩) 1 1 [V]:=by
 have hc:=(fV_s hv).cel;have h1:=Own.made (w:=w2) (w':=w1) (B:=N0) (sz:=4) (n:=1) (c:=1) hb (Nat.le_refl _) (by simp [maxLen]) (by rw [hc.1]) hN;refine ⟨[v],?_,by simpa using (Els.nil (G:=fV) (sz:=4)).snoc hv hc,rfl⟩;have:v.cells.toList.take (1*4)=q0U [v]:=by
  rw [List.take_of_length_le (by rw [Array.length_toList,hc.1]; omega)]; simp [q0U]
 rw [← this]; exact h1
def q5i (vals:List Int) (i n:Nat):List (List Int):=(vals.take i).map (fun V=>[V]) ++ List.replicate (n-i) []
def qb0 {vals:List Int} {i n:Nat} {V:Int} (hV:vals[i]?=some V) (hn:vals.length=n):(q5i vals i n).set i [V]=q5i vals (i+1) n:=by
 obtain ⟨hlt,he⟩:=List.getElem?_eq_some_iff.1 hV;unfold q5i;rw [List.take_succ_eq_append_getElem hlt,he,List.map_append,show n-i=(n-(i+1))+1 by omega,List.replicate_succ,List.set_append_right _ _ (by simp; omega)];simp [Nat.min_eq_left (Nat.le_of_lt hlt)]
def q9f {D:Nat→Prop} {A:Option Addr} {n c:Nat} {l:List Nat} {vals:List Int} {w:World} (hT:q1y w) (h:In (fSc q2A l) D (.slice A n c) w) (hl:vals.length=l.length) (hn:n≤1000000) (hv:∀ (i x:Nat),l[i]?=some x→x < 18446744073709551616∧∃ V,vals[i]?=some V∧ofF x=some V) (hf:Fr D w) :
  Calls Tryz.prog 218 #[.slice A n c] w fun e w'=>e=.returned (.slice (some ⟨w.heap.size,0,none⟩) n n)∧Ext w w'∧∃ L ss,Sums w' D L w.heap.size w.heap.size n (vals.map fun V=>[V]) ss:=by
 have hln:=h.sc_len;refine q1J Tryz.func218 rfl Tryz.ntmps218 (by kernel_rfl) ?_;refine Wz ?_;refine q0P fun K hK=>?_;refine Zz ?_;refine q6s (Nat.le_refl _) Oq (by unfold maxLen; omega) fun w0 hx0 hO0 hs0=>?_;generalize hg:w.heap.size=g at hO0;refine hK _ _ ?_; clear hK;refine q06 fun K0 hK0=>?_;refine Wz ?_;have hS0:Sums w0 D [g] g g n (q5i vals 0 n) (List.replicate n (none,0,0)):=by
  refine ⟨by simpa [slv] using hO0,by simp [q5i],?_,?_,?_,by simp,?_,?_⟩
  ·intro i s r hs hr;rw [List.getElem?_replicate] at hs;simp only [q5i,List.take_zero,List.map_nil,List.nil_append,List.getElem?_replicate] at hr
   split at hs
   ·split at hr
    ·cases hs;cases hr;exact q2q.nil
    ·cases hr
   ·cases hs
  ·intro i s a hs ha;rw [List.getElem?_replicate] at hs
   split at hs
   ·cases hs;cases ha
   ·cases hs
  ·intro i j s t a b _ hs _ ha _;rw [List.getElem?_replicate] at hs
   split at hs
   ·cases hs;cases ha
   ·cases hs
  ·intro k hk;simp at hk;omega
  ·intro k hk;simp at hk;omega
 refine q2p ?_;refine q70 (fun e2 w'=>∃ (i:Nat) (L:List Nat) (ss:List (Option Addr × Nat × Nat)),e2 11=.int .i64 i∧i≤n∧Ext w w'∧Sums w' D L g g n (q5i vals i n) ss∧∀ j,i≤j→j < n→ss[j]?=some (none,0,0)) (fun e2 _=>n-(RowKit.intOf (e2 11)).toNat) ⟨0,_,_,rfl,Nat.zero_le _,hx0,hS0,fun j _ hj=>by rw [List.getElem?_replicate,if_pos hj]⟩ ?_;rintro e1 w1 ⟨i,L,ss,k11,hi,hx,hS,hss⟩ hkk;have k3:e1 3=.slice (some ⟨g,0,none⟩) n n:=(hkk 3 (by kernel_rfl)).trans Ue;have k9:e1 9=.slice A n c:=(hkk 9 (by kernel_rfl)).trans Ue;have k10:e1 10=.int .i64 n:=(hkk 10 (by kernel_rfl)).trans Ue;clear hkk
 by_cases hlt:i < n
 ·have hlt':(i:Int) < n:=by omega
  refine Wz3 k11 k10 hlt' ?_;refine q06 fun K1 hK1=>?_;refine Wt (q2N (hK1 _ _ ?_));clear hK1;refine q2O fun K hK=>?_;obtain ⟨x,hxi⟩:∃ x,l[i]?=some x:=⟨_,List.getElem?_eq_getElem Oq⟩;obtain ⟨hx1,V,hV1,hV2⟩:=hv i x hxi;obtain ⟨ad,rfl,i1,x1⟩:=(h.ext hx).ixU hxi;have hD:Fr (Dl D L) w1:=fun k hk=>⟨hf k (Nat.le_trans hx.size hk),fun hm=>by have:=hS.hi k hm; omega⟩;refine Wz4 k9 k11 i1 x1 ?_;refine q3m fun K9 hK9=>?_;refine Zz2 k3 i1 ?_;refine Cr q50 (qcd (hT.ext hx) hx1 hV2 hD) fun v5 w5 hx5 h5=>?_;obtain ⟨s0,A0,n0,c0,rfl,_⟩:=id h5;simp -implicitDefEqProofs (disch:=omega) only [go_sem,Nat.reduceEqDiff,Nat.reduceAdd,↓reduceIte,qpG];refine qhY fun w6 hx6 hb6 hs6=>?_;have hS5:=hS.ext hx5;have hg5:=hS5.hi g hS5.gL;have hOn:=newRow hb6 ((h5.sub (D':=fun k=>Dl D L k∧nb (some ⟨w5.heap.size,0,none⟩) k) fun k hk hd=>⟨hd,fun a ha e=>by cases ha; simp only at e; omega⟩).ext hx6) (Nat.le_of_lt hg5);have hsi:=hss i (Nat.le_refl _) hlt;refine q8k (hS5.ext hx6).own hlt qiM rfl rfl fun w7 hO7 hk7 hs7=>?_;refine hK9 _ _ ?_; clear hK9;have hO7':Own w7 g 45 1 (some ⟨g,0,none⟩) n n ((ss.set i (some ⟨w5.heap.size,0,none⟩,1,1)).map slv):=by rw [List.map_set]; exact hO7
  obtain ⟨L',g1,g2,g3⟩:=hS5.push hsi hOn (Kp.of_ext hx6) (.inr ⟨_,Nat.le_refl _,rfl⟩) hO7' hk7 hs7;rw [qb0 hV1 (by omega)] at g3;refine hK _ _ ?_; clear hK;refine q3m fun K9 hK9=>?_;refine Zz2 k11 @i64_in ?_;refine hK9 _ _ ?_; clear hK9 K9;refine ⟨⟨i+1,L',_,rfl,by omega,((hx.trans hx5).trans hx6).under hk7 fun k hk=>by omega,g3,fun j hj1 hj2=>?_⟩,by simp only [q0z,↓reduceIte,RowKit.intOf,k11]; omega⟩;rw [List.getElem?_set_ne (by omega)]; exact hss j Oq hj2
 ·have hlt':¬ (i:Int) < n:=by omega
  refine Wz3 k11 k10 hlt' ?_;refine q06 fun K1 hK1=>?_;refine Wf (q52 (hK0 _ _ ?_));obtain rfl:i=n:=by omega
  have hr:q5i vals i i=vals.map fun V=>[V]:=by
   unfold q5i; rw [List.take_of_length_le Oq,Nat.sub_self]; simp
  rw [hr] at hS;refine Wz1 k3 ?_;refine q4A ?_
  try simp only [q1S,q4a]
  refine qnA rfl ⟨by simp only [q0z,Nat.reduceEqDiff,↓reduceIte,hg],hx,L,ss,by rw [hg]; exact hS⟩
end Go.Proofs.YtfmojhhokfkdaaaGreatDoor
namespace Go.Sp
open Go Go.E
def q3k (raw:List Nat):Nat→List Int
 | 0=>[]
 | i+1=>(q3k raw i).take (q6Y ((q4t raw (700+i) / 2:Nat):Int) (i+1)) ++ [(i:Int)] ++ (q3k raw i).drop (q6Y ((q4t raw (700+i) / 2:Nat):Int) (i+1))
def q5m (raw:List Nat):∀ n,(q3k raw n).length=n
 | 0=>rfl
 | n+1=>by
  have ih:=q5m raw n;have:=q5r (a:=((q4t raw (700+n) / 2:Nat):Int)) (n:=n+1) Oq;unfold q3k;simp only [List.length_append,List.length_take,List.length_drop,List.length_singleton,ih];omega
def q5l (raw:List Nat):∀ n (x:Int),x ∈ q3k raw n→0≤x∧x < n
 | 0,x,h=>by simp [q3k] at h
 | n+1,x,h=>by
  unfold q3k at h;rw [List.mem_append,List.mem_append] at h
  rcases h with (h | h) | h
  ·have:=q5l raw n x (List.mem_of_mem_take h); omega
  ·simp at h; omega
  ·have:=q5l raw n x (List.mem_of_mem_drop h); omega
def q6p (raw:List Nat):∀ n,(q3k raw n).Nodup
 | 0=>by simp [q3k]
 | n+1=>by
  have ih:=q6p raw n;unfold q3k;generalize q6Y _ _=p;have hp:((q3k raw n).take p ++ [(n:Int)] ++ (q3k raw n).drop p).Perm ((n:Int) :: q3k raw n):=by
   rw [List.append_assoc];have h1:((q3k raw n).take p ++ (n:Int) :: (q3k raw n).drop p).Perm ((n:Int) :: ((q3k raw n).take p ++ (q3k raw n).drop p)):=List.perm_middle;rw [List.take_append_drop] at h1;exact h1
  rw [hp.nodup_iff,List.nodup_cons];exact ⟨fun h=>by have:=q5l raw n _ h; omega,ih⟩
end Go.Sp
namespace Go.Proofs.YtfmojhhokfkdaaaGreatDoor
open Go.Sp
def qe4 (raw:List Nat) (n:Nat):qgt (q3k raw n):=⟨fun x hx=>by rw [q5m]; exact q5l raw n x hx,q6p raw n⟩
end Go.Proofs.YtfmojhhokfkdaaaGreatDoor
namespace Go.Sp
open Go Go.E
def ofZ (x:Nat):Int:=(ofF x).getD 0
def q0g (x y:Nat):Int:=(mkV (ofZ x*ofZ y) (-131072)).getD 0
def q2U {f:Nat} (hf:q0N f):∃ (m:Int) (k:Nat),ofF f=some (m*(2:Int) ^ k)∧bl m.natAbs≤53∧64462≤k∧k≤66507:=by
 unfold q0N at hf;have hx:=Nat.mod_lt (f / 4503599627370496) (show 0 < 2048 by omega);have hm:=Nat.mod_lt f (show 0 < 4503599627370496 by omega);unfold ofF;rw [if_neg hf];generalize f / 4503599627370496 % 2048=x at *;generalize f % 4503599627370496=m at *;have h53:∀ n:Nat,n < 9007199254740992→bl n≤53:=fun n h=>q0O (Nat.lt_of_lt_of_le h (Nat.le_refl _))
 split
 ·exact ⟨_,64462,rfl,by rw [q1o]; exact h53 _ Oq,by omega,by omega⟩
 ·exact ⟨_,64461+x,rfl,by rw [q1o]; exact h53 _ Oq,by omega,by omega⟩
def q0W {f:Nat} {V:Int} (h:ofF f=some V):ofZ f=V:=by unfold ofZ; rw [h]; rfl
def q0Z {f:Nat} (hf:q0N f):ofF f=some (ofZ f):=by
 obtain ⟨m,k,h,_⟩:=q2U hf;rw [q0W h,h]
def q6q {f:Nat} (hf:q0N f):bl (ofZ f).natAbs≤67600:=by
 obtain ⟨m,k,h,h1,h2,h3⟩:=q2U hf;rw [q0W h]
 by_cases hm:m=0
 ·subst hm; rw [Int.zero_mul]; simp [q1W]
 ·rw [q0J,q1h (by omega)]; omega
def q0k {x y:Nat} (hx:q0N x) (hy:q0N y):mkV (ofZ x*ofZ y) (-131072)=some (q0g x y)∧bl (q0g x y).natAbs≤67600:=by
 obtain ⟨m,k,h,h1,h2,h3⟩:=q2U hx;obtain ⟨m',k',h',h1',h2',h3'⟩:=q2U hy;have e:ofZ x*ofZ y=m*m'*(2:Int) ^ (k+k'):=by
  rw [q0W h,q0W h',Int.pow_add];simp only [Int.mul_assoc,Int.mul_left_comm,Int.mul_comm]
 unfold q0g;rw [e,q1G]
 by_cases hM:m*m'=0
 ·rw [hM,q1E]; exact ⟨rfl,by simp [q1W]⟩
 ·have hb:bl (m*m').natAbs≤106:=by
   rw [Int.natAbs_mul];exact Nat.le_trans (q3S _ _) Oq
  generalize m*m'=M at *;have ht:=qdy (n:=M.natAbs) Oq;unfold mkV;rw [if_neg hM,if_pos (by omega)];refine ⟨rfl,?_⟩;have ho:=q8T hM;have hne:=q3y hM;rw [Option.getD_some,q0J,q1h (by omega)];omega
end Go.Sp
namespace Go.Proofs.YtfmojhhokfkdaaaGreatDoor
open Go Go.E Go.Sp
def qbA (f:Fac) (q:Nat):Nat→Nat→List (List Int)→List (List Int)
 | _,0,rows=>rows
 | p,c+1,rows=>qbA f q (p+1) c (rows.set (f.ri.getD p 0).toNat (rows.getD (f.ri.getD p 0).toNat [] ++ [-(q0g (f.vs.getD p 0) q)]))
def qdg (f:Fac):List Int→List (List Int)→List Nat→Option (List Nat)
 | [],_,ys=>some ys
 | k :: ks,rows,ys =>
  if q0N (fQ 0 (q1A (rows.getD k.toNat [])) (ofZ (f.vs.getD (f.cp.getD k.toNat 0).toNat 0))) then
   qdg f ks (qbA f (fQ 0 (q1A (rows.getD k.toNat [])) (ofZ (f.vs.getD (f.cp.getD k.toNat 0).toNat 0))) ((f.cp.getD k.toNat 0).toNat+1) ((f.cp.getD (k.toNat+1) 0).toNat-((f.cp.getD k.toNat 0).toNat+1)) rows) (ys.set k.toNat (fQ 0 (q1A (rows.getD k.toNat [])) (ofZ (f.vs.getD (f.cp.getD k.toNat 0).toNat 0))))
  else none
def getD_some {α:Type} {l:List α} {i:Nat} {x d:α} (h:l[i]?=some x):l.getD i d=x:=by rw [List.getD_eq_getElem?_getD,h]; rfl
def q7C {f:Fac} {k a b x:Nat} {ks:List Int} {rows:List (List Int)} {ys:List Nat} {r:List Int} (ha:f.cp[k]?=some (a:Int)) (hb:f.cp[k+1]?=some (b:Int)) (hx:f.vs[a]?=some x) (hr:rows[k]?=some r) :
  qdg f ((k:Int) :: ks) rows ys=if q0N (fQ 0 (q1A r) (ofZ x)) then qdg f ks (qbA f (fQ 0 (q1A r) (ofZ x)) (a+1) (b-(a+1)) rows) (ys.set k (fQ 0 (q1A r) (ofZ x))) else none:=by
 rw [qdg,show ((k:Int)).toNat=k by omega,getD_some ha,getD_some hb,getD_some hr,show ((a:Int)).toNat=a by omega,show ((b:Int)).toNat=b by omega,getD_some hx]
def q6c {f:Fac} {q p c i x:Nat} {rows:List (List Int)} {r:List Int} (hi:f.ri[p]?=some (i:Int)) (hx:f.vs[p]?=some x) (hr:rows[i]?=some r) :
  qbA f q p (c+1) rows=qbA f q (p+1) c (rows.set i (r ++ [-(q0g x q)])):=by
 show qbA f q (p+1) c _=_
 rw [getD_some hi,show ((i:Int)).toNat=i by omega,getD_some hx,getD_some hr]
def q8i {f:Fac} {q:Nat}:∀ (c p:Nat) (rows:List (List Int)),(qbA f q p c rows).length=rows.length
 | 0,_,_=>rfl
 | c+1,p,rows=>by
  show (qbA f q (p+1) c _).length=_
  rw [q8i]; simp
def Col.mono {f:Fac} {j a b:Nat} (h:Col f j a b):∀ (d p:Nat) (y z:Int),a≤p→p+d < b→f.ri[p]?=some y→f.ri[p+d]?=some z→(if d=0 then y=z else y < z)
 | 0,p,y,z,_,_,h1,h2=>by
  rw [if_pos rfl];rw [Nat.add_zero,h1] at h2; exact Option.some.inj h2
 | d+1,p,y,z,ha,hb,h1,h2=>by
  rw [if_neg (by omega)];obtain ⟨u,v,hu,hv,huv⟩:=h.inc (p+(d+1)) Oq hb;rw [h2] at hv;obtain rfl:=Option.some.inj hv;have:=h.mono d p y u ha Oq h1 (by rw [show p+d=p+(d+1)-1 by omega]; exact hu)
  split at this <;> omega
def Col.row {f:Fac} {j a b p:Nat} (h:Col f j a b) (hn:f.pm.length≤200) (h1:a < p) (h2:p < b):∃ i:Nat,f.ri[p]?=some (i:Int)∧j < i∧i < f.pm.length:=by
 have hle:=h.le;obtain ⟨z,hz⟩:∃ z,f.ri[p]?=some z:=⟨_,List.getElem?_eq_getElem Oq⟩;have m1:=h.mono (p-a) a j z (Nat.le_refl _) Oq h.first (by rw [show a+(p-a)=p by omega]; exact hz)
 rw [if_neg (by omega)] at m1;obtain ⟨l,hl,hlt⟩:=h.last;have m2:=h.mono (b-1-p) p z l Oq Oq hz (by rw [show p+(b-1-p)=b-1 by omega]; exact hl);have:z≤l:=by split at m2 <;> omega
 refine ⟨z.toNat,?_,by omega,by omega⟩;rw [hz]; congr 1; omega
def q1w (f:Fac) (x:Int):Nat→Nat→Nat
 | _,0=>0
 | a,k+1=>if f.ri[a]?=some x then f.vs.getD a 0 else q1w f x (a+1) k
def qcR {l:List Nat} {i:Nat} (h:∀ x ∈ l,x < 18446744073709551616∧q0N x):l.getD i 0 < 18446744073709551616∧q0N (l.getD i 0):=by
 rw [List.getD_eq_getElem?_getD];cases hx:l[i]? with
 | none=>exact ⟨by simp,by unfold q0N; simp⟩
 | some x=>exact h x (List.mem_of_getElem? hx)
def qb6 {x:Nat} {V:Int} (hx:x < 18446744073709551616) (hv:ofF x=some V):ACt 19 [uv x] (pV V):=by
 obtain ⟨V',hv',hmk⟩:=q5o (f:=x) fun h=>by unfold ofF at hv; rw [if_pos h] at hv; cases hv
 rw [hv] at hv'; cases hv';exact qaC (q3Z (qnY hx hv)) (q2J hmk).2.2.2
def clI {l:List Int}:ClL (l.map fun z=>iv z):=fun x hx=>by
 obtain ⟨e,_,rfl⟩:=List.mem_map.1 hx
 trivial
def qm0 {id m n:Nat} (h:m≤n):slP (some 1) none (some (iv (m:Int))) (.ow id none 0 n)=some (.ow id none 0 m):=by
 simp [slP,qa1,ksz];omega
def qmZ {id m n:Nat} (h:m≤n):slP (some 1) (some (iv (m:Int))) none (.ow id none 0 n)=some (.ow id none m (n-m)):=by
 simp [slP,qa1,ksz];omega
def qe3 {raw:List Nat} {N:Nat} (hr:raw.length≤9223372036854775807) (hN:N≤1000000):ACt 43 [pF raw,iv N] (pI (q3k raw N)):=by
 have hol:=q5m raw;refine ac0 Tryz.func43 Tryz.ntmps43 [.tmp 4] ?_;refine wk ?_;refine q0C (fun i=>i≤N) [0,1] [] Lk Lk (fun i:Nat=>[(6,iv i),(5,.ow 1001 none 0 i)]) (fun i=>[(1001,⟨3,none,(q3k raw i).map fun z=>iv z,false⟩)]) (fun i=>N-i) 0 (Nat.zero_le _) ?_ ?_
 ·refine LeM [(1001,some 8)] rfl rfl ?_;refine Zz ?_;exact ⟨rfl,rfl⟩
 ·intro i hi
  by_cases hlt:i < N
  ·have C1:=qal (raw:=raw) (k:=700+(i:Int)) hr Oq Oq;have C2:=qbq (a:=((q4t raw (700+(i:Int)) / 2:Nat):Int)) (n:=i+1) Oq (by have:=q79 raw (700+(i:Int)); omega) Oq Oq;have e2':IntKind.i64.wrap ((i:Int)+1)=((i+1:Nat):Int):=by rw [i64_in (by omega) (by omega)]; omega
   have e3':IntKind.i64.wrap ((q4t raw (700+i) / 2:Nat):Int)=((q4t raw (700+i) / 2:Nat):Int):=i64_in Oq (by have:=q79 raw (700+(i:Int)); omega);have hs:q3k raw (i+1)=(q3k raw i).take (q6Y ((q4t raw (700+i) / 2:Nat):Int) (i+1)) ++ [(i:Int)] ++ (q3k raw i).drop (q6Y ((q4t raw (700+i) / 2:Nat):Int) (i+1)):=rfl;have hlt2:=q5r (a:=((q4t raw (700+i) / 2:Nat):Int)) (n:=i+1) Oq;have hl:=hol i;generalize q6Y ((q4t raw (700+i) / 2:Nat):Int) (i+1)=m at *;generalize q3k raw i=L at *;have f1:slP (some 1) none (some (iv (m:Int))) (.ow 1001 none 0 i)=some (.ow 1001 none 0 m):=qm0 Oq;have f2:slP (some 1) (some (iv (m:Int))) none (.ow 1001 none 0 i)=some (.ow 1001 none m (i-m)):=qmZ Oq;have f3:(List.take m (List.map (fun z=>iv z) L)).length=m:=by
    rw [List.length_take,List.length_map];omega
   have f4:(List.drop m (List.map (fun z=>iv z) L)).length=i-m:=by rw [List.length_drop,List.length_map,hl]
   have f5:List.take (i-m) (List.drop m (List.map (fun z=>iv z) L))=List.drop m (List.map (fun z=>iv z) L):=List.take_of_length_le Oq;refine wk1 (x6 e2' e3' hl f1 f2 (x3 f3 f4 f5)) ?_;refine ⟨i+1,by omega,by omega,?_⟩;rw [hs];have f6:(List.take m (List.map (fun z=>iv z) L) ++ [iv (i:Int)] ++ List.drop m (List.map (fun z=>iv z) L))=(List.take m L ++ [(i:Int)] ++ List.drop m L).map fun z=>iv z:=by simp
   refine LeM [(1001,some 34)] rfl rfl ?_;refine Zz ?_;rw [f6];exact ⟨by omega,q17 rfl clI⟩
  ·obtain rfl:i=N:=by omega
   exact wk1 (hol i) trivial
end Go.Proofs.YtfmojhhokfkdaaaGreatDoor
namespace Go.Sp
open Go Go.E
def q4n {a:Nat} (ha:a < 18446744073709551616):q0n .andNot .u64 (a:Int) 9223372036854775808=((a % 9223372036854775808:Nat):Int):=by
 have h2:(BitVec.ofInt 64 (a:Int) &&& ~~~(BitVec.ofInt 64 9223372036854775808)).toNat=a % 9223372036854775808:=by
  rw [show ~~~(BitVec.ofInt 64 9223372036854775808)=BitVec.ofNat 64 9223372036854775807 from rfl,q3R,BitVec.toNat_and,BitVec.toNat_ofNat,BitVec.toNat_ofNat,Nat.mod_eq_of_lt ha];exact Nat.and_two_pow_sub_one_eq_mod a 63
 show IntKind.u64.wrap ((BitVec.ofInt 64 (a:Int) &&& ~~~(BitVec.ofInt 64 9223372036854775808)).toNat:Int)=_
 rw [h2,q0j];omega
def q4w (f:Nat):Nat:=f % 9223372036854775808
def q5B (f:Nat):Nat:=if f < 9223372036854775808 then f+9223372036854775808 else f-9223372036854775808
def q9L (f:Nat):Int:=if 9223372036854775808≤f then -(q4w f:Int) else q4w f
def qlU (a b:Int):Int:=if a < b then -1 else if b < a then 1 else 0
def q6P {f:Nat}:q4w f < 9223372036854775808:=Nat.mod_lt _ Oq
def q9k {f:Nat} (h:q0N f):q0N (q4w f):=by unfold q0N q4w at *; omega
def q4I {f:Nat} (h:q0N f):q1Q f≠3:=by unfold q0N at h; unfold q1Q; rw [if_neg fun q=>h q.1,if_neg h]; split <;> omega
def q6w {f:Nat} (hf:f < 18446744073709551616):q1Q f=0 ↔ q4w f=0:=by
 unfold q1Q q4w
 constructor
 ·intro h
  split at h
  ·cases h
  ·split at h
   ·cases h
   ·split at h
    ·omega
    ·cases h
 ·intro h;rw [if_neg (by omega),if_neg (by omega),if_pos (by omega)]
end Go.Sp
namespace Go.Proofs.YtfmojhhokfkdaaaGreatDoor
open Go Go.E Go.Sp
section
variable {f g:Nat}
def q6C (hf:f < 18446744073709551616):ACt 95 [uv f] (iv (q1Q f:Nat)):=by
 have C1:=@q4f f hf;unfold q1Q;generalize f / 4503599627370496 % 2048=x at *;generalize f % 4503599627370496=m at *;refine ac0 Tryz.func95 Tryz.ntmps95 [.tmp 2] ?_
 by_cases hx2:x=2047
 ·by_cases hm0:m=0
  ·rw [if_neg (by simp [hm0]),if_pos hx2];exact wk1 (show ((2:Nat):Int)=2 from rfl) trivial
  ·rw [if_pos ⟨hx2,hm0⟩];exact wk1 (show ((3:Nat):Int)=3 from rfl) trivial
 ·rw [if_neg fun h=>hx2 h.1,if_neg hx2]
  by_cases hx0:x=0
  ·by_cases hm0:m=0
   ·rw [if_pos ⟨hx0,hm0⟩];exact wk1 (show ((0:Nat):Int)=0 from rfl) trivial
   ·rw [if_neg fun h=>hm0 h.2];exact wk1 (show ((1:Nat):Int)=1 from rfl) trivial
  ·rw [if_neg fun h=>hx0 h.1];exact wk1 (show ((1:Nat):Int)=1 from rfl) trivial
def qcf {l:List Nat} (hl:q0x l) (hn:l.length≤1000):ACt 170 [pF l] (bv false):=by
 refine ac0 Tryz.func170 Tryz.ntmps170 [.tmp 2] ?_;refine wk ?_;refine q0C (fun i=>i≤l.length) [5,6] [] Lk Lk (fun i:Nat=>[(7,iv i)]) (fun _=>[]) (fun i=>l.length-i) 0 (Nat.zero_le _) ?_ ?_
 ·refine LeM [] rfl rfl ?_;refine Zz ?_
  rfl
 ·intro i hi
  by_cases hlt:i < l.length
  ·obtain ⟨x,hx⟩:∃ x,l[i]?=some x:=⟨_,List.getElem?_eq_getElem hlt⟩;obtain ⟨h1,h2⟩:=hl x (List.mem_of_getElem? hx);have C1:=q6C h1;have q:(((q1Q x:Nat):Int) == 3)=false:=by
    have:=q4I h2;simp; omega
   refine wk1 (x2 hx q) ?_;refine ⟨i+1,by omega,by omega,?_⟩;refine LeM [] rfl rfl ?_;refine Zz ?_;omega
  ·exact wk trivial
def q7H (hf:f < 18446744073709551616):ACt 171 [uv f] (iv (q9L f)):=by
 have C1:=@qce f hf;have h1:=q4n hf;have h2:=q6P (f:=f);unfold q9L;rw [show f % 9223372036854775808=q4w f from rfl] at h1;refine ac0 Tryz.func171 Tryz.ntmps171 [.tmp 2] ?_
 by_cases h:9223372036854775808≤f
 ·rw [if_pos h];rw [decide_eq_true h] at C1;exact wk1 (x2 h1 @Int.zero_sub) trivial
 ·rw [if_neg h];rw [decide_eq_false h] at C1;exact wk1 h1 trivial
def qjb (hf:f < 18446744073709551616) (h:q0N f):ACt 97 [uv f] (uv (q4w f:Nat)):=by
 have C1:ACt 170 [.sl none [uv f]] (bv false):=qcf (l:=[f]) (fun x hx=>by simp at hx; subst hx; exact ⟨hf,h⟩) (by simp);have N1:Nz (bv false):=qn1;have h1:=q4n hf;rw [show f % 9223372036854775808=q4w f from rfl] at h1;refine ac0 Tryz.func97 Tryz.ntmps97 [.tmp 2] ?_;exact wk1 h1 trivial
def qja (hf:f < 18446744073709551616) (h:q0N f) (hg:g < 18446744073709551616) (hgf:q0N g):ACt 96 [uv f,uv g] (.tu [iv (qlU (q9L f) (q9L g)),bv true]):=by
 have C1:ACt 170 [.sl none [uv f,uv g]] (bv false):=qcf (l:=[f,g]) (fun x hx=>by simp at hx; rcases hx with rfl | rfl <;> exact ⟨by assumption,by assumption⟩) (by simp);have N1:Nz (bv false):=qn1;have C2:=q7H hf;have C3:=q7H hg;unfold qlU;generalize q9L f=x at *;generalize q9L g=y at *;refine ac0 Tryz.func96 Tryz.ntmps96 [.tmp 4,.tmp 5] ?_
 by_cases h1:x < y
 ·rw [if_pos h1];exact wk trivial
 ·rw [if_neg h1]
  by_cases h2:y < x
  ·rw [if_pos h2];exact wk trivial
  ·rw [if_neg h2];exact wk trivial
def qeW (hf:f < 18446744073709551616) (h:q0N f):ACt 82 [uv f] (bv false):=by
 have:=qi5 hf
 rwa [decide_eq_false (q4I h)] at this
end


def qeC {a:Int} (ha:bl a.natAbs≤20000000):ACt 78 [bT a] (iv a.sign):=q4L rfl ha
structure Aln (A B x y e:Int):Prop where
 e1 : -65536≤e
 e2:e≤65536
 a:x*(2:Int) ^ (e+65536).toNat=A
 b:y*(2:Int) ^ (e+65536).toNat=B
def qcA {x V:Int} {k:Nat} (h:x*(2:Int) ^ k=V) (hv:q07 V):bl x.natAbs≤131072:=by
 subst h;unfold q07 at hv;rw [q0J] at hv
 by_cases h0:x.natAbs=0
 ·rw [h0]; simp [bl]
 ·rw [q1h h0] at hv; omega
def Aln.bl {A B x y e:Int} (h:Aln A B x y e) (ha:q07 A) (hb:q07 B):Sp.bl x.natAbs≤131072∧Sp.bl y.natAbs≤131072:=⟨qcA h.a ha,qcA h.b hb⟩
def qdL {a b:Int} {k:Nat} (ha:bl a.natAbs≤k) (hb:bl b.natAbs≤k):bl (a+b).natAbs≤k+1:=by
 have h1:=q1i ha;have h2:=q1i hb;exact qdJ.2 (by rw [Nat.pow_succ]; omega)
def Aln.sgn {A B x y e:Int} (h:Aln A B x y e):(x-y).sign=(A-B).sign:=by
 rw [← h.a,← h.b,← Int.sub_mul,Int.sign_mul,Int.sign_eq_one_of_pos (q0H _),Int.mul_one]
def Aln.sum {A B x y e:Int} (h:Aln A B x y e) (ho:q07 (A+B)):mkV (x+y) e=some (A+B):=by
 rw [q5t h.e1 (V:=A+B) (by rw [Int.add_mul,h.a,h.b]),q3F ho]

def q73 (l:List Int) (n:Int):Prop:=(l.length:Int)=n∧(∀ x ∈ l,0≤x∧x < n)∧l.Nodup
def q4y (l:List Int) (i:Nat):List Bool:=(List.range l.length).map fun k:Nat=>decide ((k:Int) ∈ l.take i)
def qeN {l:List Int} {i:Nat}:(q4y l i).length=l.length:=by simp [q4y]
def qmj {l:List Int}:List.replicate l.length false=q4y l 0:=by simp [q4y,List.map_const']
def qeO {l:List Int} {i k:Nat} (hk:k < l.length):(q4y l i)[k]?=some (decide ((k:Int) ∈ l.take i)):=by simp [q4y,hk]
def qeM {l:List Int} {i k:Nat} (hi:l[i]?=some (k:Int)):(q4y l i).set k true=q4y l (i+1):=by
 obtain ⟨hlt,he⟩:=List.getElem?_eq_some_iff.1 hi
 apply List.ext_getElem?
 intro m;rw [List.getElem?_set];simp only [q4y,List.getElem?_map,List.length_map,List.length_range,List.take_succ_eq_append_getElem hlt,he,List.mem_append,List.mem_singleton]
 by_cases hm:m < l.length
 ·rw [List.getElem?_range hm]
  by_cases hkm:k=m
  ·subst hkm; simp [hm]
  ·rw [if_neg hkm]; simp; omega
 ·rw [List.getElem?_eq_none (by simp; omega)]
  by_cases hkm:k=m <;> simp [hkm] <;> omega
def q8b {α:Type} {l:List α} {i:Nat} {x:α} (hx:l[i]?=some x):l.take (i+1)=l.take i ++ [x]:=by
 obtain ⟨h1,h2⟩:=List.getElem?_eq_some_iff.1 hx;rw [List.take_succ_eq_append_getElem h1,h2]
def qbh (rows cols:Int) (st ix:List Int) (vl:List Nat):PV:=.ag [iv rows,iv cols,pI st,pI ix,pF vl]
structure MSz (rows cols:Int) (ix:List Int):Prop where
 r0:¬ rows < 0
 r1:¬ 200 < rows
 c0:¬ cols < 0
 c1:¬ 200 < cols
 i1:¬ (10000:Int) < ix.length
structure MPt (cols:Int) (st ix:List Int) (vl:List Nat):Prop where
 v:vl.length=ix.length
 s:(st.length:Int)=cols+1
 f:st[0]?=some 0
 l:st[cols.toNat]?=some (ix.length:Int)
 m:∀ (j:Nat) (x y:Int),st[j]?=some x→st[j+1]?=some y→x≤y
def MIx1 (rows:Int) (ix:List Int) (x:Int) (k:Nat):Prop:=∀ v,ix[k]?=some v→0≤v∧v < rows∧(x < k→∀ u,ix[k-1]?=some u→u < v)
def MIx (rows:Int) (st ix:List Int):Prop:=∀ (j:Nat) (x y:Int),st[j]?=some x→st[j+1]?=some y→∀ k:Nat,x≤k→(k:Int) < y→MIx1 rows ix x k
open Classical in
noncomputable def qpA (rows cols:Int) (st ix:List Int) (vl:List Nat):Int :=
 if MSz rows cols ix then (if MPt cols st ix vl∧MIx rows st ix then (if ∀ x ∈ vl,q0N x then 0 else 4) else 1) else 6
def MPt.nn {cols:Int} {st ix:List Int} {vl:List Nat} (h:MPt cols st ix vl):∀ (j:Nat) (x:Int),st[j]?=some x→0≤x
 | 0,x,hx=>by rw [h.f] at hx; cases hx; omega
 | j+1,x,hx=>by
  have hlt:=(List.getElem?_eq_some_iff.1 hx).1;have hj:st[j]?=some st[j]:=List.getElem?_eq_getElem Oq;have:=h.m j _ _ hj hx;have:=h.nn j _ hj;omega
def MPt.ub {cols:Int} {st ix:List Int} {vl:List Nat} (h:MPt cols st ix vl) (hc:0≤cols):∀ (d j:Nat) (x:Int),j+d=cols.toNat→st[j]?=some x→x≤ix.length
 | 0,j,x,hd,hx=>by
  have:j=cols.toNat:=by omega
  subst this;rw [h.l] at hx; cases hx; omega
 | d+1,j,x,hd,hx=>by
  have hlt:j+1 < st.length:=by have:=h.s; omega
  have hj:st[j+1]?=some st[j+1]:=List.getElem?_eq_getElem hlt;have:=h.m j _ _ hx hj;have:=h.ub hc d (j+1) _ Oq hj;omega
def MPt.col {n:Nat} {st ix:List Int} {vl:List Nat} (h:MPt n st ix vl) {j:Nat} (hj:j < n):∃ a b:Nat,st[j]?=some (a:Int)∧st[j+1]?=some (b:Int)∧a≤b∧b≤ix.length∧(st.getD j 0).toNat=a∧(st.getD (j+1) 0).toNat=b:=by
 have hs:=h.s;obtain ⟨x,hx⟩:∃ x,st[j]?=some x:=⟨_,List.getElem?_eq_getElem Oq⟩;obtain ⟨y,hy⟩:∃ x,st[j+1]?=some x:=⟨_,List.getElem?_eq_getElem Oq⟩;have h1:=h.nn j x hx;have h2:=h.nn (j+1) y hy;have h3:=h.m j x y hx hy;have h4:=h.ub (by omega) (n-(j+1)) (j+1) y (by rw [Int.toNat_natCast]; omega) hy;refine ⟨x.toNat,y.toNat,by rw [hx]; congr 1; omega,by rw [hy]; congr 1; omega,by omega,by omega,?_,?_⟩
 ·rw [List.getD_eq_getElem?_getD,hx]; rfl
 ·rw [List.getD_eq_getElem?_getD,hy]; rfl

def tC (f:Nat→Nat→Option Nat) (j:Nat) (p:List Int × List Nat):Nat→List Int × List Nat
 | 0=>p
 | i+1=>match f j i with
  | some x=>((tC f j p i).1 ++ [(i:Int)],(tC f j p i).2 ++ [x])
  | none=>tC f j p i
def tM (f:Nat→Nat→Option Nat) (R:Nat):Nat→List Int × List Int × List Nat
 | 0=>([0],[],[])
 | j+1=>((tM f R j).1 ++ [((tC f j (tM f R j).2 R).1.length:Int)],tC f j (tM f R j).2 R)
def pT (R C:Nat) (f:Nat→Nat→Option Nat):PV:=qbh R C (tM f R C).1 (tM f R C).2.1 (tM f R C).2.2
def qgX {f:Nat→Nat→Option Nat} {j:Nat} {p:List Int × List Nat} (hp:p.1.length=p.2.length):∀ i,(tC f j p i).1.length=(tC f j p i).2.length∧p.1.length≤(tC f j p i).1.length∧(tC f j p i).1.length≤p.1.length+i
 | 0=>⟨hp,Nat.le_refl _,Nat.le_refl _⟩
 | i+1=>by
  have:=qgX (f:=f) (j:=j) hp i;simp only [tC]
  split
  ·simp only [List.length_append,List.length_cons,List.length_nil]; omega
  ·omega
def q3B {f:Nat→Nat→Option Nat} {R:Nat}:∀ j,(tM f R j).1.length=j+1∧(tM f R j).2.1.length=(tM f R j).2.2.length∧(tM f R j).2.1.length≤j*R
 | 0=>⟨rfl,rfl,by simp [tM]⟩
 | j+1=>by
  have h1:=q3B (f:=f) (R:=R) j;have h2:=qgX (f:=f) (j:=j) h1.2.1 R;simp only [tM];refine ⟨by simp [h1.1],h2.1,?_⟩;rw [Nat.succ_mul]; omega
section
variable {f:Nat→Nat→Option Nat} {R C:Nat}
def tZ (f:Nat→Nat→Option Nat) (j i:Nat):List (Nat × Nat):=(List.range i).filterMap fun k=>(f j k).map fun x=>(k,x)
def tZ_s {j i:Nat}:tZ f j (i+1)=tZ f j i ++ (match f j i with | some x=>[(i,x)] | none=>[]):=by
 unfold tZ;rw [List.range_succ,List.filterMap_append]
 congr 1
 cases h:f j i <;> simp [h]
def q8d {j i k x:Nat}:(k,x) ∈ tZ f j i ↔ k < i∧f j k=some x:=by
 unfold tZ;rw [List.mem_filterMap]
 constructor
 ·rintro ⟨a,ha,h⟩;obtain ⟨y,hy,h2⟩:=Option.map_eq_some_iff.1 h;cases h2;exact ⟨List.mem_range.1 ha,hy⟩
 ·rintro ⟨h1,h2⟩;exact ⟨k,List.mem_range.2 h1,by rw [h2]; rfl⟩
def qgW {j:Nat}:∀ i,(tZ f j i).Pairwise fun a b=>a.1 < b.1
 | 0=>by simp [tZ]
 | i+1=>by
  rw [tZ_s,List.pairwise_append];refine ⟨qgW i,?_,fun a ha b hb=>?_⟩
  ·split <;> simp
  ·have h1:=(q8d.1 (show (a.1,a.2) ∈ tZ f j i from ha)).1
   split at hb
   ·simp at hb; subst hb; exact h1
   ·cases hb
def q7g {j:Nat} {p:List Int × List Nat}:∀ i,tC f j p i=(p.1 ++ (tZ f j i).map (fun q=>(q.1:Int)),p.2 ++ (tZ f j i).map (·.2))
 | 0=>by simp [tC,tZ]
 | i+1=>by
  rw [tC,tZ_s,q7g i];cases h:f j i <;> simp
def tO (f:Nat→Nat→Option Nat) (R j:Nat):Nat:=(tM f R j).2.1.length
def tO_s {j:Nat}:tO f R (j+1)=tO f R j+(tZ f j R).length:=by simp [tO,tM,q7g]
def tM_st {j:Nat}:(tM f R j).1[j]?=some (tO f R j:Int):=by
 cases j with
 | zero=>simp [tM,tO]
 | succ j =>
  have:=(q3B (f:=f) (R:=R) j).1;simp only [tM,tO];rw [List.getElem?_append_right (by omega),this];simp
def qay {j:Nat}:∀ d,∃ a b c,(tM f R (j+d)).1=(tM f R j).1 ++ a∧(tM f R (j+d)).2.1=(tM f R j).2.1 ++ b∧(tM f R (j+d)).2.2=(tM f R j).2.2 ++ c
 | 0=>⟨[],[],[],by simp,by simp,by simp⟩
 | d+1=>by
  obtain ⟨a,b,c,h1,h2,h3⟩:=qay (j:=j) d;have e1:(tM f R (j+(d+1))).1=(tM f R (j+d)).1 ++ [((tC f (j+d) (tM f R (j+d)).2 R).1.length:Int)]:=rfl;have e2:(tM f R (j+(d+1))).2=tC f (j+d) (tM f R (j+d)).2 R:=rfl;rw [q7g] at e2;rw [e1,e2,h1,h2,h3];simp only [List.append_assoc];exact ⟨_,_,_,rfl,rfl,rfl⟩
def q69 {j:Nat} (hj:j≤C):(tM f R C).1[j]?=some (tO f R j:Int):=by
 obtain ⟨a,b,c,h1,_,_⟩:=qay (f:=f) (R:=R) (j:=j) (C-j);rw [show j+(C-j)=C by omega] at h1;rw [h1,List.getElem?_append_left (by rw [(q3B j).1]; omega)];exact tM_st
def qmD {j:Nat} (hj:j < C):∃ b c,(tM f R C).2.1=(tM f R j).2.1 ++ (tZ f j R).map (fun q=>(q.1:Int)) ++ b∧(tM f R C).2.2=(tM f R j).2.2 ++ (tZ f j R).map (·.2) ++ c:=by
 obtain ⟨a,b,c,_,h2,h3⟩:=qay (f:=f) (R:=R) (j:=j+1) (C-(j+1));rw [show j+1+(C-(j+1))=C by omega] at h2 h3;refine ⟨b,c,?_,?_⟩
 ·rw [h2]; simp only [tM,q7g]
 ·rw [h3]; simp only [tM,q7g]
def qiG {j k:Nat} (hj:j < C) (h1:tO f R j≤k) (h2:k < tO f R (j+1)):∃ q,(tZ f j R)[k-tO f R j]?=some q∧(tM f R C).2.1[k]?=some (q.1:Int)∧(tM f R C).2.2[k]?=some q.2:=by
 obtain ⟨b,c,e1,e2⟩:=qmD (f:=f) (R:=R) hj;rw [tO_s] at h2;have hl:=(q3B (f:=f) (R:=R) j).2.1;have ho:tO f R j=(tM f R j).2.1.length:=rfl;obtain ⟨q,hq⟩:∃ q,(tZ f j R)[k-tO f R j]?=some q:=⟨_,List.getElem?_eq_getElem Oq⟩;refine ⟨q,hq,?_,?_⟩
 ·rw [e1,List.getElem?_append_left (by simp; omega),List.getElem?_append_right (by omega),List.getElem?_map,← ho,hq]; rfl
 ·rw [e2,List.getElem?_append_left (by simp; omega),List.getElem?_append_right (by omega),List.getElem?_map,← hl,← ho,hq]; rfl
def tM_pt:MPt C (tM f R C).1 (tM f R C).2.1 (tM f R C).2.2:=by
 have hl:=q3B (f:=f) (R:=R) C;refine ⟨hl.2.1.symm,by omega,?_,by rw [Int.toNat_natCast]; exact q69 (Nat.le_refl _),fun j x y hx hy=>?_⟩
 ·rw [q69 (Nat.zero_le _)]; rfl
 ·have h1:=(List.getElem?_eq_some_iff.1 hy).1;rw [q69 (by omega)] at hx hy;cases hx; cases hy;have:=tO_s (f:=f) (R:=R) (j:=j);omega
def qmC:MIx R (tM f R C).1 (tM f R C).2.1:=fun j x y hx hy k h1 h2 v hv=>by
 have hl:=q3B (f:=f) (R:=R) C;have h3:=(List.getElem?_eq_some_iff.1 hy).1;rw [q69 (by omega)] at hx hy;cases hx; cases hy;obtain ⟨q,q1,q2,q3⟩:=qiG (f:=f) (R:=R) (C:=C) (j:=j) (k:=k) Oq Oq Oq;rw [hv] at q2;cases q2;have:=(q8d.1 (show (q.1,q.2) ∈ _ from List.mem_of_getElem? q1)).1;refine ⟨by omega,by omega,fun hk u hu=>?_⟩;obtain ⟨p,p1,p2,p3⟩:=qiG (f:=f) (R:=R) (C:=C) (j:=j) (k:=k-1) Oq Oq Oq;rw [hu] at p2;cases p2;have ha:=List.pairwise_iff_getElem.1 (qgW (f:=f) (j:=j) R);obtain ⟨a1,a2⟩:=List.getElem?_eq_some_iff.1 p1;obtain ⟨b1,b2⟩:=List.getElem?_eq_some_iff.1 q1;have:=ha _ _ a1 b1 Oq;rw [a2,b2] at this;omega
def q7f {x:Nat}:∀ C,x ∈ (tM f R C).2.2→∃ j i,j < C∧i < R∧f j i=some x
 | 0,h=>by simp [tM] at h
 | C+1,h=>by
  simp only [tM,q7g,List.mem_append] at h
  rcases h with h | h
  ·obtain ⟨j,i,h1,h2,h3⟩:=q7f C h;exact ⟨j,i,by omega,h2,h3⟩
  ·obtain ⟨⟨k,y⟩,hq,rfl⟩:=List.mem_map.1 h;have:=q8d.1 hq;exact ⟨C,k,by omega,this.1,this.2⟩
def qmE (hR:R≤200) (hC:C≤200) (hRC:C*R≤10000) (hf:∀ j i x,j < C→i < R→f j i=some x→q0N x):qpA R C (tM f R C).1 (tM f R C).2.1 (tM f R C).2.2=0:=by
 have hl:=q3B (f:=f) (R:=R) C;have hz:MSz R C (tM f R C).2.1:=⟨by omega,by omega,by omega,by omega,by omega⟩;unfold qpA;rw [if_pos hz,if_pos ⟨tM_pt,qmC⟩,if_pos];intro x hx;obtain ⟨j,i,h1,h2,h3⟩:=q7f C hx;exact hf j i x h1 h2 h3
end
structure TOk (f:Nat→Nat→Option Nat) (R C:Nat):Prop where
 r:R≤200
 c:C≤200
 m:C*R≤10000
 u:∀ j i x,j < C→i < R→f j i=some x→x < 18446744073709551616
 v:∀ j i x,j < C→i < R→f j i=some x→q0N x
def TOk.vl {f:Nat→Nat→Option Nat} {R C:Nat} (h:TOk f R C):(tM f R C).1.length≤9223372036854775807∧(tM f R C).2.1.length≤9223372036854775807∧(tM f R C).2.2.length≤9223372036854775807∧(∀ x ∈ (tM f R C).2.2,x < 18446744073709551616):=by
 have:=q3B (f:=f) (R:=R) C;have:=h.c;have:=h.m;refine ⟨by omega,by omega,by omega,fun x hx=>?_⟩;obtain ⟨j,i,h1,h2,h3⟩:=q7f C hx;exact h.u j i x h1 h2 h3
def TOk.chk {f:Nat→Nat→Option Nat} {R C:Nat} (h:TOk f R C):qpA R C (tM f R C).1 (tM f R C).2.1 (tM f R C).2.2=0:=qmE h.r h.c h.m h.v

section
def qku {τ:Nat→Option Nat} {h h':Hp} {a b c d:List PV} (h1:LeL τ h h' a c) (h2:LeL τ h h' b d):LeL τ h h' (a ++ b) (c ++ d):=by
 obtain ⟨l1,e1⟩:=h1;obtain ⟨l2,e2⟩:=h2;refine ⟨by simp [l1,l2],fun i x y hx hy=>?_⟩
 by_cases hi:i < a.length
 ·rw [List.getElem?_append_left hi] at hx;rw [List.getElem?_append_left (by omega)] at hy;exact e1 i x y hx hy
 ·rw [List.getElem?_append_right (by omega)] at hx;rw [List.getElem?_append_right (by omega),← l1] at hy;exact e2 _ x y hx hy
def clR {α:Type} {f:α→List Int} {l:List α}:ClL (l.map fun v=>pI (f v)):=fun x hx=>by
 obtain ⟨e,_,rfl⟩:=List.mem_map.1 hx
 trivial
def qq3 {α:Type} {f:α→List Int} {l:List α} {τ:Nat→Option Nat} {h h':Hp}:LeL τ h h' (l.map fun v=>pI (f v)) (l.map fun v=>pI (f v))=True:=eq_true (q17 rfl clR)
attribute [local go_sem] qq3
end


def q9u {a:Int} (ha:bl a.natAbs≤20000000):ACt 146 [bT a] (iv (bl a.natAbs:Nat)):=q3Z (q2b ha)
section
variable {V W n:Int} {x:Nat}
def qcs (h1 : -200000≤n) (h2:n≤200000) (hv:mkV (od V) (dyE V+n)=some W):ACt 20 [pV V,iv n] (pV W):=qpv (by kernel_rfl) fun ho=>qaC (qaw ho h1 h2 hv) (q2J hv).2.2.2
def lgV (V:Int):Int:=dyE V+bl (od V).natAbs-1
def qiH (ho:q07 V) (hz:V≠0):ACt 103 [dT V] (.tu [iv (lgV V),bv true]):=by
 have hb:=q9a ho;obtain ⟨hd1,hd2,hd3⟩:=q0m ho;have cN:=q2S ho;have cS:=qeC (a:=od V) Oq;have cB:=q9u (a:=od V) Oq;have q1:=qij hz;have w1:IntKind.i64.wrap (dyE V+(bl (od V).natAbs:Nat))=dyE V+(bl (od V).natAbs:Nat):=i64_in Oq Oq;have w2:IntKind.i64.wrap (dyE V+(bl (od V).natAbs:Nat)-1)=dyE V+(bl (od V).natAbs:Nat)-1:=i64_in Oq Oq;unfold lgV;unfold dT at cN ⊢;unfold bT at cS cB;refine ac0 Tryz.func103 Tryz.ntmps103 [.tmp 2,.tmp 3] ?_;exact wk1 (x3 q1 w1 w2) trivial
def qjn (hz:V≠0):ACt 103 [pV V] (.tu [iv (lgV V),bv true]):=ac_1 qhW fun ho=>qiH ho hz
def qj9 (hx:x < 18446744073709551616) (hk:q1Q x=1) (hv:ofF x=some V) (hz:V≠0):ACt 47 [uv x] (.tu [iv (lgV V),bv true]):=by
 have cK:=q4F hx;rw [hk] at cK;have cO:=qb6 hx hv;have cL:=qjn hz;have q:(((1:Nat):Int) != 1)=false:=rfl;refine ac0 Tryz.func47 Tryz.ntmps47 [.tmp 2,.tmp 3] ?_;exact wk1 q trivial
def q7F {mode:Int} (hx:x < 18446744073709551616) (hf:q0N x) (h1 : -5000≤n) (h2:n≤5000) (hv:mkV (od (ofZ x)) (dyE (ofZ x)+n)=some W):ACt 45 [uv x,iv n,iv mode] (uv (if q1Q x=1 then fR mode W else x:Nat)):=by
 have cN:=qeW hx hf;have cK:=q4F hx;have cO:=qb6 hx (q0Z hf);have cS:=qcs Oq Oq hv;have cR:=q6n (V:=W) (mode:=mode)
 by_cases hk:q1Q x=1
 ·rw [if_pos hk];rw [hk] at cK;have q:(((1:Nat):Int) != 1)=false:=rfl;have m1:min 5000 n=n:=by omega
  have m2:max (-5000) n=n:=by omega
  refine ac0 Tryz.func45 Tryz.ntmps45 [.tmp 6] ?_;exact wk1 (x3 q m1 m2) trivial
 ·rw [if_neg hk];have q:(((q1Q x:Nat):Int) != 1)=true:=by simp; omega
  refine ac0 Tryz.func45 Tryz.ntmps45 [.tmp 6] ?_;exact wk1 q trivial
end
section
attribute [local instance] lNL
def qcF {l:List Nat} (ha:q0T l) (hl:l.length≤1000000000):ACt 243 [pW l,pW l] (bv true):=by
 refine ac0 Tryz.func243 Tryz.ntmps243 [.tmp 4] ?_;refine wk ?_;refine q0C (fun k=>k≤l.length) [0,1] [] Lk Lk (fun k:Nat=>[(5,iv k)]) (fun _=>[]) (fun k=>l.length-k) 0 (Nat.zero_le _) ?_ ?_
 ·refine LeM [] rfl rfl ?_;refine Zz ?_
  rfl
 ·intro k hk
  by_cases hlt:k < l.length
  ·have q:(k:Int) < l.length:=by omega
   have e1:=q0y (l:=l) (i:=k) hlt;have w1:IntKind.i64.wrap ((k:Int)+1)=((k+1:Nat):Int):=by rw [i64_in (by omega) (by omega)]; omega
   refine wk1 (x3 q e1 w1) ?_;refine ⟨k+1,hlt,by omega,?_⟩;refine LeM [] rfl rfl ?_;exact Zy
  ·have q:¬ (k:Int) < l.length:=by omega
   exact wk1 q trivial
def qiv {s:Bool} {l:List Nat} (ha:q0T l) (hl:l.length≤1000000000):ACt 187 [.ag [bv s,pW l],.ag [bv s,pW l]] (bv true):=by
 have C:=qcF ha hl;have q:(s == s)=true:=by simp
 refine ac0 Tryz.func187 Tryz.ntmps187 [.tmp 4] ?_;exact wk1 q trivial
def qcG {s:Bool} {l:List Nat} {e:Int} (ha:q0T l) (hl:l.length≤1000000000):ACt 109 [.ag [bv false,bv s,pW l,iv e],.ag [bv false,bv s,pW l,iv e]] (bv true):=by
 have C:=qiv (s:=s) ha hl;refine ac0 Tryz.func109 Tryz.ntmps109 [.tmp 4] ?_;exact wk trivial
end
section
variable {A B:Int}
def q78 (hA:q07 A) (hB:q07 B):∃ x y e,ACt 245 [dT A,dT B] (.tu [bT x,bT y,iv e])∧Aln A B x y e:=by
 obtain ⟨a1,a2,a3⟩:=q0m hA;obtain ⟨b1,b2,b3⟩:=q0m hB;have C1:=@q2t;have key:∀ e:Int,e≤dyE A→e≤dyE B → -65536≤e→e≤65536→Aln A B (shI (od A) (dyE A-e)) (shI (od B) (dyE B-e)) e:=fun e h1 h2 h3 h4 =>
  ⟨h3,h4,by unfold shI; rw [if_pos (by omega)]; exact q7v h3 h1,by unfold shI; rw [if_pos (by omega)]; exact q7v h3 h2⟩
 obtain ⟨e,he⟩:∃ e,min (dyE A) (dyE B)=e:=⟨_,rfl⟩;refine ⟨_,_,e,?_,key e Oq Oq Oq Oq⟩;refine ac0 Tryz.func245 Tryz.ntmps245 [.cell 4 38,.cell 5 38,.tmp 6] ?_;exact wk1 he trivial
def qhj (hA:q07 A) (hB:q07 B) (ho:q07 (A+B)):ACt 192 [dT A,dT B] (dT (A+B)):=by
 obtain ⟨x,y,e,C1,hL⟩:=q78 hA hB;obtain ⟨l1,l2⟩:=hL.bl hA hB;have C2:=qai hA hB;have C3:=@q8G;have h1:=hL.e1;have h2:=hL.e2;have h3:=qdL l1 l2;have C4:=q4C (m:=x+y) (e:=e) rfl Oq Oq Oq (hL.sum ho);refine ac0 Tryz.func192 Tryz.ntmps192 [.cell 4 40] ?_;exact wk trivial
def ql7 (hA:q07 A):ACt 237 [dT A] (reT (decide (od A < 0)) (od A).natAbs (dyE A) false):=by
 have C1:=@q8H;have:=(q0m hA).2.2;refine ac0 Tryz.func237 Tryz.ntmps237 [.cell 2 238] ?_;exact wk trivial
def q7G (hA:q07 A):ACt 167 [dT A,iv 0] (uv (fR 0 A:Nat)):=by
 obtain ⟨hd1,hd2,hd3⟩:=q0m hA;have C1:=q55 hA;have C2:=q1l hA;have C3:=ql7 hA;refine ac0 Tryz.func167 Tryz.ntmps167 [.tmp 4] ?_
 by_cases hz:A=0
 ·have q1:(A.sign == 0)=true:=by rw [hz]; rfl
  rw [show ((fR 0 A:Nat):Int)=0 by rw [show fR 0 A=0 from if_pos hz]; rfl];exact wk1 q1 trivial
 ·have q1:(A.sign == 0)=false:=by
   rw [beq_eq_false_iff_ne]; intro h; exact hz (Int.sign_eq_zero_iff_zero.1 h)
  have hod:=q3y hz;have C4:=q4e (N:=(od A).natAbs) (M:=1) (neg:=decide (od A < 0)) (e:=dyE A) Nat.one_pos (by omega) (by rw [Nat.mod_one]; intro h; exact absurd rfl h) (by rw [Nat.div_one]; omega) (by omega) (by omega);rw [Nat.div_one,Nat.mod_one,show decide ((0:Nat)≠0)=false from rfl,rE_V hz,q2c,show rF 0 (decide (A < 0)) A.natAbs (2 ^ 65536)=fR 0 A from (if_neg hz).symm] at C4;rw [← q2c] at C4;exact wk1 q1 trivial
end
def q2C (l:List Nat) (i:Nat):Nat:=(l.take i).foldl (fun b x=>max b (q4w x)) 0
def q8m {l:List Nat} {i x:Nat} (h:l[i]?=some x):q2C l (i+1)=max (q2C l i) (q4w x):=by
 obtain ⟨h1,h2⟩:=List.getElem?_eq_some_iff.1 h;unfold q2C;rw [List.take_succ_eq_append_getElem h1,List.foldl_append,h2]
 rfl
def q7j {l:List Nat} (hl:q0x l):∀ i,i≤l.length→q2C l i < 9223372036854775808∧q0N (q2C l i)
 | 0,_=>⟨by simp [q2C],by simp [q2C,q0N]⟩
 | i+1,hi=>by
  have ih:=q7j hl i Oq;obtain ⟨x,hx⟩:∃ x,l[i]?=some x:=⟨_,List.getElem?_eq_getElem Oq⟩;rw [q8m hx];have:=(hl x (List.mem_of_getElem? hx)).2;have h1:=q6P (f:=x);have h2:=q9k this
  rcases Nat.le_total (q2C l i) (q4w x) with h | h
  ·rw [Nat.max_eq_right h]; exact ⟨h1,h2⟩
  ·rw [Nat.max_eq_left h]; exact ih
def q9K {f:Nat} (h:f < 9223372036854775808):q9L f=f:=by
 unfold q9L q4w;rw [if_neg (by omega),Nat.mod_eq_of_lt h]
def qfk {a b:Nat} (ha:a < 9223372036854775808) (hb:b < 9223372036854775808):(0 < qlU (q9L a) (q9L b)→max b a=a)∧(¬ 0 < qlU (q9L a) (q9L b)→max b a=b):=by
 rw [q9K ha,q9K hb];unfold qlU
 constructor
 ·intro h
  split at h
  ·omega
  ·split at h
   ·omega
   ·omega
 ·intro h
  split at h
  ·omega
  ·split at h
   ·omega
   ·omega
section
variable {l:List Nat}
def q9M (hl:q0x l) (hn:l.length≤1000000):ACt 33 [pF l] (uv (q2C l l.length:Nat)):=by
 have hs:=q7j hl;refine ac0 Tryz.func33 Tryz.ntmps33 [.tmp 2] ?_;refine wk ?_;refine q0C (fun i=>i≤l.length) [8,9] [] Lk Lk (fun i:Nat=>[(10,iv i),(3,uv (q2C l i:Nat))]) (fun _=>[]) (fun i=>l.length-i) 0 (Nat.zero_le _) ?_ ?_
 ·refine LeM [] rfl rfl ?_;refine Zz ?_;exact ⟨rfl,rfl⟩
 ·intro i hi
  by_cases hlt:i < l.length
  ·obtain ⟨x,hx⟩:∃ x,l[i]?=some x:=⟨_,List.getElem?_eq_getElem hlt⟩;obtain ⟨h1,h2⟩:=hl x (List.mem_of_getElem? hx);obtain ⟨h3,h4⟩:=hs i hi;have C1:=q6C h1;have q:(((q1Q x:Nat):Int) == 3)=false:=by
    have:=q4I h2;simp; omega
   have C2:=qjb h1 h2;have C3:=qja (f:=q4w x) (g:=q2C l i) (by have:=q6P (f:=x); omega) (q9k h2) Oq h4;have hm:=qfk (q6P (f:=x)) h3;have es:=q8m hx;generalize qlU (q9L (q4w x)) (q9L (q2C l i))=c at *
   by_cases hc:c > 0
   ·rw [hm.1 hc] at es;refine wk1 (x2 hx q) ?_;refine ⟨i+1,by omega,by omega,?_⟩;rw [es];refine LeM [] rfl rfl ?_;refine Zz ?_;omega
   ·rw [hm.2 hc] at es;refine wk1 (x2 hx q) ?_;refine ⟨i+1,by omega,by omega,?_⟩;rw [es];refine LeM [] rfl rfl ?_;refine Zz ?_;omega
  ·obtain rfl:i=l.length:=by omega
   exact wk trivial
end
end Go.Proofs.YtfmojhhokfkdaaaGreatDoor
namespace Go.Sp
open Go.E
def ixF (l:List Nat):Nat→Nat→Int
 | _,0 => -1
 | i,m+1=>if q0N (l.getD i 0) then ixF l (i+1) m else i
def qgs {l:List Nat}:∀ (m i:Nat),0≤ixF l i m ↔ ∃ j,i≤j∧j < i+m∧¬ q0N (l.getD j 0)
 | 0,i=>by unfold ixF; exact ⟨fun h=>by omega,fun ⟨j,h1,h2,_⟩=>by omega⟩
 | m+1,i=>by
  unfold ixF
  by_cases h:q0N (l.getD i 0)
  ·rw [if_pos h,qgs m (i+1)]
   constructor
   ·rintro ⟨j,h1,h2,h3⟩; exact ⟨j,by omega,by omega,h3⟩
   ·rintro ⟨j,h1,h2,h3⟩;refine ⟨j,?_,by omega,h3⟩
    rcases Nat.eq_or_lt_of_le h1 with e | e
    ·subst e; exact absurd h h3
    ·omega
  ·rw [if_neg h];exact ⟨fun _=>⟨i,Nat.le_refl _,by omega,h⟩,fun _=>by omega⟩
def qiw {l:List Nat}:decide (0≤ixF l 0 l.length)=!decide (∀ x ∈ l,q0N x):=by
 rw [← decide_not,decide_eq_decide,qgs]
 constructor
 ·rintro ⟨j,_,h2,h3⟩ h;have hj:j < l.length:=by omega
  rw [List.getD_eq_getElem?_getD,List.getElem?_eq_getElem hj] at h3;exact h3 (h _ (List.getElem_mem hj))
 ·intro h;refine Classical.byContradiction fun hn=>h fun x hx=>?_;obtain ⟨j,hj,rfl⟩:=List.getElem_of_mem hx;refine Classical.byContradiction fun hf=>hn ⟨j,Nat.zero_le _,by omega,?_⟩;rw [List.getD_eq_getElem?_getD,List.getElem?_eq_getElem hj];exact hf
end Go.Sp
namespace Go.Proofs.YtfmojhhokfkdaaaGreatDoor
open Go Go.E Go.Sp
section
variable {l:List Nat} {f:FuncId}
def pe_fn {s:Nat→PV}:pe s (.func f)=.vl (.func (.func f) #[] #[]):=rfl
attribute [go_sem] pe_fn
def q6y (hf:∀ x:Nat,x < 18446744073709551616→ACt f [uv x] (bv (!decide (q0N x)))) (hu:∀ x ∈ l,x < 18446744073709551616) (hn:l.length≤1000000) :
  ACt 211 [pF l,.vl (.func (.func f) #[] #[])] (iv (ixF l 0 l.length)):=by
 refine ac0 Tryz.func211 Tryz.ntmps211 [.tmp 4] ?_;refine wk ?_;refine q0C (fun i=>i≤l.length∧ixF l 0 l.length=ixF l i (l.length-i)) [0,1,7] [] Lk Lk (fun i:Nat=>[(8,iv i)]) (fun _=>[]) (fun i=>l.length-i) 0 ⟨Nat.zero_le _,rfl⟩ ?_ ?_
 ·refine LeM [] rfl rfl ?_;refine Zz ?_
  rfl
 ·rintro i ⟨hi,hx⟩
  by_cases hlt:i < l.length
  ·obtain ⟨x,hxi⟩:∃ x,l[i]?=some x:=⟨_,List.getElem?_eq_getElem hlt⟩;have C1:=hf x (hu x (List.mem_of_getElem? hxi));rw [show l.length-i=(l.length-(i+1))+1 by omega,ixF,getD_some hxi] at hx;refine wk1 hxi ?_;refine qdi fun K hK=>?_;refine Zz1 hxi ?_;refine q9Y qqs ?_;simp only [List.append_nil]
   try refine Zz ?_
   refine q0Q C1 ?_
   try refine Zz ?_
   refine hK _ _ ?_; clear hK K
   by_cases h:q0N x
   ·rw [if_pos h] at hx;refine wk1 (decide_eq_true h) ?_;refine ⟨i+1,⟨by omega,by rw [show l.length-(i+1)=l.length-(i+1) from rfl]; exact hx⟩,by omega,?_⟩;refine LeM [] rfl rfl ?_;refine Zz ?_;omega
   ·rw [if_neg h] at hx;rw [hx];exact wk1 (decide_eq_false h) trivial
  ·obtain rfl:i=l.length:=by omega
   rw [Nat.sub_self,ixF] at hx;rw [hx];exact wk trivial
def q2L (hf:∀ x:Nat,x < 18446744073709551616→ACt f [uv x] (bv (!decide (q0N x)))) (hu:∀ x ∈ l,x < 18446744073709551616) (hn:l.length≤1000000) :
  ACt 126 [pF l,.vl (.func (.func f) #[] #[])] (bv (!decide (∀ x ∈ l,q0N x))):=by
 have C1:=q6y hf hu hn;rw [← qiw];generalize ixF l 0 l.length=z at *;refine ac0 Tryz.func126 Tryz.ntmps126 [.tmp 4] ?_;exact wk trivial
def q8B {x:Nat} (hx:x < 18446744073709551616):ACt 240 [uv x] (bv (!decide (q0N x))):=by
 have C1:=q3b hx;refine ac0 Tryz.func240 Tryz.ntmps240 [.tmp 2] ?_;exact wk trivial
def q3a (hu:∀ x ∈ l,x < 18446744073709551616) (hn:l.length≤1000000):ACt 176 [pF l] (bv (decide (∀ x ∈ l,q0N x))):=by
 have C1:=q2L (f:=240) (fun x hx=>q8B hx) hu hn;generalize decide (∀ x ∈ l,q0N x)=b at *;refine ac0 Tryz.func176 Tryz.ntmps176 [.tmp 2] ?_;exact wk1 @Bool.not_not trivial
end



def keep (x:Nat):Prop:=0 < x / 1099511627776 % 3
instance {x:Nat}:Decidable (keep x):=inferInstanceAs (Decidable (_ < _))


section
variable {D:Nat→Prop} {L:List Nat} {N0 g n gy:Nat} {rows:List (List Int)} {ss:List (Option Addr × Nat × Nat)} {w w':World}
def Sums.kpo (h:Sums w D L N0 g n rows ss) (k:Kp (fun k=>k≠gy) w w') (hD:∀ k,D k→k≠gy) (hg:gy ∉ L):Sums w' D L N0 g n rows ss :=
 ⟨h.own.kp k (fun a ha=>by cases ha; exact fun e=>hg (e ▸ h.gL)),h.len,fun i s r a b=>(h.row i s r a b).kp k (fun k hd=>hD k hd.1) (fun A hA e=>hg (e ▸ (h.mem i s A a hA).1)),h.mem,h.ne,h.gL,h.lo,fun j hj=>Nat.lt_of_lt_of_le (h.hi j hj) k.size⟩
def qnI {mode:Int} {neg:Bool} {N M:Nat} (hN:0 < N) (hM:0 < M):rF mode neg N M < 18446744073709551616:=by
 have h1:M≤N*2 ^ bl M:=Nat.le_trans (Nat.le_of_lt (q2o M)) (Nat.le_mul_of_pos_left _ hN);have:=qnK (mode:=mode) (neg:=neg) (e := -((bl M:Nat):Int)) hM h1;unfold rE at this;rw [show (-((bl M:Nat):Int)).toNat=0 by omega,show (- -((bl M:Nat):Int)).toNat=bl M by omega,Nat.pow_zero,Nat.mul_one,q4G hN hM (q0I _)] at this;exact this
def qaW {mode a b:Int} (hb:b≠0):fQ mode a b < 18446744073709551616:=by
 unfold fQ
 split
 ·omega
 ·exact qnI Oq Oq
def qoS:Option (List Nat)→Fam
 | some ys=>fP (fSc q2A ys) (fc (.int .i64 0))
 | none=>fP (fSc q2A []) (fc (.int .i64 233))
structure RowsOk (f:Fac) (k:Nat) (rows:List (List Int)):Prop where
 len:rows.length=f.pm.length
 row:∀ r ∈ rows,r.length≤1+k∧∀ x ∈ r,bl x.natAbs≤67600
structure RowsIn (f:Fac) (k p b:Nat) (rows:List (List Int)):Prop where
 len:rows.length=f.pm.length
 row:∀ (i:Nat) (r:List Int),rows[i]?=some r→r.length≤2+k∧((∃ p',p≤p'∧p' < b∧f.ri[p']?=some (i:Int))→r.length≤1+k)∧∀ x ∈ r,bl x.natAbs≤67600
def RowsOk.into {f:Fac} {k p b:Nat} (h:RowsOk f k rows):RowsIn f k p b rows :=
 ⟨h.len,fun i r hr=>by
  obtain ⟨h1,h2⟩:=h.row r (List.mem_of_getElem? hr);exact ⟨by omega,fun _=>h1,h2⟩⟩
def RowsIn.out {f:Fac} {k p b:Nat} (h:RowsIn f k p b rows):RowsOk f (k+1) rows :=
 ⟨h.len,fun r hr=>by
  obtain ⟨i,hi⟩:=List.mem_iff_getElem?.1 hr;obtain ⟨h1,_,h2⟩:=h.row i r hi;exact ⟨by omega,h2⟩⟩
def RowsIn.step {f:Fac} {j a k p b i:Nat} {r:List Int} {x q:Nat} (hc:Col f j a b) (h:RowsIn f k p b rows) (hp1:a < p) (hp2:p < b) (hi:f.ri[p]?=some (i:Int)) (hr:rows[i]?=some r) (hx:q0N x) (hq:q0N q):RowsIn f k (p+1) b (rows.set i (r ++ [-(q0g x q)])):=by
 have h2:=(q0k hx hq).2;obtain ⟨l1,l2,l3⟩:=h.row i r hr;refine ⟨by rw [List.length_set]; exact h.len,fun i' r' hr'=>?_⟩
 rcases q1B hr' with ⟨rfl,rfl,_⟩ | ⟨hne,hr'⟩
 ·have:=l2 ⟨p,Nat.le_refl _,hp2,hi⟩;refine ⟨by simp; omega,?_,fun y hy=>?_⟩
  ·rintro ⟨p',h1,h2,h3⟩;have:=hc.mono (p'-p) p i i Oq Oq hi (by rw [show p+(p'-p)=p' by omega]; exact h3);rw [if_neg (by omega)] at this; omega
  ·rcases List.mem_append.1 hy with hy | hy
   ·exact l3 y hy
   ·simp at hy; subst hy; rwa [Int.natAbs_neg]
 ·obtain ⟨m1,m2,m3⟩:=h.row i' r' hr';exact ⟨m1,fun ⟨p',h1,h2,h3⟩=>m2 ⟨p',by omega,h2,h3⟩,m3⟩
def qbZ {k:Nat} {f:Fac} {r:List Int} (h:RowsOk f k rows) (hr:r ∈ rows) (hk:k≤500):r.length≤501∧(∀ x ∈ r,q07 x)∧q07 (q1A r):=by
 obtain ⟨h1,h2⟩:=h.row r hr;refine ⟨by omega,fun x hx=>?_,?_⟩
 ·have:=h2 x hx; unfold q07; omega
 ·have:=q7h (i:=r.length) h2 Oq;rw [List.take_length] at this;unfold q07; omega
end
def inI {D:Nat→Prop} {a:Addr} {n c i:Nat} {l:List Int} {w:World} {z:Int} (h:In (fSc q3H l) D (.slice (some a) n c) w) (hi:l[i]?=some z):w.cell? (a.add i)=some (.int .i64 z):=by
 obtain ⟨_,hc,_,x⟩:=h.ixI hi; cases hc; exact x
def inU {D:Nat→Prop} {a:Addr} {n c i:Nat} {l:List Nat} {w:World} {z:Nat} (h:In (fSc q2A l) D (.slice (some a) n c) w) (hi:l[i]?=some z):w.cell? (a.add i)=some (.int .u64 (z:Int)):=by
 obtain ⟨_,hc,_,x⟩:=h.ixU hi; cases hc; exact x
def owG {B g n c j:Nat} {xs:List Value} {v:Value} {w:World} (h:Own w B 43 1 (some ⟨g,0,none⟩) n c xs) (hj:xs[j]?=some v):w.cell? ⟨g,j,none⟩=some v:=by
 obtain ⟨_,hg,_,hc,_⟩:=h.cell (List.getElem?_eq_some_iff.1 hj).1;cases hg;rw [hc]; exact (List.getElem?_eq_getElem _).symm.trans hj
def qaT {E:Nat→Prop} {f:Fac} {v:Value} {A A2:Option Addr} {n c n2 c2:Nat} {l:List Nat} {ps:List Int} {w:World} (hT:q1y w) (h:In (fFac f) E v w) (ho:FacOk f) (hb:In (fSc q2A l) E (.slice A n c) w) (hl:q0x l) (hn:n=f.pm.length)
  (hp:In (fSc q3H ps) E (.slice A2 n2 c2) w) (hps:∀ x ∈ ps,0≤x∧x < n) (hpl:n2≤200) (hf:Fr E w) :
  Calls Tryz.prog 178 #[v,.slice A n c,.slice A2 n2 c2] w (Rt (qoS (qdg f ps (l.map fun x=>[ofZ x]) (List.replicate n 0))) E w):=by
 obtain ⟨A3,n3,c3,A4,n4,c4,A5,n5,c5,A6,n6,c6,rfl,h1,h2,h3,h4⟩:=q7E h;have l1:=h1.sc_len;have l2:=h2.sc_len;have l3:=h3.sc_len;have l4:=h4.sc_len;have lb:=hb.sc_len;have lp:=hp.sc_len;have hnb:=ho.n;have hbeg:=fun {w':World} {D':Nat→Prop} (hx:Ext w w') (hd:∀ k,k < w.heap.size→D' k) (hf':Fr D' w')=>q9f (D:=D') (vals:=l.map ofZ) (hT.ext hx) ((hb.sub fun k hk _=>hd k hk).ext hx) (by simp) Oq (fun i x hi=>⟨(hl x (List.mem_of_getElem? hi)).1,ofZ x,by simp [hi],q0Z (hl x (List.mem_of_getElem? hi)).2⟩) hf';obtain ⟨N,hN⟩:∃ N,N=w.heap.size:=⟨_,rfl⟩;have b2:=h2.db (w':=w);have b3:=h3.db (w':=w);have b4:=h4.db (w':=w);have bp:=hp.db (w':=w);rw [← hN] at b2 b3 b4 bp;refine q1J Tryz.func178 rfl Tryz.ntmps178 (by kernel_rfl) ?_;refine q0P fun K hK=>?_;refine Zz ?_;refine qdE ?_;intro g3 w3 hg3 hx3 hb3 hs3;refine hK _ _ ?_; clear hK K;have hx:Ext w w3:=hx3;replace b2:=b2.ext hx;replace b3:=b3.ext hx;replace b4:=b4.ext hx;replace bp:=bp.ext hx;clear hx3;refine qdW (fun e' w'=>∃ (N0 g gy:Nat) (L:List Nat) (ss:List (Option Addr × Nat × Nat)),e' 3=.pointer (some ⟨g3,0,none⟩)∧e' 2=.slice A2 n2 c2∧e' 8=.slice (some ⟨g,0,none⟩) n n∧e' 9=.slice (some ⟨gy,0,none⟩) n n∧Ext w3 w'∧Sums w' (fun k=>k≠gy) L N0 g n (l.map fun x=>[ofZ x]) ss∧Own w' N 43 1 (some ⟨gy,0,none⟩) n n (List.replicate n (q2A 0))∧gy ∉ L∧g3 < N0∧N≤N0∧g3 < gy) ?_ ?_
 ·refine W_dA q5C (.one 0 (.one 2 (.one 3 (.alt (.one 1 (.one 5 (.one 4 (.one 6 .fin)))) (.one 4 (.one 1 (.one 5 (.one 6 .fin)))))))) (by kernel_rfl) fun KE wE hKE hxE=>?_;replace b2:=b2.ext hxE;replace b3:=b3.ext hxE;replace b4:=b4.ext hxE;replace bp:=bp.ext hxE;replace hb3:=hb3.ext hxE;replace hx:=hx.trans hxE;simp only [q32] at hKE;have hlt3:=hb3.lt;have hmm:(l.map ofZ).map (fun V=>[V])=l.map fun x=>[ofZ x]:=by rw [List.map_map]; rfl
  rw [hmm] at hbeg;have hrp:List.replicate n (Value.int .u64 0)=List.replicate n (q2A 0):=rfl;have hNE:=hx.size;rw [← hN] at hNE;simp -implicitDefEqProofs (disch:=omega) only [go_sem,Nat.reduceEqDiff,Nat.reduceAdd,↓reduceIte,qdY,qdZ,qh5,q9A,qbl,List.toList_toArray];refine ⟨?_,?_⟩
  ·refine q05 q7R (hbeg (D':=fun _=>True) hx (fun _ _=>trivial) (Fr.triv _)) ?_;rintro _ w14 ⟨rfl,hx14,L,ss,hS⟩; refine ⟨_,rfl,?_⟩;refine q6s (Nat.le_refl _) Oq (by unfold maxLen; omega) fun w17 hx17 hO17 hs17=>?_;have hs14:=hx14.size;refine hKE _ _ ⟨_,_,w14.heap.size,L,ss,Ue,Ue,Ue,Ue,(hxE.trans hx14).trans hx17,(hS.sub (D':=fun k=>k≠w14.heap.size) fun k hk _=>by omega).ext hx17,hO17.mono Oq,fun hm=>?_,hlt3,hNE,by omega⟩;have:=hS.hi _ hm;omega
  ·refine q6s (Nat.le_refl _) Oq (by unfold maxLen; omega) fun w17 hx17 hO17 hs17=>?_;refine q05 q7R (hbeg (D':=fun k=>k≠wE.heap.size) (hx.trans hx17) (fun k hk=>by omega) (fun k hk=>by omega)) ?_;rintro _ w14 ⟨rfl,hx14,L,ss,hS⟩; refine ⟨_,rfl,?_⟩;refine hKE _ _ ⟨_,_,wE.heap.size,L,ss,Ue,Ue,Ue,Ue,(hxE.trans hx17).trans hx14,hS,(hO17.mono Oq).ext hx14,fun hm=>?_,by omega,by omega,hlt3⟩;have:=hS.lo _ hm;omega
 ·rintro e0 w1 ⟨N0,g,gy,L,ss,k3,k2,k8,k9,hx1,hS,hO,hgL,hgN,hNN,hg3y⟩;replace b2:=b2.ext hx1;replace b3:=b3.ext hx1;replace b4:=b4.ext hx1;replace bp:=bp.ext hx1;replace hb3:=hb3.ext hx1;replace hx:=hx.trans hx1;refine q06 fun K0 hK0=>?_;refine Wz1 k2 ?_;refine q2p ?_;refine q70 (fun e2 w2=>∃ (i:Nat) (L:List Nat) (rows:List (List Int)) (ys:List Nat) (ss:List (Option Addr × Nat × Nat)),e2 20=.int .i64 i∧i≤n2∧Ext w w2∧Blk w2 g3 72 #[.slice A3 n3 c3,.slice A4 n4 c4,.slice A5 n5 c5,.slice A6 n6 c6]∧In (fSc q3H f.cp) (Db E N) (.slice A4 n4 c4) w2∧In (fSc q3H f.ri) (Db E N) (.slice A5 n5 c5) w2∧In (fSc q2A f.vs) (Db E N) (.slice A6 n6 c6) w2∧In (fSc q3H ps) (Db E N) (.slice A2 n2 c2) w2∧Sums w2 (fun k=>k≠gy) L N0 g n rows ss∧Own w2 N 43 1 (some ⟨gy,0,none⟩) n n (ys.map q2A)∧gy ∉ L∧RowsOk f i rows∧ys.length=n∧qdg f (ps.drop i) rows ys=qdg f ps (l.map fun x=>[ofZ x]) (List.replicate n 0)) (fun e2 _=>n2-(RowKit.intOf (e2 20)).toNat) ⟨0,L,_,_,ss,rfl,Nat.zero_le _,hx,hb3,b2,b3,b4,bp,hS,by rw [List.map_replicate]; exact hO,hgL,⟨by simp; omega,fun r hr=>?_⟩,by simp,rfl⟩ ?_
  ·rw [List.mem_map] at hr;obtain ⟨y,hy,rfl⟩:=hr;exact ⟨by simp,fun x hx=>by simp at hx; subst hx; exact q6q (hl y hy).2⟩
  clear hx hb3 b2 b3 b4 bp hS hO hgL;rintro e1 w2 ⟨i,L,rows,ys,ss,k20,hi,hx,hb3,b2,b3,b4,bp,hS,hO,hgL,hR,hys,hfw⟩ hkk;have r3:e1 3=.pointer (some ⟨g3,0,none⟩):=(hkk 3 (by kernel_rfl)).trans Ue;have r8:e1 8=.slice (some ⟨g,0,none⟩) n n:=(hkk 8 (by kernel_rfl)).trans Ue;have r9:e1 9=.slice (some ⟨gy,0,none⟩) n n:=(hkk 9 (by kernel_rfl)).trans Ue;have r18:e1 18=.slice A2 n2 c2:=(hkk 18 (by kernel_rfl)).trans Ue;have r19:e1 19=.int .i64 n2:=(hkk 19 (by kernel_rfl)).trans Ue;clear hkk
  by_cases hlt:i < n2
  ·have hlt':(i:Int) < n2:=by omega
   refine Wz3 k20 r19 hlt' ?_;refine q06 fun K1 hK1=>?_;refine Wt (q2N (hK1 _ _ ?_));clear hK1;refine q2O fun K hK=>?_;obtain ⟨x,hxi⟩:∃ x,ps[i]?=some x:=⟨_,List.getElem?_eq_getElem Oq⟩;obtain ⟨hx0,hxn⟩:=hps x (List.mem_of_getElem? hxi);obtain ⟨k,rfl⟩:∃ k:Nat,x=(k:Int):=⟨x.toNat,by omega⟩;obtain ⟨adp,rfl,ip,xp⟩:=bp.ixI hxi;obtain ⟨a,b,hcol⟩:=ho.col k Oq;obtain ⟨dx,dV,d1,d2,d3⟩:=hcol.diag;obtain ⟨ad2,rfl,i2,x2⟩:=b2.ixI hcol.ha;obtain ⟨ad4,rfl,i4,x4⟩:=b4.ixU d1;have hrl:=hR.len;obtain ⟨r,hrk⟩:∃ r,rows[k]?=some r:=⟨_,List.getElem?_eq_getElem Oq⟩;obtain ⟨s1,s2,s3⟩:=qbZ hR (List.mem_of_getElem? hrk) Oq;obtain ⟨hdx,hdf⟩:=ho.vals dx (List.mem_of_getElem? d1);obtain ⟨q,hq⟩:∃ q,q=fQ 0 (q1A r) dV:=⟨_,rfl⟩;obtain ⟨D,hDq⟩:∃ D:Nat→Prop,D=fun _=>True:=⟨_,rfl⟩;have hDl:∀ k,Dl D [] k:=fun k=>⟨by rw [hDq]; trivial,by simp⟩;have hD:Fr (Dl D []) w2:=fun k _=>hDl k;have ik:(0:Int)≤(k:Int)∧(k:Int) < n:=by omega
   refine Wz4 r18 k20 ip xp ?_;refine q06 fun K2 hK2=>?_;have hqu:=fun {w:World} {v v':Value} (hT:q1y w) (h:In (fV (q1A r)) (Dl D []) v w) (h':In (fV dV) (Dl D []) v' w) (hf:Fr (Dl D []) w)=>qgx hT h h' Oq hf;rw [← hq] at hqu;clear x2 x4 xp;refine qpy q5C (Kp (fun k=>k ∉ ([]:List Nat))) (fun _ _=>False) (Kp.pre _) [true,true,true,true,false,true,true,true,true,true,true,true,true,true,false,false,false,false] [false,false,false,false,false,false,false,false,false,false,false,false,false,false,false,false,false,false] [1,1,1,1,0,1,1,1,1,1,1,1,1,1,0,0,1,1] (by kernel_rfl) ?_
   apply Exists.intro
   refine ⟨fun wE hE KE hKE=>?_,fun wE hE KE hKE=>?_,fun wE hxE hr=>?_⟩
   ·skip
    replace hE:=Kp.all hE;replace hb3:=hb3.ext hE;replace b2:=b2.ext hE;replace b3:=b3.ext hE;replace b4:=b4.ext hE;replace bp:=bp.ext hE;replace hS:=hS.ext hE;replace hO:=hO.ext hE;refine Zz10 r3 r8 r9 hb3.c1 hb3.c3 i2 (inI b2 hcol.ha) i4 (inU b4 d1) ik ?_;exact hKE
   ·exact hE.elim
   simp only [q6g,q6i,q6h];replace b2:=b2.ext hxE;replace b3:=b3.ext hxE;replace b4:=b4.ext hxE;replace bp:=bp.ext hxE;replace hS:=hS.ext hxE;replace hO:=hO.ext hxE;replace hb3:=hb3.ext hxE;replace hD:=hD.kp hxE;replace hx:=hx.trans hxE;simp -implicitDefEqProofs (disch:=omega) only [go_sem,Nat.reduceEqDiff,Nat.reduceAdd,↓reduceIte,List.toList_toArray,r3,r8,r9,hb3.c1,hb3.c3,i2,(inI b2 hcol.ha),i4,(inU b4 d1),ik];refine Cr qdA (q89 (hT.ext hx) (hS.sub (D':=Dl D []) fun k _ _=>hDl k) hrk Oq s2 s3 (fun k _=>hDl k) hD) fun v28 w28 hx28 h28=>?_;replace b2:=b2.ext hx28;replace b3:=b3.ext hx28;replace b4:=b4.ext hx28;replace bp:=bp.ext hx28;replace hS:=hS.ext hx28;replace hO:=hO.ext hx28;replace hb3:=hb3.ext hx28;replace hD:=hD.kp hx28;replace hx:=hx.trans hx28;replace hr:=hr.trans (Kp.of_ext hx28);clear hx28;refine ⟨hr,?_⟩;refine Cr q50 (qcd (hT.ext hx) hdx d2 hD) fun v38 w38 hx38 h38=>?_;replace b2:=b2.ext hx38;replace b3:=b3.ext hx38;replace b4:=b4.ext hx38;replace bp:=bp.ext hx38;replace hS:=hS.ext hx38;replace hO:=hO.ext hx38;replace h28:=h28.ext hx38;replace hb3:=hb3.ext hx38;replace hD:=hD.kp hx38;replace hx:=hx.trans hx38;replace hr:=hr.trans (Kp.of_ext hx38);clear hx38;refine ⟨hr,?_⟩;refine Ck qdB (hqu (hT.ext hx) h28 h38 hD) fun w39 hx39=>?_;replace b2:=b2.ext hx39;replace b3:=b3.ext hx39;replace b4:=b4.ext hx39;replace bp:=bp.ext hx39;replace hS:=hS.ext hx39;replace hO:=hO.ext hx39;replace h28:=h28.ext hx39;replace h38:=h38.ext hx39;replace hb3:=hb3.ext hx39;replace hD:=hD.kp hx39;replace hx:=hx.trans hx39;replace hr:=hr.trans (Kp.of_ext hx39);clear hx39;refine ⟨hr,?_⟩;have hqlt:q < 18446744073709551616:=by rw [hq]; exact qaW Oq
   have hyl:(ys.map q2A).length=n:=by rw [List.length_map]; exact hys
   refine q8k hO (by omega:k < n) qiN rfl rfl fun w5 hO5 hk5 hs5=>?_;replace hS:=hS.kpo hk5 (fun _ h=>h) hgL;replace b2:=b2.kpb hk5 fun k hk=>by omega
   replace b3:=b3.kpb hk5 fun k hk=>by omega
   replace b4:=b4.kpb hk5 fun k hk=>by omega
   replace bp:=bp.kpb hk5 fun k hk=>by omega
   replace hb3:=hb3.kpne hk5 Oq;replace hx:=hx.under hk5 fun k hk=>by omega
   have cy:=hO5.cell_set Oq;have hO6:Own w5 N 43 1 (some ⟨gy,0,none⟩) n n ((ys.set k q).map q2A):=by rw [List.map_set]; exact hO5
   clear hO hO5 hk5 hD;simp only [q32];refine hK2 _ _ ?_; clear hK2;refine q06 fun K3 hK3=>?_;refine q0P fun K hK=>?_;refine Zz3 r9 ik cy ?_;refine q05 qdC (q3l hqlt) ?_;rintro _ _ ⟨rfl,rfl⟩; refine ⟨_,rfl,?_⟩;have hdr:ps.drop i=(k:Int) :: ps.drop (i+1):=by
    rw [List.drop_eq_getElem_cons (by omega)]
    congr 1
    exact Option.some.inj ((List.getElem?_eq_getElem Oq).symm.trans hxi)
   rw [hdr,q7C hcol.ha hcol.hb d1 hrk,q0W d2,← hq] at hfw
   by_cases hfin:q0N q
   ·rw [if_pos hfin] at hfw;rw [decide_eq_true hfin];refine Zz ?_;refine hK _ _ ?_; clear hK;refine Wf (q2N (hK3 _ _ ?_));clear hK3;obtain ⟨k1,hk1⟩:∃ k1,k1=k+1:=⟨_,rfl⟩;have hcb:=hcol.hb;rw [← hk1] at hcb;have hle:=hcol.le;have hlt:=hcol.lt;have hrib:=ho.rib;have hril:=ho.ril;obtain ⟨_,hcc,i2',x2'⟩:=b2.ixI hcol.ha;cases hcc;have e1':IntKind.i64.wrap ((a:Int)+1)=((a+1:Nat):Int):=by rw [i64_in Oq (by omega)]; omega
    have e2':IntKind.i64.wrap ((k:Int)+1)=(k1:Int):=by rw [i64_in Oq (by omega)]; omega
    clear cy i2;refine Wz5 r3 hb3.c1 i2' x2' e1' ?_;refine q2p ?_;refine q70 (fun e2 w2=>∃ (p:Nat) (L:List Nat) (rows':List (List Int)) (ss:List (Option Addr × Nat × Nat)),e2 12=.int .i64 p∧a+1≤p∧p≤b∧Ext w w2∧Blk w2 g3 72 #[.slice A3 n3 c3,.slice (some ad2) n4 c4,.slice A5 n5 c5,.slice (some ad4) n6 c6]∧In (fSc q3H f.cp) (Db E N) (.slice (some ad2) n4 c4) w2∧In (fSc q3H f.ri) (Db E N) (.slice A5 n5 c5) w2∧In (fSc q2A f.vs) (Db E N) (.slice (some ad4) n6 c6) w2∧In (fSc q3H ps) (Db E N) (.slice (some adp) n2 c2) w2∧Sums w2 (fun k=>k≠gy) L N0 g n rows' ss∧Own w2 N 43 1 (some ⟨gy,0,none⟩) n n ((ys.set k q).map q2A)∧gy ∉ L∧RowsIn f i p b rows'∧qbA f q p (b-p) rows'=qbA f q (a+1) (b-(a+1)) rows) (fun e2 _=>b-(RowKit.intOf (e2 12)).toNat) ⟨a+1,L,rows,ss,rfl,Nat.le_refl _,hlt,hx,hb3,b2,b3,b4,bp,hS,hO6,hgL,hR.into,rfl⟩ ?_;clear hx hb3 b2 b3 b4 bp hS hO6 hgL x2' hrk hR hrl s1 s2 s3;rintro e3 w6 ⟨p,L,rows',ss,k12,hp1,hp2,hx,hb3,b2,b3,b4,bp,hS,hO,hgL,hR,hsub⟩ hkk;have q3:e3 3=.pointer (some ⟨g3,0,none⟩):=(hkk 3 (by kernel_rfl)).trans Ue;have q8:e3 8=.slice (some ⟨g,0,none⟩) n n:=(hkk 8 (by kernel_rfl)).trans Ue;have q9:e3 9=.slice (some ⟨gy,0,none⟩) n n:=(hkk 9 (by kernel_rfl)).trans Ue;have q11:e3 11=.int .i64 k:=(hkk 11 (by kernel_rfl)).trans Ue;have q20:e3 20=.int .i64 i:=(hkk 20 (by kernel_rfl)).trans Ue;clear hkk;obtain ⟨_,hcc,i2,x2⟩:=b2.ixI hcb;cases hcc
    by_cases hlt2:p < b
    ·have hlt2':(p:Int) < b:=by omega
     refine q06 fun K5 hK5=>?_;refine q0P fun K hK=>?_;simp -implicitDefEqProofs (disch:=omega) only [go_sem,Nat.reduceEqDiff,Nat.reduceAdd,↓reduceIte,k12,q3,hb3.c1,q11,e2',i2,x2,hlt2'];refine hK _ _ ?_; clear hK K;refine Wt (q2N (hK5 _ _ ?_));clear hK5;refine q2O fun K6 hK6=>?_;obtain ⟨j0,hj1,hj2,hj3⟩:=hcol.row ho.n Oq hlt2;obtain ⟨xv,hxv⟩:∃ xv,f.vs[p]?=some xv:=⟨_,List.getElem?_eq_getElem Oq⟩;obtain ⟨hv1,hv2⟩:=ho.vals xv (List.mem_of_getElem? hxv);obtain ⟨ad5,rfl,i5,x5⟩:=b3.ixI hj1;obtain ⟨_,hcc,i6,x6⟩:=b4.ixU hxv;cases hcc;have hyu:((ys.set k q).map q2A)[k]?=some (.int .u64 (q:Int)):=by rw [List.getElem?_map,List.getElem?_set_self (by omega)]; rfl
     have hrl:=hR.len;obtain ⟨r,hrk⟩:∃ r,rows'[j0]?=some r:=⟨_,List.getElem?_eq_getElem Oq⟩;have hrl2:=(hR.row j0 r hrk).1;have hgy:gy < w6.heap.size:=by
      rcases hO.form with ⟨h0,_⟩ | ⟨_,_,h0,_,hb,_⟩
      ·cases h0
      ·cases h0; exact hb.lt
     clear x2 x5 x6;obtain ⟨hmu,_⟩:=q0k hv2 hfin;refine qpy q5C (Kp (fun k=>k ∉ ([]:List Nat))) (fun _ _=>False) (Kp.pre _) [true,true,true,true,true,true,true,true,true,true,true,true,true,true,true,false] [false,false,false,false,false,false,false,false,false,false,false,false,false,false,false,false] [1,1,1,1,1,1,1,1,1,1,1,1,1,1,1,1] (by kernel_rfl) ?_
     apply Exists.intro
     refine ⟨fun wE hE KE hKE=>?_,fun wE hE KE hKE=>?_,fun wE hxE hr=>?_⟩
     ·skip
      replace hE:=Kp.all hE;replace hb3:=hb3.ext hE;replace b2:=b2.ext hE;replace b3:=b3.ext hE;replace b4:=b4.ext hE;replace bp:=bp.ext hE;replace hS:=hS.ext hE;replace hO:=hO.ext hE;refine Zz13 k12 q3 q8 q9 q11 hb3.c2 hb3.c3 i5 (inI b3 hj1) i6 (inU b4 hxv) ik (owG hO hyu) ?_;exact hKE
     ·exact hE.elim
     simp only [q6g,q6i,q6h];replace b2:=b2.ext hxE;replace b3:=b3.ext hxE;replace b4:=b4.ext hxE;replace bp:=bp.ext hxE;replace hS:=hS.ext hxE;replace hO:=hO.ext hxE;replace hb3:=hb3.ext hxE;replace hx:=hx.trans hxE;clear hr;simp -implicitDefEqProofs (disch:=omega) only [go_sem,Nat.reduceEqDiff,Nat.reduceAdd,↓reduceIte,List.toList_toArray,k12,q3,q8,q9,q11,hb3.c2,hb3.c3,i5,(inI b3 hj1),i6,(inU b4 hxv),ik,(owG hO hyu)];have hw':=hxE.size;refine q05 qcz (q4W (hT.ext hx) hS hrk hv1 hqlt (q0Z hv2) (q0Z hfin) hmu Oq (fun k hk=>by omega)) ?_;rintro _ w7 ⟨rfl,hk7,L',ss',hL1,hL2,hS7⟩; refine ⟨_,rfl,?_⟩;have hlo:∀ j,j < N→j ∉ L:=fun j hj hm=>by have:=hS.lo j hm; omega
     replace b2:=b2.kpb hk7 hlo;replace b3:=b3.kpb hk7 hlo;replace b4:=b4.kpb hk7 hlo;replace bp:=bp.kpb hk7 hlo;replace hb3:=hb3.kp hk7 fun hm=>by have:=hS.lo _ hm; omega
     replace hx:=hx.under hk7 fun j hj=>hlo j Oq;replace hO:=hO.kp hk7 fun a ha=>by cases ha; exact hgL
     have hgL7:gy ∉ L':=fun hm=>by
      rcases hL2 _ hm with h | h
      ·exact hgL h
      ·omega
     simp only [q32,qnx];refine hK6 _ _ ?_; clear hK6;refine q3m fun K9 hK9=>?_;refine Zz2 k12 @i64_in ?_;refine hK9 _ _ ?_; clear hK9 K9;refine ⟨⟨p+1,L',_,ss',rfl,by omega,by omega,hx,hb3,b2,b3,b4,bp,hS7,hO,hgL7,hR.step hcol Oq hlt2 hj1 hrk hv2 hfin,?_⟩,by simp only [q0z,↓reduceIte,RowKit.intOf,k12]; omega⟩;rw [← hsub,show b-p=(b-(p+1))+1 by omega,q6c hj1 hxv hrk]
    ·have hlt2':¬ (p:Int) < b:=by omega
     refine q06 fun K5 hK5=>?_;refine q0P fun K hK=>?_;simp -implicitDefEqProofs (disch:=omega) only [go_sem,Nat.reduceEqDiff,Nat.reduceAdd,↓reduceIte,k12,q3,hb3.c1,q11,e2',i2,x2,hlt2'];refine hK _ _ ?_; clear hK K;refine Wf (q52 (hK _ _ ?_));obtain rfl:p=b:=by omega
     rw [Nat.sub_self] at hsub;rw [← hsub] at hfw;refine q3m fun K9 hK9=>?_;refine Zz2 q20 @i64_in ?_;refine hK9 _ _ ?_; clear hK9 K9;exact ⟨⟨i+1,L,rows',ys.set k q,ss,rfl,by omega,hx,hb3,b2,b3,b4,bp,hS,hO,hgL,hR.out,by rw [List.length_set]; exact hys,hfw⟩,by simp only [q0z,↓reduceIte,RowKit.intOf,k20]; omega⟩
   ·rw [if_neg hfin] at hfw;rw [decide_eq_false hfin];refine Zz ?_;refine hK _ _ ?_; clear hK;refine Wt ?_;refine Wz ?_;refine q4A ?_
    try simp only [q1S,q4a]
    refine qmz rfl ⟨_,rfl,hx,by rw [← hfw]; exact ⟨_,_,rfl,by simp only [q0z,Nat.reduceEqDiff,↓reduceIte]; exact In.sc_nil,by simp only [q0z,Nat.reduceEqDiff,↓reduceIte]; exact rfl⟩⟩
  ·have hlt':¬ (i:Int) < n2:=by omega
   refine Wz3 k20 r19 hlt' ?_;refine q06 fun K1 hK1=>?_;refine Wf (q52 (hK0 _ _ ?_));obtain rfl:i=n2:=by omega
   rw [List.drop_of_length_le (by omega)] at hfw;rw [← hfw];refine Wz1 r9 ?_;refine q4A ?_
   try simp only [q1S,q4a]
   refine qmz rfl ⟨_,rfl,hx,⟨_,_,rfl,by simp only [q0z,Nat.reduceEqDiff,↓reduceIte]; exact qnW hO fun k hk=>hf k Oq,by simp only [q0z,Nat.reduceEqDiff,↓reduceIte]; exact rfl⟩⟩
def nz_V {V:Int}:Nz (pV V):=fun w D B v hB h=>by
 obtain ⟨s,A,n,c,rfl,⟨h1,h2⟩,h3⟩:=qdc h;refine q7r ⟨s,A,n,c,rfl,⟨h1,⟨h2.1.cap,h2.1.len,fun hx=>?_⟩,h2.2⟩,h3⟩;obtain ⟨ad,hA,hd,hcell⟩:=h2.1.at_ hx;refine ⟨ad,hA,⟨hd,fun hb=>?_⟩,hcell⟩;obtain ⟨cs,T,hb,hc⟩:=hB _ hb;obtain ⟨x,hx0⟩:∃ x,((lim (od V).natAbs).map u32v)[0]?=some x:=⟨_,List.getElem?_eq_getElem hx⟩;have h1:=hcell 0 x hx0;have h2:∃ d:Int,x=.int .u32 d:=by
  rw [List.getElem?_map] at hx0;cases hl:(lim (od V).natAbs)[0]? with
  | none=>rw [hl] at hx0; cases hx0
  | some d=>rw [hl] at hx0; exact ⟨_,(Option.some.inj hx0).symm⟩
 obtain ⟨d,rfl⟩:=h2;have h3:w.heap[ad.block]?=some (.cells cs T (0,0)):=hb;have h4:(ad.add 0).block=ad.block:=q0r ad 0;unfold World.cell? at h1;rw [h4,h3] at h1;simp only at h1
 split at h1
 ·cases h1
 ·have:=hc _ (Array.mem_toList_iff.2 (Array.mem_of_getElem? h1));cases this
def clV {l:List Int}:ClL (l.map fun V=>pV V):=fun x hx=>by
 obtain ⟨e,_,rfl⟩:=List.mem_map.1 hx
 trivial
def qf3 {mode V:Int}:fR mode V < 18446744073709551616:=by
 unfold fR
 split
 ·omega
 ·exact qnI Oq (by exact Nat.two_pow_pos 65536)
def TOk.fin {f:Nat→Nat→Option Nat} {R C j i:Nat} (h:TOk f R C) (hj:j < C) (hi:i < R):q0N ((f j i).getD 0)∧(f j i).getD 0 < 18446744073709551616:=by
 cases hx:f j i with
 | none=>exact ⟨by unfold q0N; simp,by simp⟩
 | some x=>exact ⟨h.v j i x hj hi hx,h.u j i x hj hi hx⟩
def qgY {l:List Int} (h:∀ x ∈ l,bl x.natAbs≤67600) (hl:l.length≤1024):q07 (q1A l):=by
 have:=q7h h hl;rw [List.take_length] at this;unfold q07;omega





section
variable {n:Nat} {g g':Nat→Nat→Bool} {gn gn':Nat→Bool} {h:Hp}
end

end Go.Proofs.YtfmojhhokfkdaaaGreatDoor
namespace Go.E
open Go Go.RowKit
section
variable {P:Program} {J:Nat→Prop} {s:Nat→PV} {h hw:Hp} {τ:Nat→Option Nat} {T1 T2:TypeId} {N R n k m:Nat} {g:Nat→Nat→Nat}
def tabU (T1 T2:TypeId) (N R n k m:Nat) (g:Nat→Nat→Nat):Hp:=fun i =>
 if i=N then some ⟨T1,none,(List.range n).map fun j=>if j < k then .ow (j+R) none 0 m else .vl (.slice none 0 0),false⟩
 else if R≤i∧i < R+k then some ⟨T2,none,(List.range m).map fun c=>.vl (.int .u64 (g (i-R) c:Nat)),false⟩ else none
def qlx:tabU T1 T2 N R n k m g N=some ⟨T1,none,(List.range n).map fun j=>if j < k then .ow (j+R) none 0 m else .vl (.slice none 0 0),false⟩:=if_pos rfl
def qlw {j:Nat} (hN:N < R) (hj:j < k):tabU T1 T2 N R n k m g (j+R)=some ⟨T2,none,(List.range m).map fun c=>.vl (.int .u64 (g j c:Nat)),false⟩:=by
 unfold tabU;rw [if_neg (by omega),if_pos (by omega),Nat.add_sub_cancel]
attribute [go_sem ↓] qlx qlw
def lset (g:Nat→Nat→Nat) (r c v:Nat):Nat→Nat→Nat:=fun x y=>if x=r∧y=c then v else g x y
def tnU (N o:Nat):Nat→Option Nat:=fun i=>if i=N then some o else some i
def qlo {o i:Nat}:tnU N o i=if i=N then some o else some i:=rfl
attribute [go_sem ↓] qlo
end
end Go.E
namespace Go.Proofs.YtfmojhhokfkdaaaGreatDoor
open Go Go.E Go.Sp
abbrev LSt:=(Nat→Nat→Nat) × List Int × List Nat
def q3x (f:List Int × List Int × List Int × List Nat):PV:=.ag [pI f.1,pI f.2.1,pI f.2.2.1,pF f.2.2.2]
section
variable {F:Nat→Nat→Option Nat} {l:List Int} {cs:List Nat} {cols:List (List Nat)} {j n:Nat} {p:LSt}
structure LGd (n:Nat) (q:LSt):Prop where
 fin:∀ r c,q0N (q.1 r c)∧q.1 r c < 18446744073709551616
 len:q.2.1.length=q.2.2.length
def LGd.step {q:LSt} (h:LGd n q) {r c v:Nat} (hv:q0N v∧v < 18446744073709551616) {x:Int}:LGd n (lset q.1 r c v,q.2.1 ++ [x],q.2.2 ++ [v]):=by
 refine ⟨fun r' c'=>?_,by simp [h.len]⟩;unfold lset;simp only
 split
 ·exact hv
 ·exact h.fin r' c'
end
end Go.Proofs.YtfmojhhokfkdaaaGreatDoor
namespace Go.E
open Go Go.RowKit
end Go.E
namespace Go.Proofs.YtfmojhhokfkdaaaGreatDoor
open Go Go.E Go.Sp
open Classical in
def qcI {l:List Int} (hl:l.length≤1000000):ACt 238 [pI l] (bv (decide (q73 l l.length))):=by
 refine ac0 Tryz.func238 Tryz.ntmps238 [.tmp 2] ?_;refine wk ?_;refine q0C (fun i=>i≤l.length∧(∀ x ∈ l.take i,0≤x∧x < l.length)∧(l.take i).Nodup) [0,9,10] [] Lk Lk (fun i:Nat=>[(11,iv i),(3,.ow 1001 none 0 l.length)]) (fun i=>[(1001,⟨4,none,(q4y l i).map fun z=>bv z,false⟩)]) (fun i=>l.length-i) 0 ⟨Nat.zero_le _,by simp,by simp⟩ ?_ ?_
 ·refine LeM [(1001,some 8)] rfl rfl ?_;refine Zz ?_;exact ⟨rfl,qmj⟩
 ·rintro i ⟨hi,hr,hd⟩
  by_cases hlt:i < l.length
  ·have hlt':(i:Int) < l.length:=by omega
   obtain ⟨x,hx⟩:∃ x,l[i]?=some x:=⟨_,List.getElem?_eq_getElem hlt⟩;have hmem:=List.mem_of_getElem? hx;have ht:=q8b hx;refine wk1 (x2 hlt' hx) ?_
   by_cases hx0:x < 0
   ·refine wk1 hx0 ?_;exact (decide_eq_false fun h=>by have:=(h.2.1 x hmem).1; omega).symm
   ·obtain ⟨k,rfl⟩:∃ k:Nat,x=k:=⟨x.toNat,by omega⟩
    by_cases hxn:(l.length:Int)≤k
    ·refine wk1 (x2 hx0 hxn) ?_;exact (decide_eq_false fun h=>by have:=(h.2.1 _ hmem).2; omega).symm
    ·have hk:k < l.length:=by omega
     have hs:=qeO (i:=i) hk
     by_cases hm:(k:Int) ∈ l.take i
     ·refine wk1 (x4 hx0 hxn hs hm) ?_;refine (decide_eq_false fun h=>?_).symm;have:=(h.2.2.sublist (List.take_sublist (i+1) l));rw [ht,List.nodup_append] at this;exact this.2.2 _ hm _ (by simp) rfl
     ·refine wk1 (x6 hx0 hxn hs hm hx @qeN) ?_;refine ⟨i+1,⟨by omega,?_,?_⟩,by omega,?_⟩
      ·rw [ht];intro y hy
       rcases List.mem_append.1 hy with hy | hy
       ·exact hr y hy
       ·simp at hy; subst hy; omega
      ·rw [ht,List.nodup_append];exact ⟨hd,by simp,fun a ha b hb=>by simp at hb; subst hb; exact fun e=>hm (e ▸ ha)⟩
      ·refine LeM [] rfl rfl ?_;refine Zz ?_;exact ⟨by omega,qeM hx⟩
  ·have hlt':¬ (i:Int) < l.length:=by omega
   refine wk1 hlt' ?_;have hil:i=l.length:=by omega
   rw [hil,List.take_length] at hr hd;exact (decide_eq_true ⟨rfl,hr,hd⟩).symm
structure CoC (n j:Nat) (col:List Int):Prop where
 f:col[0]?=some (j:Int)
 l:∀ z,col[col.length-1]?=some z→z < n
 m:∀ (i:Nat) (x y:Int),col[i]?=some x→col[i+1]?=some y→x < y
structure FStr (n:Nat) (cp ri:List Int):Prop where
 c0:cp[0]?=some 0
 cn:cp[n]?=some (ri.length:Int)
 col:∀ j,j < n→∃ a b:Nat,cp[j]?=some (a:Int)∧cp[j+1]?=some (b:Int)∧a≤b∧b≤ri.length∧CoC n j ((ri.take b).drop a)
open Classical in
def q5d {pm cp ri:List Int} {vs:List Nat} {n:Nat} (hn:pm.length=n) (hn2:n≤200) (hcl:cp.length=n+1) (hri:ri.length≤1000000):ACt 239 [q3x (pm,cp,ri,vs)] (bv (decide (FStr n cp ri))):=by
 have no:∀ {p:Prop},¬ FStr n cp ri→decide (FStr n cp ri)=false:=fun h=>decide_eq_false h;obtain ⟨res,hres⟩:∃ res,res=decide (FStr n cp ri):=⟨_,rfl⟩;rw [← hres];have rF:¬ FStr n cp ri→res=false:=fun h=>by rw [hres]; exact decide_eq_false h
 have rT:FStr n cp ri→res=true:=fun h=>by rw [hres]; exact decide_eq_true h
 clear hres no;obtain ⟨x0,hx0⟩:∃ x,cp[0]?=some x:=⟨_,List.getElem?_eq_getElem Oq⟩;obtain ⟨xn,hxn⟩:∃ x,cp[n]?=some x:=⟨_,List.getElem?_eq_getElem Oq⟩;unfold q3x;subst hn;refine ac0 Tryz.func239 Tryz.ntmps239 [.tmp 2] ?_;refine wk ?_
 by_cases h0:x0=0
 case neg =>
  have e1:(x0 != 0)=true:=by simpa using h0
  refine wk1 (x2 hx0 e1) ?_;rw [rF fun h=>h0 (Option.some.inj (hx0.symm.trans h.c0))]
 subst h0;have e1:((0:Int) != 0)=false:=rfl
 by_cases hn0:xn=ri.length
 case neg =>
  have e2:(xn != (ri.length:Int))=true:=by simpa using hn0
  refine wk1 (x4 hx0 e1 hxn e2) ?_;rw [rF fun h=>hn0 (Option.some.inj (hxn.symm.trans h.cn))]
 subst hn0;have e2:((ri.length:Int) != (ri.length:Int))=false:=by simp
 refine wk1 (x4 hx0 e1 hxn e2) ?_;refine q0C (fun j=>j≤pm.length∧(∃ a:Nat,cp[j]?=some (a:Int))∧∀ j',j' < j→∃ a b:Nat,cp[j']?=some (a:Int)∧cp[j'+1]?=some (b:Int)∧a≤b∧b≤ri.length∧CoC pm.length j' ((ri.take b).drop a)) [1,3,26] [1] Lk Lk (fun j:Nat=>[(27,iv j)]) (fun _=>[]) (fun j=>pm.length-j) 0 ⟨Nat.zero_le _,⟨0,hx0⟩,by omega⟩ ?_ ?_
 ·refine LeM [] rfl rfl ?_;refine Zz ?_
  rfl
 ·rintro j ⟨hj,⟨a,ha⟩,hr⟩
  by_cases hlt:j < pm.length
  ·have hlt':(j:Int) < pm.length:=by omega
   obtain ⟨y,hy⟩:∃ y,cp[j+1]?=some y:=⟨_,List.getElem?_eq_getElem Oq⟩;have w1:IntKind.i64.wrap ((j:Int)+1)=((j+1:Nat):Int):=by rw [i64_in (by omega) (by omega)]; omega
   have bad:(∀ b:Nat,y=b→a≤b→b≤ri.length→¬ CoC pm.length j ((ri.take b).drop a))→res=false:=fun h=>rF fun hS=>by
    obtain ⟨a',b',h1,h2,h3,h4,h5⟩:=hS.col j hlt;rw [ha] at h1; rw [hy] at h2;have:a'=a:=by have:=Option.some.inj h1; omega
    subst this;exact h b' (Option.some.inj h2) h3 h4 h5
   refine wk1 hlt' ?_
   by_cases hay:(a:Int) > y
   ·refine wk1 (x4 ha hy w1 hay) ?_;rw [bad fun b hb h1 _=>by omega]
   by_cases hyr:y > (ri.length:Int)
   ·refine wk1 (x5 ha hy w1 hay hyr) ?_;rw [bad fun b hb _ h1=>by omega]
   obtain ⟨b,rfl⟩:∃ b:Nat,y=b:=⟨y.toNat,by omega⟩;have bad2:¬ CoC pm.length j ((ri.take b).drop a)→res=false:=fun h=>bad fun b' hb _ _=>by
    have:b'=b:=by omega
    subst this; exact h
   clear bad;refine wk1 (x5 ha hy w1 hay hyr) ?_;have es:slP (some 1) (some (iv (a:Int))) (some (iv (b:Int))) (pI ri)=some (pI ((ri.take b).drop a)):=by
    simp [slP,qa1,ksz,List.map_take,List.map_drop];omega
   have hcl2:((ri.take b).drop a).length=b-a:=by simp; omega
   generalize hcol:(ri.take b).drop a=col at bad2 es hcl2;refine wk1 (x4 ha hy w1 es) ?_
   by_cases hl0:col.length=0
   ·have e3:((col.length:Int) == 0)=true:=by simp [hl0]
    refine wk1 e3 ?_;rw [bad2 fun h=>by have:=h.f; rw [List.getElem?_eq_none (by omega)] at this; cases this]
   have e3:((col.length:Int) == 0)=false:=by simpa using hl0
   obtain ⟨c0,hc0⟩:∃ x,col[0]?=some x:=⟨_,List.getElem?_eq_getElem Oq⟩;obtain ⟨cl,hcl3⟩:∃ x,col[col.length-1]?=some x:=⟨_,List.getElem?_eq_getElem Oq⟩;have wl:IntKind.i64.wrap ((col.length:Int)-1)=((col.length-1:Nat):Int):=by rw [i64_in (by omega) (by omega)]; omega
   by_cases h0:c0=j
   case neg =>
    have e4:(c0 != (j:Int))=true:=by simpa using h0
    refine wk1 (x3 e3 hc0 e4) ?_;rw [bad2 fun h=>h0 (Option.some.inj (hc0.symm.trans h.f))]
   subst h0;have e4:((j:Int) != (j:Int))=false:=by simp
   by_cases hge:(pm.length:Int)≤cl
   ·refine wk1 (x6 e3 hc0 e4 wl hcl3 hge) ?_;rw [bad2 fun h=>by have:=h.l _ hcl3; omega]
   refine wk1 (x6 e3 hc0 e4 wl hcl3 hge) ?_;refine q0C (fun i=>1≤i∧i≤col.length∧∀ (k:Nat) (x y:Int),k+1 < i→col[k]?=some x→col[k+1]?=some y→x < y) [1,3,4,5,26,27] [1] Lk Lk (fun i:Nat=>[(6,iv i)]) (fun _=>[]) (fun i=>col.length-i) 1 ⟨Nat.le_refl _,by omega,by omega⟩ ?_ ?_
   ·refine LeM [] rfl rfl ?_;refine Zz ?_
    rfl
   ·rintro i ⟨hi1,hi2,hm⟩
    by_cases hil:i < col.length
    ·have hil':(i:Int) < col.length:=by omega
     obtain ⟨x,hx⟩:∃ x,col[i-1]?=some x:=⟨_,List.getElem?_eq_getElem Oq⟩;obtain ⟨y,hy2⟩:∃ x,col[i]?=some x:=⟨_,List.getElem?_eq_getElem Oq⟩;have wi:IntKind.i64.wrap ((i:Int)-1)=((i-1:Nat):Int):=by rw [i64_in (by omega) (by omega)]; omega
     have wj:IntKind.i64.wrap ((i:Int)+1)=((i+1:Nat):Int):=by rw [i64_in (by omega) (by omega)]; omega
     refine wk1 hil' ?_
     by_cases hxy:y≤x
     ·refine wk1 (x4 hx hy2 wi hxy) ?_;rw [bad2 fun h=>by
       have:=h.m (i-1) x y hx (by rw [show i-1+1=i by omega]; exact hy2);omega]
     ·refine wk1 (x5 hx hy2 wi hxy wj) ?_;refine ⟨i+1,⟨by omega,by omega,?_⟩,by omega,?_⟩
      ·intro k u v hk hu hv
       by_cases hki:k+1 < i
       ·exact hm k u v hki hu hv
       ·obtain rfl:k=i-1:=by omega
        rw [show i-1+1=i by omega] at hv;have h1:=Option.some.inj (hx.symm.trans hu);have h2:=Option.some.inj (hy2.symm.trans hv);omega
      ·refine LeM [] rfl rfl ?_;exact Zy
    ·have hil':¬ (i:Int) < col.length:=by omega
     refine wk1 (x2 hil' w1) ?_;refine ⟨j+1,⟨by omega,⟨b,hy⟩,?_⟩,by omega,?_⟩
     ·intro j' hj'
      by_cases hjj:j' < j
      ·exact hr j' hjj
      ·obtain rfl:j'=j:=by omega
       refine ⟨a,b,ha,hy,by omega,by omega,?_⟩;rw [hcol];refine ⟨hc0,fun z hz=>by have:=Option.some.inj (hcl3.symm.trans hz); omega,fun k u v hu hv=>?_⟩;have hk:k+1 < col.length:=(List.getElem?_eq_some_iff.1 hv).1;exact hm k u v Oq hu hv
     ·refine LeM [] rfl rfl ?_;exact Zy
  ·have hlt':¬ (j:Int) < pm.length:=by omega
   obtain rfl:pm.length=j:=by omega
   refine wk1 hlt' ?_;exact (rT ⟨hx0,hxn,hr⟩).symm
def FDg (n:Nat) (cp:List Int) (vs:List Nat):Prop:=∀ j,j < n→∀ (a x:Nat),cp[j]?=some (a:Int)→vs[a]?=some x→0 < ofZ x
open Classical in
noncomputable def q5G (f:List Int × List Int × List Int × List Nat):Int :=
 if f.1.length > 200 then 6 else if ¬ q73 f.1 f.1.length then 90 else if f.2.1.length≠f.1.length+1∨f.2.2.1.length≠f.2.2.2.length then 2 else if ¬ FStr f.1.length f.2.1 f.2.2.1 then 240 else if (∀ x ∈ f.2.2.2,q0N x)∧FDg f.1.length f.2.1 f.2.2.2 then 0 else 4
open Classical in
def q96 {pm cp ri:List Int} {vs:List Nat} (hp:pm.length≤1000000) (hc:cp.length≤1000000) (hr:ri.length≤1000000) (hv:vs.length≤1000000) (hu:∀ x ∈ vs,x < 18446744073709551616):ACt 175 [q3x (pm,cp,ri,vs)] (iv (q5G (pm,cp,ri,vs))):=by
 obtain ⟨res,hres⟩:∃ res,res=q5G (pm,cp,ri,vs):=⟨_,rfl⟩;rw [← hres];unfold q5G at hres;dsimp only at hres;unfold q3x;dsimp only;refine ac0 Tryz.func175 Tryz.ntmps175 [.tmp 2] ?_;refine wk ?_
 by_cases h1:pm.length > 200
 ·rw [if_pos h1] at hres;have h1':(pm.length:Int) > 200:=by omega
  refine wk1 h1' ?_;exact hres.symm
 have h1':¬ (pm.length:Int) > 200:=by omega
 rw [if_neg h1] at hres;refine wk1 h1' ?_;have cP:=qcI hp
 by_cases h2:q73 pm pm.length
 case neg =>
  rw [if_pos h2] at hres;rw [decide_eq_false h2] at cP;refine wk ?_;exact hres.symm
 rw [if_neg (not_not_intro h2)] at hres;rw [decide_eq_true h2] at cP;refine wk ?_;have w1:IntKind.i64.wrap ((pm.length:Int)+1)=((pm.length+1:Nat):Int):=by rw [i64_in (by omega) (by omega)]; omega
 by_cases h3:cp.length≠pm.length+1∨ri.length≠vs.length
 ·rw [if_pos h3] at hres
  by_cases h4:cp.length=pm.length+1
  ·have e1:((cp.length:Int) != ((pm.length+1:Nat):Int))=false:=by simp; omega
   have e2:((ri.length:Int) != (vs.length:Int))=true:=by simp; omega
   refine wk1 (x3 w1 e1 e2) ?_;exact hres.symm
  ·have e1:((cp.length:Int) != ((pm.length+1:Nat):Int))=true:=by simp; omega
   refine wk1 (x2 w1 e1) ?_;exact hres.symm
 rw [if_neg h3] at hres;have h4:cp.length=pm.length+1:=by omega
 have h5:ri.length=vs.length:=by omega
 have e1:((cp.length:Int) != ((pm.length+1:Nat):Int))=false:=by simp; omega
 have e2:((ri.length:Int) != (vs.length:Int))=false:=by simp; omega
 refine wk1 (x3 w1 e1 e2) ?_;have cS:=q5d (vs:=vs) (rfl:pm.length=_) Oq h4 hr;unfold q3x at cS;dsimp only at cS
 by_cases h6:FStr pm.length cp ri
 case neg =>
  rw [if_pos h6] at hres;rw [decide_eq_false h6] at cS;refine wk ?_;exact hres.symm
 rw [if_neg (not_not_intro h6)] at hres;rw [decide_eq_true h6] at cS;refine wk ?_;refine qkz [1,3,39,40,41] Lk ?_;have bad:¬ ((∀ x ∈ vs,q0N x)∧FDg pm.length cp vs)→res=4:=fun h=>by rw [hres,if_neg h]
 have good:((∀ x ∈ vs,q0N x)∧FDg pm.length cp vs)→res=0:=fun h=>by rw [hres,if_pos h]
 clear hres;refine q0C (fun i=>i≤vs.length∧∀ x ∈ vs.take i,q0N x) [1,3,39,40] [1] Lk Lk (fun i:Nat=>[(41,iv i)]) (fun _=>[]) (fun i=>vs.length-i) 0 ⟨Nat.zero_le _,by simp⟩ ?_ ?_
 ·refine LeM [] rfl rfl ?_;refine Zz ?_
  rfl
 ·rintro i ⟨hi,hf⟩
  by_cases hil:i < vs.length
  ·have hil':(i:Int) < vs.length:=by omega
   obtain ⟨x,hx⟩:∃ x,vs[i]?=some x:=⟨_,List.getElem?_eq_getElem hil⟩;have hm:=List.mem_of_getElem? hx;have cF:=q3b (hu x hm)
   by_cases hfx:q0N x
   case neg =>
    rw [decide_eq_false hfx] at cF;refine wk1 hx ?_;exact (bad fun h=>hfx (h.1 x hm)).symm
   rw [decide_eq_true hfx] at cF;refine wk1 hx ?_;refine ⟨i+1,⟨by omega,?_⟩,by omega,?_⟩
   ·rw [q8b hx];intro y hy
    rcases List.mem_append.1 hy with hy | hy
    ·exact hf y hy
    ·simp at hy; subst hy; exact hfx
   ·refine LeM [] rfl rfl ?_;refine Zz ?_
    rfl
  ·have hil':¬ (i:Int) < vs.length:=by omega
   obtain rfl:vs.length=i:=by omega
   rw [List.take_length] at hf;refine wk1 hil' ?_;refine q0C (fun j=>j≤pm.length∧∀ j',j' < j→∀ (a x:Nat),cp[j']?=some (a:Int)→vs[a]?=some x→0 < ofZ x) [1,3,49] [1] Lk Lk (fun i:Nat=>[(50,iv i)]) (fun _=>[]) (fun i=>pm.length-i) 0 ⟨Nat.zero_le _,by omega⟩ ?_ ?_
   ·refine LeM [] rfl rfl ?_;refine Zz ?_
    rfl
   ·rintro j ⟨hj,hd⟩
    by_cases hjl:j < pm.length
    ·have hjl':(j:Int) < pm.length:=by omega
     obtain ⟨a,b,ha,hb,hab,hbr,hcol⟩:=h6.col j hjl;have hal:a < vs.length:=by
      have:=(List.getElem?_eq_some_iff.1 hcol.f).1;simp at this;omega
     obtain ⟨x,hx⟩:∃ x,vs[a]?=some x:=⟨_,List.getElem?_eq_getElem hal⟩;have hm:=List.mem_of_getElem? hx;have wj:IntKind.i64.wrap ((j:Int)+1)=((j+1:Nat):Int):=by rw [i64_in (by omega) (by omega)]; omega
     have cO:=q2K (hu x hm) (q0Z (hf x hm))
     by_cases hs:(ofZ x).sign≤0
     ·have C1:=(q1l (fOk (q0Z (hf x hm))));refine wk1 (x3 ha hx hs) ?_;refine (bad fun h=>?_).symm;have:=Int.sign_eq_one_of_pos (h.2 j hjl a x ha hx);omega
     ·have C2:=(q1l (fOk (q0Z (hf x hm))));refine wk1 (x4 ha hx hs wj) ?_;refine ⟨j+1,⟨by omega,?_⟩,by omega,?_⟩
      ·intro j' hj' a' x' h1 h2
       by_cases hjj:j' < j
       ·exact hd j' hjj a' x' h1 h2
       ·obtain rfl:j'=j:=by omega
        have e:a'=a:=by have:=Option.some.inj (h1.symm.trans ha); omega
        subst e;have e:=Option.some.inj (h2.symm.trans hx);subst e;exact Int.sign_pos_iff.1 Oq
      ·refine LeM [] rfl rfl ?_;exact Zy
    ·have hjl':¬ (j:Int) < pm.length:=by omega
     obtain rfl:pm.length=j:=by omega
     refine wk1 hjl' ?_;exact (good ⟨hf,hd⟩).symm
def qgc {w:World} {D:Nat→Prop} {ρ:Nat→Option Nat} {h:Hp} {v:Value} {pm cp ri:List Int} {vs:List Nat} (hr:Rd w D (q3x (pm,cp,ri,vs)) ρ h v):In (fFac ⟨pm,cp,ri,vs⟩) D v w:=by
 unfold q3x Rd at hr;obtain ⟨l,rfl,h1⟩:=hr;obtain ⟨_,_,_,_,rfl,h1,h2,h3,h4⟩:=rd_4 h1;obtain ⟨A1,n1,c1,rfl,i1⟩:=q6m (f:=q3H) h1;obtain ⟨A2,n2,c2,rfl,i2⟩:=q6m (f:=q3H) h2;obtain ⟨A3,n3,c3,rfl,i3⟩:=q6m (f:=q3H) h3;obtain ⟨A4,n4,c4,rfl,i4⟩:=q6m (f:=q2A) h4;exact ⟨_,_,_,_,rfl,i1,i2,i3,i4⟩
def q5c {l:List Int} {a b p:Nat} (h:a+p < b):((l.take b).drop a)[p]?=l[a+p]?:=by
 rw [List.getElem?_drop,List.getElem?_take,if_pos h]
def q9X {pm cp ri:List Int} {vs:List Nat} (h:q5G (pm,cp,ri,vs)=0) (hr:ri.length≤1000000) (hu:∀ x ∈ vs,x < 18446744073709551616):FacOk ⟨pm,cp,ri,vs⟩:=by
 unfold q5G at h;dsimp only at h
 split at h
 ·cases h
 split at h
 ·cases h
 split at h
 ·cases h
 split at h
 ·cases h
 split at h
 case isFalse=>cases h
 rename_i h1 h2 h3 h4 h5;obtain ⟨h5,h6⟩:=h5;have h2:=Classical.not_not.1 h2;have h4:=Classical.not_not.1 h4;refine ⟨⟨fun x hx=>h2.2.1 x hx,h2.2.2⟩,by dsimp only; omega,by dsimp only; omega,by dsimp only; omega,hr,h4.c0,h4.cn,fun j hj=>?_,fun x hx=>⟨hu x hx,h5 x hx⟩⟩;obtain ⟨a,b,ha,hb,hab,hbr,hc⟩:=h4.col j hj;have hl:((ri.take b).drop a).length=b-a:=by simp; omega
 have hlt:a < b:=by
  have:=(List.getElem?_eq_some_iff.1 hc.f).1;omega
 refine ⟨a,b,ha,hb,hlt,hbr,?_,?_,?_,?_⟩
 ·have:=hc.f
  rwa [q5c (by omega)] at this
 ·obtain ⟨z,hz⟩:∃ z,ri[b-1]?=some z:=⟨_,List.getElem?_eq_getElem Oq⟩;refine ⟨z,hz,hc.l z ?_⟩;rw [hl,q5c (by omega),show a+(b-a-1)=b-1 by omega];exact hz
 ·intro i h7 h8;obtain ⟨y,hy⟩:∃ z,ri[i-1]?=some z:=⟨_,List.getElem?_eq_getElem Oq⟩;obtain ⟨z,hz⟩:∃ z,ri[i]?=some z:=⟨_,List.getElem?_eq_getElem Oq⟩;refine ⟨y,z,hy,hz,hc.m (i-1-a) y z ?_ ?_⟩
  ·rw [q5c (by omega),show a+(i-1-a)=i-1 by omega]; exact hy
  ·rw [q5c (by omega),show a+(i-1-a+1)=i by omega]; exact hz
 ·obtain ⟨x,hx⟩:∃ x,vs[a]?=some x:=⟨_,List.getElem?_eq_getElem Oq⟩;exact ⟨x,ofZ x,hx,q0Z (h5 x (List.mem_of_getElem? hx)),h6 j hj a x ha hx⟩
def fwP:Option (List Nat)→PV
 | some ys=>.tu [pF ys,iv 0]
 | none=>.tu [pF [],iv 233]
def qi3 {w:World} {D:Nat→Prop} {ρ:Nat→Option Nat} {h:Hp} {v:Value} {l:List Nat} (hr:In (fSc q2A l) D v w):Rd w D (pF l) ρ h v:=qmk (f:=q2A) (fun x=>⟨rfl,rfl⟩) hr
def qgb {o:Option (List Nat)} {w:World} {D:Nat→Prop} {ρ:Nat→Option Nat} {h:Hp} {v:Value} (hr:In (qoS o) D v w):Rd w D (fwP o) ρ h v:=by
 cases o with
 | some ys =>
  obtain ⟨a,b,rfl,h1,h2⟩:=hr;unfold fwP Rd;refine ⟨[a,b],rfl,?_⟩;unfold RdL;refine ⟨_,_,rfl,qi3 h1,?_⟩;unfold RdL;exact ⟨_,_,rfl,by unfold Rd; exact h2,by unfold RdL; rfl⟩
 | none =>
  obtain ⟨a,b,rfl,h1,h2⟩:=hr;unfold fwP Rd;refine ⟨[a,b],rfl,?_⟩;unfold RdL;refine ⟨_,_,rfl,qi3 h1,?_⟩;unfold RdL;exact ⟨_,_,rfl,by unfold Rd; exact h2,by unfold RdL; rfl⟩
def qpb {n:Nat} (hn:n≤1000000):ACt 180 [iv n] (pI (q0t n)):=by
 have hl:=q1C;refine ac0 Tryz.func180 Tryz.ntmps180 [.tmp 2] ?_;refine wk ?_;refine q0C (fun i=>i≤n) [5] [] Lk Lk (fun i:Nat=>[(6,iv i),(3,.ow 1001 none 0 i)]) (fun i=>[(1001,⟨3,none,(q0t i).map fun z=>iv z,false⟩)]) (fun i=>n-i) 0 (Nat.zero_le _) ?_ ?_
 ·refine LeM [(1001,none)] rfl rfl ?_;refine Zz ?_;exact ⟨rfl,rfl⟩
 ·intro i hi
  by_cases hlt:i < n
  ·refine wk1 (hl i) ?_;refine ⟨i+1,by omega,by omega,?_⟩;refine LeM [(1001,some 12)] rfl rfl ?_;refine Zz ?_;exact ⟨by omega,by rw [q2x]⟩
  ·obtain rfl:i=n:=by omega
   exact wk1 (hl i) trivial
def qoF {f:List Int × List Int × List Int × List Nat} {ps:List Int} {l:List Nat} (ho:FacOk ⟨f.1,f.2.1,f.2.2.1,f.2.2.2⟩) (hl:q0x l) (hn:l.length=f.1.length) (hps:∀ x ∈ ps,0≤x∧x < l.length) (hpl:ps.length≤200) :
  ACt 178 [q3x f,pF l,pI ps] (fwP (qdg ⟨f.1,f.2.1,f.2.2.1,f.2.2.2⟩ ps (l.map fun x=>[ofZ x]) (List.replicate l.length 0))):=q9j (r:=.fm (qoS _)) (fun D w v h=>qgb (qdc h)) (ac_r qhP fun D w vs hT hF hR=>by
 obtain ⟨_,_,_,rfl,h3,h4,h5⟩:=rd_3 hR;obtain ⟨A,n,c,rfl,h6⟩:=q6m (f:=q2A) h4;obtain ⟨A2,n2,c2,rfl,h7⟩:=q6m (f:=q3H) h5;obtain rfl:n=l.length:=h6.sc_len.symm;obtain rfl:n2=ps.length:=h7.sc_len.symm;exact qaT hT (qgc h3) ho h6 hl hn h7 hps hpl hF)

def q8y:ofF 0=some 0:=by
 unfold ofF;rw [if_neg (by decide),if_pos (by decide)];have:sgn (decide (9223372036854775808≤0)) (0 % 4503599627370496)=0:=by decide
 rw [this,Int.zero_mul]

def qfm {a b:Int}:ACt 270 [iv a,iv b] (bv (decide (a < b))):=by
 have C1:∀ x:Int,ACt 289 [iv x] (bv false):=fun x=>by
  have q:(x != x)=false:=by simp
  refine ac0 Tryz.func289 Tryz.ntmps289 [.tmp 2] ?_;exact wk1 q trivial
 refine ac0 Tryz.func270 Tryz.ntmps270 [.tmp 4] ?_;exact wk trivial
def q8C {l:List Int} (hl:∀ (i:Nat) (x y:Int),l[i]?=some x→l[i+1]?=some y→x≤y) (hn:l.length≤1000000):ACt 232 [pI l] (bv true):=by
 have C1:=@qfm;refine ac0 Tryz.func232 Tryz.ntmps232 [.tmp 2] ?_;refine wk ?_;refine q0C (fun i:Int=>i < l.length ∧ -1≤i) [0] [] Lk Lk (fun i:Int=>[(3,iv i)]) (fun _=>[]) (fun i=>(i+1).toNat) (l.length-1:Int) ⟨by omega,by omega⟩ ?_ ?_
 ·refine LeM [] rfl rfl ?_;exact Zy
 ·rintro i ⟨hi,h0⟩
  by_cases hlt:i > 0
  ·obtain ⟨k,rfl⟩:∃ k:Nat,i=((k+1:Nat):Int):=⟨(i-1).toNat,by omega⟩;obtain ⟨x,hx⟩:∃ x,l[k]?=some x:=⟨_,List.getElem?_eq_getElem Oq⟩;obtain ⟨y,hy⟩:∃ y,l[k+1]?=some y:=⟨_,List.getElem?_eq_getElem Oq⟩;have:=hl k x y hx hy;have q:¬ y < x:=by omega
   have e:IntKind.i64.wrap (((k+1:Nat):Int)-1)=(k:Int):=by rw [i64_in (by omega) (by omega)]; omega
   refine wk1 (x6 hlt hx hy q e (decide_eq_false q)) ?_;refine ⟨k,⟨by omega,by omega⟩,by omega,?_⟩;refine LeM [] rfl rfl ?_;exact Zy
  ·exact wk1 hlt trivial
def qmI {l:List Int} {a b p:Nat} (h:a+p < b):((l.take b).drop a)[p]?=l[a+p]?:=by
 rw [List.getElem?_drop,List.getElem?_take,if_pos h]
def qaK (ix:List Int) (a k:Nat):Int:=if k=a then -1 else ix.getD (k-1) 0
def qec {R C:Nat} {st ix:List Int} {vl:List Nat} (hS:MSz R C ix) (hP:MPt C st ix vl) (hI:MIx R st ix):ACt 163 [qbh R C st ix vl] (bv true):=by
 obtain ⟨z1,z2,z3,z4,z5⟩:=hS;have hnn:=hP.nn;have hub:=hP.ub Oq;obtain ⟨p1,p2,p3,p4,p5⟩:=hP;rw [Int.toNat_natCast] at p4;have C1:=q8C (l:=st) p5 Oq;have hsl:st.length=C+1:=by omega
 have hg:∀ j,j < C→∃ a b:Nat,st[j]?=some (a:Int)∧st[j+1]?=some (b:Int)∧a≤b∧b≤ix.length:=fun j hj=>by
  obtain ⟨x,hx⟩:∃ x,st[j]?=some x:=⟨_,List.getElem?_eq_getElem Oq⟩;obtain ⟨y,hy⟩:∃ y,st[j+1]?=some y:=⟨_,List.getElem?_eq_getElem Oq⟩;have h1:=hnn j x hx;have h2:=p5 j x y hx hy;have h3:=hub (C-(j+1)) (j+1) y (by rw [Int.toNat_natCast]; omega) hy;exact ⟨x.toNat,y.toNat,by rw [hx]; congr 1; omega,by rw [hy]; congr 1; omega,by omega,by omega⟩
 unfold qbh;refine ac0 Tryz.func163 Tryz.ntmps163 [.tmp 2] ?_;refine wk1 (x4 hsl p1 p3 p4) ?_;refine q0C (fun j=>j≤C) [1,2,49] [1] Lk Lk (fun j:Nat=>[(50,iv j)]) (fun _=>[]) (fun j=>C-j) 0 (Nat.zero_le _) ?_ ?_
 ·refine LeM [] rfl rfl ?_;refine Zz ?_
  rfl
 ·intro j hj
  by_cases hlt:j < C
  ·obtain ⟨a,b,g1,g2,g3,g4⟩:=hg j hlt;have es:slP (some 1) (some (iv (a:Int))) (some (iv (b:Int))) (pI ix)=some (pI ((ix.take b).drop a)):=by
    simp [slP,qa1,ksz,List.map_take,List.map_drop];omega
   have hl:((ix.take b).drop a).length=b-a:=by simp; omega
   have wj:(j:Int)+1=((j+1:Nat):Int):=rfl;have ww:IntKind.i64.wrap ((j+1:Nat):Int)=((j+1:Nat):Int):=i64_in Oq Oq;have hsb:=fun p (h:a+p < b)=>qmI (l:=ix) (p:=p) h;generalize (ix.take b).drop a=L at *;refine wk1 (x6 g1 g2 es wj ww hl) ?_;refine q0C (fun t=>t≤b-a) [1,2,3,49,50,66,67] [1] Lk Lk (fun t:Nat=>[(68,iv t),(4,iv (qaK ix a (a+t)))]) (fun _=>[]) (fun t=>b-a-t) 0 (Nat.zero_le _) ?_ ?_
   ·refine LeM [] rfl rfl ?_;refine Zz ?_;unfold qaK;exact ⟨rfl,(if_pos rfl).symm⟩
   ·intro t ht
    by_cases hlt2:t < b-a
    ·obtain ⟨x,hx⟩:∃ x,ix[a+t]?=some x:=⟨_,List.getElem?_eq_getElem Oq⟩;obtain ⟨h1,h2,h3⟩:=hI j _ _ g1 g2 (a+t) Oq Oq x hx;have hx2:=(hsb t Oq).trans hx;have hlast:qaK ix a (a+t) < x∧qaK ix a (a+(t+1))=x:=by
      unfold qaK;rw [if_neg (show ¬ a+(t+1)=a by omega),show a+(t+1)-1=a+t by omega,getD_some hx];refine ⟨?_,rfl⟩
      by_cases h0:t=0
      ·rw [if_pos (by omega)]; omega
      ·obtain ⟨u,hu⟩:∃ u,ix[a+t-1]?=some u:=⟨_,List.getElem?_eq_getElem Oq⟩;rw [if_neg (by omega),getD_some hu];exact h3 Oq u hu
     obtain ⟨q1,q2⟩:=hlast;have q3:¬ x≤qaK ix a (a+t):=by omega
     have q4:¬ (R:Int)≤x:=by omega
     refine wk1 (x3 hx2 q3 q4) ?_;refine ⟨t+1,by omega,by omega,?_⟩;rw [q2];refine LeM [] rfl rfl ?_;refine Zz ?_;omega
    ·have hlt3:¬ (t:Int) < ((b-a:Nat):Int):=by omega
     refine wk1 hlt3 ?_;refine ⟨j+1,by omega,by omega,?_⟩;refine LeM [] rfl rfl ?_;refine Zz ?_;omega
  ·have hlt':¬ (j:Int) < C:=by omega
   exact wk1 hlt' trivial
def qed {x:Nat} (hx:x < 18446744073709551616):ACt 164 [uv x] (bv (!decide (q0N x))):=by
 have C1:=q3b hx;refine ac0 Tryz.func164 Tryz.ntmps164 [.tmp 2] ?_;exact wk trivial
def qin {R C:Nat} {st ix:List Int} {vl:List Nat} (h:qpA R C st ix vl=0) (hu:∀ x ∈ vl,x < 18446744073709551616):ACt 88 [qbh R C st ix vl] (iv 0):=by
 unfold qpA at h
 split at h
 ·rename_i hS
  split at h
  ·rename_i hP
   split at h
   ·rename_i hf;have C1:=qec hS hP.1 hP.2;have hvl:=hP.1.v;obtain ⟨z1,z2,z3,z4,z5⟩:=hS;have C2:=q2L (f:=164) (l:=vl) (fun x hx=>qed hx) hu Oq;rw [decide_eq_true hf] at C2;have C3:∀ n:Nat,n≤200→ACt 162 [iv n,iv 0,iv 200] (bv true):=fun n hn=>by
     have q1:(0:Int)≤n:=by omega
     have q2:(n:Int)≤200:=by omega
     refine ac0 Tryz.func162 Tryz.ntmps162 [.tmp 6] ?_;exact wk1 (x2 q1 q2) trivial
    unfold qbh at *;refine ac0 Tryz.func88 Tryz.ntmps88 [.tmp 2] ?_;exact wk trivial
   ·cases h
  ·cases h
 ·cases h
def qeD {f:Nat→Nat→Option Nat} {R C:Nat} (h:TOk f R C):ACt 88 [pT R C f] (iv 0):=qin h.chk h.vl.2.2.2
end Go.Proofs.YtfmojhhokfkdaaaGreatDoor
namespace Go.Sp
open Go.E Go.Proofs.YtfmojhhokfkdaaaGreatDoor
def prL (x y:List Nat) (i:Nat):List Int:=(List.range i).map fun k=>q0g (x.getD k 0) (y.getD k 0)
def q1j (x y:List Nat):Int:=q1A (prL x y x.length)
def lnE (x:List Nat) (t:Nat) (y:List Nat) (k:Nat):Int:=ofZ (x.getD k 0)+q0g t (y.getD k 0)
def lnF (x:List Nat) (t:Nat) (y:List Nat) (i:Nat):List Nat:=(List.range i).map fun k=>fR 0 (lnE x t y k)
def qnM {x y:List Nat} {i:Nat}:prL x y (i+1)=prL x y i ++ [q0g (x.getD i 0) (y.getD i 0)]:=by unfold prL; rw [List.range_succ,List.map_append]; rfl
def lnF_s {x y:List Nat} {t i:Nat}:lnF x t y (i+1)=lnF x t y i ++ [fR 0 (lnE x t y i)]:=by unfold lnF; rw [List.range_succ,List.map_append]; rfl
def q7t {x y:List Nat} {i:Nat}:(prL x y i).length=i:=by simp [prL]
def q38 {x y:List Nat} {t i:Nat}:(lnF x t y i).length=i:=by simp [lnF]
def q1f {l:List Nat} {i:Nat} (h:q0x l):l.getD i 0 < 18446744073709551616∧q0N (l.getD i 0):=qcR h
def qgh {x y:List Nat} (hx:q0x x) (hy:q0x y) {i:Nat}:∀ z ∈ prL x y i,bl z.natAbs≤67600:=fun z hz=>by
 obtain ⟨k,_,rfl⟩:=List.mem_map.1 hz;exact (q0k (q1f hx).2 (q1f hy).2).2
def qbf {x y:List Nat} (hx:q0x x) (hy:q0x y) {i:Nat} (hi:i≤1000):q07 (q1A (prL x y i)):=qgY (qgh hx hy) (by rw [q7t]; omega)
def q6E {x y:List Nat} (hx:q0x x) (hy:q0x y) (hn:x.length≤1000):q07 (q1j x y):=qbf hx hy hn
def qnd {x y:List Nat} {t k:Nat} (hx:q0x x) (hy:q0x y) (ht:q0N t):q07 (lnE x t y k):=by
 have h1:=q6q (q1f (i:=k) hx).2;have h2:=(q0k ht (q1f (i:=k) hy).2).2;unfold q07 lnE;have:=qdL h1 h2;omega
def q22 {f:Nat} (h:q0N f):q07 (ofZ f):=by
 have:=q6q h;unfold q07;omega
end Go.Sp
namespace Go.Proofs.YtfmojhhokfkdaaaGreatDoor
open Go Go.E Go.Sp
def qn2 {V:Int} (ho:q07 V):Nz (dT V):=fun w D B v hB h=>(q4z.2 (qdc (nz_V w D B v hB (q7r (q4z.1 ⟨h,ho⟩))))).1
section
variable {x y:List Nat} {t:Nat}
def q49 (hx:q0x x) (hy:q0x y) (hn:x.length≤1000) (hl:y.length=x.length):ACt 107 [pF x,pF y] (dT (q1j x y)):=by
 have hpl:=fun i=>q7t (x:=x) (y:=y) (i:=i);refine ac0 Tryz.func107 Tryz.ntmps107 [.cell 4 40] ?_;refine wk ?_;refine q0C (fun i=>i≤x.length) [0,1,4,8] [4] Lk Lk (fun i:Nat=>[(9,iv i),(5,.ow 1001 (some 4) 0 i)]) (fun i=>[(1001,⟨40,some 4,(prL x y i).map fun V=>pV V,false⟩)]) (fun i=>x.length-i) 0 (Nat.zero_le _) ?_ ?_
 ·refine LeM [(1001,none)] rfl rfl ?_;refine Zz ?_;exact ⟨rfl,rfl⟩
 ·intro i hi
  by_cases hlt:i < x.length
  ·obtain ⟨u,hu⟩:∃ u,x[i]?=some u:=⟨_,List.getElem?_eq_getElem hlt⟩;obtain ⟨v,hv⟩:∃ v,y[i]?=some v:=⟨_,List.getElem?_eq_getElem Oq⟩;obtain ⟨u1,u2⟩:=hx u (List.mem_of_getElem? hu);obtain ⟨v1,v2⟩:=hy v (List.mem_of_getElem? hv);have C1:=q2K u1 (q0Z u2);have C2:=q2K v1 (q0Z v2);have C3:=qaC (q4R (q22 u2) (q22 v2) (q0k u2 v2).1) (q2J (q0k u2 v2).1).2.2.2;have es:=@qnM x y i;rw [getD_some hu,getD_some hv] at es;refine wk1 (x3 hu hv (hpl i)) ?_;refine ⟨i+1,by omega,by omega,?_⟩;rw [es,List.map_append];refine LeM [(1001,some 25)] rfl rfl ?_;refine Zz ?_;exact ⟨by omega,qku (q17 rfl clV) (q17 rfl (clV (l:=[_])))⟩
  ·obtain rfl:i=x.length:=by omega
   have C1:=q77 (l:=prL x y x.length) (by rw [q7t]; exact hn) (fun z hz=>by have:=qgh hx hy z hz; unfold q07; omega) (qbf hx hy hn);have N1:=qn2 (qbf hx hy hn);unfold q1j;exact wk1 (hpl x.length) trivial
def lnR (l:List Nat):PV:=.tu [pF l,bv (decide (∀ x ∈ l,q0N x))]
def q5x {c:Int} (hc:c=ofZ t) (hx:q0x x) (hy:q0x y) (ht:q0N t) (hn:x.length≤1000) (hl:y.length=x.length):ACt 186 [pF x,dT c,pF y] (lnR (lnF x t y x.length)):=by
 subst hc;have hpl:=fun i=>q38 (x:=x) (y:=y) (t:=t) (i:=i);have hfu:∀ z ∈ lnF x t y x.length,z < 18446744073709551616:=fun z hz=>by
  obtain ⟨k,_,rfl⟩:=List.mem_map.1 hz;exact qf3
 have C7:=q3a hfu (by rw [hpl]; omega);unfold lnR;have N1:Nz (bv (decide (∀ z ∈ lnF x t y x.length,q0N z))):=qn1;generalize decide (∀ z ∈ lnF x t y x.length,q0N z)=b at *;refine ac0 Tryz.func186 Tryz.ntmps186 [.tmp 6,.tmp 7] ?_;refine wk ?_;refine q0C (fun i=>i≤x.length) [0,2,4,11] [4] Lk Lk (fun i:Nat=>[(12,iv i),(8,.ow 1001 none 0 i)]) (fun i=>[(1001,⟨43,none,(lnF x t y i).map fun z:Nat=>uv z,false⟩)]) (fun i=>x.length-i) 0 (Nat.zero_le _) ?_ ?_
 ·refine LeM [(1001,none)] rfl rfl ?_;refine Zz ?_;exact ⟨rfl,rfl⟩
 ·intro i hi
  by_cases hlt:i < x.length
  ·obtain ⟨u,hu⟩:∃ u,x[i]?=some u:=⟨_,List.getElem?_eq_getElem hlt⟩;obtain ⟨v,hv⟩:∃ v,y[i]?=some v:=⟨_,List.getElem?_eq_getElem Oq⟩;obtain ⟨u1,u2⟩:=hx u (List.mem_of_getElem? hu);obtain ⟨v1,v2⟩:=hy v (List.mem_of_getElem? hv);have C1:=q2K u1 (q0Z u2);have C2:=q2K v1 (q0Z v2);have hm:=q0k ht v2;have C3:=q4R (q22 ht) (q22 v2) hm.1;have es:=@lnF_s x y t i;have hd:=qnd (k:=i) hx hy ht;unfold lnE at es hd;rw [getD_some hu,getD_some hv] at es hd;have C4:=qhj (q22 u2) (q2J hm.1).2.2.2 hd;have C5:=q7G hd;refine wk1 (x3 hu hv (hpl i)) ?_;refine ⟨i+1,by omega,by omega,?_⟩;rw [es];refine LeM [(1001,some 31)] rfl rfl ?_;refine Zz ?_;omega
  ·obtain rfl:i=x.length:=by omega
   exact wk1 (hpl x.length) trivial
end
end Go.Proofs.YtfmojhhokfkdaaaGreatDoor
namespace Go.E
open Go Go.RowKit
section
variable {J:Nat→Prop} {s:Nat→PV} {h:Hp} {T1 T2:TypeId} {K:Kd} {N R n:Nat} {row:Nat→List PV}
def q6X (T1 T2:TypeId) (K:Kd) (N R n:Nat) (row:Nat→List PV):Hp:=fun i =>
 if i=N then some ⟨T1,none,(List.range n).map fun j=>.ow (j+R) K 0 (row j).length,false⟩
 else if R≤i∧i < R+n then some ⟨T2,K,row (i-R),false⟩ else none
def qmA:q6X T1 T2 K N R n row N=some ⟨T1,none,(List.range n).map fun j=>.ow (j+R) K 0 (row j).length,false⟩:=if_pos rfl
def q8c {j:Nat} (hN:N < R) (hj:j < n):q6X T1 T2 K N R n row (j+R)=some ⟨T2,K,row j,false⟩:=by
 unfold q6X;rw [if_neg (by omega),if_pos (by omega),Nat.add_sub_cancel]
attribute [go_sem ↓] qmA q8c
def q3A {i:Nat} {b:Bk} (hb:q6X T1 T2 K N R n row i=some b):(i=N∧b=⟨T1,none,(List.range n).map fun j=>.ow (j+R) K 0 (row j).length,false⟩)∨(R≤i∧i < R+n∧b=⟨T2,K,row (i-R),false⟩):=by
 unfold q6X at hb
 split at hb
 ·cases hb; exact .inl ⟨‹_›,rfl⟩
 ·split at hb
  ·rename_i hi; cases hb; exact .inr ⟨hi.1,hi.2,rfl⟩
  ·cases hb
def qeB {p:Nat→Prop} (hp:∀ j,j < n→p (j+R)):IdL p ((List.range n).map fun j=>.ow (j+R) K 0 (row j).length):=IdL.of fun x hx=>by
 obtain ⟨z,hz,rfl⟩:=List.mem_map.1 hx;unfold IdP; exact hp z (List.mem_range.1 hz)
def qiF (hrow:∀ j,∀ p,IdL p (row j)) (hN:5000≤N) (hNR:N < R) (hR:R+n≤1000000):WfH (q6X T1 T2 K N R n row):=⟨fun i b hb=>by
 rcases q3A hb with ⟨_,rfl⟩ | ⟨h1,h2,rfl⟩
 ·refine ⟨rfl,qeB fun j hj=>⟨⟨by omega,by omega⟩,?_⟩⟩;rw [q8c hNR hj]; exact Option.some_ne_none _
 ·exact ⟨rfl,hrow _ _⟩⟩
def tnG (N R n o:Nat):Nat→Option Nat:=fun i=>if i=N then some o else if R≤i∧i < R+n then none else some i
def qlp {o i:Nat} (h1:i < N) (h2:i < R):tnG N R n o i=some i:=by
 unfold tnG;rw [if_neg (by omega),if_neg (by omega)]
attribute [go_sem ↓] qlp
def qeA {o:Nat} (hJ:∀ i,¬ J i) (ho:h o=some ⟨T1,none,List.replicate n (.vl (.slice none 0 0)),false⟩) (h5:o < 5000) (hN:5000≤N) (hNR:N < R) (hR:R+n≤1000000) {xs kv:List (Nat × PV)} {kb:List (Nat × Option Bk)} (hn:nmW o o (kb.map (·.1)))
  (hh:q6S (tnG N R n o) h (q1Y (q6X T1 T2 K N R n fun _=>[]) (hpM [] kb)) s xs∧q6S (tnG N R n o) h (q1Y (q6X T1 T2 K N R n fun _=>[]) (hpM [] kb)) s kv∧qa8 (tnG N R n o) h (q1Y (q6X T1 T2 K N R n fun _=>[]) (hpM [] kb)) kb):Le J s h (stM xs kv) (q1Y (q6X T1 T2 K N R n fun _=>[]) (hpM [] kb)):=by
 obtain ⟨h1,h2,h4⟩:=hh;have tN:tnG N R n o N=some o:=if_pos rfl;have tR:∀ i,R≤i→i < R+n→tnG N R n o i=none:=fun i a b=>by unfold tnG; rw [if_neg (by omega),if_pos ⟨a,b⟩]
 have tI:∀ i,i < 5000→tnG N R n o i=some i:=fun i a=>by unfold tnG; rw [if_neg (by omega),if_neg (by omega)]
 have key:∀ i b,q1Y (q6X T1 T2 K N R n fun _=>[]) (hpM [] kb) i=some b→i=N∨(R≤i∧i < R+n)∨(i < 5000∧i≠o):=fun i b hb=>by
  by_cases hi:win i
  ·rw [q0q hi] at hb
   rcases q3A hb with ⟨e,_⟩ | ⟨q1,q2,_⟩
   ·exact .inl e
   ·exact .inr (.inl ⟨q1,q2⟩)
  ·rw [q1M hi] at hb;have:=q5p hn i (q4q h4 i b hb).2;exact .inr (.inr ⟨this.1,this.2.1⟩)
 refine q4o (tnG N R n o) (fun i b hb=>?_) (fun i j k' b c hi hj ti tj=>?_) (fun t=>q4p h2 h1 t) fun i hi=>(hJ i hi).elim
 ·by_cases hi:win i
  ·rw [q0q hi] at hb
   rcases q3A hb with ⟨rfl,rfl⟩ | ⟨q1,q2,rfl⟩
   ·unfold LeB;rw [tN];refine ⟨_,ho,rfl,rfl,⟨rfl,rfl⟩,?_⟩;rw [qi2];refine ⟨by simp,fun c x y hx hy=>?_⟩;have hc:c < n:=by have:=(List.getElem?_eq_some_iff.1 hy).1; simpa using this
    rw [List.getElem?_map,List.getElem?_range hc,Option.map_some] at hx hy;cases hx; cases hy;exact .nilow (tR _ (by omega) (by omega)) (by rw [q0q ⟨by omega,by omega⟩]; exact q8c hNR hc) rfl
   ·unfold LeB;rw [tR i q1 q2]
  ·rw [q1M hi] at hb;exact (q4q h4 i b hb).1
 ·rcases key i b hi with rfl | ⟨a1,a2⟩ | ⟨a1,a2⟩ <;> rcases key j c hj with rfl | ⟨b1,b2⟩ | ⟨b1,b2⟩
  ·rfl
  ·rw [tR _ b1 b2] at tj; cases tj
  ·rw [tN] at ti; rw [tI _ b1] at tj; cases ti; cases tj; exact (b2 rfl).elim
  ·rw [tR _ a1 a2] at ti; cases ti
  ·rw [tR _ a1 a2] at ti; cases ti
  ·rw [tR _ a1 a2] at ti; cases ti
  ·rw [tI _ a1] at ti; rw [tN] at tj; cases ti; cases tj; exact (a2 rfl).elim
  ·rw [tR _ b1 b2] at tj; cases tj
  ·rw [tI _ a1] at ti; rw [tI _ b1] at tj; cases ti; cases tj; rfl
def q3C (row:Nat→List PV) (k:Nat) (x:PV):Nat→List PV:=fun j=>if j=k then row k ++ [x] else row j
def q68 {r k:Nat} {x:PV} (hJ:∀ i,¬ J i) (hk:k < n) (hcl:∀ j,ClL (q3C row k x j)) (ho:h N=some ⟨T1,none,((List.range n).map fun j=>.ow (j+R) K 0 (row j).length).set k (.ow r K 0 ((row k).length+1)),false⟩) (hr:h r=some ⟨T2,K,row k ++ [x],false⟩)
  (hrow:∀ j,j < n→j≠k→h (j+R)=some ⟨T2,K,row j,false⟩) (h6:r < 5000) (hN:5000≤N) (hNR:N < R) (hR:R+n≤1000000) {xs kv:List (Nat × PV)} {kb:List (Nat × Option Bk)} (hn:nmW r r (kb.map (·.1)))
  (hh:q6S (tnU (k+R) r) h (q1Y (q6X T1 T2 K N R n (q3C row k x)) (hpM [] kb)) s xs∧q6S (tnU (k+R) r) h (q1Y (q6X T1 T2 K N R n (q3C row k x)) (hpM [] kb)) s kv∧qa8 (tnU (k+R) r) h (q1Y (q6X T1 T2 K N R n (q3C row k x)) (hpM [] kb)) kb):Le J s h (stM xs kv) (q1Y (q6X T1 T2 K N R n (q3C row k x)) (hpM [] kb)):=by
 obtain ⟨q1,q2,q4⟩:=hh;have tK:tnU (k+R) r (k+R)=some r:=if_pos rfl;have tI:∀ i,i≠k+R→tnU (k+R) r i=some i:=fun i a=>if_neg a;have key:∀ i b,q1Y (q6X T1 T2 K N R n (q3C row k x)) (hpM [] kb) i=some b→i≠r:=fun i b hb=>by
  by_cases hi:win i
  ·unfold win at hi; omega
  ·rw [q1M hi] at hb;exact (q5p hn i (q4q q4 i b hb).2).2.1
 refine q4o (tnU (k+R) r) (fun i b hb=>?_) (fun i j k' b c hi hj ti tj=>?_) (fun t=>q4p q2 q1 t) fun i hi=>(hJ i hi).elim
 ·by_cases hi:win i
  ·rw [q0q hi] at hb
   rcases q3A hb with ⟨rfl,rfl⟩ | ⟨a1,a2,rfl⟩
   ·unfold LeB;rw [tI i (by omega)];refine ⟨_,ho,rfl,rfl,⟨rfl,rfl⟩,by simp,fun c u v hx hy=>?_⟩;have hc:c < n:=by have:=(List.getElem?_eq_some_iff.1 hy).1; simpa using this
    rw [List.getElem?_map,List.getElem?_range hc,Option.map_some] at hy;cases hy;rw [List.getElem?_set] at hx;have hex:∃ b,q1Y (q6X T1 T2 K i R n (q3C row k x)) (hpM [] kb) (c+R)=some b:=⟨_,by rw [q0q ⟨by omega,by omega⟩,q8c hNR hc]⟩;obtain ⟨bb,hbb⟩:=hex
    by_cases hck:k=c
    ·subst hck;rw [if_pos rfl,if_pos (by simpa using hc)] at hx;cases hx;rw [show (q3C row k x k).length=(row k).length+1 by unfold q3C; rw [if_pos rfl,List.length_append]; rfl];exact .ow tK hbb
    ·rw [if_neg hck,List.getElem?_map,List.getElem?_range hc,Option.map_some] at hx;cases hx;rw [show q3C row k x c=row c from if_neg (Ne.symm hck)];exact .ow (tI _ Oq) hbb
   ·by_cases e:i=k+R
    ·subst e;unfold LeB;rw [tK,Nat.add_sub_cancel];have e2:q3C row k x k=row k ++ [x]:=if_pos rfl;refine ⟨_,hr,rfl,rfl,⟨rfl,rfl⟩,q17 e2.symm (hcl k)⟩
    ·unfold LeB;rw [tI i e];have:=hrow (i-R) Oq Oq;rw [Nat.sub_add_cancel a1] at this;have e2:q3C row k x (i-R)=row (i-R):=if_neg Oq;refine ⟨_,this,rfl,rfl,⟨rfl,rfl⟩,q17 e2.symm (hcl _)⟩
  ·rw [q1M hi] at hb;exact (q4q q4 i b hb).1
 ·have a1:=key i b hi;have a2:=key j c hj;unfold tnU at ti tj
  split at ti <;> split at tj <;> cases ti <;> cases tj <;> first | omega | rfl | exact (a1 rfl).elim | exact (a2 rfl).elim
end
end Go.E
namespace Go.Sp
open Go.E Go.Proofs.YtfmojhhokfkdaaaGreatDoor
def sg (g:Nat→Int):Nat→Int
 | 0=>0
 | n+1=>sg g n+g n
def q1q {g h:Nat→Int}:∀ n,(∀ i,i < n→g i=h i)→sg g n=sg h n
 | 0,_=>rfl
 | n+1,e=>by rw [sg,sg,q1q n fun i hi=>e i (by omega),e n (by omega)]
def q8r {g h:Nat→Int}:∀ n,sg (fun i=>g i+h i) n=sg g n+sg h n
 | 0=>rfl
 | n+1=>by rw [sg,sg,sg,q8r n]; omega
def q7n {g:Nat→Int}:∀ n,(∀ i,i < n→g i=0)→sg g n=0
 | 0,_=>rfl
 | n+1,e=>by rw [sg,q7n n fun i hi=>e i (by omega),e n (by omega)]; rfl
def q8q {g:Nat→Int} {r:Nat}:∀ n,sg (fun i=>if r=i then g i else 0) n=if r < n then g r else 0
 | 0=>by rw [if_neg (by omega)]; rfl
 | n+1=>by
  rw [sg,q8q n]
  by_cases h:r=n
  ·subst h; rw [if_neg (by omega),if_pos rfl,if_pos (by omega)]; omega
  ·rw [if_neg h]
   by_cases h2:r < n
   ·rw [if_pos h2,if_pos (by omega)]; omega
   ·rw [if_neg h2,if_neg (by omega)]; rfl
def q5Q {x y:List Nat}:∀ i,q1A (prL x y i)=sg (fun k=>q0g (x.getD k 0) (y.getD k 0)) i
 | 0=>rfl
 | i+1=>by rw [qnM,q0i,q5Q i,sg]
def q45 {y:Nat}:q0g 0 y=0:=by
 unfold q0g;rw [show ofZ 0=0 from q0W (by unfold ofF; rw [if_neg (by decide),if_pos (by decide),show sgn (decide (9223372036854775808≤0)) (0 % 4503599627370496)=0 from rfl,Int.zero_mul]),Int.zero_mul,q1E]
 rfl
section
variable {f:Nat→Nat→Option Nat} {x:List Nat} {n J r:Nat} {rows:Nat→List Int}
def q8e (f:Nat→Nat→Option Nat) (n r:Nat):List Nat:=(List.range n).map fun j=>(f (min r j) (max r j)).getD 0
def q2r (f:Nat→Nat→Option Nat) (x:List Nat) (n i:Nat):List Nat:=(List.range i).map fun r=>fR 0 (q1j (q8e f n r) x)
def ce (x:List Nat) (J:Nat) (e:Nat × Nat) (r:Nat):Int:=if J≤e.1 then (if r=e.1 then q0g e.2 (x.getD J 0) else 0)+(if r=J∧J < e.1 then q0g e.2 (x.getD e.1 0) else 0) else 0
def q1k (rows:Nat→List Int) (k:Nat) (z:Int):Nat→List Int:=fun j=>if j=k then rows k ++ [z] else rows j
def apZ (x:List Nat) (J:Nat) (e:Nat × Nat) (rows:Nat→List Int):Nat→List Int :=
 if J≤e.1 then (if J < e.1 then q1k (q1k rows e.1 (q0g e.2 (x.getD J 0))) J (q0g e.2 (x.getD e.1 0)) else q1k rows e.1 (q0g e.2 (x.getD J 0))) else rows
def q4Q {k:Nat} {z:Int}:q1A (q1k rows k z r)=q1A (rows r)+if r=k then z else 0:=by
 unfold q1k
 by_cases h:r=k
 ·subst h; rw [if_pos rfl,if_pos rfl,q0i]
 ·rw [if_neg h,if_neg h]; omega
def qk6 {e:Nat × Nat}:q1A (apZ x J e rows r)=q1A (rows r)+ce x J e r:=by
 unfold apZ ce
 by_cases h:J≤e.1
 ·rw [if_pos h,if_pos h]
  by_cases h2:J < e.1
  ·rw [if_pos h2,q4Q,q4Q]
   by_cases h3:r=J
   ·rw [if_pos h3,if_pos (And.intro h3 h2:r=J∧J < e.1)]; omega
   ·rw [if_neg h3,if_neg (show ¬ (r=J∧J < e.1) from fun q=>h3 q.1)]; omega
  ·rw [if_neg h2,q4Q,if_neg (show ¬ (r=J∧J < e.1) from fun q=>h2 q.2)]; omega
 ·rw [if_neg h,if_neg h]; omega
structure RI (x:List Nat) (n:Nat) (rows:Nat→List Int) (S:Nat→Int) (m:Nat):Prop where
 s:∀ r,r < n→q1A (rows r)=S r
 l:∀ r,(rows r).length≤m
 b:∀ r,∀ z ∈ rows r,bl z.natAbs≤67600
def q84 {k m:Nat} {z:Int} (hl:∀ r,(rows r).length≤m) (hb:∀ r,∀ z ∈ rows r,bl z.natAbs≤67600) (hz:bl z.natAbs≤67600):(∀ r,(q1k rows k z r).length≤m+1)∧∀ r,∀ y ∈ q1k rows k z r,bl y.natAbs≤67600:=by
 unfold q1k;refine ⟨fun r=>?_,fun r y hy=>?_⟩
 ·have h1:=hl r; have h2:=hl k
  split
  ·simp; omega
  ·omega
 ·split at hy
  ·rcases List.mem_append.1 hy with hy | hy
   ·exact hb k y hy
   ·simp at hy; subst hy; exact hz
  ·exact hb r y hy
def RI.step {S:Nat→Int} {m:Nat} {e:Nat × Nat} (h:RI x n rows S m) (hx:q0x x) (he:q0N e.2):RI x n (apZ x J e rows) (fun r=>S r+ce x J e r) (m+2):=by
 have h1:=(q0k he (q1f (i:=J) hx).2).2;have h2:=(q0k he (q1f (i:=e.1) hx).2).2;have b1:=q84 (k:=e.1) h.l h.b h1;have b2:=q84 (k:=J) b1.1 b1.2 h2;refine ⟨fun r hr=>by rw [qk6,h.s r hr],fun r=>?_,fun r z hz=>?_⟩
 ·unfold apZ;have:=b1.1 r;have:=b2.1 r;have:=h.l r
  split
  ·split <;> omega
  ·omega
 ·unfold apZ at hz
  split at hz
  ·split at hz
   ·exact b2.2 r z hz
   ·exact b1.2 r z hz
  ·exact h.b r z hz
def q8Q:∀ i,q1A ((tZ f J i).map fun e=>ce x J e r)=sg (fun i=>ce x J (i,(f J i).getD 0) r) i
 | 0=>rfl
 | i+1=>by
  rw [tZ_s,List.map_append,sg];cases h:f J i with
  | none =>
   rw [List.map_nil,List.append_nil,q8Q i];have:ce x J (i,(none:Option Nat).getD 0) r=0:=by
    unfold ce;simp only [Option.getD_none,q45]
    split
    ·split <;> split <;> rfl
    ·rfl
   omega
  | some v=>rw [List.map_singleton,q0i,q8Q i]; rfl
def qkh (hr:r < n) (hx:x.length=n):sg (fun J=>sg (fun i=>ce x J (i,(f J i).getD 0) r) n) n=q1j (q8e f n r) x:=by
 have h1:∀ J,J < n→sg (fun i=>ce x J (i,(f J i).getD 0) r) n=(if J≤r then q0g ((f J r).getD 0) (x.getD J 0) else 0)+if r=J then sg (fun i=>if r < i then q0g ((f r i).getD 0) (x.getD i 0) else 0) n else 0:=fun J hJ=>by
  have e1:sg (fun i=>ce x J (i,(f J i).getD 0) r) n=sg (fun i=>(if r=i then (if J≤i then q0g ((f J i).getD 0) (x.getD J 0) else 0) else 0)+if r=J∧J < i then q0g ((f J i).getD 0) (x.getD i 0) else 0) n:=q1q n fun i _=>by
   unfold ce;dsimp only
   by_cases hJi:J≤i
   ·rw [if_pos hJi,if_pos hJi]
   ·rw [if_neg hJi,if_neg hJi,if_neg (by omega:¬ (r=J∧J < i))]; split <;> rfl
  rw [e1,q8r,q8q,if_pos hr]
  congr 1
  by_cases hrJ:r=J
  ·subst hrJ;rw [if_pos rfl];exact q1q n fun i _=>by by_cases h:r < i <;> simp [h]
  ·rw [if_neg hrJ];exact q7n n fun i _=>if_neg fun q=>hrJ q.1
 rw [q1q n h1,q8r];have h2:=q8q (r:=r) (g:=fun _=>sg (fun i=>if r < i then q0g ((f r i).getD 0) (x.getD i 0) else 0) n) n;rw [if_pos hr] at h2;rw [h2,← q8r];unfold q1j;rw [show (q8e f n r).length=n by simp [q8e],q5Q];refine q1q n fun j hj=>?_;have e:(q8e f n r).getD j 0=(f (min r j) (max r j)).getD 0:=by
  unfold q8e;rw [List.getD_eq_getElem?_getD,List.getElem?_map,List.getElem?_range hj]; rfl
 rw [e]
 by_cases h:j≤r
 ·rw [if_pos h,if_neg (by omega),Nat.min_eq_right h,Nat.max_eq_left h]; omega
 ·rw [if_neg h,if_pos (by omega),Nat.min_eq_left (by omega),Nat.max_eq_right (by omega)]; omega
end
end Go.Sp
namespace Go.Proofs.YtfmojhhokfkdaaaGreatDoor
open Go Go.E Go.Sp
abbrev qmq (rows:Nat→List Int):Nat→List PV:=fun r=>(rows r).map fun V=>pV V
abbrev qmB (n:Nat) (rows:Nat→List Int):Hp:=q6X 45 40 (some 4) 5000 10000 n (qmq rows)
def q3D {rows:Nat→List Int} {k:Nat} {z:Int}:q3C (qmq rows) k (pV z)=qmq (q1k rows k z):=by
 funext j
 unfold q3C q1k qmq
 by_cases h:j=k <;> simp [h]
def idV {l:List Int} {p:Nat→Prop}:IdL p (l.map fun V=>pV V):=IdL.of fun x hx=>by
 obtain ⟨z,_,rfl⟩:=List.mem_map.1 hx;unfold IdP; trivial
def q29 {n:Nat} {rows:Nat→List Int} (hn:n≤1000):WfH (qmB n rows):=qiF (fun _ _=>idV) Oq Oq Oq
section
variable {f:Nat→Nat→Option Nat} {x:List Nat} {n:Nat}
def qcH (h:TOk f n n) (hx:q0x x) (hxl:x.length=n) (hn:n≤20):ACt 184 [pT n n f,pF x] (lnR (q2r f x n n)):=by
 have hml:=q3B (f:=f) (R:=n) n;have hg:=fun j hj=>q69 (f:=f) (R:=n) (C:=n) (j:=j) hj;have hix:=fun j k hj h1 h2=>qiG (f:=f) (R:=n) (C:=n) (j:=j) (k:=k) hj h1 h2;have hos:=fun j=>tO_s (f:=f) (R:=n) (j:=j);obtain ⟨o,ho⟩:∃ o,o=tO f n:=⟨_,rfl⟩;have h4:=h.m;unfold pT;rw [← ho] at hg hix hos;generalize (tM f n n).1=st at *;generalize (tM f n n).2.1=ix at *;generalize (tM f n n).2.2=vl at *;obtain ⟨m1,m2,m3⟩:=hml;unfold qbh;refine ac0 Tryz.func184 Tryz.ntmps184 [.tmp 4,.tmp 5] ?_;refine wk1 hxl ?_;refine q75 (qeA (o:=16) (N:=5000) (R:=10000) (n:=n) (T1:=45) (T2:=40) (K:=some 4) (fun _ h=>h) ?_ (by omega) (by omega) (by omega) (by omega) (xs:=[(1,pF x),(2,.pt 2 0 0),(6,.ow 5000 none 0 n),(18,iv n),(19,iv 0)]) (kv:=[]) (kb:=[(2,some ⟨26,some 5,[.ag [iv n,iv n,pI st,pI ix,pF vl]],false⟩)]) (by simp [nmW]) ?_) ?_
 ·try simp -implicitDefEqProofs (disch:=omega) only [go_sem,Nat.reduceEqDiff,Nat.reduceAdd,↓reduceIte]
 ·try refine Zz ?_
  exact if_pos rfl
 refine q3Y (fun q:Nat × (Nat→List Int)=>q.1≤n∧RI x n q.2 (fun r=>sg (fun J=>sg (fun i=>ce x J (i,(f J i).getD 0) r) n) q.1) (q.1*(2*n))) [1,2,6,18] [2] Lk Lk (fun q=>[(19,iv q.1)]) (fun _=>[]) (fun q=>qmB n q.2) (fun q=>n-q.1) (0,fun _=>[]) ⟨Nat.zero_le _,fun _ _=>rfl,fun _=>Nat.zero_le _,fun _ z hz=>by cases hz⟩ ?_ ?_
 ·refine LeW [] rfl rfl ?_ ?_ (by simp [q8a,q4u,win]) ?_
  ·exact Ow
  ·exact q29 Oq
  ·try refine Zz ?_
   rfl
 ·rintro ⟨J,rows⟩ ⟨hJ,hI⟩;simp only at hJ hI ⊢
  by_cases hlt:J < n
  ·have hlt':(J:Int) < n:=by omega
   have g1:=hg J Oq;have g2:=hg (J+1) Oq;have oJ:=hos J;have ww:IntKind.i64.wrap ((J:Int)+1)=((J+1:Nat):Int):=by rw [i64_in (by omega) (by omega)]; omega
   have hZ:=fun k v=>q8d (f:=f) (j:=J) (i:=n) (k:=k) (x:=v);obtain ⟨L,hL⟩:∃ L,L=tZ f J n:=⟨_,rfl⟩;have hLn:L.length≤n:=by rw [hL]; unfold tZ; exact Nat.le_trans (List.length_filterMap_le _ _) (by simp)
   have hcs:=fun r=>q8Q (f:=f) (x:=x) (J:=J) (r:=r) n;have hixJ:=hix J;rw [← hL] at oJ hZ hcs hixJ;clear hL;obtain ⟨y1,hx1⟩:∃ v,x[J]?=some v:=⟨_,List.getElem?_eq_getElem Oq⟩;obtain ⟨u1,u2⟩:=hx y1 (List.mem_of_getElem? hx1);refine wk1 (x2 hlt' g1) ?_;refine q3Y (fun q:Nat × (Nat→List Int)=>q.1≤L.length∧RI x n q.2 (fun r=>sg (fun J=>sg (fun i=>ce x J (i,(f J i).getD 0) r) n) J+q1A ((L.take q.1).map fun e=>ce x J e r)) (J*(2*n)+2*q.1)) [1,2,6,7,18,19] [2] Lk Lk (fun q=>[(8,iv ((o J+q.1:Nat):Int))]) (fun _=>[]) (fun q=>qmB n q.2) (fun q=>L.length-q.1) (0,rows) ⟨Nat.zero_le _,by simpa [q8g] using hI⟩ ?_ ?_
   ·refine LeW [] rfl rfl ?_ ?_ (by simp [q8a,q4u,win]) ?_
    ·exact Ow
    ·exact q29 Oq
    ·try simp -implicitDefEqProofs (disch:=omega) only [go_sem,Nat.reduceEqDiff,Nat.reduceAdd,↓reduceIte]
   ·rintro ⟨t,rows⟩ ⟨ht,hI⟩;simp only at ht hI ⊢
    by_cases hlt2:t < L.length
    ·obtain ⟨⟨i,v⟩,e1,e2,e3⟩:=hixJ (o J+t) Oq Oq Oq;rw [Nat.add_sub_cancel_left] at e1;dsimp only at e2 e3;obtain ⟨hin,hfv⟩:=(hZ i v).1 (List.mem_of_getElem? e1);have hv1:=h.u J i v hlt hin hfv;have hv2:=h.v J i v hlt hin hfv;have hq:((o J+t:Nat):Int) < ((o (J+1):Nat):Int):=by omega
     have C1:=q2K hv1 (q0Z hv2);have C2:=q2K u1 (q0Z u2);obtain ⟨y2,hx2⟩:∃ v,x[i]?=some v:=⟨_,List.getElem?_eq_getElem Oq⟩;obtain ⟨w1,w2⟩:=hx y2 (List.mem_of_getElem? hx2);have C3:=q2K w1 (q0Z w2);have M1:=q0k hv2 u2;have M2:=q0k hv2 w2;have C4:=qaC (q4R (q22 hv2) (q22 u2) M1.1) (q2J M1.1).2.2.2;have C5:=qaC (q4R (q22 hv2) (q22 w2) M2.1) (q2J M2.1).2.2.2;have hI2:=hI.step (J:=J) (e:=(i,v)) hx hv2;have hI3:RI x n (apZ x J (i,v) rows) (fun r=>sg (fun J=>sg (fun i=>ce x J (i,(f J i).getD 0) r) n) J+q1A ((L.take (t+1)).map fun e=>ce x J e r)) (J*(2*n)+2*(t+1)) :=
      ⟨fun r hr=>by rw [hI2.s r hr,q8b e1,List.map_append,List.map_singleton,q0i]; omega,fun r=>by have:=hI2.l r; omega,hI2.b⟩
     have hJn:J*(2*n)≤20*40:=Nat.mul_le_mul Oq Oq;have hrl:=hI.l;clear hI hI2;have hr1:(List.range n)[i]?=some i:=List.getElem?_range hin;have hr2:(List.range n)[J]?=some J:=List.getElem?_range hlt;have hob:=(List.getElem?_eq_some_iff.1 e2).1;have wt:IntKind.i64.wrap (((o J+t:Nat):Int)+1)=((o J+(t+1):Nat):Int):=by rw [i64_in (by omega) (by omega)]; omega
     by_cases hlt3:i < J
     ·have q3:(i:Int) < J:=by omega
      refine wk1 (x6 g1 g2 ww hq e2 (x3 e3 q3 wt)) ?_;refine ⟨(t+1,rows),⟨hlt2,by rwa [show apZ x J (i,v) rows=rows from if_neg (by dsimp only; omega)] at hI3⟩,by simp only; omega,?_⟩;refine LeW [] rfl rfl ?_ ?_ (by simp [q8a,q4u,win]) ?_
      ·exact Ow
      ·exact q29 Oq
      ·try simp -implicitDefEqProofs (disch:=omega) only [go_sem,Nat.reduceEqDiff,Nat.reduceAdd,↓reduceIte]
     ·have q3:¬ (i:Int) < J:=by omega
      have hli:(rows i).length≤2000:=by have:=hrl i; omega
      refine wk1 (x6 g1 g2 ww hq e2 (x4 e3 q3 hr1 hx1)) ?_;refine q75 (q68 (r:=65) (k:=i) (x:=pV (q0g v y1)) (T1:=45) (T2:=40) (K:=some 4) (N:=5000) (R:=10000) (n:=n) (row:=qmq rows) (fun _ h=>h) hin (fun j=>by rw [q3D]; exact clV) ?_ ?_ (fun j hj hne=>?_) (by omega) (by omega) (by omega) (by omega) (xs:=[(1,pF x),(2,.pt 2 0 0),(6,.ow 5000 none 0 n),(7,iv J),(8,iv ((o J+t:Nat):Int)),(9,iv i),(10,.pt 10 0 0),(18,iv n),(19,iv J),(69,bv (decide ((i:Int) > J)))]) (kv:=[]) (kb:=[(2,some ⟨26,some 5,[.ag [iv n,iv n,pI st,pI ix,pF vl]],false⟩),(10,some ⟨40,some 4,[dT (ofZ v)],false⟩)]) (by simp [nmW]) ?_) ?_
      ·try simp -implicitDefEqProofs (disch:=omega) only [go_sem,Nat.reduceEqDiff,Nat.reduceAdd,↓reduceIte]
      ·try simp -implicitDefEqProofs (disch:=omega) only [go_sem,Nat.reduceEqDiff,Nat.reduceAdd,↓reduceIte]
      ·try refine Zz ?_
       exact if_neg hne
      ·try simp -implicitDefEqProofs (disch:=omega) only [go_sem,Nat.reduceEqDiff,Nat.reduceAdd,↓reduceIte]
      rw [q3D]
      by_cases hgt:i > J
      ·have q4:(i:Int) > J:=by omega
       have hli2:(q1k rows i (q0g v y1) J).length≤2000:=by unfold q1k; rw [if_neg (by omega)]; have:=hrl J; omega
       refine wk1 (x4 q4 hr2 hx2 wt) ?_;refine ⟨(t+1,q1k (q1k rows i (q0g v y1)) J (q0g v y2)),⟨hlt2,by rwa [show apZ x J (i,v) rows=q1k (q1k rows i (q0g v y1)) J (q0g v y2) by unfold apZ; dsimp only; rw [if_pos (by omega),if_pos hgt,getD_some hx1,getD_some hx2]] at hI3⟩,by simp only; omega,?_⟩;have er:=q3D (rows:=q1k rows i (q0g v y1)) (k:=J) (z:=q0g v y2);simp only;unfold qmB;rw [← er];refine q68 (r:=84) (fun _ h=>h) hlt (fun j=>by rw [q3D]; exact clV) ?_ ?_ (fun j hj hne=>?_) (by omega) (by omega) (by omega) (by omega) (by simp [nmW]) ?_
       ·try simp -implicitDefEqProofs (disch:=omega) only [go_sem,Nat.reduceEqDiff,Nat.reduceAdd,↓reduceIte]
       ·try simp -implicitDefEqProofs (disch:=omega) only [go_sem,Nat.reduceEqDiff,Nat.reduceAdd,↓reduceIte]
       ·try refine Zz ?_
        exact if_neg hne
       ·try simp -implicitDefEqProofs (disch:=omega) only [go_sem,Nat.reduceEqDiff,Nat.reduceAdd,↓reduceIte]
      ·have q4:¬ (i:Int) > J:=by omega
       refine wk1 (x2 q4 wt) ?_;refine ⟨(t+1,q1k rows i (q0g v y1)),⟨hlt2,by rwa [show apZ x J (i,v) rows=q1k rows i (q0g v y1) by unfold apZ; dsimp only; rw [if_pos (by omega),if_neg hgt,getD_some hx1]] at hI3⟩,by simp only; omega,?_⟩;refine LeW [] rfl rfl ?_ ?_ (by simp [q8a,q4u,win]) ?_
       ·exact Ow
       ·exact q29 Oq
       ·try simp -implicitDefEqProofs (disch:=omega) only [go_sem,Nat.reduceEqDiff,Nat.reduceAdd,↓reduceIte]
    ·obtain rfl:t=L.length:=by omega
     have hq:¬ ((o J+L.length:Nat):Int) < ((o (J+1):Nat):Int):=by omega
     rw [List.take_length] at hI;refine wk1 (x3 g2 ww hq) ?_;refine ⟨(J+1,rows),⟨hlt,fun r hr=>by rw [hI.s r hr,hcs r]; rfl,fun r=>by have:=hI.l r; simp only; rw [Nat.succ_mul]; omega,hI.b⟩,by simp only; omega,?_⟩;refine LeW [] rfl rfl ?_ ?_ (by simp [q8a,q4u,win]) ?_
     ·exact Ow
     ·exact q29 Oq
     ·try simp -implicitDefEqProofs (disch:=omega) only [go_sem,Nat.reduceEqDiff,Nat.reduceAdd,↓reduceIte]
  ·obtain rfl:J=n:=by omega
   have hlt':¬ (J:Int) < J:=by omega
   have hJn:J*(2*J)≤20*40:=Nat.mul_le_mul Oq Oq;have hsum:∀ r,r < J→q1A (rows r)=q1j (q8e f J r) x:=fun r hr=>(hI.s r hr).trans (qkh hr hxl);have hrl:=hI.l;have hdy:=fun r=>qgY (hI.b r) (by have:=hrl r; omega);have hb:=hI.b;have hal:=fun i=>show (q2r f x J i).length=i by simp [q2r]
   have has:=fun i=>show q2r f x J (i+1)=q2r f x J i ++ [fR 0 (q1j (q8e f J i) x)] by unfold q2r; rw [List.range_succ,List.map_append]; rfl
   have ha0:q2r f x J 0=[]:=rfl;have hfu:∀ z ∈ q2r f x J J,z < 18446744073709551616:=fun z hz=>by
    obtain ⟨k,_,rfl⟩:=List.mem_map.1 hz;exact qf3
   have C7:=q3a hfu (by rw [hal]; omega);unfold lnR;have N1:Nz (bv (decide (∀ z ∈ q2r f x J J,q0N z))):=qn1;generalize decide (∀ z ∈ q2r f x J J,q0N z)=bb at *;generalize q2r f x J=A at *;clear hI hg hix;refine wk1 hlt' ?_;refine q3Y (fun r=>r≤J) [87,88] [] Lk Lk (fun r:Nat=>[(89,iv r),(11,.ow 1001 none 0 r)]) (fun r=>[(1001,⟨43,none,(A r).map fun z:Nat=>uv z,false⟩)]) (fun _=>qmB J rows) (fun r=>J-r) 0 (Nat.zero_le _) ?_ ?_
   ·refine LeW [(1001,none)] rfl rfl ?_ ?_ (by simp [q8a,q4u,win]) ?_
    ·exact Ow
    ·exact q29 Oq
    ·try refine Zz ?_
     rw [ha0];exact ⟨rfl,rfl⟩
   ·intro r hr
    by_cases hlt2:r < J
    ·have q2:(r:Int) < J:=by omega
     have hr1:(List.range J)[r]?=some r:=List.getElem?_range hlt2;have hd:=hdy r;have C1:=q77 (l:=rows r) (by have:=hrl r; omega) (fun z hz=>by have:=hb r z hz; unfold q07; omega) hd;have C2:=q7G hd;have N2:=qn2 hd;rw [hsum r hlt2] at C1 C2 N2;have es:=has r;have hll:=hal r;have hli:=hrl r;refine wk1 (x3 q2 hr1 hll) ?_;refine ⟨r+1,by omega,by omega,?_⟩;rw [es];refine LeW [(1001,some 98)] rfl rfl ?_ ?_ (by simp [q8a,q4u,win]) ?_
     ·exact Ow
     ·exact q29 Oq
     ·try refine Zz ?_
      omega
    ·obtain rfl:r=J:=by omega
     exact wk1 (x2 hlt' (hal r)) trivial
end
structure PtrOk (n:Nat) (cp:List Int) (m:Nat):Prop where
 c0:cp[0]?=some 0
 cn:cp[n]?=some (m:Int)
 mono:∀ i,i < n→∀ x y,cp[i]?=some x→cp[i+1]?=some y→x≤y
def PtrOk.nn {n m:Nat} {cp:List Int} (h:PtrOk n cp m) (hl:cp.length=n+1):∀ j,j≤n→∃ a:Nat,cp[j]?=some (a:Int)
 | 0,_=>⟨0,h.c0⟩
 | j+1,hj=>by
  obtain ⟨a,ha⟩:=h.nn hl j Oq;obtain ⟨y,hy⟩:∃ y,cp[j+1]?=some y:=⟨_,List.getElem?_eq_getElem Oq⟩;have:=h.mono j Oq _ _ ha hy;exact ⟨y.toNat,by rw [hy]; congr 1; omega⟩
def PtrOk.le {n m:Nat} {cp:List Int} (h:PtrOk n cp m) (hl:cp.length=n+1):∀ d j,j+d=n→∀ x,cp[j]?=some x→x≤m
 | 0,j,hj,x,hx=>by
  obtain rfl:j=n:=by omega
  have:=Option.some.inj (hx.symm.trans h.cn); omega
 | d+1,j,hj,x,hx=>by
  obtain ⟨y,hy⟩:∃ y,cp[j+1]?=some y:=⟨_,List.getElem?_eq_getElem Oq⟩;have h1:=h.mono j Oq _ _ hx hy;have h2:=h.le hl d (j+1) Oq y hy;omega
def CoC.lt {n j:Nat} {col:List Int} (h:CoC n j col):∀ d p,p+d+1=col.length→∀ z,col[p]?=some z→z < n
 | 0,p,hp,z,hz=>h.l z (by rw [show col.length-1=p by omega]; exact hz)
 | d+1,p,hp,z,hz=>by
  obtain ⟨y,hy⟩:∃ y,col[p+1]?=some y:=⟨_,List.getElem?_eq_getElem Oq⟩;have h1:=h.m p z y hz hy;have h2:=h.lt d (p+1) Oq y hy;omega
def q4V {f:Fac} {i:Int}:∀ (k a:Nat),(∀ p,a≤p→p < a+k→f.ri[p]?≠some i)→q1w f i a k=0
 | 0,_,_=>rfl
 | k+1,a,h=>by
  unfold q1w;rw [if_neg (h a (Nat.le_refl _) Oq)];exact q4V k (a+1) fun p h1 h2=>h p Oq Oq
def qap {f:Fac} {i:Int} (h:q0x f.vs):∀ (k a:Nat),q1w f i a k < 18446744073709551616∧q0N (q1w f i a k)
 | 0,_=>⟨by simp [q1w],by unfold q1w q0N; simp⟩
 | k+1,a=>by
  unfold q1w
  split
  ·exact qcR h
  ·exact qap h k (a+1)
def q44 {q:Nat}:q0g 0 q=0:=by
 unfold q0g;rw [q0W q8y,Int.zero_mul,q1E]
 rfl
def q6b {f:Fac} {j a b q:Nat} (h:Col f j a b) (hn:f.pm.length≤200) (hrv:f.ri.length=f.vs.length) :
  ∀ (c p:Nat) (rows:List (List Int)),a < p→p+c=b→f.pm.length≤rows.length→∀ (i:Nat) (r:List Int),rows[i]?=some r→∃ r',(qbA f q p c rows)[i]?=some r'∧q1A r'=q1A r-q0g (q1w f i p c) q
 | 0,p,rows,_,_,_,i,r,hr=>⟨r,hr,by simp [q1w,q44]⟩
 | c+1,p,rows,ha,hp,hl,i,r,hr=>by
  obtain ⟨i0,h1,h2,h3⟩:=h.row hn ha Oq;have hle:=h.le;obtain ⟨x,hv⟩:∃ x,f.vs[p]?=some x:=⟨_,List.getElem?_eq_getElem Oq⟩;obtain ⟨r0,hr0⟩:∃ r0,rows[i0]?=some r0:=⟨_,List.getElem?_eq_getElem Oq⟩;rw [q6c h1 hv hr0];have ih:=q6b (q:=q) h hn hrv c (p+1) (rows.set i0 (r0 ++ [-(q0g x q)])) Oq Oq (by simpa using hl) i
  by_cases hi:i=i0
  ·subst hi;obtain rfl:r=r0:=Option.some.inj (hr.symm.trans hr0);obtain ⟨r',h4,h5⟩:=ih _ (List.getElem?_set_self Oq);refine ⟨r',h4,?_⟩;have hnone:q1w f i (p+1) c=0:=q4V c (p+1) fun p' q1 q2 hc=>by
    have:=h.mono (p'-p) p i i Oq Oq h1 (by rw [show p+(p'-p)=p' by omega]; exact hc);rw [if_neg (by omega)] at this;omega
   have hsome:q1w f i p (c+1)=x:=by unfold q1w; rw [if_pos h1]; exact getD_some hv
   rw [h5,hnone,hsome,q0i,q44];omega
  ·obtain ⟨r',h4,h5⟩:=ih r (by rw [List.getElem?_set_ne (fun e=>hi e.symm)]; exact hr);refine ⟨r',h4,?_⟩;have hne:q1w f i p (c+1)=q1w f i (p+1) c:=by
    rw [q1w,if_neg (by rw [h1]; intro e; have:=Option.some.inj e; omega)]
   rw [h5,hne]
def elF (f:Fac) (i j:Nat):Nat:=q1w f i (f.cp.getD j 0).toNat ((f.cp.getD (j+1) 0).toNat-(f.cp.getD j 0).toNat)
def q5Y {f:Fac} {i j a b:Nat} (h:Col f j a b):elF f i j=q1w f i a (b-a):=by
 unfold elF;rw [getD_some h.ha,getD_some h.hb]; rfl
def qde (f:Fac) (b ys:List Nat) (k:Nat):Nat→List Int
 | 0=>[ofZ (b.getD k 0)]
 | m+1=>qde f b ys k m ++ [-(q0g (elF f k m) (ys.getD m 0))]
def q5U {f:Fac} {b ys zs:List Nat} {k:Nat}:∀ m,(∀ i,i < m→ys.getD i 0=zs.getD i 0)→qde f b ys k m=qde f b zs k m
 | 0,_=>rfl
 | m+1,h=>by unfold qde; rw [q5U m fun i hi=>h i Oq,h m (by omega)]
open Classical in
noncomputable def q76 (e:Int) (n:Nat) (l:List Nat):Int:=if e≠0 then e else if l.length≠n then 2 else if ¬ ∀ x ∈ l,q0N x then 4 else 0
def qdb (B:Int) (l x:List Nat):Nat→List Int
 | 0=>[B]
 | m+1=>qdb B l x m ++ [-(q0g (l.getD m 0) (x.getD m 0))]
def clU {l:List Nat}:ClL (l.map fun z:Nat=>uv z):=fun x hx=>by
 obtain ⟨q,_,rfl⟩:=List.mem_map.1 hx
 trivial
def qg9 {n c v:Nat} {f:Nat→Nat}:(((List.range n).map f).set c v)=(List.range n).map fun y=>if y=c then v else f y:=by
 apply List.ext_getElem?
 intro i;rw [List.getElem?_set];simp only [List.length_map,List.length_range,List.getElem?_map]
 by_cases hi:i < n
 ·rw [List.getElem?_range hi]
  by_cases hc:c=i
  ·subst hc; simp [hi]
  ·simp [hc,Ne.symm hc]
 ·rw [List.getElem?_eq_none (by simpa using hi)]
  by_cases hc:c=i <;> simp [hc]
  omega
def rwG (n:Nat) (g:Nat→Nat) (m:Nat):List Nat:=(List.range n).map fun j=>if j < m then g j else 0
def q4Z {n m:Nat} {g:Nat→Nat}:(rwG n g m).length=n:=by simp [rwG]
def qmn {n m:Nat} {g:Nat→Nat}:(rwG n g m).set m (g m)=rwG n g (m+1):=by
 unfold rwG;rw [qg9];refine List.map_congr_left fun y _=>?_
 by_cases h:y=m
 ·subst h; rw [if_pos rfl,if_pos (by omega)]
 ·rw [if_neg h]
  by_cases h2:y < m
  ·rw [if_pos h2,if_pos (by omega)]
  ·rw [if_neg h2,if_neg (by omega)]
def qiY {n:Nat} {g:Nat→Nat}:List.replicate n 0=rwG n g 0:=by
 unfold rwG;simp [List.map_const']
def q3P (f:Fac) (n k:Nat):List (List Nat):=(List.range k).map fun i=>rwG n (elF f i) (i+1)
def trS (L:List (List Nat)) (n k:Nat):List (List Nat):=(List.range k).map fun i=>rwG n (fun j=>(L.getD j []).getD i 0) n
def qfh {f:Fac} {n k:Nat}:(q3P f n k).length=k:=by simp [q3P]
def qhy {L:List (List Nat)} {n k:Nat}:(trS L n k).length=k:=by simp [trS]
noncomputable def loV (L:List (List Nat)) (b ys:List Nat) (k:Nat):Nat:=fQ 0 (q1A (qdb (ofZ (b.getD k 0)) ((L.getD k []).take k) (ys.take k) k)) (ofZ ((L.getD k []).getD k 0))
noncomputable def loF (L:List (List Nat)) (b:List Nat):Nat→Nat→List Nat→Option (List Nat)
 | 0,_,ys=>some ys
 | m+1,k,ys=>if q0N (loV L b ys k) then loF L b m (k+1) (ys.set k (loV L b ys k)) else none
noncomputable def upV (U:List (List Nat)) (b ys:List Nat) (n k:Nat):Nat:=fQ 0 (q1A (qdb (ofZ (b.getD k 0)) ((U.getD k []).drop (k+1)) (ys.drop (k+1)) (n-(k+1)))) (ofZ ((U.getD k []).getD k 0))
noncomputable def upF (U:List (List Nat)) (b:List Nat) (n:Nat):Nat→List Nat→Option (List Nat)
 | 0,ys=>some ys
 | k+1,ys=>if q0N (upV U b ys n k) then upF U b n k (ys.set k (upV U b ys n k)) else none
def q4K {l:List Nat} {k v:Nat} (h:q0x l) (h1:v < 18446744073709551616) (h2:q0N v):q0x (l.set k v):=fun x hx=>by
 rcases List.mem_or_eq_of_mem_set hx with h3 | rfl
 ·exact h x h3
 ·exact ⟨h1,h2⟩
def q3O {n:Nat}:q0x (List.replicate n 0):=fun x hx=>by
 rw [List.eq_of_mem_replicate hx];exact ⟨by omega,by unfold q0N; simp⟩
structure SqM (L:List (List Nat)) (n:Nat):Prop where
 len:L.length=n
 row:∀ r ∈ L,r.length=n∧q0x r
 dg:∀ k,k < n→ofZ ((L.getD k []).getD k 0)≠0
def q33 {n m i:Nat} {g:Nat→Nat} (hi:i < n):(rwG n g m)[i]?=some (if i < m then g i else 0):=by
 unfold rwG;rw [List.getElem?_map,List.getElem?_range hi]; rfl
def q6H {f:Fac} {n k:Nat} (hk:k < n):(q3P f n n)[k]?=some (rwG n (elF f k) (k+1)):=by
 unfold q3P;rw [List.getElem?_map,List.getElem?_range hk]; rfl
def q67 {α:Type} {l:List α} {k i:Nat} {d:α} (hi:i < k):(l.take k).getD i d=l.getD i d:=by
 rw [List.getD_eq_getElem?_getD,List.getD_eq_getElem?_getD,List.getElem?_take,if_pos hi]
def qbW {f:Fac} {b ys:List Nat} {n k:Nat} (hk:k < n):∀ m,m≤k→qdb (ofZ (b.getD k 0)) ((rwG n (elF f k) (k+1)).take k) (ys.take k) m=qde f b ys k m
 | 0,_=>rfl
 | m+1,hm=>by
  rw [qdb,qde,qbW hk m (by omega),q67 (by omega),q67 (by omega),getD_some (q33 (by omega)),if_pos (by omega)]
def qip {f:Fac} {b ys:List Nat} {n k:Nat} (hk:k < n):loV (q3P f n n) b ys k=fQ 0 (q1A (qde f b ys k k)) (ofZ (elF f k k)):=by
 unfold loV;rw [getD_some (q6H hk),qbW hk k (Nat.le_refl _),getD_some (q33 hk),if_pos (by omega)]
def qcS {f:Fac} {b:List Nat} (ho:FacOk f):∀ (m k:Nat) (rows:List (List Int)) (ys:List Nat),k+m=f.pm.length→rows.length=f.pm.length→ys.length=f.pm.length →
  (∀ i,k≤i→i < f.pm.length→∃ r,rows[i]?=some r∧q1A r=q1A (qde f b ys i k))→qdg f ((List.range' k m).map fun i:Nat=>(i:Int)) rows ys=loF (q3P f f.pm.length f.pm.length) b m k ys
 | 0,k,rows,ys,_,_,_,_=>by
  simp only [List.range'_zero,List.map_nil]
  rfl
 | m+1,k,rows,ys,hk,hr,hy,h=>by
  obtain ⟨a,e,hcol⟩:=ho.col k Oq;have hlt:=hcol.lt;have hle:=hcol.le;obtain ⟨r,hr0,hsum⟩:=h k (Nat.le_refl _) Oq;obtain ⟨x,V,d1,d2,d3⟩:=hcol.diag;have hel:elF f k k=x:=by
   rw [q5Y hcol,show e-a=(e-(a+1))+1 by omega,q1w,if_pos hcol.first];exact getD_some d1
  rw [List.range'_succ,List.map_cons,q7C hcol.ha hcol.hb d1 hr0,loF,qip (by omega),hel,← hsum];obtain ⟨y,hyv⟩:∃ y,y=fQ 0 (q1A r) (ofZ x):=⟨_,rfl⟩;rw [← hyv]
  by_cases hfin:q0N y
  case neg=>rw [if_neg hfin,if_neg hfin]
  rw [if_pos hfin,if_pos hfin];have hset:∀ i,i < k→ys.getD i 0=(ys.set k y).getD i 0:=fun i hi=>by
   rw [List.getD_eq_getElem?_getD,List.getD_eq_getElem?_getD,List.getElem?_set_ne (by omega)]
  have hsk:(ys.set k y).getD k 0=y:=getD_some (List.getElem?_set_self Oq);refine qcS ho m (k+1) _ _ (by omega) (by rw [q8i]; exact hr) (by simpa using hy) ?_;intro i hi1 hi2;obtain ⟨ri,h1,h2⟩:=h i Oq hi2;obtain ⟨r',h3,h4⟩:=q6b (q:=y) hcol ho.n ho.ril (e-(a+1)) (a+1) rows Oq Oq Oq i ri h1;refine ⟨r',h3,?_⟩;have hel2:elF f i k=q1w f i (a+1) (e-(a+1)):=by
   rw [q5Y hcol,show e-a=(e-(a+1))+1 by omega,q1w,if_neg (by rw [hcol.first]; intro e; have:=Option.some.inj e; omega)]
  rw [h4,h2,qde,q0i,hsk,hel2,← q5U k hset];omega
def qoE {f:Fac} {b:List Nat} (ho:FacOk f) (hb:b.length=f.pm.length):qdg f (q0t b.length) (b.map fun x=>[ofZ x]) (List.replicate b.length 0)=loF (q3P f f.pm.length f.pm.length) b f.pm.length 0 (List.replicate f.pm.length 0):=by
 rw [hb,← qcS (b:=b) ho f.pm.length 0 (b.map fun x=>[ofZ x]) (List.replicate f.pm.length 0) (by omega) (by simpa using hb) (by simp) ?_]
 ·unfold q0t; rw [List.range_eq_range']
 intro i _ hi;obtain ⟨x,hx⟩:∃ x,b[i]?=some x:=⟨_,List.getElem?_eq_getElem Oq⟩;refine ⟨[ofZ x],by rw [List.getElem?_map,hx]; rfl,?_⟩;rw [qde,getD_some hx]
def qcr {f:Fac} (ho:FacOk f):SqM (q3P f f.pm.length f.pm.length) f.pm.length:=⟨qfh,fun r hr=>by
 obtain ⟨i,hi,rfl⟩:=List.mem_map.1 hr;refine ⟨q4Z,fun x hx=>?_⟩;obtain ⟨j,hj,rfl⟩:=List.mem_map.1 hx
 split
 ·obtain ⟨a,b,hc⟩:=ho.col j (List.mem_range.1 hj);rw [q5Y hc];exact qap ho.vals _ _
 ·exact ⟨by omega,by unfold q0N; simp⟩,fun k hk=>by
 rw [getD_some (q6H hk),getD_some (q33 hk),if_pos (by omega)];obtain ⟨a,e,hcol⟩:=ho.col k hk;have hlt:=hcol.lt;obtain ⟨x,V,d1,d2,d3⟩:=hcol.diag;have hel:elF f k k=x:=by
  rw [q5Y hcol,show e-a=(e-(a+1))+1 by omega,q1w,if_pos hcol.first];exact getD_some d1
 rw [hel,q0W d2];omega⟩
section
variable {x y:List Nat} {t:Nat}
end
section
variable {f:Nat→Nat→Option Nat} {x:List Nat} {R C:Nat}
end
def q7N {l:List Nat} (hn:l.length≤1000000):ACt 105 [pF l] (pF l):=by
 have hu:=bn_n (P:=Tryz.prog) (k:=none) (l:=l.map fun z:Nat=>uv z) (t:=24) (E:=43) (c:=0) (d:=0) (by kernel_rfl) (by decide);refine ac0 Tryz.func105 Tryz.ntmps105 [.tmp 2] ?_;refine wk1 hu ?_;refine A_u rfl (fun h=>?_) ?_
 ·have e:l=[]:=List.eq_nil_of_length_eq_zero (by simpa using h);exact wk1 e trivial
 ·exact wk trivial
open Classical in
def q9w {l:List Nat} (hu:∀ x ∈ l,x < 18446744073709551616) (hn:l.length≤1000000):ACt 268 [pF l] (iv (if ¬ ∀ x ∈ l,q0N x then 4 else 0)):=by
 obtain ⟨res,hres⟩:∃ res:Int,res=if ¬ ∀ x ∈ l,q0N x then 4 else 0:=⟨_,rfl⟩
 rw [← hres];refine ac0 Tryz.func268 Tryz.ntmps268 [.tmp 2] ?_;refine wk ?_;refine q0C (fun i=>i≤l.length∧∀ x ∈ l.take i,q0N x) [0,5,6] [] Lk Lk (fun i:Nat=>[(7,iv i)]) (fun _=>[]) (fun i=>l.length-i) 0 ⟨Nat.zero_le _,by simp⟩ ?_ ?_
 ·refine LeM [] rfl rfl ?_;refine Zz ?_
  rfl
 ·rintro i ⟨hi,hf⟩
  by_cases hil:i < l.length
  ·obtain ⟨x,hx⟩:∃ x,l[i]?=some x:=⟨_,List.getElem?_eq_getElem hil⟩;have hmx:=List.mem_of_getElem? hx;have cF:=q3b (hu x hmx)
   by_cases hfx:q0N x
   case neg =>
    rw [decide_eq_false hfx] at cF;refine wk1 hx ?_;exact (hres.trans (if_pos fun h=>hfx (h x hmx))).symm
   rw [decide_eq_true hfx] at cF;refine wk1 hx ?_;refine ⟨i+1,⟨by omega,?_⟩,by omega,?_⟩
   ·rw [q8b hx];intro y hy
    rcases List.mem_append.1 hy with hy | hy
    ·exact hf y hy
    ·simp at hy; subst hy; exact hfx
   ·refine LeM [] rfl rfl ?_;refine Zz ?_
    rfl
  ·obtain rfl:i=l.length:=by omega
   rw [List.take_length] at hf;refine wk ?_;exact (hres.trans (if_neg (not_not_intro hf))).symm
def qbP {pm cp ri:List Int} {vs l:List Nat} (hp:pm.length≤1000000) (hc:cp.length≤1000000) (hr:ri.length≤1000000) (hv:vs.length≤1000000) (hu:∀ x ∈ vs,x < 18446744073709551616) (hul:∀ x ∈ l,x < 18446744073709551616) (hl:l.length≤1000000) :
  ACt 177 [q3x (pm,cp,ri,vs),pF l] (iv (q76 (q5G (pm,cp,ri,vs)) pm.length l)):=by
 have cC:=q96 hp hc hr hv hu;have cF:=q9w hul hl;have cV:ACt 216 [pF l,iv pm.length] (iv (q76 0 pm.length l)):=by
  unfold q76;rw [if_neg (not_not_intro rfl)];refine ac0 Tryz.func216 Tryz.ntmps216 [.tmp 4] ?_
  by_cases h:l.length=pm.length
  ·have q:((l.length:Int) != (pm.length:Int))=false:=by simp; omega
   rw [if_neg (not_not_intro h)];generalize (if ¬ ∀ x ∈ l,q0N x then (4:Int) else 0)=z at *;exact wk1 q trivial
  ·have q:((l.length:Int) != (pm.length:Int))=true:=by simp; omega
   rw [if_pos h];exact wk1 q trivial
 generalize q5G (pm,cp,ri,vs)=e at *;unfold q3x at *;dsimp only at *
 by_cases h0:e=0
 ·subst h0;generalize q76 0 pm.length l=z at *;refine ac0 Tryz.func177 Tryz.ntmps177 [.tmp 4] ?_;have q:((0:Int) != 0)=false:=rfl;exact wk1 q trivial
 ·have q:(e != 0)=true:=by simpa using h0
  have hs:q76 e pm.length l=e:=if_pos h0;rw [hs];refine ac0 Tryz.func177 Tryz.ntmps177 [.tmp 4] ?_;exact wk1 q trivial
def qm7 {e:Int} {n:Nat} {l:List Nat} (h:q76 e n l=0):e=0∧l.length=n∧∀ x ∈ l,q0N x:=by
 unfold q76 at h
 split at h
 ·exact absurd h (by assumption)
 ·split at h
  ·cases h
  ·split at h
   ·cases h
   ·rename_i h1 h2 h3;exact ⟨Decidable.not_not.1 h1,Decidable.not_not.1 h2,Classical.not_not.1 h3⟩
def q5W {l:List Nat} (hn:l.length≤1000000):ACt 32 [pF l,pF l] (bv true):=by
 have q:((l.length:Int) != (l.length:Int))=false:=by simp
 refine ac0 Tryz.func32 Tryz.ntmps32 [.tmp 4] ?_;refine wk1 q ?_;refine q0C (fun i=>i≤l.length) [0,1] [] Lk Lk (fun i:Nat=>[(5,iv i)]) (fun _=>[]) (fun i=>l.length-i) 0 (Nat.zero_le _) ?_ ?_
 ·refine LeM [] rfl rfl ?_;refine Zz ?_
  rfl
 ·intro i hi
  by_cases hil:i < l.length
  ·obtain ⟨x,hx⟩:∃ x,l[i]?=some x:=⟨_,List.getElem?_eq_getElem hil⟩;have q2:((x:Int) != (x:Int))=false:=by simp
   refine wk1 (x2 hx q2) ?_;refine ⟨i+1,by omega,by omega,?_⟩;refine LeM [] rfl rfl ?_;refine Zz ?_
   rfl
  ·exact wk trivial


def upT (f:Fac) (ys:List Nat) (p:Nat):Nat→List Int
 | 0=>[]
 | c+1=>upT f ys p c ++ [-(q0g (f.vs.getD (p+c) 0) (ys.getD (f.ri.getD (p+c) 0).toNat 0))]
noncomputable def bwV (f:Fac) (l ys:List Nat) (k:Nat):Nat :=
 fQ 0 (q1A (ofZ (l.getD k 0) :: upT f ys ((f.cp.getD k 0).toNat+1) ((f.cp.getD (k+1) 0).toNat-((f.cp.getD k 0).toNat+1)))) (ofZ (f.vs.getD (f.cp.getD k 0).toNat 0))
noncomputable def bwS (f:Fac) (l:List Nat):Nat→List Nat→Option (List Nat)
 | 0,ys=>some ys
 | k+1,ys=>if q0N (bwV f l ys k) then bwS f l k (ys.set k (bwV f l ys k)) else none
def stZ (f:Fac) (ys:List Nat):Nat→Nat→Int
 | _,0=>0
 | p,c+1=>q0g (f.vs.getD p 0) (ys.getD (f.ri.getD p 0).toNat 0)+stZ f ys (p+1) c
def qmS {f:Fac} {ys:List Nat}:∀ c p,stZ f ys p (c+1)=stZ f ys p c+q0g (f.vs.getD (p+c) 0) (ys.getD (f.ri.getD (p+c) 0).toNat 0)
 | 0,p=>by simp [stZ]
 | c+1,p=>by
  rw [stZ,qmS c (p+1),show p+1+c=p+(c+1) by omega,stZ,Int.add_assoc]
def qaq {f:Fac} {ys:List Nat} {B:Int} {p:Nat}:∀ c,q1A (B :: upT f ys p c)=B-stZ f ys p c
 | 0=>by simp [upT,stZ,q1A]
 | c+1=>by
  rw [upT,← List.cons_append,q0i,qaq c,qmS];omega
def rwZ (g:Nat→Nat) (ys:List Nat):Nat→Nat→Int
 | _,0=>0
 | r,m+1=>q0g (g r) (ys.getD r 0)+rwZ g ys (r+1) m
def qmm {g:Nat→Nat} {ys:List Nat}:∀ m r,rwZ g ys r (m+1)=rwZ g ys r m+q0g (g (r+m)) (ys.getD (r+m) 0)
 | 0,r=>by simp [rwZ]
 | m+1,r=>by
  rw [rwZ,qmm m (r+1),show r+1+m=r+(m+1) by omega,rwZ,Int.add_assoc]
def qbV {g:Nat→Nat} {l x ys:List Nat} {B:Int} {r:Nat} (hl:∀ i,l.getD i 0=g (r+i)) (hx:∀ i,x.getD i 0=ys.getD (r+i) 0):∀ m,q1A (qdb B l x m)=B-rwZ g ys r m
 | 0=>by simp [qdb,rwZ,q1A]
 | m+1=>by
  rw [qdb,q0i,qbV hl hx m,qmm,hl,hx];omega
def q5e {f:Fac} {j a b:Nat} {ys:List Nat} (h:Col f j a b) (hn:f.pm.length≤200) (hrv:f.ri.length=f.vs.length) :
  ∀ m r p,r+m=f.pm.length→a < p→p≤b→(∀ p',p≤p'→p' < b→∃ i:Nat,f.ri[p']?=some (i:Int)∧r≤i)→stZ f ys p (b-p)=rwZ (fun i=>q1w f i p (b-p)) ys r m
 | 0,r,p,hr,ha,hpb,hi=>by
  have hp:p=b:=by
   rcases Nat.lt_or_ge p b with h1 | h1
   ·obtain ⟨i,h2,h3⟩:=hi p (Nat.le_refl _) h1;obtain ⟨i',h4,_,h5⟩:=h.row hn ha h1;rw [h2] at h4;have:=Option.some.inj h4;omega
   ·omega
  rw [hp,Nat.sub_self]; rfl
 | m+1,r,p,hr,ha,hpb,hi=>by
  rw [rwZ]
  by_cases hp:p < b∧f.ri[p]?=some (r:Int)
  ·obtain ⟨hp1,hp2⟩:=hp;have hle:=h.le;obtain ⟨x,hv⟩:∃ x,f.vs[p]?=some x:=⟨_,List.getElem?_eq_getElem Oq⟩;have hlater:∀ p',p+1≤p'→p' < b→∃ i:Nat,f.ri[p']?=some (i:Int)∧r+1≤i:=fun p' q1 q2=>by
    obtain ⟨i,h1,_⟩:=hi p' Oq q2;have:=h.mono (p'-p) p r i (by omega) (by omega) hp2 (by rw [show p+(p'-p)=p' by omega]; exact h1);rw [if_neg (by omega)] at this;exact ⟨i,h1,by omega⟩
   have hc:b-p=(b-(p+1))+1:=by omega
   have e1:q1w f (r:Int) p (b-p)=x:=by rw [hc,q1w,if_pos hp2]; exact getD_some hv
   have e2:rwZ (fun i=>q1w f i p (b-p)) ys (r+1) m=rwZ (fun i=>q1w f i (p+1) (b-(p+1))) ys (r+1) m:=by
    have key:∀ m r',r+1≤r'→rwZ (fun i=>q1w f i p (b-p)) ys r' m=rwZ (fun i=>q1w f i (p+1) (b-(p+1))) ys r' m:=fun m=>by
     induction m with
     | zero=>intro _ _; rfl
     | succ m ih =>
      intro r' hr';rw [rwZ,rwZ,ih (r'+1) (by omega)]
      congr 2
      show q1w f (r':Int) p (b-p)=_
      rw [hc,q1w,if_neg (by rw [hp2]; intro e; have:=Option.some.inj e; omega)]
    exact key m (r+1) (Nat.le_refl _)
   rw [e1,e2,← q5e h hn hrv m (r+1) (p+1) (by omega) (by omega) (by omega) hlater,hc,stZ,getD_some hv,getD_some hp2]
   rfl
  ·have hge:∀ p',p≤p'→p' < b→∃ i:Nat,f.ri[p']?=some (i:Int)∧r+1≤i:=fun p' q1 q2=>by
    obtain ⟨i,h1,h2⟩:=hi p' q1 q2;refine ⟨i,h1,?_⟩
    rcases Nat.lt_or_ge r i with h3 | h3
    ·omega
    ·obtain rfl:i=r:=by omega
     by_cases hpp:p'=p
     ·subst hpp; exact absurd ⟨q2,h1⟩ hp
     ·obtain ⟨i0,h4,h5⟩:=hi p (Nat.le_refl _) Oq;have:=h.mono (p'-p) p i0 i (by omega) (by omega) h4 (by rw [show p+(p'-p)=p' by omega]; exact h1);rw [if_neg (by omega)] at this;omega
   have e0:q1w f (r:Int) p (b-p)=0:=q4V _ _ fun p' q1 q2 e=>by
    obtain ⟨i,h1,h2⟩:=hge p' q1 Oq;rw [h1] at e;have:=Option.some.inj e;omega
   rw [e0,q44,Int.zero_add];exact q5e h hn hrv m (r+1) p Oq ha hpb hge
def qbR {g g':Nat→Nat} {ys:List Nat}:∀ m r,(∀ i,r≤i→i < r+m→g i=g' i)→rwZ g ys r m=rwZ g' ys r m
 | 0,_,_=>rfl
 | m+1,r,h=>by rw [rwZ,rwZ,h r (Nat.le_refl _) (by omega),qbR m (r+1) fun i q1 q2=>h i (by omega) (by omega)]
def qpF {f:Fac} {l ys:List Nat} {k n:Nat} (ho:FacOk f) (hn:n=f.pm.length) (hk:k < n):bwV f l ys k=upV (trS (q3P f n n) n n) l ys n k:=by
 obtain ⟨a,b,hc⟩:=ho.col k Oq;have hlt:=hc.lt;obtain ⟨x,V,d1,d2,d3⟩:=hc.diag;have hel:elF f k k=x:=by
  rw [q5Y hc,show b-a=(b-(a+1))+1 by omega,q1w,if_pos hc.first];exact getD_some d1
 have hU:(trS (q3P f n n) n n).getD k []=rwG n (fun j=>((q3P f n n).getD j []).getD k 0) n:=by
  refine getD_some ?_;unfold trS;rw [List.getElem?_map,List.getElem?_range hk]; rfl
 obtain ⟨g,hg⟩:∃ g:Nat→Nat,g=fun j=>if j < n then ((q3P f n n).getD j []).getD k 0 else 0:=⟨_,rfl⟩
 have hgd:∀ i,(rwG n (fun j=>((q3P f n n).getD j []).getD k 0) n).getD i 0=g i:=fun i=>by
  rw [hg]
  by_cases hi:i < n
  ·rw [getD_some (q33 hi)]
  ·rw [List.getD_eq_getElem?_getD,List.getElem?_eq_none (by rw [q4Z]; omega)];simp only [if_neg hi]; rfl
 have hgk:∀ i,k≤i→i < n→g i=elF f i k:=fun i h1 h2=>by
  rw [hg];simp only [if_pos h2];rw [getD_some (q6H h2),getD_some (q33 hk),if_pos (by omega)]
 unfold bwV upV;rw [getD_some hc.ha,getD_some hc.hb,hU,hgd,hgk k (Nat.le_refl _) hk,hel];rw [show ((a:Int)).toNat=a by omega,show ((b:Int)).toNat=b by omega,getD_some d1,qaq];rw [qbV (g:=g) (ys:=ys) (r:=k+1) (fun i=>by rw [List.getD_eq_getElem?_getD,List.getElem?_drop,← List.getD_eq_getElem?_getD,hgd]) (fun i=>by rw [List.getD_eq_getElem?_getD,List.getElem?_drop,← List.getD_eq_getElem?_getD])];rw [q5e hc ho.n ho.ril (n-(k+1)) (k+1) (a+1) (by omega) (by omega) (by omega) fun p q1 q2=>by
  obtain ⟨i,h1,h2,_⟩:=hc.row ho.n Oq q2;exact ⟨i,h1,by omega⟩]
 rw [qbR (g:=g) (g':=fun i=>q1w f i (a+1) (b-(a+1))) _ _ fun i q1 q2=>by
  rw [hgk i (by omega) (by omega),q5Y hc,show b-a=(b-(a+1))+1 by omega,q1w,if_neg (by rw [hc.first]; intro e; have:=Option.some.inj e; omega)]]
def qhX {f:Fac} {l:List Nat} {n:Nat} (ho:FacOk f) (hn:n=f.pm.length):∀ (k:Nat) (ys:List Nat),k≤n→bwS f l k ys=upF (trS (q3P f n n) n n) l n k ys
 | 0,_,_=>rfl
 | k+1,ys,hk=>by rw [bwS,upF,qpF ho hn (by omega),qhX ho hn k _ (by omega)]
def qln {L:List (List Nat)} {n:Nat} (h:SqM L n):SqM (trS L n n) n:=⟨qhy,fun r hr=>by
 obtain ⟨i,hi,rfl⟩:=List.mem_map.1 hr;have hi:=List.mem_range.1 hi;refine ⟨q4Z,fun x hx=>?_⟩;obtain ⟨j,hj,rfl⟩:=List.mem_map.1 hx;have hj:=List.mem_range.1 hj;rw [if_pos hj];have hl:=h.len;obtain ⟨r,hr⟩:∃ r,L[j]?=some r:=⟨_,List.getElem?_eq_getElem Oq⟩;obtain ⟨h1,h2⟩:=h.row r (List.mem_of_getElem? hr);obtain ⟨x,hx⟩:∃ x,r[i]?=some x:=⟨_,List.getElem?_eq_getElem Oq⟩
 show (L.getD j []).getD i 0 < 18446744073709551616∧q0N ((L.getD j []).getD i 0)
 rw [getD_some hr,getD_some hx];exact h2 x (List.mem_of_getElem? hx),fun k hk=>by
 have e:(trS L n n)[k]?=some (rwG n (fun j=>(L.getD j []).getD k 0) n):=by
  unfold trS;rw [List.getElem?_map,List.getElem?_range hk]; rfl
 rw [getD_some e,getD_some (q33 hk),if_pos hk];exact h.dg k hk⟩
def q3K {l:List Nat} (h:q0x l) (i:Nat):l.getD i 0 < 18446744073709551616∧q0N (l.getD i 0):=by
 rw [List.getD_eq_getElem?_getD];cases hx:l[i]? with
 | none=>exact ⟨by simp,by unfold q0N; simp⟩
 | some x=>exact h x (List.mem_of_getElem? hx)
def q7d {f:Fac} {ys:List Nat} {p:Nat}:∀ c,(upT f ys p c).length=c
 | 0=>rfl
 | c+1=>by rw [upT,List.length_append,q7d c]; rfl
def qgR {f:Fac} {ys:List Nat} {p:Nat} (hv:q0x f.vs) (hy:q0x ys):∀ c,∀ x ∈ upT f ys p c,bl x.natAbs≤67600
 | 0,x,hx=>by cases hx
 | c+1,x,hx=>by
  rw [upT] at hx
  rcases List.mem_append.1 hx with hx | hx
  ·exact qgR hv hy c x hx
  ·simp only [List.mem_singleton] at hx;subst hx;rw [Int.natAbs_neg];exact (q0k (q3K hv _).2 (q3K hy _).2).2
def RowsOk.up {f:Fac} {rows:List (List Int)} {r:List Int} {k:Nat} (h:RowsOk f 500 rows) (h1:r.length≤501) (h2:∀ x ∈ r,bl x.natAbs≤67600):RowsOk f 500 (rows.set k r) :=
 ⟨by rw [List.length_set]; exact h.len,fun r' hr'=>by
  rcases List.mem_or_eq_of_mem_set hr' with h3 | rfl
  ·exact h.row r' h3
  ·exact ⟨by omega,h2⟩⟩
def Col.climb {f:Fac} {j a b:Nat} (h:Col f j a b):∀ d,a+d < b→∃ i:Nat,f.ri[a+d]?=some (i:Int)∧j+d≤i
 | 0,_=>⟨j,h.first,Nat.le_refl _⟩
 | d+1,hd=>by
  obtain ⟨i,h1,h2⟩:=h.climb d Oq;obtain ⟨y,z,h3,h4,h5⟩:=h.inc (a+(d+1)) Oq hd;rw [show a+(d+1)-1=a+d by omega,h1] at h3;cases h3;exact ⟨z.toNat,by rw [h4]; congr 1; omega,by omega⟩
def Col.short {f:Fac} {j a b:Nat} (h:Col f j a b) (hn:f.pm.length≤200):b≤a+201:=by
 rcases Nat.lt_or_ge b (a+202) with h1 | h1
 ·omega
 obtain ⟨i,h2,h3⟩:=h.climb (b-a-1) Oq;obtain ⟨i',h4,_,h5⟩:=h.row hn (p:=a+(b-a-1)) Oq Oq;rw [h2] at h4;have:=Option.some.inj h4;omega
def qdx {f:Fac} {l ys:List Nat} {rows:List (List Int)} {k p c i x y:Nat} (hi:f.ri[p+c]?=some (i:Int)) (hx:f.vs[p+c]?=some x) (hy:ys[i]?=some y) :
  (rows.set k (ofZ (l.getD k 0) :: upT f ys p c)).set k ((ofZ (l.getD k 0) :: upT f ys p c) ++ [-(q0g x y)])=rows.set k (ofZ (l.getD k 0) :: upT f ys p (c+1)):=by
 rw [List.set_set,upT,getD_some hi,getD_some hx,show ((i:Int)).toNat=i by omega,getD_some hy]
 rfl
def q8X {D0 E:Nat→Prop} {f:Fac} {v:Value} {A:Option Addr} {n c:Nat} {l:List Nat} {w:World} (hT:q1y w) (h:In (fFac f) E v w) (ho:FacOk f) (hb:In (fSc q2A l) E (.slice A n c) w) (hl:q0x l) (hn:n=f.pm.length) (hf:Fr D0 w) :
  Calls Tryz.prog 181 #[v,.slice A n c] w (Rt (qoS (bwS f l n (List.replicate n 0))) D0 w):=by
 obtain ⟨A3,n3,c3,A4,n4,c4,A5,n5,c5,A6,n6,c6,rfl,h1,h2,h3,h4⟩:=q7E h;have l1:=h1.sc_len;have l2:=h2.sc_len;have l3:=h3.sc_len;have l4:=h4.sc_len;have lb:=hb.sc_len;have hnb:=ho.n;have hbeg:=fun {w':World} {D':Nat→Prop} (hx:Ext w w') (hd:∀ k,k < w.heap.size→D' k) (hf':Fr D' w')=>q9f (D:=D') (vals:=l.map ofZ) (hT.ext hx) ((hb.sub fun k hk _=>hd k hk).ext hx) (by simp) (by omega) (fun i x hi=>⟨(hl x (List.mem_of_getElem? hi)).1,ofZ x,by simp [hi],q0Z (hl x (List.mem_of_getElem? hi)).2⟩) hf';obtain ⟨N,hN⟩:∃ N,N=w.heap.size:=⟨_,rfl⟩;have b2:=h2.db (w':=w);have b3:=h3.db (w':=w);have b4:=h4.db (w':=w);rw [← hN] at b2 b3 b4;refine q1J Tryz.func181 rfl Tryz.ntmps181 (by kernel_rfl) ?_;refine q0P fun K hK=>?_;refine Zz ?_;refine qdE ?_;intro g2 w2 hg2 hx2 hb2 hs2;refine hK _ _ ?_; clear hK K;have hx:Ext w w2:=hx2;replace b2:=b2.ext hx;replace b3:=b3.ext hx;replace b4:=b4.ext hx;clear hx2;refine qdW (fun e' w'=>∃ (N0 g gy:Nat) (L:List Nat) (ss:List (Option Addr × Nat × Nat)),e' 2=.pointer (some ⟨g2,0,none⟩)∧e' 1=.slice A n c∧e' 6=.slice (some ⟨g,0,none⟩) n n∧e' 7=.slice (some ⟨gy,0,none⟩) n n∧Ext w2 w'∧Sums w' (fun k=>k≠gy) L N0 g n (l.map fun x=>[ofZ x]) ss∧Own w' N 43 1 (some ⟨gy,0,none⟩) n n (List.replicate n (q2A 0))∧gy ∉ L∧g2 < N0∧N≤N0∧g2 < gy) ?_ ?_
 ·refine W_dA q5C (.one 0 (.one 2 (.one 3 (.alt (.one 1 (.one 5 (.one 4 (.one 6 .fin)))) (.one 4 (.one 1 (.one 5 (.one 6 .fin)))))))) (by kernel_rfl) fun KE wE hKE hxE=>?_;replace b2:=b2.ext hxE;replace b3:=b3.ext hxE;replace b4:=b4.ext hxE;replace hb2:=hb2.ext hxE;replace hx:=hx.trans hxE;simp only [q32] at hKE;have hlt3:=hb2.lt;have hmm:(l.map ofZ).map (fun V=>[V])=l.map fun x=>[ofZ x]:=by rw [List.map_map]; rfl
  rw [hmm] at hbeg;have hrp:List.replicate n (Value.int .u64 0)=List.replicate n (q2A 0):=rfl;have hNE:=hx.size;rw [← hN] at hNE;simp -implicitDefEqProofs (disch:=omega) only [go_sem,Nat.reduceEqDiff,Nat.reduceAdd,↓reduceIte,qdY,qdZ,qh5,q9A,qbl,List.toList_toArray];refine ⟨?_,?_⟩
  ·refine q05 q7R (hbeg (D':=fun _=>True) hx (fun _ _=>trivial) (Fr.triv _)) ?_;rintro _ w14 ⟨rfl,hx14,L,ss,hS⟩; refine ⟨_,rfl,?_⟩;refine q6s (Nat.le_refl _) Oq (by unfold maxLen; omega) fun w17 hx17 hO17 hs17=>?_;have hs14:=hx14.size;refine hKE _ _ ⟨_,_,w14.heap.size,L,ss,Ue,Ue,Ue,Ue,(hxE.trans hx14).trans hx17,(hS.sub (D':=fun k=>k≠w14.heap.size) fun k hk _=>by omega).ext hx17,hO17.mono Oq,fun hm=>?_,hlt3,hNE,by omega⟩;have:=hS.hi _ hm;omega
  ·refine q6s (Nat.le_refl _) Oq (by unfold maxLen; omega) fun w17 hx17 hO17 hs17=>?_;refine q05 q7R (hbeg (D':=fun k=>k≠wE.heap.size) (hx.trans hx17) (fun k hk=>by omega) (fun k hk=>by omega)) ?_;rintro _ w14 ⟨rfl,hx14,L,ss,hS⟩; refine ⟨_,rfl,?_⟩;refine hKE _ _ ⟨_,_,wE.heap.size,L,ss,Ue,Ue,Ue,Ue,(hxE.trans hx17).trans hx14,hS,(hO17.mono Oq).ext hx14,fun hm=>?_,by omega,by omega,hlt3⟩;have:=hS.lo _ hm;omega
 ·rintro e0 w1 ⟨N0,g,gy,L,ss,k2,k1,k6,k7,hx1,hS,hO,hgL,hgN,hNN,hg3y⟩;replace b2:=b2.ext hx1;replace b3:=b3.ext hx1;replace b4:=b4.ext hx1;replace hb2:=hb2.ext hx1;replace hx:=hx.trans hx1;refine q06 fun K0 hK0=>?_;refine Wz2 k1 @i64_in ?_;refine q2p ?_;refine q70 (fun e2 w2=>∃ (m:Nat) (L:List Nat) (rows:List (List Int)) (ys:List Nat) (ss:List (Option Addr × Nat × Nat)),e2 8=.int .i64 ((m:Int)-1)∧m≤n∧Ext w w2∧Blk w2 g2 72 #[.slice A3 n3 c3,.slice A4 n4 c4,.slice A5 n5 c5,.slice A6 n6 c6]∧In (fSc q3H f.cp) (Db E N) (.slice A4 n4 c4) w2∧In (fSc q3H f.ri) (Db E N) (.slice A5 n5 c5) w2∧In (fSc q2A f.vs) (Db E N) (.slice A6 n6 c6) w2∧Sums w2 (fun k=>k≠gy) L N0 g n rows ss∧Own w2 N 43 1 (some ⟨gy,0,none⟩) n n (ys.map q2A)∧gy ∉ L∧RowsOk f 500 rows∧(∀ i,i < m→rows[i]?=some [ofZ (l.getD i 0)])∧ys.length=n∧q0x ys∧bwS f l m ys=bwS f l n (List.replicate n 0)) (fun e2 _=>(RowKit.intOf (e2 8)+1).toNat) ⟨n,L,_,_,ss,rfl,Nat.le_refl _,hx,hb2,b2,b3,b4,hS,by rw [List.map_replicate]; exact hO,hgL,⟨by simp; omega,fun r hr=>?_⟩,fun i hi=>?_,by simp,q3O,rfl⟩ ?_
  ·rw [List.mem_map] at hr;obtain ⟨y,hy,rfl⟩:=hr;exact ⟨by simp,fun x hx=>by simp at hx; subst hx; exact q6q (hl y hy).2⟩
  ·have hil:i < l.length:=by omega
   rw [List.getElem?_map,List.getD_eq_getElem?_getD,List.getElem?_eq_getElem hil]
   rfl
  clear hx hb2 b2 b3 b4 hS hO hgL;rintro e1 w5 ⟨m,L,rows,ys,ss,k8,hm,hx,hb2,b2,b3,b4,hS,hO,hgL,hR,hrw,hys,hfy,hbw⟩ hkk;have r2:e1 2=.pointer (some ⟨g2,0,none⟩):=(hkk 2 (by kernel_rfl)).trans Ue;have r6:e1 6=.slice (some ⟨g,0,none⟩) n n:=(hkk 6 (by kernel_rfl)).trans Ue;have r7:e1 7=.slice (some ⟨gy,0,none⟩) n n:=(hkk 7 (by kernel_rfl)).trans Ue;clear hkk
  by_cases hm0:m=0
  ·subst hm0;have hlt':¬ (0:Int)≤((0:Nat):Int)-1:=by omega
   refine q06 fun K1 hK1=>?_;refine Wz2 k8 hlt' ?_;refine Wf (q52 (hK0 _ _ ?_));rw [bwS] at hbw;rw [← hbw];refine Wz1 r7 ?_;refine q4A ?_
   try simp only [q1S,q4a]
   refine qmz rfl ⟨_,rfl,hx,⟨_,_,rfl,by simp only [q0z,Nat.reduceEqDiff,↓reduceIte]; exact qnW hO fun k hk=>hf k (by omega),by simp only [q0z,Nat.reduceEqDiff,↓reduceIte]; exact rfl⟩⟩
  ·obtain ⟨k,rfl⟩:∃ k,m=k+1:=⟨m-1,by omega⟩;replace k8:e1 8=.int .i64 (k:Int):=by rw [k8]; congr 1; omega
   have hlt':(0:Int)≤(k:Int):=by omega
   refine q06 fun K1 hK1=>?_;refine Wz2 k8 hlt' ?_;refine Wt (q2N (hK1 _ _ ?_));clear hK1;refine q2O fun K hK=>?_;obtain ⟨a,b,hcol⟩:=ho.col k Oq;obtain ⟨dx,dV,d1,d2,d3⟩:=hcol.diag;have hcb:=hcol.hb;obtain ⟨k1,hk1⟩:∃ k1,k1=k+1:=⟨_,rfl⟩;rw [← hk1] at hcb;have hle:=hcol.le;have hlt:=hcol.lt;have hsh:=hcol.short ho.n;have hrib:=ho.rib;have hril:=ho.ril;obtain ⟨hdx,hdf⟩:=ho.vals dx (List.mem_of_getElem? d1);obtain ⟨u,hu⟩:∃ u,u=l.getD k 0:=⟨_,rfl⟩;obtain ⟨hu1,hu2⟩:=q3K hl k;have hrk:=hrw k Oq;rw [← hu] at hu1 hu2 hrk;have hset0:rows.set k [ofZ u]=rows:=by
    refine List.ext_getElem? fun i=>?_;rw [List.getElem?_set]
    split
    ·rename_i e; subst e
     split
     ·exact hrk.symm
     ·rw [List.getElem?_eq_none (by omega)]
    ·rfl
   obtain ⟨ad2,rfl,i2,x2⟩:=b2.ixI hcol.ha;have e1':IntKind.i64.wrap ((a:Int)+1)=((a+1:Nat):Int):=by rw [i64_in (by omega) (by omega)]; omega
   have e2':IntKind.i64.wrap ((k:Int)+1)=(k1:Int):=by rw [i64_in (by omega) (by omega)]; omega
   refine q06 fun K2 hK2=>?_;refine q0P fun K hK=>?_;simp -implicitDefEqProofs (disch:=omega) only [go_sem,Nat.reduceEqDiff,Nat.reduceAdd,↓reduceIte,r2,hb2.c1,k8,i2,x2,e1'];refine hK _ _ ?_; clear hK K;refine q2p ?_;refine q70 (fun e2 w2=>∃ (p:Nat) (L:List Nat) (ss:List (Option Addr × Nat × Nat)),e2 9=.int .i64 p∧a+1≤p∧p≤b∧Ext w w2∧Blk w2 g2 72 #[.slice A3 n3 c3,.slice (some ad2) n4 c4,.slice A5 n5 c5,.slice A6 n6 c6]∧In (fSc q3H f.cp) (Db E N) (.slice (some ad2) n4 c4) w2∧In (fSc q3H f.ri) (Db E N) (.slice A5 n5 c5) w2∧In (fSc q2A f.vs) (Db E N) (.slice A6 n6 c6) w2∧Sums w2 (fun k=>k≠gy) L N0 g n (rows.set k (ofZ u :: upT f ys (a+1) (p-(a+1)))) ss∧Own w2 N 43 1 (some ⟨gy,0,none⟩) n n (ys.map q2A)∧gy ∉ L) (fun e2 _=>b-(RowKit.intOf (e2 9)).toNat) ⟨a+1,L,ss,rfl,Nat.le_refl _,hlt,hx,hb2,b2,b3,b4,by rw [Nat.sub_self,upT,hset0]; exact hS,hO,hgL⟩ ?_;clear hx hb2 b2 b3 b4 hS hO hgL x2 i2;rintro e3 w6 ⟨p,L,ss,k9,hp1,hp2,hx,hb2,b2,b3,b4,hS,hO,hgL⟩ hkk;have q2:e3 2=.pointer (some ⟨g2,0,none⟩):=(hkk 2 (by kernel_rfl)).trans Ue;have q6:e3 6=.slice (some ⟨g,0,none⟩) n n:=(hkk 6 (by kernel_rfl)).trans Ue;have q7:e3 7=.slice (some ⟨gy,0,none⟩) n n:=(hkk 7 (by kernel_rfl)).trans Ue;have q8:e3 8=.int .i64 k:=(hkk 8 (by kernel_rfl)).trans Ue;clear hkk r2 r6 r7;have hro:RowsOk f 500 (rows.set k (ofZ u :: upT f ys (a+1) (p-(a+1)))):=hR.up (by rw [List.length_cons,q7d]; omega) fun x hx=>by
    rcases List.mem_cons.1 hx with rfl | hx
    ·exact q6q hu2
    ·exact qgR ho.vals hfy _ x hx
   have hrl:=hR.len;have hrk2:(rows.set k (ofZ u :: upT f ys (a+1) (p-(a+1))))[k]?=some (ofZ u :: upT f ys (a+1) (p-(a+1))):=List.getElem?_set_self Oq;have hgy:gy < w6.heap.size:=by
    rcases hO.form with ⟨h0,_⟩ | ⟨_,_,h0,_,hb,_⟩
    ·cases h0
    ·cases h0; exact hb.lt
   obtain ⟨_,hcc,i2,x2⟩:=b2.ixI hcb;cases hcc
   by_cases hlt2:p < b
   ·have hlt2':(p:Int) < b:=by omega
    refine q06 fun K5 hK5=>?_;refine q0P fun K hK=>?_;simp -implicitDefEqProofs (disch:=omega) only [go_sem,Nat.reduceEqDiff,Nat.reduceAdd,↓reduceIte,k9,q2,hb2.c1,q8,e2',i2,x2,hlt2'];refine hK _ _ ?_; clear hK K;refine Wt (q2N (hK5 _ _ ?_));clear hK5;refine q2O fun K6 hK6=>?_;obtain ⟨j0,hj1,hj2,hj3⟩:=hcol.row ho.n Oq hlt2;obtain ⟨xv,hxv⟩:∃ xv,f.vs[p]?=some xv:=⟨_,List.getElem?_eq_getElem Oq⟩;obtain ⟨hv1,hv2⟩:=ho.vals xv (List.mem_of_getElem? hxv);obtain ⟨yv,hyv⟩:∃ yv,ys[j0]?=some yv:=⟨_,List.getElem?_eq_getElem Oq⟩;obtain ⟨hy1,hy2⟩:=hfy yv (List.mem_of_getElem? hyv);obtain ⟨ad5,rfl,i5,x5⟩:=b3.ixI hj1;obtain ⟨ad4,rfl,i6,x6⟩:=b4.ixU hxv;have hyu:(ys.map q2A)[j0]?=some (.int .u64 (yv:Int)):=by rw [List.getElem?_map,hyv]; rfl
    have ij:(0:Int)≤(j0:Int)∧(j0:Int) < n:=by omega
    clear x2 x5 x6;obtain ⟨hmu,_⟩:=q0k hv2 hy2;refine qpy q5C (Kp (fun k=>k ∉ ([]:List Nat))) (fun _ _=>False) (Kp.pre _) [true,true,true,true,true,true,true,true,true,true,true,true,true,true,true,false] [false,false,false,false,false,false,false,false,false,false,false,false,false,false,false,false] [1,1,1,1,1,1,1,1,1,1,1,1,1,1,1,1] (by kernel_rfl) ?_
    apply Exists.intro
    refine ⟨fun wE hE KE hKE=>?_,fun wE hE KE hKE=>?_,fun wE hxE hr=>?_⟩
    ·skip
     replace hE:=Kp.all hE;replace hb2:=hb2.ext hE;replace b2:=b2.ext hE;replace b3:=b3.ext hE;replace b4:=b4.ext hE;replace hS:=hS.ext hE;replace hO:=hO.ext hE;refine Zz13 k9 q2 q6 q7 q8 hb2.c2 hb2.c3 i5 (inI b3 hj1) i6 (inU b4 hxv) ij (owG hO hyu) ?_;exact hKE
    ·exact hE.elim
    simp only [q6g,q6i,q6h];replace b2:=b2.ext hxE;replace b3:=b3.ext hxE;replace b4:=b4.ext hxE;replace hS:=hS.ext hxE;replace hO:=hO.ext hxE;replace hb2:=hb2.ext hxE;replace hx:=hx.trans hxE;clear hr;simp -implicitDefEqProofs (disch:=omega) only [go_sem,Nat.reduceEqDiff,Nat.reduceAdd,↓reduceIte,List.toList_toArray,k9,q2,q6,q7,q8,hb2.c2,hb2.c3,i5,(inI b3 hj1),i6,(inU b4 hxv),ij,(owG hO hyu)];have hw':=hxE.size;refine q05 qcz (q4W (hT.ext hx) hS hrk2 hv1 hy1 (q0Z hv2) (q0Z hy2) hmu (by rw [List.length_cons,q7d]; omega) (fun k hk=>by omega)) ?_;rintro _ w7 ⟨rfl,hk7,L',ss',hL1,hL2,hS7⟩; refine ⟨_,rfl,?_⟩;rw [hu,qdx (by rw [show a+1+(p-(a+1))=p by omega]; exact hj1) (by rw [show a+1+(p-(a+1))=p by omega]; exact hxv) hyv,show p-(a+1)+1=p+1-(a+1) by omega,← hu] at hS7;have hlo:∀ j,j < N→j ∉ L:=fun j hj hm=>by have:=hS.lo j hm; omega
    replace b2:=b2.kpb hk7 hlo;replace b3:=b3.kpb hk7 hlo;replace b4:=b4.kpb hk7 hlo;replace hb2:=hb2.kp hk7 fun hm=>by have:=hS.lo _ hm; omega
    replace hx:=hx.under hk7 fun j hj=>hlo j Oq;replace hO:=hO.kp hk7 fun a ha=>by cases ha; exact hgL
    have hgL7:gy ∉ L':=fun hm=>by
     rcases hL2 _ hm with h | h
     ·exact hgL h
     ·omega
    simp only [q32,qnx];refine hK6 _ _ ?_; clear hK6;refine q3m fun K9 hK9=>?_;refine Zz2 k9 @i64_in ?_;refine hK9 _ _ ?_; clear hK9 K9;exact ⟨⟨p+1,L',ss',rfl,by omega,by omega,hx,hb2,b2,b3,b4,hS7,hO,hgL7⟩,by simp only [q0z,↓reduceIte,RowKit.intOf,k9]; omega⟩
   ·have hlt2':¬ (p:Int) < b:=by omega
    refine q06 fun K5 hK5=>?_;refine q0P fun K hK=>?_;simp -implicitDefEqProofs (disch:=omega) only [go_sem,Nat.reduceEqDiff,Nat.reduceAdd,↓reduceIte,k9,q2,hb2.c1,q8,e2',i2,x2,hlt2'];refine hK _ _ ?_; clear hK K;refine Wf (q52 (hK2 _ _ ?_));obtain rfl:p=b:=by omega
    obtain ⟨S,hSS⟩:∃ S,S=q1A (ofZ u :: upT f ys (a+1) (p-(a+1))):=⟨_,rfl⟩;obtain ⟨q,hq⟩:∃ q,q=fQ 0 S dV:=⟨_,rfl⟩;have hqv:bwV f l ys k=q:=by
     unfold bwV;rw [← hk1,getD_some hcol.ha,getD_some hcb,← hu,show ((a:Int)).toNat=a by omega,show ((p:Int)).toNat=p by omega,← hSS,getD_some d1,q0W d2,hq]
    clear x2 i2;obtain ⟨_,hcc,i2,x2⟩:=b2.ixI hcol.ha;cases hcc;obtain ⟨ad4,rfl,i4,x4⟩:=b4.ixU d1;clear x2 x4;obtain ⟨s1,s2,s3⟩:=qbZ hro (List.mem_of_getElem? hrk2) Oq;obtain ⟨D,hDq⟩:∃ D:Nat→Prop,D=fun _=>True:=⟨_,rfl⟩;have hDl:∀ k,Dl D [] k:=fun k=>⟨by rw [hDq]; trivial,by simp⟩;have hD:Fr (Dl D []) w6:=fun k _=>hDl k;have ik:(0:Int)≤(k:Int)∧(k:Int) < n:=by omega
    have hqu:=fun {w:World} {v v':Value} (hT:q1y w) (h:In (fV S) (Dl D []) v w) (h':In (fV dV) (Dl D []) v' w) (hf:Fr (Dl D []) w)=>qgx hT h h' Oq hf;rw [← hq] at hqu;refine q06 fun K3 hK3=>?_;refine qpy q5C (Kp (fun k=>k ∉ ([]:List Nat))) (fun _ _=>False) (Kp.pre _) [true,true,true,true,false,true,true,true,true,true,true,true,true,true,false,false,false,false] [false,false,false,false,false,false,false,false,false,false,false,false,false,false,false,false,false,false] [1,1,1,1,0,1,1,1,1,1,1,1,1,1,0,0,1,1] (by kernel_rfl) ?_
    apply Exists.intro
    refine ⟨fun wE hE KE hKE=>?_,fun wE hE KE hKE=>?_,fun wE hxE hr=>?_⟩
    ·skip
     replace hE:=Kp.all hE;replace hb2:=hb2.ext hE;replace b2:=b2.ext hE;replace b3:=b3.ext hE;replace b4:=b4.ext hE;replace hS:=hS.ext hE;replace hO:=hO.ext hE;refine Zz11 q2 q6 q7 q8 hb2.c1 hb2.c3 i2 (inI b2 hcol.ha) i4 (inU b4 d1) ik ?_;exact hKE
    ·exact hE.elim
    simp only [q6g,q6i,q6h];replace b2:=b2.ext hxE;replace b3:=b3.ext hxE;replace b4:=b4.ext hxE;replace hS:=hS.ext hxE;replace hO:=hO.ext hxE;replace hb2:=hb2.ext hxE;replace hD:=hD.kp hxE;replace hx:=hx.trans hxE;simp -implicitDefEqProofs (disch:=omega) only [go_sem,Nat.reduceEqDiff,Nat.reduceAdd,↓reduceIte,List.toList_toArray,q2,q6,q7,q8,hb2.c1,hb2.c3,i2,(inI b2 hcol.ha),i4,(inU b4 d1),ik];have hto:=q89 (hT.ext hx) (hS.sub (D':=Dl D []) fun k _ _=>hDl k) hrk2 Oq s2 s3 (fun k _=>hDl k) hD;rw [← hSS] at hto;refine Cr qdA (hto) fun v58 w58 hx58 h58=>?_;replace b2:=b2.ext hx58;replace b3:=b3.ext hx58;replace b4:=b4.ext hx58;replace hS:=hS.ext hx58;replace hO:=hO.ext hx58;replace hb2:=hb2.ext hx58;replace hD:=hD.kp hx58;replace hx:=hx.trans hx58;replace hr:=hr.trans (Kp.of_ext hx58);clear hx58;refine ⟨hr,?_⟩;refine Cr q50 (qcd (hT.ext hx) hdx d2 hD) fun v68 w68 hx68 h68=>?_;replace b2:=b2.ext hx68;replace b3:=b3.ext hx68;replace b4:=b4.ext hx68;replace hS:=hS.ext hx68;replace hO:=hO.ext hx68;replace h58:=h58.ext hx68;replace hb2:=hb2.ext hx68;replace hD:=hD.kp hx68;replace hx:=hx.trans hx68;replace hr:=hr.trans (Kp.of_ext hx68);clear hx68;refine ⟨hr,?_⟩;refine Ck qdB (hqu (hT.ext hx) h58 h68 hD) fun w69 hx69=>?_;replace b2:=b2.ext hx69;replace b3:=b3.ext hx69;replace b4:=b4.ext hx69;replace hS:=hS.ext hx69;replace hO:=hO.ext hx69;replace h58:=h58.ext hx69;replace h68:=h68.ext hx69;replace hb2:=hb2.ext hx69;replace hD:=hD.kp hx69;replace hx:=hx.trans hx69;replace hr:=hr.trans (Kp.of_ext hx69);clear hx69;refine ⟨hr,?_⟩;have hqlt:q < 18446744073709551616:=by rw [hq]; exact qaW (by omega)
    have hyl:(ys.map q2A).length=n:=by rw [List.length_map]; exact hys
    refine q8k hO (by omega:k < n) qiN rfl rfl fun w5 hO5 hk5 hs5=>?_;replace hS:=hS.kpo hk5 (fun _ h=>h) hgL;replace b2:=b2.kpb hk5 fun k hk=>by omega
    replace b3:=b3.kpb hk5 fun k hk=>by omega
    replace b4:=b4.kpb hk5 fun k hk=>by omega
    replace hb2:=hb2.kpne hk5 Oq;replace hx:=hx.under hk5 fun k hk=>by omega
    have cy:=hO5.cell_set Oq;have hO6:Own w5 N 43 1 (some ⟨gy,0,none⟩) n n ((ys.set k q).map q2A):=by rw [List.map_set]; exact hO5
    clear hO hO5 hk5 hD;simp only [q32];refine hK3 _ _ ?_; clear hK3;refine q0P fun K hK=>?_;refine Zz4 q7 q8 ik cy ?_;refine q05 qdC (q3l hqlt) ?_;rintro _ _ ⟨rfl,rfl⟩; refine ⟨_,rfl,?_⟩;rw [bwS,hqv] at hbw
    by_cases hfin:q0N q
    ·rw [if_pos hfin] at hbw;rw [decide_eq_true hfin];refine Zz ?_;refine hK _ _ ?_; clear hK;refine Wf (q2N (hK _ _ ?_));refine q3m fun K9 hK9=>?_;refine Zz2 q8 @i64_in ?_;refine hK9 _ _ ?_; clear hK9 K9;exact ⟨⟨k,L,_,ys.set k q,ss,rfl,by omega,hx,hb2,b2,b3,b4,hS,hO6,hgL,hro,fun i hi=>by rw [List.getElem?_set_ne (by omega)]; exact hrw i (by omega),by rw [List.length_set]; exact hys,q4K hfy hqlt hfin,hbw⟩,by simp only [q0z,↓reduceIte,RowKit.intOf,k8]; omega⟩
    ·rw [if_neg hfin] at hbw;rw [decide_eq_false hfin];refine Zz ?_;refine hK _ _ ?_; clear hK;refine Wt ?_;refine Wz ?_;refine q4A ?_
     try simp only [q1S,q4a]
     refine qmz rfl ⟨_,rfl,hx,by rw [← hbw]; exact ⟨_,_,rfl,by simp only [q0z,Nat.reduceEqDiff,↓reduceIte]; exact In.sc_nil,by simp only [q0z,Nat.reduceEqDiff,↓reduceIte]; exact rfl⟩⟩
def qpE {f:List Int × List Int × List Int × List Nat} {l:List Nat} (ho:FacOk ⟨f.1,f.2.1,f.2.2.1,f.2.2.2⟩) (hl:q0x l) (hn:l.length=f.1.length) :
  ACt 181 [q3x f,pF l] (fwP (bwS ⟨f.1,f.2.1,f.2.2.1,f.2.2.2⟩ l l.length (List.replicate l.length 0))):=q9j (r:=.fm (qoS _)) (fun D w v h=>qgb (qdc h)) (ac_r qhO fun D w vs hT hF hR=>by
 obtain ⟨_,_,rfl,h3,h4⟩:=qnG hR;obtain ⟨A,n,c,rfl,h6⟩:=q6m (f:=q2A) h4;obtain rfl:n=l.length:=h6.sc_len.symm;exact q8X hT (qgc h3) ho h6 hl hn hF)
section
variable {F:Nat→Nat→Option Nat} {l:List Int} {cs:List Nat} {cols:List (List Nat)} {j n M:Nat} {p:LSt}
end
def qbx {L:List (List Nat)} {b:List Nat}:∀ (m k:Nat) (ys zs:List Nat),loF L b m k ys=some zs→zs.length=ys.length
 | 0,_,_,_,h=>by cases h; rfl
 | m+1,k,ys,zs,h=>by
  rw [loF] at h
  split at h
  ·rw [qbx m (k+1) _ zs h,List.length_set]
  ·cases h
def qar {L:List (List Nat)} {b:List Nat} {n:Nat}:∀ (k:Nat) (ys zs:List Nat),upF L b n k ys=some zs→zs.length=ys.length
 | 0,_,_,h=>by cases h; rfl
 | k+1,ys,zs,h=>by
  rw [upF] at h
  split at h
  ·rw [qar k _ zs h,List.length_set]
  ·cases h
def AR (f:FuncId) (al:List PV) (r:PV):Prop :=
 q0F Tryz.prog f=true∧∀ (D E:Nat→Prop) (w:World) (vs:List Value),q1y w→Fr E w→RdL w D al (fun _=>none) h0 vs→Calls Tryz.prog f vs.toArray w fun x w'=>∃ v,x=.returned v∧Ext w w'∧Rd w' E r (fun _=>none) h0 v
def AR.ac {f:FuncId} {al:List PV} {r:PV} (h:AR f al r):ACt f al r:=⟨h.1,fun D w vs hT hF hR=>h.2 D D w vs hT hF hR⟩
def qd6 (x:PV):Prop:=∀ (w:World) (D D':Nat→Prop) (ρ:Nat→Option Nat) (h:Hp) (v:Value),Rd w D x ρ h v→Rd w D' x ρ h v
def qog {v:Value}:qd6 (.vl v):=fun w D D' ρ h y hr=>by unfold Rd at hr ⊢; exact hr
def df_ow {id off n:Nat} {k:Kd}:qd6 (.ow id k off n):=fun w D D' ρ h y hr=>by unfold Rd at hr ⊢; exact hr
def df_L {l:List PV} (hl:∀ y ∈ l,qd6 y) {w:World} {D D':Nat→Prop} {ρ:Nat→Option Nat} {h:Hp} {vs:List Value} (hr:RdL w D l ρ h vs):RdL w D' l ρ h vs:=by
 obtain ⟨h1,h2⟩:=RdL.iff.1 hr;exact RdL.iff.2 ⟨h1,fun t x v ht hv=>hl x (List.mem_of_getElem? ht) _ _ _ _ _ _ (h2 t x v ht hv)⟩
def qlE {f:FuncId} {al l cl:List PV} {ids:List Nat} {hout:Hp} (hM:ACm Tryz.prog q1y f al h0 (.tu l) hout) (hl:∀ y ∈ l,qd6 y) (hb:∀ i b,hout i=some b→∀ y ∈ b.xs,qd6 y) (hc:q2X hout l=some (cl,ids)):AR f al (.tu cl):=by
 refine ⟨hM.ca,fun D E w vs hT hF hR=>?_⟩;have hlen:=hR.len;obtain ⟨D0,hD0⟩:∃ D0:Nat→Prop,D0=fun k=>D k∨w.heap.size≤k:=⟨_,rfl⟩;have hF0:Fr D0 w:=fun k hk=>by rw [hD0]; exact .inr hk
 have hdm:dm D0 (fun _=>none) h0=D0:=by
  funext k
  exact propext ⟨fun h=>h.1,fun h=>⟨h,fun i b hi=>by cases hi⟩⟩
 have S:Sat D0 ⟨w,fun k=>k < w.heap.size,fun _ _ _=>False,fun _ _=>False,fun _ h=>h,fun _ _ h=>h.elim⟩ (enP al) h0 (fun _=>none) (q2j vs) w:=by
  refine ⟨fun i j b c g hi=>(by cases hi),fun i b g hi=>(by cases hi),fun i b hi=>(by cases hi),fun t=>?_,Kp.refl _ _,hF0,fun _ _ _ h=>h.elim,fun _ _ h=>h.elim⟩;rw [hdm];obtain ⟨h1,h2⟩:=RdL.iff.1 (hR.sub (D':=D0) fun k _ hk=>by rw [hD0]; exact .inl hk);unfold enP q2j;rw [List.getD_eq_getElem?_getD,List.getD_eq_getElem?_getD];cases ht:al[t]? with
  | none=>simp only [Option.getD_none]; unfold Rd; trivial
  | some x =>
   have hlt:=(List.getElem?_eq_some_iff.1 ht).1;have hv:=List.getElem?_eq_getElem (l:=vs) (show t < vs.length by omega);rw [hv];exact h2 t x _ ht hv
 refine (hM.run D0 ⟨w,fun k=>k < w.heap.size,fun _ _ _=>False,fun _ _=>False,fun _ h=>h,fun _ _ h=>h.elim⟩ _ w vs (fun w' hx=>q5b _ _ (hx.mono fun k hk _=>hk) hT) (fun _ _ h=>h.elim) hF0 Oq S).mono fun x w' ⟨v,ρ',hx,S',hr⟩=>?_;refine ⟨v,hx,S'.ext.mono fun k hk _=>hk,?_⟩;have S2:Sat E ⟨w,fun k=>k < w.heap.size,fun _ _ _=>False,fun _ _=>False,fun _ h=>h,fun _ _ h=>h.elim⟩ nos hout ρ' (fun _=>v) w':=by
  refine ⟨S'.inj,fun i b g hi hg=>?_,S'.vir,fun t=>by unfold nos Rd; trivial,S'.ext,hF,S'.imp,S'.pin⟩;obtain ⟨⟨h1,h2⟩,cs,h3,h4,h5⟩:=S'.own i b g hi hg;refine ⟨⟨h1,hF g (Nat.le_of_not_lt h1)⟩,cs,h3,h4,fun hs=>?_⟩;obtain ⟨us,h6,h7,h8⟩:=h5 hs;exact ⟨us,h6,df_L (hb i b hi) h7,h8⟩
 unfold Rd at hr ⊢;obtain ⟨us,hv,hr⟩:=hr;refine ⟨us,hv,?_⟩;refine (q4i S2 hc (df_L hl hr)).sub fun k _ hq=>?_
 rcases hq with hq | ⟨i,hi,hg⟩
 ·exact hq.1
 ·obtain ⟨b,hb'⟩:=q4M hc i hi;exact (S2.own i b k hb' hg).1.2
def gaS (l:List Nat) (o:List Int) (n:Nat):List Nat:=rwG n (fun k=>l.getD (o.getD k 0).toNat 0) n
def scS (x:List Nat) (o:List Int) (n:Nat):Nat→List Nat
 | 0=>List.replicate n 0
 | k+1=>(scS x o n k).set (o.getD k 0).toNat (x.getD k 0)
def q2a {x:List Nat} {o:List Int} {n:Nat}:∀ k,(scS x o n k).length=n
 | 0=>List.length_replicate
 | k+1=>by rw [scS,List.length_set,q2a k]
def qjO {l:List Nat} {o:List Int} {n:Nat}:(gaS l o n).length=n:=q4Z
def qjP {l:List Nat} {o:List Int} {n:Nat} (hl:q0x l):q0x (gaS l o n):=fun x hx=>by
 unfold gaS rwG at hx;obtain ⟨j,_,rfl⟩:=List.mem_map.1 hx
 split
 ·exact q3K hl _
 ·exact ⟨by omega,by unfold q0N; simp⟩
section
variable {l:List Nat} {o:List Int} {n:Nat}
def q9v (hl:l.length=n) (ho:o.length=n) (hn:n≤1000000) (hb:∀ x ∈ o,0≤x∧x < n):ACt 179 [pF l,pI o] (pF (gaS l o n)):=by
 unfold gaS;have hgl:∀ m,(rwG n (fun k=>l.getD (o.getD k 0).toNat 0) m).length=n:=fun _=>q4Z;generalize hg:(fun k=>l.getD (o.getD k 0).toNat 0)=g at *;refine ac0 Tryz.func179 Tryz.ntmps179 [.tmp 4] ?_;refine wk1 hl ?_;refine q0C (fun k=>k≤n) [0,11,12] [] Lk Lk (fun k:Nat=>[(13,iv k),(5,.ow 1001 none 0 n)]) (fun k=>[(1001,⟨43,none,(rwG n g k).map fun z:Nat=>uv z,false⟩)]) (fun k=>n-k) 0 (Nat.zero_le _) ?_ ?_
 ·rw [← qiY];refine LeM [(1001,some 10)] rfl rfl ?_;refine Zz ?_;simp
 ·intro k hk
  by_cases hlt:k < n
  ·obtain ⟨x,hx⟩:∃ x,o[k]?=some x:=⟨_,List.getElem?_eq_getElem Oq⟩;obtain ⟨h1,h2⟩:=hb x (List.mem_of_getElem? hx);obtain ⟨x,rfl⟩:∃ y:Nat,x=y:=⟨x.toNat,by omega⟩;obtain ⟨u,hu⟩:∃ u,l[x]?=some u:=⟨_,List.getElem?_eq_getElem Oq⟩;have hs:=qmn (n:=n) (g:=g) (m:=k);have hgk:g k=u:=by rw [← hg]; simp only [getD_some hx,Int.toNat_natCast,getD_some hu]
   rw [hgk] at hs;refine wk1 (x3 hx hu (hgl k)) ?_;refine ⟨k+1,by omega,by omega,?_⟩;refine LeM [] rfl rfl ?_;refine Zz ?_;rw [← hs];exact ⟨by omega,rfl⟩
  ·obtain rfl:k=n:=by omega
   have hgk:=hgl k;exact wk1 ho trivial
def q7p (hl:l.length=n) (ho:o.length=n) (hn:n≤1000000) (hb:∀ x ∈ o,0≤x∧x < n):qlG 182 [pF l,pI o] h0 (.ow 5000 none 0 n) (q0S h0 5000 ⟨43,none,(scS l o n n).map fun z:Nat=>uv z,false⟩):=by
 have hJ:∀ i,¬ (h0 i≠none):=fun i h=>h rfl;refine qpu qhN Tryz.func182 rfl Tryz.ntmps182 (by kernel_rfl) ?_ ?_ ?_ ?_
 ·intro i b hb; cases hb
 ·exact qe2
 ·exact IdL.of fun x hx=>by
   simp at hx
   rcases hx with rfl | rfl <;> unfold IdP <;> trivial
 have hW:WfH h0:=⟨fun i b hb=>by cases hb⟩;refine wk1 hl ?_;refine q3Y (fun k=>k≤n) [0,11,12] [] Lk Lk (fun k:Nat=>[(13,iv k),(5,.ow 1001 none 0 n)]) (fun k=>[(1001,⟨43,none,(scS l o n k).map fun z:Nat=>uv z,false⟩)]) (fun _=>h0) (fun k=>n-k) 0 (Nat.zero_le _) ?_ ?_
 ·refine LeW [(1001,some 10)] rfl rfl ?_ ?_ (by simp [q8a,q4u,win]) ?_
  ·exact Ow
  ·exact hW
  ·rw [scS]
   try refine Zz ?_
   simp
 ·intro k hk
  by_cases hlt:k < n
  ·obtain ⟨x,hx⟩:∃ x,o[k]?=some x:=⟨_,List.getElem?_eq_getElem Oq⟩;obtain ⟨h1,h2⟩:=hb x (List.mem_of_getElem? hx);obtain ⟨x,rfl⟩:∃ y:Nat,x=y:=⟨x.toNat,by omega⟩;obtain ⟨u,hu⟩:∃ u,l[k]?=some u:=⟨_,List.getElem?_eq_getElem Oq⟩;have hs:scS l o n (k+1)=(scS l o n k).set x u:=by rw [scS,getD_some hx,Int.toNat_natCast,getD_some hu]
   have hsl:=q2a (x:=l) (o:=o) (n:=n) k;refine wk1 (x3 hx hu hsl) ?_;refine ⟨k+1,by omega,by omega,?_⟩;refine LeW [] rfl rfl ?_ ?_ (by simp [q8a,q4u,win]) ?_
   ·exact Ow
   ·exact hW
   ·try refine Zz ?_
    exact ⟨by omega,hs.symm⟩
  ·obtain rfl:k=n:=by omega
   refine wk1 ho ?_;refine (rtM (rs:=[.tmp 4]) rfl rfl Lq ?_ (.inl rfl));refine LeO hJ ?_ clU
   try simp -implicitDefEqProofs (disch:=omega) only [go_sem,Nat.reduceEqDiff,Nat.reduceAdd,↓reduceIte]
end
end Go.Proofs.YtfmojhhokfkdaaaGreatDoor
namespace Go.E
open Go Go.RowKit
def LeT {J:Nat→Prop} {h:Hp} {a n:Nat} {T:TypeId} {xs:List PV} {e:Value} (hJ:∀ i,¬ J i) (hb:h a=some ⟨T,none,xs,false⟩) (hc:ClL xs):Le J (fun _=>.tu [.ow a none 0 n,.vl e]) h (fun _=>.tu [.ow 5000 none 0 n,.vl e]) (q0S h0 5000 ⟨T,none,xs,false⟩):=by
 refine q4o (fun i=>if i=5000 then some a else none) (fun i b' hb'=>?_) (fun i j k b c hi hj ti tj=>?_) (fun _=>.tu rfl fun i x y hx hy=>?_) fun i hi=>(hJ i hi).elim
 ·by_cases hi:i=5000
  ·subst hi;rw [q0K] at hb'; cases hb';unfold LeB;exact ⟨_,hb,rfl,rfl,⟨rfl,rfl⟩,q17 rfl hc⟩
  ·rw [q0E hi] at hb'; cases hb'
 ·split at ti
  ·split at tj
   ·rename_i e1 e2; rw [e1,e2]
   ·cases tj
  ·cases ti
 ·rcases i with _ | _ | i
  ·cases hx; cases hy; exact .ow (if_pos rfl) q0K
  ·cases hx; cases hy; exact .cl trivial
  ·simp at hx
def LeTn {J:Nat→Prop} {h:Hp} {T:TypeId} {e:Value} (hJ:∀ i,¬ J i):Le J (fun _=>.tu [.vl (.slice none 0 0),.vl e]) h (fun _=>.tu [.ow 5000 none 0 0,.vl e]) (q0S h0 5000 ⟨T,none,[],false⟩):=by
 refine q4o (fun _=>none) (fun i b' hb'=>?_) (fun i j k b c hi hj ti tj=>by cases ti) (fun _=>.tu rfl fun i x y hx hy=>?_) fun i hi=>(hJ i hi).elim
 ·by_cases hi:i=5000
  ·subst hi;rw [q0K] at hb'; cases hb'
   rfl
  ·rw [q0E hi] at hb'; cases hb'
 ·rcases i with _ | _ | i
  ·cases hx; cases hy; exact .nilow rfl q0K rfl
  ·cases hx; cases hy; exact .cl trivial
  ·simp at hx
end Go.E
namespace Go.Proofs.YtfmojhhokfkdaaaGreatDoor
open Go Go.E Go.Sp
def qgy {L:List (List Nat)} {b ys:List Nat} {n k:Nat} (hL:SqM L n) (hk:k < n):loV L b ys k < 18446744073709551616∧upV L b ys n k < 18446744073709551616:=⟨qaW (hL.dg k hk),qaW (hL.dg k hk)⟩
def q9G {L:List (List Nat)} {b:List Nat} {n:Nat} (hL:SqM L n):∀ (m k:Nat) (ys zs:List Nat),k+m=n→q0x ys→loF L b m k ys=some zs→q0x zs
 | 0,_,_,_,_,hf,h=>by cases h; exact hf
 | m+1,k,ys,zs,hk,hf,h=>by
  rw [loF] at h
  split at h
  ·rename_i hv;exact q9G hL m (k+1) _ zs Oq (q4K hf (qgy hL Oq).1 hv) h
  ·cases h
noncomputable def dfE (F:List Int × List Int × List Int × List Nat) (l:List Nat):List Nat × Int :=
 if q76 (q5G F) F.1.length l≠0 then ([],q76 (q5G F) F.1.length l) else
  match loF (q3P ⟨F.1,F.2.1,F.2.2.1,F.2.2.2⟩ F.1.length F.1.length) (gaS l F.1 F.1.length) F.1.length 0 (List.replicate F.1.length 0) with
  | none=>([],233)
  | some y=>match upF (trS (q3P ⟨F.1,F.2.1,F.2.2.1,F.2.2.2⟩ F.1.length F.1.length) F.1.length F.1.length) y F.1.length F.1.length (List.replicate F.1.length 0) with
   | none=>([],233)
   | some z=>(scS z F.1 F.1.length F.1.length,0)
def qg3 {n:Nat} {l:List Nat} (h1:l.length=n) (h2:∀ x ∈ l,q0N x):q76 0 n l=0:=by
 unfold q76;rw [if_neg (by omega),if_neg (by omega),if_neg (not_not_intro h2)]
section
variable {pm cp ri:List Int} {vs l:List Nat}
def qnX:IdL win [q3x (pm,cp,ri,vs),pF l]:=IdL.of fun x hx=>by
 simp at hx
 rcases hx with rfl | rfl
 ·unfold q3x IdP IdL IdL IdL IdL IdL;unfold IdP;exact ⟨trivial,trivial,trivial,trivial,trivial⟩
 ·unfold IdP; trivial
def qbQ (hp:pm.length≤1000000) (hc:cp.length≤1000000) (hr:ri.length≤1000000) (hv:vs.length≤1000000) (hu:∀ x ∈ vs,x < 18446744073709551616) (hul:∀ x ∈ l,x < 18446744073709551616) (hl:l.length≤1000000) :
  qlG 106 [q3x (pm,cp,ri,vs),pF l] h0 (.tu [.ow 5000 none 0 (dfE (pm,cp,ri,vs) l).1.length,iv (dfE (pm,cp,ri,vs) l).2]) (q0S h0 5000 ⟨43,none,(dfE (pm,cp,ri,vs) l).1.map fun z:Nat=>uv z,false⟩):=by
 have hJ:∀ i,¬ (h0 i≠none):=fun i h=>h rfl;have cR:=qbP hp hc hr hv hu hul hl;refine qpu qhV Tryz.func106 rfl Tryz.ntmps106 (by kernel_rfl) ?_ ?_ ?_ ?_
 ·intro i b hb; cases hb
 ·exact qe2
 ·exact qnX
 unfold dfE;dsimp only
 by_cases hz0:q76 (q5G (pm,cp,ri,vs)) pm.length l=0
 case neg =>
  rw [if_pos hz0];generalize q76 (q5G (pm,cp,ri,vs)) pm.length l=e at *;have q:(e != 0)=true:=by simpa using hz0
  unfold q3x at *;dsimp only at *;refine wk1 q ?_;refine (rtM (rs:=[.tmp 4,.tmp 5]) rfl rfl Lq ?_ (.inl rfl));exact LeTn hJ
 rw [if_neg (not_not_intro hz0)];rw [hz0] at cR;obtain ⟨h1,h2,h3⟩:=qm7 hz0;have ho:=q9X h1 hr hu;have hn:=ho.n;dsimp only at hn;have hsq:=qcr ho;have hfl:q0x l:=fun x hx=>⟨hul x hx,h3 x hx⟩;have hpb:∀ x ∈ pm,0≤x∧x < pm.length:=fun x hx=>ho.perm.1 x hx;have cG:=q9v (l:=l) (o:=pm) (n:=pm.length) h2 rfl hp hpb;have hgl:=qjO (l:=l) (o:=pm) (n:=pm.length);have hgf:=qjP (o:=pm) (n:=pm.length) hfl;generalize gaS l pm pm.length=g at *;have cA:=qpb (n:=l.length) Oq;have cW:=qoF (f:=(pm,cp,ri,vs)) (ps:=q0t l.length) (l:=g) ho hgf hgl (fun x hx=>by unfold q0t at hx; simp at hx; omega) (by rw [q1C]; omega);have e:=qoE (b:=g) ho hgl;rw [show q0t g.length=q0t l.length by rw [hgl,h2]] at e;dsimp only at e cW;rw [e] at cW;clear e;have hlf:∀ y,loF (q3P ⟨pm,cp,ri,vs⟩ pm.length pm.length) g pm.length 0 (List.replicate pm.length 0)=some y→y.length=pm.length∧q0x y:=fun y hy=>⟨by rw [qbx _ _ _ _ hy,List.length_replicate],q9G hsq _ _ _ y (Nat.zero_add _) q3O hy⟩;have hJn:∀ i,¬ (h0 i≠none):=hJ;generalize loF (q3P ⟨pm,cp,ri,vs⟩ pm.length pm.length) g pm.length 0 (List.replicate pm.length 0)=R1 at *;cases R1 with
 | none =>
  rw [show fwP none=.tu [pF [],iv 233] from rfl] at cW;dsimp only;unfold q3x at *;dsimp only at *;refine wk ?_;refine (rtM (rs:=[.tmp 4,.tmp 5]) rfl rfl Lq ?_ (.inl rfl));exact LeTn hJ
 | some y =>
  rw [show fwP (some y)=.tu [pF y,iv 0] from rfl] at cW;obtain ⟨hy1,hy2⟩:=hlf y rfl;have cB:=qpE (f:=(pm,cp,ri,vs)) ho hy2 hy1;dsimp only at cB ⊢;rw [hy1,qhX ho rfl _ _ (Nat.le_refl _)] at cB;dsimp only at cB;have hzl:∀ z,upF (trS (q3P ⟨pm,cp,ri,vs⟩ pm.length pm.length) pm.length pm.length) y pm.length pm.length (List.replicate pm.length 0)=some z→z.length=pm.length:=fun z hz=>by rw [qar _ _ _ hz,List.length_replicate]
  generalize upF (trS (q3P ⟨pm,cp,ri,vs⟩ pm.length pm.length) pm.length pm.length) y pm.length pm.length (List.replicate pm.length 0)=R2 at *;cases R2 with
  | none =>
   rw [show fwP none=.tu [pF [],iv 233] from rfl] at cB;dsimp only;unfold q3x at *;dsimp only at *;refine wk ?_;refine (rtM (rs:=[.tmp 4,.tmp 5]) rfl rfl Lq ?_ (.inl rfl));exact LeTn hJ
  | some z =>
   rw [show fwP (some z)=.tu [pF z,iv 0] from rfl] at cB;have cS:=q7p (l:=z) (o:=pm) (hzl z rfl) rfl hp hpb;have hsl:=q2a (x:=z) (o:=pm) (n:=pm.length) pm.length;dsimp only;rw [hsl];generalize scS z pm pm.length pm.length=x at *;unfold q3x at *;dsimp only at *;refine wk ?_;refine A_sj fun K hK=>?_;refine Zz ?_;refine jm cS ?_ (fun i hi=>(hi trivial).elim) ?_
   ·change Wn _ _;exact Ow
   try refine Zz ?_
   refine hK _ _ ?_; clear hK K;refine wk ?_;refine (rtM (rs:=[.tmp 4,.tmp 5]) rfl rfl Lq ?_ (.inl rfl));refine LeT hJ ?_ clU
   try simp -implicitDefEqProofs (disch:=omega) only [go_sem,Nat.reduceEqDiff,Nat.reduceAdd,↓reduceIte]
def qhG {f:FuncId} {al:List PV} {xs:List Nat} {e:Int} (h:qlG f al h0 (.tu [.ow 5000 none 0 xs.length,iv e]) (q0S h0 5000 ⟨43,none,xs.map fun z:Nat=>uv z,false⟩)):AR f al (.tu [pF xs,iv e]):=by
 refine qlE (ids:=[5000]) h (fun y hy=>?_) (fun i b hb y hy=>?_) ?_
 ·simp at hy
  rcases hy with rfl | rfl
  ·exact df_ow
  ·exact qog
 ·by_cases hi:i=5000
  ·subst hi;rw [q0K] at hb; cases hb;obtain ⟨z,_,rfl⟩:=List.mem_map.1 hy;exact qog
  ·rw [q0E hi] at hb; cases hb
 ·have h1:q25 (q0S h0 5000 ⟨43,none,xs.map fun z:Nat=>uv z,false⟩) (.ow 5000 none 0 xs.length)=some (pF xs,[5000]):=by
   unfold q25;dsimp only;rw [q0K,Option.bind_some,if_pos ⟨rfl,rfl,fun x hx=>clU x hx⟩,List.drop_zero,List.take_of_length_le (by rw [List.length_map]; exact Nat.le_refl _)]
  have h2:q25 (q0S h0 5000 ⟨43,none,xs.map fun z:Nat=>uv z,false⟩) (iv e)=some (iv e,[]):=by
   unfold q25;dsimp only;exact if_pos trivial
  unfold q2X q2X q2X clo;simp only [h1,h2]
  rfl
end
end Go.Proofs.YtfmojhhokfkdaaaGreatDoor
namespace Go.Sp
open Go Go.E Go.Proofs.YtfmojhhokfkdaaaGreatDoor
def q7x {f:Nat} (hf:q0N f) (h:f < 18446744073709551616):ofZ (q5B f) = -ofZ f∧q0N (q5B f)∧q5B f < 18446744073709551616:=by
 have key:q5B f / 4503599627370496 % 2048=f / 4503599627370496 % 2048∧q5B f % 4503599627370496=f % 4503599627370496∧q5B f < 18446744073709551616∧decide (9223372036854775808≤q5B f)=!decide (9223372036854775808≤f):=by
  unfold q5B
  split
  ·refine ⟨by omega,by omega,by omega,?_⟩;rw [decide_eq_true (by omega),decide_eq_false (by omega)]; rfl
  ·refine ⟨by omega,by omega,by omega,?_⟩;rw [decide_eq_false (by omega),decide_eq_true (by omega)]; rfl
 obtain ⟨h1,h2,h3,h4⟩:=key;have sg:∀ (b:Bool) (m:Nat),sgn (!b) m = -sgn b m:=fun b m=>by cases b <;> simp [sgn]
 refine ⟨?_,?_,h3⟩
 ·unfold ofZ ofF;rw [h1,h2,h4]
  split
  ·rfl
  ·split
   ·simp only [Option.getD_some,sg,Int.neg_mul]
   ·simp only [Option.getD_some,sg,Int.neg_mul]
 ·unfold q0N at hf ⊢;rw [h1]; exact hf
def qby {x y:List Nat} {t i:Nat}:∀ v ∈ lnF x t y i,v < 18446744073709551616:=fun v hv=>by
 obtain ⟨k,_,rfl⟩:=List.mem_map.1 hv;exact qf3
def qmG {f:Nat→Nat→Option Nat} {x:List Nat} {n i:Nat}:∀ v ∈ q2r f x n i,v < 18446744073709551616:=fun v hv=>by
 obtain ⟨k,_,rfl⟩:=List.mem_map.1 hv;exact qf3
def q8f {f:Nat→Nat→Option Nat} {x:List Nat} {n i:Nat}:(q2r f x n i).length=i:=by simp [q2r]
def q86 {L:List (List Nat)} {b:List Nat} {n:Nat} (hL:SqM L n):∀ (k:Nat) (ys zs:List Nat),k≤n→q0x ys→upF L b n k ys=some zs→q0x zs
 | 0,_,_,_,hf,h=>by cases h; exact hf
 | k+1,ys,zs,hk,hf,h=>by
  rw [upF] at h
  split at h
  ·rename_i hv;exact q86 hL k _ zs Oq (q4K hf (qgy hL Oq).2 hv) h
  ·cases h
def qbN {ix:List Int} {vl:List Nat} {n:Nat} (hv:q0x vl):∀ k,q0x (scS vl ix n k)
 | 0=>q3O
 | k+1=>by
  obtain ⟨h1,h2⟩:=q3K hv k;exact q4K (qbN hv k) h1 h2
def qcp {F:List Int × List Int × List Int × List Nat} {l:List Nat} (hr:F.2.2.1.length≤1000000) (hu:∀ x ∈ F.2.2.2,x < 18446744073709551616) (h:(dfE F l).2=0):(dfE F l).1.length=F.1.length∧q0x (dfE F l).1:=by
 unfold dfE at h ⊢
 split at h
 ·rename_i h1;exact (h1 h).elim
 ·rename_i h1;rw [if_neg h1];have hz:q76 (q5G F) F.1.length l=0:=by simpa using h1
  have hsq:=qcr (q9X (pm:=F.1) (cp:=F.2.1) (ri:=F.2.2.1) (vs:=F.2.2.2) (qm7 hz).1 hr hu)
  split at h
  ·cases h
  ·rename_i y hy
   split at h
   ·cases h
   ·rename_i z hzz;simp only [hy,hzz];exact ⟨q2a _,qbN (q86 (qln hsq) _ _ z (Nat.le_refl _) q3O hzz) _⟩
abbrev GSt:=Int × List Nat × List Nat × List Nat × Int
def gEr (e:Int):GSt:=(e,[],[],[],0)
section
open Classical
noncomputable def gS5 (n:Nat) (z:List Nat) (be:Nat) (p x r:List Nat) (tau:Int):GSt:=if ∀ v ∈ lnF z be p n,q0N v then (0,x,r,lnF z be p n,tau) else gEr 233
noncomputable def gS4 (n:Nat) (F:List Int × List Int × List Int × List Nat) (p x r:List Nat) (rho:Int):GSt :=
 if (dfE F r).2≠0 then gEr (dfE F r).2 else if q0N (fQ 0 (q1j r (dfE F r).1) rho) then gS5 n (dfE F r).1 (fQ 0 (q1j r (dfE F r).1) rho) p x r (q1j r (dfE F r).1) else gEr 233
noncomputable def gS3 (n:Nat) (F:List Int × List Int × List Int × List Nat) (x r p q:List Nat) (rho:Int) (al:Nat):GSt :=
 if ∀ v ∈ lnF x al p n,q0N v then (if ∀ v ∈ lnF r (q5B al) q n,q0N v then gS4 n F p (lnF x al p n) (lnF r (q5B al) q n) rho else gEr 233) else gEr 233
noncomputable def gS2 (n:Nat) (F:List Int × List Int × List Int × List Nat) (x r p q:List Nat) (rho:Int):GSt :=
 if q1j p q≤0 then gEr 360 else if q0N (fQ 0 rho (q1j p q)) then gS3 n F x r p q rho (fQ 0 rho (q1j p q)) else gEr 233
noncomputable def gS (n:Nat) (f:Nat→Nat→Option Nat) (F:List Int × List Int × List Int × List Nat) (x r p:List Nat) (rho:Int):GSt :=
 if rho≤0 then gEr 360 else if ∀ v ∈ q2r f p n n,q0N v then gS2 n F x r p (q2r f p n n) rho else gEr 233
noncomputable def grL (n:Nat) (f:Nat→Nat→Option Nat) (F:List Int × List Int × List Int × List Nat):Nat→List Nat→List Nat→List Nat→Int→List Nat→List Nat × List Nat × Int
 | 0,x,_,_,_,l=>(x,l,0)
 | k+1,x,r,p,rho,l=>if q2C r n=0 then (x,l,0) else if (gS n f F x r p rho).1≠0 then ([],[],(gS n f F x r p rho).1) else
  grL n f F k (gS n f F x r p rho).2.1 (gS n f F x r p rho).2.2.1 (gS n f F x r p rho).2.2.2.1 (gS n f F x r p rho).2.2.2.2 (l ++ [q2C (gS n f F x r p rho).2.2.1 n])
noncomputable def grR (R C:Nat) (F:List Int × List Int × List Int × List Nat) (b:List Nat) (steps:Int):Int :=
 if R≠C then 5 else if q5G F≠0 then q5G F else if F.1.length≠R then 5 else if b.length≠R then 2 else if ¬ ∀ v ∈ b,q0N v then 4 else if steps < 0∨64 < steps then 350 else 0
noncomputable def grS (R C:Nat) (f:Nat→Nat→Option Nat) (F:List Int × List Int × List Int × List Nat) (b:List Nat) (steps:Int):List Nat × List Nat × Int :=
 if grR R C F b steps≠0 then ([],[],grR R C F b steps) else if (dfE F b).2≠0 then ([],[],(dfE F b).2) else
  grL R f F steps.toNat (List.replicate R 0) b (dfE F b).1 (q1j b (dfE F b).1) [q2C b R]
end
section
variable {n:Nat} {f:Nat→Nat→Option Nat} {F:List Int × List Int × List Int × List Nat} {x r p:List Nat} {rho:Int}
def gS_ok (hn:n≤1000) (hF:F.1.length=n) (hr:F.2.2.1.length≤1000000) (hu:∀ x ∈ F.2.2.2,x < 18446744073709551616) (h:(gS n f F x r p rho).1=0) :
  (q0x (gS n f F x r p rho).2.1∧(gS n f F x r p rho).2.1.length=n)∧(q0x (gS n f F x r p rho).2.2.1∧(gS n f F x r p rho).2.2.1.length=n)∧(q0x (gS n f F x r p rho).2.2.2.1∧(gS n f F x r p rho).2.2.2.1.length=n)∧q07 (gS n f F x r p rho).2.2.2.2:=by
 unfold gS at h ⊢
 split at h
 ·simp [gEr] at h
 rename_i h1;rw [if_neg h1]
 split at h
 rotate_left
 ·simp [gEr] at h
 rename_i h2;rw [if_pos h2];unfold gS2 at h ⊢
 split at h
 ·simp [gEr] at h
 rename_i h3;rw [if_neg h3]
 split at h
 rotate_left
 ·simp [gEr] at h
 rename_i h4;rw [if_pos h4];unfold gS3 at h ⊢
 split at h
 rotate_left
 ·simp [gEr] at h
 rename_i h5;rw [if_pos h5]
 split at h
 rotate_left
 ·simp [gEr] at h
 rename_i h6;rw [if_pos h6];have a1:=q38 (x:=x) (t:=fQ 0 rho (q1j p (q2r f p n n))) (y:=p) (i:=n);have a2:=q38 (x:=r) (t:=q5B (fQ 0 rho (q1j p (q2r f p n n)))) (y:=q2r f p n n) (i:=n);have a3:q0x (lnF x (fQ 0 rho (q1j p (q2r f p n n))) p n):=fun v hv=>⟨qby v hv,h5 v hv⟩;have a4:q0x (lnF r (q5B (fQ 0 rho (q1j p (q2r f p n n)))) (q2r f p n n) n):=fun v hv=>⟨qby v hv,h6 v hv⟩;generalize lnF x (fQ 0 rho (q1j p (q2r f p n n))) p n=x1 at *;generalize lnF r (q5B (fQ 0 rho (q1j p (q2r f p n n)))) (q2r f p n n) n=r1 at *;unfold gS4 at h ⊢
 split at h
 ·rename_i h7;exact (h7 h).elim
 rename_i h7;rw [if_neg h7]
 split at h
 rotate_left
 ·simp [gEr] at h
 rename_i h8;rw [if_pos h8];obtain ⟨b1,b2⟩:=qcp (l:=r1) hr hu (by simpa using h7);unfold gS5 at h ⊢
 split at h
 rotate_left
 ·simp [gEr] at h
 rename_i h9;rw [if_pos h9];exact ⟨⟨a3,a1⟩,⟨a4,a2⟩,⟨fun v hv=>⟨qby v hv,h9 v hv⟩,q38⟩,q6E a4 b2 Oq⟩
end
end Go.Sp
namespace Go.E
open Go Go.RowKit
def LeS {J:Nat→Prop} {h:Hp} {T:TypeId} {K:Kd} {l m lr:List PV} {x:PV} (hq:h 5000=some ⟨T,K,[.ag l],false⟩) (hm:LeV some h (q0S h0 5000 ⟨T,K,[.ag m],false⟩) (.ag l) (.ag m)) (hx:LeV some h (q0S h0 5000 ⟨T,K,[.ag m],false⟩) (mkR lr) x):Le J (fun _=>mkR lr) h (fun _=>x) (q0S h0 5000 ⟨T,K,[.ag m],false⟩):=by
 refine q4o some (fun i b hb=>?_) (fun i j k b c _ _ ti tj=>by cases ti; cases tj; rfl) (fun _=>hx) fun _ _ _ _=>rfl
 by_cases hi:i=5000
 ·subst hi;rw [q0K] at hb; cases hb;unfold LeB;exact ⟨_,hq,rfl,rfl,⟨rfl,rfl⟩,by rw [q82]; exact hm⟩
 ·rw [q0E hi] at hb; cases hb
end Go.E
namespace Go.Proofs.YtfmojhhokfkdaaaGreatDoor
open Go Go.E Go.Sp
section
variable {n:Nat} {f:Nat→Nat→Option Nat} {F:List Int × List Int × List Int × List Nat} {x r p:List Nat} {rho:Int}
def stL (n:Nat) (f:Nat→Nat→Option Nat) (F:List Int × List Int × List Int × List Nat) (x r p:List Nat) (rho:Int):List PV:=[iv n,iv n,pI (tM f n n).1,pI (tM f n n).2.1,pF (tM f n n).2.2,pI F.1,pI F.2.1,pI F.2.2.1,pF F.2.2.2,pF x,pF r,.un,pF p,bv false,bv (decide (od rho < 0)),.fm (fL (od rho)),iv (dyE rho)]
def qmU:List PV:=[.un,.un,.un,.un,.un,.un,.un,.un,.un,.un,.un,.un,.un,.un,.un,.un,.un]
abbrev stH (l:List PV):Hp:=q0S h0 5000 ⟨138,some 17,[.ag l],false⟩
def qnl {a0 a1 a2 a3 a4 a5 a6 a7 a8 a9 a10 a11 a12 a13 a14 a15 a16:PV}:ldU (some 17) (some 5) 0 (.ag [a0,a1,a2,a3,a4,a5,a6,a7,a8,a9,a10,a11,a12,a13,a14,a15,a16])=some (.ag [a0,a1,a2,a3,a4]):=by simp [ldU]
def qnm {a0 a1 a2 a3 a4 a5 a6 a7 a8 a9 a10 a11 a12 a13 a14 a15 a16:PV}:ldU (some 17) (some 4) 5 (.ag [a0,a1,a2,a3,a4,a5,a6,a7,a8,a9,a10,a11,a12,a13,a14,a15,a16])=some (.ag [a5,a6,a7,a8]):=by simp [ldU]
def qnk {a0 a1 a2 a3 a4 a5 a6 a7 a8 a9 a10 a11 a12 a13 a14 a15 a16:PV}:ldU (some 17) (some 4) 13 (.ag [a0,a1,a2,a3,a4,a5,a6,a7,a8,a9,a10,a11,a12,a13,a14,a15,a16])=some (.ag [a13,a14,a15,a16]):=by simp [ldU]
def qmW {a0 a1 a2 a3 a4 a5 a6 a7 a8 a9 a10 a11 a12 a13 a14 a15 a16 b0 b1 b2 b3:PV}:stU (some 17) (some 4) 13 (.ag [a0,a1,a2,a3,a4,a5,a6,a7,a8,a9,a10,a11,a12,a13,a14,a15,a16]) (.ag [b0,b1,b2,b3])=some (.ag [a0,a1,a2,a3,a4,a5,a6,a7,a8,a9,a10,a11,a12,b0,b1,b2,b3]):=by simp [stU]
attribute [go_sem] qnl qnm qnk qmW
def ag17:q04 Tryz.prog 138=some (some 17):=by kernel_rfl
attribute [go_sem] ag17
def qmV {l m:List PV} (hl:IdL win l):∀ i b,stH l i=some b→win i∧b.st=false∧IdL win b.xs∧∃ b',stH m i=some b'∧b'.k=b.k∧b.xs.length≤b'.xs.length:=fun i b hb=>by
 unfold stH at hb
 by_cases hi:i=5000
 ·subst hi;rw [q0K] at hb; cases hb;exact ⟨⟨by omega,by omega⟩,rfl,IdL.of fun x hx=>by simp at hx; subst hx; unfold IdP; exact hl,_,q0K,rfl,Nat.le_refl _⟩
 ·rw [q0E hi] at hb; cases hb
def qiK {m:List PV}:∀ i b,stH m i=some b→win i:=fun i b hb=>by
 unfold stH at hb
 by_cases hi:i=5000
 ·subst hi; exact ⟨by omega,by omega⟩
 ·rw [q0E hi] at hb; cases hb
def q7i {q:Nat→Prop}:IdL q (stL n f F x r p rho):=by
 unfold stL;simp [IdL,IdP]
def qgJ {J:Nat→Prop} {h:Hp} {T:TypeId} {K:Kd} {l:List PV} {v:Value} (hq:h 5000=some ⟨T,K,[.ag l],false⟩) (hl:l.length=17):Le J (fun _=>mkR [.vl v]) h (fun _=>.vl v) (q0S h0 5000 ⟨T,K,[.ag qmU],false⟩):=LeS hq (.ag hl fun i x y _ hy=>by
 have:y ∈ qmU:=List.mem_of_getElem? hy;simp [qmU] at this;subst this; exact .un) (.cl trivial)
noncomputable def stN (n:Nat) (f:Nat→Nat→Option Nat) (F:List Int × List Int × List Int × List Nat) (g:GSt):List PV:=if g.1=0 then stL n f F g.2.1 g.2.2.1 g.2.2.2.1 g.2.2.2.2 else qmU
def q5f {e:Int} (h:e≠0):stN n f F (gEr e)=qmU:=if_neg h
def qmQ (hm : TOk f n n) (hn : n ≤ 20) (hp : F.1.length ≤ 1000000) (hc : F.2.1.length ≤ 1000000) (hr : F.2.2.1.length ≤ 1000000) (hv : F.2.2.2.length ≤ 1000000) (hu : ∀ x ∈ F.2.2.2, x < 18446744073709551616) (hF : F.1.length = n)
    (hx : q0x x ∧ x.length = n) (hrr : q0x r ∧ r.length = n) (hpp : q0x p ∧ p.length = n) (hrho : q07 rho) :
    qlG 108 [.pt 5000 0 0] (stH (stL n f F x r p rho)) (iv (gS n f F x r p rho).1) (stH (stN n f F (gS n f F x r p rho))) := by
  obtain ⟨hx1, hx2⟩ := hx
  obtain ⟨hr1, hr2⟩ := hrr
  obtain ⟨hp1, hp2⟩ := hpp
  refine qpu qhU Tryz.func108 rfl Tryz.ntmps108 (by kernel_rfl) ?_ ?_ ?_ ?_
  · exact qmV q7i
  · exact qiK
  · exact IdL.of fun x hx => by
      simp at hx; subst hx; unfold IdP; exact ⟨by omega, by omega⟩
  have C1 := q1l hrho
  have C2 := qcH hm hp1 hp2 hn
  have hq2 := q8f (f := f) (x := p) (n := n) (i := n)
  have hqu := qmG (f := f) (x := p) (n := n) (i := n)
  unfold gS
  generalize q2r f p n n = q at *
  unfold stL pT qbh lnR at *
  by_cases a1 : rho ≤ 0
  · have q1 : rho.sign ≤ 0 := by rcases Int.lt_or_eq_of_le a1 with h | rfl; · rw [Int.sign_eq_neg_one_of_neg h]; decide
                                 · decide
    rw [if_pos a1]
    rw [q5f (by decide)]
    unfold gEr
    refine wk1 q1 ?_
    refine (rtM (rs := [.tmp 2]) rfl rfl Lq ?_ (.inl rfl))
    exact qgJ rfl rfl
  have q1 : ¬ rho.sign ≤ 0 := by rw [Int.sign_eq_one_of_pos (by omega)]; decide
  rw [if_neg a1]
  by_cases a2 : ∀ v ∈ q, q0N v
  rotate_left
  · rw [if_neg a2, q5f (by decide)]
    rw [decide_eq_false a2] at C2
    unfold gEr
    refine wk1 q1 ?_
    refine (rtM (rs := [.tmp 2]) rfl rfl Lq ?_ (.inl rfl))
    exact qgJ rfl rfl
  rw [if_pos a2]
  rw [decide_eq_true a2] at C2
  have hqf : q0x q := fun v hv => ⟨hqu v hv, a2 v hv⟩
  have C3 := q49 hp1 hqf Oq Oq
  have hsd := q6E hp1 hqf Oq
  unfold gS2
  generalize q1j p q = sg at *
  have C4 := q1l hsd
  by_cases a3 : sg ≤ 0
  · have q3 : sg.sign ≤ 0 := by rcases Int.lt_or_eq_of_le a3 with h | rfl; · rw [Int.sign_eq_neg_one_of_neg h]; decide
                                · decide
    rw [if_pos a3, q5f (by decide)]
    unfold gEr
    refine wk1 (x2 q1 q3) ?_
    refine (rtM (rs := [.tmp 2]) rfl rfl Lq ?_ (.inl rfl))
    exact qgJ rfl rfl
  have q3 : ¬ sg.sign ≤ 0 := by rw [Int.sign_eq_one_of_pos (by omega)]; decide
  rw [if_neg a3]
  have C5 := q8O hrho hsd Oq
  have hal := qaW (mode := 0) (a := rho) (b := sg) Oq
  generalize fQ 0 rho sg = al at *
  have C6 := q3b hal
  by_cases a4 : q0N al
  rotate_left
  · rw [if_neg a4, q5f (by decide)]
    rw [decide_eq_false a4] at C6
    unfold gEr
    refine wk1 (x2 q1 q3) ?_
    refine (rtM (rs := [.tmp 2]) rfl rfl Lq ?_ (.inl rfl))
    exact qgJ rfl rfl
  rw [if_pos a4]
  rw [decide_eq_true a4] at C6
  obtain ⟨n1, n2, n3⟩ := q7x a4 hal
  have C7 := q2K hal (q0Z a4)
  have C8 := qak (q22 a4)
  have C9 := q5x rfl hx1 hp1 a4 Oq Oq
  have C10 := q5x n1.symm hr1 hqf n2 Oq Oq
  rw [hx2] at C9
  rw [hr2] at C10
  unfold gS3
  have hxu := qby (x := x) (t := al) (y := p) (i := n)
  have hru := qby (x := r) (t := q5B al) (y := q) (i := n)
  have hxl := q38 (x := x) (t := al) (y := p) (i := n)
  have hrl := q38 (x := r) (t := q5B al) (y := q) (i := n)
  unfold lnR at C9 C10
  generalize lnF x al p n = x1 at *
  generalize lnF r (q5B al) q n = r1 at *
  by_cases a5 : ∀ v ∈ x1, q0N v
  rotate_left
  · rw [if_neg a5, q5f (by decide)]
    rw [decide_eq_false a5] at C9
    unfold gEr
    refine wk1 (x2 q1 q3) ?_
    refine (rtM (rs := [.tmp 2]) rfl rfl Lq ?_ (.inl rfl))
    exact qgJ rfl rfl
  rw [if_pos a5]
  rw [decide_eq_true a5] at C9
  by_cases a6 : ∀ v ∈ r1, q0N v
  rotate_left
  · rw [if_neg a6, q5f (by decide)]
    rw [decide_eq_false a6] at C10
    unfold gEr
    refine wk1 (x2 q1 q3) ?_
    refine (rtM (rs := [.tmp 2]) rfl rfl Lq ?_ (.inl rfl))
    exact qgJ rfl rfl
  rw [if_pos a6]
  rw [decide_eq_true a6] at C10
  have hr1f : q0x r1 := fun v hv => ⟨hru v hv, a6 v hv⟩
  have hul : ∀ v ∈ r1, v < 18446744073709551616 := hru
  have C11 := (qhG (qbQ hp hc hr hv hu hul Oq)).ac
  have hdf := @qcp F r1 hr hu
  unfold gS4
  rw [show (F.1, F.2.1, F.2.2.1, F.2.2.2) = F from rfl] at C11
  generalize dfE F r1 = D at *
  obtain ⟨z, e⟩ := D
  dsimp only at C11 hdf ⊢
  unfold q3x at C11
  by_cases a7 : e = 0
  rotate_left
  · rw [if_pos a7]
    have q7 : (e != 0) = true := by simpa using a7
    rw [q5f a7]
    unfold gEr
    refine wk1 (x3 q1 q3 q7) ?_
    refine (rtM (rs := [.tmp 2]) rfl rfl Lq ?_ (.inl rfl))
    exact qgJ rfl rfl
  subst a7
  rw [if_neg (not_not_intro rfl)]
  obtain ⟨hz1, hz2⟩ := hdf rfl
  have C12 := q49 hr1f hz2 Oq Oq
  have htd := q6E hr1f hz2 Oq
  generalize q1j r1 z = ta at *
  have C13 := q8O htd hrho Oq
  have hbe := qaW (mode := 0) (a := ta) (b := rho) Oq
  generalize fQ 0 ta rho = be at *
  have C14 := q3b hbe
  by_cases a8 : q0N be
  rotate_left
  · rw [if_neg a8, q5f (by decide)]
    rw [decide_eq_false a8] at C14
    unfold gEr
    refine wk1 (x2 q1 q3) ?_
    refine (rtM (rs := [.tmp 2]) rfl rfl Lq ?_ (.inl rfl))
    exact qgJ rfl rfl
  rw [if_pos a8]
  rw [decide_eq_true a8] at C14
  have C15 := q2K hbe (q0Z a8)
  have C16 := q5x rfl hz2 hp1 a8 Oq Oq
  rw [show z.length = n by omega] at C16
  unfold gS5
  unfold lnR at C16
  generalize lnF z be p n = p1 at *
  by_cases a9 : ∀ v ∈ p1, q0N v
  rotate_left
  · rw [if_neg a9, q5f (by decide)]
    rw [decide_eq_false a9] at C16
    unfold gEr
    refine wk1 (x2 q1 q3) ?_
    refine (rtM (rs := [.tmp 2]) rfl rfl Lq ?_ (.inl rfl))
    exact qgJ rfl rfl
  rw [if_pos a9]
  rw [decide_eq_true a9] at C16
  unfold stN
  rw [if_pos rfl]
  unfold stL
  refine wk1 (x2 q1 q3) ?_
  refine (rtM (rs := [.tmp 2]) rfl rfl Lq ?_ (.inl rfl))
  refine LeS rfl ?_ ?_
  · try simp -implicitDefEqProofs (disch := omega) only [go_sem, Nat.reduceEqDiff, Nat.reduceAdd, ↓reduceIte]
  · try simp -implicitDefEqProofs (disch := omega) only [go_sem, Nat.reduceEqDiff, Nat.reduceAdd, ↓reduceIte]
end
section
variable {R C:Nat} {f:Nat→Nat→Option Nat} {F:List Int × List Int × List Int × List Nat} {b:List Nat} {steps:Int}
def qcE (hm:TOk f R C) (hp:F.1.length≤1000000) (hc:F.2.1.length≤1000000) (hr:F.2.2.1.length≤1000000) (hv:F.2.2.2.length≤1000000) (hu:∀ x ∈ F.2.2.2,x < 18446744073709551616) (hb:∀ v ∈ b,v < 18446744073709551616) (hbl:b.length≤1000000):ACt 104 [pT R C f,q3x F,pF b,iv steps] (iv (grR R C F b steps)):=by
 have C1:=qeD hm;have C2:=q96 hp hc hr hv hu;have C3:=q3a hb hbl;rw [show (F.1,F.2.1,F.2.2.1,F.2.2.2)=F from rfl] at C2;unfold grR;unfold pT qbh q3x at *;generalize q5G F=e at *
 by_cases h1:R=C
 rotate_left
 ·rw [if_pos h1];refine ac0 Tryz.func104 Tryz.ntmps104 [.tmp 8] ?_;exact wk trivial
 subst h1;rw [if_neg (not_not_intro rfl)]
 by_cases h2:e=0
 rotate_left
 ·rw [if_pos h2];have q2:(e != 0)=true:=by simpa using h2
  refine ac0 Tryz.func104 Tryz.ntmps104 [.tmp 8] ?_;exact wk1 q2 trivial
 subst h2;rw [if_neg (not_not_intro rfl)]
 by_cases h3:F.1.length=R
 rotate_left
 ·rw [if_pos h3];have q3:((F.1.length:Int) != (R:Int))=true:=by simp; omega
  refine ac0 Tryz.func104 Tryz.ntmps104 [.tmp 8] ?_;exact wk1 q3 trivial
 rw [if_neg (not_not_intro h3)];have q3:((F.1.length:Int) != (R:Int))=false:=by simp; omega
 by_cases h4:b.length=R
 rotate_left
 ·rw [if_pos h4];have q4:((b.length:Int) != (R:Int))=true:=by simp; omega
  refine ac0 Tryz.func104 Tryz.ntmps104 [.tmp 8] ?_;exact wk1 (x2 q3 q4) trivial
 rw [if_neg (not_not_intro h4)];have q4:((b.length:Int) != (R:Int))=false:=by simp; omega
 by_cases h5:∀ v ∈ b,q0N v
 rotate_left
 ·rw [if_pos h5];rw [decide_eq_false h5] at C3;refine ac0 Tryz.func104 Tryz.ntmps104 [.tmp 8] ?_;exact wk1 (x2 q3 q4) trivial
 rw [if_neg (not_not_intro h5)];rw [decide_eq_true h5] at C3
 by_cases h6:steps < 0
 ·rw [if_pos (.inl h6)];refine ac0 Tryz.func104 Tryz.ntmps104 [.tmp 8] ?_;exact wk1 (x3 q3 q4 h6) trivial
 by_cases h7:64 < steps
 ·rw [if_pos (.inr h7)];refine ac0 Tryz.func104 Tryz.ntmps104 [.tmp 8] ?_;exact wk1 (x4 q3 q4 h6 h7) trivial
 rw [if_neg (by omega)];refine ac0 Tryz.func104 Tryz.ntmps104 [.tmp 8] ?_;exact wk1 (x4 q3 q4 h6 h7) trivial
end
end Go.Proofs.YtfmojhhokfkdaaaGreatDoor
namespace Go.E
open Go Go.RowKit
def flS_5 {off:Nat} {a b c d e:PV} {cs:List PV}:flS (some (off,5)) (.ag [a,b,c,d,e]) cs=q7o cs off [a,b,c,d,e]:=by
 rw [q4Y (by simp)];simp [flS]
attribute [go_sem] flS_5
def LeN {J:Nat→Prop} {s:Nat→PV} {h:Hp} {o:Nat} {T:TypeId} {K:Kd} {l m:List PV} (hJ:∀ i,¬ J i) (ho:h o=some ⟨T,K,[.ag l],false⟩) {xs kv:List (Nat × PV)} {kb:List (Nat × Option Bk)} (hn:nmW o o (kb.map (·.1)))
  (hm:LeV (tnU 5000 o) h (q1Y (q0S h0 5000 ⟨T,K,[.ag m],false⟩) (hpM [] kb)) (.ag l) (.ag m))
  (hh:q6S (tnU 5000 o) h (q1Y (q0S h0 5000 ⟨T,K,[.ag m],false⟩) (hpM [] kb)) s xs∧q6S (tnU 5000 o) h (q1Y (q0S h0 5000 ⟨T,K,[.ag m],false⟩) (hpM [] kb)) s kv∧qa8 (tnU 5000 o) h (q1Y (q0S h0 5000 ⟨T,K,[.ag m],false⟩) (hpM [] kb)) kb):Le J s h (stM xs kv) (q1Y (q0S h0 5000 ⟨T,K,[.ag m],false⟩) (hpM [] kb)):=by
 obtain ⟨h1,h2,h4⟩:=hh;have w5:win 5000:=⟨by omega,by omega⟩;have key:∀ i b,q1Y (q0S h0 5000 ⟨T,K,[.ag m],false⟩) (hpM [] kb) i=some b→i=5000∨(i < 5000∧i≠o∧LeB (tnU 5000 o) h (q1Y (q0S h0 5000 ⟨T,K,[.ag m],false⟩) (hpM [] kb)) i b):=fun i b hb=>by
  by_cases hi:win i
  ·rw [q0q hi] at hb
   by_cases e:i=5000
   ·exact .inl e
   ·rw [q0E e] at hb; cases hb
  ·rw [q1M hi] at hb;have q:=q4q h4 i b hb;have:=q5p hn i q.2;exact .inr ⟨this.1,this.2.1,q.1⟩
 refine q4o (tnU 5000 o) (fun i b hb=>?_) (fun i j k' b c hi hj ti tj=>?_) (fun t=>q4p h2 h1 t) fun i hi=>(hJ i hi).elim
 ·rcases key i b hb with rfl | ⟨_,_,q⟩
  ·rw [q0q w5,q0K] at hb; cases hb;unfold LeB;rw [show tnU 5000 o 5000=some o from if_pos rfl];exact ⟨_,ho,rfl,rfl,⟨rfl,rfl⟩,by rw [q82]; exact hm⟩
  ·exact q
 ·rcases key i b hi with rfl | ⟨a1,a2,_⟩ <;> rcases key j c hj with rfl | ⟨b1,b2,_⟩
  ·rfl
  ·rw [show tnU 5000 o 5000=some o from if_pos rfl] at ti;unfold tnU at tj;rw [if_neg (by omega)] at tj; cases ti; cases tj; exact (b2 rfl).elim
  ·rw [show tnU 5000 o 5000=some o from if_pos rfl] at tj;unfold tnU at ti;rw [if_neg (by omega)] at ti; cases ti; cases tj; exact (a2 rfl).elim
  ·unfold tnU at ti tj;rw [if_neg (by omega)] at ti tj; cases ti; cases tj; rfl
end Go.E
namespace Go.Proofs.YtfmojhhokfkdaaaGreatDoor
open Go Go.E Go.Sp
structure GI where
 k:Nat
 x:List Nat
 r:List Nat
 p:List Nat
 rho:Int
 l:List Nat
def qmR {l:List PV} (hl:∀ q,IdL q l):WfH (stH l):=⟨fun i b hb=>by
 unfold stH at hb
 by_cases hi:i=5000
 ·subst hi;rw [q0K] at hb; cases hb;exact ⟨rfl,IdL.of fun x hx=>by simp at hx; subst hx; unfold IdP; exact hl _⟩
 ·rw [q0E hi] at hb; cases hb⟩
abbrev grP (q:List Nat × List Nat × Int):PV:=.tu [pF q.1,pF q.2.1,iv q.2.2]
section
variable {R C:Nat} {f:Nat→Nat→Option Nat} {F:List Int × List Int × List Int × List Nat} {b:List Nat} {steps:Int}
def q9N (hm:TOk f R C) (hR:R≤20) (hp:F.1.length≤1000000) (hc:F.2.1.length≤1000000) (hr:F.2.2.1.length≤1000000) (hv:F.2.2.2.length≤1000000) (hu:∀ x ∈ F.2.2.2,x < 18446744073709551616) (hb:∀ v ∈ b,v < 18446744073709551616) (hbl:b.length≤1000000):ACt 48 [pT R C f,q3x F,pF b,iv steps] (grP (grS R C f F b steps)):=by
 have C1:=qcE (steps:=steps) hm hp hc hr hv hu hb hbl;have C2:=(qhG (qbQ hp hc hr hv hu hb hbl)).ac;rw [show (F.1,F.2.1,F.2.2.1,F.2.2.2)=F from rfl] at C2;have hdf:=@qcp F b hr hu;unfold grP grS;obtain ⟨e,he⟩:∃ e,e=grR R C F b steps:=⟨_,rfl⟩;rw [← he] at C1 ⊢;have h64:e=0→R=C∧F.1.length=R∧b.length=R∧(∀ v ∈ b,q0N v)∧0≤steps∧steps≤64:=fun h=>by
  rw [h] at he;unfold grR at he
  repeat' (split at he <;> try (first | omega | (exfalso; omega)))
  rename_i a1 a2 a3 a4 a5 a6;exact ⟨by omega,by omega,by omega,by simpa using a5,by omega,by omega⟩
 clear he;have C3:=q7N (l:=b) hbl
 by_cases h1:e=0
 rotate_left
 ·rw [if_pos h1];have q1:(e != 0)=true:=by simpa using h1
  unfold pT qbh q3x at *;refine ac0 Tryz.func48 Tryz.ntmps48 [.tmp 8,.tmp 9,.tmp 10] ?_;exact wk1 q1 trivial
 subst h1;rw [if_neg (not_not_intro rfl)];obtain ⟨rfl,g1,g2,g3,g4,g5⟩:=h64 rfl;have hbf:q0x b:=fun v hv=>⟨hb v hv,g3 v hv⟩;generalize dfE F b=D at *;obtain ⟨z,e⟩:=D;dsimp only at C2 hdf ⊢;have stp:=fun (x r p:List Nat) (rho:Int)=>@qmQ R f F x r p rho hm hR hp hc hr hv hu g1;have sok:=fun (x r p:List Nat) (rho:Int)=>@gS_ok R f F x r p rho Oq g1 hr hu;unfold pT qbh q3x at *
 by_cases h2:e=0
 rotate_left
 ·rw [if_pos h2];have q2:(e != 0)=true:=by simpa using h2
  refine ac0 Tryz.func48 Tryz.ntmps48 [.tmp 8,.tmp 9,.tmp 10] ?_;exact wk1 q2 trivial
 subst h2;rw [if_neg (not_not_intro rfl)];obtain ⟨z1,z2⟩:=hdf rfl;have C4:=q7N (l:=z) Oq;have C5:=q49 hbf z2 Oq Oq;have hrd:=q6E hbf z2 Oq;have C6:=q9M hbf Oq;rw [g2] at C6;obtain ⟨N,rfl⟩:∃ N:Nat,steps=N:=⟨steps.toNat,by omega⟩;rw [Int.toNat_natCast];obtain ⟨Res,hRes⟩:∃ Res,Res=grL R f F N (List.replicate R 0) b z (q1j b z) [q2C b R]:=⟨_,rfl⟩;rw [← hRes];generalize q1j b z=rho at *;refine ac0 Tryz.func48 Tryz.ntmps48 [.tmp 8,.tmp 9,.tmp 10] ?_;refine wk ?_;refine q75 (LeN (o:=32) (xs:=[(3,iv N),(12,.pt 5000 0 0),(14,.ow 73 none 0 1),(74,iv N),(75,iv 0)]) (kv:=[]) (kb:=[(73,some ⟨43,none,[uv (q2C b R:Nat)],false⟩)]) (m:=stL R f F (List.replicate R 0) b z rho) (fun _ h=>h) rfl (by simp [nmW]) ?_ ?_) ?_
 ·unfold stL
  try refine Zz ?_
  refine qd3 (T:=43) (l:=(List.replicate R 0).map fun z:Nat=>uv z) ?_ clU (fun i hi=>?_) ?_
  ·try refine Zz ?_
   rw [List.map_replicate,g2]
   rfl
  ·unfold tnU at hi
   split at hi
   ·cases hi
   ·cases hi
    rfl
  ·rw [List.drop_zero]; exact List.take_of_length_le (by simp; omega)
 ·try simp -implicitDefEqProofs (disch:=omega) only [go_sem,Nat.reduceEqDiff,Nat.reduceAdd,↓reduceIte]
 refine q3Y (fun i:GI=>i.k≤N∧(q0x i.x∧i.x.length=R)∧(q0x i.r∧i.r.length=R)∧(q0x i.p∧i.p.length=R)∧q07 i.rho∧i.l.length=i.k+1∧i.l[i.k]?=some (q2C i.r R)∧grL R f F (N-i.k) i.x i.r i.p i.rho i.l=Res) [3,12,74] [] Lk Lk (fun i:GI=>[(75,iv i.k),(14,.ow 1001 none 0 (i.k+1))]) (fun i=>[(1001,⟨43,none,i.l.map fun z:Nat=>uv z,false⟩)]) (fun i=>stH (stL R f F i.x i.r i.p i.rho)) (fun i=>N-i.k) ⟨0,List.replicate R 0,b,z,rho,[q2C b R]⟩ ⟨Nat.zero_le _,⟨q3O,by simp⟩,⟨hbf,g2⟩,⟨z2,by dsimp only; omega⟩,hrd,rfl,rfl,hRes.symm⟩ ?_ ?_
 ·refine LeW [(1001,some 73)] rfl rfl ?_ ?_ (by simp [q8a,q4u,win]) ?_
  ·exact qpw
  ·exact qmR fun q=>q7i
  ·try refine Zz ?_
   rfl
 ·rintro ⟨k,x,r,p,rho,l⟩ ⟨i1,i2,i3,i4,i5,i6,i7,i8⟩;dsimp only at i1 i2 i3 i4 i5 i6 i7 i8 ⊢
  by_cases hlt:k < N
  rotate_left
  ·obtain rfl:k=N:=by omega
   rw [Nat.sub_self,grL] at i8;rw [← i8];have q:¬ (k:Int) < k:=by omega
   unfold stL stH;exact wk1 (x2 q i6) trivial
  have q:(k:Int) < N:=by omega
  rw [show N-k=N-(k+1)+1 by omega,grL] at i8;have hsz:=q7j i3.1 R Oq;have C7:=q6C (f:=q2C r R) Oq;have qk:(((q1Q (q2C r R):Nat):Int) == 0)=decide (q2C r R=0):=by
   rw [Bool.eq_iff_iff,beq_iff_eq,decide_eq_true_iff];have:=q6w (f:=q2C r R) Oq;unfold q4w at this;omega
  have w1:((k+1:Nat):Int)-1=k:=by omega
  unfold stL stH
  by_cases hz0:q2C r R=0
  ·rw [if_pos hz0] at i8;rw [← i8];rw [decide_eq_true hz0] at qk;exact wk1 (x5 q i6 i7 qk w1) trivial
  rw [if_neg hz0] at i8;rw [decide_eq_false hz0] at qk;have stp:=stp x r p rho i2 i3 i4 i5;have sok:=sok x r p rho;rw [show stH (stL R f F x r p rho)=q0S h0 5000 ⟨138,some 17,[.ag (stL R f F x r p rho)],false⟩ from rfl] at stp;unfold stL at stp;generalize gS R f F x r p rho=g at *;obtain ⟨e,x',r',p',rho'⟩:=g;dsimp only at stp sok i8;refine wk1 (x5 q i6 i7 qk w1) ?_;refine A_sj fun K hK=>?_;refine Zz ?_;refine jmF stp ?_ ?_
  ·exact Ow
  try refine Zz ?_
  refine hK _ _ ?_; clear hK K
  by_cases h2:e=0
  rotate_left
  ·rw [if_pos h2] at i8;rw [← i8];have q2:(e != 0)=true:=by simpa using h2
   exact wk1 q2 trivial
  subst h2;rw [if_neg (not_not_intro rfl)] at i8;obtain ⟨j2,j3,j4,j5⟩:=sok rfl;have C8:=q9M j3.1 Oq;rw [j3.2] at C8;rw [show stN R f F (0,x',r',p',rho')=stL R f F x' r' p' rho' from if_pos rfl];unfold stL;refine wk ?_;refine ⟨⟨k+1,x',r',p',rho',l ++ [q2C r' R]⟩,⟨by dsimp only; omega,j2,j3,j4,j5,by simp [i6],?_,i8⟩,by dsimp only; omega,?_⟩
  ·dsimp only;rw [List.getElem?_append_right (by omega),i6,Nat.sub_self]; rfl
  refine LeW [(1001,some 97)] rfl rfl ?_ ?_ (by simp [q8a,q4u,win]) ?_
  ·exact Ow
  ·exact qmR fun q=>q7i
  ·try refine Zz ?_
   exact ⟨by omega,i6⟩
end
section
variable {n k:Nat} {f:Nat→Nat→Option Nat} {F:List Int × List Int × List Int × List Nat} {x r p x' r' p' l:List Nat} {rho rho' e:Int}
def qoA (h:q2C r n=0):grL n f F (k+1) x r p rho l=(x,l,0):=by rw [grL,if_pos h]
def qoB (h:q2C r n≠0) (hg:gS n f F x r p rho=(0,x',r',p',rho')):grL n f F (k+1) x r p rho l=grL n f F k x' r' p' rho' (l ++ [q2C r' n]):=by
 rw [grL,if_neg h,hg];exact if_neg (not_not_intro rfl)
end
section
variable {R C:Nat} {f:Nat→Nat→Option Nat} {F:List Int × List Int × List Int × List Nat} {b:List Nat} {steps:Int}
end
def qhJ {h:Hp}:clo h .un=some (.un,[]):=by
 unfold clo q25;exact if_pos trivial
section
variable {f:Nat→Nat→Option Nat} {n:Nat}
end
def q3o {T id n:Nat} {h h':Hp} {l:List PV} (h1:h id=some ⟨T,none,l,false⟩) (hc:ClL l) (h2:h' id=none) (hn:l.length=n):LeV (q4u []) h h' (.ow id none 0 n) (.sl none l):=qd3 (T:=T) (l:=l) h1 hc (fun i hi=>by
 have hi:some i=some id:=hi;cases hi;exact h2) (by rw [List.drop_zero]; exact List.take_of_length_le (by omega))
def q5z:flz 0=0:=by unfold flz; rw [Int.zero_mul]; rfl
def qe8 {u x:Int} (hu:u.natAbs≤9) (hx:x.natAbs≤9):q0g (flz u) (flz x)=u*x*(2:Int) ^ 65536:=by
 unfold q0g;rw [q0W (q4c Oq),q0W (q4c Oq),qea rfl]
 ·rfl
 ·have:(u*x).natAbs≤81:=by rw [Int.natAbs_mul]; exact Nat.mul_le_mul hu hx
  have h:=q0O (n:=(u*x).natAbs) (k:=7) (Nat.lt_of_le_of_lt this Oq);omega
def q2I {u x:Int} {K:Nat} (hK:K=65536) (hu:u.natAbs≤9) (hx:x.natAbs≤9):q0g (flz u) (flz x)=u*x*(2:Int) ^ K:=by rw [hK]; exact qe8 hu hx
def q4D (V:Int):q1A [V]=V:=by have:=q0i [] V; rw [List.nil_append,q8g] at this; omega
section
variable {f:Fac} {z:Nat→Int}
end
end Go.Proofs.YtfmojhhokfkdaaaGreatDoor
namespace Go.Sp
open Go Go.E
def qmb {z:Int} {K:Nat}:decide (z*(2:Int) ^ K < 0)=decide (z < 0):=by
 have hp:=q0H K;rw [decide_eq_decide]
 constructor
 ·intro h
  rcases Int.lt_or_le z 0 with h1 | h1
  ·exact h1
  ·have:=Int.mul_nonneg h1 (Int.le_of_lt hp); omega
 ·intro h; exact Int.mul_neg_of_neg_of_pos h hp
def rF_K {z y:Int} {neg:Bool} (K:Nat) (hz:z≠0) (hy:y≠0):rF 0 neg (z*(2:Int) ^ K).natAbs (y*(2:Int) ^ K).natAbs=rF 0 neg z.natAbs y.natAbs:=by
 rw [q0J,q0J];exact q4G Oq Oq (q0I K)
def fQ_K {z y:Int} (K:Nat) (hz:z≠0) (hy:y≠0):fQ 0 (z*(2:Int) ^ K) (y*(2:Int) ^ K)=rF 0 (decide (z < 0) != decide (y < 0)) z.natAbs y.natAbs:=by
 have hp:=q0H K;unfold fQ;rw [if_neg (Int.mul_ne_zero hz (Int.ne_of_gt hp)),qmb,qmb,rF_K K hz hy]
def qjQ:flz 1=4607182418800017408:=by
 have h1:flz 1=fQ 0 (1*(2:Int) ^ 65536) (1*(2:Int) ^ 65536):=by
  have:=q6B (x:=1) (y:=1) Oq Oq;rw [Int.one_mul] at this;exact this.symm
 rw [h1,fQ_K 65536 Oq (by omega)]
 show rF 0 false 1 1=4607182418800017408
 kernel_rfl
end Go.Sp
namespace Go.Proofs.YtfmojhhokfkdaaaGreatDoor
open Go Go.E Go.Sp
end Go.Proofs.YtfmojhhokfkdaaaGreatDoor
namespace Go.Sp
open Go Go.E Go.Proofs.YtfmojhhokfkdaaaGreatDoor
def flz8:flz 8=4620693217682128896:=by
 have h1:flz 8=fQ 0 (8*(2:Int) ^ 65536) (1*(2:Int) ^ 65536):=by
  have:=q6B (x:=8) (y:=1) Oq Oq;rw [Int.mul_one] at this;exact this.symm
 rw [h1,fQ_K 65536 (by omega) (by omega)]
 show rF 0 false 8 1=4620693217682128896
 kernel_rfl
def q2H {z:Int} {K:Nat} (hK:K=65536) (h:z.natAbs≤9):ofZ (flz z)=z*(2:Int) ^ K:=by rw [hK]; exact q0W (q4c (by omega))
def qca {z:Int} {K:Nat} (hK:K=65536):fR 0 (z*(2:Int) ^ K)=flz z:=by rw [hK]; rfl
def qcb {x y:Int} {K:Nat} (hK:K=65536) (hy:y≠0) (hx:x.natAbs≤9):fQ 0 (x*y*(2:Int) ^ K) (y*(2:Int) ^ K)=flz x:=by rw [hK]; exact q6B hy (by omega)
def q8L:q0N 0:=by unfold q0N; simp
def q5n:ofZ 0=0:=by have:=q2H (z:=0) rfl (by omega); rw [q5z,Int.zero_mul] at this; exact this
def q92 {a b:Nat}:q1j [a] [b]=q0g a b:=by
 unfold q1j prL;simp only [List.length_cons,List.length_nil,Nat.zero_add,List.range_succ,List.range_zero,List.nil_append,List.map_cons,List.map_nil,List.getD_cons_zero];exact q4D _
def qiq {a b t:Nat}:lnF [a] t [b] 1=[fR 0 (ofZ a+q0g t b)]:=rfl
def qhL {c:Nat} (hc:q0N c) (h0:0 < ofZ c):q5G ([0],[0,1],[0],[c])=0:=by
 have p1:q73 [0] ([0]:List Int).length:=⟨rfl,fun x hx=>by simp at hx; subst hx; exact ⟨by omega,by simp⟩,by simp⟩;have p2:FStr ([0]:List Int).length [0,1] [0]:=⟨rfl,rfl,fun j hj=>by
  obtain rfl:j=0:=by simp at hj; omega
  refine ⟨0,1,rfl,rfl,by omega,by simp,⟨rfl,fun z hz=>?_,fun i x y hx hy=>?_⟩⟩
  ·cases hz; simp
  ·cases hy⟩
 have p3:FDg ([0]:List Int).length [0,1] [c]:=fun j hj a x ha hx=>by
  obtain rfl:j=0:=by simp at hj; omega
  simp at ha;obtain rfl:a=0:=by omega
  cases hx; exact h0
 unfold q5G;dsimp only;rw [if_neg (by simp),if_neg (not_not_intro p1),if_neg (by simp),if_neg (not_not_intro p2),if_pos ⟨fun x hx=>by simp at hx; subst hx; exact hc,p3⟩]
def qoh {c b y z:Nat} (hc:q0N c) (h0:0 < ofZ c) (hb:q0N b) (hy:fQ 0 (ofZ b) (ofZ c)=y) (hz:fQ 0 (ofZ y) (ofZ c)=z) (h1:q0N y) (h2:q0N z):dfE ([0],[0,1],[0],[c]) [b]=([z],0):=by
 unfold dfE;have hs:q76 (q5G ([0],[0,1],[0],[c])) ([0]:List Int).length [b]=0:=by
  rw [qhL hc h0];exact qg3 rfl fun x hx=>by simp at hx; subst hx; exact hb
 dsimp only;rw [if_neg (not_not_intro hs)];have e1:gaS [b] [0] 1=[b]:=rfl;have e2:q3P ⟨[0],[0,1],[0],[c]⟩ 1 1=[[c]]:=rfl;have e3:trS [[c]] 1 1=[[c]]:=rfl;rw [show ([0]:List Int).length=1 from rfl,e1,e2,e3];have v1:loV [[c]] [b] (List.replicate 1 0) 0=y:=by
  unfold loV;rw [← hy]
  congr 1
  exact q4D _
 have e4:loF [[c]] [b] 1 0 (List.replicate 1 0)=some [y]:=by
  rw [loF,v1,if_pos h1]; rfl
 have v2:upV [[c]] [y] (List.replicate 1 0) 1 0=z:=by
  unfold upV;rw [← hz]
  congr 1
  exact q4D _
 have e5:upF [[c]] [y] 1 1 (List.replicate 1 0)=some [z]:=by
  rw [upF,v2,if_pos h2]; rfl
 simp only [e4,e5]
 rfl
section
variable {c1 c2 c4 c8 K:Nat}
def qpS (hK:K=65536) (h2:c2=flz 2) (h4:c4=flz 4) (h8:c8=flz 8):grS 1 1 (fun _ _=>some c4) ([0],[0,1],[0],[c2]) [c8] 3=([c2],[c8,0],0):=by
 have f2:q0N c2:=by rw [h2]; exact q18 (by omega)
 have f4:q0N c4:=by rw [h4]; exact q18 (by omega)
 have f8:q0N c8:=by rw [h8]; exact q18 (by omega)
 have z2:ofZ c2=2*(2:Int) ^ K:=by rw [h2]; exact q2H hK (by omega)
 have z4:ofZ c4=4*(2:Int) ^ K:=by rw [h4]; exact q2H hK (by omega)
 have z8:ofZ c8=8*(2:Int) ^ K:=by rw [h8]; exact q2H hK (by omega)
 have hp:=q0H K;have d2:0 < ofZ c2:=by rw [z2]; omega
 have n8:c8 < 9223372036854775808∧c8≠0:=by rw [h8,flz8]; omega
 have m82:q0g c8 c2=16*(2:Int) ^ K:=by rw [h8,h2]; exact q2I hK (by omega) (by omega)
 have m28:q0g c2 c8=16*(2:Int) ^ K:=by rw [h8,h2]; exact q2I hK (by omega) (by omega)
 have m42:q0g c4 c2=8*(2:Int) ^ K:=by rw [h4,h2]; exact q2I hK (by omega) (by omega)
 have D8:dfE ([0],[0,1],[0],[c2]) [c8]=([c2],0):=qoh f2 d2 f8 (y:=c4) (z:=c2) (by
  rw [z8,z2,h4];exact qcb (x:=4) (y:=2) hK Oq Oq) (by
  rw [z4,z2,h2];exact qcb (x:=2) (y:=2) hK Oq Oq) f4 f2
 have q0:∀ {b:Int},fQ 0 0 b=0:=fun {b}=>if_pos rfl;have D0:dfE ([0],[0,1],[0],[c2]) [0]=([0],0):=qoh f2 d2 q8L (y:=0) (z:=0) (by rw [q5n]; exact q0) (by rw [q5n]; exact q0) q8L q8L;obtain ⟨c1,h1⟩:∃ c,c=flz 1:=⟨_,rfl⟩;have f1:q0N c1:=by rw [h1]; exact q18 (by omega)
 have l1:c1 < 18446744073709551616:=by rw [h1]; exact q4d (by omega)
 have m12:q0g c1 c2=2*(2:Int) ^ K:=by rw [h1,h2]; exact q2I hK (by omega) (by omega)
 have mn:q0g (q5B c1) c8 = -8*(2:Int) ^ K:=by
  have e:ofZ (q5B c1)=ofZ (flz (-1)):=by
   rw [(q7x f1 l1).1,h1,q2H hK (by omega),q2H hK (by omega)]; omega
  have:q0g (q5B c1) c8=q0g (flz (-1)) c8:=by unfold q0g; rw [e]
  rw [this,h8];exact q2I hK Oq Oq
 have one:∀ {a:Nat},q0N a→∀ v ∈ [a],q0N v:=fun h v hv=>by simp at hv; subst hv; exact h
 have A:q2r (fun _ _=>some c4) [c2] 1 1=[c8]:=by
  have e:q2r (fun _ _=>some c4) [c2] 1 1=[fR 0 (q1j [c4] [c2])]:=rfl;rw [e,q92,m42,qca hK,h8]
 have X:lnF [0] c1 [c2] 1=[c2]:=by
  rw [qiq,q5n,m12,Int.zero_add,qca hK,h2]
 have Rr:lnF [c8] (q5B c1) [c8] 1=[0]:=by
  rw [qiq,z8,mn,show (8:Int)*(2:Int) ^ K + -8*(2:Int) ^ K=0 by omega]
  rfl
 have P:lnF [0] 0 [c2] 1=[0]:=by
  rw [qiq,q5n,q45]
  rfl
 have G:gS 1 (fun _ _=>some c4) ([0],[0,1],[0],[c2]) [0] [c8] [c2] (16*(2:Int) ^ K)=(0,[c2],[0],[0],0):=by
  unfold gS;rw [if_neg (by omega),A,if_pos (one f8)];unfold gS2;rw [q92,m28,if_neg (by omega)];have:fQ 0 (16*(2:Int) ^ K) (16*(2:Int) ^ K)=c1:=by rw [h1]; exact qcb (x:=1) (y:=16) hK (by omega) (by omega)
  rw [this,if_pos f1];unfold gS3;rw [X,Rr,if_pos (one f2),if_pos (one q8L)];unfold gS4;rw [D0];dsimp only;rw [if_neg (not_not_intro rfl),q92,q45,q0,if_pos q8L];unfold gS5;rw [P,if_pos (one q8L)]
 have s8:q2C [c8] 1=c8:=by
  have e:q2C [c8] 1=max 0 (q4w c8):=rfl;rw [e];unfold q4w;omega
 have s0:q2C [0] 1=0:=rfl;unfold grS;have R:grR 1 1 ([0],[0,1],[0],[c2]) [c8] 3=0:=by
  unfold grR;rw [if_neg (by omega),qhL f2 d2,if_neg (by omega),if_neg (by simp),if_neg (by simp),if_neg (not_not_intro (one f8)),if_neg (by omega)]
 rw [R,if_neg (not_not_intro rfl),D8];dsimp only;rw [if_neg (not_not_intro rfl),q92,m82,s8];rw [show (3:Int).toNat=2+1 from rfl,show List.replicate 1 0=[0] from rfl,qoB (by rw [s8]; exact n8.2) G,qoA s0,s0]
 rfl
end
def qaV {m:Int} {t K:Nat} (hK:K=65536) (hm:m.natAbs < 9007199254740992) (h1:K≤t+1000) (h2:t≤K+900):ofZ (fR 0 (m*(2:Int) ^ t))=m*(2:Int) ^ t∧fR 0 (m*(2:Int) ^ t) < 18446744073709551616∧q0N (fR 0 (m*(2:Int) ^ t)):=by
 have key:ofF (fR 0 (m*(2:Int) ^ t))=some (m*(2:Int) ^ t)∧fR 0 (m*(2:Int) ^ t) < 18446744073709551616:=by
  unfold fR;rw [← hK]
  by_cases h0:m=0
  ·subst h0;rw [Int.zero_mul,if_pos rfl];exact ⟨q8y,by omega⟩
  ·have hp:=q0H t;have hne:m*(2:Int) ^ t≠0:=Int.mul_ne_zero h0 (Int.ne_of_gt hp);have hsg:decide (m*(2:Int) ^ t < 0)=decide (m < 0):=by
    rw [decide_eq_decide]
    constructor
    ·intro h
     rcases Int.lt_or_le m 0 with h1 | h1
     ·exact h1
     ·have:=Int.mul_nonneg h1 (Int.le_of_lt hp); omega
    ·intro h; exact Int.mul_neg_of_neg_of_pos h hp
   rw [if_neg hne,hsg,q0J];have hb:bl m.natAbs≤53:=q0O hm;have:=q8t (mode:=0) (neg:=decide (m < 0)) (N:=m.natAbs*2 ^ t) (D:=2 ^ K) (M:=m.natAbs) (f:=(t:Int)-K) (q0I K) Oq hb Oq Oq (by
    rcases Nat.le_total K t with h | h
    ·obtain ⟨d,rfl⟩:∃ d,t=K+d:=⟨t-K,by omega⟩;rw [show (-(((K+d:Nat):Int)-K)).toNat=0 by omega,show (((K+d:Nat):Int)-K).toNat=d by omega,Nat.pow_zero,Nat.mul_one,Nat.pow_add,Nat.mul_comm (2 ^ K) m.natAbs,Nat.mul_assoc]
    ·obtain ⟨d,rfl⟩:∃ d,K=t+d:=⟨K-t,by omega⟩;rw [show (-((t:Int)-((t+d:Nat):Int))).toNat=d by omega,show ((t:Int)-((t+d:Nat):Int)).toNat=0 by omega,Nat.pow_zero,Nat.mul_one,Nat.pow_add,Nat.mul_comm _ m.natAbs,Nat.mul_assoc])
   rw [q0V,show ((t:Int)-K+65536).toNat=t by omega] at this;exact this
 refine ⟨q0W key.1,key.2,fun h=>?_⟩;have:=key.1;unfold ofF at this;rw [if_pos h] at this;cases this
def qmd {A B V:Int} {P:Int} (hP:0 < P) (h:A*P=V*B) (hV:V≠0) (hB:B≠0):A≠0∧(decide (A < 0) != decide (B < 0))=decide (V < 0):=by
 rcases Int.lt_or_gt_of_ne hV with h1 | h1 <;> rcases Int.lt_or_gt_of_ne hB with h2 | h2
 ·have h3:=Int.mul_pos_of_neg_of_neg h1 h2;have:0 < A:=by
   rcases Int.lt_or_le 0 A with q | q
   ·exact q
   ·have:=Int.mul_le_mul_of_nonneg_right q (Int.le_of_lt hP); rw [Int.zero_mul] at this; omega
  refine ⟨by omega,?_⟩;rw [decide_eq_false (by omega),decide_eq_true h2,decide_eq_true h1]; rfl
 ·have h3:=Int.mul_neg_of_neg_of_pos h1 h2;have:A < 0:=by
   rcases Int.lt_or_le A 0 with q | q
   ·exact q
   ·have:=Int.mul_nonneg q (Int.le_of_lt hP); omega
  refine ⟨by omega,?_⟩;rw [decide_eq_true this,decide_eq_false (by omega),decide_eq_true h1]; rfl
 ·have h3:=Int.mul_neg_of_pos_of_neg h1 h2;have:A < 0:=by
   rcases Int.lt_or_le A 0 with q | q
   ·exact q
   ·have:=Int.mul_nonneg q (Int.le_of_lt hP); omega
  refine ⟨by omega,?_⟩;rw [decide_eq_true this,decide_eq_true h2,decide_eq_false (by omega)]; rfl
 ·have h3:=Int.mul_pos h1 h2;have:0 < A:=by
   rcases Int.lt_or_le 0 A with q | q
   ·exact q
   ·have:=Int.mul_le_mul_of_nonneg_right q (Int.le_of_lt hP); rw [Int.zero_mul] at this; omega
  refine ⟨by omega,?_⟩;rw [decide_eq_false (by omega),decide_eq_false (by omega),decide_eq_false (by omega)]; rfl
def qj8 {A B V:Int} {K:Nat} (hK:K=65536) (hB:B≠0) (h:A*(2:Int) ^ K=V*B):fQ 0 A B=fR 0 V:=by
 have hp:=q0H K;unfold fQ fR;rw [← hK]
 by_cases hV:V=0
 ·subst hV;rw [Int.zero_mul] at h;have:A=0:=by
   rcases Int.mul_eq_zero.1 h with q | q
   ·exact q
   ·omega
  rw [if_pos this,if_pos rfl]
 ·obtain ⟨hA,hs⟩:=qmd hp h hV hB;rw [if_neg hA,if_neg hV,hs];refine q3E Oq Oq Oq (q0I _) ?_;have:=congrArg Int.natAbs h;rw [q0J,Int.natAbs_mul] at this;exact this
def qj7 {V:Int} (h:V≠0):fQ 0 V V=flz 1:=by
 obtain ⟨K,hK⟩:∃ K:Nat,K=65536:=⟨_,rfl⟩;rw [qj8 hK h (V:=1*(2:Int) ^ K) (by rw [Int.one_mul,Int.mul_comm]),qca hK]
end Go.Sp
namespace Go.Proofs.YtfmojhhokfkdaaaGreatDoor
open Go Go.E Go.Sp
def qbg:∀ (n:Nat) (l:List Int),l.Nodup→(∀ x ∈ l,0≤x∧x < n)→l.length≤n
 | 0,l,_,h=>by
  cases l with
  | nil=>exact Nat.le_refl _
  | cons x t=>have:=h x (by simp); omega
 | n+1,l,hd,h=>by
  by_cases hm:(n:Int) ∈ l
  ·have h1:=List.length_erase_of_mem hm;have h2:=qbg n (l.erase (n:Int)) (hd.erase _) fun x hx=>by
    have h3:=(List.Nodup.mem_erase_iff hd).1 hx;have h4:=h x h3.2;have:=h3.1;omega
   have h5:=List.length_pos_of_mem hm;omega
  ·have:=qbg n l hd fun x hx=>by
    have h4:=h x hx;have:x≠(n:Int):=fun e=>hm (e ▸ hx);omega
   omega
def pig:∀ (n:Nat) (l:List Int),l.Nodup→(∀ x ∈ l,0≤x∧x < n)→l.length=n→∀ i:Nat,i < n→(i:Int) ∈ l
 | 0,_,_,_,_,i,hi=>by omega
 | n+1,l,hd,h,hl,i,hi=>by
  by_cases hm:(n:Int) ∈ l
  ·by_cases hi2:i=n
   ·subst hi2; exact hm
   ·have h1:=List.length_erase_of_mem hm;have:=pig n (l.erase (n:Int)) (hd.erase _) (fun x hx=>by
     have h3:=(List.Nodup.mem_erase_iff hd).1 hx;have h4:=h x h3.2;have:=h3.1;omega) Oq i Oq
    exact List.mem_of_mem_erase this
  ·have:=qbg n l hd fun x hx=>by
    have h4:=h x hx;have:x≠(n:Int):=fun e=>hm (e ▸ hx);omega
   omega
def q3i {n:Nat} {v:Nat→Nat} {k:Nat} (h:k < n):((List.range n).map v).getD k 0=v k:=by simp [List.getD_eq_getElem?_getD,h]
def qb1 {n:Nat} {v:Nat→List Nat} {k:Nat} (h:k < n):((List.range n).map v).getD k []=v k:=by simp [List.getD_eq_getElem?_getD,h]
def rwG_n {n:Nat} {g:Nat→Nat}:rwG n g n=(List.range n).map g:=List.map_congr_left fun j hj=>if_pos (List.mem_range.1 hj)
def qbS {n m k:Nat} {g:Nat→Nat} (h:k < n):(rwG n g m).getD k 0=if k < m then g k else 0:=by unfold rwG; rw [q3i h]
def qbX {B:Int} {l x:List Nat}:∀ m,(∀ j,j < m→l.getD j 0=0)→q1A (qdb B l x m)=B
 | 0,_=>q4D B
 | m+1,h=>by rw [qdb,q0i,qbX m (fun j hj=>h j (by omega)),h m (by omega),q45]; omega
def qgp {L:List (List Nat)} {b:List Nat} {n:Nat} {v:Nat→Nat} (h:∀ ys k,k < n→loV L b ys k=v k∧q0N (v k)):∀ (m k:Nat),k+m=n→loF L b m k (rwG n v k)=some ((List.range n).map v)
 | 0,k,e=>by
  obtain rfl:k=n:=by omega
  rw [loF,rwG_n]
 | m+1,k,e=>by
  obtain ⟨h1,h2⟩:=h (rwG n v k) k Oq;rw [loF,h1,if_pos h2,qmn];exact qgp h m (k+1) Oq
def uwG (n:Nat) (v:Nat→Nat) (k:Nat):List Nat:=(List.range n).map fun j=>if k≤j then v j else 0
def uwG_n {n:Nat} {v:Nat→Nat}:uwG n v n=List.replicate n 0:=by
 rw [qiY (g:=v)];unfold uwG rwG;refine List.map_congr_left fun j hj=>?_;have:=List.mem_range.1 hj;rw [if_neg (by omega),if_neg (by omega)]
def uwG_0 {n:Nat} {v:Nat→Nat}:uwG n v 0=(List.range n).map v:=List.map_congr_left fun j _=>if_pos (Nat.zero_le _)
def uwG_s {n k:Nat} {v:Nat→Nat}:(uwG n v (k+1)).set k (v k)=uwG n v k:=by
 unfold uwG;rw [qg9];refine List.map_congr_left fun y _=>?_
 by_cases h:y=k
 ·subst h; rw [if_pos rfl,if_pos (Nat.le_refl _)]
 ·rw [if_neg h]
  by_cases h2:k≤y
  ·rw [if_pos h2,if_pos (by omega)]
  ·rw [if_neg h2,if_neg (by omega)]
def qgS {U:List (List Nat)} {b:List Nat} {n:Nat} {v:Nat→Nat} (h:∀ ys k,k < n→upV U b ys n k=v k∧q0N (v k)):∀ k,k≤n→upF U b n k (uwG n v k)=some ((List.range n).map v)
 | 0,_=>by rw [upF,uwG_0]
 | k+1,e=>by
  obtain ⟨h1,h2⟩:=h (uwG n v (k+1)) k Oq;rw [upF,h1,if_pos h2,uwG_s];exact qgS h k Oq
def q1P {n k:Nat} (h:k < n):(q0t n)[k]?=some (k:Int):=by unfold q0t; simp [h]
section
variable {n:Nat} {o:List Int} {vs:List Nat}
abbrev q5F (o:List Int) (n:Nat) (vs:List Nat):Fac:=⟨o,q0t (n+1),q0t n,vs⟩
def qhB {i j:Nat} (h:j < n):elF (q5F o n vs) i j=if j=i then vs.getD j 0 else 0:=by
 unfold elF;dsimp only;rw [getD_some (q1P (show j < n+1 by omega)),getD_some (q1P (show j+1 < n+1 by omega)),Int.toNat_natCast,Int.toNat_natCast,show j+1-j=0+1 by omega,q1w,q1w];dsimp only;rw [q1P h]
 by_cases e:j=i
 ·subst e; rw [if_pos rfl,if_pos rfl]
 ·rw [if_neg (fun q=>e (by have:=Option.some.inj q; omega)),if_neg e]
def qjm {k:Nat} (h:k < n):(q3P (q5F o n vs) n n).getD k []=rwG n (elF (q5F o n vs) k) (k+1):=by unfold q3P; rw [qb1 h]
def qcq {k j:Nat} (h:k < n) (hj:j < n):((q3P (q5F o n vs) n n).getD k []).getD j 0=if j=k then vs.getD j 0 else 0:=by
 rw [qjm h,qbS hj]
 by_cases e:j=k
 ·subst e; rw [if_pos (by omega),qhB hj]
 ·rw [if_neg e]
  split
  ·rw [qhB hj,if_neg e]
  ·rfl
def qlm {k j:Nat} (h:k < n) (hj:j < n):((trS (q3P (q5F o n vs) n n) n n).getD k []).getD j 0=if j=k then vs.getD k 0 else 0:=by
 unfold trS;rw [qb1 h,qbS hj,if_pos hj,qcq hj h]
 by_cases e:j=k
 ·subst e; rfl
 ·rw [if_neg e,if_neg fun q=>e q.symm]
def lo_dg {b ys:List Nat} {k:Nat} (h:k < n):loV (q3P (q5F o n vs) n n) b ys k=fQ 0 (ofZ (b.getD k 0)) (ofZ (vs.getD k 0)):=by
 unfold loV;rw [qcq h h,if_pos rfl,qbX k fun j hj=>?_];have:=qcq (o:=o) (vs:=vs) h (show j < n by omega);rw [if_neg (by omega)] at this;refine Eq.trans ?_ this;simp only [List.getD_eq_getElem?_getD,List.getElem?_take,if_pos hj]
def up_dg {b ys:List Nat} {k:Nat} (h:k < n):upV (trS (q3P (q5F o n vs) n n) n n) b ys n k=fQ 0 (ofZ (b.getD k 0)) (ofZ (vs.getD k 0)):=by
 unfold upV;rw [qlm h h,if_pos rfl,qbX _ fun j hj=>?_];have:=qlm (o:=o) (vs:=vs) h (show k+1+j < n by omega);rw [if_neg (by omega)] at this;refine Eq.trans ?_ this;simp only [List.getD_eq_getElem?_getD,List.getElem?_drop]
def qbO {x:List Nat} (hp:q73 o n):∀ m,m≤n→∀ p,p < m→(scS x o n m).getD (o.getD p 0).toNat 0=x.getD p 0
 | 0,_,p,hpm=>by omega
 | m+1,hm,p,hpm=>by
  obtain ⟨h1,h2,h3⟩:=hp;have hol:o.length=n:=by omega
  have g:∀ q,q < n→∃ a:Nat,o[q]?=some (a:Int)∧a < n∧o.getD q 0=a:=fun q hq=>by
   obtain ⟨y,hy⟩:∃ y,o[q]?=some y:=⟨_,List.getElem?_eq_getElem Oq⟩;obtain ⟨h4,h5⟩:=h2 y (List.mem_of_getElem? hy);exact ⟨y.toNat,by rw [hy]; congr 1; omega,by omega,by rw [getD_some hy]; omega⟩
  obtain ⟨a,a1,a2,a3⟩:=g m Oq;obtain ⟨c,c1,c2,c3⟩:=g p Oq;rw [scS,a3,c3,Int.toNat_natCast,Int.toNat_natCast]
  by_cases e:p=m
  ·subst e;obtain rfl:a=c:=by rw [a3] at c3; omega
   rw [List.getD_eq_getElem?_getD,List.getElem?_set_self (by rw [q2a]; exact a2)]; rfl
  ·have hne:c≠a:=fun q=>by
    subst q;have:=(List.getElem?_inj Oq h3).1 (c1.trans a1.symm);exact e this
   rw [List.getD_eq_getElem?_getD,List.getElem?_set_ne (fun q=>hne q.symm),← List.getD_eq_getElem?_getD];have:=qbO ⟨h1,h2,h3⟩ m Oq p Oq (x:=x);rw [c3,Int.toNat_natCast] at this;exact this
structure DgF (n:Nat) (o:List Int) (vs:List Nat) (U:Nat) (h:Nat→Nat):Prop where
 p:q73 o n
 l:vs.length=n
 nn:n≤100
 v:∀ p,p < n→vs.getD p 0 < 18446744073709551616∧q0N (vs.getD p 0)∧ofZ (vs.getD p 0)=(2:Int) ^ (U+4+h (o.getD p 0).toNat)
 hb:∀ i,h i≤8
def DgF.chk {U:Nat} {h:Nat→Nat} (D:DgF n o vs U h):q5G (o,q0t (n+1),q0t n,vs)=0:=by
 have h1:=D.p.1;have h2:=D.nn;have hol:o.length=n:=by omega
 have p2:FStr n (q0t (n+1)) (q0t n):=⟨q1P (by omega),by rw [q1P (by omega),q1C],fun j hj=>by
  refine ⟨j,j+1,q1P (by omega),q1P (by omega),by omega,by rw [q1C]; omega,?_⟩;have e:((q0t n).take (j+1)).drop j=[(j:Int)]:=by
   apply List.ext_getElem?
   intro i;rw [List.getElem?_drop,List.getElem?_take];cases i with
   | zero=>rw [if_pos (by omega),Nat.add_zero,q1P hj]; rfl
   | succ i=>rw [if_neg (by omega)]; rfl
  rw [e];exact ⟨rfl,fun z hz=>by simp at hz; omega,fun i x y hx hy=>by simp at hy⟩⟩
 have p3:FDg n (q0t (n+1)) vs:=fun j hj a x ha hx=>by
  rw [q1P (by omega)] at ha;obtain rfl:j=a:=by have:=Option.some.inj ha; omega
  have:=(D.v j hj).2.2;rw [getD_some hx] at this;rw [this]; exact q0H _
 have p4:∀ x ∈ vs,q0N x:=fun x hx=>by
  obtain ⟨p,hp,rfl⟩:=List.getElem_of_mem hx;have:=(D.v p (by have:=D.l; omega)).2.1;rw [getD_some (List.getElem?_eq_getElem hp)] at this;exact this
 unfold q5G;dsimp only;rw [hol,if_neg (by omega),if_neg (not_not_intro D.p),q1C,q1C,D.l,if_neg (by simp),if_neg (not_not_intro p2),if_pos ⟨p4,p3⟩]
def qhF {U:Nat} {h:Nat→Nat} {l:List Nat} {c:Nat→Int} (hU:U+8=65536) (D:DgF n o vs U h) (hl:l.length=n) (hf:∀ i,i < n→q0N (l.getD i 0)∧ofZ (l.getD i 0)=c i*(2:Int) ^ (U+8)) (hc:∀ i,(c i).natAbs < 9007199254740992) :
  dfE (o,q0t (n+1),q0t n,vs) l=((List.range n).map fun i=>fR 0 (c i*(2:Int) ^ (U+2*(8-h i))),0):=by
 have h1:=D.p.1;have hol:o.length=n:=by omega
 have g:∀ q,q < n→∃ a:Nat,o[q]?=some (a:Int)∧a < n∧o.getD q 0=a:=fun q hq=>by
  obtain ⟨y,hy⟩:∃ y,o[q]?=some y:=⟨_,List.getElem?_eq_getElem Oq⟩;obtain ⟨h4,h5⟩:=D.p.2.1 y (List.mem_of_getElem? hy);exact ⟨y.toNat,by rw [hy]; congr 1; omega,by omega,by rw [getD_some hy]; omega⟩
 have hs:q76 (q5G (o,q0t (n+1),q0t n,vs)) n l=0:=by
  rw [D.chk];refine qg3 hl fun x hx=>?_;obtain ⟨p,hp,rfl⟩:=List.getElem_of_mem hx;have:=(hf p Oq).1;rw [getD_some (List.getElem?_eq_getElem hp)] at this;exact this
 obtain ⟨k,hk⟩:∃ k:Nat→Nat,k=fun p=>(o.getD p 0).toNat:=⟨_,rfl⟩;obtain ⟨Y,hY⟩:∃ Y:Nat→Nat,Y=fun p=>fR 0 (c (k p)*(2:Int) ^ (U+4+(8-h (k p)))):=⟨_,rfl⟩;obtain ⟨Z,hZ⟩:∃ Z:Nat→Nat,Z=fun i=>fR 0 (c i*(2:Int) ^ (U+2*(8-h i))):=⟨_,rfl⟩;have fY:∀ p,ofZ (Y p)=c (k p)*(2:Int) ^ (U+4+(8-h (k p)))∧q0N (Y p):=fun p=>by
  have:=qaV (m:=c (k p)) (t:=U+4+(8-h (k p))) (K:=U+8) hU (hc _) Oq Oq;rw [hY];exact ⟨this.1,this.2.2⟩
 have fZ:∀ i,q0N (Z i):=fun i=>by
  have:=qaV (m:=c i) (t:=U+2*(8-h i)) (K:=U+8) hU (hc _) Oq Oq;rw [hZ];exact this.2.2
 have hlo:∀ ys p,p < n→loV (q3P (q5F o n vs) n n) (gaS l o n) ys p=Y p∧q0N (Y p):=fun ys p hp=>by
  refine ⟨?_,(fY p).2⟩;obtain ⟨a,a1,a2,a3⟩:=g p hp;have ha:k p=a:=by rw [hk]; dsimp only; rw [a3,Int.toNat_natCast]
  have e:(gaS l o n).getD p 0=l.getD a 0:=by unfold gaS; rw [qbS hp,if_pos hp,a3,Int.toNat_natCast]
  have hv:=(D.v p hp).2.2;rw [a3,Int.toNat_natCast] at hv;rw [lo_dg hp,e,(hf a a2).2,hv,hY];dsimp only;rw [ha];have h8:=D.hb a;refine qj8 hU (Int.ne_of_gt (q0H _)) ?_;rw [Int.mul_assoc,← Int.pow_add,Int.mul_assoc,← Int.pow_add,show U+8+(U+8)=U+4+(8-h a)+(U+4+h a) by omega]
 have hup:∀ ys p,p < n→upV (trS (q3P (q5F o n vs) n n) n n) ((List.range n).map Y) ys n p=Z (k p)∧q0N (Z (k p)):=fun ys p hp=>by
  refine ⟨?_,fZ _⟩;have hv:=(D.v p hp).2.2;have h8:=D.hb (k p);rw [up_dg hp,q3i hp,(fY p).1,hv,hZ];rw [show (o.getD p 0).toNat=k p by rw [hk]];refine qj8 hU (Int.ne_of_gt (q0H _)) ?_;rw [Int.mul_assoc,← Int.pow_add,Int.mul_assoc,← Int.pow_add,show U+4+(8-h (k p))+(U+8)=U+2*(8-h (k p))+(U+4+h (k p)) by omega]
 unfold dfE;dsimp only;rw [hol,if_neg (not_not_intro hs)];have e4:=qgp hlo n 0 Oq;rw [← qiY] at e4;have e5:=qgS hup n (Nat.le_refl _);rw [uwG_n] at e5;rw [show (⟨o,q0t (n+1),q0t n,vs⟩:Fac)=q5F o n vs from rfl];simp only [e4,e5];refine Prod.ext ?_ rfl;dsimp only;rw [show (fun i=>fR 0 (c i*(2:Int) ^ (U+2*(8-h i))))=Z from hZ.symm]
 apply List.ext_getElem?
 intro i
 by_cases hi:i < n
 ·obtain ⟨p,hp,he⟩:=List.getElem_of_mem (pig n o D.p.2.2 D.p.2.1 hol i hi);have hpn:p < n:=by omega
  have:=qbO (x:=(List.range n).map fun p=>Z (k p)) D.p n (Nat.le_refl _) p hpn;have ho:o.getD p 0=i:=by rw [getD_some (List.getElem?_eq_getElem hp),he]
  rw [ho,Int.toNat_natCast,q3i hpn] at this;rw [show k p=i by rw [hk]; dsimp only; rw [ho,Int.toNat_natCast]] at this;rw [List.getD_eq_getElem?_getD] at this;have hlt:i < (scS ((List.range n).map fun p=>Z (k p)) o n n).length:=by rw [q2a]; exact hi
  rw [List.getElem?_eq_getElem hlt] at this ⊢;rw [List.getElem?_map,List.getElem?_range hi];exact congrArg some this
 ·rw [List.getElem?_eq_none (by rw [q2a]; omega),List.getElem?_eq_none (by simp; omega)]
end
def qia {m:Int} {k c:Nat} (h:c≤k):(2:Int) ^ c ∣ m*(2:Int) ^ k:=by
 obtain ⟨e,rfl⟩:∃ e,k=c+e:=⟨k-c,by omega⟩;rw [Int.pow_add,Int.mul_left_comm];exact Int.dvd_mul_right _ _
def q5q {x y K:Nat} (hK:K=65536) (hx:q0N x) (hy:q0N y):q0g x y*(2:Int) ^ K=ofZ x*ofZ y∧∀ c,c≤60000→(2:Int) ^ c ∣ q0g x y:=by
 obtain ⟨m,k,h,h1,h2,h3⟩:=q2U hx;obtain ⟨m',k',h',h1',h2',h3'⟩:=q2U hy;have e:ofZ x*ofZ y=m*m'*(2:Int) ^ (k+k'):=by
  rw [q0W h,q0W h',Int.pow_add];simp only [Int.mul_assoc,Int.mul_left_comm,Int.mul_comm]
 have hb:bl (m*m').natAbs≤106:=by
  rw [Int.natAbs_mul];exact Nat.le_trans (q3S _ _) Oq
 have hm:=q5T (m:=m*m') (E := -131072+((k+k':Nat):Int)) Oq Oq;obtain ⟨t,ht⟩:∃ t,t=(-131072+((k+k':Nat):Int)+65536).toNat:=⟨_,rfl⟩;rw [← ht] at hm;have hv:q0g x y=m*m'*(2:Int) ^ t:=by
  unfold q0g;rw [e,q1G,hm]; rfl
 refine ⟨?_,fun c hc=>?_⟩
 ·rw [hv,e,Int.mul_assoc,← Int.pow_add,show t+K=k+k' by omega]
 ·rw [hv]; exact qia Oq
end Go.Proofs.YtfmojhhokfkdaaaGreatDoor
