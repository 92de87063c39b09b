/- SolveDefinite, the statement of that name about the given program, is proved: for every input the law SolveDefinite answers true and does not panic. Part 6 of 6: V9, V10, V11, V12, T37, G5, T38, L7, L4, T39, V13, V14, V15, V16, V17, Lr, Ed, EdC. -/
import Derived.SevenTiedAt
import Derived.Test.YtjamnehcmaloeaaGreatDoorCards
import Derived.Test.YtjamnehcmaloeaaGreatDoorTie
import Derived.Test.YtjamnehcmaloeaaGreatDoorPd5
set_option linter.unusedSimpArgs false
set_option linter.unusedVariables false
set_option maxRecDepth 20000
set_option maxHeartbeats 2000000
namespace Go.Proofs.YtjamnehcmaloeaaGreatDoor
open Go Go.E Go.Sp
def upT (f:Fac) (ys:List Nat) (p:Nat):Nat→List Int
 | 0=>[]
 | c+1=>upT f ys p c ++ [-(q6K (f.vs.getD (p+c) 0) (ys.getD (f.ri.getD (p+c) 0).toNat 0))]
noncomputable def bwV (f:Fac) (l ys:List Nat) (k:Nat):Nat :=
 fQ 0 (q1O (ofZ (l.getD k 0) :: upT f ys ((f.cp.getD k 0).toNat+1) ((f.cp.getD (k+1) 0).toNat-((f.cp.getD k 0).toNat+1)))) (ofZ (f.vs.getD (f.cp.getD k 0).toNat 0))
noncomputable def bwS (f:Fac) (l:List Nat):Nat→List Nat→Option (List Nat)
 | 0,ys=>some ys
 | k+1,ys=>if q09 (bwV f l ys k) then bwS f l k (ys.set k (bwV f l ys k)) else none
def stZ (f:Fac) (ys:List Nat):Nat→Nat→Int
 | _,0=>0
 | p,c+1=>q6K (f.vs.getD p 0) (ys.getD (f.ri.getD p 0).toNat 0)+stZ f ys (p+1) c
theorem qqH {f:Fac} {ys:List Nat}:∀ c p,stZ f ys p (c+1)=stZ f ys p c+q6K (f.vs.getD (p+c) 0) (ys.getD (f.ri.getD (p+c) 0).toNat 0)
 | 0,p=>by simp [stZ]
 | c+1,p=>by
  rw [stZ,qqH c (p+1),show p+1+c=p+(c+1) by omega,stZ,Int.add_assoc]
theorem qcp {f:Fac} {ys:List Nat} {B:Int} {p:Nat}:∀ c,q1O (B :: upT f ys p c)=B-stZ f ys p c
 | 0=>by simp [upT,stZ,q1O]
 | c+1=>by
  rw [upT,← List.cons_append,q2F,qcp c,qqH];omega
def rwZ (g:Nat→Nat) (ys:List Nat):Nat→Nat→Int
 | _,0=>0
 | r,m+1=>q6K (g r) (ys.getD r 0)+rwZ g ys (r+1) m
theorem qq2 {g:Nat→Nat} {ys:List Nat}:∀ m r,rwZ g ys r (m+1)=rwZ g ys r m+q6K (g (r+m)) (ys.getD (r+m) 0)
 | 0,r=>by simp [rwZ]
 | m+1,r=>by
  rw [rwZ,qq2 m (r+1),show r+1+m=r+(m+1) by omega,rwZ,Int.add_assoc]
theorem qd6 {g:Nat→Nat} {l x ys:List Nat} {B:Int} {r:Nat} (hl:∀ i,l.getD i 0=g (r+i)) (hx:∀ i,x.getD i 0=ys.getD (r+i) 0):∀ m,q1O (q6N B l x m)=B-rwZ g ys r m
 | 0=>by simp [q6N,rwZ,q1O]
 | m+1=>by
  rw [q6N,q2F,qd6 hl hx m,qq2,hl,hx];omega
theorem q6t {f:Fac} {j a b:Nat} {ys:List Nat} (h:Col f j a b) (hn:f.pm.length≤200) (hrv:f.ri.length=f.vs.length) :
  ∀ m r p,r+m=f.pm.length→a < p→p≤b→(∀ p',p≤p'→p' < b→∃ i:Nat,f.ri[p']?=some (i:Int)∧r≤i)→stZ f ys p (b-p)=rwZ (fun i=>q2m f i p (b-p)) ys r m
 | 0,r,p,hr,ha,hpb,hi=>by
  have hp:p=b:=by
   rcases Nat.lt_or_ge p b with h1 | h1
   ·obtain ⟨i,h2,h3⟩:=hi p (Nat.le_refl _) h1;obtain ⟨i',h4,_,h5⟩:=h.row hn ha h1;rw [h2] at h4;have:=Option.some.inj h4;omega
   ·omega
  rw [hp,Nat.sub_self]; rfl
 | m+1,r,p,hr,ha,hpb,hi=>by
  rw [rwZ]
  by_cases hp:p < b∧f.ri[p]?=some (r:Int)
  ·obtain ⟨hp1,hp2⟩:=hp;have hle:=h.le;obtain ⟨x,hv⟩:∃ x,f.vs[p]?=some x:=⟨_,List.getElem?_eq_getElem (by omega)⟩;have hlater:∀ p',p+1≤p'→p' < b→∃ i:Nat,f.ri[p']?=some (i:Int)∧r+1≤i:=fun p' q1 q2=>by
    obtain ⟨i,h1,_⟩:=hi p' (by omega) q2;have:=h.mono (p'-p) p r i (by omega) (by omega) hp2 (by rw [show p+(p'-p)=p' by omega]; exact h1);rw [if_neg (by omega)] at this;exact ⟨i,h1,by omega⟩
   have hc:b-p=(b-(p+1))+1:=by omega
   have e1:q2m f (r:Int) p (b-p)=x:=by rw [hc,q2m,if_pos hp2]; exact getD_some hv
   have e2:rwZ (fun i=>q2m f i p (b-p)) ys (r+1) m=rwZ (fun i=>q2m f i (p+1) (b-(p+1))) ys (r+1) m:=by
    have key:∀ m r',r+1≤r'→rwZ (fun i=>q2m f i p (b-p)) ys r' m=rwZ (fun i=>q2m f i (p+1) (b-(p+1))) ys r' m:=fun m=>by
     induction m with
     | zero=>intro _ _; rfl
     | succ m ih =>
      intro r' hr';rw [rwZ,rwZ,ih (r'+1) (by omega)]
      congr 2
      show q2m f (r':Int) p (b-p)=_
      rw [hc,q2m,if_neg (by rw [hp2]; intro e; have:=Option.some.inj e; omega)]
    exact key m (r+1) (Nat.le_refl _)
   rw [e1,e2,← q6t h hn hrv m (r+1) (p+1) (by omega) (by omega) (by omega) hlater,hc,stZ,getD_some hv,getD_some hp2]
   rfl
  ·have hge:∀ p',p≤p'→p' < b→∃ i:Nat,f.ri[p']?=some (i:Int)∧r+1≤i:=fun p' q1 q2=>by
    obtain ⟨i,h1,h2⟩:=hi p' q1 q2;refine ⟨i,h1,?_⟩
    rcases Nat.lt_or_ge r i with h3 | h3
    ·omega
    ·obtain rfl:i=r:=by omega
     by_cases hpp:p'=p
     ·subst hpp; exact absurd ⟨q2,h1⟩ hp
     ·obtain ⟨i0,h4,h5⟩:=hi p (Nat.le_refl _) (by omega);have:=h.mono (p'-p) p i0 i (by omega) (by omega) h4 (by rw [show p+(p'-p)=p' by omega]; exact h1);rw [if_neg (by omega)] at this;omega
   have e0:q2m f (r:Int) p (b-p)=0:=q59 _ _ fun p' q1 q2 e=>by
    obtain ⟨i,h1,h2⟩:=hge p' q1 (by omega);rw [h1] at e;have:=Option.some.inj e;omega
   rw [e0,q5t,Int.zero_add];exact q6t h hn hrv m (r+1) p (by omega) ha hpb hge
theorem qd3 {g g':Nat→Nat} {ys:List Nat}:∀ m r,(∀ i,r≤i→i < r+m→g i=g' i)→rwZ g ys r m=rwZ g' ys r m
 | 0,_,_=>rfl
 | m+1,r,h=>by rw [rwZ,rwZ,h r (Nat.le_refl _) (by omega),qd3 m (r+1) fun i q1 q2=>h i (by omega) (by omega)]
theorem qst {f:Fac} {l ys:List Nat} {k n:Nat} (ho:FacOk f) (hn:n=f.pm.length) (hk:k < n):bwV f l ys k=upV (trS (q3e f n n) n n) l ys n k:=by
 obtain ⟨a,b,hc⟩:=ho.col k (by omega);have hlt:=hc.lt;obtain ⟨x,V,d1,d2,d3⟩:=hc.diag;have hel:elF f k k=x:=by
  rw [q6B hc,show b-a=(b-(a+1))+1 by omega,q2m,if_pos hc.first];exact getD_some d1
 have hU:(trS (q3e f n n) n n).getD k []=rwG n (fun j=>((q3e f n n).getD j []).getD k 0) n:=by
  refine getD_some ?_;unfold trS;rw [List.getElem?_map,List.getElem?_range hk]; rfl
 obtain ⟨g,hg⟩:∃ g:Nat→Nat,g=fun j=>if j < n then ((q3e f n n).getD j []).getD k 0 else 0:=⟨_,rfl⟩
 have hgd:∀ i,(rwG n (fun j=>((q3e f n n).getD j []).getD k 0) n).getD i 0=g i:=fun i=>by
  rw [hg]
  by_cases hi:i < n
  ·rw [getD_some (q4b hi)]
  ·rw [List.getD_eq_getElem?_getD,List.getElem?_eq_none (by rw [q3S]; omega)];simp only [if_neg hi]; rfl
 have hgk:∀ i,k≤i→i < n→g i=elF f i k:=fun i h1 h2=>by
  rw [hg];simp only [if_pos h2];rw [getD_some (q70 h2),getD_some (q4b hk),if_pos (by omega)]
 unfold bwV upV;rw [getD_some hc.ha,getD_some hc.hb,hU,hgd,hgk k (Nat.le_refl _) hk,hel];rw [show ((a:Int)).toNat=a by omega,show ((b:Int)).toNat=b by omega,getD_some d1,qcp];rw [qd6 (g:=g) (ys:=ys) (r:=k+1) (fun i=>by rw [List.getD_eq_getElem?_getD,List.getElem?_drop,← List.getD_eq_getElem?_getD,hgd]) (fun i=>by rw [List.getD_eq_getElem?_getD,List.getElem?_drop,← List.getD_eq_getElem?_getD])];rw [q6t hc ho.n ho.ril (n-(k+1)) (k+1) (a+1) (by omega) (by omega) (by omega) fun p q1 q2=>by
  obtain ⟨i,h1,h2,_⟩:=hc.row ho.n (by omega) q2;exact ⟨i,h1,by omega⟩]
 rw [qd3 (g:=g) (g':=fun i=>q2m f i (a+1) (b-(a+1))) _ _ fun i q1 q2=>by
  rw [hgk i (by omega) (by omega),q6B hc,show b-a=(b-(a+1))+1 by omega,q2m,if_neg (by rw [hc.first]; intro e; have:=Option.some.inj e; omega)]]
theorem qkn {f:Fac} {l:List Nat} {n:Nat} (ho:FacOk f) (hn:n=f.pm.length):∀ (k:Nat) (ys:List Nat),k≤n→bwS f l k ys=upF (trS (q3e f n n) n n) l n k ys
 | 0,_,_=>rfl
 | k+1,ys,hk=>by rw [bwS,upF,qst ho hn (by omega),qkn ho hn k _ (by omega)]
theorem qpm {L:List (List Nat)} {n:Nat} (h:SqM L n):SqM (trS L n n) n:=⟨qcs,fun r hr=>by
 obtain ⟨i,hi,rfl⟩:=List.mem_map.1 hr;have hi:=List.mem_range.1 hi;refine ⟨q3S,fun x hx=>?_⟩;obtain ⟨j,hj,rfl⟩:=List.mem_map.1 hx;have hj:=List.mem_range.1 hj;rw [if_pos hj];have hl:=h.len;obtain ⟨r,hr⟩:∃ r,L[j]?=some r:=⟨_,List.getElem?_eq_getElem (by omega)⟩;obtain ⟨h1,h2⟩:=h.row r (List.mem_of_getElem? hr);obtain ⟨x,hx⟩:∃ x,r[i]?=some x:=⟨_,List.getElem?_eq_getElem (by omega)⟩
 show (L.getD j []).getD i 0 < 18446744073709551616∧q09 ((L.getD j []).getD i 0)
 rw [getD_some hr,getD_some hx];exact h2 x (List.mem_of_getElem? hx),fun k hk=>by
 have e:(trS L n n)[k]?=some (rwG n (fun j=>(L.getD j []).getD k 0) n):=by
  unfold trS;rw [List.getElem?_map,List.getElem?_range hk]; rfl
 rw [getD_some e,getD_some (q4b hk),if_pos hk];exact h.dg k hk⟩
noncomputable def uppR (F:List Int × List Int × List Int × List Nat) (l:List Nat):PV :=
 if q4H (q3C F) F.1.length l≠0 then .tu [pF [],iv (q4H (q3C F) F.1.length l)] else fwP (upF (trS (q3e ⟨F.1,F.2.1,F.2.2.1,F.2.2.2⟩ F.1.length F.1.length) F.1.length F.1.length) l F.1.length F.1.length (List.replicate F.1.length 0))
theorem qbX {pm cp ri:List Int} {vs l:List Nat} (hp:pm.length≤1000000) (hc:cp.length≤1000000) (hr:ri.length≤1000000) (hv:vs.length≤1000000) (hu:∀ x ∈ vs,x < 18446744073709551616) (hul:∀ x ∈ l,x < 18446744073709551616) (hl:l.length≤1000000) :
  ACt 35 [q2A (pm,cp,ri,vs),pF l] (uppR (pm,cp,ri,vs) l):=by
 have cK:=q9Q hp hc hr hv hu;unfold uppR;dsimp only
 by_cases h0:q4H (q3C (pm,cp,ri,vs)) pm.length l=0
 ·obtain ⟨h1,h2,h3⟩:=qgo h0;have ho:=q4U h1 hr hu;rw [h1] at cK;rw [if_neg (not_not_intro h0)];have hs:=q7Z ho;exact qcb (qpm hs) h2 ho.n (fun x hx=>⟨hul x hx,h3 x hx⟩) rfl cK (q7n ho) (qcc hs.len (fun r h=>(hs.row r h).1) ho.n)
 ·rw [if_pos h0];have cS:=q4A (e:=q3C (pm,cp,ri,vs)) (n:=pm.length) hul hl;generalize q4H (q3C (pm,cp,ri,vs)) pm.length l=e at *;generalize q3C (pm,cp,ri,vs)=e2 at *;have q:(e != 0)=true:=by simpa using h0
  unfold q2A at *;dsimp only at *;refine ac0 Tryz.func35 Tryz.ntmps35 [.tmp 4,.tmp 5] ?_;exact wk1 q trivial
theorem q5Z {l:List Nat} (h:q2b l) (i:Nat):l.getD i 0 < 18446744073709551616∧q09 (l.getD i 0):=by
 rw [List.getD_eq_getElem?_getD];cases hx:l[i]? with
 | none=>exact ⟨by simp,by unfold q09; simp⟩
 | some x=>exact h x (List.mem_of_getElem? hx)
theorem q8y {f:Fac} {ys:List Nat} {p:Nat}:∀ c,(upT f ys p c).length=c
 | 0=>rfl
 | c+1=>by rw [upT,List.length_append,q8y c]; rfl
theorem qjL {f:Fac} {ys:List Nat} {p:Nat} (hv:q2b f.vs) (hy:q2b ys):∀ c,∀ x ∈ upT f ys p c,bl x.natAbs≤67600
 | 0,x,hx=>by cases hx
 | c+1,x,hx=>by
  rw [upT] at hx
  rcases List.mem_append.1 hx with hx | hx
  ·exact qjL hv hy c x hx
  ·simp only [List.mem_singleton] at hx;subst hx;rw [Int.natAbs_neg];exact (q2V (q5Z hv _).2 (q5Z hy _).2).2
theorem RowsOk.up {f:Fac} {rows:List (List Int)} {r:List Int} {k:Nat} (h:RowsOk f 500 rows) (h1:r.length≤501) (h2:∀ x ∈ r,bl x.natAbs≤67600):RowsOk f 500 (rows.set k r) :=
 ⟨by rw [List.length_set]; exact h.len,fun r' hr'=>by
  rcases List.mem_or_eq_of_mem_set hr' with h3 | rfl
  ·exact h.row r' h3
  ·exact ⟨by omega,h2⟩⟩
theorem Col.climb {f:Fac} {j a b:Nat} (h:Col f j a b):∀ d,a+d < b→∃ i:Nat,f.ri[a+d]?=some (i:Int)∧j+d≤i
 | 0,_=>⟨j,h.first,Nat.le_refl _⟩
 | d+1,hd=>by
  obtain ⟨i,h1,h2⟩:=h.climb d (by omega);obtain ⟨y,z,h3,h4,h5⟩:=h.inc (a+(d+1)) (by omega) hd;rw [show a+(d+1)-1=a+d by omega,h1] at h3;cases h3;exact ⟨z.toNat,by rw [h4]; congr 1; omega,by omega⟩
theorem Col.short {f:Fac} {j a b:Nat} (h:Col f j a b) (hn:f.pm.length≤200):b≤a+201:=by
 rcases Nat.lt_or_ge b (a+202) with h1 | h1
 ·omega
 obtain ⟨i,h2,h3⟩:=h.climb (b-a-1) (by omega);obtain ⟨i',h4,_,h5⟩:=h.row hn (p:=a+(b-a-1)) (by omega) (by omega);rw [h2] at h4;have:=Option.some.inj h4;omega
theorem qg9 {f:Fac} {l ys:List Nat} {rows:List (List Int)} {k p c i x y:Nat} (hi:f.ri[p+c]?=some (i:Int)) (hx:f.vs[p+c]?=some x) (hy:ys[i]?=some y) :
  (rows.set k (ofZ (l.getD k 0) :: upT f ys p c)).set k ((ofZ (l.getD k 0) :: upT f ys p c) ++ [-(q6K x y)])=rows.set k (ofZ (l.getD k 0) :: upT f ys p (c+1)):=by
 rw [List.set_set,upT,getD_some hi,getD_some hx,show ((i:Int)).toNat=i by omega,getD_some hy]
 rfl
theorem q9s {D0 E:Nat→Prop} {f:Fac} {v:Value} {A:Option Addr} {n c:Nat} {l:List Nat} {w:World} (hT:q1k w) (h:In (qpR f) E v w) (ho:FacOk f) (hb:In (fSc q2Q l) E (.slice A n c) w) (hl:q2b l) (hn:n=f.pm.length) (hf:Fr D0 w) :
  Calls Tryz.prog 78 #[v,.slice A n c] w (Rt (qnV (bwS f l n (List.replicate n 0))) D0 w):=by
 obtain ⟨A3,n3,c3,A4,n4,c4,A5,n5,c5,A6,n6,c6,rfl,h1,h2,h3,h4⟩:=q8X h;have l1:=h1.sc_len;have l2:=h2.sc_len;have l3:=h3.sc_len;have l4:=h4.sc_len;have lb:=hb.sc_len;have hnb:=ho.n;have hbeg:=fun {w':World} {D':Nat→Prop} (hx:Ext w w') (hd:∀ k,k < w.heap.size→D' k) (hf':Fr D' w')=>qbP (D:=D') (vals:=l.map ofZ) (hT.ext hx) ((hb.sub fun k hk _=>hd k hk).ext hx) (by simp) (by omega) (fun i x hi=>⟨(hl x (List.mem_of_getElem? hi)).1,ofZ x,by simp [hi],q0m (hl x (List.mem_of_getElem? hi)).2⟩) hf';obtain ⟨N,hN⟩:∃ N,N=w.heap.size:=⟨_,rfl⟩;have b2:=h2.db (w':=w);have b3:=h3.db (w':=w);have b4:=h4.db (w':=w);rw [← hN] at b2 b3 b4;refine q0H Tryz.func78 rfl Tryz.ntmps78 (by kernel_rfl) ?_;refine q0A fun K hK=>?_;refine Zz ?_;refine q0Y ?_;intro g2 w2 hg2 hx2 hb2 hs2;refine hK _ _ ?_; clear hK K;have hx:Ext w w2:=hx2;replace b2:=b2.ext hx;replace b3:=b3.ext hx;replace b4:=b4.ext hx;clear hx2;refine q7c (fun e' w'=>∃ (N0 g gy:Nat) (L:List Nat) (ss:List (Option Addr × Nat × Nat)),e' 2=.pointer (some ⟨g2,0,none⟩)∧e' 1=.slice A n c∧e' 6=.slice (some ⟨g,0,none⟩) n n∧e' 7=.slice (some ⟨gy,0,none⟩) n n∧Ext w2 w'∧Sums w' (fun k=>k≠gy) L N0 g n (l.map fun x=>[ofZ x]) ss∧Own w' N 40 1 (some ⟨gy,0,none⟩) n n (List.replicate n (q2Q 0))∧gy ∉ L∧g2 < N0∧N≤N0∧g2 < gy) ?_ ?_
 ·refine qtj q0g (.one 0 (.one 2 (.one 3 (.alt (.one 1 (.one 5 (.one 4 (.one 6 .fin)))) (.one 4 (.one 1 (.one 5 (.one 6 .fin)))))))) (by kernel_rfl) fun KE wE hKE hxE=>?_;replace b2:=b2.ext hxE;replace b3:=b3.ext hxE;replace b4:=b4.ext hxE;replace hb2:=hb2.ext hxE;replace hx:=hx.trans hxE;simp only [q0f] at hKE;have hlt3:=hb2.lt;have hmm:(l.map ofZ).map (fun V=>[V])=l.map fun x=>[ofZ x]:=by rw [List.map_map]; rfl
  rw [hmm] at hbeg;have hrp:List.replicate n (Value.int .u64 0)=List.replicate n (q2Q 0):=rfl;have hNE:=hx.size;rw [← hN] at hNE;simp -implicitDefEqProofs (disch:=omega) only [go_sem,Nat.reduceEqDiff,Nat.reduceAdd,↓reduceIte,q8f,q8g,qbT,q66,q8E,List.toList_toArray];refine ⟨?_,?_⟩
  ·refine q0E qf3 (hbeg (D':=fun _=>True) hx (fun _ _=>trivial) (Fr.triv _)) ?_;rintro _ w14 ⟨rfl,hx14,L,ss,hS⟩; refine ⟨_,rfl,?_⟩;refine q5u (Nat.le_refl _) (by omega) (by unfold maxLen; omega) fun w17 hx17 hO17 hs17=>?_;have hs14:=hx14.size;refine hKE _ _ ⟨_,_,w14.heap.size,L,ss,Ue,Ue,Ue,Ue,(hxE.trans hx14).trans hx17,(hS.sub (D':=fun k=>k≠w14.heap.size) fun k hk _=>by omega).ext hx17,hO17.mono (by omega),fun hm=>?_,hlt3,hNE,by omega⟩;have:=hS.hi _ hm;omega
  ·refine q5u (Nat.le_refl _) (by omega) (by unfold maxLen; omega) fun w17 hx17 hO17 hs17=>?_;refine q0E qf3 (hbeg (D':=fun k=>k≠wE.heap.size) (hx.trans hx17) (fun k hk=>by omega) (fun k hk=>by omega)) ?_;rintro _ w14 ⟨rfl,hx14,L,ss,hS⟩; refine ⟨_,rfl,?_⟩;refine hKE _ _ ⟨_,_,wE.heap.size,L,ss,Ue,Ue,Ue,Ue,(hxE.trans hx17).trans hx14,hS,(hO17.mono (by omega)).ext hx14,fun hm=>?_,by omega,by omega,hlt3⟩;have:=hS.lo _ hm;omega
 ·rintro e0 w1 ⟨N0,g,gy,L,ss,k2,k1,k6,k7,hx1,hS,hO,hgL,hgN,hNN,hg3y⟩;replace b2:=b2.ext hx1;replace b3:=b3.ext hx1;replace b4:=b4.ext hx1;replace hb2:=hb2.ext hx1;replace hx:=hx.trans hx1;refine q0B fun K0 hK0=>?_;refine Wz2 k1 @i64_in ?_;refine q0W ?_;refine q08 (fun e2 w2=>∃ (m:Nat) (L:List Nat) (rows:List (List Int)) (ys:List Nat) (ss:List (Option Addr × Nat × Nat)),e2 8=.int .i64 ((m:Int)-1)∧m≤n∧Ext w w2∧Blk w2 g2 26 #[.slice A3 n3 c3,.slice A4 n4 c4,.slice A5 n5 c5,.slice A6 n6 c6]∧In (fSc q1Q f.cp) (Db E N) (.slice A4 n4 c4) w2∧In (fSc q1Q f.ri) (Db E N) (.slice A5 n5 c5) w2∧In (fSc q2Q f.vs) (Db E N) (.slice A6 n6 c6) w2∧Sums w2 (fun k=>k≠gy) L N0 g n rows ss∧Own w2 N 40 1 (some ⟨gy,0,none⟩) n n (ys.map q2Q)∧gy ∉ L∧RowsOk f 500 rows∧(∀ i,i < m→rows[i]?=some [ofZ (l.getD i 0)])∧ys.length=n∧q2b ys∧bwS f l m ys=bwS f l n (List.replicate n 0)) (fun e2 _=>(RowKit.intOf (e2 8)+1).toNat) ⟨n,L,_,_,ss,rfl,Nat.le_refl _,hx,hb2,b2,b3,b4,hS,by rw [List.map_replicate]; exact hO,hgL,⟨by simp; omega,fun r hr=>?_⟩,fun i hi=>?_,by simp,q4T,rfl⟩ ?_
  ·rw [List.mem_map] at hr;obtain ⟨y,hy,rfl⟩:=hr;exact ⟨by simp,fun x hx=>by simp at hx; subst hx; exact q5s (hl y hy).2⟩
  ·have hil:i < l.length:=by omega
   rw [List.getElem?_map,List.getD_eq_getElem?_getD,List.getElem?_eq_getElem hil]
   rfl
  clear hx hb2 b2 b3 b4 hS hO hgL;rintro e1 w5 ⟨m,L,rows,ys,ss,k8,hm,hx,hb2,b2,b3,b4,hS,hO,hgL,hR,hrw,hys,hfy,hbw⟩ hkk;have r2:e1 2=.pointer (some ⟨g2,0,none⟩):=(hkk 2 (by kernel_rfl)).trans Ue;have r6:e1 6=.slice (some ⟨g,0,none⟩) n n:=(hkk 6 (by kernel_rfl)).trans Ue;have r7:e1 7=.slice (some ⟨gy,0,none⟩) n n:=(hkk 7 (by kernel_rfl)).trans Ue;clear hkk
  by_cases hm0:m=0
  ·subst hm0;have hlt':¬ (0:Int)≤((0:Nat):Int)-1:=by omega
   refine q0B fun K1 hK1=>?_;refine Wz2 k8 hlt' ?_;refine Wf (q02 (hK0 _ _ ?_));rw [bwS] at hbw;rw [← hbw];refine Wz1 r7 ?_;refine q0L ?_
   try simp only [q0D,q0O]
   refine q8C rfl ⟨_,rfl,hx,⟨_,_,rfl,by simp only [q0F,Nat.reduceEqDiff,↓reduceIte]; exact qmX hO fun k hk=>hf k (by omega),by simp only [q0F,Nat.reduceEqDiff,↓reduceIte]; exact rfl⟩⟩
  ·obtain ⟨k,rfl⟩:∃ k,m=k+1:=⟨m-1,by omega⟩;replace k8:e1 8=.int .i64 (k:Int):=by rw [k8]; congr 1; omega
   have hlt':(0:Int)≤(k:Int):=by omega
   refine q0B fun K1 hK1=>?_;refine Wz2 k8 hlt' ?_;refine Wt (q0G (hK1 _ _ ?_));clear hK1;refine q0N fun K hK=>?_;obtain ⟨a,b,hcol⟩:=ho.col k (by omega);obtain ⟨dx,dV,d1,d2,d3⟩:=hcol.diag;have hcb:=hcol.hb;obtain ⟨k1,hk1⟩:∃ k1,k1=k+1:=⟨_,rfl⟩;rw [← hk1] at hcb;have hle:=hcol.le;have hlt:=hcol.lt;have hsh:=hcol.short ho.n;have hrib:=ho.rib;have hril:=ho.ril;obtain ⟨hdx,hdf⟩:=ho.vals dx (List.mem_of_getElem? d1);obtain ⟨u,hu⟩:∃ u,u=l.getD k 0:=⟨_,rfl⟩;obtain ⟨hu1,hu2⟩:=q5Z hl k;have hrk:=hrw k (by omega);rw [← hu] at hu1 hu2 hrk;have hset0:rows.set k [ofZ u]=rows:=by
    refine List.ext_getElem? fun i=>?_;rw [List.getElem?_set]
    split
    ·rename_i e; subst e
     split
     ·exact hrk.symm
     ·rw [List.getElem?_eq_none (by omega)]
    ·rfl
   obtain ⟨ad2,rfl,i2,x2⟩:=b2.ixI hcol.ha;have e1':IntKind.i64.wrap ((a:Int)+1)=((a+1:Nat):Int):=by rw [i64_in (by omega) (by omega)]; omega
   have e2':IntKind.i64.wrap ((k:Int)+1)=(k1:Int):=by rw [i64_in (by omega) (by omega)]; omega
   refine q0B fun K2 hK2=>?_;refine q0A fun K hK=>?_;simp -implicitDefEqProofs (disch:=omega) only [go_sem,Nat.reduceEqDiff,Nat.reduceAdd,↓reduceIte,r2,hb2.c1,k8,i2,x2,e1'];refine hK _ _ ?_; clear hK K;refine q0W ?_;refine q08 (fun e2 w2=>∃ (p:Nat) (L:List Nat) (ss:List (Option Addr × Nat × Nat)),e2 9=.int .i64 p∧a+1≤p∧p≤b∧Ext w w2∧Blk w2 g2 26 #[.slice A3 n3 c3,.slice (some ad2) n4 c4,.slice A5 n5 c5,.slice A6 n6 c6]∧In (fSc q1Q f.cp) (Db E N) (.slice (some ad2) n4 c4) w2∧In (fSc q1Q f.ri) (Db E N) (.slice A5 n5 c5) w2∧In (fSc q2Q f.vs) (Db E N) (.slice A6 n6 c6) w2∧Sums w2 (fun k=>k≠gy) L N0 g n (rows.set k (ofZ u :: upT f ys (a+1) (p-(a+1)))) ss∧Own w2 N 40 1 (some ⟨gy,0,none⟩) n n (ys.map q2Q)∧gy ∉ L) (fun e2 _=>b-(RowKit.intOf (e2 9)).toNat) ⟨a+1,L,ss,rfl,Nat.le_refl _,hlt,hx,hb2,b2,b3,b4,by rw [Nat.sub_self,upT,hset0]; exact hS,hO,hgL⟩ ?_;clear hx hb2 b2 b3 b4 hS hO hgL x2 i2;rintro e3 w6 ⟨p,L,ss,k9,hp1,hp2,hx,hb2,b2,b3,b4,hS,hO,hgL⟩ hkk;have q2:e3 2=.pointer (some ⟨g2,0,none⟩):=(hkk 2 (by kernel_rfl)).trans Ue;have q6:e3 6=.slice (some ⟨g,0,none⟩) n n:=(hkk 6 (by kernel_rfl)).trans Ue;have q7:e3 7=.slice (some ⟨gy,0,none⟩) n n:=(hkk 7 (by kernel_rfl)).trans Ue;have q8:e3 8=.int .i64 k:=(hkk 8 (by kernel_rfl)).trans Ue;clear hkk r2 r6 r7;have hro:RowsOk f 500 (rows.set k (ofZ u :: upT f ys (a+1) (p-(a+1)))):=hR.up (by rw [List.length_cons,q8y]; omega) fun x hx=>by
    rcases List.mem_cons.1 hx with rfl | hx
    ·exact q5s hu2
    ·exact qjL ho.vals hfy _ x hx
   have hrl:=hR.len;have hrk2:(rows.set k (ofZ u :: upT f ys (a+1) (p-(a+1))))[k]?=some (ofZ u :: upT f ys (a+1) (p-(a+1))):=List.getElem?_set_self (by omega);have hgy:gy < w6.heap.size:=by
    rcases hO.form with ⟨h0,_⟩ | ⟨_,_,h0,_,hb,_⟩
    ·cases h0
    ·cases h0; exact hb.lt
   obtain ⟨_,hcc,i2,x2⟩:=b2.ixI hcb;cases hcc
   by_cases hlt2:p < b
   ·have hlt2':(p:Int) < b:=by omega
    refine q0B fun K5 hK5=>?_;refine q0A fun K hK=>?_;simp -implicitDefEqProofs (disch:=omega) only [go_sem,Nat.reduceEqDiff,Nat.reduceAdd,↓reduceIte,k9,q2,hb2.c1,q8,e2',i2,x2,hlt2'];refine hK _ _ ?_; clear hK K;refine Wt (q0G (hK5 _ _ ?_));clear hK5;refine q0N fun K6 hK6=>?_;obtain ⟨j0,hj1,hj2,hj3⟩:=hcol.row ho.n (by omega) hlt2;obtain ⟨xv,hxv⟩:∃ xv,f.vs[p]?=some xv:=⟨_,List.getElem?_eq_getElem (by omega)⟩;obtain ⟨hv1,hv2⟩:=ho.vals xv (List.mem_of_getElem? hxv);obtain ⟨yv,hyv⟩:∃ yv,ys[j0]?=some yv:=⟨_,List.getElem?_eq_getElem (by omega)⟩;obtain ⟨hy1,hy2⟩:=hfy yv (List.mem_of_getElem? hyv);obtain ⟨ad5,rfl,i5,x5⟩:=b3.ixI hj1;obtain ⟨ad4,rfl,i6,x6⟩:=b4.ixU hxv;have hyu:(ys.map q2Q)[j0]?=some (.int .u64 (yv:Int)):=by rw [List.getElem?_map,hyv]; rfl
    have ij:(0:Int)≤(j0:Int)∧(j0:Int) < n:=by omega
    clear x2 x5 x6;obtain ⟨hmu,_⟩:=q2V hv2 hy2;refine q7l q0g (Kp (fun k=>k ∉ ([]:List Nat))) (fun _ _=>False) (Kp.pre _) [true,true,true,true,true,true,true,true,true,true,true,true,true,true,true,false] [false,false,false,false,false,false,false,false,false,false,false,false,false,false,false,false] [1,1,1,1,1,1,1,1,1,1,1,1,1,1,1,1] (by kernel_rfl) ?_
    apply Exists.intro
    refine ⟨fun wE hE KE hKE=>?_,fun wE hE KE hKE=>?_,fun wE hxE hr=>?_⟩
    ·skip
     replace hE:=Kp.all hE;replace hb2:=hb2.ext hE;replace b2:=b2.ext hE;replace b3:=b3.ext hE;replace b4:=b4.ext hE;replace hS:=hS.ext hE;replace hO:=hO.ext hE;refine Zz13 k9 q2 q6 q7 q8 hb2.c2 hb2.c3 i5 (inI b3 hj1) i6 (inU b4 hxv) ij (owG hO hyu) ?_;exact hKE
    ·exact hE.elim
    simp only [q1f,q1h,q1g];replace b2:=b2.ext hxE;replace b3:=b3.ext hxE;replace b4:=b4.ext hxE;replace hS:=hS.ext hxE;replace hO:=hO.ext hxE;replace hb2:=hb2.ext hxE;replace hx:=hx.trans hxE;clear hr;simp -implicitDefEqProofs (disch:=omega) only [go_sem,Nat.reduceEqDiff,Nat.reduceAdd,↓reduceIte,List.toList_toArray,k9,q2,q6,q7,q8,hb2.c2,hb2.c3,i5,(inI b3 hj1),i6,(inU b4 hxv),ij,(owG hO hyu)];have hw':=hxE.size;refine q0E qfk (q5f (hT.ext hx) hS hrk2 hv1 hy1 (q0m hv2) (q0m hy2) hmu (by rw [List.length_cons,q8y]; omega) (fun k hk=>by omega)) ?_;rintro _ w7 ⟨rfl,hk7,L',ss',hL1,hL2,hS7⟩; refine ⟨_,rfl,?_⟩;rw [hu,qg9 (by rw [show a+1+(p-(a+1))=p by omega]; exact hj1) (by rw [show a+1+(p-(a+1))=p by omega]; exact hxv) hyv,show p-(a+1)+1=p+1-(a+1) by omega,← hu] at hS7;have hlo:∀ j,j < N→j ∉ L:=fun j hj hm=>by have:=hS.lo j hm; omega
    replace b2:=b2.kpb hk7 hlo;replace b3:=b3.kpb hk7 hlo;replace b4:=b4.kpb hk7 hlo;replace hb2:=hb2.kp hk7 fun hm=>by have:=hS.lo _ hm; omega
    replace hx:=hx.under hk7 fun j hj=>hlo j (by omega);replace hO:=hO.kp hk7 fun a ha=>by cases ha; exact hgL
    have hgL7:gy ∉ L':=fun hm=>by
     rcases hL2 _ hm with h | h
     ·exact hgL h
     ·omega
    simp only [q0f,qhd];refine hK6 _ _ ?_; clear hK6;refine q0Q fun K9 hK9=>?_;refine Zz2 k9 @i64_in ?_;refine hK9 _ _ ?_; clear hK9 K9;exact ⟨⟨p+1,L',ss',rfl,by omega,by omega,hx,hb2,b2,b3,b4,hS7,hO,hgL7⟩,by simp only [q0F,↓reduceIte,RowKit.intOf,k9]; omega⟩
   ·have hlt2':¬ (p:Int) < b:=by omega
    refine q0B fun K5 hK5=>?_;refine q0A fun K hK=>?_;simp -implicitDefEqProofs (disch:=omega) only [go_sem,Nat.reduceEqDiff,Nat.reduceAdd,↓reduceIte,k9,q2,hb2.c1,q8,e2',i2,x2,hlt2'];refine hK _ _ ?_; clear hK K;refine Wf (q02 (hK2 _ _ ?_));obtain rfl:p=b:=by omega
    obtain ⟨S,hSS⟩:∃ S,S=q1O (ofZ u :: upT f ys (a+1) (p-(a+1))):=⟨_,rfl⟩;obtain ⟨q,hq⟩:∃ q,q=fQ 0 S dV:=⟨_,rfl⟩;have hqv:bwV f l ys k=q:=by
     unfold bwV;rw [← hk1,getD_some hcol.ha,getD_some hcb,← hu,show ((a:Int)).toNat=a by omega,show ((p:Int)).toNat=p by omega,← hSS,getD_some d1,q0o d2,hq]
    clear x2 i2;obtain ⟨_,hcc,i2,x2⟩:=b2.ixI hcol.ha;cases hcc;obtain ⟨ad4,rfl,i4,x4⟩:=b4.ixU d1;clear x2 x4;obtain ⟨s1,s2,s3⟩:=qda hro (List.mem_of_getElem? hrk2) (by omega);obtain ⟨D,hDq⟩:∃ D:Nat→Prop,D=fun _=>True:=⟨_,rfl⟩;have hDl:∀ k,Dl D [] k:=fun k=>⟨by rw [hDq]; trivial,by simp⟩;have hD:Fr (Dl D []) w6:=fun k _=>hDl k;have ik:(0:Int)≤(k:Int)∧(k:Int) < n:=by omega
    have hqu:=fun {w:World} {v v':Value} (hT:q1k w) (h:In (fV S) (Dl D []) v w) (h':In (fV dV) (Dl D []) v' w) (hf:Fr (Dl D []) w)=>qkH hT h h' (by omega) hf;rw [← hq] at hqu;refine q0B fun K3 hK3=>?_;refine q7l q0g (Kp (fun k=>k ∉ ([]:List Nat))) (fun _ _=>False) (Kp.pre _) [true,true,true,true,false,true,true,true,true,true,true,true,true,true,false,false,false,false] [false,false,false,false,false,false,false,false,false,false,false,false,false,false,false,false,false,false] [1,1,1,1,0,1,1,1,1,1,1,1,1,1,0,0,1,1] (by kernel_rfl) ?_
    apply Exists.intro
    refine ⟨fun wE hE KE hKE=>?_,fun wE hE KE hKE=>?_,fun wE hxE hr=>?_⟩
    ·skip
     replace hE:=Kp.all hE;replace hb2:=hb2.ext hE;replace b2:=b2.ext hE;replace b3:=b3.ext hE;replace b4:=b4.ext hE;replace hS:=hS.ext hE;replace hO:=hO.ext hE;refine Zz11 q2 q6 q7 q8 hb2.c1 hb2.c3 i2 (inI b2 hcol.ha) i4 (inU b4 d1) ik ?_;exact hKE
    ·exact hE.elim
    simp only [q1f,q1h,q1g];replace b2:=b2.ext hxE;replace b3:=b3.ext hxE;replace b4:=b4.ext hxE;replace hS:=hS.ext hxE;replace hO:=hO.ext hxE;replace hb2:=hb2.ext hxE;replace hD:=hD.kp hxE;replace hx:=hx.trans hxE;simp -implicitDefEqProofs (disch:=omega) only [go_sem,Nat.reduceEqDiff,Nat.reduceAdd,↓reduceIte,List.toList_toArray,q2,q6,q7,q8,hb2.c1,hb2.c3,i2,(inI b2 hcol.ha),i4,(inU b4 d1),ik];have hto:=qaB (hT.ext hx) (hS.sub (D':=Dl D []) fun k _ _=>hDl k) hrk2 (by omega) s2 s3 (fun k _=>hDl k) hD;rw [← hSS] at hto;refine Cr qnv (hto) fun v58 w58 hx58 h58=>?_;replace b2:=b2.ext hx58;replace b3:=b3.ext hx58;replace b4:=b4.ext hx58;replace hS:=hS.ext hx58;replace hO:=hO.ext hx58;replace hb2:=hb2.ext hx58;replace hD:=hD.kp hx58;replace hx:=hx.trans hx58;replace hr:=hr.trans (Kp.of_ext hx58);clear hx58;refine ⟨hr,?_⟩;refine Cr qcL (qfG (hT.ext hx) hdx d2 hD) fun v68 w68 hx68 h68=>?_;replace b2:=b2.ext hx68;replace b3:=b3.ext hx68;replace b4:=b4.ext hx68;replace hS:=hS.ext hx68;replace hO:=hO.ext hx68;replace h58:=h58.ext hx68;replace hb2:=hb2.ext hx68;replace hD:=hD.kp hx68;replace hx:=hx.trans hx68;replace hr:=hr.trans (Kp.of_ext hx68);clear hx68;refine ⟨hr,?_⟩;refine Ck qnw (hqu (hT.ext hx) h58 h68 hD) fun w69 hx69=>?_;replace b2:=b2.ext hx69;replace b3:=b3.ext hx69;replace b4:=b4.ext hx69;replace hS:=hS.ext hx69;replace hO:=hO.ext hx69;replace h58:=h58.ext hx69;replace h68:=h68.ext hx69;replace hb2:=hb2.ext hx69;replace hD:=hD.kp hx69;replace hx:=hx.trans hx69;replace hr:=hr.trans (Kp.of_ext hx69);clear hx69;refine ⟨hr,?_⟩;have hqlt:q < 18446744073709551616:=by rw [hq]; exact q9f (by omega)
    have hyl:(ys.map q2Q).length=n:=by rw [List.length_map]; exact hys
    refine qaM hO (by omega:k < n) qle rfl rfl fun w5 hO5 hk5 hs5=>?_;replace hS:=hS.kpo hk5 (fun _ h=>h) hgL;replace b2:=b2.kpb hk5 fun k hk=>by omega
    replace b3:=b3.kpb hk5 fun k hk=>by omega
    replace b4:=b4.kpb hk5 fun k hk=>by omega
    replace hb2:=hb2.kpne hk5 (by omega);replace hx:=hx.under hk5 fun k hk=>by omega
    have cy:=hO5.cell_set (by omega);have hO6:Own w5 N 40 1 (some ⟨gy,0,none⟩) n n ((ys.set k q).map q2Q):=by rw [List.map_set]; exact hO5
    clear hO hO5 hk5 hD;simp only [q0f];refine hK3 _ _ ?_; clear hK3;refine q0A fun K hK=>?_;refine Zz4 q7 q8 ik cy ?_;refine q0E qfl (q4q hqlt) ?_;rintro _ _ ⟨rfl,rfl⟩; refine ⟨_,rfl,?_⟩;rw [bwS,hqv] at hbw
    by_cases hfin:q09 q
    ·rw [if_pos hfin] at hbw;rw [decide_eq_true hfin];refine Zz ?_;refine hK _ _ ?_; clear hK;refine Wf (q0G (hK _ _ ?_));refine q0Q fun K9 hK9=>?_;refine Zz2 q8 @i64_in ?_;refine hK9 _ _ ?_; clear hK9 K9;exact ⟨⟨k,L,_,ys.set k q,ss,rfl,by omega,hx,hb2,b2,b3,b4,hS,hO6,hgL,hro,fun i hi=>by rw [List.getElem?_set_ne (by omega)]; exact hrw i (by omega),by rw [List.length_set]; exact hys,q52 hfy hqlt hfin,hbw⟩,by simp only [q0F,↓reduceIte,RowKit.intOf,k8]; omega⟩
    ·rw [if_neg hfin] at hbw;rw [decide_eq_false hfin];refine Zz ?_;refine hK _ _ ?_; clear hK;refine Wt ?_;refine Wz ?_;refine q0L ?_
     try simp only [q0D,q0O]
     refine q8C rfl ⟨_,rfl,hx,by rw [← hbw]; exact ⟨_,_,rfl,by simp only [q0F,Nat.reduceEqDiff,↓reduceIte]; exact In.sc_nil,by simp only [q0F,Nat.reduceEqDiff,↓reduceIte]; exact rfl⟩⟩
theorem qss {f:List Int × List Int × List Int × List Nat} {l:List Nat} (ho:FacOk ⟨f.1,f.2.1,f.2.2.1,f.2.2.2⟩) (hl:q2b l) (hn:l.length=f.1.length) :
  ACt 78 [q2A f,pF l] (fwP (bwS ⟨f.1,f.2.1,f.2.2.1,f.2.2.2⟩ l l.length (List.replicate l.length 0))):=q1M (r:=.fm (qnV _)) (fun D w v h=>qj4 (q3A h)) (q55 qsa fun D w vs hT hF hR=>by
 obtain ⟨_,_,rfl,h3,h4⟩:=q4c hR;obtain ⟨A,n,c,rfl,h6⟩:=q6O (f:=q2Q) h4;obtain rfl:n=l.length:=h6.sc_len.symm;exact q9s hT (qj5 h3) ho h6 hl hn hF)

section
variable {D:Nat→Prop} {w:World}
theorem ownE {w':World} {B E:Nat} (hb:Blk w' w.heap.size E #[]) (h:B≤w.heap.size):Own w' B E 1 (some ⟨w.heap.size,0,none⟩) 0 0 [] :=
 Own.made (w:=w') (w':=w) (B:=B) (sz:=1) (n:=0) (c:=0) (E:=E) (cur:=#[]) hb (Nat.le_refl _) (by simp [maxLen]) rfl h
theorem qdc {E g:Nat} {v:Value} (hb:Blk w g E #[v]):Row w (fun k=>k=g) 1 (some ⟨g,0,none⟩) 1 1 [v] :=
 ⟨Nat.le_refl _,rfl,fun _=>⟨⟨g,0,none⟩,rfl,rfl,fun j u hu=>by rw [q03,Nat.zero_add,hb.cell]; simpa using hu⟩⟩
theorem qhT {l:List Int}:∀ u ∈ l.map q1Q,u.oneCell'=true:=fun u hu=>by
 obtain ⟨z,_,rfl⟩:=List.mem_map.1 hu
 rfl
theorem qhQ {A:Option Addr} {n c N:Nat} {raw:List Nat} (hT:q1k w) (h:In (fSc q2Q raw) D (.slice A n c) w) (hn:n≤9223372036854775807) (hN:N≤1000000) (hf:Fr D w) :
  Calls Tryz.prog 26 #[.slice A n c,.int .i64 N] w (Rt (fSc q1Q (q3H raw N)) D w):=by
 refine q0H Tryz.func26 rfl Tryz.ntmps26 (by kernel_rfl) ?_;refine Wz ?_;refine q0A fun K hK=>?_;refine Zz ?_;refine q1Y fun w0 hx0 hb0 hs0=>?_;generalize hg:w.heap.size=g at hb0 hs0;refine hK _ _ ?_; clear hK;refine q0B fun K0 hK0=>?_;refine Wz ?_;have hO0:Own w0 g 3 1 (some ⟨g,0,none⟩) 0 0 (([]:List Int).map q1Q):=by
  have:=Own.made (w:=w0) (w':=w) (B:=g) (sz:=1) (n:=0) (c:=0) (E:=3) (cur:=#[]) (by rw [hg]; exact hb0) (Nat.le_refl _) (by simp [maxLen]) rfl Oq;rw [hg] at this;exact this
 have hd:=h.db (w':=w);rw [hg] at hd;refine q0W ?_;refine q08 (fun e2 w'=>∃ (i:Nat) (A':Option Addr) (c':Nat),e2 6=.int .i64 i∧e2 5=.slice A' i c'∧i≤N∧Ext w w'∧In (fSc q2Q raw) (Db D g) (.slice A n c) w'∧Own w' g 3 1 A' i c' ((q3H raw i).map q1Q)) (fun e2 _=>N-(RowKit.intOf (e2 6)).toNat) ⟨0,_,0,rfl,Ue,Nat.zero_le _,hx0,hd.ext hx0,hO0⟩ ?_;rintro e1 w1 ⟨i,A',c',k6,k5,hi,hx,hd,hO⟩ hkk;have k0:e1 0=.slice A n c:=(hkk 0 (by kernel_rfl)).trans Ue;have k1:e1 1=.int .i64 N:=(hkk 1 (by kernel_rfl)).trans Ue;clear hkk
 by_cases hlt:i < N
 ·have hlt':(i:Int) < N:=by omega
  refine q0B fun K1 hK1=>?_;refine Wz3 k6 k1 hlt' ?_;refine Wt (q0G (hK1 _ _ ?_));clear hK1;refine q0N fun K hK=>?_;have e1':IntKind.i64.wrap (700+(i:Int))=700+i:=i64_in Oq Oq;have e2':IntKind.i64.wrap ((i:Int)+1)=((i+1:Nat):Int):=by rw [i64_in Oq (by omega)]; omega
  have hw:=q3n raw (700+i);obtain ⟨at',hat⟩:∃ a,a=q0r ((q4t raw (700+i) / 2:Nat):Int) (i+1):=⟨_,rfl⟩;have hat2:at' < i+1:=by rw [hat]; exact q4h Oq
  have e3':IntKind.i64.wrap ((q4t raw (700+i) / 2:Nat):Int)=((q4t raw (700+i) / 2:Nat):Int):=i64_in Oq Oq;refine q0A fun K hK=>?_;refine Zz4 k0 k6 e1' e2' ?_;refine q0E qoD (qcf hd hn Oq Oq) ?_;rintro _ _ ⟨rfl,rfl⟩; refine ⟨_,rfl,?_⟩;refine Zz1 e3' ?_;refine q0E qfa (qa7 Oq Oq Oq Oq) ?_;rintro _ _ ⟨rfl,rfl⟩; refine ⟨_,rfl,?_⟩;rw [← hat];refine hK _ _ ?_; clear hK;refine qtj q0g (.one 1 (.one 2 (.one 3 (.one 5 (.one 8 (.one 9 (.one 10 (.alt (.one 0 (.alt (.one 4 (.one 6 (.one 7 (.one 11 (.one 12 .fin))))) (.one 6 (.one 4 (.one 7 (.one 11 (.one 12 .fin))))))) (.one 6 (.one 0 (.one 4 (.one 7 (.one 11 (.one 12 .fin)))))))))))))) (by kernel_rfl) fun KE wE hKE hxE=>?_;replace hx:=hx.trans hxE;simp only [q0f,qhd] at hKE;have q1:(0:Int)≤(at':Int)∧(at':Int)≤c':=by have:=hO.cap; omega
  have q2:(0:Int)≤(at':Int)∧(at':Int)≤i:=by omega
  simp -implicitDefEqProofs (disch:=omega) only [go_sem,Nat.reduceEqDiff,Nat.reduceAdd,↓reduceIte,q8f,q8g,qbT,q66,q8E,List.toList_toArray,k5,k6,q1,q2];replace hd:=hd.ext hxE;obtain ⟨M,hM⟩:∃ M,M=wE.heap.size:=⟨_,rfl⟩;have hgM:g≤M:=by have:=hx.size; omega
  obtain ⟨T,hTd⟩:∃ T,T=(q3H raw i).take at':=⟨_,rfl⟩;obtain ⟨U,hUd⟩:∃ U,U=(q3H raw i).drop at':=⟨_,rfl⟩;have hR0:Row wE (fun k=>k < M) 1 A' i c' ((q3H raw i).map q1Q):=(hO.ext hxE).row.sub fun k hk _=>by omega
  have hT1:Row wE (fun k=>k < M) 1 A' at' c' (T.map q1Q):=by
   have:=hR0.take (m:=at') Oq
   rwa [Nat.mul_one,← List.map_take,← hTd] at this
  have hU1:Row wE (fun k=>k < M) 1 (if c'=at' then A' else Option.map (fun x=>x.add at') A') (i-at') (c'-at') (U.map q1Q):=by
   have:=hR0.drop (m:=at') Oq
   rwa [Nat.mul_one,← List.map_drop,← hUd] at this
  refine ⟨?_,?_⟩
  ·refine q1Y fun w2 hx2 hb2 hs2=>?_;have hO2:Own w2 M 3 1 _ 0 0 (([]:List Int).map q1Q):=ownE hb2 Oq;have hs2':=hx2.size;replace hT1:=hT1.kp (Kp.of_ext hx2);replace hU1:=hU1.kp (Kp.of_ext hx2);replace hx:=hx.trans hx2;replace hd:=hd.ext hx2;refine ⟨?_,?_⟩
   ·refine q1y q6S rfl Oq hO2 hT1 qhT Oq Oq fun A4 c4 w4 hO4 hk4 hat4=>?_;have hs4:=hk4.size;replace hT1:=hT1.kp (hk4.mono fun k _ hk=>hO2.not_lt (B:=M) hk);replace hU1:=hU1.kp (hk4.mono fun k _ hk=>hO2.not_lt (B:=M) hk);replace hx:=hx.under hk4 fun k hk=>hO2.not_lt (B:=M) Oq;replace hd:=hd.kpb hk4 fun k hk=>hO2.not_lt (B:=M) Oq;refine q1Y fun w3 hx3 hb3 hs3=>?_;have hR3:Row _ _ 1 _ 1 1 ([(i:Int)].map q1Q):=qdc hb3;have hs3':=hx3.size;replace hT1:=hT1.kp (Kp.of_ext hx3);replace hU1:=hU1.kp (Kp.of_ext hx3);replace hx:=hx.trans hx3;replace hd:=hd.ext hx3;replace hO4:=hO4.ext hx3;refine q1y q6S rfl Oq hO4 hR3 qhT Oq Oq fun A6 c6 w6 hO6 hk6 hat6=>?_;have hs6:=hk6.size;replace hT1:=hT1.kp (hk6.mono fun k _ hk=>hO4.not_lt (B:=M) hk);replace hU1:=hU1.kp (hk6.mono fun k _ hk=>hO4.not_lt (B:=M) hk);replace hx:=hx.under hk6 fun k hk=>hO4.not_lt (B:=M) Oq;replace hd:=hd.kpb hk6 fun k hk=>hO4.not_lt (B:=M) Oq;refine q1y q6S rfl Oq hO6 hU1 qhT Oq Oq fun A9 c9 w9 hO9 hk9 hat9=>?_;have hs9:=hk9.size;replace hx:=hx.under hk9 fun k hk=>hO6.not_lt (B:=M) Oq;replace hd:=hd.kpb hk9 fun k hk=>hO6.not_lt (B:=M) Oq;replace hO9:=hO9.mono hgM;refine hKE _ _ ?_; clear hKE KE;refine hK _ _ ?_; clear hK;have hn:0+at'+1+(i-at')=i+1:=by omega
    rw [hn] at hO9 ⊢;have hle:(([]:List Int).map q1Q ++ T.map q1Q ++ [(i:Int)].map q1Q ++ U.map q1Q)=(q3H raw (i+1)).map q1Q:=by
     rw [← List.map_append,← List.map_append,← List.map_append,List.nil_append,q3H,hTd,hUd,hat]
    rw [hle] at hO9;refine q0Q fun K9 hK9=>?_;refine Zz2 k6 @i64_in ?_;refine hK9 _ _ ?_; clear hK9 K9;refine ⟨⟨i+1,A9,c9,rfl,Ue,by omega,hx,hd,hO9⟩,by simp only [q0F,↓reduceIte,RowKit.intOf,k6]; omega⟩
   ·refine q1Y fun w3 hx3 hb3 hs3=>?_;have hR3:Row _ _ 1 _ 1 1 ([(i:Int)].map q1Q):=qdc hb3;have hs3':=hx3.size;replace hT1:=hT1.kp (Kp.of_ext hx3);replace hU1:=hU1.kp (Kp.of_ext hx3);replace hx:=hx.trans hx3;replace hd:=hd.ext hx3;replace hO2:=hO2.ext hx3;refine q1y q6S rfl Oq hO2 hT1 qhT Oq Oq fun A4 c4 w4 hO4 hk4 hat4=>?_;have hs4:=hk4.size;replace hT1:=hT1.kp (hk4.mono fun k _ hk=>hO2.not_lt (B:=M) hk);replace hU1:=hU1.kp (hk4.mono fun k _ hk=>hO2.not_lt (B:=M) hk);replace hx:=hx.under hk4 fun k hk=>hO2.not_lt (B:=M) Oq;replace hd:=hd.kpb hk4 fun k hk=>hO2.not_lt (B:=M) Oq;replace hR3:=hR3.kp (hk4.mono fun k _ hk a ha=>by cases ha; simp only; omega);refine q1y q6S rfl Oq hO4 hR3 qhT Oq Oq fun A6 c6 w6 hO6 hk6 hat6=>?_;have hs6:=hk6.size;replace hT1:=hT1.kp (hk6.mono fun k _ hk=>hO4.not_lt (B:=M) hk);replace hU1:=hU1.kp (hk6.mono fun k _ hk=>hO4.not_lt (B:=M) hk);replace hx:=hx.under hk6 fun k hk=>hO4.not_lt (B:=M) Oq;replace hd:=hd.kpb hk6 fun k hk=>hO4.not_lt (B:=M) Oq;refine q1y q6S rfl Oq hO6 hU1 qhT Oq Oq fun A9 c9 w9 hO9 hk9 hat9=>?_;have hs9:=hk9.size;replace hx:=hx.under hk9 fun k hk=>hO6.not_lt (B:=M) Oq;replace hd:=hd.kpb hk9 fun k hk=>hO6.not_lt (B:=M) Oq;replace hO9:=hO9.mono hgM;refine hKE _ _ ?_; clear hKE KE;refine hK _ _ ?_; clear hK;have hn:0+at'+1+(i-at')=i+1:=by omega
    rw [hn] at hO9 ⊢;have hle:(([]:List Int).map q1Q ++ T.map q1Q ++ [(i:Int)].map q1Q ++ U.map q1Q)=(q3H raw (i+1)).map q1Q:=by
     rw [← List.map_append,← List.map_append,← List.map_append,List.nil_append,q3H,hTd,hUd,hat]
    rw [hle] at hO9;refine q0Q fun K9 hK9=>?_;refine Zz2 k6 @i64_in ?_;refine hK9 _ _ ?_; clear hK9 K9;refine ⟨⟨i+1,A9,c9,rfl,Ue,by omega,hx,hd,hO9⟩,by simp only [q0F,↓reduceIte,RowKit.intOf,k6]; omega⟩
  ·refine q1Y fun w3 hx3 hb3 hs3=>?_;have hR3:Row _ _ 1 _ 1 1 ([(i:Int)].map q1Q):=qdc hb3;have hs3':=hx3.size;replace hT1:=hT1.kp (Kp.of_ext hx3);replace hU1:=hU1.kp (Kp.of_ext hx3);replace hx:=hx.trans hx3;replace hd:=hd.ext hx3;refine q1Y fun w2 hx2 hb2 hs2=>?_;have hO2:Own w2 M 3 1 _ 0 0 (([]:List Int).map q1Q):=ownE hb2 Oq;have hs2':=hx2.size;replace hT1:=hT1.kp (Kp.of_ext hx2);replace hU1:=hU1.kp (Kp.of_ext hx2);replace hx:=hx.trans hx2;replace hd:=hd.ext hx2;replace hR3:=hR3.kp (Kp.of_ext hx2);refine q1y q6S rfl Oq hO2 hT1 qhT Oq Oq fun A4 c4 w4 hO4 hk4 hat4=>?_;have hs4:=hk4.size;replace hT1:=hT1.kp (hk4.mono fun k _ hk=>hO2.not_lt (B:=M) hk);replace hU1:=hU1.kp (hk4.mono fun k _ hk=>hO2.not_lt (B:=M) hk);replace hx:=hx.under hk4 fun k hk=>hO2.not_lt (B:=M) Oq;replace hd:=hd.kpb hk4 fun k hk=>hO2.not_lt (B:=M) Oq;replace hR3:=hR3.kp (hk4.mono fun k _ hk a ha=>by cases ha; simp only; omega);refine q1y q6S rfl Oq hO4 hR3 qhT Oq Oq fun A6 c6 w6 hO6 hk6 hat6=>?_;have hs6:=hk6.size;replace hT1:=hT1.kp (hk6.mono fun k _ hk=>hO4.not_lt (B:=M) hk);replace hU1:=hU1.kp (hk6.mono fun k _ hk=>hO4.not_lt (B:=M) hk);replace hx:=hx.under hk6 fun k hk=>hO4.not_lt (B:=M) Oq;replace hd:=hd.kpb hk6 fun k hk=>hO4.not_lt (B:=M) Oq;refine q1y q6S rfl Oq hO6 hU1 qhT Oq Oq fun A9 c9 w9 hO9 hk9 hat9=>?_;have hs9:=hk9.size;replace hx:=hx.under hk9 fun k hk=>hO6.not_lt (B:=M) Oq;replace hd:=hd.kpb hk9 fun k hk=>hO6.not_lt (B:=M) Oq;replace hO9:=hO9.mono hgM;refine hKE _ _ ?_; clear hKE KE;refine hK _ _ ?_; clear hK;have hn:0+at'+1+(i-at')=i+1:=by omega
   rw [hn] at hO9 ⊢;have hle:(([]:List Int).map q1Q ++ T.map q1Q ++ [(i:Int)].map q1Q ++ U.map q1Q)=(q3H raw (i+1)).map q1Q:=by
    rw [← List.map_append,← List.map_append,← List.map_append,List.nil_append,q3H,hTd,hUd,hat]
   rw [hle] at hO9;refine q0Q fun K9 hK9=>?_;refine Zz2 k6 @i64_in ?_;refine hK9 _ _ ?_; clear hK9 K9;refine ⟨⟨i+1,A9,c9,rfl,Ue,by omega,hx,hd,hO9⟩,by simp only [q0F,↓reduceIte,RowKit.intOf,k6]; omega⟩
 ·have hlt':¬ (i:Int) < N:=by omega
  refine q0B fun K1 hK1=>?_;refine Wz3 k6 k1 hlt' ?_;refine Wf (q02 (hK0 _ _ ?_));obtain rfl:i=N:=by omega
  refine Wz1 k5 ?_;refine q0L ?_
  try simp only [q0D,q0O]
  refine q0n rfl ⟨_,rfl,hx,by simp only [q0F,Nat.reduceEqDiff,↓reduceIte]; exact qmX hO fun k hk=>hf k Oq⟩
end
theorem qoZ (m:Int) (k:Nat) (h1:m.natAbs < 9007199254740992) (h2:k≤65561):bl (m*(2:Int) ^ k).natAbs≤66000:=by
 have h53:∀ n:Nat,n < 9007199254740992→bl n≤53:=fun n h=>q0T (Nat.lt_of_lt_of_le h (Nat.le_refl _))
 by_cases hm:m=0
 ·subst hm; rw [Int.zero_mul]; simp [q1d]
 ·rw [q0U,q1j (by omega)]; have:=h53 _ h1; omega
theorem qji {f:Nat} (h:f / 4503599627370496 % 2048≤1100):bl (ofZ f).natAbs≤66000:=by
 have hm:=Nat.mod_lt f (show 0 < 4503599627370496 by omega);have hfm:∃ (m:Int) (k:Nat),ofF f=some (m*(2:Int) ^ k)∧m.natAbs < 9007199254740992∧k≤65561:=by
  unfold ofF;rw [if_neg (by omega)];generalize f / 4503599627370496 % 2048=x at *;generalize f % 4503599627370496=m at *
  split
  ·exact ⟨_,64462,rfl,by rw [q1N]; omega,by omega⟩
  ·exact ⟨_,64461+x,rfl,by rw [q1N]; omega,by omega⟩
 obtain ⟨m,k,h1,h2,h3⟩:=hfm;rw [q0o h1];exact qoZ m k h2 h3
theorem qm4 {k x:Nat} (hk:k < 3) (hx:x < 18446744073709551616):bl (ofZ (q3L k x)).natAbs≤66000:=by
 by_cases h1:k=1
 ·subst h1;refine qji ?_;unfold q3L;rw [if_pos rfl];omega
 by_cases h2:k=2
 ·subst h2;refine qji ?_;unfold q3L;rw [if_neg (by omega),if_pos rfl];have h1:x / 9223372036854775808≤1:=by omega
  have h2:x / 256 % 81 < 81:=by omega
  have h3:x / 2251799813685248 % 2≤1:=by omega
  generalize x / 9223372036854775808=a at *;generalize x / 256 % 81=b at *;generalize x / 2251799813685248 % 2=c at *;omega
 have hs:=q6u x;unfold q3L;rw [if_neg h1,if_neg h2,if_neg (by omega),q0o (q4o (by omega))];exact qoZ _ 65536 (by omega) (by omega)
theorem qmZ:bl qqz.natAbs≤66000:=by
 have h:=q9V (z:=1) (by have:=q0T (n:=Int.natAbs 1) (k:=1) (by decide); omega);rw [q9S.1] at h;rw [Option.some.inj h];exact qoZ 1 65536 (by decide) (by omega)
theorem gF_bl {raw:List Nat} {R k:Nat} (hk:k < 3) {j i:Nat}:bl (ofZ ((gF raw R k j i).getD 0)).natAbs≤66000:=by
 unfold gF
 split
 ·exact qm4 hk (q3n _ _)
 ·rw [Option.getD_none,q0o qa4]; simp [q1d]
theorem qfW {raw:List Nat} {R k i:Nat} (hk:k < 3):∀ m,∀ x ∈ dgL (gF raw R k) i m,bl x.natAbs≤66000
 | 0,x,hx=>by unfold dgL at hx; simp at hx; subst hx; exact qmZ
 | m+1,x,hx=>by
  unfold dgL at hx
  split at hx
  ·exact qfW hk m x hx
  ·rcases List.mem_append.1 hx with hx | hx
   ·exact qfW hk m x hx
   ·simp at hx; subst hx;rw [Int.natAbs_natCast];exact gF_bl hk
theorem qsP {raw:List Nat} {n k:Nat} (hn:n≤100) (hk:k < 3):TOk (dfF (gF raw n k) n) n n:=by
 have hnn:n*n≤100*100:=Nat.mul_le_mul hn hn;have hG:=qr5 (raw:=raw) (R:=n) (C:=n) (st:=k) (by omega) (by omega) (by omega);have key:∀ i,i < n→q09 (fR 2 (q1O (dgL (gF raw n k) i n))):=fun i hi=>by
  have hl:=(qfV hG hi n (Nat.le_refl _)).1;have h1:=q5d (K:=66000) (qfW (raw:=raw) (R:=n) (i:=i) hk n) (i:=(dgL (gF raw n k) i n).length) (by omega);rw [List.take_length] at h1;obtain ⟨c,hc⟩:∃ c,c=900:=⟨_,rfl⟩;obtain ⟨K,hK⟩:∃ K,K=65536:=⟨_,rfl⟩;refine qrk hK hc (Nat.lt_of_lt_of_le (q2y _) ?_);rw [← Nat.pow_add];exact Nat.pow_le_pow_right (by omega) (by omega)
 refine ⟨hG.r,hG.c,hG.m,fun j i x hj hi h=>?_,fun j i x hj hi h=>?_⟩
 ·unfold dfF at h
  split at h
  ·have h:=Option.some.inj h; rw [← h]; exact fR_lt
  ·exact hG.u j i x hj hi h
 ·unfold dfF at h
  split at h
  ·have h:=Option.some.inj h; rw [← h]; exact key i hi
  ·exact hG.v j i x hj hi h
theorem qhR {raw:List Nat} {N:Nat} (hr:raw.length≤9223372036854775807) (hN:N≤1000000):ACt 26 [pF raw,iv N] (pI (q3H raw N)) :=
 q1M (r:=.fm (fSc q1Q (q3H raw N))) (fun D w v h=>qd0 (f:=q1Q) (fun x=>⟨rfl,rfl⟩) (q3A h)) (q55 qsi fun D w vs hT hF hR=>by
  obtain ⟨_,_,rfl,h3,h4⟩:=q4c hR;obtain ⟨A,n,c,rfl,h5⟩:=q6O (f:=q2Q) h3;rw [q3T h4];exact qhQ hT h5 (by have:=h5.sc_len; omega) hN hF)
noncomputable def qkG (raw:List Nat) (N k:Nat):List Int × List Int × List Int × List Nat :=
 q6Q (dfF (gF raw N k) N) (q3H raw N) (q2x (adT (qbn (dfF (gF raw N k) N) (q3H raw N) N)) N N) N
theorem wfh1 (xs:List Nat) {T:TypeId}:WfH (q05 h0 5000 ⟨T,none,xs.map fun z:Nat=>uv z,false⟩):=⟨fun i b hb=>by
 by_cases hi:i=5000
 ·subst hi;rw [q0X] at hb; cases hb;exact ⟨rfl,IdL.of fun x hx=>by obtain ⟨z,_,rfl⟩:=List.mem_map.1 hx; unfold IdP; trivial⟩
 ·rw [q0P hi] at hb; cases hb⟩
theorem qib {xs:List Nat}:q3a (q05 h0 5000 ⟨40,none,xs.map fun z:Nat=>uv z,false⟩) (.ow 5000 none 0 xs.length)=some (pF xs,[5000]):=by
 unfold q3a;dsimp only;rw [q0X,Option.bind_some,if_pos ⟨rfl,rfl,fun x hx=>by obtain ⟨z,_,rfl⟩:=List.mem_map.1 hx; trivial⟩,List.drop_zero,List.take_of_length_le (by rw [List.length_map]; exact Nat.le_refl _)]
theorem qiR {raw:List Nat} {n st:Int} (hr:raw.length≤9223372036854775807) (h1 : -9223372036854775808≤n) (h2:n≤9223372036854775807) (h3 : -9223372036854775808≤st) (h4:st≤9223372036854775807) (hp:q3I (q3H raw (q0r n 6)) (q0r n 6)) :
  q7m 11 [pF raw,iv n,iv st] h0 (qbq (qkG raw (q0r n 6) (q0r (q0r st 3:Nat) 4))) (q05 h0 5000 ⟨40,none,(qkG raw (q0r n 6) (q0r (q0r st 3:Nat) 4)).2.2.2.map fun z:Nat=>uv z,false⟩):=by
 have hJ:∀ i,¬ (h0 i≠none):=fun i h=>h rfl;have hJe:(fun i=>(h0:Hp) i≠none)=fun _=>False:=funext fun i=>eq_false (hJ i);have hN:q0r n 6 < 6:=by unfold q0r; omega
 have hk:q0r (q0r st 3:Nat) 4 < 3:=by unfold q0r; omega
 have cM:=q8I (a:=n) (n:=6) h1 h2 (by omega) (by omega);have cD:=q9h (raw:=raw) (n:=q0r n 6) hr (by omega) h3 h4;have cO:=qhR (raw:=raw) (N:=q0r n 6) hr (by omega);have cL:q7m 50 _ h0 (.tu [qbq (qkG raw (q0r n 6) (q0r (q0r st 3:Nat) 4)),.un,.un]) (q05 h0 5000 ⟨40,none,(qkG raw (q0r n 6) (q0r (q0r st 3:Nat) 4)).2.2.2.map fun z:Nat=>uv z,false⟩):=qrU (qsP (raw:=raw) (n:=q0r n 6) (by omega) hk) (by omega) hp;generalize qkG _ _ _=res at *;unfold qbq at *;generalize dfF _ _=F at *;unfold pT q5D at *;generalize (tM F (q0r n 6) (q0r n 6)).1=ms at *;generalize (tM F (q0r n 6) (q0r n 6)).2.1=mi at *;generalize (tM F (q0r n 6) (q0r n 6)).2.2=mv at *;refine qc8 qsq Tryz.func11 rfl Tryz.ntmps11 (by kernel_rfl) ?_ ?_ ?_ ?_
 ·intro i b hb; cases hb
 ·intro i b hb
  by_cases hi:i=5000
  ·subst hi; exact ⟨by omega,by omega⟩
  ·rw [q0P hi] at hb; cases hb
 ·exact IdL.of fun x hx=>by
   simp at hx
   rcases hx with rfl | rfl | rfl <;> unfold IdP <;> trivial
 rw [hJe];refine wk ?_;refine q8k fun K hK=>?_;refine Zz ?_;refine jc ?_
 try refine Zz ?_
 refine q2D cD ?_
 try refine Zz ?_
 refine jc ?_
 try refine Zz ?_
 refine q2D cO ?_
 try refine Zz ?_
 refine jmF cL ?_ ?_
 ·repeat (first | exact q0b | exact q2k | exact q2h | exact q2j (by simp [nmW]) (by simp [nmW]) | refine q2i (by omega) ?_)
 try refine Zz ?_
 refine hK _ _ ?_; clear hK K;refine wk ?_;refine (rtM (rs:=[.cell 6 26]) rfl rfl Lq ?_ (.inl rfl));refine LeF ?_ (fun i b hb=>?_) (wfh1 _) (.ag rfl fun i x y hx hy=>?_)
 ·repeat (first | exact q0b | exact q2k | exact q2h | exact q2j (by simp [nmW]) (by simp [nmW]) | refine q2i (by omega) ?_)
 ·by_cases hi:i=5000
  ·subst hi; exact ⟨by omega,by omega⟩
  ·rw [q0P hi] at hb; cases hb
 ·rcases i with _ | _ | _ | _ | i
  ·cases hx; cases hy; exact .cl trivial
  ·cases hx; cases hy; exact .cl trivial
  ·cases hx; cases hy; exact .cl trivial
  ·cases hx; cases hy; exact .ow rfl q0X
  ·simp at hx

end Go.Proofs.YtjamnehcmaloeaaGreatDoor
namespace Go.Sp
open Go Go.E
theorem qqV {z:Int} {K:Nat}:decide (z*(2:Int) ^ K < 0)=decide (z < 0):=by
 have hp:=q07 K;rw [decide_eq_decide]
 constructor
 ·intro h
  rcases Int.lt_or_le z 0 with h1 | h1
  ·exact h1
  ·have:=Int.mul_nonneg h1 (Int.le_of_lt hp); omega
 ·intro h; exact Int.mul_neg_of_neg_of_pos h hp
theorem rF_K {z y:Int} {neg:Bool} (K:Nat) (hz:z≠0) (hy:y≠0):rF 0 neg (z*(2:Int) ^ K).natAbs (y*(2:Int) ^ K).natAbs=rF 0 neg z.natAbs y.natAbs:=by
 rw [q0U,q0U];exact q5V Oq Oq (q0R K)
theorem fQ_K {z y:Int} (K:Nat) (hz:z≠0) (hy:y≠0):fQ 0 (z*(2:Int) ^ K) (y*(2:Int) ^ K)=rF 0 (decide (z < 0) != decide (y < 0)) z.natAbs y.natAbs:=by
 have hp:=q07 K;unfold fQ;rw [if_neg (Int.mul_ne_zero hz (Int.ne_of_gt hp)),qqV,qqV,rF_K K hz hy]
theorem qnA:flz 1=4607182418800017408:=by
 have h1:flz 1=fQ 0 (1*(2:Int) ^ 65536) (1*(2:Int) ^ 65536):=by
  have:=qan (x:=1) (y:=1) Oq Oq;rw [Int.one_mul] at this;exact this.symm
 rw [h1,fQ_K 65536 Oq (by omega)]
 show rF 0 false 1 1=4607182418800017408
 kernel_rfl
theorem quo32 (K:Nat):fQ 0 (3*(2:Int) ^ K) (2*(2:Int) ^ K)=4609434218613702656:=by
 rw [fQ_K K Oq (by omega)]
 show rF 0 false 3 2=4609434218613702656
 kernel_rfl
end Go.Sp
namespace Go.Proofs.YtjamnehcmaloeaaGreatDoor
open Go Go.E Go.Sp
def qc5:Fac:=⟨[0,1],[0,2,3],[0,1,1],[flz 2,flz 1,flz 2]⟩
theorem qem {z:Int} (h1:0 < z) (h2:z.natAbs≤9) {a:Nat} {l:List Nat} (hl:l[a]?=some (flz z)):∃ (x:Nat) (V:Int),l[a]?=some x∧ofF x=some V∧0 < V:=⟨_,_,hl,q4o Oq,Int.mul_pos h1 (q07 _)⟩
theorem qnS:FacOk qc5:=by
 refine ⟨⟨fun x hx=>?_,by decide⟩,by decide,by simp [qc5],by simp [qc5],by simp [qc5],rfl,by simp [qc5],fun j hj=>?_,fun x hx=>?_⟩
 ·have hx':x ∈ ([0,1]:List Int):=hx;have hl:(qc5.pm.length:Int)=2:=rfl;rw [hl];simp at hx'; omega
 ·have hj':j < 2:=hj
  rcases (by omega:j=0∨j=1) with rfl | rfl
  ·refine ⟨0,2,rfl,rfl,by omega,by decide,rfl,⟨1,rfl,by decide⟩,fun i h1 h2=>?_,qem (z:=2) Oq Oq rfl⟩;obtain rfl:i=1:=by omega
   exact ⟨0,1,rfl,rfl,by omega⟩
  ·exact ⟨2,3,rfl,rfl,by omega,by decide,rfl,⟨1,rfl,by decide⟩,fun i h1 h2=>by omega,qem (z:=2) Oq Oq rfl⟩
 ·have hx':x ∈ [flz 2,flz 1,flz 2]:=hx;simp only [List.mem_cons,List.not_mem_nil,or_false] at hx';have hh:∀ z:Int,z.natAbs≤9→x=flz z→x < 18446744073709551616∧q09 x:=fun z hz h=>by rw [h]; exact ⟨qen Oq,q7U Oq⟩
  exact hx'.elim (hh 2 Oq) fun h=>h.elim (hh 1 Oq) (hh 2 Oq)
theorem qfE {K:Nat} (hK:K=65536):q8p qc5 [((0:Nat):Int),((1:Nat):Int)] [[(8:Int)*(2:Int) ^ K],[(7:Int)*(2:Int) ^ K]] [0,0]=some [flz 4,4609434218613702656]:=by
 have h2:ofZ (flz 2)=2*(2:Int) ^ K:=by rw [hK]; exact q0o (q4o Oq)
 have hm:q6K (flz 1) (flz 4)=1*4*(2:Int) ^ K:=by rw [hK]; exact qhW Oq Oq
 rw [q4S (a:=0) (b:=2) (x:=flz 2) (r:=[(8:Int)*(2:Int) ^ K]) rfl rfl rfl rfl];have e1:fQ 0 (q1O [(8:Int)*(2:Int) ^ K]) (ofZ (flz 2))=flz 4:=by
  rw [qaJ,h2];have:=qan (x:=4) (y:=2) Oq Oq;rw [← hK] at this;exact this
 rw [e1,if_pos (q7U Oq)];have e2:qcX qc5 (flz 4) (0+1) (2-(0+1)) [[(8:Int)*(2:Int) ^ K],[(7:Int)*(2:Int) ^ K]]=[[(8:Int)*(2:Int) ^ K],[(7:Int)*(2:Int) ^ K,-(1*4*(2:Int) ^ K)]]:=by
  have:=q5g (f:=qc5) (q:=flz 4) (p:=1) (c:=0) (i:=1) (x:=flz 1) (rows:=[[(8:Int)*(2:Int) ^ K],[(7:Int)*(2:Int) ^ K]]) (r:=[(7:Int)*(2:Int) ^ K]) rfl rfl rfl;rw [hm] at this;exact this
 rw [e2,q4S (a:=2) (b:=3) (x:=flz 2) (r:=[(7:Int)*(2:Int) ^ K,-(1*4*(2:Int) ^ K)]) rfl rfl rfl rfl];have e3:q1O [(7:Int)*(2:Int) ^ K,-(1*4*(2:Int) ^ K)]=3*(2:Int) ^ K:=by
  have h1:=q2F [(7:Int)*(2:Int) ^ K] (-(1*4*(2:Int) ^ K));rw [qaJ] at h1;have h2:([(7:Int)*(2:Int) ^ K] ++ [-(1*4*(2:Int) ^ K)])=[(7:Int)*(2:Int) ^ K,-(1*4*(2:Int) ^ K)]:=rfl;rw [h2] at h1;rw [h1]; omega
 rw [e3,h2,quo32,if_pos (by decide)]
 rfl
theorem qiS:q8p qc5 (q6L 2) ([flz 8,flz 7].map fun x=>[ofZ x]) (List.replicate 2 0)=some [flz 4,4609434218613702656]:=by
 have h8:ofZ (flz 8)=8*(2:Int) ^ 65536:=q0o (q4o Oq);have h7:ofZ (flz 7)=7*(2:Int) ^ 65536:=q0o (q4o Oq);have hu:q6L 2=[((0:Nat):Int),((1:Nat):Int)]:=rfl;have hr:List.replicate 2 0=[0,0]:=rfl;rw [List.map_cons,List.map_cons,List.map_nil,h8,h7,hu,hr];exact qfE rfl
theorem qiQ {x:Nat} {l:List Int} (hl:∀ z ∈ l,z.natAbs≤9) (h:x ∈ l.map flz):x < 18446744073709551616∧q09 x:=by
 obtain ⟨z,hz,rfl⟩:=List.mem_map.1 h;have:=hl z hz;exact ⟨qen Oq,q7U Oq⟩
theorem q7S {D:Nat→Prop} {z:Int} {w:World} (hT:q1k w) (hz:z.natAbs≤9) (hf:Fr D w):Calls Tryz.prog 55 #[.int .i64 z,.int .i64 0] w fun x w'=>x=.returned (.int .u64 (flz z:Nat))∧Ext w w' :=
 q5p hT Oq Oq (q9V (by have:=q0T (n:=z.natAbs) (k:=4) (by omega); omega)) hf
theorem q8L {α:Type} {f:α→Value} {xs:List α} {D:Nat→Prop} {w:World} {g E k:Nat} (hb:Blk w g E ⟨xs.map f⟩) (hk:k=xs.length) (hd:D g):In (fSc f xs) D (.slice (some ⟨g,0,none⟩) k k) w:=by
 subst hk;refine ⟨some ⟨g,0,none⟩,xs.length,xs.length,rfl,Nat.le_refl _,by simp,fun _=>⟨⟨g,0,none⟩,rfl,hd,fun j u hu=>?_⟩⟩;rw [q03,Nat.zero_add,hb.cell];simpa using hu
theorem qim {w:World} (hT:q1k w):Calls Tryz.prog 14 #[] w fun e w'=>e=.returned (.bool true)∧Ext w w':=by
 have hx:Ext w w:=Kp.refl _ _;have hf:Fr (fun _=>True) w:=Fr.triv _;obtain ⟨c2,hc2⟩:∃ c,c=flz 2:=⟨_,rfl⟩;obtain ⟨c4,hc4⟩:∃ c,c=flz 4:=⟨_,rfl⟩;obtain ⟨c8,hc8⟩:∃ c,c=flz 8:=⟨_,rfl⟩;obtain ⟨c7,hc7⟩:∃ c,c=flz 7:=⟨_,rfl⟩;have f2:=fun {w:World} (hT:q1k w)=>q7S (D:=fun _=>True) (z:=2) hT Oq (Fr.triv _);have f4:=fun {w:World} (hT:q1k w)=>q7S (D:=fun _=>True) (z:=4) hT Oq (Fr.triv _);have f8:=fun {w:World} (hT:q1k w)=>q7S (D:=fun _=>True) (z:=8) hT Oq (Fr.triv _);have f7:=fun {w:World} (hT:q1k w)=>q7S (D:=fun _=>True) (z:=7) hT Oq (Fr.triv _);rw [← hc2] at f2;rw [← hc4] at f4;rw [← hc8] at f8;rw [← hc7] at f7;refine q0H Tryz.func14 rfl Tryz.ntmps14 (by kernel_rfl) ?_;refine Wz ?_;refine q0A fun K hK=>?_;refine Zz ?_;refine Ck qcM (f2 (hT.ext hx)) fun w8 hx8=>?_;replace hx:=hx.trans hx8;clear hx8;refine Ck qcM (f4 (hT.ext hx)) fun w9 hx9=>?_;replace hx:=hx.trans hx9;clear hx9;refine Ck qcM (f8 (hT.ext hx)) fun w10 hx10=>?_;replace hx:=hx.trans hx10;clear hx10;refine Ck qcM (f7 (hT.ext hx)) fun w11 hx11=>?_;replace hx:=hx.trans hx11;clear hx11;refine hK _ _ ?_; clear hK;refine q0A fun K hK=>?_;refine Zz ?_;refine q1Y fun w12 hx12 hb12 hs12=>?_;replace hx:=hx.trans hx12;have h12:In (fSc q1Q [0,1]) (fun _=>True) _ w12:=q8L (k:=2) hb12 rfl trivial;refine q1Y fun w13 hx13 hb13 hs13=>?_;replace h12:=h12.ext hx13;replace hx:=hx.trans hx13;have h13:In (fSc q1Q [0,2,3]) (fun _=>True) _ w13:=q8L (k:=3) hb13 rfl trivial;refine q1Y fun w14 hx14 hb14 hs14=>?_;replace h12:=h12.ext hx14;replace h13:=h13.ext hx14;replace hx:=hx.trans hx14;have h14:In (fSc q1Q [0,1,1]) (fun _=>True) _ w14:=q8L (k:=3) hb14 rfl trivial;refine q1Y fun w17 hx17 hb17 hs17=>?_;replace h12:=h12.ext hx17;replace h13:=h13.ext hx17;replace h14:=h14.ext hx17;replace hx:=hx.trans hx17;have h17:In (fSc q2Q [c2,4607182418800017408,c2]) (fun _=>True) _ w17:=q8L (k:=3) hb17 rfl trivial;have hf5:In (qpR ⟨[0,1],[0,2,3],[0,1,1],[c2,4607182418800017408,c2]⟩) (fun _=>True) (.agg #[_,_,_,_]) w17:=⟨_,_,_,_,rfl,h12,h13,h14,h17⟩
 have hfd:(⟨[0,1],[0,2,3],[0,1,1],[c2,4607182418800017408,c2]⟩:Fac)=qc5:=by unfold qc5; rw [qnA,hc2]
 rw [hfd] at hf5;replace hf5:=hf5.db (w':=w17);clear h12 h13 h14 h17 hfd hb12 hb13 hb14 hb17;refine Zz ?_;have hs0:=hx.size;refine q0k ?_;intro g w5 hg5 hx5 hb5 hs5;replace hf5:=hf5.ext hx5;replace hx:=hx.trans hx5;refine q0V hb5 qqM rfl rfl fun w6 hk6 hb6=>?_;replace hf5:=hf5.kpb hk6 fun k hk=>by omega
 replace hx:=hx.under hk6 fun k hk=>by have:=hx.size; omega
 refine hK _ _ ?_; clear hK;have h0:(0:Int)=0:=rfl;refine q0A fun K hK=>?_;refine Zz1 hb6.l4 ?_;refine q1Y fun w23 hx23 hb23 hs23=>?_;replace hf5:=hf5.ext hx23;replace hb6:=hb6.ext hx23;replace hx:=hx.trans hx23;have h23:In (fSc q2Q [flz 8,flz 7]) (fun _=>True) _ w23:=q8L (k:=2) (by rw [← hc8,← hc7]; exact hb23) rfl trivial;have hfin:q2b [flz 8,flz 7]:=fun x hx=>qiQ (l:=[8,7]) (fun z hz=>by simp at hz; omega) hx;have hlow:=qeQ (hT.ext hx) hf5.all qnS h23 hfin rfl (Fr.triv _);rw [show q8p ⟨[0,1],[0,2,3],[0,1,1],[flz 2,flz 1,flz 2]⟩ (q6L 2) ([flz 8,flz 7].map fun x=>[ofZ x]) (List.replicate 2 0)=_ from qiS] at hlow;refine Cr qso hlow fun v24 w24 hx24 h24=>?_;replace hf5:=hf5.ext hx24;replace h23:=h23.ext hx24;replace hb6:=hb6.ext hx24;replace hx:=hx.trans hx24;obtain ⟨a24,b24,rfl,h25,h26⟩:=h24;have h26':b24=.int .i64 0:=h26;subst h26';obtain ⟨A25,n25,c25,rfl,h25'⟩:=id h25;have hl25:=In.sc_len h25;obtain rfl:n25=2:=hl25.symm;rw [← hc4] at h25;replace h25:In (fSc q2Q [c4,4609434218613702656]) (fun _=>True) (.slice A25 2 c25) w24:=h25;obtain ⟨ad,rfl,i0,x0⟩:=h25.ixU (i:=0) rfl;obtain ⟨_,hcc,i1,x1⟩:=h25.ixU (i:=1) rfl;cases hcc;have i0':(0:Int)≤0∧(0:Int) < (2:Nat):=by omega
 have i1':(0:Int)≤1∧(1:Int) < (2:Nat):=by omega
 have x0':w24.cell? ad=some (.int .u64 c4):=x0;have x1':w24.cell? ⟨ad.block,ad.off+1,none⟩=some (.int .u64 (4609434218613702656:Nat)):=x1;have q1:((0:Int) == 0)=true:=rfl;have q2:(((2:Nat):Int) == 2)=true:=rfl;have q3:((c4:Int) == c4)=true:=by simp
 have q4:(((4609434218613702656:Nat):Int) == 4609434218613702656)=true:=rfl;have q5:(1:Int).toNat=1:=rfl;refine Zz ?_;refine hK _ _ ?_; clear hK;refine q0A fun K hK=>?_;simp -implicitDefEqProofs (disch:=omega) only [go_sem,Nat.reduceEqDiff,Nat.reduceAdd,↓reduceIte,q1,q2,q3,q4,i0',i1',x0',x1',q5,Int.toNat_zero];refine hK _ _ ?_; clear hK K;refine q0L ?_
 try simp only [q0D,q0O]
 refine q0n rfl ⟨by simp only [q0F,Nat.reduceEqDiff,↓reduceIte],hx⟩
section
variable {F:Nat→Nat→Option Nat} {l:List Int} {cs:List Nat} {cols:List (List Nat)} {j n M:Nat} {p:LSt}
theorem qjv (h1:p.2.1.length=p.2.2.length) (h2:∀ x ∈ p.2.2,x < 18446744073709551616):∀ (c:Nat) (q:LSt),lcC F l cs j p c=some q→q.2.1.length=p.2.1.length+c∧q.2.1.length=q.2.2.length∧∀ x ∈ q.2.2,x < 18446744073709551616
 | 0,q,h=>by cases h; exact ⟨rfl,h1,h2⟩
 | c+1,q,h=>by
  unfold lcC at h;cases hq:lcC F l cs j p c with
  | none=>rw [hq] at h; cases h
  | some r =>
   obtain ⟨a1,a2,a3⟩:=qjv h1 h2 c r hq;rw [hq,Option.bind_some] at h;cases hv:lcV (q1O (lcS F l r.1 (cs.getD c 0) j j)) r.1 (cs.getD c 0) j with
   | none=>rw [hv] at h; cases h
   | some v =>
    rw [hv] at h;cases h;refine ⟨by simp; omega,by simp; omega,fun x hx=>?_⟩
    rcases List.mem_append.1 hx with hx | hx
    ·exact a3 x hx
    ·simp at hx; subst hx; exact (qh7 hv).2
theorem qju (hM:∀ j,(cols.getD j []).length≤M):∀ (j:Nat) (q:List Int × LSt),lcM F l cols j=some q→q.1.length=j+1∧q.2.2.1.length≤j*M∧q.2.2.1.length=q.2.2.2.length∧∀ x ∈ q.2.2.2,x < 18446744073709551616
 | 0,q,h=>by cases h; exact ⟨rfl,by simp,rfl,fun x hx=>by cases hx⟩
 | j+1,q,h=>by
  unfold lcM at h;cases hq:lcM F l cols j with
  | none=>rw [hq] at h; cases h
  | some r =>
   obtain ⟨a1,a2,a3,a4⟩:=qju hM j r hq;rw [hq,Option.bind_some] at h;cases hc:lcC F l (cols.getD j []) j r.2 (cols.getD j []).length with
   | none=>rw [hc] at h; cases h
   | some s =>
    rw [hc] at h;cases h;obtain ⟨b1,b2,b3⟩:=qjv a3 a4 _ s hc;have:=hM j;refine ⟨by simp; omega,?_,b2,b3⟩;rw [Nat.succ_mul];dsimp only;omega
end
structure FSh (f:List Int × List Int × List Int × List Nat):Prop where
 p:f.1.length≤100
 c:f.2.1.length≤1000000
 r:f.2.2.1.length≤1000000
 v:f.2.2.2.length≤1000000
 u:∀ x ∈ f.2.2.2,x < 18446744073709551616
theorem qnR {raw:List Nat} {N k:Nat} (hN:N≤100):FSh (qkG raw N k):=by
 unfold qkG;have hl:=q7I raw N;have hM:∀ j,((q2x (adT (qbn (dfF (gF raw N k) N) (q3H raw N) N)) N N).getD j []).length≤N+1:=fun j=>by
  unfold q2x;rw [List.getD_eq_getElem?_getD,List.getElem?_map]
  rcases Nat.lt_or_ge j N with hj | hj
  ·rw [List.getElem?_range hj]; exact qav
  ·rw [List.getElem?_eq_none (by simpa using hj)]; simp
 generalize q2x (adT (qbn (dfF (gF raw N k) N) (q3H raw N) N)) N N=cols at *;unfold q6Q;cases hq:lcM (dfF (gF raw N k) N) (q3H raw N) cols N with
 | none=>exact ⟨by simp,by simp,by simp,by simp,by simp⟩
 | some q =>
  obtain ⟨a1,a2,a3,a4⟩:=qju hM N q hq;have:N*(N+1)≤100*101:=Nat.mul_le_mul hN (by omega);exact ⟨by dsimp only; omega,by dsimp only; omega,by dsimp only; omega,by dsimp only; omega,a4⟩
theorem qin:ACt 14 [] (bv true):=qgT qsn fun D w vs hT hF hR=>by
 unfold RdL at hR;subst hR;exact qim hT
theorem qcl {raw:List Nat} {k:Int} {st n:Nat}:q2b (q8w raw k st n):=fun x hx=>by
 unfold q8w at hx;obtain ⟨i,_,rfl⟩:=List.mem_map.1 hx;have:=qeD (k:=st) (q3n raw (k+i));exact ⟨this.2,this.1⟩
theorem q9W {L:List (List Nat)} {b:List Nat}:∀ (m k:Nat) (ys zs:List Nat),loF L b m k ys=some zs→zs.length=ys.length
 | 0,_,_,_,h=>by cases h; rfl
 | m+1,k,ys,zs,h=>by
  rw [loF] at h
  split at h
  ·rw [q9W m (k+1) _ zs h,List.length_set]
  ·cases h
theorem q8z {L:List (List Nat)} {b:List Nat} {n:Nat}:∀ (k:Nat) (ys zs:List Nat),upF L b n k ys=some zs→zs.length=ys.length
 | 0,_,_,h=>by cases h; rfl
 | k+1,ys,zs,h=>by
  rw [upF] at h
  split at h
  ·rw [q8z k _ zs h,List.length_set]
  ·cases h
theorem qgn {raw:List Nat} {n st:Nat} {sp:Int}:(∀ x ∈ qbd raw n st sp,x < 18446744073709551616)∧(qbd raw n st sp).length≤n+1:=by
 have hb:q2b (q8w raw 30 st n):=qcl;have hl:(q8w raw 30 st n).length=n:=q6m;unfold qbd
 split
 ·refine ⟨fun x hx=>?_,by simp; omega⟩
  rcases List.mem_append.1 hx with hx | hx
  ·exact (hb x hx).1
  ·simp at hx; omega
 split
 ·refine ⟨fun x hx=>?_,by rw [List.length_set]; omega⟩
  rcases List.mem_or_eq_of_mem_set hx with hx | rfl
  ·exact (hb x hx).1
  ·exact q3n raw 1
 ·exact ⟨fun x hx=>(hb x hx).1,by omega⟩
def AR (f:FuncId) (al:List PV) (r:PV):Prop :=
 q0C Tryz.prog f=true∧∀ (D E:Nat→Prop) (w:World) (vs:List Value),q1k w→Fr E w→RdL w D al (fun _=>none) h0 vs→Calls Tryz.prog f vs.toArray w fun x w'=>∃ v,x=.returned v∧Ext w w'∧Rd w' E r (fun _=>none) h0 v
def qgG (x:PV):Prop:=∀ (w:World) (D D':Nat→Prop) (ρ:Nat→Option Nat) (h:Hp) (v:Value),Rd w D x ρ h v→Rd w D' x ρ h v
theorem qsO {v:Value}:qgG (.vl v):=fun w D D' ρ h y hr=>by unfold Rd at hr ⊢; exact hr
theorem df_ow {id off n:Nat} {k:Kd}:qgG (.ow id k off n):=fun w D D' ρ h y hr=>by unfold Rd at hr ⊢; exact hr
theorem df_L {l:List PV} (hl:∀ y ∈ l,qgG y) {w:World} {D D':Nat→Prop} {ρ:Nat→Option Nat} {h:Hp} {vs:List Value} (hr:RdL w D l ρ h vs):RdL w D' l ρ h vs:=by
 obtain ⟨h1,h2⟩:=RdL.iff.1 hr;exact RdL.iff.2 ⟨h1,fun t x v ht hv=>hl x (List.mem_of_getElem? ht) _ _ _ _ _ _ (h2 t x v ht hv)⟩
theorem qpE {f:FuncId} {al l cl:List PV} {ids:List Nat} {hout:Hp} (hM:ACm Tryz.prog q1k f al h0 (.tu l) hout) (hl:∀ y ∈ l,qgG y) (hb:∀ i b,hout i=some b→∀ y ∈ b.xs,qgG y) (hc:q39 hout l=some (cl,ids)):AR f al (.tu cl):=by
 refine ⟨hM.ca,fun D E w vs hT hF hR=>?_⟩;have hlen:=hR.len;obtain ⟨D0,hD0⟩:∃ D0:Nat→Prop,D0=fun k=>D k∨w.heap.size≤k:=⟨_,rfl⟩;have hF0:Fr D0 w:=fun k hk=>by rw [hD0]; exact .inr hk
 have hdm:dm D0 (fun _=>none) h0=D0:=by
  funext k
  exact propext ⟨fun h=>h.1,fun h=>⟨h,fun i b hi=>by cases hi⟩⟩
 have S:Sat D0 ⟨w,fun k=>k < w.heap.size,fun _ _ _=>False,fun _ _=>False,fun _ h=>h,fun _ _ h=>h.elim⟩ (enP al) h0 (fun _=>none) (q4j vs) w:=by
  refine ⟨fun i j b c g hi=>(by cases hi),fun i b g hi=>(by cases hi),fun i b hi=>(by cases hi),fun t=>?_,Kp.refl _ _,hF0,fun _ _ _ h=>h.elim,fun _ _ h=>h.elim⟩;rw [hdm];obtain ⟨h1,h2⟩:=RdL.iff.1 (hR.sub (D':=D0) fun k _ hk=>by rw [hD0]; exact .inl hk);unfold enP q4j;rw [List.getD_eq_getElem?_getD,List.getD_eq_getElem?_getD];cases ht:al[t]? with
  | none=>simp only [Option.getD_none]; unfold Rd; trivial
  | some x =>
   have hlt:=(List.getElem?_eq_some_iff.1 ht).1;have hv:=List.getElem?_eq_getElem (l:=vs) (show t < vs.length by omega);rw [hv];exact h2 t x _ ht hv
 refine (hM.run D0 ⟨w,fun k=>k < w.heap.size,fun _ _ _=>False,fun _ _=>False,fun _ h=>h,fun _ _ h=>h.elim⟩ _ w vs (fun w' hx=>qaD _ _ (hx.mono fun k hk _=>hk) hT) (fun _ _ h=>h.elim) hF0 (by omega) S).mono fun x w' ⟨v,ρ',hx,S',hr⟩=>?_;refine ⟨v,hx,S'.ext.mono fun k hk _=>hk,?_⟩;have S2:Sat E ⟨w,fun k=>k < w.heap.size,fun _ _ _=>False,fun _ _=>False,fun _ h=>h,fun _ _ h=>h.elim⟩ nos hout ρ' (fun _=>v) w':=by
  refine ⟨S'.inj,fun i b g hi hg=>?_,S'.vir,fun t=>by unfold nos Rd; trivial,S'.ext,hF,S'.imp,S'.pin⟩;obtain ⟨⟨h1,h2⟩,cs,h3,h4,h5⟩:=S'.own i b g hi hg;refine ⟨⟨h1,hF g (Nat.le_of_not_lt h1)⟩,cs,h3,h4,fun hs=>?_⟩;obtain ⟨us,h6,h7,h8⟩:=h5 hs;exact ⟨us,h6,df_L (hb i b hi) h7,h8⟩
 unfold Rd at hr ⊢;obtain ⟨us,hv,hr⟩:=hr;refine ⟨us,hv,?_⟩;refine (q6D S2 hc (df_L hl hr)).sub fun k _ hq=>?_
 rcases hq with hq | ⟨i,hi,hg⟩
 ·exact hq.1
 ·obtain ⟨b,hb'⟩:=q73 hc i hi;exact (S2.own i b k hb' hg).1.2
theorem qma {f:FuncId} {al al':List PV} {ids:List Nat} {hin:Hp} {r:PV} (hA:AR f al' r) (hc:q39 hin al=some (al',ids)) (hi:∀ i b,hin i=some b→win i∧b.st=false∧IdL win b.xs) (hal:IdL win al):ACm Tryz.prog q1k f al hin r hin:=by
 refine ⟨hA.1,fun i b h=>?_,fun i b h=>(hi i b h).1,hal,fun D0 B ρ w vs hT hJ hF hlen S=>?_⟩
 ·obtain ⟨h1,h2,h3⟩:=hi i b h;exact ⟨h1,h2,h3,b,h,rfl,Nat.le_refl _⟩
 have hR:RdL w (dm D0 ρ hin) al ρ hin vs:=by
  refine RdL.iff.2 ⟨hlen.symm,fun t x v ht hv=>?_⟩;have:=S.rd t;unfold enP q4j at this;rw [List.getD_eq_getElem?_getD,List.getD_eq_getElem?_getD,ht,hv] at this;exact this
 have hFw:∀ k,w.heap.size≤k→D0 k:=fun k hk=>hF k (Nat.le_trans S.ext.size hk);have hFr:Fr (dm D0 ρ hin) w:=fun k hk=>⟨hFw k hk,fun i b hi hr=>by have:=(S.own i b k hi hr).2.lt; omega⟩;refine (hA.2 _ (dm D0 ρ hin) w vs (hT w S.ext) hFr (q6D S hc hR)).mono fun x w' ⟨v,hx,hx1,hr⟩=>?_;have S1:=S.extend hx1;exact ⟨v,ρ,hx,⟨S1.inj,S1.own,S1.vir,fun t=>by unfold nos Rd; trivial,S1.ext,S1.fr,S1.imp,S1.pin⟩,hr.cl⟩
def gaS (l:List Nat) (o:List Int) (n:Nat):List Nat:=rwG n (fun k=>l.getD (o.getD k 0).toNat 0) n
def scS (x:List Nat) (o:List Int) (n:Nat):Nat→List Nat
 | 0=>List.replicate n 0
 | k+1=>(scS x o n k).set (o.getD k 0).toNat (x.getD k 0)
theorem q4a {x:List Nat} {o:List Int} {n:Nat}:∀ k,(scS x o n k).length=n
 | 0=>List.length_replicate
 | k+1=>by rw [scS,List.length_set,q4a k]
theorem qed {l:List Nat} {o:List Int} {n:Nat}:(gaS l o n).length=n:=q3S
theorem qee {l:List Nat} {o:List Int} {n:Nat} (hl:q2b l):q2b (gaS l o n):=fun x hx=>by
 unfold gaS rwG at hx;obtain ⟨j,_,rfl⟩:=List.mem_map.1 hx
 split
 ·exact q5Z hl _
 ·exact ⟨by omega,by unfold q09; simp⟩
section
variable {l:List Nat} {o:List Int} {n:Nat}
theorem qbf (hl:l.length=n) (ho:o.length=n) (hn:n≤1000000) (hb:∀ x ∈ o,0≤x∧x < n):ACt 80 [pF l,pI o] (pF (gaS l o n)):=by
 unfold gaS;have hgl:∀ m,(rwG n (fun k=>l.getD (o.getD k 0).toNat 0) m).length=n:=fun _=>q3S;generalize hg:(fun k=>l.getD (o.getD k 0).toNat 0)=g at *;refine ac0 Tryz.func80 Tryz.ntmps80 [.tmp 4] ?_;refine wk1 hl ?_;refine q0K (fun k=>k≤n) [0,11,12] [] Lk Lk (fun k:Nat=>[(13,iv k),(5,.ow 1001 none 0 n)]) (fun k=>[(1001,⟨40,none,(rwG n g k).map fun z:Nat=>uv z,false⟩)]) (fun k=>n-k) 0 (Nat.zero_le _) ?_ ?_
 ·rw [← qgy];refine LeM [(1001,some 10)] rfl rfl ?_;refine Zz ?_;simp
 ·intro k hk
  by_cases hlt:k < n
  ·obtain ⟨x,hx⟩:∃ x,o[k]?=some x:=⟨_,List.getElem?_eq_getElem (by omega)⟩;obtain ⟨h1,h2⟩:=hb x (List.mem_of_getElem? hx);obtain ⟨x,rfl⟩:∃ y:Nat,x=y:=⟨x.toNat,by omega⟩;obtain ⟨u,hu⟩:∃ u,l[x]?=some u:=⟨_,List.getElem?_eq_getElem (by omega)⟩;have hs:=qgx (n:=n) (g:=g) (m:=k);have hgk:g k=u:=by rw [← hg]; simp only [getD_some hx,Int.toNat_natCast,getD_some hu]
   rw [hgk] at hs;refine wk1 (x3 hx hu (hgl k)) ?_;refine ⟨k+1,by omega,by omega,?_⟩;refine LeM [] rfl rfl ?_;refine Zz ?_;rw [← hs];exact ⟨by omega,rfl⟩
  ·obtain rfl:k=n:=by omega
   have hgk:=hgl k;exact wk1 ho trivial
theorem qb0 (hl:l.length=n) (ho:o.length=n) (hn:n≤1000000) (hb:∀ x ∈ o,0≤x∧x < n):ACt 82 [pF l,pI o] (pF (gaS l o n)):=by
 unfold gaS;have hgl:∀ m,(rwG n (fun k=>l.getD (o.getD k 0).toNat 0) m).length=n:=fun _=>q3S;generalize hg:(fun k=>l.getD (o.getD k 0).toNat 0)=g at *;refine ac0 Tryz.func82 Tryz.ntmps82 [.tmp 4] ?_;refine wk1 ho ?_;refine q0K (fun k=>k≤n) [0,1] [] Lk Lk (fun k:Nat=>[(6,iv k),(5,.ow 1001 none 0 n)]) (fun k=>[(1001,⟨40,none,(rwG n g k).map fun z:Nat=>uv z,false⟩)]) (fun k=>n-k) 0 (Nat.zero_le _) ?_ ?_
 ·rw [← qgy];refine LeM [(1001,some 9)] rfl rfl ?_;refine Zz ?_;simp
 ·intro k hk
  by_cases hlt:k < n
  ·obtain ⟨x,hx⟩:∃ x,o[k]?=some x:=⟨_,List.getElem?_eq_getElem (by omega)⟩;obtain ⟨h1,h2⟩:=hb x (List.mem_of_getElem? hx);obtain ⟨x,rfl⟩:∃ y:Nat,x=y:=⟨x.toNat,by omega⟩;obtain ⟨u,hu⟩:∃ u,l[x]?=some u:=⟨_,List.getElem?_eq_getElem (by omega)⟩;have hs:=qgx (n:=n) (g:=g) (m:=k);have hgk:g k=u:=by rw [← hg]; simp only [getD_some hx,Int.toNat_natCast,getD_some hu]
   rw [hgk] at hs;refine wk1 (x4 ho hx hu (hgl k)) ?_;refine ⟨k+1,by omega,by omega,?_⟩;refine LeM [] rfl rfl ?_;refine Zz ?_;rw [← hs];exact ⟨by omega,rfl⟩
  ·obtain rfl:k=n:=by omega
   have hgk:=hgl k;exact wk1 ho trivial
theorem qhP {b:Bk}:∀ i b',q05 h0 5000 b i=some b'→win i:=fun i b' hb=>by
 by_cases hi:i=5000
 ·subst hi; exact ⟨by omega,by omega⟩
 ·rw [q0P hi] at hb; cases hb
theorem q9K (hl:l.length=n) (ho:o.length=n) (hn:n≤1000000) (hb:∀ x ∈ o,0≤x∧x < n):q7m 81 [pF l,pI o] h0 (.ow 5000 none 0 n) (q05 h0 5000 ⟨40,none,(scS l o n n).map fun z:Nat=>uv z,false⟩):=by
 have hJ:∀ i,¬ (h0 i≠none):=fun i h=>h rfl;refine qc8 qs9 Tryz.func81 rfl Tryz.ntmps81 (by kernel_rfl) ?_ ?_ ?_ ?_
 ·intro i b hb; cases hb
 ·exact qhP
 ·exact IdL.of fun x hx=>by
   simp at hx
   rcases hx with rfl | rfl <;> unfold IdP <;> trivial
 have hW:WfH h0:=⟨fun i b hb=>by cases hb⟩;refine wk1 hl ?_;refine q0p (fun k=>k≤n) [0,11,12] [] Lk Lk (fun k:Nat=>[(13,iv k),(5,.ow 1001 none 0 n)]) (fun k=>[(1001,⟨40,none,(scS l o n k).map fun z:Nat=>uv z,false⟩)]) (fun _=>h0) (fun k=>n-k) 0 (Nat.zero_le _) ?_ ?_
 ·refine LeW [(1001,some 10)] rfl rfl ?_ ?_ (by simp [q3K,q2P,win]) ?_
  ·repeat (first | exact q0b | exact q2k | exact q2h | exact q2j (by simp [nmW]) (by simp [nmW]) | refine q2i (by omega) ?_)
  ·exact hW
  ·rw [scS]
   try refine Zz ?_
   simp
 ·intro k hk
  by_cases hlt:k < n
  ·obtain ⟨x,hx⟩:∃ x,o[k]?=some x:=⟨_,List.getElem?_eq_getElem (by omega)⟩;obtain ⟨h1,h2⟩:=hb x (List.mem_of_getElem? hx);obtain ⟨x,rfl⟩:∃ y:Nat,x=y:=⟨x.toNat,by omega⟩;obtain ⟨u,hu⟩:∃ u,l[k]?=some u:=⟨_,List.getElem?_eq_getElem (by omega)⟩;have hs:scS l o n (k+1)=(scS l o n k).set x u:=by rw [scS,getD_some hx,Int.toNat_natCast,getD_some hu]
   have hsl:=q4a (x:=l) (o:=o) (n:=n) k;refine wk1 (x3 hx hu hsl) ?_;refine ⟨k+1,by omega,by omega,?_⟩;refine LeW [] rfl rfl ?_ ?_ (by simp [q3K,q2P,win]) ?_
   ·repeat (first | exact q0b | exact q2k | exact q2h | exact q2j (by simp [nmW]) (by simp [nmW]) | refine q2i (by omega) ?_)
   ·exact hW
   ·try refine Zz ?_
    exact ⟨by omega,hs.symm⟩
  ·obtain rfl:k=n:=by omega
   refine wk1 ho ?_;refine (rtM (rs:=[.tmp 4]) rfl rfl Lq ?_ (.inl rfl));refine LeO hJ ?_ clU
   try simp -implicitDefEqProofs (disch:=omega) only [go_sem,Nat.reduceEqDiff,Nat.reduceAdd,↓reduceIte]
theorem q8s (hl:l.length=n) (ho:o.length=n) (hn:n≤1000000) (hb:∀ x ∈ o,0≤x∧x < n):q7m 83 [pF l,pI o] h0 (.ow 5000 none 0 n) (q05 h0 5000 ⟨40,none,(scS l o n n).map fun z:Nat=>uv z,false⟩):=by
 have hJ:∀ i,¬ (h0 i≠none):=fun i h=>h rfl;refine qc8 qs8 Tryz.func83 rfl Tryz.ntmps83 (by kernel_rfl) ?_ ?_ ?_ ?_
 ·intro i b hb; cases hb
 ·exact qhP
 ·exact IdL.of fun x hx=>by
   simp at hx
   rcases hx with rfl | rfl <;> unfold IdP <;> trivial
 have hW:WfH h0:=⟨fun i b hb=>by cases hb⟩;refine wk1 ho ?_;refine q0p (fun k=>k≤n) [0,1] [] Lk Lk (fun k:Nat=>[(6,iv k),(5,.ow 1001 none 0 n)]) (fun k=>[(1001,⟨40,none,(scS l o n k).map fun z:Nat=>uv z,false⟩)]) (fun _=>h0) (fun k=>n-k) 0 (Nat.zero_le _) ?_ ?_
 ·refine LeW [(1001,some 9)] rfl rfl ?_ ?_ (by simp [q3K,q2P,win]) ?_
  ·repeat (first | exact q0b | exact q2k | exact q2h | exact q2j (by simp [nmW]) (by simp [nmW]) | refine q2i (by omega) ?_)
  ·exact hW
  ·rw [scS]
   try refine Zz ?_
   simp
 ·intro k hk
  by_cases hlt:k < n
  ·obtain ⟨x,hx⟩:∃ x,o[k]?=some x:=⟨_,List.getElem?_eq_getElem (by omega)⟩;obtain ⟨h1,h2⟩:=hb x (List.mem_of_getElem? hx);obtain ⟨x,rfl⟩:∃ y:Nat,x=y:=⟨x.toNat,by omega⟩;obtain ⟨u,hu⟩:∃ u,l[k]?=some u:=⟨_,List.getElem?_eq_getElem (by omega)⟩;have hs:scS l o n (k+1)=(scS l o n k).set x u:=by rw [scS,getD_some hx,Int.toNat_natCast,getD_some hu]
   have hsl:=q4a (x:=l) (o:=o) (n:=n) k;refine wk1 (x4 ho hx hu hsl) ?_;refine ⟨k+1,by omega,by omega,?_⟩;refine LeW [] rfl rfl ?_ ?_ (by simp [q3K,q2P,win]) ?_
   ·repeat (first | exact q0b | exact q2k | exact q2h | exact q2j (by simp [nmW]) (by simp [nmW]) | refine q2i (by omega) ?_)
   ·exact hW
   ·try refine Zz ?_
    exact ⟨by omega,hs.symm⟩
  ·obtain rfl:k=n:=by omega
   refine wk1 ho ?_;refine (rtM (rs:=[.tmp 4]) rfl rfl Lq ?_ (.inl rfl));refine LeO hJ ?_ clU
   try simp -implicitDefEqProofs (disch:=omega) only [go_sem,Nat.reduceEqDiff,Nat.reduceAdd,↓reduceIte]
end
end Go.Proofs.YtjamnehcmaloeaaGreatDoor
namespace Go.E
open Go Go.RowKit
theorem LeT {J:Nat→Prop} {h:Hp} {a n:Nat} {T:TypeId} {xs:List PV} {e:Value} (hJ:∀ i,¬ J i) (hb:h a=some ⟨T,none,xs,false⟩) (hc:ClL xs):Le J (fun _=>.tu [.ow a none 0 n,.vl e]) h (fun _=>.tu [.ow 5000 none 0 n,.vl e]) (q05 h0 5000 ⟨T,none,xs,false⟩):=by
 refine q4l (fun i=>if i=5000 then some a else none) (fun i b' hb'=>?_) (fun i j k b c hi hj ti tj=>?_) (fun _=>.tu rfl fun i x y hx hy=>?_) fun i hi=>(hJ i hi).elim
 ·by_cases hi:i=5000
  ·subst hi;rw [q0X] at hb'; cases hb';unfold LeB;exact ⟨_,hb,rfl,rfl,⟨rfl,rfl⟩,q0t rfl hc⟩
  ·rw [q0P hi] at hb'; cases hb'
 ·split at ti
  ·split at tj
   ·rename_i e1 e2; rw [e1,e2]
   ·cases tj
  ·cases ti
 ·rcases i with _ | _ | i
  ·cases hx; cases hy; exact .ow (if_pos rfl) q0X
  ·cases hx; cases hy; exact .cl trivial
  ·simp at hx
theorem qp1 {J:Nat→Prop} {h:Hp} {T:TypeId} {e:Value} (hJ:∀ i,¬ J i):Le J (fun _=>.tu [.vl (.slice none 0 0),.vl e]) h (fun _=>.tu [.ow 5000 none 0 0,.vl e]) (q05 h0 5000 ⟨T,none,[],false⟩):=by
 refine q4l (fun _=>none) (fun i b' hb'=>?_) (fun i j k b c hi hj ti tj=>by cases ti) (fun _=>.tu rfl fun i x y hx hy=>?_) fun i hi=>(hJ i hi).elim
 ·by_cases hi:i=5000
  ·subst hi;rw [q0X] at hb'; cases hb'
   rfl
  ·rw [q0P hi] at hb'; cases hb'
 ·rcases i with _ | _ | i
  ·cases hx; cases hy; exact .nilow rfl q0X rfl
  ·cases hx; cases hy; exact .cl trivial
  ·simp at hx
end Go.E
namespace Go.Proofs.YtjamnehcmaloeaaGreatDoor
open Go Go.E Go.Sp
theorem qrl {L:List (List Nat)} {b ys:List Nat} {n k:Nat} (hL:SqM L n) (hk:k < n):loV L b ys k < 18446744073709551616∧upV L b ys n k < 18446744073709551616:=⟨q9f (hL.dg k hk),q9f (hL.dg k hk)⟩
theorem q7O {L:List (List Nat)} {b:List Nat} {n:Nat} (hL:SqM L n):∀ (m k:Nat) (ys zs:List Nat),k+m=n→q2b ys→loF L b m k ys=some zs→q2b zs
 | 0,_,_,_,_,hf,h=>by cases h; exact hf
 | m+1,k,ys,zs,hk,hf,h=>by
  rw [loF] at h
  split at h
  ·rename_i hv;exact q7O hL m (k+1) _ zs (by omega) (q52 hf (qrl hL (by omega)).1 hv) h
  ·cases h
noncomputable def dfE (F:List Int × List Int × List Int × List Nat) (l:List Nat):List Nat × Int :=
 if q4H (q3C F) F.1.length l≠0 then ([],q4H (q3C F) F.1.length l) else
  match loF (q3e ⟨F.1,F.2.1,F.2.2.1,F.2.2.2⟩ F.1.length F.1.length) (gaS l F.1 F.1.length) F.1.length 0 (List.replicate F.1.length 0) with
  | none=>([],233)
  | some y=>match upF (trS (q3e ⟨F.1,F.2.1,F.2.2.1,F.2.2.2⟩ F.1.length F.1.length) F.1.length F.1.length) y F.1.length F.1.length (List.replicate F.1.length 0) with
   | none=>([],233)
   | some z=>(scS z F.1 F.1.length F.1.length,0)
theorem qj1 {n:Nat} {l:List Nat} (h1:l.length=n) (h2:∀ x ∈ l,q09 x):q4H 0 n l=0:=by
 unfold q4H;rw [if_neg (by omega),if_neg (by omega),if_neg (not_not_intro h2)]
section
variable {pm cp ri:List Int} {vs l:List Nat}
theorem qna:(dfE (pm,cp,ri,vs) l).1.length≤pm.length:=by
 unfold dfE
 split
 ·exact Nat.zero_le _
 ·split
  ·exact Nat.zero_le _
  ·split
   ·exact Nat.zero_le _
   ·exact Nat.le_of_eq (q4a _)
theorem qje:IdL win [q2A (pm,cp,ri,vs),pF l]:=IdL.of fun x hx=>by
 simp at hx
 rcases hx with rfl | rfl
 ·unfold q2A IdP IdL IdL IdL IdL IdL;unfold IdP;exact ⟨trivial,trivial,trivial,trivial,trivial⟩
 ·unfold IdP; trivial
theorem qlr (hp:pm.length≤1000000) (hc:cp.length≤1000000) (hr:ri.length≤1000000) (hv:vs.length≤1000000) (hu:∀ x ∈ vs,x < 18446744073709551616) (hul:∀ x ∈ l,x < 18446744073709551616) (hl:l.length≤1000000) :
  q7m 37 [q2A (pm,cp,ri,vs),pF l] h0 (.tu [.ow 5000 none 0 (dfE (pm,cp,ri,vs) l).1.length,iv (dfE (pm,cp,ri,vs) l).2]) (q05 h0 5000 ⟨40,none,(dfE (pm,cp,ri,vs) l).1.map fun z:Nat=>uv z,false⟩):=by
 have hJ:∀ i,¬ (h0 i≠none):=fun i h=>h rfl;have cR:=qd1 hp hc hr hv hu hul hl;refine qc8 qsg Tryz.func37 rfl Tryz.ntmps37 (by kernel_rfl) ?_ ?_ ?_ ?_
 ·intro i b hb; cases hb
 ·exact qhP
 ·exact qje
 unfold dfE;dsimp only
 by_cases hz0:q4H (q3C (pm,cp,ri,vs)) pm.length l=0
 case neg =>
  rw [if_pos hz0];generalize q4H (q3C (pm,cp,ri,vs)) pm.length l=e at *;have q:(e != 0)=true:=by simpa using hz0
  unfold q2A at *;dsimp only at *;refine wk1 q ?_;refine (rtM (rs:=[.tmp 4,.tmp 5]) rfl rfl Lq ?_ (.inl rfl));exact qp1 hJ
 rw [if_neg (not_not_intro hz0)];rw [hz0] at cR;obtain ⟨h1,h2,h3⟩:=qgo hz0;have ho:=q4U h1 hr hu;have hn:=ho.n;dsimp only at hn;have hsq:=q7Z ho;have hfl:q2b l:=fun x hx=>⟨hul x hx,h3 x hx⟩;have hpb:∀ x ∈ pm,0≤x∧x < pm.length:=fun x hx=>ho.perm.1 x hx;have cG:=qbf (l:=l) (o:=pm) (n:=pm.length) h2 rfl hp hpb;have hgl:=qed (l:=l) (o:=pm) (n:=pm.length);have hgf:=qee (o:=pm) (n:=pm.length) hfl;generalize gaS l pm pm.length=g at *;have cA:=qkx (n:=l.length) (by omega);have cW:=qkB (f:=(pm,cp,ri,vs)) (ps:=q6L l.length) (l:=g) ho hgf hgl (fun x hx=>by unfold q6L at hx; simp at hx; omega) (by rw [q6n]; omega);have e:=qr7 (b:=g) ho hgl;rw [show q6L g.length=q6L l.length by rw [hgl,h2]] at e;dsimp only at e cW;rw [e] at cW;clear e;have hlf:∀ y,loF (q3e ⟨pm,cp,ri,vs⟩ pm.length pm.length) g pm.length 0 (List.replicate pm.length 0)=some y→y.length=pm.length∧q2b y:=fun y hy=>⟨by rw [q9W _ _ _ _ hy,List.length_replicate],q7O hsq _ _ _ y (Nat.zero_add _) q4T hy⟩;have hJn:∀ i,¬ (h0 i≠none):=hJ;generalize loF (q3e ⟨pm,cp,ri,vs⟩ pm.length pm.length) g pm.length 0 (List.replicate pm.length 0)=R1 at *;cases R1 with
 | none =>
  rw [show fwP none=.tu [pF [],iv 233] from rfl] at cW;dsimp only;unfold q2A at *;dsimp only at *;refine wk ?_;refine (rtM (rs:=[.tmp 4,.tmp 5]) rfl rfl Lq ?_ (.inl rfl));exact qp1 hJ
 | some y =>
  rw [show fwP (some y)=.tu [pF y,iv 0] from rfl] at cW;obtain ⟨hy1,hy2⟩:=hlf y rfl;have cB:=qss (f:=(pm,cp,ri,vs)) ho hy2 hy1;dsimp only at cB ⊢;rw [hy1,qkn ho rfl _ _ (Nat.le_refl _)] at cB;dsimp only at cB;have hzl:∀ z,upF (trS (q3e ⟨pm,cp,ri,vs⟩ pm.length pm.length) pm.length pm.length) y pm.length pm.length (List.replicate pm.length 0)=some z→z.length=pm.length:=fun z hz=>by rw [q8z _ _ _ hz,List.length_replicate]
  generalize upF (trS (q3e ⟨pm,cp,ri,vs⟩ pm.length pm.length) pm.length pm.length) y pm.length pm.length (List.replicate pm.length 0)=R2 at *;cases R2 with
  | none =>
   rw [show fwP none=.tu [pF [],iv 233] from rfl] at cB;dsimp only;unfold q2A at *;dsimp only at *;refine wk ?_;refine (rtM (rs:=[.tmp 4,.tmp 5]) rfl rfl Lq ?_ (.inl rfl));exact qp1 hJ
  | some z =>
   rw [show fwP (some z)=.tu [pF z,iv 0] from rfl] at cB;have cS:=q9K (l:=z) (o:=pm) (hzl z rfl) rfl hp hpb;have hsl:=q4a (x:=z) (o:=pm) (n:=pm.length) pm.length;dsimp only;rw [hsl];generalize scS z pm pm.length pm.length=x at *;unfold q2A at *;dsimp only at *;refine wk ?_;refine q8k fun K hK=>?_;refine Zz ?_;refine jm cS ?_ (fun i hi=>(hi trivial).elim) ?_
   ·change Wn _ _
    repeat (first | exact q0b | exact q2k | exact q2h | exact q2j (by simp [nmW]) (by simp [nmW]) | refine q2i (by omega) ?_)
   try refine Zz ?_
   refine hK _ _ ?_; clear hK K;refine wk ?_;refine (rtM (rs:=[.tmp 4,.tmp 5]) rfl rfl Lq ?_ (.inl rfl));refine LeT hJ ?_ clU
   try simp -implicitDefEqProofs (disch:=omega) only [go_sem,Nat.reduceEqDiff,Nat.reduceAdd,↓reduceIte]
theorem qlH (hp:pm.length≤1000000) (hc:cp.length≤1000000) (hr:ri.length≤1000000) (hv:vs.length≤1000000) (hu:∀ x ∈ vs,x < 18446744073709551616) (hul:∀ x ∈ l,x < 18446744073709551616) (hl:l.length≤1000000) :
  q7m 38 [q2A (pm,cp,ri,vs),pF l] h0 (.tu [.ow 5000 none 0 (dfE (pm,cp,ri,vs) l).1.length,iv (dfE (pm,cp,ri,vs) l).2]) (q05 h0 5000 ⟨40,none,(dfE (pm,cp,ri,vs) l).1.map fun z:Nat=>uv z,false⟩):=by
 have hJ:∀ i,¬ (h0 i≠none):=fun i h=>h rfl;have cK:=q9Q hp hc hr hv hu;have cS:=q4A (e:=q3C (pm,cp,ri,vs)) (n:=pm.length) hul hl;refine qc8 qsf Tryz.func38 rfl Tryz.ntmps38 (by kernel_rfl) ?_ ?_ ?_ ?_
 ·intro i b hb; cases hb
 ·exact qhP
 ·exact qje
 unfold dfE;dsimp only
 by_cases hz0:q4H (q3C (pm,cp,ri,vs)) pm.length l=0
 case neg =>
  rw [if_pos hz0];generalize q4H (q3C (pm,cp,ri,vs)) pm.length l=e at *;generalize q3C (pm,cp,ri,vs)=e2 at *;have q:(e != 0)=true:=by simpa using hz0
  unfold q2A at *;dsimp only at *;refine wk1 q ?_;refine (rtM (rs:=[.tmp 4,.tmp 5]) rfl rfl Lq ?_ (.inl rfl));exact qp1 hJ
 rw [if_neg (not_not_intro hz0)];rw [hz0] at cS;obtain ⟨h1,h2,h3⟩:=qgo hz0;rw [h1] at cK cS;have ho:=q4U h1 hr hu;have hn:=ho.n;dsimp only at hn;have hsq:=q7Z ho;have hfl:q2b l:=fun x hx=>⟨hul x hx,h3 x hx⟩;have hpb:∀ x ∈ pm,0≤x∧x < pm.length:=fun x hx=>ho.perm.1 x hx;have cG:=qb0 (l:=l) (o:=pm) (n:=pm.length) h2 rfl hp hpb;have hgl:=qed (l:=l) (o:=pm) (n:=pm.length);have hgf:=qee (o:=pm) (n:=pm.length) hfl;generalize gaS l pm pm.length=g at *;have cW:=qbY hp hc hr hv hu (fun x hx=>(hgf x hx).1) (by omega:g.length≤1000000);unfold solR at cW;dsimp only at cW;rw [h1,if_neg (not_not_intro (qj1 hgl fun x hx=>(hgf x hx).2))] at cW;have hlf:∀ y,loF (q3e ⟨pm,cp,ri,vs⟩ pm.length pm.length) g pm.length 0 (List.replicate pm.length 0)=some y→y.length=pm.length∧q2b y:=fun y hy=>⟨by rw [q9W _ _ _ _ hy,List.length_replicate],q7O hsq _ _ _ y (Nat.zero_add _) q4T hy⟩;generalize loF (q3e ⟨pm,cp,ri,vs⟩ pm.length pm.length) g pm.length 0 (List.replicate pm.length 0)=R1 at *;cases R1 with
 | none =>
  rw [show fwP none=.tu [pF [],iv 233] from rfl] at cW;dsimp only;unfold q2A at *;dsimp only at *;refine wk ?_;refine (rtM (rs:=[.tmp 4,.tmp 5]) rfl rfl Lq ?_ (.inl rfl));exact qp1 hJ
 | some y =>
  rw [show fwP (some y)=.tu [pF y,iv 0] from rfl] at cW;obtain ⟨hy1,hy2⟩:=hlf y rfl;have cB:=qbX hp hc hr hv hu (fun x hx=>(hy2 x hx).1) (by omega:y.length≤1000000);unfold uppR at cB;dsimp only at cB ⊢;rw [h1,if_neg (not_not_intro (qj1 hy1 fun x hx=>(hy2 x hx).2))] at cB;have hzl:∀ z,upF (trS (q3e ⟨pm,cp,ri,vs⟩ pm.length pm.length) pm.length pm.length) y pm.length pm.length (List.replicate pm.length 0)=some z→z.length=pm.length:=fun z hz=>by rw [q8z _ _ _ hz,List.length_replicate]
  generalize upF (trS (q3e ⟨pm,cp,ri,vs⟩ pm.length pm.length) pm.length pm.length) y pm.length pm.length (List.replicate pm.length 0)=R2 at *;cases R2 with
  | none =>
   rw [show fwP none=.tu [pF [],iv 233] from rfl] at cB;dsimp only;unfold q2A at *;dsimp only at *;refine wk ?_;refine (rtM (rs:=[.tmp 4,.tmp 5]) rfl rfl Lq ?_ (.inl rfl));exact qp1 hJ
  | some z =>
   rw [show fwP (some z)=.tu [pF z,iv 0] from rfl] at cB;have cS2:=q8s (l:=z) (o:=pm) (hzl z rfl) rfl hp hpb;have hsl:=q4a (x:=z) (o:=pm) (n:=pm.length) pm.length;dsimp only;rw [hsl];generalize scS z pm pm.length pm.length=x at *;unfold q2A at *;dsimp only at *;refine wk ?_;refine q8k fun K hK=>?_;refine Zz ?_;refine jm cS2 ?_ (fun i hi=>(hi trivial).elim) ?_
   ·change Wn _ _
    repeat (first | exact q0b | exact q2k | exact q2h | exact q2j (by simp [nmW]) (by simp [nmW]) | refine q2i (by omega) ?_)
   try refine Zz ?_
   refine hK _ _ ?_; clear hK K;refine wk ?_;refine (rtM (rs:=[.tmp 4,.tmp 5]) rfl rfl Lq ?_ (.inl rfl));refine LeT hJ ?_ clU
   try simp -implicitDefEqProofs (disch:=omega) only [go_sem,Nat.reduceEqDiff,Nat.reduceAdd,↓reduceIte]
theorem qkQ {f:FuncId} {al:List PV} {xs:List Nat} {e:Int} (h:q7m f al h0 (.tu [.ow 5000 none 0 xs.length,iv e]) (q05 h0 5000 ⟨40,none,xs.map fun z:Nat=>uv z,false⟩)):AR f al (.tu [pF xs,iv e]):=by
 refine qpE (ids:=[5000]) h (fun y hy=>?_) (fun i b hb y hy=>?_) ?_
 ·simp at hy
  rcases hy with rfl | rfl
  ·exact df_ow
  ·exact qsO
 ·by_cases hi:i=5000
  ·subst hi;rw [q0X] at hb; cases hb;obtain ⟨z,_,rfl⟩:=List.mem_map.1 hy;exact qsO
  ·rw [q0P hi] at hb; cases hb
 ·have h1:q3a (q05 h0 5000 ⟨40,none,xs.map fun z:Nat=>uv z,false⟩) (.ow 5000 none 0 xs.length)=some (pF xs,[5000]):=by
   unfold q3a;dsimp only;rw [q0X,Option.bind_some,if_pos ⟨rfl,rfl,fun x hx=>clU x hx⟩,List.drop_zero,List.take_of_length_le (by rw [List.length_map]; exact Nat.le_refl _)]
  have h2:q3a (q05 h0 5000 ⟨40,none,xs.map fun z:Nat=>uv z,false⟩) (iv e)=some (iv e,[]):=by
   unfold q3a;dsimp only;exact if_pos trivial
  unfold q39 q39 q39 clo;simp only [h1,h2]
  rfl
end
section
variable {pm cp ri:List Int} {vs b:List Nat} {f:FuncId} {r:PV}
theorem qnn:q39 (q05 h0 5000 ⟨40,none,vs.map fun z:Nat=>uv z,false⟩) [.ag [pI pm,pI cp,pI ri,.ow 5000 none 0 vs.length],pF b]=some ([q2A (pm,cp,ri,vs),pF b],[5000]):=by
 unfold q39 q39 clo;dsimp only;have k1:∀ l:List Int,q3a (q05 h0 5000 ⟨40,none,vs.map fun z:Nat=>uv z,false⟩) (pI l)=some (pI l,[]):=fun l=>by
  unfold q3a pI;exact if_pos trivial
 have k2:q3a (q05 h0 5000 ⟨40,none,vs.map fun z:Nat=>uv z,false⟩) (pF b)=some (pF b,[]):=by
  unfold q3a pF;exact if_pos trivial
 unfold q39 q2g q2g q2g q2g q2g;simp only [k1,k2,qib,Option.bind_some,Option.map_some]
 rfl
theorem lend (hA:AR f [q2A (pm,cp,ri,vs),pF b] r):q7m f [.ag [pI pm,pI cp,pI ri,.ow 5000 none 0 vs.length],pF b] (q05 h0 5000 ⟨40,none,vs.map fun z:Nat=>uv z,false⟩) r (q05 h0 5000 ⟨40,none,vs.map fun z:Nat=>uv z,false⟩) :=
 qma hA qnn (fun i b hb=>by
  by_cases hi:i=5000
  ·subst hi;rw [q0X] at hb; cases hb;exact ⟨⟨by omega,by omega⟩,rfl,IdL.of fun x hx=>by obtain ⟨z,_,rfl⟩:=List.mem_map.1 hx; unfold IdP; trivial⟩
  ·rw [q0P hi] at hb; cases hb) (IdL.of fun x hx=>by
   simp at hx
   rcases hx with rfl | rfl
   ·unfold IdP IdL IdL IdL IdL IdL;unfold IdP;exact ⟨trivial,trivial,trivial,⟨by omega,by omega⟩,trivial⟩
   ·unfold IdP; trivial)
end
theorem q9H {raw:List Nat} {n st kd sp:Int} {val:Nat} (hr:raw.length≤9223372036854775807) (h1 : -9223372036854775808≤n) (h2:n≤9223372036854775807) (h3 : -9223372036854775808≤st) (h4:st≤9223372036854775807) (h5 : -9223372036854775808≤kd) (h6:kd≤9223372036854775807) (h7 : -9223372036854775808≤sp) (h8:sp≤9223372036854775807) (hval:val < 18446744073709551616) :
  ACt 6 [pF raw,iv n,iv st,iv kd,iv sp,uv val] (bv true):=by
 have hN:q0r n 6 < 6:=by unfold q0r; omega
 have hpm:=qhS raw (q0r n 6);have hll:=q7I raw (q0r n 6);have cF:=qiR hr h1 h2 h3 h4 ⟨by omega,fun x hx=>by have:=hpm.1 x hx; omega,hpm.2⟩;have hsh:=qnR (raw:=raw) (N:=q0r n 6) (k:=q0r (q0r st 3:Nat) 4) (by omega);obtain ⟨pm,cp,ri,vs,hf⟩:∃ pm cp ri vs,qkG raw (q0r n 6) (q0r (q0r st 3:Nat) 4)=(pm,cp,ri,vs):=⟨_,_,_,_,rfl⟩;rw [hf] at cF hsh;clear hf hpm hll;obtain ⟨hp,hc,hri,hv,hu⟩:=hsh;dsimp only at hp hc hri hv hu;have cS:=qlf (raw:=raw) (st:=kd) (spoil:=sp) (n:=pm.length) hr (by omega) h5 h6 h7 h8;obtain ⟨hbu,hbl⟩:=qgn (raw:=raw) (n:=pm.length) (st:=q0r kd 4) (sp:=sp);generalize qbd raw pm.length (q0r kd 4) sp=b at *;have cD:∀ ws:List Nat,ws.length=vs.length→(∀ x ∈ ws,x < 18446744073709551616)→∃ (xs:List Nat) (e:Int),xs.length≤pm.length∧q7m 37 [.ag [pI pm,pI cp,pI ri,.ow 5000 none 0 ws.length],pF b] (q05 h0 5000 ⟨40,none,ws.map fun z:Nat=>uv z,false⟩) (.tu [pF xs,iv e]) (q05 h0 5000 ⟨40,none,ws.map fun z:Nat=>uv z,false⟩) ∧
   q7m 38 [.ag [pI pm,pI cp,pI ri,.ow 5000 none 0 ws.length],pF b] (q05 h0 5000 ⟨40,none,ws.map fun z:Nat=>uv z,false⟩) (.tu [pF xs,iv e]) (q05 h0 5000 ⟨40,none,ws.map fun z:Nat=>uv z,false⟩):=fun ws hw1 hw2 =>
  ⟨_,_,qna,lend (qkQ (qlr (l:=b) (by omega:pm.length≤1000000) hc hri (by omega) hw2 hbu (by omega))),lend (qkQ (qlH (l:=b) (by omega:pm.length≤1000000) hc hri (by omega) hw2 hbu (by omega)))⟩
 have cA:=qin;unfold qbq at cF;dsimp only at cF;refine ac0 Tryz.func6 Tryz.ntmps6 [.tmp 12] ?_;refine wk ?_;refine q8k fun K hK=>?_;refine Zz ?_;refine jmF cF ?_ ?_
 ·repeat (first | exact q0b | exact q2k | exact q2h | exact q2j (by simp [nmW]) (by simp [nmW]) | refine q2i (by omega) ?_)
 try refine Zz ?_
 refine hK _ _ ?_; clear hK K;refine wk ?_;obtain ⟨x1,e1,hx1,c1,c2⟩:=cD vs rfl hu;refine q8k fun K hK=>?_;refine Zz ?_;refine jmF c1 ?_ ?_
 ·repeat (first | exact q0b | exact q2k | exact q2h | exact q2j (by simp [nmW]) (by simp [nmW]) | refine q2i (by omega) ?_)
 try refine Zz ?_
 refine hK _ _ ?_; clear hK K;refine q8k fun K hK=>?_;refine Zz ?_;refine jmF c2 ?_ ?_
 ·repeat (first | exact q0b | exact q2k | exact q2h | exact q2j (by simp [nmW]) (by simp [nmW]) | refine q2i (by omega) ?_)
 try refine Zz ?_
 refine hK _ _ ?_; clear hK K;have k1:=q6b (l:=x1) (by omega);have r1:(e1 != e1)=false:=by simp
 refine wk1 r1 ?_;refine A_jn fun K hK=>?_;have fin:∀ (s:Nat→PV) (h:Hp) (ws:List Nat),s 13=.pt 13 0 0→s 14=pF b→h 13=some ⟨26,some 4,[.ag [pI pm,pI cp,pI ri,.ow 5000 none 0 ws.length]],false⟩→Wn h (q05 h0 5000 ⟨40,none,ws.map fun z:Nat=>uv z,false⟩)→ws.length=vs.length→(∀ x ∈ ws,x < 18446744073709551616)→K s h:=fun s h ws s13 s14 h13 hw hw1 hw2=>by
  obtain ⟨x2,e2,hx2,c3,c4⟩:=cD ws hw1 hw2;refine hK _ _ ?_; clear hK K;refine q8k fun K hK=>?_;refine Zz3 s13 s14 h13 ?_;refine jmF c3 hw ?_
  try refine Zz ?_
  refine hK _ _ ?_; clear hK K;refine q8k fun K hK=>?_;refine Zz3 s13 s14 h13 ?_;refine jmF c4 ?_ ?_
  ·repeat (first | exact q0b | exact q2k | exact q2h | exact q2j (by simp [nmW]) (by simp [nmW]) | refine q2i (by omega) ?_)
  try refine Zz ?_
  refine hK _ _ ?_; clear hK K;have k2:=q6b (l:=x2) (by omega);have r2:(e2 == e2)=true:=by simp
  exact wk1 r2 trivial
 by_cases hv0:vs.length=0
 ·have q:¬ ((vs.length:Int) > 0):=by omega
  refine wk1 q ?_;refine fin _ _ vs ?_ ?_ ?_ ?_ rfl hu
  ·try simp -implicitDefEqProofs (disch:=omega) only [go_sem,Nat.reduceEqDiff,Nat.reduceAdd,↓reduceIte]
  ·try simp -implicitDefEqProofs (disch:=omega) only [go_sem,Nat.reduceEqDiff,Nat.reduceAdd,↓reduceIte]
  ·try simp -implicitDefEqProofs (disch:=omega) only [go_sem,Nat.reduceEqDiff,Nat.reduceAdd,↓reduceIte]
  ·repeat (first | exact q0b | exact q2k | exact q2h | exact q2j (by simp [nmW]) (by simp [nmW]) | refine q2i (by omega) ?_)
 ·have q:(vs.length:Int) > 0:=by omega
  have cM:=q8I (a:=sp) (n:=vs.length) h7 h8 (by omega) (by omega);have hm:q0r sp vs.length < vs.length:=q4h (by omega);generalize q0r sp vs.length=m at *;refine wk1 q ?_;refine fin _ _ (vs.set m val) ?_ ?_ ?_ ?_ (by rw [List.length_set]) fun x hx=>?_
  ·try simp -implicitDefEqProofs (disch:=omega) only [go_sem,Nat.reduceEqDiff,Nat.reduceAdd,↓reduceIte]
  ·try simp -implicitDefEqProofs (disch:=omega) only [go_sem,Nat.reduceEqDiff,Nat.reduceAdd,↓reduceIte]
  ·rw [List.length_set]
   try simp -implicitDefEqProofs (disch:=omega) only [go_sem,Nat.reduceEqDiff,Nat.reduceAdd,↓reduceIte]
  ·rw [List.map_set];refine q8e (qcT q0b) (funext fun i=>?_);unfold q05
   split <;> rfl
  ·rcases List.mem_or_eq_of_mem_set hx with hx | rfl
   ·exact hu x hx
   ·exact hval
open Go.ChangeShapes Go.WideShapes Go.ChangeAt Go.WideMaps Go.WideElems Go.RowKit
set_option maxRecDepth 100000
abbrev qh9 : List (String × DataW Unit) := [("math/bits.deBruijn32tab", Rows.laid_math_bits_deBruijn32tab)]
theorem own:ownKnob Tryz.prog.godebug=none:=by kernel_rfl
theorem qi5 (os:Os) (args:Array Value):laidMetH Tryz.prog qh9 ((World.doorLaid Tryz.prog 400 os).forCall (fun _ _=>0) ⟨#[],args,[]⟩).memory :=
 laidMetH_of_parts3 (fuel:=8) (laidMet_of_run' 8 (by kernel_rfl) (by kernel_rfl)) (by kernel_rfl) (by kernel_rfl)
theorem undW:Tryz.prog.underlying 22=some (.slice 39):=by kernel_rfl
theorem cellU:Tryz.prog.cellsOf 39=1:=by kernel_rfl
theorem qhc {H:Type} {enc:TypeId × Value→H} {W:World} {v:Value} {d:DataW H} {p:List MemPlace} {b0:Nat} (hv:Value.okWide Tryz.prog W .any b0 22 v) (h:DataW.Trod enc Tryz.prog W 0 (fun _=>true) true 22 v d p) :
  ∃ A n c raw,v=.slice A n c∧n≤9223372036854775807∧In (fSc q2Q raw) (fun _=>True) (.slice A n c) W:=by
 obtain ⟨A,n,c,rfl⟩:=okWide_slice undW hv;obtain ⟨fuel,hf⟩:=h
 rcases open_ints undW qlW cellU hf with ⟨h1,_⟩ | ⟨a,len,cap,zs,h1,_,hl,hm,hz,_,hc,hw⟩
 ·injection h1 with h1 _
  injection h1 with h1 h2 h3
  subst h1; subst h2; subst h3;exact ⟨_,_,_,[],rfl,by omega,In.sc_nil⟩
 ·injection h1 with h1 _
  injection h1 with h1 h2 h3
  subst h1; subst h2; subst h3;have hz':zs.length=c:=by simpa using hz
  refine ⟨_,_,_,(zs.take n).map Int.toNat,rfl,by unfold maxLen at hm; omega,some a,n,c,rfl,hl,by simp; omega,fun _=>⟨a,rfl,trivial,fun j u hu=>?_⟩⟩;rw [List.getElem?_map,List.getElem?_map,List.getElem?_take] at hu
  split at hu
  ·rename_i hj;have hjz:j < zs.length:=by omega
   rw [List.getElem?_eq_getElem hjz] at hu;have h0:=hc j hjz;rw [List.getD_eq_getElem?_getD,List.getElem?_eq_getElem hjz] at h0;have h1:=hw zs[j] (List.getElem_mem _);simp only [Lit.wf,Bool.and_eq_true,decide_eq_true_eq] at h1;have h2:(0:Int)≤zs[j]:=h1.1;rw [h0,← Option.some.inj hu]
   show some (Value.int .u64 zs[j])=some (Value.int .u64 ((zs[j].toNat:Nat):Int))
   rw [Int.toNat_of_nonneg h2]
  ·cases hu
set_option maxRecDepth 100000
theorem q9A {H:Type} {enc:TypeId × Value→H} {P:Program} {w:World} {base:Nat} {spare:Nat→Bool} {held:Bool} {t t' t'' t3 t4 t5:TypeId} {args:Array Value} {ds:List (DataW H)} {ps:List MemPlace} (h:DataW.TrodAll enc P w base spare held [t,t',t'',t3,t4,t5] args.toList ds ps) :
  ∃ v v' v'' v3 v4 v5 d d' d'' d3 d4 d5 p p' p'' p3 p4 p5,args=#[v,v',v'',v3,v4,v5]∧ds=[d,d',d'',d3,d4,d5]∧DataW.Trod enc P w base spare held t v d p∧DataW.Trod enc P w base spare held t' v' d' p'∧DataW.Trod enc P w base spare held t'' v'' d'' p''∧DataW.Trod enc P w base spare held t3 v3 d3 p3∧DataW.Trod enc P w base spare held t4 v4 d4 p4∧DataW.Trod enc P w base spare held t5 v5 d5 p5:=by
 obtain ⟨v,vs,d,ds',p,q,hargs,rfl,rfl,hd,hrest⟩:=trodAll_cons h;obtain ⟨v',vs',d',ds'',p',q',rfl,rfl,rfl,hd',hrest'⟩:=trodAll_cons hrest;obtain ⟨v'',vs'',d'',ds3,p'',q'',rfl,rfl,rfl,hd'',hrest''⟩:=trodAll_cons hrest';obtain ⟨v3,vs3,d3,ds4,p3,q3,rfl,rfl,rfl,hd3,hrest3⟩:=trodAll_cons hrest'';obtain ⟨v4,vs4,d4,ds5,p4,q4,rfl,rfl,rfl,hd4,hrest4⟩:=trodAll_cons hrest3;obtain ⟨v5,vs5,d5,ds6,p5,q5,rfl,rfl,rfl,hd5,hrest5⟩:=trodAll_cons hrest4;obtain ⟨rfl,rfl,rfl⟩:=trodAll_nil hrest5;exact ⟨v,v',v'',v3,v4,v5,d,d',d'',d3,d4,d5,p,p',p'',p3,p4,p5,by cases args; simp_all,rfl,hd,hd',hd'',hd3,hd4,hd5⟩
theorem qmA {w:World} {D:Nat→Prop} {ρ:Nat→Option Nat} {h:Hp} {x y z t u o:PV} {a b c d e f:Value} (h1:Rd w D x ρ h a) (h2:Rd w D y ρ h b) (h3:Rd w D z ρ h c) (h4:Rd w D t ρ h d) (h5:Rd w D u ρ h e) (h6:Rd w D o ρ h f):RdL w D [x,y,z,t,u,o] ρ h [a,b,c,d,e,f]:=by
 unfold RdL;refine ⟨_,_,rfl,h1,?_⟩;unfold RdL;refine ⟨_,_,rfl,h2,?_⟩;unfold RdL;refine ⟨_,_,rfl,h3,?_⟩;unfold RdL;refine ⟨_,_,rfl,h4,?_⟩;unfold RdL;refine ⟨_,_,rfl,h5,?_⟩;unfold RdL;exact ⟨_,_,rfl,h6,by unfold RdL; rfl⟩
theorem qcH (os:Os) (started:os.Started) (H:Type) (enc:TypeId × Value→H) :
  ReturnsInHanded {} Tryz.checked os 6 .any (fun w args=>(Rows.solveDefiniteSpec.pre enc Tryz.prog Tryz.f6 [] false w args∧laidMetH Tryz.prog qh9 w)∧sizedMet enc Tryz.prog Tryz.f6 (OpenSpec.ofChange Rows.solveDefiniteSpec) false w args)
   (Rows.solveDefiniteSpec.post enc Tryz.prog Tryz.f6 false true false false):=by
 refine returnsInHanded_of_change_and (C:=Tryz.checked) (X:=fun w _=>laidMetH Tryz.prog qh9 w) (fun _ _ _ hh h=>h.of_heap hh) own started (by kernel_rfl) Tryz.func6
  (ChangeSpec.witness_shaped (enc:=enc) (C:=Tryz.checked) (os:=os) (X:=fun w _=>laidMetH Tryz.prog qh9 w) false (World.doorLaid Tryz.prog 400 os) #[.slice none 0 0,.int .i64 0,.int .i64 0,.int .i64 0,.int .i64 0,.int .u64 0] 8 rfl (World.shaped_of_RefB (by kernel_rfl) (by kernel_rfl)) (by kernel_rfl) (by kernel_rfl) (by kernel_rfl) (qi5 os _)) ?_
 intro W base args ds gs before hval0 hW _ _ hL _;have hval:∀ (j:Nat) t v,Tryz.f6.params[j]?=some t→args[j]?=some v→Value.okWide Tryz.prog W .any base t v:=hval0;have hW':DataW.Whole enc Tryz.prog Tryz.f6.params.toList Rows.solveDefiniteSpec.vars false W args.toList ds gs before:=hW;obtain ⟨p,q,hA0,hV,rfl,_,_⟩:=hW;have hA:DataW.TrodAll enc Tryz.prog W 0 (fun _=>true) true [22,3,3,3,3,39] args.toList ds p:=hA0;obtain ⟨v0,v1,v2,v3,v4,v5,d0,d1,d2,d3,d4,d5,p0,p1,p2,p3,p4,p5,rfl,rfl,h0,h1,h2,h3,h4,h5⟩:=q9A hA;obtain ⟨rfl,rfl⟩:=trodVars_none hV;obtain ⟨A,n,c,raw,rfl,hn,hin⟩:=qhc (hval 0 22 _ rfl rfl) h0;obtain ⟨N,rfl,_,_,hN⟩:=open_int qph (hval 1 3 _ rfl rfl) h1;obtain ⟨S,rfl,_,_,hS⟩:=open_int qph (hval 2 3 _ rfl rfl) h2;obtain ⟨T,rfl,_,_,hT⟩:=open_int qph (hval 3 3 _ rfl rfl) h3;obtain ⟨U,rfl,_,_,hU⟩:=open_int qph (hval 4 3 _ rfl rfl) h4;obtain ⟨X,rfl,_,_,hX⟩:=open_int qlW (hval 5 39 _ rfl rfl) h5;simp only [Lit.wf,Bool.and_eq_true,decide_eq_true_eq] at hN hS hT hU hX;have hX1:(0:Int)≤X:=hX.1;have hX2:X≤(18446744073709551615:Int):=hX.2;obtain ⟨x,rfl⟩:∃ x:Nat,X=x:=⟨X.toNat,by omega⟩;have hc:=q9H (raw:=raw) (val:=x) (by rw [hin.sc_len]; exact hn) hN.1 hN.2 hS.1 hS.2 hT.1 hT.2 hU.1 hU.2 (by omega);refine (hc.2 _ W [_,_,_,_,_,_] (ql2 hL) (Fr.triv _) (qmA (qdg hin) q2d q2d q2d q2d q2d)).mono fun e W' ⟨v,he,hx,hr⟩=>?_;rw [q3T hr] at he;subst he;exact ⟨_,rfl,qh8 rfl hW' (by kernel_rfl) rfl rfl hx⟩
theorem q3q:Rows.SolveDefiniteSaid :=
 OpenClaim.holds_of_wide 6 Tryz.f6 rfl rfl rfl rfl rfl rfl rfl ⟨rfl,rfl,rfl,rfl,rfl⟩ rfl rfl rfl rfl rfl (by kernel_rfl) Tryz.func6 (by kernel_rfl)
  (of_decide_eq_true (by kernel_rfl)) (by unfold Func.isWrapper; first | (rw [if_pos (by decide +kernel)]; kernel_rfl) | (rw [if_neg (by decide +kernel)]; exact ⟨rfl,rfl⟩))
  (fun os started H enc _=>qcH os started H enc)
set_option maxRecDepth 100000
theorem definite_card:Rows.SolveDefiniteCardSaid :=
 Claim7.holds_tied_plain_at .later [] [.data] true (true, "464a4fd313f0180230b5c370bf121eef3086acb9d2b3de5492cb098bc9e9bc3a") false
  q3q (fun _ h=>by cases h) (by kernel_rfl) (fun _ h=>by cases h) solveDefinite_row_tie rfl ⟨rfl,rfl⟩ (by kernel_rfl) rfl
  (fun f fn hf hfn=>by
   obtain rfl : f = 6 := Option.some.inj ((show Tryz.prog.funcNamed "sparse/sparselaw28.SolveDefinite" = some 6 by kernel_rfl).symm.trans hf) |>.symm;obtain rfl:fn=Tryz.f6:=(Option.some.inj (Tryz.func6.symm.trans hfn)).symm;exact ⟨by kernel_rfl,fun j t ht=>by
    have hm:t ∈ [22,3,3,3,3,39]:=by simpa using Array.mem_of_getElem? ht
    have hall:([22,3,3,3,3,39].all fun u=>!Tryz.prog.wantsStandIn u)=true:=by kernel_rfl
    exact (show Tryz.prog.wantsStandIn t=false by simpa using List.all_eq_true.1 hall t hm)⟩)
  (by kernel_rfl)
#print axioms definite_card
end Go.Proofs.YtjamnehcmaloeaaGreatDoor
