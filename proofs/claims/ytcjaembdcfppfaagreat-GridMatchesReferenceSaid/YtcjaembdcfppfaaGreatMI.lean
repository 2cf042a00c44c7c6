/- MI, merged: THd, He, Lm0, Lm, Pa, Pb, Pc, Pd, Pe, Pf, Pn, Ph, Pi, Pj, Pk, Sb, Sa. -/
import Derived.Test.YtcjaembdcfppfaaGreatMC
import Derived.Test.YtcjaembdcfppfaaGreatMF
set_option linter.unusedSimpArgs false
set_option linter.unusedVariables false
namespace Go.Proofs.YtcjaembdcfppfaaGreat
open Go.RowKit
section
variable (W:World) (ds l:List D)
end
end Go.Proofs.YtcjaembdcfppfaaGreat
namespace Go.Proofs.YtcjaembdcfppfaaGreat
open Go.RowKit
theorem d3H{ρ:Env}(h:Sees ρ KG 80):Sees ρ K7 61:=h.trans (by decide) fun n l hn=>by
 have e:n<61:=hn
 refine⟨?_,?_⟩
 ·simp only[KG,KF,KE,KD,KC,KB,KA,K9,K8]
  (repeat' split)<;>first | omega | rfl
 ·simp only[KG,KF,KE,KD,KC,KB,KA,K9,K8]
  (repeat' split)<;>first | omega | rfl
def Seg(ax ay bx by' k x y:Int):Prop:=∃s,0≤s∧s≤k∧x=k*ax+s*(bx-ax)∧y=k*ay+s*(by'-ay)
def b3W(ax ay bx by' cx cy dx dy:Int):Prop:=∃k x y,0<k∧Seg ax ay bx by' k x y∧Seg cx cy dx dy k x y
theorem b2M{n:Int}:J9 n=0↔n=0:=by unfold J9;split<;>(try split)<;>omega
theorem c7g{n:Int}:0<J9 n↔0<n:=by unfold J9;split<;>(try split)<;>omega
theorem d4A{n:Int}:J9 n<0↔n<0:=by unfold J9;split<;>(try split)<;>omega
theorem a9Y{m n:Int}:J9 m*J9 n<0↔(m<0∧0<n)∨(0<m∧n<0):=by
 unfold J9
 repeat' split
 all_goals omega
theorem a5s(ax ay bx by':Int){k:Int}(hk:0≤k):Seg ax ay bx by' k (k*ax) (k*ay):=⟨0,by omega,hk,by simp,by simp⟩
theorem b6E(ax ay bx by':Int){k:Int}(hk:0≤k):Seg ax ay bx by' k (k*bx) (k*by'):=⟨k,hk,by omega,by grind,by grind⟩
theorem a0b{ax ay bx by' k x y m:Int}(h:Seg ax ay bx by' k x y)(hm:0≤m):Seg ax ay bx by' (k*m) (x*m) (y*m):=by
 obtain⟨s,h1,h2,h3,h4⟩:=h
 exact⟨s*m,Int.mul_nonneg h1 hm,Int.mul_le_mul_of_nonneg_right h2 hm,by rw[h3];grind,by rw[h4];grind⟩
theorem a4c{ax ay bx by' k x y:Int}(h:Seg ax ay bx by' k x y):Seg bx by' ax ay k x y:=by
 obtain⟨s,h1,h2,h3,h4⟩:=h
 exact⟨k-s,by omega,by omega,by rw[h3];grind,by rw[h4];grind⟩
theorem a0U{ax ay bx by' k x y M:Int}(h:Seg ax ay bx by' k x y)(h1:ax≤M)(h2:bx≤M):x≤k*M:=by
 obtain⟨s,h3,h4,rfl,_⟩:=h
 have e1:=Int.mul_nonneg (show 0≤k-s by omega) (show 0≤M-ax by omega)
 have e2:=Int.mul_nonneg h3 (show 0≤M-bx by omega)
 grind
theorem a1b{ax ay bx by' k x y M:Int}(h:Seg ax ay bx by' k x y)(h1:M≤ax)(h2:M≤bx):k*M≤x:=by
 obtain⟨s,h3,h4,rfl,_⟩:=h
 have e1:=Int.mul_nonneg (show 0≤k-s by omega) (show 0≤ax-M by omega)
 have e2:=Int.mul_nonneg h3 (show 0≤bx-M by omega)
 grind
theorem I7{ax ay bx by' k x y:Int}(h:Seg ax ay bx by' k x y):Seg ay ax by' bx k y x:=by
 obtain⟨s,h1,h2,h3,h4⟩:=h
 exact⟨s,h1,h2,h4,h3⟩
theorem a3P{ax ay bx by' px py:Int}(hc:a8 ax ay bx by' px py=0)(h1:ax≠bx)(h2:min ax bx≤px)(h3:px≤max ax bx):
 ∃k,0<k∧Seg ax ay bx by' k (k*px) (k*py):=by
 unfold a8 at hc
 by_cases h:ax<bx
 ·exact⟨bx-ax,by omega,px-ax,by omega,by omega,by grind,by grind⟩
 ·exact⟨ax-bx,by omega,ax-px,by omega,by omega,by grind,by grind⟩
theorem V5(ax ay bx by' px py:Int):a8 ay ax by' bx py px= - a8 ax ay bx by' px py:=by unfold a8;grind
theorem D5{px py ax ay bx by':Int}:A7 px py ax ay bx by'=true↔∃k,0<k∧Seg ax ay bx by' k (k*px) (k*py):=by
 constructor
 ·intro h
  simp only[A7,decide_eq_true_eq,z6,b2M] at h
  obtain⟨h1,h2,h3,h4,h5⟩:=h
  by_cases hx:ax=bx
  ·by_cases hy:ay=by'
   ·exact⟨1,by omega,0,by omega,by omega,by omega,by omega⟩
   ·obtain⟨k,hk,hs⟩:=a3P (ax:=ay) (ay:=ax) (bx:=by') (by':=bx) (px:=py) (py:=px) (by rw[V5,h1];rfl) hy h4 h5
    exact⟨k,hk,I7 hs⟩
  ·exact a3P h1 hx h2 h3
 ·rintro⟨k,hk,h⟩
  have x1:=a0U h (Int.le_max_left ax bx) (Int.le_max_right ax bx)
  have x2:=a1b h (Int.min_le_left ax bx) (Int.min_le_right ax bx)
  have y1:=a0U (I7 h) (Int.le_max_left ay by') (Int.le_max_right ay by')
  have y2:=a1b (I7 h) (Int.min_le_left ay by') (Int.min_le_right ay by')
  simp only[A7,decide_eq_true_eq,z6,b2M]
  refine⟨?_,Int.le_of_mul_le_mul_left x2 hk,Int.le_of_mul_le_mul_left x1 hk,Int.le_of_mul_le_mul_left y2 hk,Int.le_of_mul_le_mul_left y1 hk⟩
  obtain⟨s,_,_,e1,e2⟩:=h
  have:k*a8 ax ay bx by' px py=0:=by unfold a8;grind
  rcases Int.mul_eq_zero.mp this with h | h
  ·omega
  ·exact h
theorem a1L{ax ay bx by' px py:Int}(hc:a8 ax ay bx by' px py=0)(h1:ax≠bx)(h2:min ax bx≤px)(h3:px≤max ax bx):A7 px py ax ay bx by'=true:=
 D5.mpr (a3P hc h1 h2 h3)
theorem b7c{ax ay bx by' px py:Int}:A7 py px ay ax by' bx=A7 px py ax ay bx by':=by
 rw[Bool.eq_iff_iff,D5,D5]
 exact⟨fun⟨k,h,hs⟩=>⟨k,h,I7 hs⟩,fun⟨k,h,hs⟩=>⟨k,h,I7 hs⟩⟩
theorem a4R(ax ay bx by' cx cy dx dy:Int):a8 ax ay bx by' cx cy+a8 cx cy dx dy ax ay=a8 ax ay bx by' dx dy+a8 cx cy dx dy bx by':=by
 unfold a8;grind
theorem O2{ax ay bx by' cx cy dx dy:Int}(h:n9 ax ay bx by' cx cy dx dy=true):b3W ax ay bx by' cx cy dx dy:=by
 simp only[n9,Bool.or_eq_true,decide_eq_true_eq,z6,a9Y] at h
 have e:=a4R ax ay bx by' cx cy dx dy
 rcases h with h | h | h | h | h
 ·have ex:((a8 cx cy dx dy ax ay-a8 cx cy dx dy bx by')*ax+a8 cx cy dx dy ax ay*(bx-ax)=(a8 cx cy dx dy ax ay-a8 cx cy dx dy bx by')*cx+(- a8 ax ay bx by' cx cy)*(dx-cx)):=by unfold a8;grind
  have ey:((a8 cx cy dx dy ax ay-a8 cx cy dx dy bx by')*ay+a8 cx cy dx dy ax ay*(by'-ay)=(a8 cx cy dx dy ax ay-a8 cx cy dx dy bx by')*cy+(- a8 ax ay bx by' cx cy)*(dy-cy)):=by unfold a8;grind
  generalize a8 cx cy dx dy ax ay=g at*
  generalize a8 cx cy dx dy bx by'=d at*
  generalize a8 ax ay bx by' cx cy=a at*
  generalize a8 ax ay bx by' dx dy=b at*
  by_cases hg:0<g
  ·exact⟨g-d,_,_,by omega,⟨g,by omega,by omega,rfl,rfl⟩,⟨-a,by omega,by omega,ex,ey⟩⟩
  ·exact⟨d-g,_,_,by omega,⟨-g,by omega,by omega,rfl,rfl⟩,⟨a,by omega,by omega,by grind,by grind⟩⟩
 ·obtain⟨k,hk,hs⟩:=D5.mp h
  exact⟨k,_,_,hk,a5s _ _ _ _ (by omega),hs⟩
 ·obtain⟨k,hk,hs⟩:=D5.mp h
  exact⟨k,_,_,hk,b6E _ _ _ _ (by omega),hs⟩
 ·obtain⟨k,hk,hs⟩:=D5.mp h
  exact⟨k,_,_,hk,hs,a5s _ _ _ _ (by omega)⟩
 ·obtain⟨k,hk,hs⟩:=D5.mp h
  exact⟨k,_,_,hk,hs,b6E _ _ _ _ (by omega)⟩
theorem b6v{k s a b:Int}(h1:0<s)(h2:s<k)(h:(k-s)*a+s*b=0):(a=0∧b=0)∨(a<0∧0<b)∨(0<a∧b<0):=by
 rcases Int.lt_trichotomy a 0 with ha | ha | ha
 ·have:=Int.mul_neg_of_pos_of_neg (show 0<k-s by omega) ha
  have:0<b:=by
   rcases Int.lt_or_le 0 b with hb | hb
   ·exact hb
   ·have:=Int.mul_nonneg (show 0≤s by omega) (show 0≤ -b by omega)
    grind
  omega
 ·subst ha
  have:s*b=0:=by grind
  rcases Int.mul_eq_zero.mp this with h | h<;>omega
 ·have:=Int.mul_pos (show 0<k-s by omega) ha
  have:b<0:=by
   rcases Int.lt_or_le b 0 with hb | hb
   ·exact hb
   ·have:=Int.mul_nonneg (show 0≤s by omega) hb
    grind
  omega
theorem c6R{ax ay bx by' cx cy dx dy k x:Int}(hk:0<k)(hx:ax≠bx)(h1:a8 ax ay bx by' cx cy=0)(h2:a8 ax ay bx by' dx dy=0)(h3:a8 cx cy dx dy ax ay=0)(h4:a8 cx cy dx dy bx by'=0)
 (u1:x≤k*max ax bx) (u2:k*min ax bx≤x) (u3:x≤k*max cx dx) (u4:k*min cx dx≤x):
 A7 ax ay cx cy dx dy=true∨A7 bx by' cx cy dx dy=true∨A7 cx cy ax ay bx by'=true∨A7 dx dy ax ay bx by'=true:=by
 have a1:=Int.le_of_mul_le_mul_left (Int.le_trans u2 u3) hk
 have a2:=Int.le_of_mul_le_mul_left (Int.le_trans u4 u1) hk
 by_cases q1:min ax bx≤cx∧cx≤max ax bx
 ·exact .inr (.inr (.inl (a1L h1 hx q1.1 q1.2)))
 by_cases q2:min ax bx≤dx∧dx≤max ax bx
 ·exact .inr (.inr (.inr (a1L h2 hx q2.1 q2.2)))
 have:cx≠dx:=by omega
 exact .inl (a1L h3 this (by omega) (by omega))
theorem H7{ax ay bx by' cx cy dx dy:Int}(h:b3W ax ay bx by' cx cy dx dy):n9 ax ay bx by' cx cy dx dy=true:=by
 obtain⟨k,x,y,hk,h1,h2⟩:=h
 simp only[n9,Bool.or_eq_true,decide_eq_true_eq,z6,a9Y]
 have u1:=a0U h1 (Int.le_max_left ax bx) (Int.le_max_right ax bx)
 have u2:=a1b h1 (Int.min_le_left ax bx) (Int.min_le_right ax bx)
 have u3:=a0U h2 (Int.le_max_left cx dx) (Int.le_max_right cx dx)
 have u4:=a1b h2 (Int.min_le_left cx dx) (Int.min_le_right cx dx)
 have v1:=a0U (I7 h1) (Int.le_max_left ay by') (Int.le_max_right ay by')
 have v2:=a1b (I7 h1) (Int.min_le_left ay by') (Int.min_le_right ay by')
 have v3:=a0U (I7 h2) (Int.le_max_left cy dy) (Int.le_max_right cy dy)
 have v4:=a1b (I7 h2) (Int.min_le_left cy dy) (Int.min_le_right cy dy)
 have h1':=h1
 have h2':=h2
 obtain⟨s,s0,s1,ex,ey⟩:=h1
 obtain⟨t,t0,t1,fx,fy⟩:=h2
 by_cases c1:s=0
 ·exact .inr (.inl (D5.mpr ⟨k,hk,by rw[show k*ax=x by rw[ex,c1];omega,show k*ay=y by rw[ey,c1];omega];exact h2'⟩))
 by_cases c2:s=k
 ·exact .inr (.inr (.inl (D5.mpr ⟨k,hk,by rw[show k*bx=x by rw[ex,c2];grind,show k*by'=y by rw[ey,c2];grind];exact h2'⟩)))
 by_cases c3:t=0
 ·exact .inr (.inr (.inr (.inl (D5.mpr ⟨k,hk,by rw[show k*cx=x by rw[fx,c3];omega,show k*cy=y by rw[fy,c3];omega];exact h1'⟩))))
 by_cases c4:t=k
 ·exact .inr (.inr (.inr (.inr (D5.mpr ⟨k,hk,by rw[show k*dx=x by rw[fx,c4];grind,show k*dy=y by rw[fy,c4];grind];exact h1'⟩))))
 have E1:(k-t)*a8 ax ay bx by' cx cy+t*a8 ax ay bx by' dx dy=0:=by unfold a8;grind
 have E2:(k-s)*a8 cx cy dx dy ax ay+s*a8 cx cy dx dy bx by'=0:=by unfold a8;grind
 have e:=a4R ax ay bx by' cx cy dx dy
 have b1:=b6v (by omega) (by omega) E1
 have b2:=b6v (by omega) (by omega) E2
 by_cases z:a8 ax ay bx by' cx cy=0∧a8 ax ay bx by' dx dy=0∧a8 cx cy dx dy ax ay=0∧a8 cx cy dx dy bx by'=0
 ·obtain⟨z1,z2,z3,z4⟩:=z
  right
  by_cases hx:ax=bx
  ·by_cases hy:ay=by'
   ·left
    subst hx hy
    exact D5.mpr ⟨k,hk,by rw[show k*ax=x by rw[ex];grind,show k*ay=y by rw[ey];grind];exact h2'⟩
   ·have:=c6R (ax:=ay) (ay:=ax) (bx:=by') (by':=bx) (cx:=cy) (cy:=cx) (dx:=dy) (dy:=dx) hk hy (by rw[V5,z1];rfl) (by rw[V5,z2];rfl) (by rw[V5,z3];rfl) (by rw[V5,z4];rfl) v1 v2 v3 v4
    simpa only[b7c] using this
  ·exact c6R hk hx z1 z2 z3 z4 u1 u2 u3 u4
 ·left
  omega
theorem V0{ax ay bx by' cx cy dx dy:Int}:n9 ax ay bx by' cx cy dx dy=true↔b3W ax ay bx by' cx cy dx dy:=⟨O2,H7⟩
def E7(qx qy ax ay bx by':Int):Bool:=
 if by'<ay then decide (by'≤qy∧qy<ay∧0<a8 bx by' ax ay qx qy) else decide (ay≤qy∧qy<by'∧0<a8 ax ay bx by' qx qy)
def gIn(ax ay bx by' px py:Int):Bool:=decide (ay<py∧py≤by'∧a8 ax ay bx by' px py<0)
theorem a2S(qx qy ax ay bx by':Int):E7 qx qy ax ay bx by'=E7 qx qy bx by' ax ay:=by
 unfold E7
 split<;>split
 ·omega
 ·rfl
 ·rfl
 ·have:ay=by':=by omega
  subst this
  rw[decide_eq_false (by omega),decide_eq_false (by omega)]
theorem a7X{a b:Int}(h:0<a*b)(hb:0<b):0<a:=by
 rcases Int.lt_or_le 0 a with h' | h'
 ·exact h'
 ·have:=Int.mul_nonneg (show 0≤ -a by omega) (show 0≤b by omega)
  grind
theorem b3v{a b:Int}(h:a*b<0)(hb:0<b):a<0:=by
 rcases Int.lt_or_le a 0 with h' | h'
 ·exact h'
 ·have:=Int.mul_nonneg h' (show 0≤b by omega)
  omega
theorem R9{ax ay bx by' px py:Int}(hc:a8 ax ay bx by' px py=0)(h1:ay≠by')(h2:min ay by'≤py)(h3:py≤max ay by'):A7 px py ax ay bx by'=true:=by
 rw[←b7c]
 exact a1L (by rw[V5,hc];rfl) h1 h2 h3
section
variable {ax ay bx by' px py qx qy:Int} (hn:n9 ax ay bx by' px py qx qy=false)
include hn
theorem a2H:¬(((a8 ax ay bx by' px py<0∧0<a8 ax ay bx by' qx qy)∨(0<a8 ax ay bx by' px py∧a8 ax ay bx by' qx qy<0))∧((a8 px py qx qy ax ay<0∧0<a8 px py qx qy bx by')∨(0<a8 px py qx qy ax ay∧a8 px py qx qy bx by'<0))):=by
 intro h
 simp only[n9,Bool.or_eq_false_iff,decide_eq_false_iff_not,z6,a9Y] at hn
 exact hn.1 h
theorem a6b:A7 ax ay px py qx qy=false∧A7 bx by' px py qx qy=false∧A7 px py ax ay bx by'=false∧A7 qx qy ax ay bx by'=false:=by
 simp only[n9,Bool.or_eq_false_iff] at hn
 exact hn.2
theorem c7H(h1:py≤ay)(h2:ay<qy)(h3:qy≤by'):(0<a8 px py qx qy ax ay)↔a8 ax ay bx by' qx qy<0:=by
 have np:=a2H hn
 obtain⟨n1,n2,n3,n4⟩:=a6b hn
 have z1:a8 px py qx qy ax ay≠0:=fun h=>by rw[R9 h (by omega) (by omega) (by omega)] at n1;exact absurd n1 (by decide)
 have z4:a8 ax ay bx by' qx qy≠0:=fun h=>by rw[R9 h (by omega) (by omega) (by omega)] at n4;exact absurd n4 (by decide)
 have I1:a8 ax ay bx by' px py*(qy-ay)+a8 px py qx qy ax ay*(by'-ay)=a8 ax ay bx by' qx qy*(py-ay):=by unfold a8;grind
 have I2:a8 px py qx qy bx by'*(by'-ay)=a8 ax ay bx by' px py*(by'-qy)-a8 ax ay bx by' qx qy*(by'-py):=by unfold a8;grind
 generalize a8 ax ay bx by' px py=a at*
 generalize a8 ax ay bx by' qx qy=b at*
 generalize a8 px py qx qy ax ay=g at*
 generalize a8 px py qx qy bx by'=d at*
 constructor
 ·intro hg
  rcases Int.lt_or_le b 0 with h | h
  ·exact h
  ·have q1:=Int.mul_pos hg (show 0<by'-ay by omega)
   have q2:=Int.mul_nonneg h (show 0≤ay-py by omega)
   have ha:a<0:=b3v (b:=qy-ay) (by grind) (by omega)
   have q3:=Int.mul_nonneg (show 0≤ -a by omega) (show 0≤by'-qy by omega)
   have q4:=Int.mul_pos (show 0<b by omega) (show 0<by'-py by omega)
   have hd:d<0:=b3v (b:=by'-ay) (by grind) (by omega)
   omega
 ·intro hb
  rcases Int.lt_or_le 0 g with h | h
  ·exact h
  ·have q1:=Int.mul_pos (show 0< -g by omega) (show 0<by'-ay by omega)
   have q2:=Int.mul_nonneg (show 0≤ -b by omega) (show 0≤ay-py by omega)
   have ha:0<a:=a7X (b:=qy-ay) (by grind) (by omega)
   have q3:=Int.mul_nonneg (show 0≤a by omega) (show 0≤by'-qy by omega)
   have q4:=Int.mul_pos (show 0< -b by omega) (show 0<by'-py by omega)
   have hd:0<d:=a7X (b:=by'-ay) (by grind) (by omega)
   omega
theorem c6x(h1:ay<py)(h2:py≤by')(h3:by'<qy):(0<a8 px py qx qy bx by')↔a8 ax ay bx by' px py<0:=by
 have np:=a2H hn
 obtain⟨n1,n2,n3,n4⟩:=a6b hn
 have z1:a8 px py qx qy bx by'≠0:=fun h=>by rw[R9 h (by omega) (by omega) (by omega)] at n2;exact absurd n2 (by decide)
 have z4:a8 ax ay bx by' px py≠0:=fun h=>by rw[R9 h (by omega) (by omega) (by omega)] at n3;exact absurd n3 (by decide)
 have I1:a8 ax ay bx by' px py*(qy-ay)+a8 px py qx qy ax ay*(by'-ay)=a8 ax ay bx by' qx qy*(py-ay):=by unfold a8;grind
 have I2:a8 px py qx qy bx by'*(by'-ay)=a8 ax ay bx by' px py*(by'-qy)-a8 ax ay bx by' qx qy*(by'-py):=by unfold a8;grind
 generalize a8 ax ay bx by' px py=a at*
 generalize a8 ax ay bx by' qx qy=b at*
 generalize a8 px py qx qy ax ay=g at*
 generalize a8 px py qx qy bx by'=d at*
 constructor
 ·intro hd
  rcases Int.lt_or_le a 0 with h | h
  ·exact h
  ·have q1:=Int.mul_pos hd (show 0<by'-ay by omega)
   have q2:=Int.mul_nonneg h (show 0≤qy-by' by omega)
   have q5:0< -b*(by'-py):=by grind
   have hb:b<0:=by
    rcases Int.lt_or_le b 0 with h' | h'
    ·exact h'
    ·have:=Int.mul_nonneg h' (show 0≤by'-py by omega)
     grind
   have q3:=Int.mul_pos (show 0< -b by omega) (show 0<py-ay by omega)
   have q4:=Int.mul_pos (show 0<a by omega) (show 0<qy-ay by omega)
   have hg:g<0:=b3v (b:=by'-ay) (by grind) (by omega)
   omega
 ·intro ha
  rcases Int.lt_or_le 0 d with h | h
  ·exact h
  ·have q1:=Int.mul_pos (show 0< -d by omega) (show 0<by'-ay by omega)
   have q2:=Int.mul_pos (show 0< -a by omega) (show 0<qy-by' by omega)
   have q5:0<b*(by'-py):=by grind
   have hb:0<b:=by
    rcases Int.lt_or_le 0 b with h' | h'
    ·exact h'
    ·have:=Int.mul_nonneg (show 0≤ -b by omega) (show 0≤by'-py by omega)
     grind
   have q3:=Int.mul_pos hb (show 0<py-ay by omega)
   have q4:=Int.mul_pos (show 0< -a by omega) (show 0<qy-ay by omega)
   have hg:0<g:=a7X (b:=by'-ay) (by grind) (by omega)
   omega
theorem c7Q(hy:ay≤by')(h1:py≤ay)(h3:by'<qy):(0<a8 px py qx qy ax ay)↔0<a8 px py qx qy bx by':=by
 have np:=a2H hn
 obtain⟨n1,n2,n3,n4⟩:=a6b hn
 have z1:a8 px py qx qy ax ay≠0:=fun h=>by rw[R9 h (by omega) (by omega) (by omega)] at n1;exact absurd n1 (by decide)
 have z2:a8 px py qx qy bx by'≠0:=fun h=>by rw[R9 h (by omega) (by omega) (by omega)] at n2;exact absurd n2 (by decide)
 have e:=a4R ax ay bx by' px py qx qy
 have I1:a8 ax ay bx by' px py*(qy-ay)+a8 px py qx qy ax ay*(by'-ay)=a8 ax ay bx by' qx qy*(py-ay):=by unfold a8;grind
 have I2:a8 px py qx qy bx by'*(by'-ay)=a8 ax ay bx by' px py*(by'-qy)-a8 ax ay bx by' qx qy*(by'-py):=by unfold a8;grind
 have z3:¬(a8 ax ay bx by' px py=0∧py=ay∧by'=ay)∨(a8 px py qx qy ax ay<0∧a8 px py qx qy bx by'<0)∨(0<a8 px py qx qy ax ay∧0<a8 px py qx qy bx by'):=by
  rcases Classical.em (a8 ax ay bx by' px py=0∧py=ay∧by'=ay) with ⟨c1,rfl,rfl⟩ | c
  ·right
   have w1:a8 px by' qx qy ax by'=(px-ax)*(qy-by'):=by unfold a8;grind
   have w2:a8 px by' qx qy bx by'=(px-bx)*(qy-by'):=by unfold a8;grind
   rw[w1] at z1 ⊢
   rw[w2] at z2 ⊢
   have nn:¬(min ax bx≤px∧px≤max ax bx):=by
    intro hh
    rcases Classical.em (ax=bx) with hx | hx
    ·have:px=ax:=by omega
     subst this
     simp at z1
    ·rw[a1L c1 hx hh.1 hh.2] at n3
     exact absurd n3 (by decide)
   rcases Int.lt_or_le px (min ax bx) with h | h
   ·left
    exact⟨Int.mul_neg_of_neg_of_pos (by omega) (by omega),Int.mul_neg_of_neg_of_pos (by omega) (by omega)⟩
   ·right
    exact⟨Int.mul_pos (by omega) (by omega),Int.mul_pos (by omega) (by omega)⟩
  ·exact .inl c
 generalize a8 ax ay bx by' px py=a at*
 generalize a8 ax ay bx by' qx qy=b at*
 generalize a8 px py qx qy ax ay=g at*
 generalize a8 px py qx qy bx by'=d at*
 constructor
 ·intro hg
  rcases Int.lt_or_le 0 d with h | h
  ·exact h
  ·
   exfalso
   rcases Int.lt_or_le a 0 with ha | ha
   ·have hb:b≤0:=by omega
    have q1:=Int.mul_pos (show 0< -a by omega) (show 0<qy-by' by omega)
    have q2:=Int.mul_nonneg (show 0≤ -b by omega) (show 0≤by'-py by omega)
    have q3:=Int.mul_nonneg (show 0≤ -d by omega) (show 0≤by'-ay by omega)
    grind
   ·have q1:=Int.mul_nonneg ha (show 0≤qy-ay by omega)
    have q2:=Int.mul_nonneg (show 0≤g by omega) (show 0≤by'-ay by omega)
    have q3:=Int.mul_nonneg (show 0≤b by omega) (show 0≤ay-py by omega)
    have e0:b*(ay-py)= -(b*(py-ay)):=by grind
    have e1:a*(qy-ay)=0:=by omega
    have e2:g*(by'-ay)=0:=by omega
    have e3:b*(py-ay)=0:=by omega
    have f1:=Int.mul_eq_zero.mp e1
    have f2:=Int.mul_eq_zero.mp e2
    have f3:=Int.mul_eq_zero.mp e3
    omega
 ·intro hd
  rcases Int.lt_or_le 0 g with h | h
  ·exact h
  ·exfalso
   rcases Int.lt_or_le 0 a with ha | ha
   ·have hb:0≤b:=by omega
    have q1:=Int.mul_pos ha (show 0<qy-by' by omega)
    have q2:=Int.mul_nonneg hb (show 0≤by'-py by omega)
    have q3:=Int.mul_nonneg (show 0≤d by omega) (show 0≤by'-ay by omega)
    grind
   ·have q1:=Int.mul_nonneg (show 0≤ -a by omega) (show 0≤qy-ay by omega)
    have q2:=Int.mul_nonneg (show 0≤ -g by omega) (show 0≤by'-ay by omega)
    have q3:=Int.mul_nonneg (show 0≤ -b by omega) (show 0≤ay-py by omega)
    rw[Int.neg_mul] at q1 q2 q3
    have e0:b*(ay-py)= -(b*(py-ay)):=by grind
    have e1:a*(qy-ay)=0:=by omega
    have e2:g*(by'-ay)=0:=by omega
    have e3:b*(py-ay)=0:=by omega
    have f1:=Int.mul_eq_zero.mp e1
    have f2:=Int.mul_eq_zero.mp e2
    have f3:=Int.mul_eq_zero.mp e3
    omega
theorem c7j(h1:ay<py)(hpq:py≤qy)(h3:qy≤by'):a8 ax ay bx by' px py<0↔a8 ax ay bx by' qx qy<0:=by
 have np:=a2H hn
 obtain⟨n1,n2,n3,n4⟩:=a6b hn
 have z1:a8 ax ay bx by' px py≠0:=fun h=>by rw[R9 h (by omega) (by omega) (by omega)] at n3;exact absurd n3 (by decide)
 have z2:a8 ax ay bx by' qx qy≠0:=fun h=>by rw[R9 h (by omega) (by omega) (by omega)] at n4;exact absurd n4 (by decide)
 have I1:a8 ax ay bx by' px py*(qy-ay)+a8 px py qx qy ax ay*(by'-ay)=a8 ax ay bx by' qx qy*(py-ay):=by unfold a8;grind
 have I2:a8 px py qx qy bx by'*(by'-ay)=a8 ax ay bx by' px py*(by'-qy)-a8 ax ay bx by' qx qy*(by'-py):=by unfold a8;grind
 have z3:¬(py=by'∧qy=by')∨(a8 ax ay bx by' px py<0∧a8 ax ay bx by' qx qy<0)∨(0<a8 ax ay bx by' px py∧0<a8 ax ay bx by' qx qy):=by
  rcases Classical.em (py=by'∧qy=by') with ⟨rfl,rfl⟩ | c
  ·right
   have w1:a8 ax ay bx qy px qy=(bx-px)*(qy-ay):=by unfold a8;grind
   have w2:a8 ax ay bx qy qx qy=(bx-qx)*(qy-ay):=by unfold a8;grind
   rw[w1] at z1 ⊢
   rw[w2] at z2 ⊢
   have nn:¬(min px qx≤bx∧bx≤max px qx):=by
    intro hh
    rcases Classical.em (px=qx) with hx | hx
    ·have:bx=px:=by omega
     subst this
     simp at z1
    ·rw[a1L (by unfold a8;grind) hx hh.1 hh.2] at n2
     exact absurd n2 (by decide)
   rcases Int.lt_or_le bx (min px qx) with h | h
   ·left
    exact⟨Int.mul_neg_of_neg_of_pos (by omega) (by omega),Int.mul_neg_of_neg_of_pos (by omega) (by omega)⟩
   ·right
    exact⟨Int.mul_pos (by omega) (by omega),Int.mul_pos (by omega) (by omega)⟩
  ·exact .inl c
 generalize a8 ax ay bx by' px py=a at*
 generalize a8 ax ay bx by' qx qy=b at*
 generalize a8 px py qx qy ax ay=g at*
 generalize a8 px py qx qy bx by'=d at*
 have key:∀a b g d:Int,a*(qy-ay)+g*(by'-ay)=b*(py-ay)→d*(by'-ay)=a*(by'-qy)-b*(by'-py)→a<0→0<b→¬(py=by'∧qy=by')→0<g∧d<0:=by
  intro a b g d I1 I2 ha hb hz
  have q1:=Int.mul_pos hb (show 0<py-ay by omega)
  have q2:=Int.mul_pos (show 0< -a by omega) (show 0<qy-ay by omega)
  have q3:=Int.mul_nonneg (show 0≤ -a by omega) (show 0≤by'-qy by omega)
  have q4:=Int.mul_nonneg (show 0≤b by omega) (show 0≤by'-py by omega)
  refine⟨a7X (b:=by'-ay) (by grind) (by omega),?_⟩
  rcases Int.lt_or_le d 0 with h | h
  ·exact h
  ·have q5:=Int.mul_nonneg h (show 0≤by'-ay by omega)
   rw[Int.neg_mul] at q3
   have e1:a*(by'-qy)=0:=by omega
   have e2:b*(by'-py)=0:=by omega
   have:=Int.mul_eq_zero.mp e1
   have:=Int.mul_eq_zero.mp e2
   omega
 constructor
 ·intro ha
  rcases Int.lt_or_le b 0 with h | h
  ·exact h
  ·have:=key a b g d I1 I2 ha (by omega) (by omega)
   omega
 ·intro hb
  rcases Int.lt_or_le a 0 with h | h
  ·exact h
  ·have:=key (-a) (-b) (-g) (-d) (by grind) (by grind) (by omega) (by omega) (by omega)
   omega
end
theorem a6y{p q:Prop}[Decidable p][Decidable q](h:p↔q):decide p=decide q:=decide_eq_decide.mpr h
theorem c0X{ax ay bx by' px py qx qy:Int}(hy:ay≤by')(hpq:py≤qy)(hn:n9 ax ay bx by' px py qx qy=false):
 (E7 ax ay px py qx qy ^^ E7 bx by' px py qx qy)=(gIn ax ay bx by' px py ^^ gIn ax ay bx by' qx qy):=by
 unfold E7 gIn
 rw[if_neg (by omega),if_neg (by omega)]
 by_cases h1:py≤ay
 ·by_cases h2:ay<qy
  ·by_cases h3:qy≤by'
   ·have:=c7H hn h1 h2 h3
    rw[decide_eq_false (p:=py≤by'∧by'<qy∧0<a8 px py qx qy bx by') (by omega),decide_eq_false (p:=ay<py∧py≤by'∧a8 ax ay bx by' px py<0) (by omega)]
    simp only[Bool.xor_false,Bool.false_xor]
    exact a6y ⟨fun h=>⟨h2,h3,this.mp h.2.2⟩,fun h=>⟨h1,h2,this.mpr h.2.2⟩⟩
   ·have:=c7Q hn hy h1 (by omega)
    rw[decide_eq_false (p:=ay<py∧py≤by'∧a8 ax ay bx by' px py<0) (by omega),decide_eq_false (p:=ay<qy∧qy≤by'∧a8 ax ay bx by' qx qy<0) (by omega)]
    rw[a6y (q:=py≤by'∧by'<qy∧0<a8 px py qx qy bx by') ⟨fun h=>⟨by omega,by omega,this.mp h.2.2⟩,fun h=>⟨by omega,by omega,this.mpr h.2.2⟩⟩]
    simp
  ·rw[decide_eq_false (by omega),decide_eq_false (by omega),decide_eq_false (by omega),decide_eq_false (by omega)]
 ·by_cases h2:py≤by'
  ·by_cases h3:by'<qy
   ·have:=c6x hn (by omega) h2 h3
    rw[decide_eq_false (p:=py≤ay∧ay<qy∧0<a8 px py qx qy ax ay) (by omega),decide_eq_false (p:=ay<qy∧qy≤by'∧a8 ax ay bx by' qx qy<0) (by omega)]
    simp only[Bool.xor_false,Bool.false_xor]
    exact a6y ⟨fun h=>⟨by omega,h2,this.mp h.2.2⟩,fun h=>⟨h2,h3,this.mpr h.2.2⟩⟩
   ·have:=c7j hn (by omega) hpq (by omega)
    rw[decide_eq_false (p:=py≤ay∧ay<qy∧0<a8 px py qx qy ax ay) (by omega),decide_eq_false (p:=py≤by'∧by'<qy∧0<a8 px py qx qy bx by') (by omega)]
    rw[a6y (q:=ay<qy∧qy≤by'∧a8 ax ay bx by' qx qy<0) ⟨fun h=>⟨by omega,by omega,this.mp h.2.2⟩,fun h=>⟨by omega,by omega,this.mpr h.2.2⟩⟩]
    simp
  ·rw[decide_eq_false (by omega),decide_eq_false (by omega),decide_eq_false (by omega),decide_eq_false (by omega)]
theorem a8v{ax ay bx by' px py qx qy:Int}:n9 ax ay bx by' qx qy px py=n9 ax ay bx by' px py qx qy:=by
 rw[Bool.eq_iff_iff,V0,V0]
 exact⟨fun⟨k,x,y,h1,h2,h3⟩=>⟨k,x,y,h1,h2,a4c h3⟩,fun⟨k,x,y,h1,h2,h3⟩=>⟨k,x,y,h1,h2,a4c h3⟩⟩
theorem a4b{ax ay bx by' px py qx qy:Int}:n9 bx by' ax ay px py qx qy=n9 ax ay bx by' px py qx qy:=by
 rw[Bool.eq_iff_iff,V0,V0]
 exact⟨fun⟨k,x,y,h1,h2,h3⟩=>⟨k,x,y,h1,a4c h2,h3⟩,fun⟨k,x,y,h1,h2,h3⟩=>⟨k,x,y,h1,a4c h2,h3⟩⟩
theorem b3o{ax ay bx by' px py qx qy:Int}(hy:ay≤by')(hn:n9 ax ay bx by' px py qx qy=false):
 (E7 ax ay px py qx qy ^^ E7 bx by' px py qx qy)=(gIn ax ay bx by' px py ^^ gIn ax ay bx by' qx qy):=by
 rcases Int.le_total py qy with h | h
 ·exact c0X hy h hn
 ·rw[a2S ax ay,a2S bx by',Bool.xor_comm (gIn _ _ _ _ _ _)]
  exact c0X hy h (by rw[a8v];exact hn)
end Go.Proofs.YtcjaembdcfppfaaGreat
namespace Go.Proofs.YtcjaembdcfppfaaGreat
open Go.RowKit
def cx(r:Rows)(i:Nat):Int:=lg r (i:Int) 0
def cy(r:Rows)(i:Nat):Int:=lg r (i:Int) 1
theorem a7q{r:Rows}:∀(f i:Nat),plN r f i=true→∀k,i≤k→k<i+f→f9 (cx r k) (cy r k)=true
 | 0,i,_,k,h1,h2=>by omega
 | f+1,i,h,k,h1,h2=>by
   rw[plN,Bool.and_eq_true] at h
   by_cases e:k=i
   ·subst e;exact h.1
   ·exact a7q f (i+1) h.2 k (by omega) (by omega)
theorem x9{r:Rows}(h:j6 r=true){k:Nat}(hk:k<r.length):f9 (cx r k) (cy r k)=true:=by
 simp only[j6,Bool.and_eq_true] at h
 exact a7q r.length 0 h.2.1 k (by omega) (by omega)
def crE(r:Rows)(x y:Int)(i:Nat):Bool:=E7 x y (cx r i) (cy r i) (cx r (nxt r.length i)) (cy r (nxt r.length i))
def F9(r:Rows)(x y:Int):Nat→Nat→Bool
 | 0,_=>false
 | f+1,i=>crE r x y i ^^ F9 r x y f (i+1)
theorem a6Z{a b c d e f:Int}(h1:f9 a b=true)(h2:f9 c d=true)(h3:f9 e f=true):G3 [.i a,.i b,.i c,.i d,.i e,.i f]=z6 a b c d e f:=by
 have:u0 [.i a,.i b,.i c,.i d,.i e,.i f]=(f9 a b&&f9 c d&&f9 e f):=rfl
 unfold G3
 rw[this,h1,h2,h3]
 rfl
theorem d1a{a b c d e f:Int}(h1:f9 a b=true)(h2:f9 c d=true)(h3:f9 e f=true):onR [.i a,.i b,.i c,.i d,.i e,.i f]=A7 a b c d e f:=by
 have:u0 [.i a,.i b,.i c,.i d,.i e,.i f]=(f9 a b&&f9 c d&&f9 e f):=rfl
 unfold onR
 rw[this,h1,h2,h3]
 rfl
theorem c1i{r:Rows}(hr:j6 r=true){x y:Int}(hq:f9 x y=true){i:Nat}(hi:i<r.length):a8a r x y i=crE r x y i:=by
 have h1:=x9 hr hi
 have h2:=x9 hr (u6 hi)
 unfold cx cy at h1 h2
 unfold a8a crE E7 cx cy
 rw[a6Z h1 h2 hq,a6Z h2 h1 hq]
 simp only[z6,c7g]
theorem d2P{r:Rows}(hr:j6 r=true){x y:Int}(hq:f9 x y=true){i:Nat}(hi:i<r.length):onE r x y i=A7 x y (cx r i) (cy r i) (cx r (nxt r.length i)) (cy r (nxt r.length i)):=
 d1a hq (x9 hr hi) (x9 hr (u6 hi))
def onN(r:Rows)(x y:Int):Nat→Nat→Bool
 | 0,_=>false
 | f+1,i=>A7 x y (cx r i) (cy r i) (cx r (nxt r.length i)) (cy r (nxt r.length i))||onN r x y f (i+1)
theorem a1d{r:Rows}(hr:j6 r=true){x y:Int}(hq:f9 x y=true):∀(f i:Nat) (b:Bool),i+f=r.length→j9 r x y f i b=if onN r x y f i then 0 else if b ^^ F9 r x y f i then 1 else -1
 | 0,i,b,h=>by simp [j9,onN,F9]
 | f+1,i,b,h=>by
   rw[j9,onN,F9,a1d hr hq f (i+1) _ (by omega),d2P hr hq (show i<r.length by omega),c1i hr hq (show i<r.length by omega)]
   cases A7 x y (cx r i) (cy r i) (cx r (nxt r.length i)) (cy r (nxt r.length i))<;>simp [Bool.xor_assoc]
theorem a2I{r:Rows}{x y:Int}:∀(f i:Nat),(∀k,i≤k→k<i+f→A7 x y (cx r k) (cy r k) (cx r (nxt r.length k)) (cy r (nxt r.length k))=false)→onN r x y f i=false
 | 0,_,_=>rfl
 | f+1,i,h=>by
   rw[onN,h i (by omega) (by omega),a2I f (i+1) (fun k h1 h2=>h k (by omega) (by omega))];rfl
theorem d5C(a b c d:Bool):((a ^^ b) ^^ (c ^^ d))=((a ^^ c) ^^ (b ^^ d)):=by cases a<;>cases b<;>cases c<;>cases d<;>rfl
theorem b2C{r:Rows}{ax ay bx by':Int}(hy:ay≤by')(hm:∀k,k<r.length→n9 ax ay bx by' (cx r k) (cy r k) (cx r (nxt r.length k)) (cy r (nxt r.length k))=false):
 ∀(f i:Nat),i+f+1=r.length→(F9 r ax ay (f+1) i ^^ F9 r bx by' (f+1) i)=(gIn ax ay bx by' (cx r i) (cy r i) ^^ gIn ax ay bx by' (cx r 0) (cy r 0))
 | 0,i,h=>by
   have e:=b3o hy (hm i (by omega))
   rw[F9,F9,F9,F9,Bool.xor_false,Bool.xor_false]
   unfold crE
   rw[e,show nxt r.length i=0 by unfold nxt;rw[if_pos (by omega)]]
 | f+1,i,h=>by
   have e:=b3o hy (hm i (by omega))
   have e2:=b2C hy hm f (i+1) (by omega)
   rw[show F9 r ax ay (f+1+1) i=(crE r ax ay i ^^ F9 r ax ay (f+1) (i+1)) from rfl,show F9 r bx by' (f+1+1) i=(crE r bx by' i ^^ F9 r bx by' (f+1) (i+1)) from rfl,d5C,e2]
   unfold crE
   rw[e,show nxt r.length i=i+1 by unfold nxt;rw[if_neg (by omega)]]
   cases gIn ax ay bx by' (cx r i) (cy r i)<;>cases gIn ax ay bx by' (cx r (i+1)) (cy r (i+1))<;>cases gIn ax ay bx by' (cx r 0) (cy r 0)<;>rfl
theorem b0J{r:Rows}(hn:0<r.length){ax ay bx by':Int}(hy:ay≤by')(hm:∀k,k<r.length→n9 ax ay bx by' (cx r k) (cy r k) (cx r (nxt r.length k)) (cy r (nxt r.length k))=false):F9 r ax ay r.length 0=F9 r bx by' r.length 0:=by
 have:=b2C hy hm (r.length-1) 0 (by omega)
 rw[show r.length-1+1=r.length by omega,Bool.xor_self] at this
 revert this
 cases F9 r ax ay r.length 0<;>cases F9 r bx by' r.length 0<;>simp
theorem a6I{r:Rows}(hr:j6 r=true){ax ay bx by':Int}(ha:f9 ax ay=true)(hb:f9 bx by'=true)
 (hm:∀k,k<r.length→n9 ax ay bx by' (cx r k) (cy r k) (cx r (nxt r.length k)) (cy r (nxt r.length k))=false):j9 r ax ay r.length 0 false=j9 r bx by' r.length 0 false:=by
 have hl:=H3 hr
 rw[a1d hr ha _ _ _ (by omega),a1d hr hb _ _ _ (by omega)]
 rw[a2I r.length 0 (fun k _ h=>(a6b (hm k (by omega))).1),a2I r.length 0 (fun k _ h=>(a6b (hm k (by omega))).2.1)]
 have:F9 r ax ay r.length 0=F9 r bx by' r.length 0:=by
  rcases Int.le_total ay by' with h | h
  ·exact b0J (by omega) h hm
  ·exact(b0J (by omega) h (fun k hk=>by rw[a4b];exact hm k hk)).symm
 rw[this]
theorem a7c{a b c d e f r:Int}(h1:f9 a b=true)(h2:f9 c d=true)(h3:f9 e f=true)(hr:0≤r∧r≤3000000):
 P7 [.i a,.i b,.i c,.i d,.i e,.i f,.i r]=A9 a b c d e f r∧X9 [.i a,.i b,.i c,.i d,.i e,.i f,.i r]=0:=by
 have e1:a3I [.i a,.i b,.i c,.i d,.i e,.i f,.i r]=(f9 a b&&f9 c d&&f9 e f&&A5 r):=rfl
 have e2:J1 [.i a,.i b,.i c,.i d,.i e,.i f,.i r]=A9 a b c d e f r:=rfl
 unfold P7 X9
 rw[e1,e2,h1,h2,h3,show A5 r=true by unfold A5;exact decide_eq_true hr]
 exact⟨rfl,rfl⟩
theorem b6R{n i:Nat}(h:i<n):O3 n (nxt n i)=i:=by unfold O3 nxt;split<;>split<;>omega
theorem c5B{ax ay bx by' mx my k k' x y:Int}(hk:0≤k)(hk':0<k')(hm:Seg ax ay bx by' k' (k'*mx) (k'*my))(h:Seg ax ay mx my k x y):Seg ax ay bx by' (k*k') (x*k') (y*k'):=by
 obtain⟨s,s0,s1,e1,e2⟩:=hm
 obtain⟨t,t0,t1,rfl,rfl⟩:=h
 exact⟨t*s,Int.mul_nonneg t0 s0,Int.mul_le_mul t1 s1 s0 hk,by grind,by grind⟩
def C0(f:Nat→Int):Nat→Int | 0=>0 | n+1=>C0 f n+f n
theorem a8b{f g:Nat→Int}:∀(n:Nat),(∀k,k<n→f k=g k)→C0 f n=C0 g n
 | 0,_=>rfl
 | n+1,h=>by rw[C0,C0,a8b n (fun k hk=>h k (by omega)),h n (by omega)]
theorem a2y{f:Nat→Int}:∀(n:Nat),(∀k,k<n→f k=0)→C0 f n=0
 | 0,_=>rfl
 | n+1,h=>by rw[C0,a2y n (fun k hk=>h k (by omega)),h n (by omega)];rfl
theorem a4f{f:Nat→Int}{i:Nat}:∀(n:Nat),i<n→(∀k,k<n→k≠i→f k=0)→C0 f n=f i
 | 0,h,_=>by omega
 | n+1,h,hz=>by
   rw[C0]
   by_cases e:i=n
   ·subst e
    rw[a2y i (fun k hk=>hz k (by omega) (by omega))];omega
   ·rw[a4f n (by omega) (fun k hk hk'=>hz k (by omega) hk'),hz n (by omega) (by omega)];omega
theorem a7r{f:Nat→Int}{i j:Nat}(hij:i≠j):∀(n:Nat),i<n→j<n→(∀k,k<n→k≠i→k≠j→f k=0)→C0 f n=f i+f j
 | 0,h,_,_=>by omega
 | n+1,h1,h2,hz=>by
   rw[C0]
   by_cases e:i=n
   ·subst e
    rw[a4f (i:=j) i (by omega) (fun k hk hk'=>hz k (by omega) (by omega) hk')];omega
   ·by_cases e':j=n
    ·subst e'
     rw[a4f (i:=i) j (by omega) (fun k hk hk'=>hz k (by omega) hk' (by omega))]
    ·rw[a7r hij n (by omega) (by omega) (fun k hk a b=>hz k (by omega) a b),hz n (by omega) (by omega) (by omega)];omega
theorem a4a(f g:Nat→Int):∀n,C0 (fun k=>f k-g k) n=C0 f n-C0 g n
 | 0=>rfl
 | n+1=>by rw[C0,C0,C0,a4a f g n];omega
theorem c1k(g:Nat→Int){n:Nat}(hn:0<n):C0 (fun k=>g (nxt n k)-g k) n=0:=by
 have h:∀m,m+1≤n→C0 (fun k=>g (nxt n k)-g k) m=g m-g 0:=by
  intro m
  induction m with
  | zero=>intro _;simp [C0]
  | succ m ih=>
    intro hm
    rw[C0,ih (by omega),show nxt n m=m+1 by unfold nxt;rw[if_neg (by omega)]];omega
 obtain⟨m,rfl⟩:∃m,n=m+1:=⟨n-1,by omega⟩
 rw[C0,h m (by omega),show nxt (m+1) m=0 by unfold nxt;rw[if_pos rfl]];omega
def sE(qx qy ax ay bx by':Int):Int:=if E7 qx qy ax ay bx by' then(if by'<ay then -1 else 1) else 0
def gE(ax ay bx by' px py:Int):Int:=if ay≤by' then(if gIn ax ay bx by' px py then 1 else 0) else-(if gIn bx by' ax ay px py then 1 else 0)
def upE(ax ay bx by':Int):Int:=if ay<by'∨(ay=by'∧bx<ax) then 1 else 0
theorem a9m(qx qy ax ay bx by':Int):sE qx qy ax ay bx by'= - sE qx qy bx by' ax ay:=by
 unfold sE
 rw[a2S qx qy bx by' ax ay]
 by_cases h:ay=by'
 ·have:E7 qx qy ax ay bx by'=false:=by unfold E7;rw[if_neg (by omega)];exact decide_eq_false (by omega)
  rw[this];rfl
 ·cases E7 qx qy ax ay bx by'
  ·rfl
  ·simp only[if_true]
   by_cases h':by'<ay
   ·rw[if_pos h',if_neg (by omega)]
   ·rw[if_neg h',if_pos (by omega)];rfl
theorem b0K{ax ay bx by' px py qx qy:Int}(hy:ay≤by')(hpq:py≤qy)(hn:n9 ax ay bx by' px py qx qy=false):
 sE ax ay px py qx qy-sE bx by' px py qx qy=gE ax ay bx by' qx qy-gE ax ay bx by' px py:=by
 unfold sE gE E7 gIn
 simp only[if_neg (show ¬qy<py by omega),if_pos hy,decide_eq_true_eq]
 by_cases h1:py≤ay
 ·by_cases h2:ay<qy
  ·by_cases h3:qy≤by'
   ·have:=c7H hn h1 h2 h3
    (repeat' split)<;>omega
   ·have:=c7Q hn hy h1 (by omega)
    (repeat' split)<;>omega
  ·(repeat' split)<;>omega
 ·by_cases h2:py≤by'
  ·by_cases h3:by'<qy
   ·have:=c6x hn (by omega) h2 h3
    (repeat' split)<;>omega
   ·have:=c7j hn (by omega) hpq (by omega)
    (repeat' split)<;>omega
  ·(repeat' split)<;>omega
theorem a5N{ax ay bx by' px py qx qy:Int}(hy:ay≤by')(hn:n9 ax ay bx by' px py qx qy=false):
 sE ax ay px py qx qy-sE bx by' px py qx qy=gE ax ay bx by' qx qy-gE ax ay bx by' px py:=by
 rcases Int.le_total py qy with h | h
 ·exact b0K hy h hn
 ·have:=b0K hy h (by rw[a8v];exact hn)
  rw[a9m ax ay px py,a9m bx by' px py];omega
theorem b7m{ax ay bx by' px py:Int}(h:ay≠by'):gE ax ay bx by' px py= - gE bx by' ax ay px py:=by
 unfold gE
 by_cases h':ay≤by'
 ·simp only[if_pos h',if_neg (show ¬by'≤ay by omega)];omega
 ·simp only[if_neg h',if_pos (show by'≤ay by omega)]
theorem b0v{ax ay bx px py:Int}:gE ax ay bx ay px py=0:=by
 unfold gE gIn
 rw[if_pos (by omega),decide_eq_false (by omega)];rfl
theorem a2Q{ax ay bx by' px py qx qy:Int}(hn:n9 ax ay bx by' px py qx qy=false):
 sE ax ay px py qx qy-sE bx by' px py qx qy=gE ax ay bx by' qx qy-gE ax ay bx by' px py:=by
 rcases Int.le_total ay by' with h | h
 ·exact a5N h hn
 ·have:=a5N h (by rw[a4b];exact hn)
  by_cases e:ay=by'
  ·subst e
   rw[b0v,b0v] at this ⊢;omega
  ·rw[b7m (ax:=ax) e,b7m (ax:=ax) e];omega
theorem a3v{ax ay bx by' px py:Int}(h:a8 ax ay bx by' px py=0):gE ax ay bx by' px py=0:=by
 have h':a8 bx by' ax ay px py=0:=by unfold a8 at h ⊢;grind
 unfold gE gIn
 rw[h,h',decide_eq_false (by omega),decide_eq_false (by omega)]
 split<;>rfl
theorem a3w{qx qy ax ay bx by':Int}(h:a8 ax ay bx by' qx qy=0):sE qx qy ax ay bx by'=0:=by
 have h':a8 bx by' ax ay qx qy=0:=by unfold a8 at h ⊢;grind
 unfold sE E7
 rw[h,h',decide_eq_false (p:=by'≤qy∧qy<ay∧(0:Int)<0) (by omega),decide_eq_false (p:=ay≤qy∧qy<by'∧(0:Int)<0) (by omega)]
 split<;>rfl
def tau(ax ay bx by' cx cy:Int):Int:= - gE ax ay bx by' cx cy+sE ax ay bx by' cx cy
theorem U8(ax ay bx by' cx cy:Int):a8 bx by' cx cy ax ay=a8 ax ay bx by' cx cy∧a8 cx cy ax ay bx by'=a8 ax ay bx by' cx cy∧a8 bx by' ax ay cx cy= - a8 ax ay bx by' cx cy∧a8 ax ay cx cy bx by'= - a8 ax ay bx by' cx cy∧a8 cx cy bx by' ax ay= - a8 ax ay bx by' cx cy:=by
 unfold a8
 refine⟨?_,?_,?_,?_,?_⟩<;>grind
theorem a6q(qx qy ax ay bx by':Int):sE qx qy ax ay bx by'=if by'<ay then(if by'≤qy∧qy<ay∧0<a8 bx by' ax ay qx qy then -1 else 0) else(if ay≤qy∧qy<by'∧0<a8 ax ay bx by' qx qy then 1 else 0):=by
 unfold sE E7
 by_cases h:by'<ay
 ·simp only[if_pos h,decide_eq_true_eq]
 ·simp only[if_neg h,decide_eq_true_eq]
theorem H9{u v k:Int}(h:k=u*v):(0<u→0<v→0<k)∧(0<u→v<0→k<0)∧(u<0→0<v→k<0)∧(u<0→v<0→0<k)∧(u=0→k=0)∧(v=0→k=0):=by
 subst h
 exact⟨Int.mul_pos,Int.mul_neg_of_pos_of_neg,Int.mul_neg_of_neg_of_pos,fun h1 h2=>by have:=Int.mul_pos (show 0< -u by omega) (show 0< -v by omega);rw[Int.neg_mul_neg] at this;exact this,fun h=>by rw[h,Int.zero_mul],fun h=>by rw[h,Int.mul_zero]⟩
theorem d1o{ax ay bx by' cx cy:Int}(h:a8 ax ay bx by' cx cy≠0):upE bx by' cx cy-tau cx cy bx by' ax ay=upE ax ay bx by'+tau ax ay bx by' cx cy:=by
 obtain⟨e1,e2,e3,e4,e5⟩:=U8 ax ay bx by' cx cy
 unfold tau gE gIn upE
 simp only[a6q,decide_eq_true_eq,e1,e2,e3,e4,e5]
 have f1:ay=by'→a8 ax ay bx by' cx cy=(bx-ax)*(cy-ay):=fun h=>by unfold a8;grind
 have f2:by'=cy→a8 ax ay bx by' cx cy=(by'-ay)*(bx-cx):=fun h=>by unfold a8;grind
 have f3:ay=cy→a8 ax ay bx by' cx cy=(by'-ay)*(ax-cx):=fun h=>by unfold a8;grind
 clear e1 e2 e3 e4 e5
 generalize a8 ax ay bx by' cx cy=k at*
 rcases Int.lt_trichotomy ay by' with h1 | h1 | h1
 ·rcases Int.lt_trichotomy by' cy with h2 | h2 | h2
  ·clear f1 f2 f3
   grind
  ·have:=H9 (f2 h2)
   clear f1 f2 f3
   grind
  ·rcases Int.lt_trichotomy ay cy with h3 | h3 | h3
   ·clear f1 f2 f3
    grind
   ·have:=H9 (f3 h3)
    clear f1 f2 f3
    grind
   ·clear f1 f2 f3
    grind
 ·have:=H9 (f1 h1)
  clear f1 f2 f3
  grind
 ·rcases Int.lt_trichotomy by' cy with h2 | h2 | h2
  ·rcases Int.lt_trichotomy ay cy with h3 | h3 | h3
   ·clear f1 f2 f3
    grind
   ·have:=H9 (f3 h3)
    clear f1 f2 f3
    grind
   ·clear f1 f2 f3
    grind
  ·have:=H9 (f2 h2)
   clear f1 f2 f3
   grind
  ·clear f1 f2 f3
   grind
theorem U6{k u s v:Int}(hk:0<k)(hs:0<s)(h:k*u=s*v):(0<u↔0<v)∧(u<0↔v<0):=by
 have p1:0<u→0<k*u:=Int.mul_pos hk
 have p2:0<v→0<s*v:=Int.mul_pos hs
 have n1:u<0→k*u<0:=Int.mul_neg_of_pos_of_neg hk
 have n2:v<0→s*v<0:=Int.mul_neg_of_pos_of_neg hs
 have z1:u=0→k*u=0:=fun e=>by rw[e,Int.mul_zero]
 have z2:v=0→s*v=0:=fun e=>by rw[e,Int.mul_zero]
 omega
theorem a2c{ax ay bx by' cx cy dx dy:Int}(h:(0<a8 cx cy dx dy ax ay∧0<a8 cx cy dx dy bx by')∨(a8 cx cy dx dy ax ay<0∧a8 cx cy dx dy bx by'<0)):n9 ax ay bx by' cx cy dx dy=false:=by
 cases hm:n9 ax ay bx by' cx cy dx dy with
 | false=>rfl
 | true=>
   obtain⟨k,x,y,hk,⟨s,s0,s1,e1,e2⟩,t,t0,t1,f1,f2⟩:=O2 hm
   have E:(k-s)*a8 cx cy dx dy ax ay+s*a8 cx cy dx dy bx by'=0:=by unfold a8;grind
   generalize a8 cx cy dx dy ax ay=g at*
   generalize a8 cx cy dx dy bx by'=d at*
   rcases h with ⟨h1,h2⟩ | ⟨h1,h2⟩
   ·have q1:=Int.mul_nonneg (show 0≤k-s by omega) (show 0≤g by omega)
    have q2:=Int.mul_nonneg s0 (show 0≤d by omega)
    have z1:(k-s)*g=0:=by omega
    have z2:s*d=0:=by omega
    have:=Int.mul_eq_zero.mp z1
    have:=Int.mul_eq_zero.mp z2
    omega
   ·have q1:=Int.mul_nonneg (show 0≤k-s by omega) (show 0≤ -g by omega)
    have q2:=Int.mul_nonneg s0 (show 0≤ -d by omega)
    rw[Int.mul_neg] at q1 q2
    have z1:(k-s)*g=0:=by omega
    have z2:s*d=0:=by omega
    have:=Int.mul_eq_zero.mp z1
    have:=Int.mul_eq_zero.mp z2
    omega
def On'(k s ax ay bx by' x y:Int):Prop:=k*x=k*ax+s*(bx-ax)∧k*y=k*ay+s*(by'-ay)
theorem c1h{k s ax ay bx by' x y:Int}(h:On' k s ax ay bx by' x y):On' k (k-s) bx by' ax ay x y:=by
 obtain⟨h1,h2⟩:=h
 exact⟨by grind,by grind⟩
theorem b0I{k s ax ay bx by' cx cy x y:Int}(hk:0<k)(hs:0≤s)(hsk:s<k)(ho:On' k s ax ay bx by' x y)(hc:a8 ax ay bx by' cx cy≠0):tau x y bx by' cx cy=tau ax ay bx by' cx cy:=by
 obtain⟨ex,ey⟩:=ho
 obtain⟨c1,c2,c3,c4,c5⟩:=U8 ax ay bx by' cx cy
 obtain⟨d1,d2,d3,d4,d5⟩:=U8 x y bx by' cx cy
 obtain⟨b1,b2,b3,b4,b5⟩:=U8 ax ay x y cx cy
 have k1:k*a8 x y bx by' cx cy=(k-s)*a8 ax ay bx by' cx cy:=by unfold a8;grind
 have k2:k*a8 ax ay x y cx cy=s*a8 ax ay bx by' cx cy:=by unfold a8;grind
 have k3:a8 ax ay x y bx by'=0:=by
  have:k*a8 ax ay x y bx by'=0:=by unfold a8;grind
  rcases Int.mul_eq_zero.mp this with h | h
  ·omega
  ·exact h
 have s1:=U6 hk (show 0<k-s by omega) k1
 have hn:n9 ax ay x y bx by' cx cy=false:=a2c (by rw[c1,d1];omega)
 have h1:=a2Q hn
 rw[a3v k3] at h1
 have h2:gE ax ay bx by' cx cy=gE ax ay x y cx cy+gE x y bx by' cx cy:=by
  by_cases hs0:s=0
  ·subst hs0
   have:x=ax∧y=ay:=by
    constructor
    ·exact Int.eq_of_mul_eq_mul_left (show k≠0 by omega) (by grind)
    ·exact Int.eq_of_mul_eq_mul_left (show k≠0 by omega) (by grind)
   obtain⟨rfl,rfl⟩:=this
   rw[b0v];omega
  ·have s2:=U6 hk (show 0<s by omega) k2
   have y1:=U6 (k:=k) (u:=y-ay) (s:=s) (v:=by'-ay) hk (by omega) (by grind)
   have y2:=U6 (k:=k) (u:=by'-y) (s:=k-s) (v:=by'-ay) hk (by omega) (by grind)
   unfold gE gIn
   simp only[decide_eq_true_eq,c3,d3,b3]
   generalize a8 ax ay bx by' cx cy=u at*
   generalize a8 x y bx by' cx cy=v at*
   generalize a8 ax ay x y cx cy=w at*
   clear ex ey k1 k2 k3 hn h1 c1 c2 c3 c4 c5 d1 d2 d3 d4 d5 b1 b2 b3 b4 b5
   (repeat' split)<;>omega
 unfold tau
 omega
section
variable (X Y:Nat→Int) (n:Nat)
def F8(qx qy:Int):Int:=C0 (fun k=>sE qx qy (X k) (Y k) (X (nxt n k)) (Y (nxt n k))) n
structure Simple:Prop where
 three:3≤n
 apart:∀i k,i<n→k<n→k≠i→k≠nxt n i→i≠nxt n k→n9 (X i) (Y i) (X (nxt n i)) (Y (nxt n i)) (X k) (Y k) (X (nxt n k)) (Y (nxt n k))=false
 bend:∀i,i<n→a8 (X i) (Y i) (X (nxt n i)) (Y (nxt n i)) (X (nxt n (nxt n i))) (Y (nxt n (nxt n i)))≠0
end
section
variable {X Y:Nat→Int} {n:Nat}
theorem c3D{i:Nat}(hn:3≤n)(hi:i<n):nxt n i≠i∧nxt n (nxt n i)≠i:=by unfold nxt;split<;>split<;>omega
theorem d0j{i k:Nat}(hi:i<n)(hk:k<n)(h:nxt n i=nxt n k):i=k:=by unfold nxt at h;split at h<;>split at h<;>omega
theorem b1q{x y vx vy:Int}(hn:0<n):F8 X Y n x y-F8 X Y n vx vy=
 C0 (fun k=>(sE x y (X k) (Y k) (X (nxt n k)) (Y (nxt n k))-sE vx vy (X k) (Y k) (X (nxt n k)) (Y (nxt n k)))-(gE x y vx vy (X (nxt n k)) (Y (nxt n k))-gE x y vx vy (X k) (Y k))) n:=by
 rw[a4a,a4a,c1k (fun k=>gE x y vx vy (X k) (Y k)) hn]
 unfold F8;omega
theorem V9{a b c d:Int}:a8 a b c d a b=0∧a8 a b c d c d=0∧a8 a b a b c d=0:=by unfold a8;refine⟨?_,?_,?_⟩<;>grind
theorem b4z{k s ax ay bx by' x y:Int}(hk:0<k)(ho:On' k s ax ay bx by' x y):a8 ax ay bx by' x y=0∧a8 x y bx by' ax ay=0∧a8 x y ax ay bx by'=0:=by
 obtain⟨ex,ey⟩:=ho
 have z:∀u:Int,k*u=0→u=0:=fun u h=>by
  rcases Int.mul_eq_zero.mp h with h | h
  ·omega
  ·exact h
 refine⟨z _ ?_,z _ ?_,z _ ?_⟩<;>(unfold a8;grind)
theorem c3L{k s ax ay bx by' x y:Int}(hs:0≤s)(hsk:s≤k)(ho:On' k s ax ay bx by' x y):Seg ax ay bx by' k (k*x) (k*y):=⟨s,hs,hsk,ho.1,ho.2⟩
theorem b0Q{ax ay bx by' x y px py qx qy k s:Int}(hk:0<k)(hs:0≤s)(hsk:s≤k)(ho:On' k s ax ay bx by' x y)(hm:n9 ax ay bx by' px py qx qy=false):n9 x y bx by' px py qx qy=false:=by
 cases h:n9 x y bx by' px py qx qy with
 | false=>rfl
 | true=>
   obtain⟨m,u,v,hm0,⟨t,t0,t1,e1,e2⟩,h2⟩:=O2 h
   obtain⟨o1,o2⟩:=ho
   have:n9 ax ay bx by' px py qx qy=true:=by
    refine H7 ⟨m*k,u*k,v*k,Int.mul_pos hm0 hk,⟨(m-t)*s+t*k,?_,?_,?_,?_⟩,a0b h2 (by omega)⟩
    ·exact Int.add_nonneg (Int.mul_nonneg (by omega) hs) (Int.mul_nonneg t0 (by omega))
    ·have:=Int.mul_le_mul_of_nonneg_left hsk (show 0≤m-t by omega)
     grind
    ·grind
    ·grind
   rw[this] at hm
   exact absurd hm (by decide)
theorem c5x(hp:Simple X Y n){j:Nat}(hj:j<n){k s x y:Int}(hs:0<s)(hsk:s<k)(ho:On' k s (X j) (Y j) (X (nxt n j)) (Y (nxt n j)) x y):
 F8 X Y n x y=F8 X Y n (X (nxt n j)) (Y (nxt n j))+tau x y (X (nxt n j)) (Y (nxt n j)) (X (nxt n (nxt n j))) (Y (nxt n (nxt n j))):=by
 have hn:=hp.three
 have hj':=u6 hj
 obtain⟨z1,z2,z3⟩:=b4z (by omega) ho
 have hd:=b1q (X:=X) (Y:=Y) (n:=n) (x:=x) (y:=y) (vx:=X (nxt n j)) (vy:=Y (nxt n j)) (by omega)
 rw[a7r (i:=j) (j:=nxt n j) (by have:=c3D hn hj;omega) n hj hj'] at hd
 ·rw[a3w z1,a3w V9.2.1,a3v V9.2.1,a3v z2,a3w V9.1] at hd
  unfold tau
  omega
 ·intro i hi n1 n2
  have hm:n9 x y (X (nxt n j)) (Y (nxt n j)) (X i) (Y i) (X (nxt n i)) (Y (nxt n i))=false:=by
   by_cases hpr:nxt n i=j
   ·have hb:=hp.bend i hi
    rw[hpr] at hb ⊢
    refine a2c ?_
    have e:k*a8 (X i) (Y i) (X j) (Y j) x y=s*a8 (X i) (Y i) (X j) (Y j) (X (nxt n j)) (Y (nxt n j)):=by
     obtain⟨o1,o2⟩:=ho
     unfold a8;grind
    have:=U6 (by omega) hs e
    omega
   ·exact b0Q (by omega) (by omega) (by omega) ho (hp.apart j i hj hi n1 n2 (fun h=>hpr h.symm))
  have:=a2Q hm
  omega
theorem c0r(hp:Simple X Y n){j p:Nat}(hj:j<n)(hpn:p<n)(hpj:nxt n p=j){k s x y:Int}(hs:0<s)(hsk:s<k)(ho:On' k s (X j) (Y j) (X (nxt n j)) (Y (nxt n j)) x y):
 F8 X Y n x y=F8 X Y n (X j) (Y j)-tau x y (X j) (Y j) (X p) (Y p):=by
 have hn:=hp.three
 have hj':=u6 hj
 obtain⟨z1,z2,z3⟩:=b4z (by omega) ho
 have hne:=c3D hn hpn
 rw[hpj] at hne
 have hd:=b1q (X:=X) (Y:=Y) (n:=n) (x:=x) (y:=y) (vx:=X j) (vy:=Y j) (by omega)
 rw[a7r (i:=j) (j:=p) hne.1 n hj hpn] at hd
 ·have z4:a8 x y (X j) (Y j) (X j) (Y j)=0:=V9.2.1
  rw[a3w z1,a3w V9.1,a3v z4,a3v z3,hpj,a3v z4,a3w (qx:=X j) (qy:=Y j) V9.2.1] at hd
  unfold tau
  rw[a9m x y (X j) (Y j) (X p) (Y p)]
  omega
 ·intro i hi n1 n2
  have hm:n9 x y (X j) (Y j) (X i) (Y i) (X (nxt n i)) (Y (nxt n i))=false:=by
   by_cases hnx:i=nxt n j
   ·have hb:=hp.bend j hj
    subst hnx
    refine a2c ?_
    have e:k*a8 (X (nxt n j)) (Y (nxt n j)) (X (nxt n (nxt n j))) (Y (nxt n (nxt n j))) x y=(k-s)*a8 (X (nxt n j)) (Y (nxt n j)) (X (nxt n (nxt n j))) (Y (nxt n (nxt n j))) (X j) (Y j):=by
     obtain⟨o1,o2⟩:=ho
     unfold a8;grind
    have:=U6 (by omega) (show 0<k-s by omega) e
    have hc:=U8 (X j) (Y j) (X (nxt n j)) (Y (nxt n j)) (X (nxt n (nxt n j))) (Y (nxt n (nxt n j)))
    omega
   ·have h1:¬(j=nxt n i):=fun h=>n2 (d0j hi hpn (by rw[hpj];exact h.symm))
    exact b0Q (by omega) (by omega) (by omega) (c1h ho) (by rw[a4b];exact hp.apart j i hj hi n1 hnx h1)
  have:=a2Q hm
  omega
def a7g(X Y:Nat→Int)(n i:Nat):Int:=F8 X Y n (X (nxt n i)) (Y (nxt n i))+upE (X i) (Y i) (X (nxt n i)) (Y (nxt n i))+tau (X i) (Y i) (X (nxt n i)) (Y (nxt n i)) (X (nxt n (nxt n i))) (Y (nxt n (nxt n i)))
theorem a4M(hp:Simple X Y n){j:Nat}(hj:j<n){k s x y:Int}(hs:0<s)(hsk:s<k)(ho:On' k s (X j) (Y j) (X (nxt n j)) (Y (nxt n j)) x y):F8 X Y n x y+upE (X j) (Y j) (X (nxt n j)) (Y (nxt n j))=a7g X Y n j:=by
 have h1:=c5x hp hj hs hsk ho
 have h2:=b0I (by omega) (by omega) hsk ho (hp.bend j hj)
 unfold a7g
 omega
theorem c3f(hp:Simple X Y n)(he:∀k,k<n→2∣X k∧2∣Y k){i:Nat}(hi:i<n):a7g X Y n i=a7g X Y n (nxt n i):=by
 have hj:=u6 hi
 have hl:=u6 hj
 obtain⟨a,ha⟩:=(he _ hj).1
 obtain⟨b,hb⟩:=(he _ hj).2
 obtain⟨c,hc⟩:=(he _ hl).1
 obtain⟨d,hd⟩:=(he _ hl).2
 have ho:On' 2 1 (X (nxt n i)) (Y (nxt n i)) (X (nxt n (nxt n i))) (Y (nxt n (nxt n i))) (a+c) (b+d):=⟨by omega,by omega⟩
 have h1:=a4M hp hj (by omega) (by omega) ho
 have h2:=c0r hp hj hi rfl (by omega) (by omega) ho
 have hbend:=hp.bend i hi
 have hc':=U8 (X i) (Y i) (X (nxt n i)) (Y (nxt n i)) (X (nxt n (nxt n i))) (Y (nxt n (nxt n i)))
 have h3:=b0I (cx:=X i) (cy:=Y i) (by omega) (by omega) (by omega) (c1h ho) (by omega)
 have h4:=d1o hbend
 unfold a7g at h1 ⊢
 omega
theorem a4m(hp:Simple X Y n)(he:∀k,k<n→2∣X k∧2∣Y k):∀i,i<n→a7g X Y n i=a7g X Y n 0
 | 0,_=>rfl
 | i+1,h=>by
   have:=c3f hp he (show i<n by omega)
   rw[show nxt n i=i+1 by unfold nxt;rw[if_neg (by omega)]] at this
   rw[←this,a4m hp he i (by omega)]
end
end Go.Proofs.YtcjaembdcfppfaaGreat
namespace Go.Proofs.YtcjaembdcfppfaaGreat
open Go.RowKit
theorem a4B(P:Nat→Prop)(f:Nat→Int):∀n,(∃k,k<n∧P k)→∃k,k<n∧P k∧∀i,i<n→P i→f k≤f i
 | 0,h=>by obtain⟨k,hk,_⟩:=h;omega
 | n+1,h=>by
   by_cases h':∃k,k<n∧P k
   ·obtain⟨k,hk,hp,hm⟩:=a4B P f n h'
    by_cases hn:P n∧f n<f k
    ·refine⟨n,by omega,hn.1,fun i hi hpi=> ?_⟩
     by_cases e:i=n
     ·subst e;exact Int.le_refl _
     ·have:=hm i (by omega) hpi;omega
    ·refine⟨k,by omega,hp,fun i hi hpi=> ?_⟩
     by_cases e:i=n
     ·subst e
      rcases Int.lt_or_le (f i) (f k) with q | q
      ·exact absurd ⟨hpi,q⟩ hn
      ·exact q
     ·exact hm i (by omega) hpi
   ·obtain⟨k,hk,hp⟩:=h
    have e:k=n:=by
     by_cases e:k=n
     ·exact e
     ·exact absurd ⟨k,by omega,hp⟩ h'
    subst e
    refine⟨k,by omega,hp,fun i hi hpi=> ?_⟩
    by_cases e:i=k
    ·subst e;exact Int.le_refl _
    ·exact absurd ⟨i,by omega,hpi⟩ h'
section
variable {X Y:Nat→Int} {n:Nat}
def Cr(Y:Nat→Int)(n:Nat)(h:Int)(k:Nat):Prop:=(Y k<h∧h<Y (nxt n k))∨(Y (nxt n k)<h∧h<Y k)
theorem a8w{h x:Int}{k:Nat}(hc:Cr Y n h k)(hx:a8 (X k) (Y k) (X (nxt n k)) (Y (nxt n k)) x h=0):∃m s,0<s∧s<m∧On' m s (X k) (Y k) (X (nxt n k)) (Y (nxt n k)) x h:=by
 unfold a8 at hx
 rcases hc with hc | hc
 ·exact⟨Y (nxt n k)-Y k,h-Y k,by omega,by omega,by grind,by grind⟩
 ·exact⟨Y k-Y (nxt n k),Y k-h,by omega,by omega,by grind,by grind⟩
theorem c4i{h x q:Int}{k:Nat}(hc:Cr Y n h k)(hx:a8 (X k) (Y k) (X (nxt n k)) (Y (nxt n k)) x h=0):
 sE q h (X k) (Y k) (X (nxt n k)) (Y (nxt n k))=if q<x then(if Y (nxt n k)<Y k then -1 else 1) else 0:=by
 rw[a6q]
 rcases hc with hc | hc
 ·have e:a8 (X k) (Y k) (X (nxt n k)) (Y (nxt n k)) q h=(Y (nxt n k)-Y k)*(x-q):=by unfold a8 at hx ⊢;grind
  have hs:=H9 e
  rw[if_neg (show ¬Y (nxt n k)<Y k by omega),if_neg (show ¬Y (nxt n k)<Y k by omega)]
  generalize a8 (X k) (Y k) (X (nxt n k)) (Y (nxt n k)) q h=u at*
  (repeat' split)<;>omega
 ·have e:a8 (X (nxt n k)) (Y (nxt n k)) (X k) (Y k) q h=(Y k-Y (nxt n k))*(x-q):=by unfold a8 at hx ⊢;grind
  have hs:=H9 e
  rw[if_pos (show Y (nxt n k)<Y k by omega),if_pos (show Y (nxt n k)<Y k by omega)]
  generalize a8 (X (nxt n k)) (Y (nxt n k)) (X k) (Y k) q h=u at*
  (repeat' split)<;>omega
theorem d3D{h q:Int}{k:Nat}(hg:Y k≠h∧Y (nxt n k)≠h)(hc:¬Cr Y n h k):sE q h (X k) (Y k) (X (nxt n k)) (Y (nxt n k))=0:=by
 rw[a6q]
 unfold Cr at hc
 (repeat' split)<;>omega
theorem d4e(hp:Simple X Y n){h x:Int}{j k:Nat}(hj:j<n)(hk:k<n)(hjk:k≠j)(cj:Cr Y n h j)(ck:Cr Y n h k)
 (xj:a8 (X j) (Y j) (X (nxt n j)) (Y (nxt n j)) x h=0) (xk:a8 (X k) (Y k) (X (nxt n k)) (Y (nxt n k)) x h=0):False:=by
 have adj:∀ {a b:Nat},a<n→nxt n a=b→Cr Y n h a→a8 (X a) (Y a) (X (nxt n a)) (Y (nxt n a)) x h=0→a8 (X b) (Y b) (X (nxt n b)) (Y (nxt n b)) x h=0→False:=by
  intro a b ha hab ca xa xb
  obtain⟨m,s,s0,s1,o1,o2⟩:=a8w ca xa
  have hb:=hp.bend a ha
  subst hab
  have e:m*a8 (X (nxt n a)) (Y (nxt n a)) (X (nxt n (nxt n a))) (Y (nxt n (nxt n a))) x h=(m-s)*a8 (X (nxt n a)) (Y (nxt n a)) (X (nxt n (nxt n a))) (Y (nxt n (nxt n a))) (X a) (Y a):=by unfold a8;grind
  have hc:=U8 (X a) (Y a) (X (nxt n a)) (Y (nxt n a)) (X (nxt n (nxt n a))) (Y (nxt n (nxt n a)))
  have hs:=U6 (by omega) (show 0<m-s by omega) e
  omega
 by_cases h1:k=nxt n j
 ·exact adj hj h1.symm cj xj xk
 by_cases h2:j=nxt n k
 ·exact adj hk h2.symm ck xk xj
 have hm:=hp.apart j k hj hk hjk h1 h2
 obtain⟨m,s,s0,s1,o⟩:=a8w cj xj
 obtain⟨m',s',s0',s1',o'⟩:=a8w ck xk
 have g1:=a0b (m:=m') (c3L (by omega) (by omega) o) (by omega)
 have g2:=a0b (m:=m) (c3L (by omega) (by omega) o') (by omega)
 have:n9 (X j) (Y j) (X (nxt n j)) (Y (nxt n j)) (X k) (Y k) (X (nxt n k)) (Y (nxt n k))=true:=by
  refine H7 ⟨m*m',m*x*m',m*h*m',Int.mul_pos (by omega) (by omega),g1,?_⟩
  rw[show m'*m=m*m' by grind,show m'*x*m=m*x*m' by grind,show m'*h*m=m*h*m' by grind] at g2
  exact g2
 rw[this] at hm
 exact absurd hm (by decide)
theorem c2J(hp:Simple X Y n)(he:∀k,k<n→2∣X k∧2∣Y k){q h:Int}(hg:∀k,k<n→Y k≠h)(xs:Nat→Int)(hx:∀k,k<n→Cr Y n h k→a8 (X k) (Y k) (X (nxt n k)) (Y (nxt n k)) (xs k) h=0):
 -1≤F8 X Y n q h∧F8 X Y n q h≤1:=by
 have hS:∀ {p:Int} {k:Nat},k<n→Cr Y n h k→sE p h (X k) (Y k) (X (nxt n k)) (Y (nxt n k))=if p<xs k then(if Y (nxt n k)<Y k then -1 else 1) else 0:=fun hk hc=>c4i hc (hx _ hk hc)
 have hN:∀ {p:Int} {k:Nat},k<n→¬Cr Y n h k→sE p h (X k) (Y k) (X (nxt n k)) (Y (nxt n k))=0:=fun hk hc=>d3D ⟨hg _ hk,hg _ (u6 hk)⟩ hc
 by_cases hex:∃k,k<n∧(Cr Y n h k∧q<xs k)
 ·obtain⟨i,hi,⟨ci,qi⟩,mi⟩:=a4B (fun k=>Cr Y n h k∧q<xs k) xs n hex
  obtain⟨m,hm,⟨cm,qm⟩,mm⟩:=a4B (fun k=>Cr Y n h k∧q<xs k) (fun k=> - xs k) n hex
  have e1:F8 X Y n q h-F8 X Y n (xs i) h=if Y (nxt n i)<Y i then -1 else 1:=by
   unfold F8
   rw[←a4a,a4f (i:=i) n hi]
   ·rw[hS hi ci,hS hi ci,if_pos qi,if_neg (show ¬xs i<xs i by omega)];omega
   ·intro k hk hki
    by_cases ck:Cr Y n h k
    ·rw[hS hk ck,hS hk ck]
     have hne:xs k≠xs i:=fun e=>d4e hp hi hk hki ci ck (hx i hi ci) (by rw[←e];exact hx k hk ck)
     by_cases c1:q<xs k
     ·have:=mi k hk ⟨ck,c1⟩
      rw[if_pos c1,if_pos (show xs i<xs k by omega)];omega
     ·rw[if_neg c1,if_neg (show ¬xs i<xs k by omega)];rfl
    ·rw[hN hk ck,hN hk ck];rfl
  have e2:F8 X Y n (xs m) h=0:=by
   refine a2y n (fun k hk=> ?_)
   by_cases ck:Cr Y n h k
   ·rw[hS hk ck]
    by_cases c1:q<xs k
    ·have:=mm k hk ⟨ck,c1⟩
     rw[if_neg (by omega)]
    ·rw[if_neg (by omega)]
   ·exact hN hk ck
  obtain⟨a,s,s0,s1,o⟩:=a8w ci (hx i hi ci)
  obtain⟨a',s',s0',s1',o'⟩:=a8w cm (hx m hm cm)
  have w1:=a4M hp hi s0 s1 o
  have w2:=a4M hp hm s0' s1' o'
  rw[a4m hp he i hi] at w1
  rw[a4m hp he m hm] at w2
  have hu:∀k,Cr Y n h k→upE (X k) (Y k) (X (nxt n k)) (Y (nxt n k))=if Y (nxt n k)<Y k then 0 else 1:=fun k hc=>by
   unfold Cr at hc
   unfold upE
   rcases hc with hc | hc
   ·rw[if_pos (by omega),if_neg (by omega)]
   ·rw[if_neg (by omega),if_pos (by omega)]
  rw[hu i ci] at w1
  rw[hu m cm] at w2
  clear hu hS hN hex mi mm
  by_cases di:Y (nxt n i)<Y i
  ·rw[if_pos di] at e1 w1
   by_cases dm:Y (nxt n m)<Y m
   ·rw[if_pos dm] at w2;omega
   ·rw[if_neg dm] at w2;omega
  ·rw[if_neg di] at e1 w1
   by_cases dm:Y (nxt n m)<Y m
   ·rw[if_pos dm] at w2;omega
   ·rw[if_neg dm] at w2;omega
 ·have:F8 X Y n q h=0:=by
   refine a2y n (fun k hk=> ?_)
   by_cases ck:Cr Y n h k
   ·rw[hS hk ck,if_neg (fun c=>hex ⟨k,hk,ck,c⟩)]
   ·exact hN hk ck
  omega
def a8j(f:Nat→Int):Nat→Int | 0=>1 | n+1=>a8j f n*f n
theorem b0H{f:Nat→Int}(h:∀k,0<f k):∀n,0<a8j f n
 | 0=>by show(0:Int)<1;decide
 | n+1=>Int.mul_pos (b0H h n) (h n)
theorem b0X{f:Nat→Int}:∀n k,k<n→f k∣a8j f n
 | 0,k,h=>by omega
 | n+1,k,h=>by
   rw[a8j]
   by_cases e:k=n
   ·subst e;exact Int.dvd_mul_left _ _
   ·exact Int.dvd_trans (b0X n k (by omega)) (Int.dvd_mul_right _ _)
theorem b3K{M:Int}(hM:0<M){ax ay bx by' cx cy dx dy:Int}(h:n9 (M*ax) (M*ay) (M*bx) (M*by') (M*cx) (M*cy) (M*dx) (M*dy)=true):n9 ax ay bx by' cx cy dx dy=true:=by
 obtain⟨k,x,y,hk,⟨s,s0,s1,e1,e2⟩,t,t0,t1,f1,f2⟩:=O2 h
 refine H7 ⟨k,_,_,hk,⟨s,s0,s1,rfl,rfl⟩,t,t0,t1,?_,?_⟩
 ·exact Int.eq_of_mul_eq_mul_left (show M≠0 by omega) (by grind)
 ·exact Int.eq_of_mul_eq_mul_left (show M≠0 by omega) (by grind)
theorem b3G{M:Int}(hM:0<M)(hp:Simple X Y n):Simple (fun k=>M*X k) (fun k=>M*Y k) n where
 three:=hp.three
 apart:=fun i k hi hk h1 h2 h3=>by
  have:=hp.apart i k hi hk h1 h2 h3
  cases h:n9 (M*X i) (M*Y i) (M*X (nxt n i)) (M*Y (nxt n i)) (M*X k) (M*Y k) (M*X (nxt n k)) (M*Y (nxt n k)) with
  | false=>rfl
  | true=>rw[b3K hM h] at this;exact absurd this (by decide)
 bend:=fun i hi=>by
  have:=hp.bend i hi
  have e:a8 (M*X i) (M*Y i) (M*X (nxt n i)) (M*Y (nxt n i)) (M*X (nxt n (nxt n i))) (M*Y (nxt n (nxt n i)))=M*M*a8 (X i) (Y i) (X (nxt n i)) (Y (nxt n i)) (X (nxt n (nxt n i))) (Y (nxt n (nxt n i))):=by unfold a8;grind
  rw[e]
  exact fun h=>(Int.mul_eq_zero.mp h).elim (fun h=>by have:=Int.mul_pos hM hM;omega) this
theorem b9e{K D a q:Int}(hK:2≤K)(hD:0<D):(K*D*a≤K*D*q+D↔a≤q)∧(K*D*q+D<K*D*a↔q<a):=by
 have hM:D<K*D:=by
  have:=Int.mul_le_mul_of_nonneg_right hK (show 0≤D by omega)
  omega
 have p:0<K*D:=by omega
 constructor
 ·constructor
  ·intro h
   rcases Int.lt_or_le q a with c | c
   ·have:=Int.mul_le_mul_of_nonneg_left (show q+1≤a by omega) (show 0≤K*D by omega)
    rw[Int.mul_add] at this;omega
   ·exact c
  ·intro h
   have:=Int.mul_le_mul_of_nonneg_left h (show 0≤K*D by omega)
   omega
 ·constructor
  ·intro h
   rcases Int.lt_or_le q a with c | c
   ·exact c
   ·have:=Int.mul_le_mul_of_nonneg_left c (show 0≤K*D by omega)
    omega
  ·intro h
   have:=Int.mul_le_mul_of_nonneg_left (show q+1≤a by omega) (show 0≤K*D by omega)
   rw[Int.mul_add] at this;omega
theorem a6J{K D ax ay bx by' qx qy:Int}(hK:2≤K)(hD:0<D)(hb: -K<bx-ax∧bx-ax<K)(hc:a8 ax ay bx by' qx qy≠0):
 0<a8 (K*D*ax) (K*D*ay) (K*D*bx) (K*D*by') (K*D*qx) (K*D*qy+D)↔0<a8 ax ay bx by' qx qy:=by
 have e:a8 (K*D*ax) (K*D*ay) (K*D*bx) (K*D*by') (K*D*qx) (K*D*qy+D)=(K*D*D)*(K*a8 ax ay bx by' qx qy+(bx-ax)):=by unfold a8;grind
 have p:0<K*D*D:=Int.mul_pos (Int.mul_pos (by omega) hD) hD
 have hs:=H9 e
 generalize a8 ax ay bx by' qx qy=u at*
 generalize a8 (K*D*ax) (K*D*ay) (K*D*bx) (K*D*by') (K*D*qx) (K*D*qy+D)=v at*
 rcases Int.lt_or_lt_of_ne hc with h | h
 ·have:=Int.mul_le_mul_of_nonneg_left (show u≤ -1 by omega) (show 0≤K by omega)
  omega
 ·have:=Int.mul_le_mul_of_nonneg_left (show 1≤u by omega) (show 0≤K by omega)
  omega
theorem c4O{K D ax ay bx by' qx qy:Int}(hK:2≤K)(hD:0<D)(hb: -K<bx-ax∧bx-ax<K)(hn:A7 qx qy ax ay bx by'=false):
 sE (K*D*qx) (K*D*qy+D) (K*D*ax) (K*D*ay) (K*D*bx) (K*D*by')=sE qx qy ax ay bx by':=by
 have hM:0<K*D:=Int.mul_pos (by omega) hD
 have l1:=b9e (a:=ay) (q:=qy) hK hD
 have l2:=b9e (a:=by') (q:=qy) hK hD
 have e1:K*D*by'<K*D*ay↔by'<ay:=⟨fun h=>Int.lt_of_mul_lt_mul_left h (by omega),fun h=>Int.mul_lt_mul_of_pos_left h hM⟩
 rw[a6q,a6q]
 by_cases h:by'<ay
 ·rw[if_pos h,if_pos (e1.mpr h)]
  by_cases c:by'≤qy∧qy<ay
  ·have hc:a8 bx by' ax ay qx qy≠0:=fun z=>by
    have z':a8 ax ay bx by' qx qy=0:=by unfold a8 at z ⊢;grind
    rw[R9 z' (by omega) (by omega) (by omega)] at hn;exact absurd hn (by decide)
   have:=a6J hK hD (show -K<ax-bx∧ax-bx<K by omega) hc
   by_cases c1:0<a8 bx by' ax ay qx qy
   ·rw[if_pos ⟨by omega,by omega,this.mpr c1⟩,if_pos ⟨c.1,c.2,c1⟩]
   ·rw[if_neg (fun g=>c1 (this.mp g.2.2)),if_neg (fun g=>c1 g.2.2)]
  ·rw[if_neg (fun g=>c ⟨l2.1.mp g.1,l1.2.mp g.2.1⟩),if_neg (fun g=>c ⟨g.1,g.2.1⟩)]
 ·rw[if_neg h,if_neg (fun g=>h (e1.mp g))]
  by_cases c:ay≤qy∧qy<by'
  ·have hc:a8 ax ay bx by' qx qy≠0:=fun z=>by
    rw[R9 z (by omega) (by omega) (by omega)] at hn;exact absurd hn (by decide)
   have:=a6J hK hD hb hc
   by_cases c1:0<a8 ax ay bx by' qx qy
   ·rw[if_pos ⟨by omega,by omega,this.mpr c1⟩,if_pos ⟨c.1,c.2,c1⟩]
   ·rw[if_neg (fun g=>c1 (this.mp g.2.2)),if_neg (fun g=>c1 g.2.2)]
  ·rw[if_neg (fun g=>c ⟨l1.1.mp g.1,l2.2.mp g.2.1⟩),if_neg (fun g=>c ⟨g.1,g.2.1⟩)]
theorem c9H(hp:Simple X Y n){K:Int}(hK:2≤K)(hb:∀i k,i<n→k<n→ -K<X i-X k∧X i-X k<K){qx qy:Int}(hq:∀k,k<n→A7 qx qy (X k) (Y k) (X (nxt n k)) (Y (nxt n k))=false):
 -1≤F8 X Y n qx qy∧F8 X Y n qx qy≤1:=by
 obtain⟨P,hP⟩:∃P,a8j (fun k=>max 1 (max (Y (nxt n k)-Y k) (Y k-Y (nxt n k)))) n=P:=⟨_,rfl⟩
 have hP0:0<P:=by rw[←hP];exact b0H (fun k=>by omega) n
 have hdv:∀k,k<n→Y (nxt n k)≠Y k→∃e,2*P=(Y (nxt n k)-Y k)*e:=by
  intro k hk hne
  obtain⟨e,he⟩:=b0X (f:=fun k=>max 1 (max (Y (nxt n k)-Y k) (Y k-Y (nxt n k)))) n k hk
  rw[hP] at he
  rcases Int.lt_or_le (Y k) (Y (nxt n k)) with h | h
  ·exact⟨2*e,by rw[he,show max 1 (max (Y (nxt n k)-Y k) (Y k-Y (nxt n k)))=Y (nxt n k)-Y k by omega];grind⟩
  ·exact⟨-(2*e),by rw[he,show max 1 (max (Y (nxt n k)-Y k) (Y k-Y (nxt n k)))=Y k-Y (nxt n k) by omega];grind⟩
 have hD:0<2*P:=by omega
 have hM:0<K*(2*P):=Int.mul_pos (by omega) hD
 have hw:F8 (fun k=>K*(2*P)*X k) (fun k=>K*(2*P)*Y k) n (K*(2*P)*qx) (K*(2*P)*qy+2*P)=F8 X Y n qx qy:=
  a8b n (fun k hk=>c4O hK hD (hb _ _ (u6 hk) hk) (hq k hk))
 rw[←hw]
 have hlev:∀k,K*(2*P)*Y k≠K*(2*P)*qy+2*P:=fun k h=>by
  have h1:=(b9e (a:=Y k) (q:=qy) hK hD).1.mp (by omega)
  have:=Int.mul_le_mul_of_nonneg_left h1 (show 0≤K*(2*P) by omega)
  omega
 have hxs:∀k,∃x,k<n→Cr (fun k=>K*(2*P)*Y k) n (K*(2*P)*qy+2*P) k→a8 (K*(2*P)*X k) (K*(2*P)*Y k) (K*(2*P)*X (nxt n k)) (K*(2*P)*Y (nxt n k)) x (K*(2*P)*qy+2*P)=0:=by
  intro k
  by_cases hk:k<n
  ·by_cases hne:Y (nxt n k)=Y k
   ·refine⟨0,fun _ hc=> ?_⟩
    simp only[Cr,hne] at hc
    omega
   ·obtain⟨e,he⟩:=hdv k hk hne
    refine⟨K*(2*P)*X k+(X (nxt n k)-X k)*e*(K*(qy-Y k)+1),fun _ _=> ?_⟩
    generalize 2*P=D at*
    unfold a8
    grind
  ·exact⟨0,fun h=>absurd h hk⟩
 have hxs':=fun k=>Classical.choose_spec (hxs k)
 exact c2J (b3G hM hp) (fun k _=>⟨⟨K*P*X k,by grind⟩,⟨K*P*Y k,by grind⟩⟩) (fun k _=>hlev k) (fun k=>Classical.choose (hxs k)) (fun k hk hc=>hxs' k hk hc)
end
end Go.Proofs.YtcjaembdcfppfaaGreat
namespace Go.Proofs.YtcjaembdcfppfaaGreat
open Go.RowKit
section
variable {X Y:Nat→Int} {n:Nat}
end
end Go.Proofs.YtcjaembdcfppfaaGreat
namespace Go.Proofs.YtcjaembdcfppfaaGreat
open Go.RowKit
def Q8(a b x y:Int):Bool:=decide (a<x∨(a=x∧b<y))
theorem a6p{r:Rows}:∀(f i:Nat),plN r f i=true↔∀k,i≤k→k<i+f→f9 (lg r (k:Int) 0) (lg r (k:Int) 1)=true
 | 0,i=>⟨fun _ k h1 h2=>by omega,fun _=>rfl⟩
 | f+1,i=>by
   rw[plN,Bool.and_eq_true,a6p f (i+1)]
   constructor
   ·rintro⟨h1,h2⟩ k g1 g2
    by_cases e:k=i
    ·subst e;exact h1
    ·exact h2 k (by omega) (by omega)
   ·intro h
    exact⟨h i (by omega) (by omega),fun k g1 g2=>h k (by omega) (by omega)⟩
theorem a0V{r:Rows}:∀(f i:Nat),V7 r f i=true↔∀k,i≤k→k<i+f→N4 r k=true
 | 0,i=>⟨fun _ k h1 h2=>by omega,fun _=>rfl⟩
 | f+1,i=>by
   rw[V7,Bool.and_eq_true,a0V f (i+1)]
   constructor
   ·rintro⟨h1,h2⟩ k g1 g2
    by_cases e:k=i
    ·subst e;exact h1
    ·exact h2 k (by omega) (by omega)
   ·intro h
    exact⟨h i (by omega) (by omega),fun k g1 g2=>h k (by omega) (by omega)⟩
theorem a8D{a b x y:Int}:(0≤a1f a b x y)↔¬Q8 a b x y=true:=by
 unfold Q8 a1f
 rw[decide_eq_true_eq]
 (repeat' split)<;>omega
theorem a1E{r:Rows}(hpl:∀k:Nat,k<r.length→f9 (lg r k 0) (lg r k 1)=true){i:Nat}(hi:i<r.length):
 N4 r i=true↔(0<i→Q8 (lg r 0 0) (lg r 0 1) (lg r i 0) (lg r i 1)=true)∧z6 (lg r (O3 r.length i) 0) (lg r (O3 r.length i) 1) (lg r i 0) (lg r i 1) (lg r (nxt r.length i) 0) (lg r (nxt r.length i) 1)≠0:=by
 unfold N4
 rw[a6Z (hpl _ (b2j hi)) (hpl _ hi) (hpl _ (u6 hi))]
 simp only[Bool.and_eq_true,Bool.not_eq_true',Bool.and_eq_false_imp,decide_eq_true_eq,decide_eq_false_iff_not,a8D,Decidable.not_not,ne_eq]
theorem c9N{n i:Nat}(h:i<n):nxt n (O3 n i)=i:=by unfold O3 nxt;split<;>split<;>omega
theorem b0R{ax ay bx by' cx cy dx dy:Int}:n9 cx cy dx dy ax ay bx by'=n9 ax ay bx by' cx cy dx dy:=by
 rw[Bool.eq_iff_iff,V0,V0]
 exact⟨fun⟨k,x,y,h1,h2,h3⟩=>⟨k,x,y,h1,h3,h2⟩,fun⟨k,x,y,h1,h2,h3⟩=>⟨k,x,y,h1,h3,h2⟩⟩
theorem b1b{r:Rows}{i:Nat}:∀(f k:Nat),S7 r i f k=true→∀j,k≤j→j<k+f→A3 r i j=true
 | 0,_,_,j,h1,h2=>by omega
 | f+1,k,h,j,h1,h2=>by
   rw[S7,Bool.and_eq_true] at h
   by_cases e:j=k
   ·subst e;exact h.1
   ·exact b1b f (k+1) h.2 j (by omega) (by omega)
theorem a5J{r:Rows}:∀(f i:Nat),t9 r f i=true→∀a,i≤a→a<i+f→∀k,k<r.length→A3 r a k=true
 | 0,_,_,a,h1,h2,_,_=>by omega
 | f+1,i,h,a,h1,h2,k,hk=>by
   rw[t9,Bool.and_eq_true] at h
   by_cases e:a=i
   ·subst e;exact b1b _ 0 h.1 k (by omega) (by omega)
   ·exact a5J f (i+1) h.2 a (by omega) (by omega) k hk
theorem b5n{r:Rows}(hr:j6 r=true):Simple (cx r) (cy r) r.length:=by
 have hl:=H3 hr
 have hpl:∀k:Nat,k<r.length→f9 (lg r k 0) (lg r k 1)=true:=fun k hk=>x9 hr hk
 have h:=hr
 simp only[j6,Bool.and_eq_true] at h
 obtain⟨_,_,hco,hsi,_⟩:=h
 have key:∀i k,i<k→k<r.length→k≠nxt r.length i→i≠nxt r.length k→n9 (cx r i) (cy r i) (cx r (nxt r.length i)) (cy r (nxt r.length i)) (cx r k) (cy r k) (cx r (nxt r.length k)) (cy r (nxt r.length k))=false:=by
  intro i k hik hk h1 h2
  have h:=a5J _ 0 hsi i (by omega) (by omega) k hk
  unfold A3 at h
  have hno:¬(k≤i+1∨(i=0∧k+1=r.length)):=by
   unfold nxt at h1 h2
   split at h1<;>split at h2<;>omega
  rw[decide_eq_false hno,Bool.false_or,Bool.not_eq_true'] at h
  unfold a2d T5 at h
  rw[S2,hpl i (by omega),hpl _ (u6 (show i<r.length by omega)),hpl k hk,hpl _ (u6 hk),W5] at h
  exact h
 refine⟨hl.1,fun i k hi hk hki h1 h2=> ?_,fun i hi=> ?_⟩
 ·rcases Nat.lt_or_ge i k with c | c
  ·exact key i k c hk h1 h2
  ·rw[←b0R]
   exact key k i (by omega) hi h2 h1
 ·have hn:=u6 hi
  have:=((a1E hpl hn).mp ((a0V _ _).mp hco _ (by omega) (by omega))).2
  rw[b6R hi] at this
  exact fun z=>this (b2M.mpr z)
theorem c1x{r:Rows}(hr:j6 r=true){x y:Int}(hq:∀k,k<r.length→A7 x y (cx r k) (cy r k) (cx r (nxt r.length k)) (cy r (nxt r.length k))=false): -1≤F8 (cx r) (cy r) r.length x y∧F8 (cx r) (cy r) r.length x y≤1:=
 c9H (b5n hr) (K:=2000001) (by decide) (fun i k hi hk=>by
  have h1:=z0.mp (x9 hr hi)
  have h2:=z0.mp (x9 hr hk)
  omega) hq
theorem b6b{r:Rows}{x y:Int}:∀m,m≤r.length→∀b,(C0 (fun k=>sE x y (cx r k) (cy r k) (cx r (nxt r.length k)) (cy r (nxt r.length k))) m % 2=if b then 1 else 0)→F9 r x y r.length 0=(b ^^ F9 r x y (r.length-m) m)
 | 0,_,b,h=>by
   cases b
   ·simp
   ·simp [C0] at h
 | m+1,hm,b,h=>by
   rw[C0] at h
   have e:F9 r x y (r.length-m) m=(crE r x y m ^^ F9 r x y (r.length-(m+1)) (m+1)):=by
    rw[show r.length-m=(r.length-(m+1))+1 by omega];rfl
   have hs:sE x y (cx r m) (cy r m) (cx r (nxt r.length m)) (cy r (nxt r.length m)) % 2=if crE r x y m then 1 else 0:=by
    unfold sE crE
    cases E7 x y (cx r m) (cy r m) (cx r (nxt r.length m)) (cy r (nxt r.length m))
    ·rfl
    ·simp only[if_true];split<;>rfl
   generalize sE x y (cx r m) (cy r m) (cx r (nxt r.length m)) (cy r (nxt r.length m))=u at*
   have ih:=b6b (r:=r) (x:=x) (y:=y) m (by omega) (b ^^ crE r x y m)
   rw[ih,e]
   ·cases b<;>cases crE r x y m<;>cases F9 r x y (r.length-(m+1)) (m+1)<;>rfl
   ·revert h hs
    cases b<;>cases crE r x y m<;>simp<;>omega
theorem a8i{r:Rows}(hr:j6 r=true){x y:Int}(hq:f9 x y=true)(hon:∀k,k<r.length→A7 x y (cx r k) (cy r k) (cx r (nxt r.length k)) (cy r (nxt r.length k))=false):
 j9 r x y r.length 0 false=if F8 (cx r) (cy r) r.length x y=0 then -1 else 1:=by
 have hw:=c1x hr hon
 rw[a1d hr hq _ _ _ (by omega),a2I _ _ (fun k _ hk=>hon k (by omega))]
 have hp:=b6b (r:=r) (x:=x) (y:=y) r.length (by omega)
 have ew:C0 (fun k=>sE x y (cx r k) (cy r k) (cx r (nxt r.length k)) (cy r (nxt r.length k))) r.length=F8 (cx r) (cy r) r.length x y:=rfl
 rw[ew,Nat.sub_self] at hp
 simp only[F9,Bool.xor_false,Bool.false_eq_true,if_false,Bool.false_xor] at hp ⊢
 by_cases h0:F8 (cx r) (cy r) r.length x y=0
 ·rw[hp false (by rw[h0];rfl),if_pos h0];rfl
 ·rw[hp true (by rw[if_pos rfl];omega),if_neg h0];rfl
def z8(x y:Int):Bool:=decide ((-1000000≤x∧x≤1000000)∧(-1000000≤y∧y≤1000000)∧¬(x=0∧y=0))
theorem a0v{x y:Int}:z8 x y=true↔(-1000000≤x∧x≤1000000)∧(-1000000≤y∧y≤1000000)∧¬(x=0∧y=0):=by unfold z8;exact decide_eq_true_iff
def D6(a b c d:Int):Int:=a*d-b*c
def T8(a b c d:Int):Prop:=D6 a b c d=0∧0<a*c+b*d
instance (a b c d:Int):Decidable (T8 a b c d):=by unfold T8;infer_instance
def b2G(a b c d x y:Int):Prop:=T8 a b c d∨T8 a b x y∨(¬T8 c d x y∧(if 0<D6 a b x y then(0<D6 x y c d∨D6 a b c d≤0) else(0<D6 x y c d∧D6 a b c d<0)))
instance (a b c d x y:Int):Decidable (b2G a b c d x y):=by unfold b2G;infer_instance
theorem a9A{a b c d:Int}(h1:z8 a b=true)(h2:z8 c d=true):a5G a b c d=D6 a b c d:=by
 rw[a0v] at h1 h2
 have m1:=N8 (a:=a) (b:=d) (A:=1000000) (B:=1000000) (by omega) (by omega) (by omega) (by omega)
 have m2:=N8 (a:=b) (b:=c) (A:=1000000) (B:=1000000) (by omega) (by omega) (by omega) (by omega)
 unfold a5G D6
 rw[b8 (a*d) (by omega) (by omega),b8 (b*c) (by omega) (by omega),b8 _ (by omega) (by omega)]
def z5(x y:Int):Int:=1000001*y+x
theorem N2{x y:Int}(h:z8 x y=true):(0<z5 x y↔(0<y∨(y=0∧0<x)))∧z5 x y≠0:=by
 rw[a0v] at h
 unfold z5
 omega
theorem c3V{a b c d:Int}(h1:z8 a b=true)(h2:z8 c d=true):x8 a b c d= -1↔(0<z5 a b∧z5 c d<0)∨(((0<z5 a b∧0<z5 c d)∨(z5 a b<0∧z5 c d<0))∧0<D6 a b c d):=by
 have l1:=N2 h1
 have l2:=N2 h2
 unfold x8
 rw[a9A h1 h2]
 generalize D6 a b c d=k
 (repeat' split)<;>omega
theorem c5s{a b c d:Int}(h1:z8 a b=true)(h2:z8 c d=true):(x8 a b c d=1∨¬x8 a b c d≤0)↔(z5 a b<0∧0<z5 c d)∨(((0<z5 a b∧0<z5 c d)∨(z5 a b<0∧z5 c d<0))∧D6 a b c d<0):=by
 have l1:=N2 h1
 have l2:=N2 h2
 unfold x8
 rw[a9A h1 h2]
 generalize D6 a b c d=k
 (repeat' split)<;>omega
theorem b6H{a b c d:Int}:x8 a b c d≤0↔¬x8 a b c d=1:=by
 unfold x8
 (repeat' split)<;>omega
theorem c4V{a b c d:Int}(h1:z8 a b=true)(h2:z8 c d=true):x8 a b c d=1↔(z5 a b<0∧0<z5 c d)∨(((0<z5 a b∧0<z5 c d)∨(z5 a b<0∧z5 c d<0))∧D6 a b c d<0):=by
 rw[←c5s h1 h2]
 have:= @b6H a b c d
 omega
theorem a8P{a b c d:Int}:x8 a b c d= -1∨x8 a b c d=0∨x8 a b c d=1:=by
 unfold x8
 (repeat' split)<;>omega
theorem b1i{a b c d:Int}(h1:x8 a b c d≠ -1)(h2:x8 a b c d≠1):x8 a b c d=0:=by
 have:= @a8P a b c d
 omega
theorem b1g{a b c d:Int}(h1:z8 a b=true)(h2:z8 c d=true):T8 a b c d↔D6 a b c d=0∧((0<z5 a b∧0<z5 c d)∨(z5 a b<0∧z5 c d<0)):=by
 unfold T8
 have n1:=(N2 h1).2
 have n2:=(N2 h2).2
 rw[a0v] at h1
 have hp:0<a*a+b*b:=by
  have q1:=D3 a
  have q2:=D3 b
  rcases Int.lt_or_le 0 (a*a+b*b) with h | h
  ·exact h
  ·have z1:a*a=0:=by omega
   have z2:b*b=0:=by omega
   have:=Int.mul_eq_zero.mp z1
   have:=Int.mul_eq_zero.mp z2
   omega
 constructor
 ·rintro⟨h,hd⟩
  refine⟨h,?_⟩
  have e:(a*a+b*b)*z5 c d=(a*c+b*d)*z5 a b:=by unfold D6 at h;unfold z5;grind
  have:=U6 hp hd e
  omega
 ·rintro⟨h,hl⟩
  refine⟨h,?_⟩
  have e:(a*a+b*b)*z5 c d=(a*c+b*d)*z5 a b:=by unfold D6 at h;unfold z5;grind
  have s1:=H9 (k:=(a*a+b*b)*z5 c d) rfl
  have s2:=H9 e
  omega
def sg(z:Int):Ordering:=if z<0 then .lt else if z=0 then .eq else .gt
def ms(u:Ordering)(m:Bool):Ordering:=if m then u else u.swap
def c6v(a b c:Ordering):Bool:=match a,b with
 | .gt,.lt=>true
 | .lt,.gt=>true
 | .eq,b=>b == c
 | a,_=>a == c
def a3C(l m:Bool)(w:Ordering):Ordering:=if l then(if m then w.swap else .lt) else(if m then .gt else w.swap)
def a1W(l m:Bool)(w:Ordering):Bool:=(w == .eq)&&(l == m)
def c4G(l m o:Bool)(u v w:Ordering):Bool:=match a3C l m w with
 | .lt=>(a3C l o u != .gt)&&(a3C m o v.swap == .gt)
 | .gt=>(a3C l o u != .gt)||(a3C m o v.swap == .gt)
 | .eq=>true
def d3g(l m o:Bool)(u v w:Ordering):Bool:=a1W l m w||(a1W l o u||(!a1W m o v&&(if u == .gt then(v == .gt)||(w != .gt) else(v == .gt)&&(w == .lt))))
theorem c3W:∀(l m o:Bool) (u v w:Ordering),c6v (ms u m) (ms v l) (ms w o)=true→c4G l m o u v w=d3g l m o u v w:=by
 intro l m o u v w
 cases l<;>cases m<;>cases o<;>cases u<;>cases v<;>cases w<;>decide
theorem E5{z:Int}:sg z= .lt↔z<0:=by unfold sg;(repeat' split)<;>simp<;>omega
theorem J3{z:Int}:sg z= .eq↔z=0:=by unfold sg;(repeat' split)<;>simp<;>omega
theorem B0{z:Int}:sg z= .gt↔0<z:=by unfold sg;(repeat' split)<;>simp<;>omega
theorem d2b(z:Int):sg (-z)=(sg z).swap:=by
 rcases Int.lt_trichotomy z 0 with h | h | h
 ·rw[E5.mpr h,B0.mpr (show 0< -z by omega)];rfl
 ·subst h;rfl
 ·rw[B0.mpr h,E5.mpr (show -z<0 by omega)];rfl
theorem b3I{u m:Int}(hm:m≠0):sg (u*m)=ms (sg u) (decide (0<m)):=by
 have s:=H9 (k:=u*m) rfl
 unfold ms
 rcases Int.lt_trichotomy u 0 with h | h | h<;>rcases Int.lt_or_lt_of_ne hm with g | g
 ·rw[E5.mpr h,decide_eq_false (by omega),B0.mpr (by omega)];rfl
 ·rw[E5.mpr h,decide_eq_true g,E5.mpr (by omega)];rfl
 ·rw[J3.mpr h,J3.mpr (by omega)];split<;>rfl
 ·rw[J3.mpr h,J3.mpr (by omega)];split<;>rfl
 ·rw[B0.mpr h,decide_eq_false (by omega),E5.mpr (by omega)];rfl
 ·rw[B0.mpr h,decide_eq_true g,B0.mpr (by omega)];rfl
theorem d3d{a b c:Int}(h:a+b=c):c6v (sg a) (sg b) (sg c)=true:=by
 rcases Int.lt_trichotomy a 0 with ha | ha | ha<;>rcases Int.lt_trichotomy b 0 with hb | hb | hb
 ·rw[E5.mpr ha,E5.mpr hb,E5.mpr (show c<0 by omega)];rfl
 ·rw[E5.mpr ha,J3.mpr hb,E5.mpr (show c<0 by omega)];rfl
 ·rw[E5.mpr ha,B0.mpr hb];rfl
 ·rw[J3.mpr ha,E5.mpr hb,E5.mpr (show c<0 by omega)];rfl
 ·rw[J3.mpr ha,J3.mpr hb,J3.mpr (show c=0 by omega)];rfl
 ·rw[J3.mpr ha,B0.mpr hb,B0.mpr (show 0<c by omega)];rfl
 ·rw[B0.mpr ha,E5.mpr hb];rfl
 ·rw[B0.mpr ha,J3.mpr hb,B0.mpr (show 0<c by omega)];rfl
 ·rw[B0.mpr ha,B0.mpr hb,B0.mpr (show 0<c by omega)];rfl
theorem a9X{a b c d:Int}(h1:z8 a b=true)(h2:z8 c d=true):sg (x8 a b c d)=a3C (decide (0<z5 a b)) (decide (0<z5 c d)) (sg (D6 a b c d)):=by
 have n1:=(N2 h1).2
 have n2:=(N2 h2).2
 have c1:=c3V h1 h2
 have c2:=c4V h1 h2
 have c3:= @b6H a b c d
 unfold a3C
 by_cases l:0<z5 a b<;>by_cases m:0<z5 c d
 ·rw[decide_eq_true l,decide_eq_true m]
  rcases Int.lt_trichotomy (D6 a b c d) 0 with k | k | k
  ·rw[E5.mpr k,B0.mpr (by omega)];rfl
  ·rw[J3.mpr k,J3.mpr (b1i (by omega) (by omega))];rfl
  ·rw[B0.mpr k,E5.mpr (by omega)];rfl
 ·rw[decide_eq_true l,decide_eq_false m,E5.mpr (by omega)];rfl
 ·rw[decide_eq_false l,decide_eq_true m,B0.mpr (by omega)];rfl
 ·rw[decide_eq_false l,decide_eq_false m]
  rcases Int.lt_trichotomy (D6 a b c d) 0 with k | k | k
  ·rw[E5.mpr k,B0.mpr (by omega)];rfl
  ·rw[J3.mpr k,J3.mpr (b1i (by omega) (by omega))];rfl
  ·rw[B0.mpr k,E5.mpr (by omega)];rfl
theorem b2v{a b c d:Int}(h1:z8 a b=true)(h2:z8 c d=true):decide (T8 a b c d)=a1W (decide (0<z5 a b)) (decide (0<z5 c d)) (sg (D6 a b c d)):=by
 have n1:=(N2 h1).2
 have n2:=(N2 h2).2
 rw[Bool.eq_iff_iff,decide_eq_true_eq,b1g h1 h2]
 unfold a1W
 rw[Bool.and_eq_true,beq_iff_eq,beq_iff_eq,J3,decide_eq_decide]
 omega
theorem d1Z{a b c d x y:Int}(h1:z8 a b=true)(h2:z8 c d=true)(h3:z8 x y=true):a2m a b c d x y=decide (b2G a b c d x y):=by
 have n1:=(N2 h1).2
 have n2:=(N2 h2).2
 have n3:=(N2 h3).2
 have e:D6 a b x y*z5 c d+D6 x y c d*z5 a b=D6 a b c d*z5 x y:=by unfold D6 z5;grind
 have hc:=d3d e
 rw[b3I n2,b3I n1,b3I n3] at hc
 have r1:D6 c d x y= - D6 x y c d:=by unfold D6;grind
 have law:=c3W _ _ _ _ _ _ hc
 have hl:a2m a b c d x y=c4G (decide (0<z5 a b)) (decide (0<z5 c d)) (decide (0<z5 x y)) (sg (D6 a b x y)) (sg (D6 x y c d)) (sg (D6 a b c d)):=by
  unfold c4G
  rw[←a9X h1 h2,←a9X h1 h3,←d2b,←r1,←a9X h2 h3]
  unfold a2m
  have b1:decide (x8 a b x y≤0)=(sg (x8 a b x y) != .gt):=by
   rw[Bool.eq_iff_iff,decide_eq_true_eq,bne_iff_ne,ne_eq,B0];omega
  have b2:(!decide (x8 c d x y≤0))=(sg (x8 c d x y) == .gt):=by
   rw[Bool.eq_iff_iff,Bool.not_eq_true',decide_eq_false_iff_not,beq_iff_eq,B0];omega
  rw[b1,b2]
  have c0:= @a8P a b c d
  by_cases p1:x8 a b c d= -1
  ·rw[if_pos p1,E5.mpr (show x8 a b c d<0 by omega)]
  ·rw[if_neg p1]
   by_cases p2:x8 a b c d=1
   ·rw[if_pos p2,B0.mpr (show 0<x8 a b c d by omega)]
   ·rw[if_neg p2,J3.mpr (show x8 a b c d=0 by omega)]
 rw[hl,law]
 unfold d3g
 have a3:T8 c d x y↔D6 x y c d=0∧((0<z5 c d∧0<z5 x y)∨(z5 c d<0∧z5 x y<0)):=by
  rw[b1g h2 h3,r1];omega
 have a3':a1W (decide (0<z5 c d)) (decide (0<z5 x y)) (sg (D6 x y c d))=decide (T8 c d x y):=by
  rw[Bool.eq_iff_iff,decide_eq_true_eq,a3]
  unfold a1W
  rw[Bool.and_eq_true,beq_iff_eq,beq_iff_eq,J3,decide_eq_decide]
  omega
 rw[←b2v h1 h2,←b2v h1 h3,a3']
 rw[Bool.eq_iff_iff,decide_eq_true_eq]
 unfold b2G
 simp only[Bool.or_eq_true,Bool.and_eq_true,Bool.not_eq_true',decide_eq_true_eq,decide_eq_false_iff_not]
 by_cases q:0<D6 a b x y
 ·rw[if_pos q,if_pos (beq_iff_eq.mpr (B0.mpr q))]
  simp only[Bool.or_eq_true,beq_iff_eq,bne_iff_ne,ne_eq,B0,Int.not_lt]
 ·rw[if_neg q,if_neg (fun h=>q (B0.mp (beq_iff_eq.mp h)))]
  simp only[Bool.and_eq_true,beq_iff_eq,B0,E5]
end Go.Proofs.YtcjaembdcfppfaaGreat
