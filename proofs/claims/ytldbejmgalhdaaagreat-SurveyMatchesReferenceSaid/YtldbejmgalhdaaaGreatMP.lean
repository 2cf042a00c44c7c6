/- MP, merged: THd, He, Lm0, Lm, Pa, Pb, Pc, Pd, Pe, Pf, Pn, Ph, Pi, Pj, Pk, Sb, Sa. -/
import Derived.Test.YtldbejmgalhdaaaGreatMD
import Derived.Test.YtldbejmgalhdaaaGreatMG
import Derived.Test.YtldbejmgalhdaaaGreatMF
set_option linter.unusedSimpArgs false
set_option linter.unusedVariables false
namespace Go.Proofs.YtldbejmgalhdaaaGreat
open Go.RowKit
section
variable (W:World) (ds l:List D)
end
end Go.Proofs.YtldbejmgalhdaaaGreat
namespace Go.Proofs.YtldbejmgalhdaaaGreat
open Go.RowKit
def Seg(ax ay bx by' k x y:Int):Prop:=∃s,0≤s∧s≤k∧x=k*ax+s*(bx-ax)∧y=k*ay+s*(by'-ay)
def b6f(ax ay bx by' cx cy dx dy:Int):Prop:=∃k x y,0<k∧Seg ax ay bx by' k x y∧Seg cx cy dx dy k x y
theorem c1s{n:Int}:J2 n=0↔n=0:=by unfold J2;split<;>(try split)<;>omega
theorem d0Y{n:Int}:0<J2 n↔0<n:=by unfold J2;split<;>(try split)<;>omega
theorem d6t{n:Int}:J2 n<0↔n<0:=by unfold J2;split<;>(try split)<;>omega
theorem b1B{m n:Int}:J2 m*J2 n<0↔(m<0∧0<n)∨(0<m∧n<0):=by
 unfold J2
 repeat' split
 all_goals omega
theorem b2N(ax ay bx by':Int){k:Int}(hk:0≤k):Seg ax ay bx by' k (k*ax) (k*ay):=⟨0,by omega,hk,by simp,by simp⟩
theorem c0C(ax ay bx by':Int){k:Int}(hk:0≤k):Seg ax ay bx by' k (k*bx) (k*by'):=⟨k,hk,by omega,by grind,by grind⟩
theorem a5G{ax ay bx by' k x y m:Int}(h:Seg ax ay bx by' k x y)(hm:0≤m):Seg ax ay bx by' (k*m) (x*m) (y*m):=by
 obtain⟨s,h1,h2,h3,h4⟩:=h
 exact⟨s*m,Int.mul_nonneg h1 hm,Int.mul_le_mul_of_nonneg_right h2 hm,by rw[h3];grind,by rw[h4];grind⟩
theorem a4o{ax ay bx by' k x y:Int}(h:Seg ax ay bx by' k x y):Seg bx by' ax ay k x y:=by
 obtain⟨s,h1,h2,h3,h4⟩:=h
 exact⟨k-s,by omega,by omega,by rw[h3];grind,by rw[h4];grind⟩
theorem a3G{ax ay bx by' k x y M:Int}(h:Seg ax ay bx by' k x y)(h1:ax≤M)(h2:bx≤M):x≤k*M:=by
 obtain⟨s,h3,h4,rfl,_⟩:=h
 have e1:=Int.mul_nonneg (show 0≤k-s by omega) (show 0≤M-ax by omega)
 have e2:=Int.mul_nonneg h3 (show 0≤M-bx by omega)
 grind
theorem a3K{ax ay bx by' k x y M:Int}(h:Seg ax ay bx by' k x y)(h1:M≤ax)(h2:M≤bx):k*M≤x:=by
 obtain⟨s,h3,h4,rfl,_⟩:=h
 have e1:=Int.mul_nonneg (show 0≤k-s by omega) (show 0≤ax-M by omega)
 have e2:=Int.mul_nonneg h3 (show 0≤bx-M by omega)
 grind
theorem P7{ax ay bx by' k x y:Int}(h:Seg ax ay bx by' k x y):Seg ay ax by' bx k y x:=by
 obtain⟨s,h1,h2,h3,h4⟩:=h
 exact⟨s,h1,h2,h4,h3⟩
theorem a4C{ax ay bx by' px py:Int}(hc:f7 ax ay bx by' px py=0)(h1:ax≠bx)(h2:min ax bx≤px)(h3:px≤max ax bx):
 ∃k,0<k∧Seg ax ay bx by' k (k*px) (k*py):=by
 unfold f7 at hc
 by_cases h:ax<bx
 ·exact⟨bx-ax,by omega,px-ax,by omega,by omega,by grind,by grind⟩
 ·exact⟨ax-bx,by omega,ax-px,by omega,by omega,by grind,by grind⟩
theorem U4(ax ay bx by' px py:Int):f7 ay ax by' bx py px= - f7 ax ay bx by' px py:=by unfold f7;grind
theorem J7{px py ax ay bx by':Int}:D5 px py ax ay bx by'=true↔∃k,0<k∧Seg ax ay bx by' k (k*px) (k*py):=by
 constructor
 ·intro h
  simp only[D5,decide_eq_true_eq,A5,c1s] at h
  obtain⟨h1,h2,h3,h4,h5⟩:=h
  by_cases hx:ax=bx
  ·by_cases hy:ay=by'
   ·exact⟨1,by omega,0,by omega,by omega,by omega,by omega⟩
   ·obtain⟨k,hk,hs⟩:=a4C (ax:=ay) (ay:=ax) (bx:=by') (by':=bx) (px:=py) (py:=px) (by rw[U4,h1];rfl) hy h4 h5
    exact⟨k,hk,P7 hs⟩
  ·exact a4C h1 hx h2 h3
 ·rintro⟨k,hk,h⟩
  have x1:=a3G h (Int.le_max_left ax bx) (Int.le_max_right ax bx)
  have x2:=a3K h (Int.min_le_left ax bx) (Int.min_le_right ax bx)
  have y1:=a3G (P7 h) (Int.le_max_left ay by') (Int.le_max_right ay by')
  have y2:=a3K (P7 h) (Int.min_le_left ay by') (Int.min_le_right ay by')
  simp only[D5,decide_eq_true_eq,A5,c1s]
  refine⟨?_,Int.le_of_mul_le_mul_left x2 hk,Int.le_of_mul_le_mul_left x1 hk,Int.le_of_mul_le_mul_left y2 hk,Int.le_of_mul_le_mul_left y1 hk⟩
  obtain⟨s,_,_,e1,e2⟩:=h
  have:k*f7 ax ay bx by' px py=0:=by unfold f7;grind
  rcases Int.mul_eq_zero.mp this with h | h
  ·omega
  ·exact h
theorem a1Y{ax ay bx by' px py:Int}(hc:f7 ax ay bx by' px py=0)(h1:ax≠bx)(h2:min ax bx≤px)(h3:px≤max ax bx):D5 px py ax ay bx by'=true:=
 J7.mpr (a4C hc h1 h2 h3)
theorem b9y{ax ay bx by' px py:Int}:D5 py px ay ax by' bx=D5 px py ax ay bx by':=by
 rw[Bool.eq_iff_iff,J7,J7]
 exact⟨fun⟨k,h,hs⟩=>⟨k,h,P7 hs⟩,fun⟨k,h,hs⟩=>⟨k,h,P7 hs⟩⟩
theorem a5L(ax ay bx by' cx cy dx dy:Int):f7 ax ay bx by' cx cy+f7 cx cy dx dy ax ay=f7 ax ay bx by' dx dy+f7 cx cy dx dy bx by':=by
 unfold f7;grind
theorem U6{ax ay bx by' cx cy dx dy:Int}(h:t4 ax ay bx by' cx cy dx dy=true):b6f ax ay bx by' cx cy dx dy:=by
 simp only[t4,Bool.or_eq_true,decide_eq_true_eq,A5,b1B] at h
 have e:=a5L ax ay bx by' cx cy dx dy
 rcases h with h | h | h | h | h
 ·have ex:((f7 cx cy dx dy ax ay-f7 cx cy dx dy bx by')*ax+f7 cx cy dx dy ax ay*(bx-ax)=(f7 cx cy dx dy ax ay-f7 cx cy dx dy bx by')*cx+(- f7 ax ay bx by' cx cy)*(dx-cx)):=by unfold f7;grind
  have ey:((f7 cx cy dx dy ax ay-f7 cx cy dx dy bx by')*ay+f7 cx cy dx dy ax ay*(by'-ay)=(f7 cx cy dx dy ax ay-f7 cx cy dx dy bx by')*cy+(- f7 ax ay bx by' cx cy)*(dy-cy)):=by unfold f7;grind
  generalize f7 cx cy dx dy ax ay=g at*
  generalize f7 cx cy dx dy bx by'=d at*
  generalize f7 ax ay bx by' cx cy=a at*
  generalize f7 ax ay bx by' dx dy=b at*
  by_cases hg:0<g
  ·exact⟨g-d,_,_,by omega,⟨g,by omega,by omega,rfl,rfl⟩,⟨-a,by omega,by omega,ex,ey⟩⟩
  ·exact⟨d-g,_,_,by omega,⟨-g,by omega,by omega,rfl,rfl⟩,⟨a,by omega,by omega,by grind,by grind⟩⟩
 ·obtain⟨k,hk,hs⟩:=J7.mp h
  exact⟨k,_,_,hk,b2N _ _ _ _ (by omega),hs⟩
 ·obtain⟨k,hk,hs⟩:=J7.mp h
  exact⟨k,_,_,hk,c0C _ _ _ _ (by omega),hs⟩
 ·obtain⟨k,hk,hs⟩:=J7.mp h
  exact⟨k,_,_,hk,hs,b2N _ _ _ _ (by omega)⟩
 ·obtain⟨k,hk,hs⟩:=J7.mp h
  exact⟨k,_,_,hk,hs,c0C _ _ _ _ (by omega)⟩
theorem c0j{k s a b:Int}(h1:0<s)(h2:s<k)(h:(k-s)*a+s*b=0):(a=0∧b=0)∨(a<0∧0<b)∨(0<a∧b<0):=by
 rcases Int.lt_trichotomy a 0 with ha | ha | ha
 ·have:=Int.mul_neg_of_pos_of_neg (show 0<k-s by omega) ha
  have:0<b:=by
   rcases Int.lt_or_le 0 b with hb | hb
   ·exact hb
   ·have:=Int.mul_nonneg (show 0≤s by omega) (show 0≤ -b by omega)
    grind
  omega
 ·subst ha
  have:s*b=0:=by grind
  rcases Int.mul_eq_zero.mp this with h | h<;>omega
 ·have:=Int.mul_pos (show 0<k-s by omega) ha
  have:b<0:=by
   rcases Int.lt_or_le b 0 with hb | hb
   ·exact hb
   ·have:=Int.mul_nonneg (show 0≤s by omega) hb
    grind
  omega
theorem d0d{ax ay bx by' cx cy dx dy k x:Int}(hk:0<k)(hx:ax≠bx)(h1:f7 ax ay bx by' cx cy=0)(h2:f7 ax ay bx by' dx dy=0)(h3:f7 cx cy dx dy ax ay=0)(h4:f7 cx cy dx dy bx by'=0)
 (u1:x≤k*max ax bx) (u2:k*min ax bx≤x) (u3:x≤k*max cx dx) (u4:k*min cx dx≤x):
 D5 ax ay cx cy dx dy=true∨D5 bx by' cx cy dx dy=true∨D5 cx cy ax ay bx by'=true∨D5 dx dy ax ay bx by'=true:=by
 have a1:=Int.le_of_mul_le_mul_left (Int.le_trans u2 u3) hk
 have a2:=Int.le_of_mul_le_mul_left (Int.le_trans u4 u1) hk
 by_cases q1:min ax bx≤cx∧cx≤max ax bx
 ·exact .inr (.inr (.inl (a1Y h1 hx q1.1 q1.2)))
 by_cases q2:min ax bx≤dx∧dx≤max ax bx
 ·exact .inr (.inr (.inr (a1Y h2 hx q2.1 q2.2)))
 have:cx≠dx:=by omega
 exact .inl (a1Y h3 this (by omega) (by omega))
theorem U3{ax ay bx by' cx cy dx dy:Int}(h:b6f ax ay bx by' cx cy dx dy):t4 ax ay bx by' cx cy dx dy=true:=by
 obtain⟨k,x,y,hk,h1,h2⟩:=h
 simp only[t4,Bool.or_eq_true,decide_eq_true_eq,A5,b1B]
 have u1:=a3G h1 (Int.le_max_left ax bx) (Int.le_max_right ax bx)
 have u2:=a3K h1 (Int.min_le_left ax bx) (Int.min_le_right ax bx)
 have u3:=a3G h2 (Int.le_max_left cx dx) (Int.le_max_right cx dx)
 have u4:=a3K h2 (Int.min_le_left cx dx) (Int.min_le_right cx dx)
 have v1:=a3G (P7 h1) (Int.le_max_left ay by') (Int.le_max_right ay by')
 have v2:=a3K (P7 h1) (Int.min_le_left ay by') (Int.min_le_right ay by')
 have v3:=a3G (P7 h2) (Int.le_max_left cy dy) (Int.le_max_right cy dy)
 have v4:=a3K (P7 h2) (Int.min_le_left cy dy) (Int.min_le_right cy dy)
 have h1':=h1
 have h2':=h2
 obtain⟨s,s0,s1,ex,ey⟩:=h1
 obtain⟨t,t0,t1,fx,fy⟩:=h2
 by_cases c1:s=0
 ·exact .inr (.inl (J7.mpr ⟨k,hk,by rw[show k*ax=x by rw[ex,c1];omega,show k*ay=y by rw[ey,c1];omega];exact h2'⟩))
 by_cases c2:s=k
 ·exact .inr (.inr (.inl (J7.mpr ⟨k,hk,by rw[show k*bx=x by rw[ex,c2];grind,show k*by'=y by rw[ey,c2];grind];exact h2'⟩)))
 by_cases c3:t=0
 ·exact .inr (.inr (.inr (.inl (J7.mpr ⟨k,hk,by rw[show k*cx=x by rw[fx,c3];omega,show k*cy=y by rw[fy,c3];omega];exact h1'⟩))))
 by_cases c4:t=k
 ·exact .inr (.inr (.inr (.inr (J7.mpr ⟨k,hk,by rw[show k*dx=x by rw[fx,c4];grind,show k*dy=y by rw[fy,c4];grind];exact h1'⟩))))
 have E1:(k-t)*f7 ax ay bx by' cx cy+t*f7 ax ay bx by' dx dy=0:=by unfold f7;grind
 have E2:(k-s)*f7 cx cy dx dy ax ay+s*f7 cx cy dx dy bx by'=0:=by unfold f7;grind
 have e:=a5L ax ay bx by' cx cy dx dy
 have b1:=c0j (by omega) (by omega) E1
 have b2:=c0j (by omega) (by omega) E2
 by_cases z:f7 ax ay bx by' cx cy=0∧f7 ax ay bx by' dx dy=0∧f7 cx cy dx dy ax ay=0∧f7 cx cy dx dy bx by'=0
 ·obtain⟨z1,z2,z3,z4⟩:=z
  right
  by_cases hx:ax=bx
  ·by_cases hy:ay=by'
   ·left
    subst hx hy
    exact J7.mpr ⟨k,hk,by rw[show k*ax=x by rw[ex];grind,show k*ay=y by rw[ey];grind];exact h2'⟩
   ·have:=d0d (ax:=ay) (ay:=ax) (bx:=by') (by':=bx) (cx:=cy) (cy:=cx) (dx:=dy) (dy:=dx) hk hy (by rw[U4,z1];rfl) (by rw[U4,z2];rfl) (by rw[U4,z3];rfl) (by rw[U4,z4];rfl) v1 v2 v3 v4
    simpa only[b9y] using this
  ·exact d0d hk hx z1 z2 z3 z4 u1 u2 u3 u4
 ·left
  omega
theorem a0J{ax ay bx by' cx cy dx dy:Int}:t4 ax ay bx by' cx cy dx dy=true↔b6f ax ay bx by' cx cy dx dy:=⟨U6,U3⟩
def N5(qx qy ax ay bx by':Int):Bool:=
 if by'<ay then decide (by'≤qy∧qy<ay∧0<f7 bx by' ax ay qx qy) else decide (ay≤qy∧qy<by'∧0<f7 ax ay bx by' qx qy)
def gIn(ax ay bx by' px py:Int):Bool:=decide (ay<py∧py≤by'∧f7 ax ay bx by' px py<0)
theorem b8N(qx qy ax ay bx by':Int):N5 qx qy ax ay bx by'=N5 qx qy bx by' ax ay:=by
 unfold N5
 split<;>split
 ·omega
 ·rfl
 ·rfl
 ·have:ay=by':=by omega
  subst this
  rw[decide_eq_false (by omega),decide_eq_false (by omega)]
theorem a8N{a b:Int}(h:0<a*b)(hb:0<b):0<a:=by
 rcases Int.lt_or_le 0 a with h' | h'
 ·exact h'
 ·have:=Int.mul_nonneg (show 0≤ -a by omega) (show 0≤b by omega)
  grind
theorem b6C{a b:Int}(h:a*b<0)(hb:0<b):a<0:=by
 rcases Int.lt_or_le a 0 with h' | h'
 ·exact h'
 ·have:=Int.mul_nonneg h' (show 0≤b by omega)
  omega
theorem R1{ax ay bx by' px py:Int}(hc:f7 ax ay bx by' px py=0)(h1:ay≠by')(h2:min ay by'≤py)(h3:py≤max ay by'):D5 px py ax ay bx by'=true:=by
 rw[←b9y]
 exact a1Y (by rw[U4,hc];rfl) h1 h2 h3
section
variable {ax ay bx by' px py qx qy:Int} (hn:t4 ax ay bx by' px py qx qy=false)
include hn
theorem a2Z:¬(((f7 ax ay bx by' px py<0∧0<f7 ax ay bx by' qx qy)∨(0<f7 ax ay bx by' px py∧f7 ax ay bx by' qx qy<0))∧((f7 px py qx qy ax ay<0∧0<f7 px py qx qy bx by')∨(0<f7 px py qx qy ax ay∧f7 px py qx qy bx by'<0))):=by
 intro h
 simp only[t4,Bool.or_eq_false_iff,decide_eq_false_iff_not,A5,b1B] at hn
 exact hn.1 h
theorem b3Y:D5 ax ay px py qx qy=false∧D5 bx by' px py qx qy=false∧D5 px py ax ay bx by'=false∧D5 qx qy ax ay bx by'=false:=by
 simp only[t4,Bool.or_eq_false_iff] at hn
 exact hn.2
theorem d7O(h1:py≤ay)(h2:ay<qy)(h3:qy≤by'):(0<f7 px py qx qy ax ay)↔f7 ax ay bx by' qx qy<0:=by
 have np:=a2Z hn
 obtain⟨n1,n2,n3,n4⟩:=b3Y hn
 have z1:f7 px py qx qy ax ay≠0:=fun h=>by rw[R1 h (by omega) (by omega) (by omega)] at n1;exact absurd n1 (by decide)
 have z4:f7 ax ay bx by' qx qy≠0:=fun h=>by rw[R1 h (by omega) (by omega) (by omega)] at n4;exact absurd n4 (by decide)
 have I1:f7 ax ay bx by' px py*(qy-ay)+f7 px py qx qy ax ay*(by'-ay)=f7 ax ay bx by' qx qy*(py-ay):=by unfold f7;grind
 have I2:f7 px py qx qy bx by'*(by'-ay)=f7 ax ay bx by' px py*(by'-qy)-f7 ax ay bx by' qx qy*(by'-py):=by unfold f7;grind
 generalize f7 ax ay bx by' px py=a at*
 generalize f7 ax ay bx by' qx qy=b at*
 generalize f7 px py qx qy ax ay=g at*
 generalize f7 px py qx qy bx by'=d at*
 constructor
 ·intro hg
  rcases Int.lt_or_le b 0 with h | h
  ·exact h
  ·have q1:=Int.mul_pos hg (show 0<by'-ay by omega)
   have q2:=Int.mul_nonneg h (show 0≤ay-py by omega)
   have ha:a<0:=b6C (b:=qy-ay) (by grind) (by omega)
   have q3:=Int.mul_nonneg (show 0≤ -a by omega) (show 0≤by'-qy by omega)
   have q4:=Int.mul_pos (show 0<b by omega) (show 0<by'-py by omega)
   have hd:d<0:=b6C (b:=by'-ay) (by grind) (by omega)
   omega
 ·intro hb
  rcases Int.lt_or_le 0 g with h | h
  ·exact h
  ·have q1:=Int.mul_pos (show 0< -g by omega) (show 0<by'-ay by omega)
   have q2:=Int.mul_nonneg (show 0≤ -b by omega) (show 0≤ay-py by omega)
   have ha:0<a:=a8N (b:=qy-ay) (by grind) (by omega)
   have q3:=Int.mul_nonneg (show 0≤a by omega) (show 0≤by'-qy by omega)
   have q4:=Int.mul_pos (show 0< -b by omega) (show 0<by'-py by omega)
   have hd:0<d:=a8N (b:=by'-ay) (by grind) (by omega)
   omega
theorem d7E(h1:ay<py)(h2:py≤by')(h3:by'<qy):(0<f7 px py qx qy bx by')↔f7 ax ay bx by' px py<0:=by
 have np:=a2Z hn
 obtain⟨n1,n2,n3,n4⟩:=b3Y hn
 have z1:f7 px py qx qy bx by'≠0:=fun h=>by rw[R1 h (by omega) (by omega) (by omega)] at n2;exact absurd n2 (by decide)
 have z4:f7 ax ay bx by' px py≠0:=fun h=>by rw[R1 h (by omega) (by omega) (by omega)] at n3;exact absurd n3 (by decide)
 have I1:f7 ax ay bx by' px py*(qy-ay)+f7 px py qx qy ax ay*(by'-ay)=f7 ax ay bx by' qx qy*(py-ay):=by unfold f7;grind
 have I2:f7 px py qx qy bx by'*(by'-ay)=f7 ax ay bx by' px py*(by'-qy)-f7 ax ay bx by' qx qy*(by'-py):=by unfold f7;grind
 generalize f7 ax ay bx by' px py=a at*
 generalize f7 ax ay bx by' qx qy=b at*
 generalize f7 px py qx qy ax ay=g at*
 generalize f7 px py qx qy bx by'=d at*
 constructor
 ·intro hd
  rcases Int.lt_or_le a 0 with h | h
  ·exact h
  ·have q1:=Int.mul_pos hd (show 0<by'-ay by omega)
   have q2:=Int.mul_nonneg h (show 0≤qy-by' by omega)
   have q5:0< -b*(by'-py):=by grind
   have hb:b<0:=by
    rcases Int.lt_or_le b 0 with h' | h'
    ·exact h'
    ·have:=Int.mul_nonneg h' (show 0≤by'-py by omega)
     grind
   have q3:=Int.mul_pos (show 0< -b by omega) (show 0<py-ay by omega)
   have q4:=Int.mul_pos (show 0<a by omega) (show 0<qy-ay by omega)
   have hg:g<0:=b6C (b:=by'-ay) (by grind) (by omega)
   omega
 ·intro ha
  rcases Int.lt_or_le 0 d with h | h
  ·exact h
  ·have q1:=Int.mul_pos (show 0< -d by omega) (show 0<by'-ay by omega)
   have q2:=Int.mul_pos (show 0< -a by omega) (show 0<qy-by' by omega)
   have q5:0<b*(by'-py):=by grind
   have hb:0<b:=by
    rcases Int.lt_or_le 0 b with h' | h'
    ·exact h'
    ·have:=Int.mul_nonneg (show 0≤ -b by omega) (show 0≤by'-py by omega)
     grind
   have q3:=Int.mul_pos hb (show 0<py-ay by omega)
   have q4:=Int.mul_pos (show 0< -a by omega) (show 0<qy-ay by omega)
   have hg:0<g:=a8N (b:=by'-ay) (by grind) (by omega)
   omega
theorem d7k(hy:ay≤by')(h1:py≤ay)(h3:by'<qy):(0<f7 px py qx qy ax ay)↔0<f7 px py qx qy bx by':=by
 have np:=a2Z hn
 obtain⟨n1,n2,n3,n4⟩:=b3Y hn
 have z1:f7 px py qx qy ax ay≠0:=fun h=>by rw[R1 h (by omega) (by omega) (by omega)] at n1;exact absurd n1 (by decide)
 have z2:f7 px py qx qy bx by'≠0:=fun h=>by rw[R1 h (by omega) (by omega) (by omega)] at n2;exact absurd n2 (by decide)
 have e:=a5L ax ay bx by' px py qx qy
 have I1:f7 ax ay bx by' px py*(qy-ay)+f7 px py qx qy ax ay*(by'-ay)=f7 ax ay bx by' qx qy*(py-ay):=by unfold f7;grind
 have I2:f7 px py qx qy bx by'*(by'-ay)=f7 ax ay bx by' px py*(by'-qy)-f7 ax ay bx by' qx qy*(by'-py):=by unfold f7;grind
 have z3:¬(f7 ax ay bx by' px py=0∧py=ay∧by'=ay)∨(f7 px py qx qy ax ay<0∧f7 px py qx qy bx by'<0)∨(0<f7 px py qx qy ax ay∧0<f7 px py qx qy bx by'):=by
  rcases Classical.em (f7 ax ay bx by' px py=0∧py=ay∧by'=ay) with ⟨c1,rfl,rfl⟩ | c
  ·right
   have w1:f7 px by' qx qy ax by'=(px-ax)*(qy-by'):=by unfold f7;grind
   have w2:f7 px by' qx qy bx by'=(px-bx)*(qy-by'):=by unfold f7;grind
   rw[w1] at z1 ⊢
   rw[w2] at z2 ⊢
   have nn:¬(min ax bx≤px∧px≤max ax bx):=by
    intro hh
    rcases Classical.em (ax=bx) with hx | hx
    ·have:px=ax:=by omega
     subst this
     simp at z1
    ·rw[a1Y c1 hx hh.1 hh.2] at n3
     exact absurd n3 (by decide)
   rcases Int.lt_or_le px (min ax bx) with h | h
   ·left
    exact⟨Int.mul_neg_of_neg_of_pos (by omega) (by omega),Int.mul_neg_of_neg_of_pos (by omega) (by omega)⟩
   ·right
    exact⟨Int.mul_pos (by omega) (by omega),Int.mul_pos (by omega) (by omega)⟩
  ·exact .inl c
 generalize f7 ax ay bx by' px py=a at*
 generalize f7 ax ay bx by' qx qy=b at*
 generalize f7 px py qx qy ax ay=g at*
 generalize f7 px py qx qy bx by'=d at*
 constructor
 ·intro hg
  rcases Int.lt_or_le 0 d with h | h
  ·exact h
  ·
   exfalso
   rcases Int.lt_or_le a 0 with ha | ha
   ·have hb:b≤0:=by omega
    have q1:=Int.mul_pos (show 0< -a by omega) (show 0<qy-by' by omega)
    have q2:=Int.mul_nonneg (show 0≤ -b by omega) (show 0≤by'-py by omega)
    have q3:=Int.mul_nonneg (show 0≤ -d by omega) (show 0≤by'-ay by omega)
    grind
   ·have q1:=Int.mul_nonneg ha (show 0≤qy-ay by omega)
    have q2:=Int.mul_nonneg (show 0≤g by omega) (show 0≤by'-ay by omega)
    have q3:=Int.mul_nonneg (show 0≤b by omega) (show 0≤ay-py by omega)
    have e0:b*(ay-py)= -(b*(py-ay)):=by grind
    have e1:a*(qy-ay)=0:=by omega
    have e2:g*(by'-ay)=0:=by omega
    have e3:b*(py-ay)=0:=by omega
    have f1:=Int.mul_eq_zero.mp e1
    have f2:=Int.mul_eq_zero.mp e2
    have f3:=Int.mul_eq_zero.mp e3
    omega
 ·intro hd
  rcases Int.lt_or_le 0 g with h | h
  ·exact h
  ·exfalso
   rcases Int.lt_or_le 0 a with ha | ha
   ·have hb:0≤b:=by omega
    have q1:=Int.mul_pos ha (show 0<qy-by' by omega)
    have q2:=Int.mul_nonneg hb (show 0≤by'-py by omega)
    have q3:=Int.mul_nonneg (show 0≤d by omega) (show 0≤by'-ay by omega)
    grind
   ·have q1:=Int.mul_nonneg (show 0≤ -a by omega) (show 0≤qy-ay by omega)
    have q2:=Int.mul_nonneg (show 0≤ -g by omega) (show 0≤by'-ay by omega)
    have q3:=Int.mul_nonneg (show 0≤ -b by omega) (show 0≤ay-py by omega)
    rw[Int.neg_mul] at q1 q2 q3
    have e0:b*(ay-py)= -(b*(py-ay)):=by grind
    have e1:a*(qy-ay)=0:=by omega
    have e2:g*(by'-ay)=0:=by omega
    have e3:b*(py-ay)=0:=by omega
    have f1:=Int.mul_eq_zero.mp e1
    have f2:=Int.mul_eq_zero.mp e2
    have f3:=Int.mul_eq_zero.mp e3
    omega
theorem d7L(h1:ay<py)(hpq:py≤qy)(h3:qy≤by'):f7 ax ay bx by' px py<0↔f7 ax ay bx by' qx qy<0:=by
 have np:=a2Z hn
 obtain⟨n1,n2,n3,n4⟩:=b3Y hn
 have z1:f7 ax ay bx by' px py≠0:=fun h=>by rw[R1 h (by omega) (by omega) (by omega)] at n3;exact absurd n3 (by decide)
 have z2:f7 ax ay bx by' qx qy≠0:=fun h=>by rw[R1 h (by omega) (by omega) (by omega)] at n4;exact absurd n4 (by decide)
 have I1:f7 ax ay bx by' px py*(qy-ay)+f7 px py qx qy ax ay*(by'-ay)=f7 ax ay bx by' qx qy*(py-ay):=by unfold f7;grind
 have I2:f7 px py qx qy bx by'*(by'-ay)=f7 ax ay bx by' px py*(by'-qy)-f7 ax ay bx by' qx qy*(by'-py):=by unfold f7;grind
 have z3:¬(py=by'∧qy=by')∨(f7 ax ay bx by' px py<0∧f7 ax ay bx by' qx qy<0)∨(0<f7 ax ay bx by' px py∧0<f7 ax ay bx by' qx qy):=by
  rcases Classical.em (py=by'∧qy=by') with ⟨rfl,rfl⟩ | c
  ·right
   have w1:f7 ax ay bx qy px qy=(bx-px)*(qy-ay):=by unfold f7;grind
   have w2:f7 ax ay bx qy qx qy=(bx-qx)*(qy-ay):=by unfold f7;grind
   rw[w1] at z1 ⊢
   rw[w2] at z2 ⊢
   have nn:¬(min px qx≤bx∧bx≤max px qx):=by
    intro hh
    rcases Classical.em (px=qx) with hx | hx
    ·have:bx=px:=by omega
     subst this
     simp at z1
    ·rw[a1Y (by unfold f7;grind) hx hh.1 hh.2] at n2
     exact absurd n2 (by decide)
   rcases Int.lt_or_le bx (min px qx) with h | h
   ·left
    exact⟨Int.mul_neg_of_neg_of_pos (by omega) (by omega),Int.mul_neg_of_neg_of_pos (by omega) (by omega)⟩
   ·right
    exact⟨Int.mul_pos (by omega) (by omega),Int.mul_pos (by omega) (by omega)⟩
  ·exact .inl c
 generalize f7 ax ay bx by' px py=a at*
 generalize f7 ax ay bx by' qx qy=b at*
 generalize f7 px py qx qy ax ay=g at*
 generalize f7 px py qx qy bx by'=d at*
 have key:∀a b g d:Int,a*(qy-ay)+g*(by'-ay)=b*(py-ay)→d*(by'-ay)=a*(by'-qy)-b*(by'-py)→a<0→0<b→¬(py=by'∧qy=by')→0<g∧d<0:=by
  intro a b g d I1 I2 ha hb hz
  have q1:=Int.mul_pos hb (show 0<py-ay by omega)
  have q2:=Int.mul_pos (show 0< -a by omega) (show 0<qy-ay by omega)
  have q3:=Int.mul_nonneg (show 0≤ -a by omega) (show 0≤by'-qy by omega)
  have q4:=Int.mul_nonneg (show 0≤b by omega) (show 0≤by'-py by omega)
  refine⟨a8N (b:=by'-ay) (by grind) (by omega),?_⟩
  rcases Int.lt_or_le d 0 with h | h
  ·exact h
  ·have q5:=Int.mul_nonneg h (show 0≤by'-ay by omega)
   rw[Int.neg_mul] at q3
   have e1:a*(by'-qy)=0:=by omega
   have e2:b*(by'-py)=0:=by omega
   have:=Int.mul_eq_zero.mp e1
   have:=Int.mul_eq_zero.mp e2
   omega
 constructor
 ·intro ha
  rcases Int.lt_or_le b 0 with h | h
  ·exact h
  ·have:=key a b g d I1 I2 ha (by omega) (by omega)
   omega
 ·intro hb
  rcases Int.lt_or_le a 0 with h | h
  ·exact h
  ·have:=key (-a) (-b) (-g) (-d) (by grind) (by grind) (by omega) (by omega) (by omega)
   omega
end
theorem c0S{ax ay bx by' px py qx qy:Int}:t4 ax ay bx by' qx qy px py=t4 ax ay bx by' px py qx qy:=by
 rw[Bool.eq_iff_iff,a0J,a0J]
 exact⟨fun⟨k,x,y,h1,h2,h3⟩=>⟨k,x,y,h1,h2,a4o h3⟩,fun⟨k,x,y,h1,h2,h3⟩=>⟨k,x,y,h1,h2,a4o h3⟩⟩
theorem a9T{ax ay bx by' px py qx qy:Int}:t4 bx by' ax ay px py qx qy=t4 ax ay bx by' px py qx qy:=by
 rw[Bool.eq_iff_iff,a0J,a0J]
 exact⟨fun⟨k,x,y,h1,h2,h3⟩=>⟨k,x,y,h1,a4o h2,h3⟩,fun⟨k,x,y,h1,h2,h3⟩=>⟨k,x,y,h1,a4o h2,h3⟩⟩
end Go.Proofs.YtldbejmgalhdaaaGreat
namespace Go.Proofs.YtldbejmgalhdaaaGreat
open Go.RowKit
def cx(r:Rows)(i:Nat):Int:=lg r (i:Int) 0
def cy(r:Rows)(i:Nat):Int:=lg r (i:Int) 1
theorem a7Y{r:Rows}:∀(f i:Nat),plN r f i=true→∀k,i≤k→k<i+f→g9 (cx r k) (cy r k)=true
 | 0,i,_,k,h1,h2=>by omega
 | f+1,i,h,k,h1,h2=>by
   rw[plN,Bool.and_eq_true] at h
   by_cases e:k=i
   ·subst e;exact h.1
   ·exact a7Y f (i+1) h.2 k (by omega) (by omega)
theorem P5{r:Rows}(h:n7 r=true){k:Nat}(hk:k<r.length):g9 (cx r k) (cy r k)=true:=by
 simp only[n7,Bool.and_eq_true] at h
 exact a7Y r.length 0 h.2.1 k (by omega) (by omega)
def crE(r:Rows)(x y:Int)(i:Nat):Bool:=N5 x y (cx r i) (cy r i) (cx r (nxt r.length i)) (cy r (nxt r.length i))
def a3o(r:Rows)(x y:Int):Nat→Nat→Bool
 | 0,_=>false
 | f+1,i=>crE r x y i ^^ a3o r x y f (i+1)
theorem a8y{a b c d e f:Int}(h1:g9 a b=true)(h2:g9 c d=true)(h3:g9 e f=true):A6 [.i a,.i b,.i c,.i d,.i e,.i f]=A5 a b c d e f:=by
 have:s8 [.i a,.i b,.i c,.i d,.i e,.i f]=(g9 a b&&g9 c d&&g9 e f):=rfl
 unfold A6
 rw[this,h1,h2,h3]
 rfl
theorem d5v{a b c d e f:Int}(h1:g9 a b=true)(h2:g9 c d=true)(h3:g9 e f=true):onR [.i a,.i b,.i c,.i d,.i e,.i f]=D5 a b c d e f:=by
 have:s8 [.i a,.i b,.i c,.i d,.i e,.i f]=(g9 a b&&g9 c d&&g9 e f):=rfl
 unfold onR
 rw[this,h1,h2,h3]
 rfl
theorem c6L{r:Rows}(hr:n7 r=true){x y:Int}(hq:g9 x y=true){i:Nat}(hi:i<r.length):a9D r x y i=crE r x y i:=by
 have h1:=P5 hr hi
 have h2:=P5 hr (u0 hi)
 unfold cx cy at h1 h2
 unfold a9D crE N5 cx cy
 rw[a8y h1 h2 hq,a8y h2 h1 hq]
 simp only[A5,d0Y]
theorem d5l{r:Rows}(hr:n7 r=true){x y:Int}(hq:g9 x y=true){i:Nat}(hi:i<r.length):onE r x y i=D5 x y (cx r i) (cy r i) (cx r (nxt r.length i)) (cy r (nxt r.length i)):=
 d5v hq (P5 hr hi) (P5 hr (u0 hi))
def onN(r:Rows)(x y:Int):Nat→Nat→Bool
 | 0,_=>false
 | f+1,i=>D5 x y (cx r i) (cy r i) (cx r (nxt r.length i)) (cy r (nxt r.length i))||onN r x y f (i+1)
theorem a5I{r:Rows}(hr:n7 r=true){x y:Int}(hq:g9 x y=true):∀(f i:Nat) (b:Bool),i+f=r.length→t3 r x y f i b=if onN r x y f i then 0 else if b ^^ a3o r x y f i then 1 else -1
 | 0,i,b,h=>by simp [t3,onN,a3o]
 | f+1,i,b,h=>by
   rw[t3,onN,a3o,a5I hr hq f (i+1) _ (by omega),d5l hr hq (show i<r.length by omega),c6L hr hq (show i<r.length by omega)]
   cases D5 x y (cx r i) (cy r i) (cx r (nxt r.length i)) (cy r (nxt r.length i))<;>simp [Bool.xor_assoc]
theorem b2u{r:Rows}{x y:Int}:∀(f i:Nat),(∀k,i≤k→k<i+f→D5 x y (cx r k) (cy r k) (cx r (nxt r.length k)) (cy r (nxt r.length k))=false)→onN r x y f i=false
 | 0,_,_=>rfl
 | f+1,i,h=>by
   rw[onN,h i (by omega) (by omega),b2u f (i+1) (fun k h1 h2=>h k (by omega) (by omega))];rfl
theorem b4i{a b c d e f r:Int}(h1:g9 a b=true)(h2:g9 c d=true)(h3:g9 e f=true)(hr:0≤r∧r≤3000000):
 L6 [.i a,.i b,.i c,.i d,.i e,.i f,.i r]=B8 a b c d e f r∧R4 [.i a,.i b,.i c,.i d,.i e,.i f,.i r]=0:=by
 have e1:a9i [.i a,.i b,.i c,.i d,.i e,.i f,.i r]=(g9 a b&&g9 c d&&g9 e f&&A8 r):=rfl
 have e2:N1 [.i a,.i b,.i c,.i d,.i e,.i f,.i r]=B8 a b c d e f r:=rfl
 unfold L6 R4
 rw[e1,e2,h1,h2,h3,show A8 r=true by unfold A8;exact decide_eq_true hr]
 exact⟨rfl,rfl⟩
theorem b9L{n i:Nat}(h:i<n):X2 n (nxt n i)=i:=by unfold X2 nxt;split<;>split<;>omega
def C3(f:Nat→Int):Nat→Int | 0=>0 | n+1=>C3 f n+f n
theorem a9a{f g:Nat→Int}:∀(n:Nat),(∀k,k<n→f k=g k)→C3 f n=C3 g n
 | 0,_=>rfl
 | n+1,h=>by rw[C3,C3,a9a n (fun k hk=>h k (by omega)),h n (by omega)]
theorem a2I{f:Nat→Int}:∀(n:Nat),(∀k,k<n→f k=0)→C3 f n=0
 | 0,_=>rfl
 | n+1,h=>by rw[C3,a2I n (fun k hk=>h k (by omega)),h n (by omega)];rfl
theorem a5e{f:Nat→Int}{i:Nat}:∀(n:Nat),i<n→(∀k,k<n→k≠i→f k=0)→C3 f n=f i
 | 0,h,_=>by omega
 | n+1,h,hz=>by
   rw[C3]
   by_cases e:i=n
   ·subst e
    rw[a2I i (fun k hk=>hz k (by omega) (by omega))];omega
   ·rw[a5e n (by omega) (fun k hk hk'=>hz k (by omega) hk'),hz n (by omega) (by omega)];omega
theorem a8u{f:Nat→Int}{i j:Nat}(hij:i≠j):∀(n:Nat),i<n→j<n→(∀k,k<n→k≠i→k≠j→f k=0)→C3 f n=f i+f j
 | 0,h,_,_=>by omega
 | n+1,h1,h2,hz=>by
   rw[C3]
   by_cases e:i=n
   ·subst e
    rw[a5e (i:=j) i (by omega) (fun k hk hk'=>hz k (by omega) (by omega) hk')];omega
   ·by_cases e':j=n
    ·subst e'
     rw[a5e (i:=i) j (by omega) (fun k hk hk'=>hz k (by omega) hk' (by omega))]
    ·rw[a8u hij n (by omega) (by omega) (fun k hk a b=>hz k (by omega) a b),hz n (by omega) (by omega) (by omega)];omega
theorem a4h(f g:Nat→Int):∀n,C3 (fun k=>f k-g k) n=C3 f n-C3 g n
 | 0=>rfl
 | n+1=>by rw[C3,C3,C3,a4h f g n];omega
theorem c6f(g:Nat→Int){n:Nat}(hn:0<n):C3 (fun k=>g (nxt n k)-g k) n=0:=by
 have h:∀m,m+1≤n→C3 (fun k=>g (nxt n k)-g k) m=g m-g 0:=by
  intro m
  induction m with
  | zero=>intro _;simp [C3]
  | succ m ih=>
    intro hm
    rw[C3,ih (by omega),show nxt n m=m+1 by unfold nxt;rw[if_neg (by omega)]];omega
 obtain⟨m,rfl⟩:∃m,n=m+1:=⟨n-1,by omega⟩
 rw[C3,h m (by omega),show nxt (m+1) m=0 by unfold nxt;rw[if_pos rfl]];omega
def sE(qx qy ax ay bx by':Int):Int:=if N5 qx qy ax ay bx by' then(if by'<ay then -1 else 1) else 0
def gE(ax ay bx by' px py:Int):Int:=if ay≤by' then(if gIn ax ay bx by' px py then 1 else 0) else-(if gIn bx by' ax ay px py then 1 else 0)
def upE(ax ay bx by':Int):Int:=if ay<by'∨(ay=by'∧bx<ax) then 1 else 0
theorem b0l(qx qy ax ay bx by':Int):sE qx qy ax ay bx by'= - sE qx qy bx by' ax ay:=by
 unfold sE
 rw[b8N qx qy bx by' ax ay]
 by_cases h:ay=by'
 ·have:N5 qx qy ax ay bx by'=false:=by unfold N5;rw[if_neg (by omega)];exact decide_eq_false (by omega)
  rw[this];rfl
 ·cases N5 qx qy ax ay bx by'
  ·rfl
  ·simp only[if_true]
   by_cases h':by'<ay
   ·rw[if_pos h',if_neg (by omega)]
   ·rw[if_neg h',if_pos (by omega)];rfl
theorem b2C{ax ay bx by' px py qx qy:Int}(hy:ay≤by')(hpq:py≤qy)(hn:t4 ax ay bx by' px py qx qy=false):
 sE ax ay px py qx qy-sE bx by' px py qx qy=gE ax ay bx by' qx qy-gE ax ay bx by' px py:=by
 unfold sE gE N5 gIn
 simp only[if_neg (show ¬qy<py by omega),if_pos hy,decide_eq_true_eq]
 by_cases h1:py≤ay
 ·by_cases h2:ay<qy
  ·by_cases h3:qy≤by'
   ·have:=d7O hn h1 h2 h3
    (repeat' split)<;>omega
   ·have:=d7k hn hy h1 (by omega)
    (repeat' split)<;>omega
  ·(repeat' split)<;>omega
 ·by_cases h2:py≤by'
  ·by_cases h3:by'<qy
   ·have:=d7E hn (by omega) h2 h3
    (repeat' split)<;>omega
   ·have:=d7L hn (by omega) hpq (by omega)
    (repeat' split)<;>omega
  ·(repeat' split)<;>omega
theorem a5X{ax ay bx by' px py qx qy:Int}(hy:ay≤by')(hn:t4 ax ay bx by' px py qx qy=false):
 sE ax ay px py qx qy-sE bx by' px py qx qy=gE ax ay bx by' qx qy-gE ax ay bx by' px py:=by
 rcases Int.le_total py qy with h | h
 ·exact b2C hy h hn
 ·have:=b2C hy h (by rw[c0S];exact hn)
  rw[b0l ax ay px py,b0l bx by' px py];omega
theorem b8V{ax ay bx by' px py:Int}(h:ay≠by'):gE ax ay bx by' px py= - gE bx by' ax ay px py:=by
 unfold gE
 by_cases h':ay≤by'
 ·simp only[if_pos h',if_neg (show ¬by'≤ay by omega)];omega
 ·simp only[if_neg h',if_pos (show by'≤ay by omega)]
theorem b1G{ax ay bx px py:Int}:gE ax ay bx ay px py=0:=by
 unfold gE gIn
 rw[if_pos (by omega),decide_eq_false (by omega)];rfl
theorem a3z{ax ay bx by' px py qx qy:Int}(hn:t4 ax ay bx by' px py qx qy=false):
 sE ax ay px py qx qy-sE bx by' px py qx qy=gE ax ay bx by' qx qy-gE ax ay bx by' px py:=by
 rcases Int.le_total ay by' with h | h
 ·exact a5X h hn
 ·have:=a5X h (by rw[a9T];exact hn)
  by_cases e:ay=by'
  ·subst e
   rw[b1G,b1G] at this ⊢;omega
  ·rw[b8V (ax:=ax) e,b8V (ax:=ax) e];omega
theorem a3C{ax ay bx by' px py:Int}(h:f7 ax ay bx by' px py=0):gE ax ay bx by' px py=0:=by
 have h':f7 bx by' ax ay px py=0:=by unfold f7 at h ⊢;grind
 unfold gE gIn
 rw[h,h',decide_eq_false (by omega),decide_eq_false (by omega)]
 split<;>rfl
theorem a3Z{qx qy ax ay bx by':Int}(h:f7 ax ay bx by' qx qy=0):sE qx qy ax ay bx by'=0:=by
 have h':f7 bx by' ax ay qx qy=0:=by unfold f7 at h ⊢;grind
 unfold sE N5
 rw[h,h',decide_eq_false (p:=by'≤qy∧qy<ay∧(0:Int)<0) (by omega),decide_eq_false (p:=ay≤qy∧qy<by'∧(0:Int)<0) (by omega)]
 split<;>rfl
def tau(ax ay bx by' cx cy:Int):Int:= - gE ax ay bx by' cx cy+sE ax ay bx by' cx cy
theorem T6(ax ay bx by' cx cy:Int):f7 bx by' cx cy ax ay=f7 ax ay bx by' cx cy∧f7 cx cy ax ay bx by'=f7 ax ay bx by' cx cy∧f7 bx by' ax ay cx cy= - f7 ax ay bx by' cx cy∧f7 ax ay cx cy bx by'= - f7 ax ay bx by' cx cy∧f7 cx cy bx by' ax ay= - f7 ax ay bx by' cx cy:=by
 unfold f7
 refine⟨?_,?_,?_,?_,?_⟩<;>grind
theorem a7h(qx qy ax ay bx by':Int):sE qx qy ax ay bx by'=if by'<ay then(if by'≤qy∧qy<ay∧0<f7 bx by' ax ay qx qy then -1 else 0) else(if ay≤qy∧qy<by'∧0<f7 ax ay bx by' qx qy then 1 else 0):=by
 unfold sE N5
 by_cases h:by'<ay
 ·simp only[if_pos h,decide_eq_true_eq]
 ·simp only[if_neg h,decide_eq_true_eq]
theorem I3{u v k:Int}(h:k=u*v):(0<u→0<v→0<k)∧(0<u→v<0→k<0)∧(u<0→0<v→k<0)∧(u<0→v<0→0<k)∧(u=0→k=0)∧(v=0→k=0):=by
 subst h
 exact⟨Int.mul_pos,Int.mul_neg_of_pos_of_neg,Int.mul_neg_of_neg_of_pos,fun h1 h2=>by have:=Int.mul_pos (show 0< -u by omega) (show 0< -v by omega);rw[Int.neg_mul_neg] at this;exact this,fun h=>by rw[h,Int.zero_mul],fun h=>by rw[h,Int.mul_zero]⟩
theorem d5S{ax ay bx by' cx cy:Int}(h:f7 ax ay bx by' cx cy≠0):upE bx by' cx cy-tau cx cy bx by' ax ay=upE ax ay bx by'+tau ax ay bx by' cx cy:=by
 obtain⟨e1,e2,e3,e4,e5⟩:=T6 ax ay bx by' cx cy
 unfold tau gE gIn upE
 simp only[a7h,decide_eq_true_eq,e1,e2,e3,e4,e5]
 have f1:ay=by'→f7 ax ay bx by' cx cy=(bx-ax)*(cy-ay):=fun h=>by unfold f7;grind
 have f2:by'=cy→f7 ax ay bx by' cx cy=(by'-ay)*(bx-cx):=fun h=>by unfold f7;grind
 have f3:ay=cy→f7 ax ay bx by' cx cy=(by'-ay)*(ax-cx):=fun h=>by unfold f7;grind
 clear e1 e2 e3 e4 e5
 generalize f7 ax ay bx by' cx cy=k at*
 rcases Int.lt_trichotomy ay by' with h1 | h1 | h1
 ·rcases Int.lt_trichotomy by' cy with h2 | h2 | h2
  ·clear f1 f2 f3
   grind
  ·have:=I3 (f2 h2)
   clear f1 f2 f3
   grind
  ·rcases Int.lt_trichotomy ay cy with h3 | h3 | h3
   ·clear f1 f2 f3
    grind
   ·have:=I3 (f3 h3)
    clear f1 f2 f3
    grind
   ·clear f1 f2 f3
    grind
 ·have:=I3 (f1 h1)
  clear f1 f2 f3
  grind
 ·rcases Int.lt_trichotomy by' cy with h2 | h2 | h2
  ·rcases Int.lt_trichotomy ay cy with h3 | h3 | h3
   ·clear f1 f2 f3
    grind
   ·have:=I3 (f3 h3)
    clear f1 f2 f3
    grind
   ·clear f1 f2 f3
    grind
  ·have:=I3 (f2 h2)
   clear f1 f2 f3
   grind
  ·clear f1 f2 f3
   grind
theorem T1{k u s v:Int}(hk:0<k)(hs:0<s)(h:k*u=s*v):(0<u↔0<v)∧(u<0↔v<0):=by
 have p1:0<u→0<k*u:=Int.mul_pos hk
 have p2:0<v→0<s*v:=Int.mul_pos hs
 have n1:u<0→k*u<0:=Int.mul_neg_of_pos_of_neg hk
 have n2:v<0→s*v<0:=Int.mul_neg_of_pos_of_neg hs
 have z1:u=0→k*u=0:=fun e=>by rw[e,Int.mul_zero]
 have z2:v=0→s*v=0:=fun e=>by rw[e,Int.mul_zero]
 omega
theorem a2h{ax ay bx by' cx cy dx dy:Int}(h:(0<f7 cx cy dx dy ax ay∧0<f7 cx cy dx dy bx by')∨(f7 cx cy dx dy ax ay<0∧f7 cx cy dx dy bx by'<0)):t4 ax ay bx by' cx cy dx dy=false:=by
 cases hm:t4 ax ay bx by' cx cy dx dy with
 | false=>rfl
 | true=>
   obtain⟨k,x,y,hk,⟨s,s0,s1,e1,e2⟩,t,t0,t1,f1,f2⟩:=U6 hm
   have E:(k-s)*f7 cx cy dx dy ax ay+s*f7 cx cy dx dy bx by'=0:=by unfold f7;grind
   generalize f7 cx cy dx dy ax ay=g at*
   generalize f7 cx cy dx dy bx by'=d at*
   rcases h with ⟨h1,h2⟩ | ⟨h1,h2⟩
   ·have q1:=Int.mul_nonneg (show 0≤k-s by omega) (show 0≤g by omega)
    have q2:=Int.mul_nonneg s0 (show 0≤d by omega)
    have z1:(k-s)*g=0:=by omega
    have z2:s*d=0:=by omega
    have:=Int.mul_eq_zero.mp z1
    have:=Int.mul_eq_zero.mp z2
    omega
   ·have q1:=Int.mul_nonneg (show 0≤k-s by omega) (show 0≤ -g by omega)
    have q2:=Int.mul_nonneg s0 (show 0≤ -d by omega)
    rw[Int.mul_neg] at q1 q2
    have z1:(k-s)*g=0:=by omega
    have z2:s*d=0:=by omega
    have:=Int.mul_eq_zero.mp z1
    have:=Int.mul_eq_zero.mp z2
    omega
def On'(k s ax ay bx by' x y:Int):Prop:=k*x=k*ax+s*(bx-ax)∧k*y=k*ay+s*(by'-ay)
theorem c6u{k s ax ay bx by' x y:Int}(h:On' k s ax ay bx by' x y):On' k (k-s) bx by' ax ay x y:=by
 obtain⟨h1,h2⟩:=h
 exact⟨by grind,by grind⟩
theorem b2H{k s ax ay bx by' cx cy x y:Int}(hk:0<k)(hs:0≤s)(hsk:s<k)(ho:On' k s ax ay bx by' x y)(hc:f7 ax ay bx by' cx cy≠0):tau x y bx by' cx cy=tau ax ay bx by' cx cy:=by
 obtain⟨ex,ey⟩:=ho
 obtain⟨c1,c2,c3,c4,c5⟩:=T6 ax ay bx by' cx cy
 obtain⟨d1,d2,d3,d4,d5⟩:=T6 x y bx by' cx cy
 obtain⟨b1,b2,b3,b4,b5⟩:=T6 ax ay x y cx cy
 have k1:k*f7 x y bx by' cx cy=(k-s)*f7 ax ay bx by' cx cy:=by unfold f7;grind
 have k2:k*f7 ax ay x y cx cy=s*f7 ax ay bx by' cx cy:=by unfold f7;grind
 have k3:f7 ax ay x y bx by'=0:=by
  have:k*f7 ax ay x y bx by'=0:=by unfold f7;grind
  rcases Int.mul_eq_zero.mp this with h | h
  ·omega
  ·exact h
 have s1:=T1 hk (show 0<k-s by omega) k1
 have hn:t4 ax ay x y bx by' cx cy=false:=a2h (by rw[c1,d1];omega)
 have h1:=a3z hn
 rw[a3C k3] at h1
 have h2:gE ax ay bx by' cx cy=gE ax ay x y cx cy+gE x y bx by' cx cy:=by
  by_cases hs0:s=0
  ·subst hs0
   have:x=ax∧y=ay:=by
    constructor
    ·exact Int.eq_of_mul_eq_mul_left (show k≠0 by omega) (by grind)
    ·exact Int.eq_of_mul_eq_mul_left (show k≠0 by omega) (by grind)
   obtain⟨rfl,rfl⟩:=this
   rw[b1G];omega
  ·have s2:=T1 hk (show 0<s by omega) k2
   have y1:=T1 (k:=k) (u:=y-ay) (s:=s) (v:=by'-ay) hk (by omega) (by grind)
   have y2:=T1 (k:=k) (u:=by'-y) (s:=k-s) (v:=by'-ay) hk (by omega) (by grind)
   unfold gE gIn
   simp only[decide_eq_true_eq,c3,d3,b3]
   generalize f7 ax ay bx by' cx cy=u at*
   generalize f7 x y bx by' cx cy=v at*
   generalize f7 ax ay x y cx cy=w at*
   clear ex ey k1 k2 k3 hn h1 c1 c2 c3 c4 c5 d1 d2 d3 d4 d5 b1 b2 b3 b4 b5
   (repeat' split)<;>omega
 unfold tau
 omega
section
variable (X Y:Nat→Int) (n:Nat)
def F8(qx qy:Int):Int:=C3 (fun k=>sE qx qy (X k) (Y k) (X (nxt n k)) (Y (nxt n k))) n
structure Simple:Prop where
 three:3≤n
 apart:∀i k,i<n→k<n→k≠i→k≠nxt n i→i≠nxt n k→t4 (X i) (Y i) (X (nxt n i)) (Y (nxt n i)) (X k) (Y k) (X (nxt n k)) (Y (nxt n k))=false
 bend:∀i,i<n→f7 (X i) (Y i) (X (nxt n i)) (Y (nxt n i)) (X (nxt n (nxt n i))) (Y (nxt n (nxt n i)))≠0
end
section
variable {X Y:Nat→Int} {n:Nat}
theorem c7m{i:Nat}(hn:3≤n)(hi:i<n):nxt n i≠i∧nxt n (nxt n i)≠i:=by unfold nxt;split<;>split<;>omega
theorem d2R{i k:Nat}(hi:i<n)(hk:k<n)(h:nxt n i=nxt n k):i=k:=by unfold nxt at h;split at h<;>split at h<;>omega
theorem b2M{x y vx vy:Int}(hn:0<n):F8 X Y n x y-F8 X Y n vx vy=
 C3 (fun k=>(sE x y (X k) (Y k) (X (nxt n k)) (Y (nxt n k))-sE vx vy (X k) (Y k) (X (nxt n k)) (Y (nxt n k)))-(gE x y vx vy (X (nxt n k)) (Y (nxt n k))-gE x y vx vy (X k) (Y k))) n:=by
 rw[a4h,a4h,c6f (fun k=>gE x y vx vy (X k) (Y k)) hn]
 unfold F8;omega
theorem U7{a b c d:Int}:f7 a b c d a b=0∧f7 a b c d c d=0∧f7 a b a b c d=0:=by unfold f7;refine⟨?_,?_,?_⟩<;>grind
theorem b6T{k s ax ay bx by' x y:Int}(hk:0<k)(ho:On' k s ax ay bx by' x y):f7 ax ay bx by' x y=0∧f7 x y bx by' ax ay=0∧f7 x y ax ay bx by'=0:=by
 obtain⟨ex,ey⟩:=ho
 have z:∀u:Int,k*u=0→u=0:=fun u h=>by
  rcases Int.mul_eq_zero.mp h with h | h
  ·omega
  ·exact h
 refine⟨z _ ?_,z _ ?_,z _ ?_⟩<;>(unfold f7;grind)
theorem c5A{k s ax ay bx by' x y:Int}(hs:0≤s)(hsk:s≤k)(ho:On' k s ax ay bx by' x y):Seg ax ay bx by' k (k*x) (k*y):=⟨s,hs,hsk,ho.1,ho.2⟩
theorem b2W{ax ay bx by' x y px py qx qy k s:Int}(hk:0<k)(hs:0≤s)(hsk:s≤k)(ho:On' k s ax ay bx by' x y)(hm:t4 ax ay bx by' px py qx qy=false):t4 x y bx by' px py qx qy=false:=by
 cases h:t4 x y bx by' px py qx qy with
 | false=>rfl
 | true=>
   obtain⟨m,u,v,hm0,⟨t,t0,t1,e1,e2⟩,h2⟩:=U6 h
   obtain⟨o1,o2⟩:=ho
   have:t4 ax ay bx by' px py qx qy=true:=by
    refine U3 ⟨m*k,u*k,v*k,Int.mul_pos hm0 hk,⟨(m-t)*s+t*k,?_,?_,?_,?_⟩,a5G h2 (by omega)⟩
    ·exact Int.add_nonneg (Int.mul_nonneg (by omega) hs) (Int.mul_nonneg t0 (by omega))
    ·have:=Int.mul_le_mul_of_nonneg_left hsk (show 0≤m-t by omega)
     grind
    ·grind
    ·grind
   rw[this] at hm
   exact absurd hm (by decide)
theorem c9Q(hp:Simple X Y n){j:Nat}(hj:j<n){k s x y:Int}(hs:0<s)(hsk:s<k)(ho:On' k s (X j) (Y j) (X (nxt n j)) (Y (nxt n j)) x y):
 F8 X Y n x y=F8 X Y n (X (nxt n j)) (Y (nxt n j))+tau x y (X (nxt n j)) (Y (nxt n j)) (X (nxt n (nxt n j))) (Y (nxt n (nxt n j))):=by
 have hn:=hp.three
 have hj':=u0 hj
 obtain⟨z1,z2,z3⟩:=b6T (by omega) ho
 have hd:=b2M (X:=X) (Y:=Y) (n:=n) (x:=x) (y:=y) (vx:=X (nxt n j)) (vy:=Y (nxt n j)) (by omega)
 rw[a8u (i:=j) (j:=nxt n j) (by have:=c7m hn hj;omega) n hj hj'] at hd
 ·rw[a3Z z1,a3Z U7.2.1,a3C U7.2.1,a3C z2,a3Z U7.1] at hd
  unfold tau
  omega
 ·intro i hi n1 n2
  have hm:t4 x y (X (nxt n j)) (Y (nxt n j)) (X i) (Y i) (X (nxt n i)) (Y (nxt n i))=false:=by
   by_cases hpr:nxt n i=j
   ·have hb:=hp.bend i hi
    rw[hpr] at hb ⊢
    refine a2h ?_
    have e:k*f7 (X i) (Y i) (X j) (Y j) x y=s*f7 (X i) (Y i) (X j) (Y j) (X (nxt n j)) (Y (nxt n j)):=by
     obtain⟨o1,o2⟩:=ho
     unfold f7;grind
    have:=T1 (by omega) hs e
    omega
   ·exact b2W (by omega) (by omega) (by omega) ho (hp.apart j i hj hi n1 n2 (fun h=>hpr h.symm))
  have:=a3z hm
  omega
theorem c1I(hp:Simple X Y n){j p:Nat}(hj:j<n)(hpn:p<n)(hpj:nxt n p=j){k s x y:Int}(hs:0<s)(hsk:s<k)(ho:On' k s (X j) (Y j) (X (nxt n j)) (Y (nxt n j)) x y):
 F8 X Y n x y=F8 X Y n (X j) (Y j)-tau x y (X j) (Y j) (X p) (Y p):=by
 have hn:=hp.three
 have hj':=u0 hj
 obtain⟨z1,z2,z3⟩:=b6T (by omega) ho
 have hne:=c7m hn hpn
 rw[hpj] at hne
 have hd:=b2M (X:=X) (Y:=Y) (n:=n) (x:=x) (y:=y) (vx:=X j) (vy:=Y j) (by omega)
 rw[a8u (i:=j) (j:=p) hne.1 n hj hpn] at hd
 ·have z4:f7 x y (X j) (Y j) (X j) (Y j)=0:=U7.2.1
  rw[a3Z z1,a3Z U7.1,a3C z4,a3C z3,hpj,a3C z4,a3Z (qx:=X j) (qy:=Y j) U7.2.1] at hd
  unfold tau
  rw[b0l x y (X j) (Y j) (X p) (Y p)]
  omega
 ·intro i hi n1 n2
  have hm:t4 x y (X j) (Y j) (X i) (Y i) (X (nxt n i)) (Y (nxt n i))=false:=by
   by_cases hnx:i=nxt n j
   ·have hb:=hp.bend j hj
    subst hnx
    refine a2h ?_
    have e:k*f7 (X (nxt n j)) (Y (nxt n j)) (X (nxt n (nxt n j))) (Y (nxt n (nxt n j))) x y=(k-s)*f7 (X (nxt n j)) (Y (nxt n j)) (X (nxt n (nxt n j))) (Y (nxt n (nxt n j))) (X j) (Y j):=by
     obtain⟨o1,o2⟩:=ho
     unfold f7;grind
    have:=T1 (by omega) (show 0<k-s by omega) e
    have hc:=T6 (X j) (Y j) (X (nxt n j)) (Y (nxt n j)) (X (nxt n (nxt n j))) (Y (nxt n (nxt n j)))
    omega
   ·have h1:¬(j=nxt n i):=fun h=>n2 (d2R hi hpn (by rw[hpj];exact h.symm))
    exact b2W (by omega) (by omega) (by omega) (c6u ho) (by rw[a9T];exact hp.apart j i hj hi n1 hnx h1)
  have:=a3z hm
  omega
def a8G(X Y:Nat→Int)(n i:Nat):Int:=F8 X Y n (X (nxt n i)) (Y (nxt n i))+upE (X i) (Y i) (X (nxt n i)) (Y (nxt n i))+tau (X i) (Y i) (X (nxt n i)) (Y (nxt n i)) (X (nxt n (nxt n i))) (Y (nxt n (nxt n i)))
theorem a5t(hp:Simple X Y n){j:Nat}(hj:j<n){k s x y:Int}(hs:0<s)(hsk:s<k)(ho:On' k s (X j) (Y j) (X (nxt n j)) (Y (nxt n j)) x y):F8 X Y n x y+upE (X j) (Y j) (X (nxt n j)) (Y (nxt n j))=a8G X Y n j:=by
 have h1:=c9Q hp hj hs hsk ho
 have h2:=b2H (by omega) (by omega) hsk ho (hp.bend j hj)
 unfold a8G
 omega
theorem c5V(hp:Simple X Y n)(he:∀k,k<n→2∣X k∧2∣Y k){i:Nat}(hi:i<n):a8G X Y n i=a8G X Y n (nxt n i):=by
 have hj:=u0 hi
 have hl:=u0 hj
 obtain⟨a,ha⟩:=(he _ hj).1
 obtain⟨b,hb⟩:=(he _ hj).2
 obtain⟨c,hc⟩:=(he _ hl).1
 obtain⟨d,hd⟩:=(he _ hl).2
 have ho:On' 2 1 (X (nxt n i)) (Y (nxt n i)) (X (nxt n (nxt n i))) (Y (nxt n (nxt n i))) (a+c) (b+d):=⟨by omega,by omega⟩
 have h1:=a5t hp hj (by omega) (by omega) ho
 have h2:=c1I hp hj hi rfl (by omega) (by omega) ho
 have hbend:=hp.bend i hi
 have hc':=T6 (X i) (Y i) (X (nxt n i)) (Y (nxt n i)) (X (nxt n (nxt n i))) (Y (nxt n (nxt n i)))
 have h3:=b2H (cx:=X i) (cy:=Y i) (by omega) (by omega) (by omega) (c6u ho) (by omega)
 have h4:=d5S hbend
 unfold a8G at h1 ⊢
 omega
theorem a4m(hp:Simple X Y n)(he:∀k,k<n→2∣X k∧2∣Y k):∀i,i<n→a8G X Y n i=a8G X Y n 0
 | 0,_=>rfl
 | i+1,h=>by
   have:=c5V hp he (show i<n by omega)
   rw[show nxt n i=i+1 by unfold nxt;rw[if_neg (by omega)]] at this
   rw[←this,a4m hp he i (by omega)]
end
end Go.Proofs.YtldbejmgalhdaaaGreat
namespace Go.Proofs.YtldbejmgalhdaaaGreat
open Go.RowKit
theorem a4O(P:Nat→Prop)(f:Nat→Int):∀n,(∃k,k<n∧P k)→∃k,k<n∧P k∧∀i,i<n→P i→f k≤f i
 | 0,h=>by obtain⟨k,hk,_⟩:=h;omega
 | n+1,h=>by
   by_cases h':∃k,k<n∧P k
   ·obtain⟨k,hk,hp,hm⟩:=a4O P f n h'
    by_cases hn:P n∧f n<f k
    ·refine⟨n,by omega,hn.1,fun i hi hpi=> ?_⟩
     by_cases e:i=n
     ·subst e;exact Int.le_refl _
     ·have:=hm i (by omega) hpi;omega
    ·refine⟨k,by omega,hp,fun i hi hpi=> ?_⟩
     by_cases e:i=n
     ·subst e
      rcases Int.lt_or_le (f i) (f k) with q | q
      ·exact absurd ⟨hpi,q⟩ hn
      ·exact q
     ·exact hm i (by omega) hpi
   ·obtain⟨k,hk,hp⟩:=h
    have e:k=n:=by
     by_cases e:k=n
     ·exact e
     ·exact absurd ⟨k,by omega,hp⟩ h'
    subst e
    refine⟨k,by omega,hp,fun i hi hpi=> ?_⟩
    by_cases e:i=k
    ·subst e;exact Int.le_refl _
    ·exact absurd ⟨i,by omega,hpi⟩ h'
section
variable {X Y:Nat→Int} {n:Nat}
def Cr(Y:Nat→Int)(n:Nat)(h:Int)(k:Nat):Prop:=(Y k<h∧h<Y (nxt n k))∨(Y (nxt n k)<h∧h<Y k)
theorem a9V{h x:Int}{k:Nat}(hc:Cr Y n h k)(hx:f7 (X k) (Y k) (X (nxt n k)) (Y (nxt n k)) x h=0):∃m s,0<s∧s<m∧On' m s (X k) (Y k) (X (nxt n k)) (Y (nxt n k)) x h:=by
 unfold f7 at hx
 rcases hc with hc | hc
 ·exact⟨Y (nxt n k)-Y k,h-Y k,by omega,by omega,by grind,by grind⟩
 ·exact⟨Y k-Y (nxt n k),Y k-h,by omega,by omega,by grind,by grind⟩
theorem c9I{h x q:Int}{k:Nat}(hc:Cr Y n h k)(hx:f7 (X k) (Y k) (X (nxt n k)) (Y (nxt n k)) x h=0):
 sE q h (X k) (Y k) (X (nxt n k)) (Y (nxt n k))=if q<x then(if Y (nxt n k)<Y k then -1 else 1) else 0:=by
 rw[a7h]
 rcases hc with hc | hc
 ·have e:f7 (X k) (Y k) (X (nxt n k)) (Y (nxt n k)) q h=(Y (nxt n k)-Y k)*(x-q):=by unfold f7 at hx ⊢;grind
  have hs:=I3 e
  rw[if_neg (show ¬Y (nxt n k)<Y k by omega),if_neg (show ¬Y (nxt n k)<Y k by omega)]
  generalize f7 (X k) (Y k) (X (nxt n k)) (Y (nxt n k)) q h=u at*
  (repeat' split)<;>omega
 ·have e:f7 (X (nxt n k)) (Y (nxt n k)) (X k) (Y k) q h=(Y k-Y (nxt n k))*(x-q):=by unfold f7 at hx ⊢;grind
  have hs:=I3 e
  rw[if_pos (show Y (nxt n k)<Y k by omega),if_pos (show Y (nxt n k)<Y k by omega)]
  generalize f7 (X (nxt n k)) (Y (nxt n k)) (X k) (Y k) q h=u at*
  (repeat' split)<;>omega
theorem d6Y{h q:Int}{k:Nat}(hg:Y k≠h∧Y (nxt n k)≠h)(hc:¬Cr Y n h k):sE q h (X k) (Y k) (X (nxt n k)) (Y (nxt n k))=0:=by
 rw[a7h]
 unfold Cr at hc
 (repeat' split)<;>omega
theorem d7q(hp:Simple X Y n){h x:Int}{j k:Nat}(hj:j<n)(hk:k<n)(hjk:k≠j)(cj:Cr Y n h j)(ck:Cr Y n h k)
 (xj:f7 (X j) (Y j) (X (nxt n j)) (Y (nxt n j)) x h=0) (xk:f7 (X k) (Y k) (X (nxt n k)) (Y (nxt n k)) x h=0):False:=by
 have adj:∀ {a b:Nat},a<n→nxt n a=b→Cr Y n h a→f7 (X a) (Y a) (X (nxt n a)) (Y (nxt n a)) x h=0→f7 (X b) (Y b) (X (nxt n b)) (Y (nxt n b)) x h=0→False:=by
  intro a b ha hab ca xa xb
  obtain⟨m,s,s0,s1,o1,o2⟩:=a9V ca xa
  have hb:=hp.bend a ha
  subst hab
  have e:m*f7 (X (nxt n a)) (Y (nxt n a)) (X (nxt n (nxt n a))) (Y (nxt n (nxt n a))) x h=(m-s)*f7 (X (nxt n a)) (Y (nxt n a)) (X (nxt n (nxt n a))) (Y (nxt n (nxt n a))) (X a) (Y a):=by unfold f7;grind
  have hc:=T6 (X a) (Y a) (X (nxt n a)) (Y (nxt n a)) (X (nxt n (nxt n a))) (Y (nxt n (nxt n a)))
  have hs:=T1 (by omega) (show 0<m-s by omega) e
  omega
 by_cases h1:k=nxt n j
 ·exact adj hj h1.symm cj xj xk
 by_cases h2:j=nxt n k
 ·exact adj hk h2.symm ck xk xj
 have hm:=hp.apart j k hj hk hjk h1 h2
 obtain⟨m,s,s0,s1,o⟩:=a9V cj xj
 obtain⟨m',s',s0',s1',o'⟩:=a9V ck xk
 have g1:=a5G (m:=m') (c5A (by omega) (by omega) o) (by omega)
 have g2:=a5G (m:=m) (c5A (by omega) (by omega) o') (by omega)
 have:t4 (X j) (Y j) (X (nxt n j)) (Y (nxt n j)) (X k) (Y k) (X (nxt n k)) (Y (nxt n k))=true:=by
  refine U3 ⟨m*m',m*x*m',m*h*m',Int.mul_pos (by omega) (by omega),g1,?_⟩
  rw[show m'*m=m*m' by grind,show m'*x*m=m*x*m' by grind,show m'*h*m=m*h*m' by grind] at g2
  exact g2
 rw[this] at hm
 exact absurd hm (by decide)
theorem c4x(hp:Simple X Y n)(he:∀k,k<n→2∣X k∧2∣Y k){q h:Int}(hg:∀k,k<n→Y k≠h)(xs:Nat→Int)(hx:∀k,k<n→Cr Y n h k→f7 (X k) (Y k) (X (nxt n k)) (Y (nxt n k)) (xs k) h=0):
 -1≤F8 X Y n q h∧F8 X Y n q h≤1:=by
 have hS:∀ {p:Int} {k:Nat},k<n→Cr Y n h k→sE p h (X k) (Y k) (X (nxt n k)) (Y (nxt n k))=if p<xs k then(if Y (nxt n k)<Y k then -1 else 1) else 0:=fun hk hc=>c9I hc (hx _ hk hc)
 have hN:∀ {p:Int} {k:Nat},k<n→¬Cr Y n h k→sE p h (X k) (Y k) (X (nxt n k)) (Y (nxt n k))=0:=fun hk hc=>d6Y ⟨hg _ hk,hg _ (u0 hk)⟩ hc
 by_cases hex:∃k,k<n∧(Cr Y n h k∧q<xs k)
 ·obtain⟨i,hi,⟨ci,qi⟩,mi⟩:=a4O (fun k=>Cr Y n h k∧q<xs k) xs n hex
  obtain⟨m,hm,⟨cm,qm⟩,mm⟩:=a4O (fun k=>Cr Y n h k∧q<xs k) (fun k=> - xs k) n hex
  have e1:F8 X Y n q h-F8 X Y n (xs i) h=if Y (nxt n i)<Y i then -1 else 1:=by
   unfold F8
   rw[←a4h,a5e (i:=i) n hi]
   ·rw[hS hi ci,hS hi ci,if_pos qi,if_neg (show ¬xs i<xs i by omega)];omega
   ·intro k hk hki
    by_cases ck:Cr Y n h k
    ·rw[hS hk ck,hS hk ck]
     have hne:xs k≠xs i:=fun e=>d7q hp hi hk hki ci ck (hx i hi ci) (by rw[←e];exact hx k hk ck)
     by_cases c1:q<xs k
     ·have:=mi k hk ⟨ck,c1⟩
      rw[if_pos c1,if_pos (show xs i<xs k by omega)];omega
     ·rw[if_neg c1,if_neg (show ¬xs i<xs k by omega)];rfl
    ·rw[hN hk ck,hN hk ck];rfl
  have e2:F8 X Y n (xs m) h=0:=by
   refine a2I n (fun k hk=> ?_)
   by_cases ck:Cr Y n h k
   ·rw[hS hk ck]
    by_cases c1:q<xs k
    ·have:=mm k hk ⟨ck,c1⟩
     rw[if_neg (by omega)]
    ·rw[if_neg (by omega)]
   ·exact hN hk ck
  obtain⟨a,s,s0,s1,o⟩:=a9V ci (hx i hi ci)
  obtain⟨a',s',s0',s1',o'⟩:=a9V cm (hx m hm cm)
  have w1:=a5t hp hi s0 s1 o
  have w2:=a5t hp hm s0' s1' o'
  rw[a4m hp he i hi] at w1
  rw[a4m hp he m hm] at w2
  have hu:∀k,Cr Y n h k→upE (X k) (Y k) (X (nxt n k)) (Y (nxt n k))=if Y (nxt n k)<Y k then 0 else 1:=fun k hc=>by
   unfold Cr at hc
   unfold upE
   rcases hc with hc | hc
   ·rw[if_pos (by omega),if_neg (by omega)]
   ·rw[if_neg (by omega),if_pos (by omega)]
  rw[hu i ci] at w1
  rw[hu m cm] at w2
  clear hu hS hN hex mi mm
  by_cases di:Y (nxt n i)<Y i
  ·rw[if_pos di] at e1 w1
   by_cases dm:Y (nxt n m)<Y m
   ·rw[if_pos dm] at w2;omega
   ·rw[if_neg dm] at w2;omega
  ·rw[if_neg di] at e1 w1
   by_cases dm:Y (nxt n m)<Y m
   ·rw[if_pos dm] at w2;omega
   ·rw[if_neg dm] at w2;omega
 ·have:F8 X Y n q h=0:=by
   refine a2I n (fun k hk=> ?_)
   by_cases ck:Cr Y n h k
   ·rw[hS hk ck,if_neg (fun c=>hex ⟨k,hk,ck,c⟩)]
   ·exact hN hk ck
  omega
def b0b(f:Nat→Int):Nat→Int | 0=>1 | n+1=>b0b f n*f n
theorem b2Q{f:Nat→Int}(h:∀k,0<f k):∀n,0<b0b f n
 | 0=>by show(0:Int)<1;decide
 | n+1=>Int.mul_pos (b2Q h n) (h n)
theorem b3p{f:Nat→Int}:∀n k,k<n→f k∣b0b f n
 | 0,k,h=>by omega
 | n+1,k,h=>by
   rw[b0b]
   by_cases e:k=n
   ·subst e;exact Int.dvd_mul_left _ _
   ·exact Int.dvd_trans (b3p n k (by omega)) (Int.dvd_mul_right _ _)
theorem b5n{M:Int}(hM:0<M){ax ay bx by' cx cy dx dy:Int}(h:t4 (M*ax) (M*ay) (M*bx) (M*by') (M*cx) (M*cy) (M*dx) (M*dy)=true):t4 ax ay bx by' cx cy dx dy=true:=by
 obtain⟨k,x,y,hk,⟨s,s0,s1,e1,e2⟩,t,t0,t1,f1,f2⟩:=U6 h
 refine U3 ⟨k,_,_,hk,⟨s,s0,s1,rfl,rfl⟩,t,t0,t1,?_,?_⟩
 ·exact Int.eq_of_mul_eq_mul_left (show M≠0 by omega) (by grind)
 ·exact Int.eq_of_mul_eq_mul_left (show M≠0 by omega) (by grind)
theorem b6e{M:Int}(hM:0<M)(hp:Simple X Y n):Simple (fun k=>M*X k) (fun k=>M*Y k) n where
 three:=hp.three
 apart:=fun i k hi hk h1 h2 h3=>by
  have:=hp.apart i k hi hk h1 h2 h3
  cases h:t4 (M*X i) (M*Y i) (M*X (nxt n i)) (M*Y (nxt n i)) (M*X k) (M*Y k) (M*X (nxt n k)) (M*Y (nxt n k)) with
  | false=>rfl
  | true=>rw[b5n hM h] at this;exact absurd this (by decide)
 bend:=fun i hi=>by
  have:=hp.bend i hi
  have e:f7 (M*X i) (M*Y i) (M*X (nxt n i)) (M*Y (nxt n i)) (M*X (nxt n (nxt n i))) (M*Y (nxt n (nxt n i)))=M*M*f7 (X i) (Y i) (X (nxt n i)) (Y (nxt n i)) (X (nxt n (nxt n i))) (Y (nxt n (nxt n i))):=by unfold f7;grind
  rw[e]
  exact fun h=>(Int.mul_eq_zero.mp h).elim (fun h=>by have:=Int.mul_pos hM hM;omega) this
theorem c3A{K D a q:Int}(hK:2≤K)(hD:0<D):(K*D*a≤K*D*q+D↔a≤q)∧(K*D*q+D<K*D*a↔q<a):=by
 have hM:D<K*D:=by
  have:=Int.mul_le_mul_of_nonneg_right hK (show 0≤D by omega)
  omega
 have p:0<K*D:=by omega
 constructor
 ·constructor
  ·intro h
   rcases Int.lt_or_le q a with c | c
   ·have:=Int.mul_le_mul_of_nonneg_left (show q+1≤a by omega) (show 0≤K*D by omega)
    rw[Int.mul_add] at this;omega
   ·exact c
  ·intro h
   have:=Int.mul_le_mul_of_nonneg_left h (show 0≤K*D by omega)
   omega
 ·constructor
  ·intro h
   rcases Int.lt_or_le q a with c | c
   ·exact c
   ·have:=Int.mul_le_mul_of_nonneg_left c (show 0≤K*D by omega)
    omega
  ·intro h
   have:=Int.mul_le_mul_of_nonneg_left (show q+1≤a by omega) (show 0≤K*D by omega)
   rw[Int.mul_add] at this;omega
theorem a7q{K D ax ay bx by' qx qy:Int}(hK:2≤K)(hD:0<D)(hb: -K<bx-ax∧bx-ax<K)(hc:f7 ax ay bx by' qx qy≠0):
 0<f7 (K*D*ax) (K*D*ay) (K*D*bx) (K*D*by') (K*D*qx) (K*D*qy+D)↔0<f7 ax ay bx by' qx qy:=by
 have e:f7 (K*D*ax) (K*D*ay) (K*D*bx) (K*D*by') (K*D*qx) (K*D*qy+D)=(K*D*D)*(K*f7 ax ay bx by' qx qy+(bx-ax)):=by unfold f7;grind
 have p:0<K*D*D:=Int.mul_pos (Int.mul_pos (by omega) hD) hD
 have hs:=I3 e
 generalize f7 ax ay bx by' qx qy=u at*
 generalize f7 (K*D*ax) (K*D*ay) (K*D*bx) (K*D*by') (K*D*qx) (K*D*qy+D)=v at*
 rcases Int.lt_or_lt_of_ne hc with h | h
 ·have:=Int.mul_le_mul_of_nonneg_left (show u≤ -1 by omega) (show 0≤K by omega)
  omega
 ·have:=Int.mul_le_mul_of_nonneg_left (show 1≤u by omega) (show 0≤K by omega)
  omega
theorem c8F{K D ax ay bx by' qx qy:Int}(hK:2≤K)(hD:0<D)(hb: -K<bx-ax∧bx-ax<K)(hn:D5 qx qy ax ay bx by'=false):
 sE (K*D*qx) (K*D*qy+D) (K*D*ax) (K*D*ay) (K*D*bx) (K*D*by')=sE qx qy ax ay bx by':=by
 have hM:0<K*D:=Int.mul_pos (by omega) hD
 have l1:=c3A (a:=ay) (q:=qy) hK hD
 have l2:=c3A (a:=by') (q:=qy) hK hD
 have e1:K*D*by'<K*D*ay↔by'<ay:=⟨fun h=>Int.lt_of_mul_lt_mul_left h (by omega),fun h=>Int.mul_lt_mul_of_pos_left h hM⟩
 rw[a7h,a7h]
 by_cases h:by'<ay
 ·rw[if_pos h,if_pos (e1.mpr h)]
  by_cases c:by'≤qy∧qy<ay
  ·have hc:f7 bx by' ax ay qx qy≠0:=fun z=>by
    have z':f7 ax ay bx by' qx qy=0:=by unfold f7 at z ⊢;grind
    rw[R1 z' (by omega) (by omega) (by omega)] at hn;exact absurd hn (by decide)
   have:=a7q hK hD (show -K<ax-bx∧ax-bx<K by omega) hc
   by_cases c1:0<f7 bx by' ax ay qx qy
   ·rw[if_pos ⟨by omega,by omega,this.mpr c1⟩,if_pos ⟨c.1,c.2,c1⟩]
   ·rw[if_neg (fun g=>c1 (this.mp g.2.2)),if_neg (fun g=>c1 g.2.2)]
  ·rw[if_neg (fun g=>c ⟨l2.1.mp g.1,l1.2.mp g.2.1⟩),if_neg (fun g=>c ⟨g.1,g.2.1⟩)]
 ·rw[if_neg h,if_neg (fun g=>h (e1.mp g))]
  by_cases c:ay≤qy∧qy<by'
  ·have hc:f7 ax ay bx by' qx qy≠0:=fun z=>by
    rw[R1 z (by omega) (by omega) (by omega)] at hn;exact absurd hn (by decide)
   have:=a7q hK hD hb hc
   by_cases c1:0<f7 ax ay bx by' qx qy
   ·rw[if_pos ⟨by omega,by omega,this.mpr c1⟩,if_pos ⟨c.1,c.2,c1⟩]
   ·rw[if_neg (fun g=>c1 (this.mp g.2.2)),if_neg (fun g=>c1 g.2.2)]
  ·rw[if_neg (fun g=>c ⟨l1.1.mp g.1,l2.2.mp g.2.1⟩),if_neg (fun g=>c ⟨g.1,g.2.1⟩)]
theorem d2I(hp:Simple X Y n){K:Int}(hK:2≤K)(hb:∀i k,i<n→k<n→ -K<X i-X k∧X i-X k<K){qx qy:Int}(hq:∀k,k<n→D5 qx qy (X k) (Y k) (X (nxt n k)) (Y (nxt n k))=false):
 -1≤F8 X Y n qx qy∧F8 X Y n qx qy≤1:=by
 obtain⟨P,hP⟩:∃P,b0b (fun k=>max 1 (max (Y (nxt n k)-Y k) (Y k-Y (nxt n k)))) n=P:=⟨_,rfl⟩
 have hP0:0<P:=by rw[←hP];exact b2Q (fun k=>by omega) n
 have hdv:∀k,k<n→Y (nxt n k)≠Y k→∃e,2*P=(Y (nxt n k)-Y k)*e:=by
  intro k hk hne
  obtain⟨e,he⟩:=b3p (f:=fun k=>max 1 (max (Y (nxt n k)-Y k) (Y k-Y (nxt n k)))) n k hk
  rw[hP] at he
  rcases Int.lt_or_le (Y k) (Y (nxt n k)) with h | h
  ·exact⟨2*e,by rw[he,show max 1 (max (Y (nxt n k)-Y k) (Y k-Y (nxt n k)))=Y (nxt n k)-Y k by omega];grind⟩
  ·exact⟨-(2*e),by rw[he,show max 1 (max (Y (nxt n k)-Y k) (Y k-Y (nxt n k)))=Y k-Y (nxt n k) by omega];grind⟩
 have hD:0<2*P:=by omega
 have hM:0<K*(2*P):=Int.mul_pos (by omega) hD
 have hw:F8 (fun k=>K*(2*P)*X k) (fun k=>K*(2*P)*Y k) n (K*(2*P)*qx) (K*(2*P)*qy+2*P)=F8 X Y n qx qy:=
  a9a n (fun k hk=>c8F hK hD (hb _ _ (u0 hk) hk) (hq k hk))
 rw[←hw]
 have hlev:∀k,K*(2*P)*Y k≠K*(2*P)*qy+2*P:=fun k h=>by
  have h1:=(c3A (a:=Y k) (q:=qy) hK hD).1.mp (by omega)
  have:=Int.mul_le_mul_of_nonneg_left h1 (show 0≤K*(2*P) by omega)
  omega
 have hxs:∀k,∃x,k<n→Cr (fun k=>K*(2*P)*Y k) n (K*(2*P)*qy+2*P) k→f7 (K*(2*P)*X k) (K*(2*P)*Y k) (K*(2*P)*X (nxt n k)) (K*(2*P)*Y (nxt n k)) x (K*(2*P)*qy+2*P)=0:=by
  intro k
  by_cases hk:k<n
  ·by_cases hne:Y (nxt n k)=Y k
   ·refine⟨0,fun _ hc=> ?_⟩
    simp only[Cr,hne] at hc
    omega
   ·obtain⟨e,he⟩:=hdv k hk hne
    refine⟨K*(2*P)*X k+(X (nxt n k)-X k)*e*(K*(qy-Y k)+1),fun _ _=> ?_⟩
    generalize 2*P=D at*
    unfold f7
    grind
  ·exact⟨0,fun h=>absurd h hk⟩
 have hxs':=fun k=>Classical.choose_spec (hxs k)
 exact c4x (b6e hM hp) (fun k _=>⟨⟨K*P*X k,by grind⟩,⟨K*P*Y k,by grind⟩⟩) (fun k _=>hlev k) (fun k=>Classical.choose (hxs k)) (fun k hk hc=>hxs' k hk hc)
end
end Go.Proofs.YtldbejmgalhdaaaGreat
namespace Go.Proofs.YtldbejmgalhdaaaGreat
open Go.RowKit
section
variable {X Y:Nat→Int} {n:Nat}
end
end Go.Proofs.YtldbejmgalhdaaaGreat
namespace Go.Proofs.YtldbejmgalhdaaaGreat
open Go.RowKit
def a1O(a b x y:Int):Bool:=decide (a<x∨(a=x∧b<y))
theorem b0N{r:Rows}:∀(f i:Nat),plN r f i=true↔∀k,i≤k→k<i+f→g9 (lg r (k:Int) 0) (lg r (k:Int) 1)=true
 | 0,i=>⟨fun _ k h1 h2=>by omega,fun _=>rfl⟩
 | f+1,i=>by
   rw[plN,Bool.and_eq_true,b0N f (i+1)]
   constructor
   ·rintro⟨h1,h2⟩ k g1 g2
    by_cases e:k=i
    ·subst e;exact h1
    ·exact h2 k (by omega) (by omega)
   ·intro h
    exact⟨h i (by omega) (by omega),fun k g1 g2=>h k (by omega) (by omega)⟩
theorem a2S{r:Rows}:∀(f i:Nat),Y2 r f i=true↔∀k,i≤k→k<i+f→O0 r k=true
 | 0,i=>⟨fun _ k h1 h2=>by omega,fun _=>rfl⟩
 | f+1,i=>by
   rw[Y2,Bool.and_eq_true,a2S f (i+1)]
   constructor
   ·rintro⟨h1,h2⟩ k g1 g2
    by_cases e:k=i
    ·subst e;exact h1
    ·exact h2 k (by omega) (by omega)
   ·intro h
    exact⟨h i (by omega) (by omega),fun k g1 g2=>h k (by omega) (by omega)⟩
theorem a9d{a b x y:Int}:(0≤a1t a b x y)↔¬a1O a b x y=true:=by
 unfold a1O a1t
 rw[decide_eq_true_eq]
 (repeat' split)<;>omega
theorem a4q{r:Rows}(hpl:∀k:Nat,k<r.length→g9 (lg r k 0) (lg r k 1)=true){i:Nat}(hi:i<r.length):
 O0 r i=true↔(0<i→a1O (lg r 0 0) (lg r 0 1) (lg r i 0) (lg r i 1)=true)∧A5 (lg r (X2 r.length i) 0) (lg r (X2 r.length i) 1) (lg r i 0) (lg r i 1) (lg r (nxt r.length i) 0) (lg r (nxt r.length i) 1)≠0:=by
 unfold O0
 rw[a8y (hpl _ (a9M hi)) (hpl _ hi) (hpl _ (u0 hi))]
 simp only[Bool.and_eq_true,Bool.not_eq_true',Bool.and_eq_false_imp,decide_eq_true_eq,decide_eq_false_iff_not,a9d,Decidable.not_not,ne_eq]
theorem d2P{n i:Nat}(h:i<n):nxt n (X2 n i)=i:=by unfold X2 nxt;split<;>split<;>omega
theorem c6w{ax ay bx by' cx cy dx dy:Int}:t4 cx cy dx dy ax ay bx by'=t4 ax ay bx by' cx cy dx dy:=by
 rw[Bool.eq_iff_iff,a0J,a0J]
 exact⟨fun⟨k,x,y,h1,h2,h3⟩=>⟨k,x,y,h1,h3,h2⟩,fun⟨k,x,y,h1,h2,h3⟩=>⟨k,x,y,h1,h3,h2⟩⟩
theorem b3q{r:Rows}{i:Nat}:∀(f k:Nat),S9 r i f k=true→∀j,k≤j→j<k+f→F0 r i j=true
 | 0,_,_,j,h1,h2=>by omega
 | f+1,k,h,j,h1,h2=>by
   rw[S9,Bool.and_eq_true] at h
   by_cases e:j=k
   ·subst e;exact h.1
   ·exact b3q f (k+1) h.2 j (by omega) (by omega)
theorem a6g{r:Rows}:∀(f i:Nat),o9 r f i=true→∀a,i≤a→a<i+f→∀k,k<r.length→F0 r a k=true
 | 0,_,_,a,h1,h2,_,_=>by omega
 | f+1,i,h,a,h1,h2,k,hk=>by
   rw[o9,Bool.and_eq_true] at h
   by_cases e:a=i
   ·subst e;exact b3q _ 0 h.1 k (by omega) (by omega)
   ·exact a6g f (i+1) h.2 a (by omega) (by omega) k hk
theorem b8M{r:Rows}(hr:n7 r=true):Simple (cx r) (cy r) r.length:=by
 have hl:=O7 hr
 have hpl:∀k:Nat,k<r.length→g9 (lg r k 0) (lg r k 1)=true:=fun k hk=>P5 hr hk
 have h:=hr
 simp only[n7,Bool.and_eq_true] at h
 obtain⟨_,_,hco,hsi,_⟩:=h
 have key:∀i k,i<k→k<r.length→k≠nxt r.length i→i≠nxt r.length k→t4 (cx r i) (cy r i) (cx r (nxt r.length i)) (cy r (nxt r.length i)) (cx r k) (cy r k) (cx r (nxt r.length k)) (cy r (nxt r.length k))=false:=by
  intro i k hik hk h1 h2
  have h:=a6g _ 0 hsi i (by omega) (by omega) k hk
  unfold F0 at h
  have hno:¬(k≤i+1∨(i=0∧k+1=r.length)):=by
   unfold nxt at h1 h2
   split at h1<;>split at h2<;>omega
  rw[decide_eq_false hno,Bool.false_or,Bool.not_eq_true'] at h
  unfold a6B a1P at h
  rw[a0X,hpl i (by omega),hpl _ (u0 (show i<r.length by omega)),hpl k hk,hpl _ (u0 hk),a1N] at h
  exact h
 refine⟨hl.1,fun i k hi hk hki h1 h2=> ?_,fun i hi=> ?_⟩
 ·rcases Nat.lt_or_ge i k with c | c
  ·exact key i k c hk h1 h2
  ·rw[←c6w]
   exact key k i (by omega) hi h2 h1
 ·have hn:=u0 hi
  have:=((a4q hpl hn).mp ((a2S _ _).mp hco _ (by omega) (by omega))).2
  rw[b9L hi] at this
  exact fun z=>this (c1s.mpr z)
theorem c4r{r:Rows}(hr:n7 r=true){x y:Int}(hq:∀k,k<r.length→D5 x y (cx r k) (cy r k) (cx r (nxt r.length k)) (cy r (nxt r.length k))=false): -1≤F8 (cx r) (cy r) r.length x y∧F8 (cx r) (cy r) r.length x y≤1:=
 d2I (b8M hr) (K:=2000001) (by decide) (fun i k hi hk=>by
  have h1:=t9.mp (P5 hr hi)
  have h2:=t9.mp (P5 hr hk)
  omega) hq
theorem b9k{r:Rows}{x y:Int}:∀m,m≤r.length→∀b,(C3 (fun k=>sE x y (cx r k) (cy r k) (cx r (nxt r.length k)) (cy r (nxt r.length k))) m % 2=if b then 1 else 0)→a3o r x y r.length 0=(b ^^ a3o r x y (r.length-m) m)
 | 0,_,b,h=>by
   cases b
   ·simp
   ·simp [C3] at h
 | m+1,hm,b,h=>by
   rw[C3] at h
   have e:a3o r x y (r.length-m) m=(crE r x y m ^^ a3o r x y (r.length-(m+1)) (m+1)):=by
    rw[show r.length-m=(r.length-(m+1))+1 by omega];rfl
   have hs:sE x y (cx r m) (cy r m) (cx r (nxt r.length m)) (cy r (nxt r.length m)) % 2=if crE r x y m then 1 else 0:=by
    unfold sE crE
    cases N5 x y (cx r m) (cy r m) (cx r (nxt r.length m)) (cy r (nxt r.length m))
    ·rfl
    ·simp only[if_true];split<;>rfl
   generalize sE x y (cx r m) (cy r m) (cx r (nxt r.length m)) (cy r (nxt r.length m))=u at*
   have ih:=b9k (r:=r) (x:=x) (y:=y) m (by omega) (b ^^ crE r x y m)
   rw[ih,e]
   ·cases b<;>cases crE r x y m<;>cases a3o r x y (r.length-(m+1)) (m+1)<;>rfl
   ·revert h hs
    cases b<;>cases crE r x y m<;>simp<;>omega
theorem c1m{r:Rows}(hr:n7 r=true){x y:Int}(hq:g9 x y=true)(hon:∀k,k<r.length→D5 x y (cx r k) (cy r k) (cx r (nxt r.length k)) (cy r (nxt r.length k))=false):
 t3 r x y r.length 0 false=if F8 (cx r) (cy r) r.length x y=0 then -1 else 1:=by
 have hw:=c4r hr hon
 rw[a5I hr hq _ _ _ (by omega),b2u _ _ (fun k _ hk=>hon k (by omega))]
 have hp:=b9k (r:=r) (x:=x) (y:=y) r.length (by omega)
 have ew:C3 (fun k=>sE x y (cx r k) (cy r k) (cx r (nxt r.length k)) (cy r (nxt r.length k))) r.length=F8 (cx r) (cy r) r.length x y:=rfl
 rw[ew,Nat.sub_self] at hp
 simp only[a3o,Bool.xor_false,Bool.false_eq_true,if_false,Bool.false_xor] at hp ⊢
 by_cases h0:F8 (cx r) (cy r) r.length x y=0
 ·rw[hp false (by rw[h0];rfl),if_pos h0];rfl
 ·rw[hp true (by rw[if_pos rfl];omega),if_neg h0];rfl
def A7(x y:Int):Bool:=decide ((-1000000≤x∧x≤1000000)∧(-1000000≤y∧y≤1000000)∧¬(x=0∧y=0))
theorem a0B{x y:Int}:A7 x y=true↔(-1000000≤x∧x≤1000000)∧(-1000000≤y∧y≤1000000)∧¬(x=0∧y=0):=by unfold A7;exact decide_eq_true_iff
def E4(a b c d:Int):Int:=a*d-b*c
def S8(a b c d:Int):Prop:=E4 a b c d=0∧0<a*c+b*d
instance (a b c d:Int):Decidable (S8 a b c d):=by unfold S8;infer_instance
def b4Y(a b c d x y:Int):Prop:=S8 a b c d∨S8 a b x y∨(¬S8 c d x y∧(if 0<E4 a b x y then(0<E4 x y c d∨E4 a b c d≤0) else(0<E4 x y c d∧E4 a b c d<0)))
instance (a b c d x y:Int):Decidable (b4Y a b c d x y):=by unfold b4Y;infer_instance
theorem b0W{a b c d:Int}(h1:A7 a b=true)(h2:A7 c d=true):a5F a b c d=E4 a b c d:=by
 rw[a0B] at h1 h2
 have m1:=N7 (a:=a) (b:=d) (A:=1000000) (B:=1000000) (by omega) (by omega) (by omega) (by omega)
 have m2:=N7 (a:=b) (b:=c) (A:=1000000) (B:=1000000) (by omega) (by omega) (by omega) (by omega)
 unfold a5F E4
 rw[f8 (a*d) (by omega) (by omega),f8 (b*c) (by omega) (by omega),f8 _ (by omega) (by omega)]
def y4(x y:Int):Int:=1000001*y+x
theorem N6{x y:Int}(h:A7 x y=true):(0<y4 x y↔(0<y∨(y=0∧0<x)))∧y4 x y≠0:=by
 rw[a0B] at h
 unfold y4
 omega
theorem c9g{a b c d:Int}(h1:A7 a b=true)(h2:A7 c d=true):u6 a b c d= -1↔(0<y4 a b∧y4 c d<0)∨(((0<y4 a b∧0<y4 c d)∨(y4 a b<0∧y4 c d<0))∧0<E4 a b c d):=by
 have l1:=N6 h1
 have l2:=N6 h2
 unfold u6
 rw[b0W h1 h2]
 generalize E4 a b c d=k
 (repeat' split)<;>omega
theorem c7X{a b c d:Int}(h1:A7 a b=true)(h2:A7 c d=true):(u6 a b c d=1∨¬u6 a b c d≤0)↔(y4 a b<0∧0<y4 c d)∨(((0<y4 a b∧0<y4 c d)∨(y4 a b<0∧y4 c d<0))∧E4 a b c d<0):=by
 have l1:=N6 h1
 have l2:=N6 h2
 unfold u6
 rw[b0W h1 h2]
 generalize E4 a b c d=k
 (repeat' split)<;>omega
theorem b9Q{a b c d:Int}:u6 a b c d≤0↔¬u6 a b c d=1:=by
 unfold u6
 (repeat' split)<;>omega
theorem c8Z{a b c d:Int}(h1:A7 a b=true)(h2:A7 c d=true):u6 a b c d=1↔(y4 a b<0∧0<y4 c d)∨(((0<y4 a b∧0<y4 c d)∨(y4 a b<0∧y4 c d<0))∧E4 a b c d<0):=by
 rw[←c7X h1 h2]
 have:= @b9Q a b c d
 omega
theorem a9p{a b c d:Int}:u6 a b c d= -1∨u6 a b c d=0∨u6 a b c d=1:=by
 unfold u6
 (repeat' split)<;>omega
theorem b2Y{a b c d:Int}(h1:u6 a b c d≠ -1)(h2:u6 a b c d≠1):u6 a b c d=0:=by
 have:= @a9p a b c d
 omega
theorem b3l{a b c d:Int}(h1:A7 a b=true)(h2:A7 c d=true):S8 a b c d↔E4 a b c d=0∧((0<y4 a b∧0<y4 c d)∨(y4 a b<0∧y4 c d<0)):=by
 unfold S8
 have n1:=(N6 h1).2
 have n2:=(N6 h2).2
 rw[a0B] at h1
 have hp:0<a*a+b*b:=by
  have q1:=J0 a
  have q2:=J0 b
  rcases Int.lt_or_le 0 (a*a+b*b) with h | h
  ·exact h
  ·have z1:a*a=0:=by omega
   have z2:b*b=0:=by omega
   have:=Int.mul_eq_zero.mp z1
   have:=Int.mul_eq_zero.mp z2
   omega
 constructor
 ·rintro⟨h,hd⟩
  refine⟨h,?_⟩
  have e:(a*a+b*b)*y4 c d=(a*c+b*d)*y4 a b:=by unfold E4 at h;unfold y4;grind
  have:=T1 hp hd e
  omega
 ·rintro⟨h,hl⟩
  refine⟨h,?_⟩
  have e:(a*a+b*b)*y4 c d=(a*c+b*d)*y4 a b:=by unfold E4 at h;unfold y4;grind
  have s1:=I3 (k:=(a*a+b*b)*y4 c d) rfl
  have s2:=I3 e
  omega
def sg(z:Int):Ordering:=if z<0 then .lt else if z=0 then .eq else .gt
def ms(u:Ordering)(m:Bool):Ordering:=if m then u else u.swap
def d0z(a b c:Ordering):Bool:=match a,b with
 | .gt,.lt=>true
 | .lt,.gt=>true
 | .eq,b=>b == c
 | a,_=>a == c
def a4K(l m:Bool)(w:Ordering):Ordering:=if l then(if m then w.swap else .lt) else(if m then .gt else w.swap)
def a2E(l m:Bool)(w:Ordering):Bool:=(w == .eq)&&(l == m)
def c8b(l m o:Bool)(u v w:Ordering):Bool:=match a4K l m w with
 | .lt=>(a4K l o u != .gt)&&(a4K m o v.swap == .gt)
 | .gt=>(a4K l o u != .gt)||(a4K m o v.swap == .gt)
 | .eq=>true
def d4t(l m o:Bool)(u v w:Ordering):Bool:=a2E l m w||(a2E l o u||(!a2E m o v&&(if u == .gt then(v == .gt)||(w != .gt) else(v == .gt)&&(w == .lt))))
theorem c9G:∀(l m o:Bool) (u v w:Ordering),d0z (ms u m) (ms v l) (ms w o)=true→c8b l m o u v w=d4t l m o u v w:=by
 intro l m o u v w
 cases l<;>cases m<;>cases o<;>cases u<;>cases v<;>cases w<;>decide
theorem E8{z:Int}:sg z= .lt↔z<0:=by unfold sg;(repeat' split)<;>simp<;>omega
theorem I9{z:Int}:sg z= .eq↔z=0:=by unfold sg;(repeat' split)<;>simp<;>omega
theorem B2{z:Int}:sg z= .gt↔0<z:=by unfold sg;(repeat' split)<;>simp<;>omega
theorem d6a(z:Int):sg (-z)=(sg z).swap:=by
 rcases Int.lt_trichotomy z 0 with h | h | h
 ·rw[E8.mpr h,B2.mpr (show 0< -z by omega)];rfl
 ·subst h;rfl
 ·rw[B2.mpr h,E8.mpr (show -z<0 by omega)];rfl
theorem b5t{u m:Int}(hm:m≠0):sg (u*m)=ms (sg u) (decide (0<m)):=by
 have s:=I3 (k:=u*m) rfl
 unfold ms
 rcases Int.lt_trichotomy u 0 with h | h | h<;>rcases Int.lt_or_lt_of_ne hm with g | g
 ·rw[E8.mpr h,decide_eq_false (by omega),B2.mpr (by omega)];rfl
 ·rw[E8.mpr h,decide_eq_true g,E8.mpr (by omega)];rfl
 ·rw[I9.mpr h,I9.mpr (by omega)];split<;>rfl
 ·rw[I9.mpr h,I9.mpr (by omega)];split<;>rfl
 ·rw[B2.mpr h,decide_eq_false (by omega),E8.mpr (by omega)];rfl
 ·rw[B2.mpr h,decide_eq_true g,B2.mpr (by omega)];rfl
theorem d4b{a b c:Int}(h:a+b=c):d0z (sg a) (sg b) (sg c)=true:=by
 rcases Int.lt_trichotomy a 0 with ha | ha | ha<;>rcases Int.lt_trichotomy b 0 with hb | hb | hb
 ·rw[E8.mpr ha,E8.mpr hb,E8.mpr (show c<0 by omega)];rfl
 ·rw[E8.mpr ha,I9.mpr hb,E8.mpr (show c<0 by omega)];rfl
 ·rw[E8.mpr ha,B2.mpr hb];rfl
 ·rw[I9.mpr ha,E8.mpr hb,E8.mpr (show c<0 by omega)];rfl
 ·rw[I9.mpr ha,I9.mpr hb,I9.mpr (show c=0 by omega)];rfl
 ·rw[I9.mpr ha,B2.mpr hb,B2.mpr (show 0<c by omega)];rfl
 ·rw[B2.mpr ha,E8.mpr hb];rfl
 ·rw[B2.mpr ha,I9.mpr hb,B2.mpr (show 0<c by omega)];rfl
 ·rw[B2.mpr ha,B2.mpr hb,B2.mpr (show 0<c by omega)];rfl
theorem b1s{a b c d:Int}(h1:A7 a b=true)(h2:A7 c d=true):sg (u6 a b c d)=a4K (decide (0<y4 a b)) (decide (0<y4 c d)) (sg (E4 a b c d)):=by
 have n1:=(N6 h1).2
 have n2:=(N6 h2).2
 have c1:=c9g h1 h2
 have c2:=c8Z h1 h2
 have c3:= @b9Q a b c d
 unfold a4K
 by_cases l:0<y4 a b<;>by_cases m:0<y4 c d
 ·rw[decide_eq_true l,decide_eq_true m]
  rcases Int.lt_trichotomy (E4 a b c d) 0 with k | k | k
  ·rw[E8.mpr k,B2.mpr (by omega)];rfl
  ·rw[I9.mpr k,I9.mpr (b2Y (by omega) (by omega))];rfl
  ·rw[B2.mpr k,E8.mpr (by omega)];rfl
 ·rw[decide_eq_true l,decide_eq_false m,E8.mpr (by omega)];rfl
 ·rw[decide_eq_false l,decide_eq_true m,B2.mpr (by omega)];rfl
 ·rw[decide_eq_false l,decide_eq_false m]
  rcases Int.lt_trichotomy (E4 a b c d) 0 with k | k | k
  ·rw[E8.mpr k,B2.mpr (by omega)];rfl
  ·rw[I9.mpr k,I9.mpr (b2Y (by omega) (by omega))];rfl
  ·rw[B2.mpr k,E8.mpr (by omega)];rfl
theorem b6r{a b c d:Int}(h1:A7 a b=true)(h2:A7 c d=true):decide (S8 a b c d)=a2E (decide (0<y4 a b)) (decide (0<y4 c d)) (sg (E4 a b c d)):=by
 have n1:=(N6 h1).2
 have n2:=(N6 h2).2
 rw[Bool.eq_iff_iff,decide_eq_true_eq,b3l h1 h2]
 unfold a2E
 rw[Bool.and_eq_true,beq_iff_eq,beq_iff_eq,I9,decide_eq_decide]
 omega
theorem d5z{a b c d x y:Int}(h1:A7 a b=true)(h2:A7 c d=true)(h3:A7 x y=true):a2k a b c d x y=decide (b4Y a b c d x y):=by
 have n1:=(N6 h1).2
 have n2:=(N6 h2).2
 have n3:=(N6 h3).2
 have e:E4 a b x y*y4 c d+E4 x y c d*y4 a b=E4 a b c d*y4 x y:=by unfold E4 y4;grind
 have hc:=d4b e
 rw[b5t n2,b5t n1,b5t n3] at hc
 have r1:E4 c d x y= - E4 x y c d:=by unfold E4;grind
 have law:=c9G _ _ _ _ _ _ hc
 have hl:a2k a b c d x y=c8b (decide (0<y4 a b)) (decide (0<y4 c d)) (decide (0<y4 x y)) (sg (E4 a b x y)) (sg (E4 x y c d)) (sg (E4 a b c d)):=by
  unfold c8b
  rw[←b1s h1 h2,←b1s h1 h3,←d6a,←r1,←b1s h2 h3]
  unfold a2k
  have b1:decide (u6 a b x y≤0)=(sg (u6 a b x y) != .gt):=by
   rw[Bool.eq_iff_iff,decide_eq_true_eq,bne_iff_ne,ne_eq,B2];omega
  have b2:(!decide (u6 c d x y≤0))=(sg (u6 c d x y) == .gt):=by
   rw[Bool.eq_iff_iff,Bool.not_eq_true',decide_eq_false_iff_not,beq_iff_eq,B2];omega
  rw[b1,b2]
  have c0:= @a9p a b c d
  by_cases p1:u6 a b c d= -1
  ·rw[if_pos p1,E8.mpr (show u6 a b c d<0 by omega)]
  ·rw[if_neg p1]
   by_cases p2:u6 a b c d=1
   ·rw[if_pos p2,B2.mpr (show 0<u6 a b c d by omega)]
   ·rw[if_neg p2,I9.mpr (show u6 a b c d=0 by omega)]
 rw[hl,law]
 unfold d4t
 have a3:S8 c d x y↔E4 x y c d=0∧((0<y4 c d∧0<y4 x y)∨(y4 c d<0∧y4 x y<0)):=by
  rw[b3l h2 h3,r1];omega
 have a3':a2E (decide (0<y4 c d)) (decide (0<y4 x y)) (sg (E4 x y c d))=decide (S8 c d x y):=by
  rw[Bool.eq_iff_iff,decide_eq_true_eq,a3]
  unfold a2E
  rw[Bool.and_eq_true,beq_iff_eq,beq_iff_eq,I9,decide_eq_decide]
  omega
 rw[←b6r h1 h2,←b6r h1 h3,a3']
 rw[Bool.eq_iff_iff,decide_eq_true_eq]
 unfold b4Y
 simp only[Bool.or_eq_true,Bool.and_eq_true,Bool.not_eq_true',decide_eq_true_eq,decide_eq_false_iff_not]
 by_cases q:0<E4 a b x y
 ·rw[if_pos q,if_pos (beq_iff_eq.mpr (B2.mpr q))]
  simp only[Bool.or_eq_true,beq_iff_eq,bne_iff_ne,ne_eq,B2,Int.not_lt]
 ·rw[if_neg q,if_neg (fun h=>q (B2.mp (beq_iff_eq.mp h)))]
  simp only[Bool.and_eq_true,beq_iff_eq,B2,E8]
end Go.Proofs.YtldbejmgalhdaaaGreat
