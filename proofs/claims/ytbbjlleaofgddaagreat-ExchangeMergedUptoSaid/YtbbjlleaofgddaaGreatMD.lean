/- MD, merged: Cg0, TCg, Cg, TCh, Ch, TCi, Ci, TCj, Cj, TCk, Ck, Cl, TCm, Cm, TCn, Cn. -/
import Derived.Test.YtbbjlleaofgddaaGreatMC
set_option linter.unusedSimpArgs false
set_option linter.unusedVariables false
namespace Go.Proofs.YtbbjlleaofgddaaGreat
open Go.RowKit
mutual
def G4:X→Option Rows
 | .nil=>some []
 | .row l=>match K2 l with | some a=>some [a] | none=>none
 | .app x y=>match G4 x,G4 y with | some a,some b=>some (a++b) | _,_=>none
 | .sub x (.lit m) (.lit n)=>match G4 x with | some a=>some (k5 a m n) | none=>none
 | .upd x (.lit m) j l=>match G4 x,K2 l with | some a,some b=>some (z9 a m j b) | _,_=>none
 | .rep (.lit n) l=>match K2 l with | some b=>some (List.replicate n.toNat b) | none=>none
 | _=>none
def K2:AL→Option (List D)
 | .nil=>some []
 | .i (.lit n) r=>match K2 r with | some l=>some (.i n::l) | none=>none
 | .b (.lit b) r=>match K2 r with | some l=>some (.b b::l) | none=>none
 | .x x r=>match G4 x,K2 r with | some a,some l=>some (.l a::l) | _,_=>none
 | _=>none
end
mutual
theorem a0l(ρ:Env):∀(x:X) (r:Rows),G4 x=some r→x.ev ρ=r
 | .nil,r,h=>by simp only[G4,Option.some.injEq] at h;subst h;simp [X.ev]
 | .row l,r,h=>by
   simp only[G4] at h
   split at h
   ·rename_i a ha
    simp only[Option.some.injEq] at h;subst h
    simp only[X.ev,G1 ρ l a ha]
   ·cases h
 | .app x y,r,h=>by
   simp only[G4] at h
   split at h
   ·rename_i a b ha hb
    simp only[Option.some.injEq] at h;subst h
    simp only[X.ev,a0l ρ x a ha,a0l ρ y b hb]
   ·cases h
 | .var _,r,h=>by simp [G4] at h
 | .rd _ _ _,r,h=>by simp [G4] at h
 | .sub x lo hi,r,h=>by
   cases lo<;>(try (simp only[G4,reduceCtorEq] at h;done))
   cases hi<;>simp only[G4,reduceCtorEq] at h
   split at h
   ·rename_i a ha
    simp only[Option.some.injEq] at h;subst h
    simp only[X.ev,E.ev,a0l ρ x a ha]
   ·cases h
 | .upd x i j l,r,h=>by
   cases i<;>simp only[G4,reduceCtorEq] at h
   split at h
   ·rename_i a b ha hb
    simp only[Option.some.injEq] at h;subst h
    simp only[X.ev,E.ev,a0l ρ x a ha,G1 ρ l b hb]
   ·cases h
 | .fn _ _,r,h=>by simp [G4] at h
 | .rep n l,r,h=>by
   cases n<;>simp only[G4,reduceCtorEq] at h
   split at h
   ·rename_i b hb
    simp only[Option.some.injEq] at h;subst h
    simp only[X.ev,E.ev,G1 ρ l b hb]
   ·cases h
theorem G1(ρ:Env):∀(a:AL) (l:List D),K2 a=some l→a.ev ρ=l
 | .nil,l,h=>by simp only[K2,Option.some.injEq] at h;subst h;simp [AL.ev]
 | .i e r,l,h=>by
   cases e<;>simp only[K2,reduceCtorEq] at h
   split at h
   ·rename_i m hm
    simp only[Option.some.injEq] at h;subst h
    simp only[AL.ev,E.ev,G1 ρ r m hm]
   ·cases h
 | .b e r,l,h=>by
   cases e<;>simp only[K2,reduceCtorEq] at h
   split at h
   ·rename_i m hm
    simp only[Option.some.injEq] at h;subst h
    simp only[AL.ev,B.ev,G1 ρ r m hm]
   ·cases h
 | .x x r,l,h=>by
   simp only[K2] at h
   split at h
   ·rename_i a m ha hm
    simp only[Option.some.injEq] at h;subst h
    simp only[AL.ev,a0l ρ x a ha,G1 ρ r m hm]
   ·cases h
end
def bF(s:Nat)(f:List D→Bool)(al:AL):B:=match K2 al with | some l=> .lit (f l) | none=> .fn s al
def iF(s:Nat)(f:List D→Int)(al:AL):E:=match K2 al with | some l=> .lit (f l) | none=> .fn s al
theorem o8{ρ:Env}{s:Nat}{f:List D→Bool}(h:∀l,ρ.fb s l=f l)(al:AL):(bF s f al).ev ρ=f (al.ev ρ):=by
 unfold bF
 split
 ·rename_i l hl;simp only[B.ev,G1 ρ al l hl]
 ·simp only[B.ev,h]
theorem O7{ρ:Env}{s:Nat}{f:List D→Int}(h:∀l,ρ.fi s l=f l)(al:AL):(iF s f al).ev ρ=f (al.ev ρ):=by
 unfold iF
 split
 ·rename_i l hl;simp only[E.ev,G1 ρ al l hl]
 ·simp only[E.ev,h]
def sBF(s:Nat)(f:List D→Bool)(al:AL):S:= .z (.bool (bF s f al))
def sIF(s:Nat)(f:List D→Int)(al:AL):S:= .z (.int .i64 (iF s f al))
def a8J:Interp:= { fi:=fun n l=>match n with | 0=>D9 l | _=>0,fb:=fun n l=>match n with | 1=>y9 l | 3=>z7 l | 4=>onL l | _=>false,fd:=fun _ _=>[] }
def b3M:=o9 [pt,pt,pt] fun al=> .ob (.tru (bF 1 y9 al)) (.ret (iV .i64 (iF 0 D9 al)))
def b8u:=o9 [pt,pt,pt] fun al=> .ob (.tru (bF 1 y9 al)) (.ret (bV (bF 4 onL al)))
theorem b4L{ρ:Env}(h1:∀l,ρ.fb 1 l=y9 l)(h0:∀l,ρ.fi 0 l=D9 l):i4 Tryz.prog ρ 174 b3M:=by
 refine a0t b4c (fun al v hv=> ?_)
 obtain⟨ho,hv⟩:=hv
 obtain rfl:=g9 hv
 have ho:(bF 1 y9 al).ev ρ=true:=ho
 rw[o8 h1] at ho
 refine⟨rfl,b6s ho,?_⟩
 simp only[iV,V.s0,V.val,V2.val,S.val,S0.val,O7 h0,D9]
theorem b0W{ρ:Env}(h1:∀l,ρ.fb 1 l=y9 l)(h4:∀l,ρ.fb 4 l=onL l):i4 Tryz.prog ρ 182 b8u:=by
 refine a0t c6e (fun al v hv=> ?_)
 obtain⟨ho,hv⟩:=hv
 obtain rfl:=g9 hv
 have ho:(bF 1 y9 al).ev ρ=true:=ho
 rw[o8 h1] at ho
 refine⟨rfl,ho,?_⟩
 simp only[bV,V.s0,V.val,V2.val,S.val,S0.val,o8 h4]
def ctM:Ct:=[(174,b3M),(182,b8u)]
theorem c1e{ρ:Env}(h:ρ.has a8J):CtOk Tryz.prog ρ ctM:=
 .cons (b4L (fun l=>by rw[h.2.1];rfl) (fun l=>by rw[h.1];rfl))<| .cons (b0W (fun l=>by rw[h.2.1];rfl) (fun l=>by rw[h.2.1];rfl)) .nil
def a5l:TT i8:=
(.ob (.tru (.fn 1 (.i (.var 0) (.i (.var 1) (.i (.var 2) (.i (.var 3) (.i (.var 4) (.i (.var 5) .nil))))))))
(.ob (.tru (.fn 1 (.i (.var 0) (.i (.var 1) (.i (.var 2) (.i (.var 3) (.i (.var 6) (.i (.var 7) .nil))))))))
(.ite (.cmp .lss (.ar .mul .i64 (.fn 0 (.i (.var 0) (.i (.var 1) (.i (.var 2) (.i (.var 3) (.i (.var 4) (.i (.var 5) .nil))))))) (.fn 0 (.i (.var 0) (.i (.var 1) (.i (.var 2) (.i (.var 3) (.i (.var 6) (.i (.var 7) .nil)))))))) (.lit 0))
 (.ob (.tru (.fn 1 (.i (.var 4) (.i (.var 5) (.i (.var 6) (.i (.var 7) (.i (.var 0) (.i (.var 1) .nil))))))))
 (.ob (.tru (.fn 1 (.i (.var 4) (.i (.var 5) (.i (.var 6) (.i (.var 7) (.i (.var 2) (.i (.var 3) .nil))))))))
 (.ite (.cmp .lss (.ar .mul .i64 (.fn 0 (.i (.var 4) (.i (.var 5) (.i (.var 6) (.i (.var 7) (.i (.var 0) (.i (.var 1) .nil))))))) (.fn 0 (.i (.var 4) (.i (.var 5) (.i (.var 6) (.i (.var 7) (.i (.var 2) (.i (.var 3) .nil)))))))) (.lit 0))
 (.ret ((.v (.one (.z (.bool (.lit true))))),[],4))
 (.ob (.tru (.fn 1 (.i (.var 0) (.i (.var 1) (.i (.var 4) (.i (.var 5) (.i (.var 6) (.i (.var 7) .nil))))))))
 (.ite (.fn 4 (.i (.var 0) (.i (.var 1) (.i (.var 4) (.i (.var 5) (.i (.var 6) (.i (.var 7) .nil)))))))
 (.ret ((.v (.one (.z (.bool (.lit true))))),[],4))
 (.ob (.tru (.fn 1 (.i (.var 2) (.i (.var 3) (.i (.var 4) (.i (.var 5) (.i (.var 6) (.i (.var 7) .nil))))))))
 (.ite (.fn 4 (.i (.var 2) (.i (.var 3) (.i (.var 4) (.i (.var 5) (.i (.var 6) (.i (.var 7) .nil)))))))
 (.ret ((.v (.one (.z (.bool (.lit true))))),[],4))
 (.ob (.tru (.fn 1 (.i (.var 4) (.i (.var 5) (.i (.var 0) (.i (.var 1) (.i (.var 2) (.i (.var 3) .nil))))))))
 (.ite (.fn 4 (.i (.var 4) (.i (.var 5) (.i (.var 0) (.i (.var 1) (.i (.var 2) (.i (.var 3) .nil)))))))
 (.ret ((.v (.one (.z (.bool (.lit true))))),[],4))
 (.ob (.tru (.fn 1 (.i (.var 6) (.i (.var 7) (.i (.var 0) (.i (.var 1) (.i (.var 2) (.i (.var 3) .nil))))))))
 (.ret ((.v (.one (.z (.bool (.fn 4 (.i (.var 6) (.i (.var 7) (.i (.var 0) (.i (.var 1) (.i (.var 2) (.i (.var 3) .nil))))))))))),[],4))))))))))))
 (.ob (.tru (.fn 1 (.i (.var 0) (.i (.var 1) (.i (.var 4) (.i (.var 5) (.i (.var 6) (.i (.var 7) .nil))))))))
 (.ite (.fn 4 (.i (.var 0) (.i (.var 1) (.i (.var 4) (.i (.var 5) (.i (.var 6) (.i (.var 7) .nil)))))))
 (.ret ((.v (.one (.z (.bool (.lit true))))),[],4))
 (.ob (.tru (.fn 1 (.i (.var 2) (.i (.var 3) (.i (.var 4) (.i (.var 5) (.i (.var 6) (.i (.var 7) .nil))))))))
 (.ite (.fn 4 (.i (.var 2) (.i (.var 3) (.i (.var 4) (.i (.var 5) (.i (.var 6) (.i (.var 7) .nil)))))))
 (.ret ((.v (.one (.z (.bool (.lit true))))),[],4))
 (.ob (.tru (.fn 1 (.i (.var 4) (.i (.var 5) (.i (.var 0) (.i (.var 1) (.i (.var 2) (.i (.var 3) .nil))))))))
 (.ite (.fn 4 (.i (.var 4) (.i (.var 5) (.i (.var 0) (.i (.var 1) (.i (.var 2) (.i (.var 3) .nil)))))))
 (.ret ((.v (.one (.z (.bool (.lit true))))),[],4))
 (.ob (.tru (.fn 1 (.i (.var 6) (.i (.var 7) (.i (.var 0) (.i (.var 1) (.i (.var 2) (.i (.var 3) .nil))))))))
 (.ret ((.v (.one (.z (.bool (.fn 4 (.i (.var 6) (.i (.var 7) (.i (.var 0) (.i (.var 1) (.i (.var 2) (.i (.var 3) .nil))))))))))),[],4))))))))))))
set_option maxRecDepth 100000 in
theorem b3w:T.norm 0 (call Tryz.prog ctM (Lt.of []) 100 176 (i5 0 [pt,pt,pt,pt]) [] 0) TT.ret=a5l:=by kernel_rfl
theorem b0k:a5l.low 1000=true:=by kernel_rfl
def a7e(ax ay bx by' cx cy dx dy:Int):Bool:=
 decide (F6 ax ay bx by' cx cy*F6 ax ay bx by' dx dy<0∧F6 cx cy dx dy ax ay*F6 cx cy dx dy bx by'<0)||
 (onB ax ay cx cy dx dy||(onB bx by' cx cy dx dy||(onB cx cy ax ay bx by'||onB dx dy ax ay bx by')))
def H6(ds:List D):Bool:=a7e (a9 ds 0) (a9 ds 1) (a9 ds 2) (a9 ds 3) (a9 ds 4) (a9 ds 5) (a9 ds 6) (a9 ds 7)
def D7(ds:List D):Bool:=j8 (a9 ds 0) (a9 ds 1)&&(j8 (a9 ds 2) (a9 ds 3)&&(j8 (a9 ds 4) (a9 ds 5)&&j8 (a9 ds 6) (a9 ds 7)))
theorem b5o(n:Int): -1≤sgn n∧sgn n≤1:=by unfold sgn;split<;>(try split)<;>omega
theorem c1B(a b c d e f:Int):onL [.i a,.i b,.i c,.i d,.i e,.i f]=onB a b c d e f:=rfl
theorem c1u(W:World)(ds l:List D):(g8 a8J W ds).fb 1 l=y9 l:=rfl
theorem c2r(W:World)(ds l:List D):(g8 a8J W ds).fb 4 l=onL l:=rfl
theorem c1N(W:World)(ds l:List D):(g8 a8J W ds).fi 0 l=D9 l:=rfl
theorem c5k(a b:Int):IntKind.i64.wrap (sgn a*sgn b)=sgn a*sgn b:=by
 have h1:=b5o a
 have h2:=b5o b
 have:=b1b (a:=sgn a) (b:=sgn b) (A:=1) (B:=1) (by omega) (by omega) (by omega) (by omega)
 exact f9 _ (by omega) (by omega)
theorem c3N(a b c d e f a' b' c' d' e' f':Int):IntKind.i64.wrap (F6 a b c d e f*F6 a' b' c' d' e' f')=F6 a b c d e f*F6 a' b' c' d' e' f':=c5k _ _
theorem c2W:GivesIf Tryz.prog 176 [pt,pt,pt,pt] (fun ds=>D7 ds=true) (fun ds=> .bool (H6 ds)):=by
 refine i6 a8J (by kernel_rfl) (fun ρ h=>c1e h) (by kernel_rfl) b3w b0k (by decide) (fun W vals ds _ hok=> ?_)
 simp only[D7,Bool.and_eq_true] at hok
 obtain⟨p1,p2,p3,p4⟩:=hok
 simp only[a5l,g7,Nat.reduceBEq,Nat.reduceLT,Nat.reduceSub,c1u,c2r,c1N,a2z,a3v,c1B]
 simp only[p1,p2,p3,p4,and_self,true_and,c3N]
 simp only[H6,a7e]
 generalize onB (a9 ds 0) (a9 ds 1) (a9 ds 4) (a9 ds 5) (a9 ds 6) (a9 ds 7)=o1
 generalize onB (a9 ds 2) (a9 ds 3) (a9 ds 4) (a9 ds 5) (a9 ds 6) (a9 ds 7)=o2
 generalize onB (a9 ds 4) (a9 ds 5) (a9 ds 0) (a9 ds 1) (a9 ds 2) (a9 ds 3)=o3
 generalize onB (a9 ds 6) (a9 ds 7) (a9 ds 0) (a9 ds 1) (a9 ds 2) (a9 ds 3)=o4
 refine⟨fun h=>⟨fun h'=> ?_,fun h'=> ?_⟩,fun h=> ?_⟩
 ·rw[decide_eq_true ⟨h,h'⟩];rfl
 ·rw[decide_eq_false (fun q=>h' q.2)]
  cases o1<;>cases o2<;>cases o3<;>cases o4<;>simp
 ·rw[decide_eq_false (fun q=>h q.1)]
  cases o1<;>cases o2<;>cases o3<;>cases o4<;>simp
def b6a:=o9 [pt,pt,pt,pt] fun al=> .ob (.tru (bF 5 D7 al)) (.ret (bV (bF 6 H6 al)))
def T9:=o9 [pt] fun al=> .ret (bV (bF 3 z7 al))
theorem b5U{ρ:Env}(h5:∀l,ρ.fb 5 l=D7 l)(h6:∀l,ρ.fb 6 l=H6 l):i4 Tryz.prog ρ 176 b6a:=by
 refine a0t c2W (fun al v hv=> ?_)
 obtain⟨ho,hv⟩:=hv
 obtain rfl:=g9 hv
 have ho:(bF 5 D7 al).ev ρ=true:=ho
 rw[o8 h5] at ho
 refine⟨rfl,ho,?_⟩
 simp only[bV,V.s0,V.val,V2.val,S.val,S0.val,o8 h6]
theorem a0M{ρ:Env}(h:∀l,ρ.fb 3 l=z7 l):i4 Tryz.prog ρ 126 T9:=
 j4 b5K (fun _=>rfl) (fun al=>by simp only[bV,V.s0,V.val,V2.val,S.val,S0.val,o8 h,z7])
def c1Y(ax ay bx by' cx cy dx dy r:Int):Bool:=
 a7e ax ay bx by' cx cy dx dy||(a4r ax ay cx cy dx dy r||(a4r bx by' cx cy dx dy r||(a4r cx cy ax ay bx by' r||a4r dx dy ax ay bx by' r)))
def c2t(ds:List D):Bool:=c1Y (a9 ds 0) (a9 ds 1) (a9 ds 2) (a9 ds 3) (a9 ds 4) (a9 ds 5) (a9 ds 6) (a9 ds 7) (a9 ds 8)
theorem b0h(a b c d e f g h:Int):D7 [.i a,.i b,.i c,.i d,.i e,.i f,.i g,.i h]=(j8 a b&&(j8 c d&&(j8 e f&&j8 g h))):=rfl
theorem b2H(a b c d e f g h:Int):H6 [.i a,.i b,.i c,.i d,.i e,.i f,.i g,.i h]=a7e a b c d e f g h:=by
 unfold H6 a9;simp only[List.getD_cons_zero,List.getD_cons_succ,D.int]
def b0v(ds:List D):Bool:=D7 ds&&b9h (a9 ds 8)
def b9O(ds:List D):Bool:=y9 ds&&b9h (a9 ds 6)
def a7f(ds:List D):Bool:=b9O ds&&b2U ds
def b3k(ds:List D):Int:=if b9O ds then 0 else 1
def a0s(ds:List D):Bool:=b0v ds&&c2t ds
def c2i(ds:List D):Int:=if b0v ds then 0 else 1
def O8(ds:List D):Int:=if y9 ds then D9 ds else 0
def a2D(ds:List D):Int:=if y9 ds then 0 else 1
def c2K(ds:List D):Bool:=a3s (a9 ds 0) (a9 ds 1) (a9 ds 2) (f8 ds 3)&&decide (0≤a9 ds 4∧a9 ds 4≤(f8 ds 3).length)
def b8n(ds:List D):Bool:=c2K ds&& !decide (10000000<tHi (f8 ds 3) (a9 ds 1) (a9 ds 4).toNat)
def c6v(ds:List D):Int:=if b8n ds then tLo (f8 ds 3) (a9 ds 0) (a9 ds 4).toNat else 0
def c6T(ds:List D):Int:=if b8n ds then tHi (f8 ds 3) (a9 ds 1) (a9 ds 4).toNat else 0
def c6U(ds:List D):Int:=if c2K ds then(if b8n ds then 0 else 3) else 1
def c1K(ds:List D):Bool:=a3s (a9 ds 0) (a9 ds 1) (a9 ds 2) (f8 ds 3)&&decide (0≤a9 ds 4∧a9 ds 4<(f8 ds 3).length)
def b8N(ds:List D):Bool:=c1K ds&& !decide (10000000<tHi (f8 ds 3) (a9 ds 1) ((a9 ds 4).toNat+1))
def c1k(ds:List D):Int:=if b8N ds then tLo (f8 ds 3) (a9 ds 0) (a9 ds 4).toNat else 0
def c1I(ds:List D):Int:=if b8N ds then tHi (f8 ds 3) (a9 ds 1) ((a9 ds 4).toNat+1) else 0
def b6Z(ds:List D):Int:=if c1K ds then(if b8N ds then 0 else 3) else 1
def c4D(ds:List D):Int:=(b9x ds).1
def c4w(ds:List D):Int:=(b9x ds).2
def K:Interp where
 fi n l:=match n with | 0=>D9 l | 10=>b4P l | 11=>b5B l | 12=>c4a l | 13=>b3k l | 14=>c2i l | 15=>O8 l | 16=>a2D l | 21=>c6v l | 22=>c6T l | 23=>c6U l | 24=>c1k l | 25=>c1I l | 26=>b6Z l | 27=>c4D l | 28=>c4w l | _=>0
 fb n l:=match n with | 0=>b1P l | 1=>y9 l | 2=>b2U l | 3=>z7 l | 4=>onL l | 5=>D7 l | 6=>H6 l | 7=>a7f l | 8=>a0s l | 20=>c6k l | _=>false
 fd _ _:=[]
def a4e:=o9 [pt,pt,pt] fun al=> .ret (.tup [.one (sIF 15 O8 al),.one (sIF 16 a2D al)])
def Sees(ρ:Env)(I:Interp)(c:Nat):Prop:=∀n l,n<c→ρ.fi n l=I.fi n l∧ρ.fb n l=I.fb n l
theorem Sees.of{ρ:Env}{I:Interp}(h:ρ.has I)(c:Nat):Sees ρ I c:=fun n l _=>by rw[h.1,h.2.1];exact⟨rfl,rfl⟩
theorem Sees.trans{ρ:Env}{I J:Interp}{c d:Nat}(h:Sees ρ I c)(hd:d≤c)(hj:∀n l,n<d→I.fi n l=J.fi n l∧I.fb n l=J.fb n l):Sees ρ J d:=
 fun n l hn=>⟨(h n l (Nat.lt_of_lt_of_le hn hd)).1.trans (hj n l hn).1,(h n l (Nat.lt_of_lt_of_le hn hd)).2.trans (hj n l hn).2⟩
section
variable {ρ:Env} (h:Sees ρ K 30)
include h
theorem b4u:i4 Tryz.prog ρ 161 a4e:=
 j4 b9w (fun _=>rfl) (fun al=>by
  simp only[V.val,V2.val,S.val,S0.val,sIF,sBF,List.map_cons,List.map_nil,O7 (s:=15) (f:=O8) (fun l=>by rw[(h 15 l (by decide)).1];simp only[K]),O7 (s:=16) (f:=a2D) (fun l=>by rw[(h 16 l (by decide)).1];simp only[K]),a7l,O8,a2D]
  split<;>rfl)
theorem b3o:i4 Tryz.prog ρ 126 T9:=a0M (fun l=>by rw[(h 3 l (by decide)).2];simp only[K])
end
def c3W:Ct:=[(126,T9),(161,a4e)]
theorem c0G{ρ:Env}(h:Sees ρ K 30):CtOk Tryz.prog ρ c3W:= .cons (b3o h)<| .cons (b4u h) .nil
def ctH:Ct:=c3W
theorem c1z{ρ:Env}(h:Sees ρ K 30):CtOk Tryz.prog ρ ctH:=(c0G h)
end Go.Proofs.YtbbjlleaofgddaaGreat
namespace Go.Proofs.YtbbjlleaofgddaaGreat
open Go.RowKit
def sp:Sh:= .agg [.int .i64,.int .i64]
def bx:Sh:= .agg [.int .i64,.int .i64,.int .i64,.int .i64]
def a7c(a b:Int):Bool:=decide (-1000000000000≤a∧a≤b∧b≤1000000000000)
def c4C(ds:List D):Bool:=a7c (a9 ds 0) (a9 ds 1)
def a5T(a b c d:Int):Bool:=decide ((-1000000≤a∧a≤b∧b≤1000000)∧ -1000000≤c∧c≤d∧d≤1000000)
def c6h(ds:List D):Bool:=a5T (a9 ds 0) (a9 ds 1) (a9 ds 2) (a9 ds 3)
def a1P(ds:List D):Bool:=a5T (a9 ds 0) (a9 ds 1) (a9 ds 2) (a9 ds 3)&&a5T (a9 ds 4) (a9 ds 5) (a9 ds 6) (a9 ds 7)
def c3G(ds:List D):Bool:=decide (max (a9 ds 0) (a9 ds 4)≤min (a9 ds 1) (a9 ds 5)∧max (a9 ds 2) (a9 ds 6)≤min (a9 ds 3) (a9 ds 7))
def c6D(ds:List D):Int:=if a1P ds then min (a9 ds 0) (a9 ds 4) else 0
def c6C(ds:List D):Int:=if a1P ds then max (a9 ds 1) (a9 ds 5) else 0
def c6r(ds:List D):Int:=if a1P ds then min (a9 ds 2) (a9 ds 6) else 0
def c6G(ds:List D):Int:=if a1P ds then max (a9 ds 3) (a9 ds 7) else 0
def c6V(ds:List D):Int:=if a1P ds then 0 else 1
def a4G(ds:List D):Bool:=a1P ds&&c3G ds
def c5d(ds:List D):Int:=if a4G ds then max (a9 ds 0) (a9 ds 4) else 0
def c3E(ds:List D):Int:=if a4G ds then min (a9 ds 1) (a9 ds 5) else 0
def c5l(ds:List D):Int:=if a4G ds then max (a9 ds 2) (a9 ds 6) else 0
def c4O(ds:List D):Int:=if a4G ds then min (a9 ds 3) (a9 ds 7) else 0
def c4p(ds:List D):Int:=if a4G ds then 0 else if a1P ds then 4 else 1
def b9m(ds:List D):Bool:=a5T (a9 ds 0) (a9 ds 1) (a9 ds 2) (a9 ds 3)&&decide (0≤a9 ds 4∧a9 ds 4≤3000000)
def a4P(ds:List D):Bool:=b9m ds&&a5T (a9 ds 0-a9 ds 4) (a9 ds 1+a9 ds 4) (a9 ds 2-a9 ds 4) (a9 ds 3+a9 ds 4)
def b8O(ds:List D):Int:=if a4P ds then a9 ds 0-a9 ds 4 else 0
def b9q(ds:List D):Int:=if a4P ds then a9 ds 1+a9 ds 4 else 0
def b9u(ds:List D):Int:=if a4P ds then a9 ds 2-a9 ds 4 else 0
def b9r(ds:List D):Int:=if a4P ds then a9 ds 3+a9 ds 4 else 0
def b9H(ds:List D):Int:=if a4P ds then 0 else if b9m ds then 3 else 1
def K5:Interp where
 fi n l:=match n with | 32=>c6D l | 33=>c6C l | 34=>c6r l | 35=>c6G l | 36=>c6V l | 37=>c5d l | 38=>c3E l | 39=>c5l l | 40=>c4O l | 41=>c4p l | 42=>b8O l | 43=>b9q l | 44=>b9u l | 45=>b9r l | 46=>b9H l | n=>K.fi n l
 fb n l:=match n with | 30=>c4C l | 31=>c6h l | n=>K.fb n l
 fd _ _:=[]
section
variable {ρ:Env} (h:Sees ρ K5 50)
include h
theorem c6w:Sees ρ K 30:=h.trans (by decide) fun n l hn=>by
 constructor
 ·simp only[K5]
  split<;>first | omega | rfl
 ·simp only[K5]
  split<;>first | omega | rfl
end
def ct5:Ct:=ctH
theorem c2Y{ρ:Env}(h:Sees ρ K5 50):CtOk Tryz.prog ρ ct5:=(c1z (c6w h))
end Go.Proofs.YtbbjlleaofgddaaGreat
namespace Go.Proofs.YtbbjlleaofgddaaGreat
open Go.RowKit
section
variable (W:World) (ds l:List D)
end
def b0q(ds:List D):Bool:=a1P ds&&decide (a9 ds 4≤a9 ds 0∧a9 ds 1≤a9 ds 5∧a9 ds 6≤a9 ds 2∧a9 ds 3≤a9 ds 7)
def a4L(ds:List D):Bool:=a3s (a9 ds 0) (a9 ds 1) (a9 ds 2) (f8 ds 3)&&decide (0≤a9 ds 4∧a9 ds 4<(f8 ds 3).length)
def a4a(ds:List D):List D:=[.i (min (lg (f8 ds 3) (a9 ds 4) 0) (lg (f8 ds 3) (a9 ds 4) 2)),.i (max (lg (f8 ds 3) (a9 ds 4) 0) (lg (f8 ds 3) (a9 ds 4) 2)),.i (min (lg (f8 ds 3) (a9 ds 4) 1) (lg (f8 ds 3) (a9 ds 4) 3)),.i (max (lg (f8 ds 3) (a9 ds 4) 1) (lg (f8 ds 3) (a9 ds 4) 3)),.i (a9 ds 2)]
def c2N(ds:List D):Bool:=j8 (a9 ds 6) (a9 ds 7)&&T0 (a9 ds 5)&&decide (b6Z ds=0)&&a7f [.i (a9 ds 6),.i (a9 ds 7),.i (lg (f8 ds 3) (a9 ds 4) 0),.i (lg (f8 ds 3) (a9 ds 4) 1),.i (lg (f8 ds 3) (a9 ds 4) 2),.i (lg (f8 ds 3) (a9 ds 4) 3),.i (a9 ds 2)]&&decide (c1k ds≤a9 ds 5∧a9 ds 5≤c1I ds)
def c2h(ds:List D):Int:=if j8 (a9 ds 6) (a9 ds 7)&&T0 (a9 ds 5) then b6Z ds else 1
def c4k(ds:List D):Int:=if a4L ds then b8O (a4a ds) else 0
def c4E(ds:List D):Int:=if a4L ds then b9q (a4a ds) else 0
def c5n(ds:List D):Int:=if a4L ds then b9u (a4a ds) else 0
def c5j(ds:List D):Int:=if a4L ds then b9r (a4a ds) else 0
def c4q(ds:List D):Int:=if a4L ds then b9H (a4a ds) else 1
def K6:Interp where
 fi n l:=match n with | 53=>c2h l | 54=>c4k l | 55=>c4E l | 56=>c5n l | 57=>c5j l | 58=>c4q l | n=>K5.fi n l
 fb n l:=match n with | 51=>b0q l | 52=>c2N l | n=>K5.fb n l
 fd _ _:=[]
section
variable {ρ:Env} (h:Sees ρ K6 60)
include h
theorem c4z:Sees ρ K5 50:=h.trans (by decide) fun n l hn=>by
 constructor
 ·simp only[K6]
  split<;>first | omega | rfl
 ·simp only[K6]
  split<;>first | omega | rfl
end
def ct6:Ct:=ct5
theorem c1m{ρ:Env}(h:Sees ρ K6 60):CtOk Tryz.prog ρ ct6:=(c2Y (c4z h))
end Go.Proofs.YtbbjlleaofgddaaGreat
namespace Go.Proofs.YtbbjlleaofgddaaGreat
open Go.RowKit
section
variable (W:World) (ds l:List D)
end
def c3H(r:Rows)(i a b c d off:Int):Bool:=
 b0q [.i (lg r i 0),.i (lg r i 0),.i (lg r i 1),.i (lg r i 1),.i a,.i b,.i c,.i d]||(a0s [.i (lg r i 0),.i (lg r i 1),.i (lg r i 2),.i (lg r i 3),.i a,.i d,.i a,.i c,.i off]||(a0s [.i (lg r i 0),.i (lg r i 1),.i (lg r i 2),.i (lg r i 3),.i a,.i c,.i b,.i c,.i off]||(a0s [.i (lg r i 0),.i (lg r i 1),.i (lg r i 2),.i (lg r i 3),.i b,.i c,.i b,.i d,.i off]||a0s [.i (lg r i 0),.i (lg r i 1),.i (lg r i 2),.i (lg r i 3),.i b,.i d,.i a,.i d,.i off])))
def b0s(r:Rows)(a b c d off:Int):Nat→Nat→Bool
 | 0,_=>false
 | f+1,j=>c3H r j a b c d off||b0s r a b c d off f (j+1)
def c2v(ds:List D):Bool:=a3s (a9 ds 0) (a9 ds 1) (a9 ds 2) (f8 ds 3)&&a5T (a9 ds 4) (a9 ds 5) (a9 ds 6) (a9 ds 7)&&decide (0≤a9 ds 8∧a9 ds 8≤(f8 ds 3).length)
def c6x(ds:List D):Bool:=c2v ds&&b0s (f8 ds 3) (a9 ds 4) (a9 ds 5) (a9 ds 6) (a9 ds 7) (a9 ds 2) ((f8 ds 3).length-(a9 ds 8).toNat) (a9 ds 8).toNat
def c6B(ds:List D):Int:=if c2v ds then 0 else 1
def K7:Interp where
 fi n l:=match n with | 60=>c6B l | n=>K6.fi n l
 fb n l:=match n with | 60=>c6x l | n=>K6.fb n l
 fd _ _:=[]
section
variable {ρ:Env} (h:Sees ρ K7 61)
include h
theorem c5A:Sees ρ K6 60:=h.trans (by decide) fun n l hn=>by
 constructor
 ·simp only[K7]
  split<;>first | omega | rfl
 ·simp only[K7]
  split<;>first | omega | rfl
end
def ct7:Ct:=ct6
theorem c1Z{ρ:Env}(h:Sees ρ K7 61):CtOk Tryz.prog ρ ct7:=(c1m (c5A h))
end Go.Proofs.YtbbjlleaofgddaaGreat
