/- MJ, merged: TRa, Ra, Rb, TRc, Rc, Rd, TRe, Re, Rf, TRg, Rg, Rh, Ri, TRj, Rj, TRk, Rk, Rl, TRm, Rm, TRn, Rn. -/
import Derived.Test.YtcjaembdcfppfaaGreatMI
set_option linter.unusedSimpArgs false
set_option linter.unusedVariables false
namespace Go.Proofs.YtcjaembdcfppfaaGreat
open Go.RowKit
def c0s:TT j4:=
(.ite (.cmp .geq (.var 0) (.lit (-1000000)))
 (.ite (.cmp .leq (.var 0) (.lit 1000000))
 (.ite (.cmp .geq (.var 1) (.lit (-1000000)))
 (.ret ((.v (.one (.z (.bool (.cmp .leq (.var 1) (.lit 1000000)))))),[],1))
 (.ret ((.v (.one (.z (.bool (.lit false))))),[],1)))
 (.ret ((.v (.one (.z (.bool (.lit false))))),[],1)))
 (.ret ((.v (.one (.z (.bool (.lit false))))),[],1)))
set_option maxRecDepth 100000 in
theorem c6b:T.norm 0 (call Tryz.prog [] (Lt.of []) 100 77 (g7 0 [pt]) [] 0) TT.ret=c0s:=by kernel_rfl
theorem c1w:c0s.low 1000=true:=by kernel_rfl
def a9z:TT j4:=
(.ite (.cmp .neq (.ar .sub .i64 (.ar .mul .i64 (.ar .sub .i64 (.var 4) (.var 2)) (.ar .sub .i64 (.var 1) (.var 3))) (.ar .mul .i64 (.ar .sub .i64 (.var 5) (.var 3)) (.ar .sub .i64 (.var 0) (.var 2)))) (.lit 0))
 (.ret ((.v (.one (.z (.bool (.lit false))))),[],11))
 (.ite (.cmp .geq (.var 0) (.mn (.var 2) (.var 4)))
 (.ite (.cmp .leq (.var 0) (.mx (.var 2) (.var 4)))
 (.ite (.cmp .geq (.var 1) (.mn (.var 3) (.var 5)))
 (.ret ((.v (.one (.z (.bool (.cmp .leq (.var 1) (.mx (.var 3) (.var 5))))))),[],11))
 (.ret ((.v (.one (.z (.bool (.lit false))))),[],11)))
 (.ret ((.v (.one (.z (.bool (.lit false))))),[],11)))
 (.ret ((.v (.one (.z (.bool (.lit false))))),[],11))))
set_option maxRecDepth 100000 in
theorem b8v:T.norm 0 (call Tryz.prog [] (Lt.of []) 100 113 (g7 0 [pt,pt,pt]) [] 0) TT.ret=a9z:=by kernel_rfl
theorem b5b:a9z.low 1000=true:=by kernel_rfl
def a7A:TT j4:=
(.ite (.cmp .gtr (.var 0) (.lit 0))
 (.ret ((.v (.one (.z (.int .i64 (.lit 1))))),[],0))
 (.ite (.cmp .lss (.var 0) (.lit 0))
 (.ret ((.v (.one (.z (.int .i64 (.lit (-1)))))),[],0))
 (.ret ((.v (.one (.z (.int .i64 (.lit 0))))),[],0))))
set_option maxRecDepth 100000 in
theorem b5c:T.norm 0 (call Tryz.prog [] (Lt.of []) 100 114 (g7 0 [it]) [] 0) TT.ret=a7A:=by kernel_rfl
theorem b2n:a7A.low 1000=true:=by kernel_rfl
def a5Q:TT j4:=
(.ret ((.v (.agg [(.z (.int .i64 (.ar .add .i64 (.ar .add .i64 (.ar .mul .i64 (.ar .quo .i64 (.var 0) (.lit 4194304)) (.ar .quo .i64 (.var 1) (.lit 4194304))) (.ar .quo .i64 (.ar .add .i64 (.ar .mul .i64 (.ar .quo .i64 (.var 0) (.lit 4194304)) (.ar .rem .i64 (.var 1) (.lit 4194304))) (.ar .mul .i64 (.ar .rem .i64 (.var 0) (.lit 4194304)) (.ar .quo .i64 (.var 1) (.lit 4194304)))) (.lit 4194304))) (.ar .quo .i64 (.ar .add .i64 (.ar .mul .i64 (.ar .rem .i64 (.var 0) (.lit 4194304)) (.ar .rem .i64 (.var 1) (.lit 4194304))) (.ar .mul .i64 (.ar .rem .i64 (.ar .add .i64 (.ar .mul .i64 (.ar .quo .i64 (.var 0) (.lit 4194304)) (.ar .rem .i64 (.var 1) (.lit 4194304))) (.ar .mul .i64 (.ar .rem .i64 (.var 0) (.lit 4194304)) (.ar .quo .i64 (.var 1) (.lit 4194304)))) (.lit 4194304)) (.lit 4194304))) (.lit 17592186044416))))),(.z (.int .i64 (.ar .rem .i64 (.ar .add .i64 (.ar .mul .i64 (.ar .rem .i64 (.var 0) (.lit 4194304)) (.ar .rem .i64 (.var 1) (.lit 4194304))) (.ar .mul .i64 (.ar .rem .i64 (.ar .add .i64 (.ar .mul .i64 (.ar .quo .i64 (.var 0) (.lit 4194304)) (.ar .rem .i64 (.var 1) (.lit 4194304))) (.ar .mul .i64 (.ar .rem .i64 (.var 0) (.lit 4194304)) (.ar .quo .i64 (.var 1) (.lit 4194304)))) (.lit 4194304)) (.lit 4194304))) (.lit 17592186044416))))])),[],1))
set_option maxRecDepth 100000 in
theorem b2i:T.norm 0 (call Tryz.prog [] (Lt.of []) 100 112 (g7 0 [it,it]) [] 0) TT.ret=a5Q:=by kernel_rfl
theorem b1C:a5Q.low 1000=true:=by kernel_rfl
theorem d5L:m8 Tryz.prog 77 [pt] (fun ds=> .bool (w7 ds)):=by
 refine GivesIf.all (i7 KG (by kernel_rfl) (fun ρ h=> .nil) (by kernel_rfl) c6b c1w (by decide) (fun W vals ds _ _=> ?_))
 simp only[c0s,g9,Nat.reduceBEq,Nat.reduceLT,Nat.reduceSub]
 simp only[w7,f9]
 refine⟨fun h=>⟨fun h'=>⟨fun h''=> ?_,fun h''=> ?_⟩,fun h'=> ?_⟩,fun h=> ?_⟩
 all_goals (congr 1;rw[Bool.eq_iff_iff];try rw[n8])
 all_goals (simp only[j8,decide_eq_true_eq,Bool.false_eq_true,false_iff];omega)
theorem d2r:GivesIf Tryz.prog 113 [pt,pt,pt] (fun ds=>u0 ds=true) (fun ds=> .bool (onL ds)):=by
 refine i7 KG (by kernel_rfl) (fun ρ h=> .nil) (by kernel_rfl) b8v b5b (by decide) (fun W vals ds _ hok=> ?_)
 obtain⟨h0,h1,h2,h3,h4,h5⟩:=a1U hok
 simp only[a9z,g9,Nat.reduceBEq,Nat.reduceLT,Nat.reduceSub]
 rw[o0 h4 h2,o0 h1 h3,o0 h5 h3,o0 h0 h2,(o6 h4 h2 h1 h3).1,(o6 h5 h3 h0 h2).1,(T1 h4 h2 h1 h3 h5 h3 h0 h2).1]
 simp only[onL,A7,z6,b2M,a8]
 refine⟨fun h=> ?_,fun h=>⟨fun h1=>⟨fun h2=>⟨fun h3=> ?_,fun h3=> ?_⟩,fun h2=> ?_⟩,fun h1=> ?_⟩⟩
 all_goals (congr 1;rw[Bool.eq_iff_iff];try rw[n8])
 all_goals (simp only[j8,decide_eq_true_eq,Bool.false_eq_true,false_iff];omega)
def a5g(ds:List D):Int:=J9 (a7 ds 0)
theorem c9n:m8 Tryz.prog 114 [it] (fun ds=> .int .i64 (a5g ds)):=by
 refine GivesIf.all (i7 KG (by kernel_rfl) (fun ρ h=> .nil) (by kernel_rfl) b5c b2n (by decide) (fun W vals ds _ _=> ?_))
 simp only[a7A,g9,Nat.reduceBEq,Nat.reduceLT,Nat.reduceSub]
 simp only[a5g,J9]
 refine⟨fun h=> ?_,fun h=>⟨fun h'=> ?_,fun h'=> ?_⟩⟩
 all_goals (congr 1;(repeat' split)<;>omega)
def a4K(ds:List D):Int:=a7 ds 0*a7 ds 1/17592186044416
def a5p(ds:List D):Int:=a7 ds 0*a7 ds 1 % 17592186044416
theorem Z7{a:Int}(h:0≤a):a.tdiv 4194304=a/4194304∧a.tmod 4194304=a % 4194304:=⟨Int.tdiv_eq_ediv_of_nonneg h,Int.tmod_eq_emod_of_nonneg h⟩
theorem c6m{p q r s:Int}(hp:0≤p∧p<4194304)(hq:0≤q∧q<4194304)(hr:0≤r∧r<4194304)(hs:0≤s∧s<4194304):
 let x:=p*4194304+q;let y:=r*4194304+s;let mid:=p*s+q*r;let lo:=q*s+mid % 4194304*4194304
 p*r+mid/4194304+lo/17592186044416=x*y/17592186044416∧lo % 17592186044416=x*y % 17592186044416:=by
 intro x y mid lo
 have e:x*y=(p*r+mid/4194304)*17592186044416+lo:=by
  have h1:x*y=p*r*17592186044416+mid*4194304+q*s:=by simp only[x,y,mid];grind
  have h2:=Int.mul_ediv_add_emod mid 4194304
  have h3:lo=q*s+mid % 4194304*4194304:=rfl
  omega
 rw[e]
 omega
theorem c5Q:GivesIf Tryz.prog 112 [it,it] (fun ds=>(0≤a7 ds 0∧a7 ds 0<17592186044416)∧(0≤a7 ds 1∧a7 ds 1<17592186044416)) (fun ds=> .agg #[.int .i64 (a4K ds),.int .i64 (a5p ds)]):=by
 refine i7 KG (by kernel_rfl) (fun ρ h=> .nil) (by kernel_rfl) b2i b1C (by decide) (fun W vals ds _ hok=> ?_)
 obtain⟨⟨a0,a1⟩,b0,b1⟩:=hok
 simp only[a5Q,g9,Nat.reduceBEq,Nat.reduceLT,Nat.reduceSub]
 obtain⟨x,hx⟩:∃x,a7 ds 0=x:=⟨_,rfl⟩
 obtain⟨y,hy⟩:∃y,a7 ds 1=y:=⟨_,rfl⟩
 rw[hx] at a0 a1
 rw[hy] at b0 b1
 simp only[a4K,a5p,hx,hy,(Z7 a0).1,(Z7 a0).2,(Z7 b0).1,(Z7 b0).2]
 have p1:0≤x/4194304∧x/4194304<4194304:=by omega
 have p2:0≤x % 4194304∧x % 4194304<4194304:=by omega
 have p3:0≤y/4194304∧y/4194304<4194304:=by omega
 have p4:0≤y % 4194304∧y % 4194304<4194304:=by omega
 have key:=c6m p1 p2 p3 p4
 have ex:x/4194304*4194304+x % 4194304=x:=by omega
 have ey:y/4194304*4194304+y % 4194304=y:=by omega
 simp only[ex,ey] at key
 have w1:∀ {u v:Int},0≤u∧u<4194304→0≤v∧v<4194304→0≤u*v∧u*v≤17592177655809:=fun {u v} h1 h2=>by
  have:=Int.mul_nonneg h1.1 h2.1
  have:=N8 (a:=u) (b:=v) (A:=4194303) (B:=4194303) (by omega) (by omega) (by omega) (by omega)
  omega
 have q1:=w1 p1 p3
 have q2:=w1 p1 p4
 have q3:=w1 p2 p3
 have q4:=w1 p2 p4
 generalize x/4194304=p at*
 generalize x % 4194304=q at*
 generalize y/4194304=r at*
 generalize y % 4194304=s at*
 rw[b8 p (by omega) (by omega),b8 r (by omega) (by omega),b8 (p*r) (by omega) (by omega),b8 (p*s) (by omega) (by omega),b8 (q*r) (by omega) (by omega),b8 (q*s) (by omega) (by omega),b8 (p*s+q*r) (by omega) (by omega)]
 rw[(Z7 (show 0≤p*s+q*r by omega)).1,(Z7 (show 0≤p*s+q*r by omega)).2]
 have m1:0≤(p*s+q*r)/4194304∧(p*s+q*r)/4194304≤8388608:=by omega
 have m2:0≤(p*s+q*r) % 4194304∧(p*s+q*r) % 4194304<4194304:=by omega
 generalize (p*s+q*r)/4194304=md at*
 generalize (p*s+q*r) % 4194304=mm at*
 rw[b8 (mm*4194304) (by omega) (by omega),b8 (q*s+mm*4194304) (by omega) (by omega),b8 md (by omega) (by omega)]
 rw[Int.tdiv_eq_ediv_of_nonneg (show 0≤q*s+mm*4194304 by omega),Int.tmod_eq_emod_of_nonneg (show 0≤q*s+mm*4194304 by omega)]
 have m3:0≤(q*s+mm*4194304)/17592186044416∧(q*s+mm*4194304)/17592186044416≤2:=by omega
 rw[b8 ((q*s+mm*4194304)/17592186044416) (by omega) (by omega),b8 (p*r+md) (by omega) (by omega),b8 (p*r+md+(q*s+mm*4194304)/17592186044416) (by omega) (by omega),key.1,key.2]
def KR:Interp where
 fi n l:=match n with | 90=>a5g l | 91=>a4K l | 92=>a5p l | n=>KG.fi n l
 fb n l:=KG.fb n l
 fd _ _:=[]
theorem a6d{ρ:Env}(h:Sees ρ KR 93):Sees ρ KG 80:=h.trans (by decide) fun n l hn=>by
 refine⟨?_,?_⟩
 ·
  simp only[KR]
  split<;>first | omega | rfl
 ·
  rfl
def d1f:=u7 [pt] fun al=> .ret (bV (bF 3 w7 al))
theorem c9L{ρ:Env}(h:Sees ρ KG 80):i9 Tryz.prog ρ 77 d1f:=
 j7 d5L (fun _=>rfl) (fun al=>by simp only[iV,bV,V.s0,V.val,V2.val,S.val,S0.val,m9 (s:=3) (f:=w7) (fun l=>by rw[(h 3 l (by decide)).2];simp only[KG,KF,KE,KD,KC,KB,KA,K9,K8,K7,K6,K5,K])];try rfl)
def b6h:=u7 [it] fun al=> .ret (iV .i64 (iF 90 a5g al))
theorem b7I{ρ:Env}(h:Sees ρ KR 93):i9 Tryz.prog ρ 114 b6h:=
 j7 c9n (fun _=>rfl) (fun al=>by simp only[iV,bV,V.s0,V.val,V2.val,S.val,S0.val,k8 (s:=90) (f:=a5g) (fun l=>by rw[(h 90 l (by decide)).1];simp only[KR])];try rfl)
theorem d3i{ρ:Env}{f:Nat}(g:GivesIf Tryz.prog f [pt,pt,pt] (fun ds=>u0 ds=true) (fun ds=> .bool (onL ds)))(h1:∀l,ρ.fb 1 l=u0 l)(h4:∀l,ρ.fb 4 l=onL l):i9 Tryz.prog ρ f a9f:=by
 refine C7 g (fun al v hv=> ?_)
 obtain⟨ho,hv⟩:=hv
 obtain rfl:=c9 hv
 have ho:(bF 1 u0 al).ev ρ=true:=ho
 rw[m9 h1] at ho
 refine⟨rfl,ho,?_⟩
 simp only[bV,V.s0,V.val,V2.val,S.val,S0.val,m9 h4]
theorem c2N{ρ:Env}(h:Sees ρ KG 80):i9 Tryz.prog ρ 113 a9f:=
 d3i d2r (fun l=>by rw[(h 1 l (by decide)).2];simp only[KG,KF,KE,KD,KC,KB,KA,K9,K8,K7,K6,K5,K]) (fun l=>by rw[(h 4 l (by decide)).2];simp only[KG,KF,KE,KD,KC,KB,KA,K9,K8,K7,K6,K5,K])
def c1v(al:AL):T V:=match al with
 | .i a (.i b .nil)=>T.obs [.tru (.cmpS .leq (.lit 0) a),.tru (.cmpS .lss a (.lit 17592186044416)),.tru (.cmpS .leq (.lit 0) b),.tru (.cmpS .lss b (.lit 17592186044416))] (.ret (.v (.agg [w9 91 a4K al,w9 92 a5p al])))
 | _=> .stuck "times"
def b6V:=u7 [it,it] c1v
theorem c0p{ρ:Env}(h:Sees ρ KR 93):i9 Tryz.prog ρ 112 b6V:=by
 refine C7 c5Q (fun al v hv=> ?_)
 unfold c1v at hv
 split at hv
 ·rename_i a b
  obtain⟨ho,hv⟩:=T.res_obs hv
  obtain rfl:=c9 hv
  have o1:=ho _ (List.mem_cons_self ..)
  have o2:=ho _ (List.mem_cons_of_mem _ (List.mem_cons_self ..))
  have o3:=ho _ (List.mem_cons_of_mem _ (List.mem_cons_of_mem _ (List.mem_cons_self ..)))
  have o4:=ho _ (List.mem_cons_of_mem _ (List.mem_cons_of_mem _ (List.mem_cons_of_mem _ (List.mem_cons_self ..))))
  simp only[Ob.ok,B.cmpS_ev,n8,j8,E.ev] at o1 o2 o3 o4
  refine⟨rfl,⟨⟨o1,o2⟩,o3,o4⟩,?_⟩
  simp only[V.val,V2.val,S.val,S0.val,w9,List.map_cons,List.map_nil,k8 (s:=91) (f:=a4K) (fun l=>by rw[(h 91 l (by decide)).1];simp only[KR]),k8 (s:=92) (f:=a5p) (fun l=>by rw[(h 92 l (by decide)).1];simp only[KR])]
  try rfl
 ·exact hv.elim
def c0q:Ct:=(77,d1f)::(113,a9f)::(114,b6h)::(112,b6V)::[]
theorem a9B{ρ:Env}(h:Sees ρ KR 93):CtOk Tryz.prog ρ c0q:= .cons (c9L (a6d h))<| .cons (c2N (a6d h))<| .cons (b7I h)<| .cons (c0p h) .nil
def b2L:TT j4:=
(.ob (.tru (.fn 1 (.i (.var 0) (.i (.var 1) (.i (.var 4) (.i (.var 5) (.i (.var 6) (.i (.var 7) .nil))))))))
(.ite (.fn 4 (.i (.var 0) (.i (.var 1) (.i (.var 4) (.i (.var 5) (.i (.var 6) (.i (.var 7) .nil)))))))
 (.ret ((.v (.one (.z (.bool (.lit true))))),[],4))
 (.ob (.tru (.fn 1 (.i (.var 2) (.i (.var 3) (.i (.var 4) (.i (.var 5) (.i (.var 6) (.i (.var 7) .nil))))))))
 (.ite (.fn 4 (.i (.var 2) (.i (.var 3) (.i (.var 4) (.i (.var 5) (.i (.var 6) (.i (.var 7) .nil)))))))
 (.ret ((.v (.one (.z (.bool (.lit true))))),[],4))
 (.ob (.tru (.fn 1 (.i (.var 4) (.i (.var 5) (.i (.var 0) (.i (.var 1) (.i (.var 2) (.i (.var 3) .nil))))))))
 (.ite (.fn 4 (.i (.var 4) (.i (.var 5) (.i (.var 0) (.i (.var 1) (.i (.var 2) (.i (.var 3) .nil)))))))
 (.ret ((.v (.one (.z (.bool (.lit true))))),[],4))
 (.ob (.tru (.fn 1 (.i (.var 6) (.i (.var 7) (.i (.var 0) (.i (.var 1) (.i (.var 2) (.i (.var 3) .nil))))))))
 (.ite (.fn 4 (.i (.var 6) (.i (.var 7) (.i (.var 0) (.i (.var 1) (.i (.var 2) (.i (.var 3) .nil)))))))
 (.ret ((.v (.one (.z (.bool (.lit true))))),[],4))
 (.ite (.cmp .lss (.ar .mul .i64 (.fn 90 (.i (.ar .sub .i64 (.ar .mul .i64 (.ar .sub .i64 (.var 2) (.var 0)) (.ar .sub .i64 (.var 5) (.var 1))) (.ar .mul .i64 (.ar .sub .i64 (.var 3) (.var 1)) (.ar .sub .i64 (.var 4) (.var 0)))) .nil)) (.fn 90 (.i (.ar .sub .i64 (.ar .mul .i64 (.ar .sub .i64 (.var 2) (.var 0)) (.ar .sub .i64 (.var 7) (.var 1))) (.ar .mul .i64 (.ar .sub .i64 (.var 3) (.var 1)) (.ar .sub .i64 (.var 6) (.var 0)))) .nil))) (.lit 0))
 (.ret ((.v (.one (.z (.bool (.cmp .lss (.ar .mul .i64 (.fn 90 (.i (.ar .sub .i64 (.ar .mul .i64 (.ar .sub .i64 (.var 6) (.var 4)) (.ar .sub .i64 (.var 1) (.var 5))) (.ar .mul .i64 (.ar .sub .i64 (.var 7) (.var 5)) (.ar .sub .i64 (.var 0) (.var 4)))) .nil)) (.fn 90 (.i (.ar .sub .i64 (.ar .mul .i64 (.ar .sub .i64 (.var 6) (.var 4)) (.ar .sub .i64 (.var 3) (.var 5))) (.ar .mul .i64 (.ar .sub .i64 (.var 7) (.var 5)) (.ar .sub .i64 (.var 2) (.var 4)))) .nil))) (.lit 0)))))),[],36))
 (.ret ((.v (.one (.z (.bool (.lit false))))),[],36)))))))))))
set_option maxRecDepth 100000 in
theorem c1j:T.norm 0 (call Tryz.prog c0q (Lt.of []) 100 89 (g7 0 [pt,pt,pt,pt]) [] 0) TT.ret=b2L:=by kernel_rfl
theorem b7L:b2L.low 1000=true:=by kernel_rfl
def b7O:TT j4:=
(.ite (.cmp .leq (.ar .add .i64 (.ar .mul .i64 (.ar .sub .i64 (.var 4) (.var 2)) (.ar .sub .i64 (.var 0) (.var 2))) (.ar .mul .i64 (.ar .sub .i64 (.var 5) (.var 3)) (.ar .sub .i64 (.var 1) (.var 3)))) (.lit 0))
 (.ret ((.v (.one (.z (.bool (.cmp .leq (.ar .add .i64 (.ar .mul .i64 (.ar .sub .i64 (.var 0) (.var 2)) (.ar .sub .i64 (.var 0) (.var 2))) (.ar .mul .i64 (.ar .sub .i64 (.var 1) (.var 3)) (.ar .sub .i64 (.var 1) (.var 3)))) (.ar .mul .i64 (.var 6) (.var 6))))))),[],17))
 (.ite (.cmp .geq (.ar .add .i64 (.ar .mul .i64 (.ar .sub .i64 (.var 4) (.var 2)) (.ar .sub .i64 (.var 0) (.var 2))) (.ar .mul .i64 (.ar .sub .i64 (.var 5) (.var 3)) (.ar .sub .i64 (.var 1) (.var 3)))) (.ar .add .i64 (.ar .mul .i64 (.ar .sub .i64 (.var 4) (.var 2)) (.ar .sub .i64 (.var 4) (.var 2))) (.ar .mul .i64 (.ar .sub .i64 (.var 5) (.var 3)) (.ar .sub .i64 (.var 5) (.var 3)))))
 (.ret ((.v (.one (.z (.bool (.cmp .leq (.ar .add .i64 (.ar .mul .i64 (.ar .sub .i64 (.var 4) (.var 0)) (.ar .sub .i64 (.var 4) (.var 0))) (.ar .mul .i64 (.ar .sub .i64 (.var 5) (.var 1)) (.ar .sub .i64 (.var 5) (.var 1)))) (.ar .mul .i64 (.var 6) (.var 6))))))),[],25))
 (.ob (.tru (.cmp .leq (.lit 0) (.mx (.ar .sub .i64 (.ar .mul .i64 (.ar .sub .i64 (.var 4) (.var 2)) (.ar .sub .i64 (.var 1) (.var 3))) (.ar .mul .i64 (.ar .sub .i64 (.var 5) (.var 3)) (.ar .sub .i64 (.var 0) (.var 2)))) (.ar .sub .i64 (.lit 0) (.ar .sub .i64 (.ar .mul .i64 (.ar .sub .i64 (.var 4) (.var 2)) (.ar .sub .i64 (.var 1) (.var 3))) (.ar .mul .i64 (.ar .sub .i64 (.var 5) (.var 3)) (.ar .sub .i64 (.var 0) (.var 2))))))))
 (.ob (.tru (.cmp .lss (.mx (.ar .sub .i64 (.ar .mul .i64 (.ar .sub .i64 (.var 4) (.var 2)) (.ar .sub .i64 (.var 1) (.var 3))) (.ar .mul .i64 (.ar .sub .i64 (.var 5) (.var 3)) (.ar .sub .i64 (.var 0) (.var 2)))) (.ar .sub .i64 (.lit 0) (.ar .sub .i64 (.ar .mul .i64 (.ar .sub .i64 (.var 4) (.var 2)) (.ar .sub .i64 (.var 1) (.var 3))) (.ar .mul .i64 (.ar .sub .i64 (.var 5) (.var 3)) (.ar .sub .i64 (.var 0) (.var 2)))))) (.lit 17592186044416)))
 (.ob (.tru (.cmp .leq (.lit 0) (.mx (.ar .sub .i64 (.ar .mul .i64 (.ar .sub .i64 (.var 4) (.var 2)) (.ar .sub .i64 (.var 1) (.var 3))) (.ar .mul .i64 (.ar .sub .i64 (.var 5) (.var 3)) (.ar .sub .i64 (.var 0) (.var 2)))) (.ar .sub .i64 (.lit 0) (.ar .sub .i64 (.ar .mul .i64 (.ar .sub .i64 (.var 4) (.var 2)) (.ar .sub .i64 (.var 1) (.var 3))) (.ar .mul .i64 (.ar .sub .i64 (.var 5) (.var 3)) (.ar .sub .i64 (.var 0) (.var 2))))))))
 (.ob (.tru (.cmp .lss (.mx (.ar .sub .i64 (.ar .mul .i64 (.ar .sub .i64 (.var 4) (.var 2)) (.ar .sub .i64 (.var 1) (.var 3))) (.ar .mul .i64 (.ar .sub .i64 (.var 5) (.var 3)) (.ar .sub .i64 (.var 0) (.var 2)))) (.ar .sub .i64 (.lit 0) (.ar .sub .i64 (.ar .mul .i64 (.ar .sub .i64 (.var 4) (.var 2)) (.ar .sub .i64 (.var 1) (.var 3))) (.ar .mul .i64 (.ar .sub .i64 (.var 5) (.var 3)) (.ar .sub .i64 (.var 0) (.var 2)))))) (.lit 17592186044416)))
 (.ob (.tru (.cmp .leq (.lit 0) (.ar .mul .i64 (.var 6) (.var 6))))
 (.ob (.tru (.cmp .lss (.ar .mul .i64 (.var 6) (.var 6)) (.lit 17592186044416)))
 (.ob (.tru (.cmp .leq (.lit 0) (.ar .add .i64 (.ar .mul .i64 (.ar .sub .i64 (.var 4) (.var 2)) (.ar .sub .i64 (.var 4) (.var 2))) (.ar .mul .i64 (.ar .sub .i64 (.var 5) (.var 3)) (.ar .sub .i64 (.var 5) (.var 3))))))
 (.ob (.tru (.cmp .lss (.ar .add .i64 (.ar .mul .i64 (.ar .sub .i64 (.var 4) (.var 2)) (.ar .sub .i64 (.var 4) (.var 2))) (.ar .mul .i64 (.ar .sub .i64 (.var 5) (.var 3)) (.ar .sub .i64 (.var 5) (.var 3)))) (.lit 17592186044416)))
 (.ite (.cmp .lss (.fn 91 (.i (.mx (.ar .sub .i64 (.ar .mul .i64 (.ar .sub .i64 (.var 4) (.var 2)) (.ar .sub .i64 (.var 1) (.var 3))) (.ar .mul .i64 (.ar .sub .i64 (.var 5) (.var 3)) (.ar .sub .i64 (.var 0) (.var 2)))) (.ar .sub .i64 (.lit 0) (.ar .sub .i64 (.ar .mul .i64 (.ar .sub .i64 (.var 4) (.var 2)) (.ar .sub .i64 (.var 1) (.var 3))) (.ar .mul .i64 (.ar .sub .i64 (.var 5) (.var 3)) (.ar .sub .i64 (.var 0) (.var 2)))))) (.i (.mx (.ar .sub .i64 (.ar .mul .i64 (.ar .sub .i64 (.var 4) (.var 2)) (.ar .sub .i64 (.var 1) (.var 3))) (.ar .mul .i64 (.ar .sub .i64 (.var 5) (.var 3)) (.ar .sub .i64 (.var 0) (.var 2)))) (.ar .sub .i64 (.lit 0) (.ar .sub .i64 (.ar .mul .i64 (.ar .sub .i64 (.var 4) (.var 2)) (.ar .sub .i64 (.var 1) (.var 3))) (.ar .mul .i64 (.ar .sub .i64 (.var 5) (.var 3)) (.ar .sub .i64 (.var 0) (.var 2)))))) .nil))) (.fn 91 (.i (.ar .mul .i64 (.var 6) (.var 6)) (.i (.ar .add .i64 (.ar .mul .i64 (.ar .sub .i64 (.var 4) (.var 2)) (.ar .sub .i64 (.var 4) (.var 2))) (.ar .mul .i64 (.ar .sub .i64 (.var 5) (.var 3)) (.ar .sub .i64 (.var 5) (.var 3)))) .nil))))
 (.ret ((.v (.one (.z (.bool (.lit true))))),[],19))
 (.ite (.cmp .eql (.fn 91 (.i (.mx (.ar .sub .i64 (.ar .mul .i64 (.ar .sub .i64 (.var 4) (.var 2)) (.ar .sub .i64 (.var 1) (.var 3))) (.ar .mul .i64 (.ar .sub .i64 (.var 5) (.var 3)) (.ar .sub .i64 (.var 0) (.var 2)))) (.ar .sub .i64 (.lit 0) (.ar .sub .i64 (.ar .mul .i64 (.ar .sub .i64 (.var 4) (.var 2)) (.ar .sub .i64 (.var 1) (.var 3))) (.ar .mul .i64 (.ar .sub .i64 (.var 5) (.var 3)) (.ar .sub .i64 (.var 0) (.var 2)))))) (.i (.mx (.ar .sub .i64 (.ar .mul .i64 (.ar .sub .i64 (.var 4) (.var 2)) (.ar .sub .i64 (.var 1) (.var 3))) (.ar .mul .i64 (.ar .sub .i64 (.var 5) (.var 3)) (.ar .sub .i64 (.var 0) (.var 2)))) (.ar .sub .i64 (.lit 0) (.ar .sub .i64 (.ar .mul .i64 (.ar .sub .i64 (.var 4) (.var 2)) (.ar .sub .i64 (.var 1) (.var 3))) (.ar .mul .i64 (.ar .sub .i64 (.var 5) (.var 3)) (.ar .sub .i64 (.var 0) (.var 2)))))) .nil))) (.fn 91 (.i (.ar .mul .i64 (.var 6) (.var 6)) (.i (.ar .add .i64 (.ar .mul .i64 (.ar .sub .i64 (.var 4) (.var 2)) (.ar .sub .i64 (.var 4) (.var 2))) (.ar .mul .i64 (.ar .sub .i64 (.var 5) (.var 3)) (.ar .sub .i64 (.var 5) (.var 3)))) .nil))))
 (.ret ((.v (.one (.z (.bool (.cmp .leq (.fn 92 (.i (.mx (.ar .sub .i64 (.ar .mul .i64 (.ar .sub .i64 (.var 4) (.var 2)) (.ar .sub .i64 (.var 1) (.var 3))) (.ar .mul .i64 (.ar .sub .i64 (.var 5) (.var 3)) (.ar .sub .i64 (.var 0) (.var 2)))) (.ar .sub .i64 (.lit 0) (.ar .sub .i64 (.ar .mul .i64 (.ar .sub .i64 (.var 4) (.var 2)) (.ar .sub .i64 (.var 1) (.var 3))) (.ar .mul .i64 (.ar .sub .i64 (.var 5) (.var 3)) (.ar .sub .i64 (.var 0) (.var 2)))))) (.i (.mx (.ar .sub .i64 (.ar .mul .i64 (.ar .sub .i64 (.var 4) (.var 2)) (.ar .sub .i64 (.var 1) (.var 3))) (.ar .mul .i64 (.ar .sub .i64 (.var 5) (.var 3)) (.ar .sub .i64 (.var 0) (.var 2)))) (.ar .sub .i64 (.lit 0) (.ar .sub .i64 (.ar .mul .i64 (.ar .sub .i64 (.var 4) (.var 2)) (.ar .sub .i64 (.var 1) (.var 3))) (.ar .mul .i64 (.ar .sub .i64 (.var 5) (.var 3)) (.ar .sub .i64 (.var 0) (.var 2)))))) .nil))) (.fn 92 (.i (.ar .mul .i64 (.var 6) (.var 6)) (.i (.ar .add .i64 (.ar .mul .i64 (.ar .sub .i64 (.var 4) (.var 2)) (.ar .sub .i64 (.var 4) (.var 2))) (.ar .mul .i64 (.ar .sub .i64 (.var 5) (.var 3)) (.ar .sub .i64 (.var 5) (.var 3)))) .nil)))))))),[],19))
 (.ret ((.v (.one (.z (.bool (.lit false))))),[],19))))))))))))))
set_option maxRecDepth 100000 in
theorem c4d:T.norm 0 (call Tryz.prog c0q (Lt.of []) 100 85 (g7 0 [pt,pt,pt,it]) [] 0) TT.ret=b7O:=by kernel_rfl
theorem c2B:b7O.low 1000=true:=by kernel_rfl
def b3h:TT j4:=
(.ite (.cmp .geq (.var 0) (.lit (-1000000)))
 (.ite (.cmp .leq (.var 0) (.var 1))
 (.ite (.cmp .geq (.var 2) (.lit (-1000000)))
 (.ite (.cmp .leq (.var 2) (.var 3))
 (.ite (.cmp .leq (.var 1) (.lit 1000000))
 (.ret ((.v (.one (.z (.bool (.cmp .leq (.var 3) (.lit 1000000)))))),[],3))
 (.ret ((.v (.one (.z (.bool (.lit false))))),[],3)))
 (.ite (.cmp .leq (.var 1) (.lit 1000000))
 (.ret ((.v (.one (.z (.bool (.lit false))))),[],3))
 (.ret ((.v (.one (.z (.bool (.lit false))))),[],3))))
 (.ite (.cmp .leq (.var 1) (.lit 1000000))
 (.ret ((.v (.one (.z (.bool (.lit false))))),[],3))
 (.ret ((.v (.one (.z (.bool (.lit false))))),[],3))))
 (.ite (.cmp .geq (.var 2) (.lit (-1000000)))
 (.ite (.cmp .leq (.var 2) (.var 3))
 (.ret ((.v (.one (.z (.bool (.lit false))))),[],3))
 (.ret ((.v (.one (.z (.bool (.lit false))))),[],3)))
 (.ret ((.v (.one (.z (.bool (.lit false))))),[],3))))
 (.ite (.cmp .geq (.var 2) (.lit (-1000000)))
 (.ite (.cmp .leq (.var 2) (.var 3))
 (.ret ((.v (.one (.z (.bool (.lit false))))),[],3))
 (.ret ((.v (.one (.z (.bool (.lit false))))),[],3)))
 (.ret ((.v (.one (.z (.bool (.lit false))))),[],3))))
set_option maxRecDepth 100000 in
theorem c0P:T.norm 0 (call Tryz.prog [] (Lt.of []) 100 43 (g7 0 [bx]) [] 0) TT.ret=b3h:=by kernel_rfl
theorem b8t:b3h.low 1000=true:=by kernel_rfl
theorem d5V(W:World)(ds l:List D):(a9 KR W ds).fb 1 l=u0 l:=by simp only[a9,KR,KG,KF,KE,KD,KC,KB,KA,K9,K8,K7,K6,K5,K]
theorem d6u(W:World)(ds l:List D):(a9 KR W ds).fb 4 l=onL l:=by simp only[a9,KR,KG,KF,KE,KD,KC,KB,KA,K9,K8,K7,K6,K5,K]
theorem d4Z(W:World)(ds l:List D):(a9 KR W ds).fi 90 l=a5g l:=by simp only[a9,KR]
theorem d4Q(W:World)(ds l:List D):(a9 KR W ds).fi 91 l=a4K l:=by simp only[a9,KR]
theorem d4U(W:World)(ds l:List D):(a9 KR W ds).fi 92 l=a5p l:=by simp only[a9,KR]
theorem b6F(n:Int):a5g [.i n]=J9 n:=rfl
theorem b4E(a b:Int):a4K [.i a,.i b]=a*b/17592186044416:=rfl
theorem b2V(a b:Int):a5p [.i a,.i b]=a*b % 17592186044416:=rfl
theorem d4w:GivesIf Tryz.prog 89 [pt,pt,pt,pt] (fun ds=>D9 ds=true) (fun ds=> .bool (G8 ds)):=by
 refine i7 KR (by kernel_rfl) (fun ρ h=>a9B (Sees.of h 93)) (by kernel_rfl) c1j b7L (by decide) (fun W vals ds _ hok=> ?_)
 simp only[D9,Bool.and_eq_true] at hok
 obtain⟨a,b,c,d⟩:=hok
 have a':=z0.mp a
 have b':=z0.mp b
 have c':=z0.mp c
 have d':=z0.mp d
 simp only[b2L,g9,Nat.reduceBEq,Nat.reduceLT,Nat.reduceSub,d5V,d6u,d4Z,R7,a8m,b6F]
 simp only[o0 b'.1 a'.1,o0 c'.2 a'.2,o0 b'.2 a'.2,o0 c'.1 a'.1,o0 d'.2 a'.2,o0 d'.1 a'.1,o0 d'.1 c'.1,o0 a'.2 c'.2,o0 d'.2 c'.2,o0 a'.1 c'.1,o0 b'.2 c'.2,o0 b'.1 c'.1,
  G6 b'.1 a'.1 c'.2 a'.2,G6 b'.2 a'.2 c'.1 a'.1,G6 b'.1 a'.1 d'.2 a'.2,G6 b'.2 a'.2 d'.1 a'.1,G6 d'.1 c'.1 a'.2 c'.2,G6 d'.2 c'.2 a'.1 c'.1,G6 d'.1 c'.1 b'.2 c'.2,G6 d'.2 c'.2 b'.1 c'.1,
  (T1 b'.1 a'.1 c'.2 a'.2 b'.2 a'.2 c'.1 a'.1).1,(T1 b'.1 a'.1 d'.2 a'.2 b'.2 a'.2 d'.1 a'.1).1,(T1 d'.1 c'.1 a'.2 c'.2 d'.2 c'.2 a'.1 c'.1).1,(T1 d'.1 c'.1 b'.2 c'.2 d'.2 c'.2 b'.1 c'.1).1]
 have w:∀m n:Int,IntKind.i64.wrap (J9 m*J9 n)=J9 m*J9 n:=fun m n=>by
  have:=a9c m
  have:=a9c n
  have:=N8 (a:=J9 m) (b:=J9 n) (A:=1) (B:=1) (by omega) (by omega) (by omega) (by omega)
  exact b8 _ (by omega) (by omega)
 simp only[w,G8,n9,z6,a8,a,b,c,d,Bool.and_self,true_and]
 refine⟨fun h1=> ?_,fun h1=>⟨fun h2=> ?_,fun h2=>⟨fun h3=> ?_,fun h3=>⟨fun h4=> ?_,fun h4=>⟨fun h5=> ?_,fun h5=> ?_⟩⟩⟩⟩⟩
 ·rw[h1];simp
 ·rw[h2];simp
 ·rw[h3];simp
 ·rw[h4];simp
 ·rw[h1,h2,h3,h4];simp [h5,B6]
 ·rw[h1,h2,h3,h4];simp [h5]
theorem a0C{a b c d:Int}:(a*b/17592186044416<c*d/17592186044416∨(a*b/17592186044416=c*d/17592186044416∧a*b % 17592186044416≤c*d % 17592186044416))↔a*b≤c*d:=by
 generalize a*b=x
 generalize c*d=y
 omega
theorem d6r:GivesIf Tryz.prog 85 [pt,pt,pt,it] (fun ds=>a3I ds=true) (fun ds=> .bool (J1 ds)):=by
 refine i7 KR (by kernel_rfl) (fun ρ h=>a9B (Sees.of h 93)) (by kernel_rfl) c4d c2B (by decide) (fun W vals ds _ hok=> ?_)
 simp only[a3I,Bool.and_eq_true,A5,decide_eq_true_eq] at hok
 obtain⟨hok,h6⟩:=hok
 obtain⟨h0,h1,h2,h3,h4,h5⟩:=a1U hok
 simp only[b7O,g9,Nat.reduceBEq,Nat.reduceLT,Nat.reduceSub,d4Q,d4U,b4E,b2V]
 have c0:=b9L h6
 have d1:=o6 h0 h2 h0 h2
 have d2:=o6 h1 h3 h1 h3
 have d3:=o6 h4 h0 h4 h0
 have d4:=o6 h5 h1 h5 h1
 have d5:=o6 h4 h2 h4 h2
 have d6:=o6 h5 h3 h5 h3
 have d7:=o6 h4 h2 h1 h3
 have d8:=o6 h5 h3 h0 h2
 have n1:=D3 (a7 ds 0-a7 ds 2)
 have n2:=D3 (a7 ds 1-a7 ds 3)
 have n5:=D3 (a7 ds 4-a7 ds 2)
 have n6:=D3 (a7 ds 5-a7 ds 3)
 simp only[o0 h4 h2,o0 h0 h2,o0 h5 h3,o0 h1 h3,o0 h4 h0,o0 h5 h1,G6 h4 h2 h0 h2,G6 h5 h3 h1 h3,d1.1,d2.1,d3.1,d4.1,d5.1,d6.1,d7.1,d8.1,L5 h4 h2 h0 h2 h5 h3 h1 h3,
  L5 h0 h2 h0 h2 h1 h3 h1 h3,L5 h4 h0 h4 h0 h5 h1 h5 h1,L5 h4 h2 h4 h2 h5 h3 h5 h3,(T1 h4 h2 h1 h3 h5 h3 h0 h2).1,(T1 h4 h2 h1 h3 h5 h3 h0 h2).2,c0.1,b1P]
 have D2:l9 (a7 ds 4) (a7 ds 5) (a7 ds 0) (a7 ds 1)=(a7 ds 4-a7 ds 0)*(a7 ds 4-a7 ds 0)+(a7 ds 5-a7 ds 1)*(a7 ds 5-a7 ds 1):=by unfold l9;grind
 refine⟨fun h=> ?_,fun h=>⟨fun h'=> ?_,fun h'=>⟨?_,?_,?_,?_,?_,?_,?_,?_,fun m=> ?_,fun m=>⟨fun m'=> ?_,fun m'=> ?_⟩⟩⟩⟩
 ·unfold J1 A9 F7
  rw[if_pos h]
  congr 1
 ·unfold J1 A9 F7
  rw[if_neg h,if_pos (show l9 _ _ _ _≤_ by unfold l9;exact h'),D2]
  congr 1
 case refine_11=>
  unfold J1 A9 F7
  rw[if_neg h,if_neg (show ¬l9 _ _ _ _≤_ by unfold l9;exact h'),decide_eq_true (by unfold a8 l9;exact a0C.mp (.inl m))]
 case refine_12=>
  unfold J1 A9 F7
  rw[if_neg h,if_neg (show ¬l9 _ _ _ _≤_ by unfold l9;exact h')]
  congr 1
  rw[Bool.eq_iff_iff,n8,decide_eq_true_eq]
  unfold a8 l9
  rw[←a0C]
  simp only[j8]
  omega
 case refine_13=>
  unfold J1 A9 F7
  rw[if_neg h,if_neg (show ¬l9 _ _ _ _≤_ by unfold l9;exact h'),decide_eq_false (by unfold a8 l9;rw[←a0C];omega)]
 all_goals omega
theorem d4a:m8 Tryz.prog 43 [bx] (fun ds=> .bool (S4 ds)):=by
 refine GivesIf.all (i7 KR (by kernel_rfl) (fun ρ h=> .nil) (by kernel_rfl) c0P b8t (by decide) (fun W vals ds _ _=> ?_))
 simp only[b3h,g9,Nat.reduceBEq,Nat.reduceLT,Nat.reduceSub]
 simp only[S4,o8]
 (repeat' (first | (intro h;skip) | (refine And.intro ?_ ?_)))
 all_goals (congr 1;rw[Bool.eq_iff_iff];try rw[n8])
 all_goals (simp only[j8,decide_eq_true_eq,Bool.false_eq_true,false_iff];omega)
def inL(ds:List D):Bool:=decide (a7 ds 0≤a7 ds 4∧a7 ds 4≤a7 ds 1∧a7 ds 2≤a7 ds 5∧a7 ds 5≤a7 ds 3)
def upL(ds:List D):Int:=(a7 ds 0+a7 ds 1-1).tdiv (a7 ds 1)
def d4D(ds:List D):Int:=c7v (a7 ds 0)
def KT:Interp where
 fi n l:=match n with | 94=>upL l | 95=>d4D l | n=>KR.fi n l
 fb n l:=match n with | 93=>inL l | n=>KR.fb n l
 fd _ _:=[]
theorem a8Y{ρ:Env}(h:Sees ρ KT 96):Sees ρ KR 93:=h.trans (by decide) fun n l hn=>by
 refine⟨?_,?_⟩
 ·
  simp only[KT]
  split<;>first | omega | rfl
 ·
  simp only[KT]
  split<;>first | omega | rfl
def b8K:=u7 [bx] fun al=> .ret (bV (bF 31 S4 al))
theorem b3X{ρ:Env}(h:Sees ρ KG 80):i9 Tryz.prog ρ 43 b8K:=
 j7 d4a (fun _=>rfl) (fun al=>by simp only[iV,bV,V.s0,V.val,V2.val,S.val,S0.val,m9 (s:=31) (f:=S4) (fun l=>by rw[(h 31 l (by decide)).2];simp only[KG,KF,KE,KD,KC,KB,KA,K9,K8,K7,K6,K5,K])];try rfl)
def b6J:=u7 [pt,pt,pt,pt] fun al=> .ob (.tru (bF 5 D9 al)) (.ret (bV (bF 6 G8 al)))
theorem c4q{ρ:Env}(h:Sees ρ KG 80):i9 Tryz.prog ρ 89 b6J:=by
 refine C7 d4w (fun al v hv=> ?_)
 obtain⟨ho,hv⟩:=hv
 obtain rfl:=c9 hv
 have ho:(bF 5 D9 al).ev ρ=true:=ho
 rw[m9 (fun l=>by rw[(h 5 l (by decide)).2];simp only[KG,KF,KE,KD,KC,KB,KA,K9,K8,K7,K6,K5,K])] at ho
 refine⟨rfl,ho,?_⟩
 simp only[bV,V.s0,V.val,V2.val,S.val,S0.val,m9 (s:=6) (f:=G8) (fun l=>by rw[(h 6 l (by decide)).2];simp only[KG,KF,KE,KD,KC,KB,KA,K9,K8,K7,K6,K5,K])]
theorem c9o{ρ:Env}(h:Sees ρ KG 80):i9 Tryz.prog ρ 85 a8F:=by
 refine C7 d6r (fun al v hv=> ?_)
 have h1:∀l,ρ.fb 1 l=u0 l:=fun l=>by rw[(h 1 l (by decide)).2];simp only[KG,KF,KE,KD,KC,KB,KA,K9,K8,K7,K6,K5,K]
 have h2:∀l,ρ.fb 2 l=J1 l:=fun l=>by rw[(h 2 l (by decide)).2];simp only[KG,KF,KE,KD,KC,KB,KA,K9,K8,K7,K6,K5,K]
 unfold b2l at hv
 split at hv
 ·rename_i a b c d e f r
  obtain⟨ho,hv⟩:=T.res_obs hv
  obtain rfl:=c9 hv
  have o1:=ho _ (List.mem_cons_self ..)
  have o2:=ho _ (List.mem_cons_of_mem _ (List.mem_cons_self ..))
  have o3:=ho _ (List.mem_cons_of_mem _ (List.mem_cons_of_mem _ (List.mem_cons_self ..)))
  simp only[Ob.ok,B.cmpS_ev,n8,j8,E.ev,B.ev,AL.ev,h1] at o1 o2 o3
  refine⟨rfl,?_,?_⟩
  ·show(u0 _&&A5 (r.ev ρ))=true
   rw[Bool.and_eq_true,A5,decide_eq_true_eq]
   exact⟨o1,o2,o3⟩
  ·simp only[bV,V.s0,V.val,V2.val,S.val,S0.val,B.ev,h2]
   try rfl
 ·exact hv.elim
def b0p:Ct:=(43,b8K)::(89,b6J)::(85,a8F)::c0q
theorem a3k{ρ:Env}(h:Sees ρ KT 96):CtOk Tryz.prog ρ b0p:= .cons (b3X (a6d (a8Y h)))<| .cons (c4q (a6d (a8Y h)))<| .cons (c9o (a6d (a8Y h)))<|(a9B (a8Y h))
def b9A:TT j4:=
(.ret ((.v (.one (.z (.int .i64 (.fn 90 (.i (.ar .sub .i64 (.ar .mul .i64 (.ar .sub .i64 (.var 2) (.var 0)) (.ar .sub .i64 (.var 5) (.var 1))) (.ar .mul .i64 (.ar .sub .i64 (.var 3) (.var 1)) (.ar .sub .i64 (.var 4) (.var 0)))) .nil)))))),[],11))
set_option maxRecDepth 100000 in
theorem c5g:T.norm 0 (call Tryz.prog b0p (Lt.of []) 100 105 (g7 0 [pt,pt,pt]) [] 0) TT.ret=b9A:=by kernel_rfl
theorem c0F:b9A.low 1000=true:=by kernel_rfl
def b7E:TT j4:=
(.ite (.cmp .lss (.var 0) (.var 2))
 (.ret ((.v (.one (.z (.bool (.lit true))))),[],2))
 (.ite (.cmp .eql (.var 0) (.var 2))
 (.ret ((.v (.one (.z (.bool (.cmp .lss (.var 1) (.var 3)))))),[],2))
 (.ret ((.v (.one (.z (.bool (.lit false))))),[],2))))
set_option maxRecDepth 100000 in
theorem c4l:T.norm 0 (call Tryz.prog b0p (Lt.of []) 100 104 (g7 0 [pt,pt]) [] 0) TT.ret=b7E:=by kernel_rfl
theorem c3O:b7E.low 1000=true:=by kernel_rfl
def b8l:TT j4:=
(.loop 0 1000 ⟨[(0,(.lit 0))],[],[]⟩
 (.ite (.cmp .lss (.var 1000) (.len (.var 0)))
 (.loop 1 2000 ⟨[(0,(.ar .add .i64 (.var 1000) (.lit 2)))],[],[]⟩
 (.ite (.cmp .lss (.var 2000) (.len (.var 0)))
 (.ite (.cmp .gtr (.var 1000) (.lit 0))
 (.ob (.tru (.cmp .leq (.lit 0) (.var 1000)))
 (.ob (.tru (.cmp .lss (.var 1000) (.len (.var 0))))
 (.ob (.tru (.cmp .neq (.len (.var 0)) (.lit 0)))
 (.ob (.tru (.cmp .leq (.lit 0) (.ar .rem .i64 (.ar .add .i64 (.var 1000) (.lit 1)) (.len (.var 0)))))
 (.ob (.tru (.cmp .lss (.ar .rem .i64 (.ar .add .i64 (.var 1000) (.lit 1)) (.len (.var 0))) (.len (.var 0))))
 (.ob (.tru (.cmp .leq (.lit 0) (.var 2000)))
 (.ob (.tru (.cmp .lss (.var 2000) (.len (.var 0))))
 (.ob (.tru (.cmp .neq (.len (.var 0)) (.lit 0)))
 (.ob (.tru (.cmp .leq (.lit 0) (.ar .rem .i64 (.ar .add .i64 (.var 2000) (.lit 1)) (.len (.var 0)))))
 (.ob (.tru (.cmp .lss (.ar .rem .i64 (.ar .add .i64 (.var 2000) (.lit 1)) (.len (.var 0))) (.len (.var 0))))
 (.ob (.tru (.fn 5 (.i (.rd (.var 0) (.var 1000) 0) (.i (.rd (.var 0) (.var 1000) 1) (.i (.rd (.var 0) (.ar .rem .i64 (.ar .add .i64 (.var 1000) (.lit 1)) (.len (.var 0))) 0) (.i (.rd (.var 0) (.ar .rem .i64 (.ar .add .i64 (.var 1000) (.lit 1)) (.len (.var 0))) 1) (.i (.rd (.var 0) (.var 2000) 0) (.i (.rd (.var 0) (.var 2000) 1) (.i (.rd (.var 0) (.ar .rem .i64 (.ar .add .i64 (.var 2000) (.lit 1)) (.len (.var 0))) 0) (.i (.rd (.var 0) (.ar .rem .i64 (.ar .add .i64 (.var 2000) (.lit 1)) (.len (.var 0))) 1) .nil))))))))))
 (.ite (.fn 6 (.i (.rd (.var 0) (.var 1000) 0) (.i (.rd (.var 0) (.var 1000) 1) (.i (.rd (.var 0) (.ar .rem .i64 (.ar .add .i64 (.var 1000) (.lit 1)) (.len (.var 0))) 0) (.i (.rd (.var 0) (.ar .rem .i64 (.ar .add .i64 (.var 1000) (.lit 1)) (.len (.var 0))) 1) (.i (.rd (.var 0) (.var 2000) 0) (.i (.rd (.var 0) (.var 2000) 1) (.i (.rd (.var 0) (.ar .rem .i64 (.ar .add .i64 (.var 2000) (.lit 1)) (.len (.var 0))) 0) (.i (.rd (.var 0) (.ar .rem .i64 (.ar .add .i64 (.var 2000) (.lit 1)) (.len (.var 0))) 1) .nil)))))))))
 (.ret ((.v (.one (.z (.bool (.lit false))))),[],4))
 (.next 1 ⟨[(0,(.ar .add .i64 (.var 2000) (.lit 1)))],[],[]⟩)))))))))))))
 (.ite (.cmp .lss (.var 2000) (.ar .sub .i64 (.len (.var 0)) (.lit 1)))
 (.ob (.tru (.cmp .leq (.lit 0) (.var 1000)))
 (.ob (.tru (.cmp .lss (.var 1000) (.len (.var 0))))
 (.ob (.tru (.cmp .neq (.len (.var 0)) (.lit 0)))
 (.ob (.tru (.cmp .leq (.lit 0) (.ar .rem .i64 (.ar .add .i64 (.var 1000) (.lit 1)) (.len (.var 0)))))
 (.ob (.tru (.cmp .lss (.ar .rem .i64 (.ar .add .i64 (.var 1000) (.lit 1)) (.len (.var 0))) (.len (.var 0))))
 (.ob (.tru (.cmp .leq (.lit 0) (.var 2000)))
 (.ob (.tru (.cmp .lss (.var 2000) (.len (.var 0))))
 (.ob (.tru (.cmp .neq (.len (.var 0)) (.lit 0)))
 (.ob (.tru (.cmp .leq (.lit 0) (.ar .rem .i64 (.ar .add .i64 (.var 2000) (.lit 1)) (.len (.var 0)))))
 (.ob (.tru (.cmp .lss (.ar .rem .i64 (.ar .add .i64 (.var 2000) (.lit 1)) (.len (.var 0))) (.len (.var 0))))
 (.ob (.tru (.fn 5 (.i (.rd (.var 0) (.var 1000) 0) (.i (.rd (.var 0) (.var 1000) 1) (.i (.rd (.var 0) (.ar .rem .i64 (.ar .add .i64 (.var 1000) (.lit 1)) (.len (.var 0))) 0) (.i (.rd (.var 0) (.ar .rem .i64 (.ar .add .i64 (.var 1000) (.lit 1)) (.len (.var 0))) 1) (.i (.rd (.var 0) (.var 2000) 0) (.i (.rd (.var 0) (.var 2000) 1) (.i (.rd (.var 0) (.ar .rem .i64 (.ar .add .i64 (.var 2000) (.lit 1)) (.len (.var 0))) 0) (.i (.rd (.var 0) (.ar .rem .i64 (.ar .add .i64 (.var 2000) (.lit 1)) (.len (.var 0))) 1) .nil))))))))))
 (.ite (.fn 6 (.i (.rd (.var 0) (.var 1000) 0) (.i (.rd (.var 0) (.var 1000) 1) (.i (.rd (.var 0) (.ar .rem .i64 (.ar .add .i64 (.var 1000) (.lit 1)) (.len (.var 0))) 0) (.i (.rd (.var 0) (.ar .rem .i64 (.ar .add .i64 (.var 1000) (.lit 1)) (.len (.var 0))) 1) (.i (.rd (.var 0) (.var 2000) 0) (.i (.rd (.var 0) (.var 2000) 1) (.i (.rd (.var 0) (.ar .rem .i64 (.ar .add .i64 (.var 2000) (.lit 1)) (.len (.var 0))) 0) (.i (.rd (.var 0) (.ar .rem .i64 (.ar .add .i64 (.var 2000) (.lit 1)) (.len (.var 0))) 1) .nil)))))))))
 (.ret ((.v (.one (.z (.bool (.lit false))))),[],4))
 (.next 1 ⟨[(0,(.ar .add .i64 (.var 2000) (.lit 1)))],[],[]⟩)))))))))))))
 (.next 1 ⟨[(0,(.ar .add .i64 (.var 2000) (.lit 1)))],[],[]⟩)))
 (.next 0 ⟨[(0,(.ar .add .i64 (.var 1000) (.lit 1)))],[],[]⟩)))
 (.ret ((.v (.one (.z (.bool (.lit true))))),[],4))))
set_option maxRecDepth 100000 in
theorem c4W:T.norm 0 (call Tryz.prog b0p (Lt.of []) 100 106 (g7 0 [A8]) [] 0) TT.ret=b8l:=by kernel_rfl
theorem c2u:b8l.low 1000=true:=by kernel_rfl
def b8Q:TT j4:=
(.loop 0 1000 ⟨[(0,(.lit 0)),(1,(.lit 0))],[],[]⟩
 (.ite (.cmp .lss (.var 1001) (.len (.var 0)))
 (.ob (.tru (.cmp .leq (.lit 0) (.var 1001)))
 (.ob (.tru (.cmp .lss (.var 1001) (.len (.var 0))))
 (.ob (.tru (.cmp .neq (.len (.var 0)) (.lit 0)))
 (.ob (.tru (.cmp .leq (.lit 0) (.ar .rem .i64 (.ar .add .i64 (.var 1001) (.lit 1)) (.len (.var 0)))))
 (.ob (.tru (.cmp .lss (.ar .rem .i64 (.ar .add .i64 (.var 1001) (.lit 1)) (.len (.var 0))) (.len (.var 0))))
 (.next 0 ⟨[(0,(.ar .add .i64 (.var 1000) (.ar .sub .i64 (.ar .mul .i64 (.rd (.var 0) (.var 1001) 0) (.rd (.var 0) (.ar .rem .i64 (.ar .add .i64 (.var 1001) (.lit 1)) (.len (.var 0))) 1)) (.ar .mul .i64 (.rd (.var 0) (.var 1001) 1) (.rd (.var 0) (.ar .rem .i64 (.ar .add .i64 (.var 1001) (.lit 1)) (.len (.var 0))) 0))))),(1,(.ar .add .i64 (.var 1001) (.lit 1)))],[],[]⟩))))))
 (.ret ((.v (.one (.z (.int .i64 (.var 1000))))),[],4))))
set_option maxRecDepth 100000 in
theorem c5a:T.norm 0 (call Tryz.prog b0p (Lt.of []) 100 107 (g7 0 [A8]) [] 0) TT.ret=b8Q:=by kernel_rfl
theorem c2a:b8Q.low 1000=true:=by kernel_rfl
theorem d5T(W:World)(ds l:List D):(a9 KT W ds).fb 5 l=D9 l:=by simp only[a9,KT,KR,KG,KF,KE,KD,KC,KB,KA,K9,K8,K7,K6,K5,K]
theorem d5y(W:World)(ds l:List D):(a9 KT W ds).fb 6 l=G8 l:=by simp only[a9,KT,KR,KG,KF,KE,KD,KC,KB,KA,K9,K8,K7,K6,K5,K]
theorem d4z(W:World)(ds l:List D):(a9 KT W ds).fi 90 l=a5g l:=by simp only[a9,KT,KR]
theorem d6i:GivesIf Tryz.prog 105 [pt,pt,pt] (fun ds=>u0 ds=true) (fun ds=> .int .i64 (J2 ds)):=by
 refine i7 KT (by kernel_rfl) (fun ρ h=>a3k (Sees.of h 96)) (by kernel_rfl) c5g c0F (by decide) (fun W vals ds _ hok=> ?_)
 obtain⟨h0,h1,h2,h3,h4,h5⟩:=a1U hok
 simp only[b9A,g9,Nat.reduceBEq,Nat.reduceLT,Nat.reduceSub,d4z,b6F]
 rw[o0 h2 h0,o0 h5 h1,o0 h3 h1,o0 h4 h0,(o6 h2 h0 h5 h1).1,(o6 h3 h1 h4 h0).1,(T1 h2 h0 h5 h1 h3 h1 h4 h0).1]
 rfl
def a3S(ds:List D):Bool:=Q8 (a7 ds 0) (a7 ds 1) (a7 ds 2) (a7 ds 3)
theorem d5X:m8 Tryz.prog 104 [pt,pt] (fun ds=> .bool (a3S ds)):=by
 refine GivesIf.all (i7 KT (by kernel_rfl) (fun ρ h=>a3k (Sees.of h 96)) (by kernel_rfl) c4l c3O (by decide) (fun W vals ds _ _=> ?_))
 simp only[b7E,g9,Nat.reduceBEq,Nat.reduceLT,Nat.reduceSub]
 simp only[a3S,Q8]
 refine⟨fun h=> ?_,fun h=>⟨fun h'=> ?_,fun h'=> ?_⟩⟩
 all_goals (congr 1;rw[Bool.eq_iff_iff];try rw[n8])
 all_goals (simp only[j8,decide_eq_true_eq,Bool.false_eq_true,false_iff,true_iff];omega)
theorem P0{n i:Nat}(h:i<n)(hn:n≤281474976710656):(IntKind.i64.wrap ((i:Int)+1)).tmod (n:Int)=(nxt n i:Int):=by
 rw[b8 ((i:Int)+1) (by omega) (by omega),Int.tmod_eq_emod_of_nonneg (by omega)]
 unfold nxt
 split
 ·rename_i h1
  rw[show((i:Int)+1)=n by omega,Int.emod_self];rfl
 ·rw[Int.emod_eq_of_lt (by omega) (by omega)];rfl
theorem d6p:m8 Tryz.prog 107 [A8] (fun ds=> .int .i64 (X1 ds)):=by
 refine GivesIf.all (i7 KT (by kernel_rfl) (fun ρ h=>a3k (Sees.of h 96)) (by kernel_rfl) c5a c2a (by decide) (fun W vals ds hr _=> ?_))
 have hlen:=a0D hr
 simp only[b8Q]
 refine TT.sat_loop (fun v=>∃i:Nat,v.i 1=i∧i≤(b9 ds 0).length∧E8 (b9 ds 0) ((b9 ds 0).length-i) i (v.i 0)=E8 (b9 ds 0) (b9 ds 0).length 0 0) (fun v=>(b9 ds 0).length-(v.i 1).toNat)
  ⟨0,by simp [j5,i8,E.ev],by omega,by simp [j5,i8,E.ev]⟩ (fun v hv=> ?_)
 obtain⟨i,i0,i1,i2⟩:=hv
 simp only[g9,Nat.reduceBEq,Nat.reduceLT,Nat.reduceSub,i0]
 refine⟨fun hc=> ?_,fun hc=> ?_⟩
 ·have hi:i<(b9 ds 0).length:=by omega
  have hn:=u6 hi
  obtain⟨f,hf⟩:∃f,(b9 ds 0).length-i=f+1:=⟨(b9 ds 0).length-i-1,by omega⟩
  rw[P0 hi hlen,b8 ((i:Int)+1) (by omega) (by omega)]
  rw[hf,E8] at i2
  have hf':(b9 ds 0).length-(i+1)=f:=by omega
  exact⟨by omega,by omega,by omega,by omega,by omega,⟨i+1,rfl,by omega,by rw[hf'];exact i2⟩,by omega⟩
 ·have:(b9 ds 0).length-i=0:=by omega
  rw[this,E8] at i2
  rw[X1,←i2]
theorem a4N{r:Rows}{i:Nat}:∀(m k f:Nat),k+m≤i+2→S7 r i (f+m) k=S7 r i f (k+m)
 | 0,k,f,_=>rfl
 | m+1,k,f,h=>by
   rw[←Nat.add_assoc,S7,a4N m (k+1) f (by omega)]
   have:A3 r i k=true:=by unfold A3;rw[decide_eq_true (.inl (by omega))];rfl
   rw[this,Bool.true_and,show k+1+m=k+(m+1) by omega]
theorem c3q{r:Rows}{i:Nat}(hi:i<r.length):S7 r i r.length 0=S7 r i (r.length-(i+2)) (i+2):=by
 by_cases h:i+2≤r.length
 ·have:=a4N (r:=r) (i:=i) (i+2) 0 (r.length-(i+2)) (by omega)
  rw[show r.length-(i+2)+(i+2)=r.length by omega,Nat.zero_add] at this
  exact this
 ·have:=a4N (r:=r) (i:=i) r.length 0 0 (by omega)
  rw[Nat.zero_add] at this
  rw[this,show r.length-(i+2)=0 by omega]
  rfl
def plL(ds:List D):Bool:=plN (b9 ds 0) (b9 ds 0).length 0
theorem d6j:GivesIf Tryz.prog 106 [A8] (fun ds=>plL ds=true) (fun ds=> .bool (J7 ds)):=by
 refine i7 KT (by kernel_rfl) (fun ρ h=>a3k (Sees.of h 96)) (by kernel_rfl) c4W c2u (by decide) (fun W vals ds hr hok=> ?_)
 have hlen:=a0D hr
 have hpl:∀k:Nat,k<(b9 ds 0).length→f9 (lg (b9 ds 0) k 0) (lg (b9 ds 0) k 1)=true:=fun k hk=>a7q _ 0 hok k (by omega) (by omega)
 simp only[b8l]
 refine TT.sat_loop (fun v=>∃i:Nat,v.i 0=i∧i≤(b9 ds 0).length∧t9 (b9 ds 0) ((b9 ds 0).length-i) i=t9 (b9 ds 0) (b9 ds 0).length 0) (fun v=>(b9 ds 0).length-(v.i 0).toNat)
  ⟨0,by simp [j5,i8,E.ev],by omega,rfl⟩ (fun v hv=> ?_)
 obtain⟨i,i0,i1,i2⟩:=hv
 simp only[g9,Nat.reduceBEq,Nat.reduceLT,Nat.reduceSub,i0]
 refine⟨fun hc=> ?_,fun hc=> ?_⟩
 ·have hi:i<(b9 ds 0).length:=by omega
  have hn:=u6 hi
  obtain⟨f,hf⟩:∃f,(b9 ds 0).length-i=f+1:=⟨(b9 ds 0).length-i-1,by omega⟩
  rw[hf,t9,c3q hi] at i2
  have hf':(b9 ds 0).length-(i+1)=f:=by omega
  refine TT.sat_loop (fun u=>∃k:Nat,u.i 0=k∧k≤max (b9 ds 0).length (i+2)∧i+2≤k∧(S7 (b9 ds 0) i ((b9 ds 0).length-k) k&&t9 (b9 ds 0) f (i+1))=t9 (b9 ds 0) (b9 ds 0).length 0) (fun u=>(b9 ds 0).length-(u.i 0).toNat)
   ⟨i+2,?_,by omega,by omega,i2⟩ (fun u hu=> ?_)
  ·simp [j5,i8,E.ev,y9,F6,i0]
   rw[b8 _ (by omega) (by omega)]
  obtain⟨k,k0,k1,k3,k2⟩:=hu
  simp only[g9,Nat.reduceBEq,Nat.reduceLT,Nat.reduceSub,i0,k0,d5T,d5y,S2,W5]
  refine⟨fun hk=> ?_,fun hk=> ?_⟩
  ·have hkn:k<(b9 ds 0).length:=by omega
   have hn':=u6 hkn
   obtain⟨g,hg⟩:∃g,(b9 ds 0).length-k=g+1:=⟨(b9 ds 0).length-k-1,by omega⟩
   rw[P0 hkn hlen,P0 hi hlen,b8 ((k:Int)+1) (by omega) (by omega),b8 (((b9 ds 0).length:Int)-1) (by omega) (by omega)]
   rw[hg,S7] at k2
   have hg':(b9 ds 0).length-(k+1)=g:=by omega
   have N:A3 (b9 ds 0) i k=true→(∃j:Nat,(k:Int)+1=j∧j≤max (b9 ds 0).length (i+2)∧i+2≤j∧(S7 (b9 ds 0) i ((b9 ds 0).length-j) j&&t9 (b9 ds 0) f (i+1))=t9 (b9 ds 0) (b9 ds 0).length 0)∧(b9 ds 0).length-((k:Int)+1).toNat<(b9 ds 0).length-(k:Int).toNat:=
    fun h=>⟨⟨k+1,rfl,by omega,by omega,by rw[hg',←k2,h];rfl⟩,by omega⟩
   have F:A3 (b9 ds 0) i k=false→Value.bool false=Value.bool (J7 ds):=fun h=>by rw[show J7 ds=t9 (b9 ds 0) (b9 ds 0).length 0 from rfl,←k2,h];rfl
   have p0:=hpl i hi
   have p1:=hpl _ hn
   have p2:=hpl k hkn
   have p3:=hpl _ hn'
   have P1:(k≤i+1∨(i=0∧k+1=(b9 ds 0).length))→A3 (b9 ds 0) i k=true:=fun h=>by unfold A3;rw[decide_eq_true h];rfl
   have P2:¬(k≤i+1∨(i=0∧k+1=(b9 ds 0).length))→A3 (b9 ds 0) i k= !n9 (lg (b9 ds 0) i 0) (lg (b9 ds 0) i 1) (lg (b9 ds 0) (nxt (b9 ds 0).length i) 0) (lg (b9 ds 0) (nxt (b9 ds 0).length i) 1) (lg (b9 ds 0) k 0) (lg (b9 ds 0) k 1) (lg (b9 ds 0) (nxt (b9 ds 0).length k) 0) (lg (b9 ds 0) (nxt (b9 ds 0).length k) 1):=fun h=>by
    unfold A3 a2d T5;rw[decide_eq_false h,S2,p0,p1,p2,p3,W5];rfl
   simp only[p0,p1,p2,p3,Bool.and_self]
   refine⟨fun a=>⟨by omega,by omega,by omega,by omega,by omega,by omega,by omega,by omega,by omega,by omega,by simp,fun m=>F ?_,fun m=>N ?_⟩,fun a=>⟨fun b=>⟨by omega,by omega,by omega,by omega,by omega,by omega,by omega,by omega,by omega,by omega,by simp,fun m=>F ?_,fun m=>N ?_⟩,fun b=>N (P1 (by omega))⟩⟩
   all_goals (rw[P2 (by omega),m];rfl)
  ·have:(b9 ds 0).length-k=0:=by omega
   rw[this,S7,Bool.true_and] at k2
   rw[b8 ((i:Int)+1) (by omega) (by omega)]
   exact⟨⟨i+1,rfl,by omega,by rw[hf'];exact k2⟩,by omega⟩
 ·have:(b9 ds 0).length-i=0:=by omega
  rw[this,t9] at i2
  rw[J7,←i2]
def KU:Interp where
 fi n l:=KT.fi n l
 fb n l:=match n with | 96=>a3S l | 97=>plL l | n=>KT.fb n l
 fd _ _:=[]
theorem c6N{ρ:Env}(h:Sees ρ KU 98):Sees ρ KT 96:=h.trans (by decide) fun n l hn=>by
 refine⟨?_,?_⟩
 ·
  rfl
 ·
  simp only[KU]
  split<;>first | omega | rfl
theorem b1T{ρ:Env}(h:Sees ρ KU 98):Sees ρ KG 80:=a6d (a8Y (c6N h))
theorem c6d{ρ:Env}{f:Nat}(g:GivesIf Tryz.prog f [pt,pt,pt] (fun ds=>u0 ds=true) (fun ds=> .int .i64 (J2 ds)))(h1:∀l,ρ.fb 1 l=u0 l)(h0:∀l,ρ.fi 0 l=J2 l):i9 Tryz.prog ρ f a5W:=by
 refine C7 g (fun al v hv=> ?_)
 obtain⟨ho,hv⟩:=hv
 obtain rfl:=c9 hv
 have ho:(bF 1 u0 al).ev ρ=true:=ho
 rw[m9 h1] at ho
 refine⟨rfl,ho,?_⟩
 simp only[iV,V.s0,V.val,V2.val,S.val,S0.val,k8 h0]
theorem c9G{ρ:Env}(h:Sees ρ KG 80):i9 Tryz.prog ρ 105 a5W:=
 c6d d6i (fun l=>by rw[(h 1 l (by decide)).2];simp only[KG,KF,KE,KD,KC,KB,KA,K9,K8,K7,K6,K5,K]) (fun l=>by rw[(h 0 l (by decide)).1];simp only[KG,KF,KE,KD,KC,KB,KA,K9,K8,K7,K6,K5,K])
def d2T:=u7 [pt,pt] fun al=> .ret (bV (bF 96 a3S al))
theorem c9y{ρ:Env}(h:Sees ρ KU 98):i9 Tryz.prog ρ 104 d2T:=
 j7 d5X (fun _=>rfl) (fun al=>by simp only[iV,bV,V.s0,V.val,V2.val,S.val,S0.val,m9 (s:=96) (f:=a3S) (fun l=>by rw[(h 96 l (by decide)).2];simp only[KU])];try rfl)
def d3a:=u7 [A8] fun al=> .ret (iV .i64 (iF 65 X1 al))
theorem c9K{ρ:Env}(h:Sees ρ KG 80):i9 Tryz.prog ρ 107 d3a:=
 j7 d6p (fun _=>rfl) (fun al=>by simp only[iV,bV,V.s0,V.val,V2.val,S.val,S0.val,k8 (s:=65) (f:=X1) (fun l=>by rw[(h 65 l (by decide)).1];simp only[KG,KF,KE,KD,KC,KB,KA,K9,K8,K7,K6,K5,K])];try rfl)
def c7y:=u7 [A8] fun al=> .ob (.tru (bF 97 plL al)) (.ret (bV (bF 66 J7 al)))
theorem c5Y{ρ:Env}(h:Sees ρ KU 98):i9 Tryz.prog ρ 106 c7y:=by
 refine C7 d6j (fun al v hv=> ?_)
 obtain⟨ho,hv⟩:=hv
 obtain rfl:=c9 hv
 have ho:(bF 97 plL al).ev ρ=true:=ho
 rw[m9 (fun l=>by rw[(h 97 l (by decide)).2];simp only[KU])] at ho
 refine⟨rfl,ho,?_⟩
 simp only[bV,V.s0,V.val,V2.val,S.val,S0.val,m9 (s:=66) (f:=J7) (fun l=>by rw[(b1T h 66 l (by decide)).2];simp only[KG,KF,KE,KD,KC,KB,KA,K9,K8,K7,K6,K5,K])]
def b8X:Ct:=(105,a5W)::(104,d2T)::(107,d3a)::(106,c7y)::b0p
theorem b0n{ρ:Env}(h:Sees ρ KU 98):CtOk Tryz.prog ρ b8X:= .cons (c9G (b1T h))<| .cons (c9y h)<| .cons (c9K (b1T h))<| .cons (c5Y h) (a3k (c6N h))
def b9i:TT j4:=
(.ite (.cmp .lss (.len (.var 0)) (.lit 3))
 (.ret ((.v (.one (.z (.bool (.lit false))))),[],0))
 (.ite (.cmp .gtr (.len (.var 0)) (.lit 24))
 (.ret ((.v (.one (.z (.bool (.lit false))))),[],0))
 (.loop 0 1000 ⟨[(0,(.lit 0))],[],[]⟩
 (.ite (.cmp .lss (.var 1000) (.len (.var 0)))
 (.ob (.tru (.cmp .leq (.lit 0) (.var 1000)))
 (.ob (.tru (.cmp .lss (.var 1000) (.len (.var 0))))
 (.ite (.not (.fn 3 (.i (.rd (.var 0) (.var 1000) 0) (.i (.rd (.var 0) (.var 1000) 1) .nil))))
 (.ret ((.v (.one (.z (.bool (.lit false))))),[],1))
 (.ite (.cmp .gtr (.var 1000) (.lit 0))
 (.ob (.tru (.lit true))
 (.ob (.tru (.cmp .lss (.lit 0) (.len (.var 0))))
 (.ob (.tru (.cmp .leq (.lit 0) (.var 1000)))
 (.ob (.tru (.cmp .lss (.var 1000) (.len (.var 0))))
 (.ite (.not (.fn 96 (.i (.rd (.var 0) (.lit 0) 0) (.i (.rd (.var 0) (.lit 0) 1) (.i (.rd (.var 0) (.var 1000) 0) (.i (.rd (.var 0) (.var 1000) 1) .nil))))))
 (.ret ((.v (.one (.z (.bool (.lit false))))),[],1))
 (.next 0 ⟨[(0,(.ar .add .i64 (.var 1000) (.lit 1)))],[],[]⟩))))))
 (.next 0 ⟨[(0,(.ar .add .i64 (.var 1000) (.lit 1)))],[],[]⟩)))))
 (.loop 1 2000 ⟨[(0,(.lit 0))],[],[]⟩
 (.ite (.cmp .lss (.var 2000) (.len (.var 0)))
 (.ob (.tru (.cmp .leq (.lit 0) (.var 2000)))
 (.ob (.tru (.cmp .lss (.var 2000) (.len (.var 0))))
 (.ob (.tru (.cmp .neq (.len (.var 0)) (.lit 0)))
 (.ob (.tru (.cmp .leq (.lit 0) (.ar .rem .i64 (.ar .add .i64 (.var 2000) (.lit 1)) (.len (.var 0)))))
 (.ob (.tru (.cmp .lss (.ar .rem .i64 (.ar .add .i64 (.var 2000) (.lit 1)) (.len (.var 0))) (.len (.var 0))))
 (.ob (.tru (.cmp .neq (.len (.var 0)) (.lit 0)))
 (.ob (.tru (.cmp .leq (.lit 0) (.ar .rem .i64 (.ar .add .i64 (.var 2000) (.lit 2)) (.len (.var 0)))))
 (.ob (.tru (.cmp .lss (.ar .rem .i64 (.ar .add .i64 (.var 2000) (.lit 2)) (.len (.var 0))) (.len (.var 0))))
 (.ob (.tru (.fn 1 (.i (.rd (.var 0) (.var 2000) 0) (.i (.rd (.var 0) (.var 2000) 1) (.i (.rd (.var 0) (.ar .rem .i64 (.ar .add .i64 (.var 2000) (.lit 1)) (.len (.var 0))) 0) (.i (.rd (.var 0) (.ar .rem .i64 (.ar .add .i64 (.var 2000) (.lit 1)) (.len (.var 0))) 1) (.i (.rd (.var 0) (.ar .rem .i64 (.ar .add .i64 (.var 2000) (.lit 2)) (.len (.var 0))) 0) (.i (.rd (.var 0) (.ar .rem .i64 (.ar .add .i64 (.var 2000) (.lit 2)) (.len (.var 0))) 1) .nil))))))))
 (.ite (.cmp .eql (.fn 0 (.i (.rd (.var 0) (.var 2000) 0) (.i (.rd (.var 0) (.var 2000) 1) (.i (.rd (.var 0) (.ar .rem .i64 (.ar .add .i64 (.var 2000) (.lit 1)) (.len (.var 0))) 0) (.i (.rd (.var 0) (.ar .rem .i64 (.ar .add .i64 (.var 2000) (.lit 1)) (.len (.var 0))) 1) (.i (.rd (.var 0) (.ar .rem .i64 (.ar .add .i64 (.var 2000) (.lit 2)) (.len (.var 0))) 0) (.i (.rd (.var 0) (.ar .rem .i64 (.ar .add .i64 (.var 2000) (.lit 2)) (.len (.var 0))) 1) .nil))))))) (.lit 0))
 (.ret ((.v (.one (.z (.bool (.lit false))))),[],3))
 (.next 1 ⟨[(0,(.ar .add .i64 (.var 2000) (.lit 1)))],[],[]⟩)))))))))))
 (.ob (.tru (.fn 97 (.x (.var 0) .nil)))
 (.ite (.fn 66 (.x (.var 0) .nil))
 (.ret ((.v (.one (.z (.bool (.cmp .gtr (.fn 65 (.x (.var 0) .nil)) (.lit 0)))))),[],3))
 (.ret ((.v (.one (.z (.bool (.lit false))))),[],3))))))))))
set_option maxRecDepth 100000 in
theorem c4L:T.norm 0 (call Tryz.prog b8X (Lt.of []) 100 80 (g7 0 [A8]) [] 0) TT.ret=b9i:=by kernel_rfl
theorem c2C:b9i.low 1000=true:=by kernel_rfl
def b8F:TT j4:=
(.loop 0 2000 ⟨[(1,(.lit 0)),(0,(.lit 0))],[],[]⟩
 (.ite (.cmp .lss (.var 2000) (.len (.var 2)))
 (.ob (.tru (.cmp .leq (.lit 0) (.var 2000)))
 (.ob (.tru (.cmp .lss (.var 2000) (.len (.var 2))))
 (.ob (.tru (.cmp .neq (.len (.var 2)) (.lit 0)))
 (.ob (.tru (.cmp .leq (.lit 0) (.ar .rem .i64 (.ar .add .i64 (.var 2000) (.lit 1)) (.len (.var 2)))))
 (.ob (.tru (.cmp .lss (.ar .rem .i64 (.ar .add .i64 (.var 2000) (.lit 1)) (.len (.var 2))) (.len (.var 2))))
 (.ob (.tru (.fn 1 (.i (.var 0) (.i (.var 1) (.i (.rd (.var 2) (.var 2000) 0) (.i (.rd (.var 2) (.var 2000) 1) (.i (.rd (.var 2) (.ar .rem .i64 (.ar .add .i64 (.var 2000) (.lit 1)) (.len (.var 2))) 0) (.i (.rd (.var 2) (.ar .rem .i64 (.ar .add .i64 (.var 2000) (.lit 1)) (.len (.var 2))) 1) .nil))))))))
 (.ite (.fn 4 (.i (.var 0) (.i (.var 1) (.i (.rd (.var 2) (.var 2000) 0) (.i (.rd (.var 2) (.var 2000) 1) (.i (.rd (.var 2) (.ar .rem .i64 (.ar .add .i64 (.var 2000) (.lit 1)) (.len (.var 2))) 0) (.i (.rd (.var 2) (.ar .rem .i64 (.ar .add .i64 (.var 2000) (.lit 1)) (.len (.var 2))) 1) .nil)))))))
 (.ret ((.v (.one (.z (.int .i64 (.lit 0))))),[],5))
 (.ite (.cmp .leq (.rd (.var 2) (.var 2000) 1) (.var 1))
 (.ite (.cmp .gtr (.rd (.var 2) (.ar .rem .i64 (.ar .add .i64 (.var 2000) (.lit 1)) (.len (.var 2))) 1) (.var 1))
 (.ob (.tru (.fn 1 (.i (.rd (.var 2) (.var 2000) 0) (.i (.rd (.var 2) (.var 2000) 1) (.i (.rd (.var 2) (.ar .rem .i64 (.ar .add .i64 (.var 2000) (.lit 1)) (.len (.var 2))) 0) (.i (.rd (.var 2) (.ar .rem .i64 (.ar .add .i64 (.var 2000) (.lit 1)) (.len (.var 2))) 1) (.i (.var 0) (.i (.var 1) .nil))))))))
 (.ite (.cmp .gtr (.fn 0 (.i (.rd (.var 2) (.var 2000) 0) (.i (.rd (.var 2) (.var 2000) 1) (.i (.rd (.var 2) (.ar .rem .i64 (.ar .add .i64 (.var 2000) (.lit 1)) (.len (.var 2))) 0) (.i (.rd (.var 2) (.ar .rem .i64 (.ar .add .i64 (.var 2000) (.lit 1)) (.len (.var 2))) 1) (.i (.var 0) (.i (.var 1) .nil))))))) (.lit 0))
 (.ite (.cmp .leq (.rd (.var 2) (.ar .rem .i64 (.ar .add .i64 (.var 2000) (.lit 1)) (.len (.var 2))) 1) (.var 1))
 (.ite (.cmp .gtr (.rd (.var 2) (.var 2000) 1) (.var 1))
 (.ob (.tru (.fn 1 (.i (.rd (.var 2) (.var 2000) 0) (.i (.rd (.var 2) (.var 2000) 1) (.i (.rd (.var 2) (.ar .rem .i64 (.ar .add .i64 (.var 2000) (.lit 1)) (.len (.var 2))) 0) (.i (.rd (.var 2) (.ar .rem .i64 (.ar .add .i64 (.var 2000) (.lit 1)) (.len (.var 2))) 1) (.i (.var 0) (.i (.var 1) .nil))))))))
 (.ite (.cmp .lss (.fn 0 (.i (.rd (.var 2) (.var 2000) 0) (.i (.rd (.var 2) (.var 2000) 1) (.i (.rd (.var 2) (.ar .rem .i64 (.ar .add .i64 (.var 2000) (.lit 1)) (.len (.var 2))) 0) (.i (.rd (.var 2) (.ar .rem .i64 (.ar .add .i64 (.var 2000) (.lit 1)) (.len (.var 2))) 1) (.i (.var 0) (.i (.var 1) .nil))))))) (.lit 0))
 (.next 0 ⟨[(1,(.ar .sub .i64 (.ar .add .i64 (.var 2001) (.lit 1)) (.lit 1))),(0,(.ar .add .i64 (.var 2000) (.lit 1)))],[],[]⟩)
 (.next 0 ⟨[(1,(.ar .add .i64 (.var 2001) (.lit 1))),(0,(.ar .add .i64 (.var 2000) (.lit 1)))],[],[]⟩)))
 (.next 0 ⟨[(1,(.ar .add .i64 (.var 2001) (.lit 1))),(0,(.ar .add .i64 (.var 2000) (.lit 1)))],[],[]⟩))
 (.next 0 ⟨[(1,(.ar .add .i64 (.var 2001) (.lit 1))),(0,(.ar .add .i64 (.var 2000) (.lit 1)))],[],[]⟩))
 (.ite (.cmp .leq (.rd (.var 2) (.ar .rem .i64 (.ar .add .i64 (.var 2000) (.lit 1)) (.len (.var 2))) 1) (.var 1))
 (.ite (.cmp .gtr (.rd (.var 2) (.var 2000) 1) (.var 1))
 (.ob (.tru (.fn 1 (.i (.rd (.var 2) (.var 2000) 0) (.i (.rd (.var 2) (.var 2000) 1) (.i (.rd (.var 2) (.ar .rem .i64 (.ar .add .i64 (.var 2000) (.lit 1)) (.len (.var 2))) 0) (.i (.rd (.var 2) (.ar .rem .i64 (.ar .add .i64 (.var 2000) (.lit 1)) (.len (.var 2))) 1) (.i (.var 0) (.i (.var 1) .nil))))))))
 (.ite (.cmp .lss (.fn 0 (.i (.rd (.var 2) (.var 2000) 0) (.i (.rd (.var 2) (.var 2000) 1) (.i (.rd (.var 2) (.ar .rem .i64 (.ar .add .i64 (.var 2000) (.lit 1)) (.len (.var 2))) 0) (.i (.rd (.var 2) (.ar .rem .i64 (.ar .add .i64 (.var 2000) (.lit 1)) (.len (.var 2))) 1) (.i (.var 0) (.i (.var 1) .nil))))))) (.lit 0))
 (.next 0 ⟨[(1,(.ar .sub .i64 (.var 2001) (.lit 1))),(0,(.ar .add .i64 (.var 2000) (.lit 1)))],[],[]⟩)
 (.next 0 ⟨[(1,(.var 2001)),(0,(.ar .add .i64 (.var 2000) (.lit 1)))],[],[]⟩)))
 (.next 0 ⟨[(1,(.var 2001)),(0,(.ar .add .i64 (.var 2000) (.lit 1)))],[],[]⟩))
 (.next 0 ⟨[(1,(.var 2001)),(0,(.ar .add .i64 (.var 2000) (.lit 1)))],[],[]⟩))))
 (.ite (.cmp .leq (.rd (.var 2) (.ar .rem .i64 (.ar .add .i64 (.var 2000) (.lit 1)) (.len (.var 2))) 1) (.var 1))
 (.ite (.cmp .gtr (.rd (.var 2) (.var 2000) 1) (.var 1))
 (.ob (.tru (.fn 1 (.i (.rd (.var 2) (.var 2000) 0) (.i (.rd (.var 2) (.var 2000) 1) (.i (.rd (.var 2) (.ar .rem .i64 (.ar .add .i64 (.var 2000) (.lit 1)) (.len (.var 2))) 0) (.i (.rd (.var 2) (.ar .rem .i64 (.ar .add .i64 (.var 2000) (.lit 1)) (.len (.var 2))) 1) (.i (.var 0) (.i (.var 1) .nil))))))))
 (.ite (.cmp .lss (.fn 0 (.i (.rd (.var 2) (.var 2000) 0) (.i (.rd (.var 2) (.var 2000) 1) (.i (.rd (.var 2) (.ar .rem .i64 (.ar .add .i64 (.var 2000) (.lit 1)) (.len (.var 2))) 0) (.i (.rd (.var 2) (.ar .rem .i64 (.ar .add .i64 (.var 2000) (.lit 1)) (.len (.var 2))) 1) (.i (.var 0) (.i (.var 1) .nil))))))) (.lit 0))
 (.next 0 ⟨[(1,(.ar .sub .i64 (.var 2001) (.lit 1))),(0,(.ar .add .i64 (.var 2000) (.lit 1)))],[],[]⟩)
 (.next 0 ⟨[(1,(.var 2001)),(0,(.ar .add .i64 (.var 2000) (.lit 1)))],[],[]⟩)))
 (.next 0 ⟨[(1,(.var 2001)),(0,(.ar .add .i64 (.var 2000) (.lit 1)))],[],[]⟩))
 (.next 0 ⟨[(1,(.var 2001)),(0,(.ar .add .i64 (.var 2000) (.lit 1)))],[],[]⟩)))
 (.ite (.cmp .leq (.rd (.var 2) (.ar .rem .i64 (.ar .add .i64 (.var 2000) (.lit 1)) (.len (.var 2))) 1) (.var 1))
 (.ite (.cmp .gtr (.rd (.var 2) (.var 2000) 1) (.var 1))
 (.ob (.tru (.fn 1 (.i (.rd (.var 2) (.var 2000) 0) (.i (.rd (.var 2) (.var 2000) 1) (.i (.rd (.var 2) (.ar .rem .i64 (.ar .add .i64 (.var 2000) (.lit 1)) (.len (.var 2))) 0) (.i (.rd (.var 2) (.ar .rem .i64 (.ar .add .i64 (.var 2000) (.lit 1)) (.len (.var 2))) 1) (.i (.var 0) (.i (.var 1) .nil))))))))
 (.ite (.cmp .lss (.fn 0 (.i (.rd (.var 2) (.var 2000) 0) (.i (.rd (.var 2) (.var 2000) 1) (.i (.rd (.var 2) (.ar .rem .i64 (.ar .add .i64 (.var 2000) (.lit 1)) (.len (.var 2))) 0) (.i (.rd (.var 2) (.ar .rem .i64 (.ar .add .i64 (.var 2000) (.lit 1)) (.len (.var 2))) 1) (.i (.var 0) (.i (.var 1) .nil))))))) (.lit 0))
 (.next 0 ⟨[(1,(.ar .sub .i64 (.var 2001) (.lit 1))),(0,(.ar .add .i64 (.var 2000) (.lit 1)))],[],[]⟩)
 (.next 0 ⟨[(1,(.var 2001)),(0,(.ar .add .i64 (.var 2000) (.lit 1)))],[],[]⟩)))
 (.next 0 ⟨[(1,(.var 2001)),(0,(.ar .add .i64 (.var 2000) (.lit 1)))],[],[]⟩))
 (.next 0 ⟨[(1,(.var 2001)),(0,(.ar .add .i64 (.var 2000) (.lit 1)))],[],[]⟩))))))))))
 (.ite (.cmp .eql (.var 2001) (.lit 0))
 (.ret ((.v (.one (.z (.int .i64 (.lit (-1)))))),[],5))
 (.ret ((.v (.one (.z (.int .i64 (.lit 1))))),[],5)))))
set_option maxRecDepth 100000 in
theorem c4w:T.norm 0 (call Tryz.prog b8X (Lt.of []) 100 88 (g7 0 [pt,A8]) [] 0) TT.ret=b8F:=by kernel_rfl
theorem c0A:b8F.low 1000=true:=by kernel_rfl
theorem c0u{n i:Nat}(h:i<n)(h3:3≤n)(hn:n≤281474976710656):(IntKind.i64.wrap ((i:Int)+2)).tmod (n:Int)=(nxt n (nxt n i):Int):=by
 rw[b8 ((i:Int)+2) (by omega) (by omega),Int.tmod_eq_emod_of_nonneg (by omega)]
 by_cases h1:i+1=n
 ·rw[show nxt n i=0 by unfold nxt;rw[if_pos h1],show nxt n 0=1 by unfold nxt;rw[if_neg (by omega)],show((i:Int)+2)=1+n by omega,Int.add_emod_right,Int.emod_eq_of_lt (by omega) (by omega)];rfl
 ·rw[show nxt n i=i+1 by unfold nxt;rw[if_neg h1]]
  by_cases h2:i+2=n
  ·rw[show nxt n (i+1)=0 by unfold nxt;rw[if_pos (by omega)],show((i:Int)+2)=n by omega,Int.emod_self];rfl
  ·rw[show nxt n (i+1)=i+2 by unfold nxt;rw[if_neg (by omega)],Int.emod_eq_of_lt (by omega) (by omega)];rfl
theorem c5b(W:World)(ds l:List D):(a9 KU W ds).fb 1 l=u0 l:=by simp only[a9,KU,KT,KR,KG,KF,KE,KD,KC,KB,KA,K9,K8,K7,K6,K5,K]
theorem d2v(W:World)(ds l:List D):(a9 KU W ds).fb 3 l=w7 l:=by simp only[a9,KU,KT,KR,KG,KF,KE,KD,KC,KB,KA,K9,K8,K7,K6,K5,K]
theorem d5A(W:World)(ds l:List D):(a9 KU W ds).fb 4 l=onL l:=by simp only[a9,KU,KT,KR,KG,KF,KE,KD,KC,KB,KA,K9,K8,K7,K6,K5,K]
theorem c5z(W:World)(ds l:List D):(a9 KU W ds).fi 0 l=J2 l:=by simp only[a9,KU,KT,KR,KG,KF,KE,KD,KC,KB,KA,K9,K8,K7,K6,K5,K]
theorem c6I(W:World)(ds l:List D):(a9 KU W ds).fb 96 l=a3S l:=by simp only[a9,KU]
theorem c7m(W:World)(ds l:List D):(a9 KU W ds).fb 97 l=plL l:=by simp only[a9,KU]
theorem c7d(W:World)(ds l:List D):(a9 KU W ds).fb 66 l=J7 l:=by simp only[a9,KU,KT,KR,KG,KF,KE,KD,KC,KB,KA,K9,K8,K7,K6,K5,K]
theorem c6W(W:World)(ds l:List D):(a9 KU W ds).fi 65 l=X1 l:=by simp only[a9,KU,KT,KR,KG,KF,KE,KD,KC,KB,KA,K9,K8,K7,K6,K5,K]
theorem b1k(a b c d:Int):a3S [.i a,.i b,.i c,.i d]=Q8 a b c d:=rfl
theorem c0y(r:Rows):plL [.l r]=plN r r.length 0:=rfl
theorem d5R:m8 Tryz.prog 80 [A8] (fun ds=> .bool (H0 ds)):=by
 refine GivesIf.all (i7 KU (by kernel_rfl) (fun ρ h=>b0n (Sees.of h 98)) (by kernel_rfl) c4L c2C (by decide) (fun W vals ds hr _=> ?_))
 have hlen:=a0D hr
 simp only[b9i,g9,Nat.reduceBEq,Nat.reduceLT,Nat.reduceSub]
 generalize hr0:b9 ds 0=r at hlen ⊢
 have hP:H0 ds=j6 r:=by rw[H0,hr0]
 rw[hP]
 refine⟨fun h=> ?_,fun h1=>⟨fun h=> ?_,fun h2=> ?_⟩⟩
 ·rw[j6,decide_eq_false (by omega)];rfl
 ·rw[j6,decide_eq_false (by omega)];rfl
 have hd:decide (3≤r.length∧r.length≤24)=true:=decide_eq_true (by omega)
 have hpb:j6 r=(plN r r.length 0&&(V7 r r.length 0&&(t9 r r.length 0&&decide (0<E8 r r.length 0 0)))):=by rw[j6,hd];rfl
 have F1:∀k:Nat,k<r.length→f9 (lg r k 0) (lg r k 1)=false→Value.bool false=Value.bool (j6 r):=fun k hk h=>by
  have:plN r r.length 0=false:=by
   rw[Bool.eq_false_iff]
   intro q
   rw[(a6p _ _).mp q k (by omega) (by omega)] at h
   exact absurd h (by decide)
  rw[hpb,this];rfl
 have F2:(∀k:Nat,k<r.length→f9 (lg r k 0) (lg r k 1)=true→True)→∀k:Nat,k<r.length→¬N4 r k=true→Value.bool false=Value.bool (j6 r):=fun _ k hk h=>by
  have:V7 r r.length 0=false:=by
   rw[Bool.eq_false_iff]
   exact fun q=>h ((a0V _ _).mp q k (by omega) (by omega))
  rw[hpb,this,Bool.false_and,Bool.and_false]
 refine TT.sat_loop (fun v=>∃i:Nat,v.i 0=i∧i≤r.length∧∀k:Nat,k<i→f9 (lg r k 0) (lg r k 1)=true∧(0<k→Q8 (lg r 0 0) (lg r 0 1) (lg r k 0) (lg r k 1)=true)) (fun v=>r.length-(v.i 0).toNat)
  ⟨0,by simp [j5,i8,E.ev],by omega,fun k hk=>by omega⟩ (fun v hv=> ?_)
 obtain⟨i,i0,i1,i2⟩:=hv
 simp only[g9,Nat.reduceBEq,Nat.reduceLT,Nat.reduceSub,i0,hr0,c5b,d2v,c5z,c6I,c7m,c7d,c6W,b1k,D7,a1B,a2z,c0y]
 refine⟨fun hc=> ?_,fun hc=> ?_⟩
 ·have hi:i<r.length:=by omega
  have N:f9 (lg r i 0) (lg r i 1)=true→(0<i→Q8 (lg r 0 0) (lg r 0 1) (lg r i 0) (lg r i 1)=true)→(∃j:Nat,IntKind.i64.wrap ((i:Int)+1)=j∧j≤r.length∧∀k:Nat,k<j→f9 (lg r k 0) (lg r k 1)=true∧(0<k→Q8 (lg r 0 0) (lg r 0 1) (lg r k 0) (lg r k 1)=true))∧r.length-(IntKind.i64.wrap ((i:Int)+1)).toNat<r.length-(i:Int).toNat:=by
   intro h h'
   rw[b8 _ (by omega) (by omega)]
   refine⟨⟨i+1,rfl,by omega,fun k hk=> ?_⟩,by omega⟩
   by_cases e:k=i
   ·subst e;exact⟨h,h'⟩
   ·exact i2 k (by omega)
  refine⟨by omega,by omega,fun p=>F1 i hi p,fun p=>⟨fun a=>⟨by omega,by omega,by omega,fun l=>F2 (fun _ _ _=>trivial) i hi (fun q=> ?_),fun l=>N p (fun _=>l)⟩,fun a=>N p (fun h=>by omega)⟩⟩
  unfold N4 at q
  simp only[Bool.and_eq_true,Bool.not_eq_true',Bool.and_eq_false_imp,decide_eq_true_eq,decide_eq_false_iff_not,a8D,Decidable.not_not] at q
  rw[q.1 (by omega)] at l
  exact absurd l (by decide)
 ·have hi:i=r.length:=by omega
  subst hi
  have hpl:∀k:Nat,k<r.length→f9 (lg r k 0) (lg r k 1)=true:=fun k hk=>(i2 k hk).1
  have hplN:plN r r.length 0=true:=(a6p _ _).mpr (fun k _ hk=>hpl k (by omega))
  refine TT.sat_loop (fun v=>∃j:Nat,v.i 0=j∧j≤r.length∧∀k:Nat,k<j→z6 (lg r k 0) (lg r k 1) (lg r (nxt r.length k) 0) (lg r (nxt r.length k) 1) (lg r (nxt r.length (nxt r.length k)) 0) (lg r (nxt r.length (nxt r.length k)) 1)≠0) (fun v=>r.length-(v.i 0).toNat)
   ⟨0,by simp [j5,i8,E.ev],by omega,fun k hk=>by omega⟩ (fun u hu=> ?_)
  obtain⟨j,j0,j1,j2⟩:=hu
  simp only[g9,Nat.reduceBEq,Nat.reduceLT,Nat.reduceSub,j0,hr0,c5b,d2v,c5z,c6I,c7m,c7d,c6W,b1k,D7,a1B,a2z,c0y,R7,a2i]
  refine⟨fun hc=> ?_,fun hc=> ?_⟩
  ·have hj:j<r.length:=by omega
   have hn:=u6 hj
   have hnn:=u6 hn
   simp only[P0 hj hlen,c0u hj (by omega) hlen,hpl j hj,hpl _ hn,hpl _ hnn,Bool.and_self]
   refine⟨by omega,by omega,by omega,by omega,by omega,by omega,by omega,by omega,by simp,fun t=>F2 (fun _ _ _=>trivial) (nxt r.length j) hn (fun q=> ?_),fun t=>⟨⟨j+1,?_,by omega,fun k hk=> ?_⟩,?_⟩⟩
   ·exact((a1E hpl hn).mp q).2 (by rw[b6R hj];exact t)
   ·rw[b8 _ (by omega) (by omega)];rfl
   ·by_cases e:k=j
    ·subst e;exact t
    ·exact j2 k (by omega)
   ·rw[b8 _ (by omega) (by omega)];omega
  ·have hj:j=r.length:=by omega
   have hco:V7 r r.length 0=true:=(a0V _ _).mpr (fun k _ hk=>(a1E hpl (by omega)).mpr ⟨(i2 k (by omega)).2,by
    have:=j2 (O3 r.length k) (by have:=b2j (show k<r.length by omega);omega)
    rw[c9N (by omega)] at this
    exact this⟩)
   rw[hpb,hplN,hco,Bool.true_and,Bool.true_and]
   refine⟨rfl,fun s=> ?_,fun s=> ?_⟩
   ·rw[s,Bool.true_and]
    congr 1
   ·rw[s];rfl
theorem d6s(x y ax ay bx by':Int):sE x y ax ay bx by'=(if ay≤y∧y<by'∧0<z6 ax ay bx by' x y then 1 else 0)+(if by'≤y∧y<ay∧z6 ax ay bx by' x y<0 then -1 else 0):=by
 rw[a6q]
 have e:a8 bx by' ax ay x y= - a8 ax ay bx by' x y:=by unfold a8;grind
 rw[e]
 unfold z6
 simp only[c7g,d4A]
 generalize a8 ax ay bx by' x y=u
 (repeat' split)<;>omega
theorem c0D{r:Rows}{x y:Int}:∀(f i:Nat),onN r x y f i=false→∀k,i≤k→k<i+f→A7 x y (cx r k) (cy r k) (cx r (nxt r.length k)) (cy r (nxt r.length k))=false
 | 0,_,_,k,h1,h2=>by omega
 | f+1,i,h,k,h1,h2=>by
   rw[onN,Bool.or_eq_false_iff] at h
   by_cases e:k=i
   ·subst e;exact h.1
   ·exact c0D f (i+1) h.2 k (by omega) (by omega)
theorem d5G:GivesIf Tryz.prog 88 [pt,A8] (fun ds=>(f9 (a7 ds 0) (a7 ds 1)&&j6 (b9 ds 2))=true) (fun ds=> .int .i64 (j9 (b9 ds 2) (a7 ds 0) (a7 ds 1) (b9 ds 2).length 0 false)):=by
 refine i7 KU (by kernel_rfl) (fun ρ h=>b0n (Sees.of h 98)) (by kernel_rfl) c4w c0A (by decide) (fun W vals ds hr hok=> ?_)
 rw[Bool.and_eq_true] at hok
 obtain⟨hq,hp⟩:=hok
 have hl:=H3 hp
 have hpl:∀k:Nat,k<(b9 ds 2).length→f9 (lg (b9 ds 2) k 0) (lg (b9 ds 2) k 1)=true:=fun k hk=>x9 hp hk
 simp only[b8F]
 refine TT.sat_loop (fun v=>∃i:Nat,v.i 0=i∧i≤(b9 ds 2).length∧(v.i 1=C0 (fun k=>sE (a7 ds 0) (a7 ds 1) (cx (b9 ds 2) k) (cy (b9 ds 2) k) (cx (b9 ds 2) (nxt (b9 ds 2).length k)) (cy (b9 ds 2) (nxt (b9 ds 2).length k))) i∧ -i≤v.i 1∧v.i 1≤i)∧∀k,k<i→A7 (a7 ds 0) (a7 ds 1) (cx (b9 ds 2) k) (cy (b9 ds 2) k) (cx (b9 ds 2) (nxt (b9 ds 2).length k)) (cy (b9 ds 2) (nxt (b9 ds 2).length k))=false) (fun v=>(b9 ds 2).length-(v.i 0).toNat)
  ⟨0,by simp [j5,i8,E.ev],by omega,⟨by simp [j5,i8,E.ev,C0],by simp [j5,i8,E.ev],by simp [j5,i8,E.ev]⟩,fun k hk=>by omega⟩ (fun v hv=> ?_)
 obtain⟨i,i0,i1,⟨i2,i3,i4⟩,i5⟩:=hv
 simp only[g9,Nat.reduceBEq,Nat.reduceLT,Nat.reduceSub,i0,c5b,d5A,c5z,R7,a8m,a2i]
 refine⟨fun hc=> ?_,fun hc=> ?_⟩
 ·have hi:i<(b9 ds 2).length:=by omega
  have hn:=u6 hi
  simp only[P0 hi (show(b9 ds 2).length≤281474976710656 by omega),hq,hpl i hi,hpl _ hn,Bool.and_self]
  have N:∀w:Int,w=v.i 1+sE (a7 ds 0) (a7 ds 1) (cx (b9 ds 2) i) (cy (b9 ds 2) i) (cx (b9 ds 2) (nxt (b9 ds 2).length i)) (cy (b9 ds 2) (nxt (b9 ds 2).length i))→A7 (a7 ds 0) (a7 ds 1) (lg (b9 ds 2) i 0) (lg (b9 ds 2) i 1) (lg (b9 ds 2) (nxt (b9 ds 2).length i) 0) (lg (b9 ds 2) (nxt (b9 ds 2).length i) 1)=false→
   (∃j:Nat,IntKind.i64.wrap ((i:Int)+1)=j∧j≤(b9 ds 2).length∧(w=C0 (fun k=>sE (a7 ds 0) (a7 ds 1) (cx (b9 ds 2) k) (cy (b9 ds 2) k) (cx (b9 ds 2) (nxt (b9 ds 2).length k)) (cy (b9 ds 2) (nxt (b9 ds 2).length k))) j∧ -j≤w∧w≤j)∧∀k,k<j→A7 (a7 ds 0) (a7 ds 1) (cx (b9 ds 2) k) (cy (b9 ds 2) k) (cx (b9 ds 2) (nxt (b9 ds 2).length k)) (cy (b9 ds 2) (nxt (b9 ds 2).length k))=false)∧(b9 ds 2).length-(IntKind.i64.wrap ((i:Int)+1)).toNat<(b9 ds 2).length-(i:Int).toNat:=by
   intro w hw ho
   rw[b8 _ (by omega) (by omega)]
   have hs: -1≤sE (a7 ds 0) (a7 ds 1) (cx (b9 ds 2) i) (cy (b9 ds 2) i) (cx (b9 ds 2) (nxt (b9 ds 2).length i)) (cy (b9 ds 2) (nxt (b9 ds 2).length i))∧sE (a7 ds 0) (a7 ds 1) (cx (b9 ds 2) i) (cy (b9 ds 2) i) (cx (b9 ds 2) (nxt (b9 ds 2).length i)) (cy (b9 ds 2) (nxt (b9 ds 2).length i))≤1:=by
    unfold sE;(repeat' split)<;>omega
   refine⟨⟨i+1,rfl,by omega,⟨?_,by omega,by omega⟩,fun k hk=> ?_⟩,by omega⟩
   ·rw[C0,←i2];exact hw
   ·by_cases e:k=i
    ·subst e;exact ho
    ·exact i5 k (by omega)
  have es:=d6s (a7 ds 0) (a7 ds 1) (cx (b9 ds 2) i) (cy (b9 ds 2) i) (cx (b9 ds 2) (nxt (b9 ds 2).length i)) (cy (b9 ds 2) (nxt (b9 ds 2).length i))
  unfold cx cy at es N
  have w1:IntKind.i64.wrap (v.i 1+1)=v.i 1+1:=b8 _ (by omega) (by omega)
  have w2:IntKind.i64.wrap (v.i 1-1)=v.i 1-1:=b8 _ (by omega) (by omega)
  have w3:IntKind.i64.wrap (v.i 1+1-1)=v.i 1+1-1:=b8 _ (by omega) (by omega)
  simp only[w1,w2,w3]
  generalize z6 (lg (b9 ds 2) i 0) (lg (b9 ds 2) i 1) (lg (b9 ds 2) (nxt (b9 ds 2).length i) 0) (lg (b9 ds 2) (nxt (b9 ds 2).length i) 1) (a7 ds 0) (a7 ds 1)=t at*
  refine⟨by omega,by omega,by omega,by omega,by omega,by simp,fun o=> ?_,fun o=> ?_⟩
  ·rw[a1d hp hq _ _ _ (by omega)]
   have:onN (b9 ds 2) (a7 ds 0) (a7 ds 1) (b9 ds 2).length 0=true:=by
    cases h:onN (b9 ds 2) (a7 ds 0) (a7 ds 1) (b9 ds 2).length 0 with
    | true=>rfl
    | false=>
      have:=c0D _ 0 h i (by omega) (by omega)
      unfold cx cy at this
      rw[o] at this;exact absurd this (by decide)
   rw[this];rfl
  ·(repeat' (first | (intro h;skip) | (refine And.intro ?_ ?_)))
   all_goals try (exfalso;omega)
   all_goals try (simp;done)
   all_goals try (exact(N (v.i 1+sE _ _ _ _ _ _) rfl o).2)
   all_goals first | (refine(N (v.i 1+1) ?_ o).1;rw[es];(repeat' split)<;>omega) | (refine(N (v.i 1-1) ?_ o).1;rw[es];(repeat' split)<;>omega) | (refine(N (v.i 1) ?_ o).1;rw[es];(repeat' split)<;>omega)
 ·have hi:i=(b9 ds 2).length:=by omega
  subst hi
  rw[a8i hp hq i5]
  have ew:F8 (cx (b9 ds 2)) (cy (b9 ds 2)) (b9 ds 2).length (a7 ds 0) (a7 ds 1)=v.i 1:=i2.symm
  rw[ew]
  exact⟨fun h=>by rw[if_pos h],fun h=>by rw[if_neg h]⟩
def a9x(ds:List D):Int:=j9 (b9 ds 2) (a7 ds 0) (a7 ds 1) (b9 ds 2).length 0 false
def KV:Interp where
 fi n l:=match n with | 98=>a9x l | n=>KU.fi n l
 fb n l:=KU.fb n l
 fd _ _:=[]
theorem c7T{ρ:Env}(h:Sees ρ KV 99):Sees ρ KU 98:=h.trans (by decide) fun n l hn=>by
 refine⟨?_,?_⟩
 ·
  simp only[KV]
  split<;>first | omega | rfl
 ·
  rfl
def d2l:=u7 [A8] fun al=> .ret (bV (bF 69 H0 al))
theorem c8C{ρ:Env}(h:Sees ρ KG 80):i9 Tryz.prog ρ 80 d2l:=
 j7 d5R (fun _=>rfl) (fun al=>by simp only[iV,bV,V.s0,V.val,V2.val,S.val,S0.val,m9 (s:=69) (f:=H0) (fun l=>by rw[(h 69 l (by decide)).2];simp only[KG,KF,KE,KD,KC,KB])];try rfl)
def d2i(al:AL):T V:=match al with
 | .i a (.i b (.x r .nil))=>T.obs [.tru (.fn 3 (.i a (.i b .nil))),.tru (.fn 69 (.x r .nil))] (.ret (iV .i64 (iF 98 a9x al)))
 | _=> .stuck "place"
def c8a:=u7 [pt,A8] d2i
theorem b2b{ρ:Env}(h:Sees ρ KV 99):Sees ρ KG 80:=b1T (c7T h)
theorem c3Y{ρ:Env}(h:Sees ρ KV 99):i9 Tryz.prog ρ 88 c8a:=by
 refine C7 d5G (fun al v hv=> ?_)
 have h3:∀l,ρ.fb 3 l=w7 l:=fun l=>by rw[(b2b h 3 l (by decide)).2];simp only[KG,KF,KE,KD,KC,KB,KA,K9,K8,K7,K6,K5,K]
 have h69:∀l,ρ.fb 69 l=H0 l:=fun l=>by rw[(b2b h 69 l (by decide)).2];simp only[KG,KF,KE,KD,KC,KB,KA,K9,K8,K7,K6,K5,K]
 unfold d2i at hv
 split at hv
 ·rename_i a b r
  obtain⟨ho,hv⟩:=T.res_obs hv
  obtain rfl:=c9 hv
  have o1:=ho _ (List.mem_cons_self ..)
  have o2:=ho _ (List.mem_cons_of_mem _ (List.mem_cons_self ..))
  simp only[Ob.ok,B.ev,AL.ev,h3,h69] at o1 o2
  refine⟨rfl,?_,?_⟩
  ·show(f9 (a.ev ρ) (b.ev ρ)&&j6 (r.ev ρ))=true
   rw[Bool.and_eq_true]
   exact⟨o1,o2⟩
  ·simp only[iV,V.s0,V.val,V2.val,S.val,S0.val,k8 (s:=98) (f:=a9x) (fun l=>by rw[(h 98 l (by decide)).1];simp only[KV])]
   try rfl
 ·exact hv.elim
def d2f:Ct:=(80,d2l)::(88,c8a)::b8X
theorem c9D{ρ:Env}(h:Sees ρ KV 99):CtOk Tryz.prog ρ d2f:= .cons (c8C (b2b h))<| .cons (c3Y h) (b0n (c7T h))
def c0m:TT j4:=
(.ite (.cmp .geq (.var 0) (.lit (-1000000)))
 (.ite (.cmp .leq (.var 0) (.lit 1000000))
 (.ite (.cmp .geq (.var 1) (.lit (-1000000)))
 (.ite (.cmp .leq (.var 1) (.lit 1000000))
 (.ite (.cmp .neq (.var 0) (.lit 0))
 (.ret ((.v (.one (.z (.bool (.lit true))))),[],1))
 (.ret ((.v (.one (.z (.bool (.cmp .neq (.var 1) (.lit 0)))))),[],1)))
 (.ret ((.v (.one (.z (.bool (.lit false))))),[],1)))
 (.ret ((.v (.one (.z (.bool (.lit false))))),[],1)))
 (.ret ((.v (.one (.z (.bool (.lit false))))),[],1)))
 (.ret ((.v (.one (.z (.bool (.lit false))))),[],1)))
set_option maxRecDepth 100000 in
theorem c5l:T.norm 0 (call Tryz.prog [] (Lt.of []) 100 125 (g7 0 [P5]) [] 0) TT.ret=c0m:=by kernel_rfl
theorem c0S:c0m.low 1000=true:=by kernel_rfl
def a5u(ds:List D):Bool:=z8 (a7 ds 0) (a7 ds 1)
theorem d6d:m8 Tryz.prog 125 [P5] (fun ds=> .bool (a5u ds)):=by
 refine GivesIf.all (i7 KV (by kernel_rfl) (fun ρ h=> .nil) (by kernel_rfl) c5l c0S (by decide) (fun W vals ds hr _=> ?_))
 simp only[c0m,g9,Nat.reduceBEq,Nat.reduceLT,Nat.reduceSub]
 simp only[a5u,z8]
 (repeat' (first | (intro h;skip) | (refine And.intro ?_ ?_)))
 all_goals (congr 1;rw[Bool.eq_iff_iff];try rw[n8])
 all_goals (simp only[j8,decide_eq_true_eq,Bool.false_eq_true,false_iff,true_iff];omega)
def a4n(ds:List D):Bool:=a2m (a7 ds 0) (a7 ds 1) (a7 ds 2) (a7 ds 3) (a7 ds 4) (a7 ds 5)
def KW:Interp where
 fi n l:=KV.fi n l
 fb n l:=match n with | 99=>a5u l | 100=>a4n l | n=>KV.fb n l
 fd _ _:=[]
theorem c7C{ρ:Env}(h:Sees ρ KW 101):Sees ρ KV 99:=h.trans (by decide) fun n l hn=>by
 refine⟨?_,?_⟩
 ·
  rfl
 ·
  simp only[KW]
  split<;>first | omega | rfl
def d1j:=u7 [P5] fun al=> .ret (bV (bF 99 a5u al))
theorem d0n{ρ:Env}(h:Sees ρ KW 101):i9 Tryz.prog ρ 125 d1j:=
 j7 d6d (fun _=>rfl) (fun al=>by simp only[iV,bV,V.s0,V.val,V2.val,S.val,S0.val,m9 (s:=99) (f:=a5u) (fun l=>by rw[(h 99 l (by decide)).2];simp only[KW])];try rfl)
theorem b7V{ρ:Env}(h:Sees ρ KW 101):Sees ρ KG 80:=b2b (c7C h)
def b9y:Ct:=(125,d1j)::d2f
theorem b0A{ρ:Env}(h:Sees ρ KW 101):CtOk Tryz.prog ρ b9y:= .cons (d0n h) (c9D (c7C h))
def b9J:TT j4:=
(.ite (.cmp .eql (.ar .sub .i64 (.ar .mul .i64 (.var 0) (.var 3)) (.ar .mul .i64 (.var 1) (.var 2))) (.lit 0))
 (.ite (.cmp .gtr (.ar .add .i64 (.ar .mul .i64 (.var 0) (.var 2)) (.ar .mul .i64 (.var 1) (.var 3))) (.lit 0))
 (.ret ((.v (.one (.z (.bool (.lit true))))),[],7))
 (.ite (.cmp .eql (.ar .sub .i64 (.ar .mul .i64 (.var 0) (.var 5)) (.ar .mul .i64 (.var 1) (.var 4))) (.lit 0))
 (.ite (.cmp .gtr (.ar .add .i64 (.ar .mul .i64 (.var 0) (.var 4)) (.ar .mul .i64 (.var 1) (.var 5))) (.lit 0))
 (.ret ((.v (.one (.z (.bool (.lit true))))),[],11))
 (.ite (.cmp .eql (.ar .sub .i64 (.ar .mul .i64 (.var 2) (.var 5)) (.ar .mul .i64 (.var 3) (.var 4))) (.lit 0))
 (.ite (.cmp .gtr (.ar .add .i64 (.ar .mul .i64 (.var 2) (.var 4)) (.ar .mul .i64 (.var 3) (.var 5))) (.lit 0))
 (.ret ((.v (.one (.z (.bool (.lit false))))),[],15))
 (.ite (.cmp .gtr (.ar .sub .i64 (.ar .mul .i64 (.var 0) (.var 5)) (.ar .mul .i64 (.var 1) (.var 4))) (.lit 0))
 (.ite (.cmp .gtr (.ar .sub .i64 (.ar .mul .i64 (.var 4) (.var 3)) (.ar .mul .i64 (.var 5) (.var 2))) (.lit 0))
 (.ret ((.v (.one (.z (.bool (.lit true))))),[],19))
 (.ret ((.v (.one (.z (.bool (.cmp .leq (.ar .sub .i64 (.ar .mul .i64 (.var 0) (.var 3)) (.ar .mul .i64 (.var 1) (.var 2))) (.lit 0)))))),[],21)))
 (.ite (.cmp .gtr (.ar .sub .i64 (.ar .mul .i64 (.var 4) (.var 3)) (.ar .mul .i64 (.var 5) (.var 2))) (.lit 0))
 (.ret ((.v (.one (.z (.bool (.cmp .lss (.ar .sub .i64 (.ar .mul .i64 (.var 0) (.var 3)) (.ar .mul .i64 (.var 1) (.var 2))) (.lit 0)))))),[],21))
 (.ret ((.v (.one (.z (.bool (.lit false))))),[],19)))))
 (.ite (.cmp .gtr (.ar .sub .i64 (.ar .mul .i64 (.var 0) (.var 5)) (.ar .mul .i64 (.var 1) (.var 4))) (.lit 0))
 (.ite (.cmp .gtr (.ar .sub .i64 (.ar .mul .i64 (.var 4) (.var 3)) (.ar .mul .i64 (.var 5) (.var 2))) (.lit 0))
 (.ret ((.v (.one (.z (.bool (.lit true))))),[],19))
 (.ret ((.v (.one (.z (.bool (.cmp .leq (.ar .sub .i64 (.ar .mul .i64 (.var 0) (.var 3)) (.ar .mul .i64 (.var 1) (.var 2))) (.lit 0)))))),[],21)))
 (.ite (.cmp .gtr (.ar .sub .i64 (.ar .mul .i64 (.var 4) (.var 3)) (.ar .mul .i64 (.var 5) (.var 2))) (.lit 0))
 (.ret ((.v (.one (.z (.bool (.cmp .lss (.ar .sub .i64 (.ar .mul .i64 (.var 0) (.var 3)) (.ar .mul .i64 (.var 1) (.var 2))) (.lit 0)))))),[],21))
 (.ret ((.v (.one (.z (.bool (.lit false))))),[],19))))))
 (.ite (.cmp .eql (.ar .sub .i64 (.ar .mul .i64 (.var 2) (.var 5)) (.ar .mul .i64 (.var 3) (.var 4))) (.lit 0))
 (.ite (.cmp .gtr (.ar .add .i64 (.ar .mul .i64 (.var 2) (.var 4)) (.ar .mul .i64 (.var 3) (.var 5))) (.lit 0))
 (.ret ((.v (.one (.z (.bool (.lit false))))),[],15))
 (.ite (.cmp .gtr (.ar .sub .i64 (.ar .mul .i64 (.var 0) (.var 5)) (.ar .mul .i64 (.var 1) (.var 4))) (.lit 0))
 (.ite (.cmp .gtr (.ar .sub .i64 (.ar .mul .i64 (.var 4) (.var 3)) (.ar .mul .i64 (.var 5) (.var 2))) (.lit 0))
 (.ret ((.v (.one (.z (.bool (.lit true))))),[],19))
 (.ret ((.v (.one (.z (.bool (.cmp .leq (.ar .sub .i64 (.ar .mul .i64 (.var 0) (.var 3)) (.ar .mul .i64 (.var 1) (.var 2))) (.lit 0)))))),[],21)))
 (.ite (.cmp .gtr (.ar .sub .i64 (.ar .mul .i64 (.var 4) (.var 3)) (.ar .mul .i64 (.var 5) (.var 2))) (.lit 0))
 (.ret ((.v (.one (.z (.bool (.cmp .lss (.ar .sub .i64 (.ar .mul .i64 (.var 0) (.var 3)) (.ar .mul .i64 (.var 1) (.var 2))) (.lit 0)))))),[],21))
 (.ret ((.v (.one (.z (.bool (.lit false))))),[],19)))))
 (.ite (.cmp .gtr (.ar .sub .i64 (.ar .mul .i64 (.var 0) (.var 5)) (.ar .mul .i64 (.var 1) (.var 4))) (.lit 0))
 (.ite (.cmp .gtr (.ar .sub .i64 (.ar .mul .i64 (.var 4) (.var 3)) (.ar .mul .i64 (.var 5) (.var 2))) (.lit 0))
 (.ret ((.v (.one (.z (.bool (.lit true))))),[],19))
 (.ret ((.v (.one (.z (.bool (.cmp .leq (.ar .sub .i64 (.ar .mul .i64 (.var 0) (.var 3)) (.ar .mul .i64 (.var 1) (.var 2))) (.lit 0)))))),[],21)))
 (.ite (.cmp .gtr (.ar .sub .i64 (.ar .mul .i64 (.var 4) (.var 3)) (.ar .mul .i64 (.var 5) (.var 2))) (.lit 0))
 (.ret ((.v (.one (.z (.bool (.cmp .lss (.ar .sub .i64 (.ar .mul .i64 (.var 0) (.var 3)) (.ar .mul .i64 (.var 1) (.var 2))) (.lit 0)))))),[],21))
 (.ret ((.v (.one (.z (.bool (.lit false))))),[],19)))))))
 (.ite (.cmp .eql (.ar .sub .i64 (.ar .mul .i64 (.var 0) (.var 5)) (.ar .mul .i64 (.var 1) (.var 4))) (.lit 0))
 (.ite (.cmp .gtr (.ar .add .i64 (.ar .mul .i64 (.var 0) (.var 4)) (.ar .mul .i64 (.var 1) (.var 5))) (.lit 0))
 (.ret ((.v (.one (.z (.bool (.lit true))))),[],11))
 (.ite (.cmp .eql (.ar .sub .i64 (.ar .mul .i64 (.var 2) (.var 5)) (.ar .mul .i64 (.var 3) (.var 4))) (.lit 0))
 (.ite (.cmp .gtr (.ar .add .i64 (.ar .mul .i64 (.var 2) (.var 4)) (.ar .mul .i64 (.var 3) (.var 5))) (.lit 0))
 (.ret ((.v (.one (.z (.bool (.lit false))))),[],15))
 (.ite (.cmp .gtr (.ar .sub .i64 (.ar .mul .i64 (.var 0) (.var 5)) (.ar .mul .i64 (.var 1) (.var 4))) (.lit 0))
 (.ite (.cmp .gtr (.ar .sub .i64 (.ar .mul .i64 (.var 4) (.var 3)) (.ar .mul .i64 (.var 5) (.var 2))) (.lit 0))
 (.ret ((.v (.one (.z (.bool (.lit true))))),[],19))
 (.ret ((.v (.one (.z (.bool (.cmp .leq (.ar .sub .i64 (.ar .mul .i64 (.var 0) (.var 3)) (.ar .mul .i64 (.var 1) (.var 2))) (.lit 0)))))),[],21)))
 (.ite (.cmp .gtr (.ar .sub .i64 (.ar .mul .i64 (.var 4) (.var 3)) (.ar .mul .i64 (.var 5) (.var 2))) (.lit 0))
 (.ret ((.v (.one (.z (.bool (.cmp .lss (.ar .sub .i64 (.ar .mul .i64 (.var 0) (.var 3)) (.ar .mul .i64 (.var 1) (.var 2))) (.lit 0)))))),[],21))
 (.ret ((.v (.one (.z (.bool (.lit false))))),[],19)))))
 (.ite (.cmp .gtr (.ar .sub .i64 (.ar .mul .i64 (.var 0) (.var 5)) (.ar .mul .i64 (.var 1) (.var 4))) (.lit 0))
 (.ite (.cmp .gtr (.ar .sub .i64 (.ar .mul .i64 (.var 4) (.var 3)) (.ar .mul .i64 (.var 5) (.var 2))) (.lit 0))
 (.ret ((.v (.one (.z (.bool (.lit true))))),[],19))
 (.ret ((.v (.one (.z (.bool (.cmp .leq (.ar .sub .i64 (.ar .mul .i64 (.var 0) (.var 3)) (.ar .mul .i64 (.var 1) (.var 2))) (.lit 0)))))),[],21)))
 (.ite (.cmp .gtr (.ar .sub .i64 (.ar .mul .i64 (.var 4) (.var 3)) (.ar .mul .i64 (.var 5) (.var 2))) (.lit 0))
 (.ret ((.v (.one (.z (.bool (.cmp .lss (.ar .sub .i64 (.ar .mul .i64 (.var 0) (.var 3)) (.ar .mul .i64 (.var 1) (.var 2))) (.lit 0)))))),[],21))
 (.ret ((.v (.one (.z (.bool (.lit false))))),[],19))))))
 (.ite (.cmp .eql (.ar .sub .i64 (.ar .mul .i64 (.var 2) (.var 5)) (.ar .mul .i64 (.var 3) (.var 4))) (.lit 0))
 (.ite (.cmp .gtr (.ar .add .i64 (.ar .mul .i64 (.var 2) (.var 4)) (.ar .mul .i64 (.var 3) (.var 5))) (.lit 0))
 (.ret ((.v (.one (.z (.bool (.lit false))))),[],15))
 (.ite (.cmp .gtr (.ar .sub .i64 (.ar .mul .i64 (.var 0) (.var 5)) (.ar .mul .i64 (.var 1) (.var 4))) (.lit 0))
 (.ite (.cmp .gtr (.ar .sub .i64 (.ar .mul .i64 (.var 4) (.var 3)) (.ar .mul .i64 (.var 5) (.var 2))) (.lit 0))
 (.ret ((.v (.one (.z (.bool (.lit true))))),[],19))
 (.ret ((.v (.one (.z (.bool (.cmp .leq (.ar .sub .i64 (.ar .mul .i64 (.var 0) (.var 3)) (.ar .mul .i64 (.var 1) (.var 2))) (.lit 0)))))),[],21)))
 (.ite (.cmp .gtr (.ar .sub .i64 (.ar .mul .i64 (.var 4) (.var 3)) (.ar .mul .i64 (.var 5) (.var 2))) (.lit 0))
 (.ret ((.v (.one (.z (.bool (.cmp .lss (.ar .sub .i64 (.ar .mul .i64 (.var 0) (.var 3)) (.ar .mul .i64 (.var 1) (.var 2))) (.lit 0)))))),[],21))
 (.ret ((.v (.one (.z (.bool (.lit false))))),[],19)))))
 (.ite (.cmp .gtr (.ar .sub .i64 (.ar .mul .i64 (.var 0) (.var 5)) (.ar .mul .i64 (.var 1) (.var 4))) (.lit 0))
 (.ite (.cmp .gtr (.ar .sub .i64 (.ar .mul .i64 (.var 4) (.var 3)) (.ar .mul .i64 (.var 5) (.var 2))) (.lit 0))
 (.ret ((.v (.one (.z (.bool (.lit true))))),[],19))
 (.ret ((.v (.one (.z (.bool (.cmp .leq (.ar .sub .i64 (.ar .mul .i64 (.var 0) (.var 3)) (.ar .mul .i64 (.var 1) (.var 2))) (.lit 0)))))),[],21)))
 (.ite (.cmp .gtr (.ar .sub .i64 (.ar .mul .i64 (.var 4) (.var 3)) (.ar .mul .i64 (.var 5) (.var 2))) (.lit 0))
 (.ret ((.v (.one (.z (.bool (.cmp .lss (.ar .sub .i64 (.ar .mul .i64 (.var 0) (.var 3)) (.ar .mul .i64 (.var 1) (.var 2))) (.lit 0)))))),[],21))
 (.ret ((.v (.one (.z (.bool (.lit false))))),[],19)))))))
set_option maxRecDepth 100000 in
theorem c4I:T.norm 0 (call Tryz.prog b9y (Lt.of []) 100 109 (g7 0 [P5,P5,P5]) [] 0) TT.ret=b9J:=by kernel_rfl
theorem c0U:b9J.low 1000=true:=by kernel_rfl
def c0n:TT j4:=
(.ite (.fn 99 (.i (.var 0) (.i (.var 1) .nil)))
 (.ite (.fn 99 (.i (.var 2) (.i (.var 3) .nil)))
 (.ite (.cmp .geq (.var 4) (.lit 1))
 (.ite (.cmp .leq (.var 4) (.lit 3))
 (.ite (.cmp .geq (.var 5) (.lit 1))
 (.ret ((.v (.one (.z (.bool (.cmp .leq (.var 5) (.lit 3000000)))))),[],1))
 (.ret ((.v (.one (.z (.bool (.lit false))))),[],1)))
 (.ret ((.v (.one (.z (.bool (.lit false))))),[],1)))
 (.ret ((.v (.one (.z (.bool (.lit false))))),[],1)))
 (.ret ((.v (.one (.z (.bool (.lit false))))),[],1)))
 (.ret ((.v (.one (.z (.bool (.lit false))))),[],1)))
set_option maxRecDepth 100000 in
theorem c6l:T.norm 0 (call Tryz.prog b9y (Lt.of []) 100 108 (g7 0 [sec]) [] 0) TT.ret=c0n:=by kernel_rfl
theorem c2o:c0n.low 1000=true:=by kernel_rfl
theorem b7D(W:World)(ds l:List D):(a9 KW W ds).fb 99 l=a5u l:=by simp only[a9,KW]
theorem b6x(a b:Int):a5u [.i a,.i b]=z8 a b:=rfl
theorem d6g:m8 Tryz.prog 108 [sec] (fun ds=> .bool (a1r ds)):=by
 refine GivesIf.all (i7 KW (by kernel_rfl) (fun ρ h=>b0A (Sees.of h 101)) (by kernel_rfl) c6l c2o (by decide) (fun W vals ds hr _=> ?_))
 simp only[c0n,g9,Nat.reduceBEq,Nat.reduceLT,Nat.reduceSub,b7D,b6x]
 simp only[a1r,a7H,z8]
 (repeat' (first | (intro h;skip) | (refine And.intro ?_ ?_)))
 all_goals (congr 1;rw[Bool.eq_iff_iff];try rw[n8])
 all_goals (simp only[j8,decide_eq_true_eq,Bool.false_eq_true,false_iff,true_iff,decide_eq_false_iff_not] at *;omega)
theorem a9G{a b c d:Int}(h1:z8 a b=true)(h2:z8 c d=true):IntKind.i64.wrap (IntKind.i64.wrap (a*c)+IntKind.i64.wrap (b*d))=a*c+b*d:=by
 rw[a0v] at h1 h2
 have m1:=N8 (a:=a) (b:=c) (A:=1000000) (B:=1000000) (by omega) (by omega) (by omega) (by omega)
 have m2:=N8 (a:=b) (b:=d) (A:=1000000) (B:=1000000) (by omega) (by omega) (by omega) (by omega)
 rw[b8 (a*c) (by omega) (by omega),b8 (b*d) (by omega) (by omega),b8 _ (by omega) (by omega)]
theorem a4g{a b c d:Int}(h1:z8 a b=true)(h2:z8 c d=true):IntKind.i64.wrap (IntKind.i64.wrap (a*d)-IntKind.i64.wrap (b*c))=D6 a b c d:=a9A h1 h2
theorem d6k:GivesIf Tryz.prog 109 [P5,P5,P5] (fun ds=>(z8 (a7 ds 0) (a7 ds 1)&&(z8 (a7 ds 2) (a7 ds 3)&&z8 (a7 ds 4) (a7 ds 5)))=true) (fun ds=> .bool (a4n ds)):=by
 refine i7 KW (by kernel_rfl) (fun ρ h=>b0A (Sees.of h 101)) (by kernel_rfl) c4I c0U (by decide) (fun W vals ds hr hok=> ?_)
 rw[Bool.and_eq_true,Bool.and_eq_true] at hok
 obtain⟨h1,h2,h3⟩:=hok
 simp only[b9J,g9,Nat.reduceBEq,Nat.reduceLT,Nat.reduceSub]
 simp only[a4g h1 h2,a4g h1 h3,a4g h2 h3,a4g h3 h2,a9G h1 h2,a9G h1 h3,a9G h2 h3]
 rw[a4n,d1Z h1 h2 h3]
 (repeat' (first | (intro h;skip) | (refine And.intro ?_ ?_)))
 all_goals (refine congrArg Value.bool ?_;rw[Bool.eq_iff_iff,decide_eq_true_eq];unfold b2G T8;simp only[n8,j8,Bool.false_eq_true,false_iff,true_iff])
 all_goals
  generalize D6 (a7 ds 0) (a7 ds 1) (a7 ds 2) (a7 ds 3)=u at*
  generalize D6 (a7 ds 0) (a7 ds 1) (a7 ds 4) (a7 ds 5)=v at*
  generalize D6 (a7 ds 2) (a7 ds 3) (a7 ds 4) (a7 ds 5)=w at*
  generalize D6 (a7 ds 4) (a7 ds 5) (a7 ds 2) (a7 ds 3)=z at*
  generalize a7 ds 0*a7 ds 2+a7 ds 1*a7 ds 3=x1 at*
  generalize a7 ds 0*a7 ds 4+a7 ds 1*a7 ds 5=x2 at*
  generalize a7 ds 2*a7 ds 4+a7 ds 3*a7 ds 5=x3 at*
  clear h1 h2 h3 hr
  (repeat' split)<;>omega
def d1G:=u7 [sec] fun al=> .ret (bV (bF 73 a1r al))
theorem c8u{ρ:Env}(h:Sees ρ KG 80):i9 Tryz.prog ρ 108 d1G:=
 j7 d6g (fun _=>rfl) (fun al=>by simp only[iV,bV,V.s0,V.val,V2.val,S.val,S0.val,m9 (s:=73) (f:=a1r) (fun l=>by rw[(h 73 l (by decide)).2];simp only[KG,KF,KE,KD,KC])];try rfl)
def c6C(al:AL):T V:=match al with
 | .i a (.i b (.i c (.i d (.i x (.i y .nil)))))=>T.obs [.tru (.fn 99 (.i a (.i b .nil))),.tru (.fn 99 (.i c (.i d .nil))),.tru (.fn 99 (.i x (.i y .nil)))] (.ret (bV (bF 100 a4n al)))
 | _=> .stuck "has"
def c8c:=u7 [P5,P5,P5] c6C
theorem c4y{ρ:Env}(h:Sees ρ KW 101):i9 Tryz.prog ρ 109 c8c:=by
 refine C7 d6k (fun al v hv=> ?_)
 have h99:∀l,ρ.fb 99 l=a5u l:=fun l=>by rw[(h 99 l (by decide)).2];simp only[KW]
 unfold c6C at hv
 split at hv
 ·rename_i a b c d x y
  obtain⟨ho,hv⟩:=T.res_obs hv
  obtain rfl:=c9 hv
  have o1:=ho _ (List.mem_cons_self ..)
  have o2:=ho _ (List.mem_cons_of_mem _ (List.mem_cons_self ..))
  have o3:=ho _ (List.mem_cons_of_mem _ (List.mem_cons_of_mem _ (List.mem_cons_self ..)))
  simp only[Ob.ok,B.ev,AL.ev,h99] at o1 o2 o3
  refine⟨rfl,?_,?_⟩
  ·show(z8 (a.ev ρ) (b.ev ρ)&&(z8 (c.ev ρ) (d.ev ρ)&&z8 (x.ev ρ) (y.ev ρ)))=true
   rw[Bool.and_eq_true,Bool.and_eq_true]
   exact⟨o1,o2,o3⟩
  ·simp only[bV,V.s0,V.val,V2.val,S.val,S0.val,m9 (s:=100) (f:=a4n) (fun l=>by rw[(h 100 l (by decide)).2];simp only[KW])]
   try rfl
 ·exact hv.elim
def c6k:Ct:=(108,d1G)::(109,c8c)::b9y
theorem b6u{ρ:Env}(h:Sees ρ KW 101):CtOk Tryz.prog ρ c6k:= .cons (c8u (b7V h))<| .cons (c4y h) (b0A h)
def b8m:TT j4:=
(.ite (.cmp .gtr (.len (.var 0)) (.lit 12))
 (.ret ((.v (.one (.z (.bool (.lit false))))),[],0))
 (.loop 0 1000 ⟨[(0,(.lit 0))],[],[]⟩
 (.ite (.cmp .lss (.var 1000) (.len (.var 0)))
 (.ob (.tru (.cmp .leq (.lit 0) (.var 1000)))
 (.ob (.tru (.cmp .lss (.var 1000) (.len (.var 0))))
 (.ite (.not (.fn 73 (.i (.rd (.var 0) (.var 1000) 0) (.i (.rd (.var 0) (.var 1000) 1) (.i (.rd (.var 0) (.var 1000) 2) (.i (.rd (.var 0) (.var 1000) 3) (.i (.rd (.var 0) (.var 1000) 4) (.i (.rd (.var 0) (.var 1000) 5) .nil))))))))
 (.ret ((.v (.one (.z (.bool (.lit false))))),[],2))
 (.loop 1 2000 ⟨[(0,(.lit 0))],[],[]⟩
 (.ite (.cmp .lss (.var 2000) (.var 1000))
 (.ob (.tru (.cmp .leq (.lit 0) (.var 1000)))
 (.ob (.tru (.cmp .lss (.var 1000) (.len (.var 0))))
 (.ob (.tru (.cmp .leq (.lit 0) (.var 1000)))
 (.ob (.tru (.cmp .lss (.var 1000) (.len (.var 0))))
 (.ob (.tru (.cmp .leq (.lit 0) (.var 2000)))
 (.ob (.tru (.cmp .lss (.var 2000) (.len (.var 0))))
 (.ob (.tru (.fn 99 (.i (.rd (.var 0) (.var 1000) 0) (.i (.rd (.var 0) (.var 1000) 1) .nil))))
 (.ob (.tru (.fn 99 (.i (.rd (.var 0) (.var 1000) 2) (.i (.rd (.var 0) (.var 1000) 3) .nil))))
 (.ob (.tru (.fn 99 (.i (.rd (.var 0) (.var 2000) 0) (.i (.rd (.var 0) (.var 2000) 1) .nil))))
 (.ite (.fn 100 (.i (.rd (.var 0) (.var 1000) 0) (.i (.rd (.var 0) (.var 1000) 1) (.i (.rd (.var 0) (.var 1000) 2) (.i (.rd (.var 0) (.var 1000) 3) (.i (.rd (.var 0) (.var 2000) 0) (.i (.rd (.var 0) (.var 2000) 1) .nil)))))))
 (.ret ((.v (.one (.z (.bool (.lit false))))),[],2))
 (.ob (.tru (.cmp .leq (.lit 0) (.var 2000)))
 (.ob (.tru (.cmp .lss (.var 2000) (.len (.var 0))))
 (.ob (.tru (.cmp .leq (.lit 0) (.var 2000)))
 (.ob (.tru (.cmp .lss (.var 2000) (.len (.var 0))))
 (.ob (.tru (.cmp .leq (.lit 0) (.var 1000)))
 (.ob (.tru (.cmp .lss (.var 1000) (.len (.var 0))))
 (.ob (.tru (.fn 99 (.i (.rd (.var 0) (.var 2000) 0) (.i (.rd (.var 0) (.var 2000) 1) .nil))))
 (.ob (.tru (.fn 99 (.i (.rd (.var 0) (.var 2000) 2) (.i (.rd (.var 0) (.var 2000) 3) .nil))))
 (.ob (.tru (.fn 99 (.i (.rd (.var 0) (.var 1000) 0) (.i (.rd (.var 0) (.var 1000) 1) .nil))))
 (.ite (.fn 100 (.i (.rd (.var 0) (.var 2000) 0) (.i (.rd (.var 0) (.var 2000) 1) (.i (.rd (.var 0) (.var 2000) 2) (.i (.rd (.var 0) (.var 2000) 3) (.i (.rd (.var 0) (.var 1000) 0) (.i (.rd (.var 0) (.var 1000) 1) .nil)))))))
 (.ret ((.v (.one (.z (.bool (.lit false))))),[],2))
 (.next 1 ⟨[(0,(.ar .add .i64 (.var 2000) (.lit 1)))],[],[]⟩)))))))))))))))))))))
 (.next 0 ⟨[(0,(.ar .add .i64 (.var 1000) (.lit 1)))],[],[]⟩))))))
 (.ret ((.v (.one (.z (.bool (.lit true))))),[],2)))))
set_option maxRecDepth 100000 in
theorem c4J:T.norm 0 (call Tryz.prog c6k (Lt.of []) 100 81 (g7 0 [a7o]) [] 0) TT.ret=b8m:=by kernel_rfl
theorem c1g:b8m.low 1000=true:=by kernel_rfl
theorem c7t(W:World)(ds l:List D):(a9 KW W ds).fb 73 l=a1r l:=by simp only[a9,KW,KV,KU,KT,KR,KG,KF,KE,KD,KC]
theorem c3E(W:World)(ds l:List D):(a9 KW W ds).fb 100 l=a4n l:=by simp only[a9,KW]
theorem c4n(a b c d x y:Int):a4n [.i a,.i b,.i c,.i d,.i x,.i y]=a2m a b c d x y:=rfl
theorem b6O{a b c d e f:Int}(h:a7H a b c d e f=true):z8 a b=true∧z8 c d=true:=by
 unfold a7H at h
 rw[decide_eq_true_eq] at h
 rw[a0v,a0v]
 omega
theorem d5P:m8 Tryz.prog 81 [a7o] (fun ds=> .bool (T0 ds)):=by
 refine GivesIf.all (i7 KW (by kernel_rfl) (fun ρ h=>b6u (Sees.of h 101)) (by kernel_rfl) c4J c1g (by decide) (fun W vals ds hr _=> ?_))
 have hlen:=b4h hr
 simp only[b8m,g9,Nat.reduceBEq,Nat.reduceLT,Nat.reduceSub]
 generalize hr0:b9 ds 0=r at hlen ⊢
 have hP:T0 ds=V4 r:=by rw[T0,hr0]
 rw[hP]
 refine⟨fun h=> ?_,fun h=> ?_⟩
 ·rw[V4,decide_eq_false (by omega),Bool.and_false]
 have h12:decide (r.length≤12)=true:=decide_eq_true (by omega)
 have hS:V4 r=a0w r r.length 0:=by rw[V4,h12,Bool.and_true]
 rw[hS]
 refine TT.sat_loop (fun v=>∃i:Nat,v.i 0=i∧i≤r.length∧a0w r (r.length-i) i=a0w r r.length 0∧∀k:Nat,k<i→a3a r k=true) (fun v=>r.length-(v.i 0).toNat)
  ⟨0,by simp [j5,i8,E.ev],by omega,rfl,fun k hk=>by omega⟩ (fun v hv=> ?_)
 obtain⟨i,i0,i1,i2,i3⟩:=hv
 simp only[g9,Nat.reduceBEq,Nat.reduceLT,Nat.reduceSub,i0,hr0,c7t,b7D,c3E,a6s]
 refine⟨fun hc=> ?_,fun hc=> ?_⟩
 ·have hi:i<r.length:=by omega
  obtain⟨f,hf⟩:∃f,r.length-i=f+1:=⟨r.length-i-1,by omega⟩
  rw[hf,a0w] at i2
  refine⟨by omega,by omega,fun p=> ?_,fun p=> ?_⟩
  ·rw[←i2,a3a,p];rfl
  have hd:=b6O p
  refine TT.sat_loop (fun v=>∃k:Nat,v.i 0=k∧k≤i∧(a4U r i (i-k) k&&a0w r f (i+1))=a0w r r.length 0) (fun v=>i-(v.i 0).toNat)
   ⟨0,by simp [j5,i8,E.ev],by omega,by rw[←i2,a3a,p];rfl⟩ (fun u hu=> ?_)
  obtain⟨k,k0,k1,k2⟩:=hu
  simp only[g9,Nat.reduceBEq,Nat.reduceLT,Nat.reduceSub,i0,k0,hr0,c7t,b7D,c3E,a6s,c4n,b6x]
  refine⟨fun hk=> ?_,fun hk=> ?_⟩
  ·have hki:k<i:=by omega
   have hdk:=b6O (i3 k hki)
   obtain⟨g,hg⟩:∃g,i-k=g+1:=⟨i-k-1,by omega⟩
   rw[hg,a4U,b2U] at k2
   refine⟨by omega,by omega,by omega,by omega,by omega,by omega,hd.1,hd.2,hdk.1,fun q=> ?_,fun q=>⟨by omega,by omega,by omega,by omega,by omega,by omega,hdk.1,hdk.2,hd.1,fun q'=> ?_,fun q'=>⟨⟨k+1,?_,by omega,?_⟩,?_⟩⟩⟩
   ·rw[←k2,q];rfl
   ·rw[←k2,q,q'];rfl
   ·rw[b8 _ (by omega) (by omega)];rfl
   ·rw[show i-(k+1)=g by omega,←k2,q,q'];rfl
   ·rw[b8 _ (by omega) (by omega)];omega
  ·have:i-k=0:=by omega
   rw[this,a4U,Bool.true_and] at k2
   refine⟨⟨i+1,?_,by omega,?_,fun j hj=> ?_⟩,?_⟩
   ·rw[b8 _ (by omega) (by omega)];rfl
   ·rw[show r.length-(i+1)=f by omega];exact k2
   ·by_cases e:j=i
    ·subst e;exact p
    ·exact i3 j (by omega)
   ·rw[b8 _ (by omega) (by omega)];omega
 ·have:r.length-i=0:=by omega
  rw[this,a0w] at i2
  rw[←i2]
def d3b:=u7 [a7o] fun al=> .ret (bV (bF 75 T0 al))
theorem c8v{ρ:Env}(h:Sees ρ KG 80):i9 Tryz.prog ρ 81 d3b:=
 j7 d5P (fun _=>rfl) (fun al=>by simp only[iV,bV,V.s0,V.val,V2.val,S.val,S0.val,m9 (s:=75) (f:=T0) (fun l=>by rw[(h 75 l (by decide)).2];simp only[KG,KF,KE])];try rfl)
def b8Z:Ct:=(81,d3b)::c6k
theorem a9C{ρ:Env}(h:Sees ρ KW 101):CtOk Tryz.prog ρ b8Z:= .cons (c8v (b7V h)) (b6u h)
def b9b:TT j4:=
(.ite (.cmp .eql (.var 0) (.lit 1))
 (.ret ((.v (.one (.z (.bool (.lit true))))),[],0))
 (.ite (.cmp .eql (.var 0) (.lit 2))
 (.ret ((.v (.one (.z (.bool (.lit true))))),[],0))
 (.ret ((.v (.one (.z (.bool (.cmp .eql (.var 0) (.lit 5)))))),[],0))))
set_option maxRecDepth 100000 in
theorem c4U:T.norm 0 (call Tryz.prog b8Z (Lt.of []) 100 60 (g7 0 [it]) [] 0) TT.ret=b9b:=by kernel_rfl
theorem c3a:b9b.low 1000=true:=by kernel_rfl
def b8Y:TT j4:=
(.ite (.cmp .lss (.var 0) (.lit 1))
 (.ret ((.v (.one (.z (.bool (.lit false))))),[],1))
 (.ite (.cmp .gtr (.var 0) (.lit 100000))
 (.ret ((.v (.one (.z (.bool (.lit false))))),[],1))
 (.ite (.cmp .lss (.var 7) (.lit 0))
 (.ret ((.v (.one (.z (.bool (.lit false))))),[],1))
 (.ite (.cmp .gtr (.var 7) (.lit 999))
 (.ret ((.v (.one (.z (.bool (.lit false))))),[],1))
 (.ite (.cmp .lss (.var 6) (.lit 0))
 (.ret ((.v (.one (.z (.bool (.lit false))))),[],1))
 (.ite (.cmp .gtr (.var 6) (.lit 100000))
 (.ret ((.v (.one (.z (.bool (.lit false))))),[],1))
 (.ite (.cmp .lss (.var 4) (.lit 0))
 (.ret ((.v (.one (.z (.bool (.lit false))))),[],1))
 (.ite (.cmp .gtr (.var 4) (.lit 100000))
 (.ret ((.v (.one (.z (.bool (.lit false))))),[],1))
 (.ite (.cmp .eql (.var 1) (.lit 1))
 (.ite (.fn 3 (.i (.var 2) (.i (.var 3) .nil)))
 (.ite (.cmp .geq (.ar .sub .i64 (.var 2) (.var 4)) (.lit (-1000000)))
 (.ite (.cmp .leq (.ar .add .i64 (.var 2) (.var 4)) (.lit 1000000))
 (.ite (.cmp .geq (.ar .sub .i64 (.var 3) (.var 4)) (.lit (-1000000)))
 (.ite (.cmp .leq (.ar .add .i64 (.var 3) (.var 4)) (.lit 1000000))
 (.ite (.cmp .eql (.len (.var 5)) (.lit 0))
 (.ret ((.v (.one (.z (.bool (.cmp .eql (.len (.var 8)) (.lit 0)))))),[],1))
 (.ret ((.v (.one (.z (.bool (.lit false))))),[],1)))
 (.ret ((.v (.one (.z (.bool (.lit false))))),[],1)))
 (.ret ((.v (.one (.z (.bool (.lit false))))),[],1)))
 (.ret ((.v (.one (.z (.bool (.lit false))))),[],1)))
 (.ret ((.v (.one (.z (.bool (.lit false))))),[],1)))
 (.ret ((.v (.one (.z (.bool (.lit false))))),[],1)))
 (.ite (.cmp .eql (.var 1) (.lit 2))
 (.ite (.fn 3 (.i (.var 2) (.i (.var 3) .nil)))
 (.ite (.cmp .geq (.ar .sub .i64 (.var 2) (.var 4)) (.lit (-1000000)))
 (.ite (.cmp .leq (.ar .add .i64 (.var 2) (.var 4)) (.lit 1000000))
 (.ite (.cmp .geq (.ar .sub .i64 (.var 3) (.var 4)) (.lit (-1000000)))
 (.ite (.cmp .leq (.ar .add .i64 (.var 3) (.var 4)) (.lit 1000000))
 (.ite (.cmp .eql (.len (.var 5)) (.lit 0))
 (.ret ((.v (.one (.z (.bool (.cmp .eql (.len (.var 8)) (.lit 0)))))),[],1))
 (.ret ((.v (.one (.z (.bool (.lit false))))),[],1)))
 (.ret ((.v (.one (.z (.bool (.lit false))))),[],1)))
 (.ret ((.v (.one (.z (.bool (.lit false))))),[],1)))
 (.ret ((.v (.one (.z (.bool (.lit false))))),[],1)))
 (.ret ((.v (.one (.z (.bool (.lit false))))),[],1)))
 (.ret ((.v (.one (.z (.bool (.lit false))))),[],1)))
 (.ite (.cmp .eql (.var 1) (.lit 5))
 (.ite (.fn 3 (.i (.var 2) (.i (.var 3) .nil)))
 (.ite (.cmp .geq (.ar .sub .i64 (.var 2) (.var 4)) (.lit (-1000000)))
 (.ite (.cmp .leq (.ar .add .i64 (.var 2) (.var 4)) (.lit 1000000))
 (.ite (.cmp .geq (.ar .sub .i64 (.var 3) (.var 4)) (.lit (-1000000)))
 (.ite (.cmp .leq (.ar .add .i64 (.var 3) (.var 4)) (.lit 1000000))
 (.ite (.cmp .eql (.len (.var 5)) (.lit 0))
 (.ret ((.v (.one (.z (.bool (.cmp .eql (.len (.var 8)) (.lit 0)))))),[],1))
 (.ret ((.v (.one (.z (.bool (.lit false))))),[],1)))
 (.ret ((.v (.one (.z (.bool (.lit false))))),[],1)))
 (.ret ((.v (.one (.z (.bool (.lit false))))),[],1)))
 (.ret ((.v (.one (.z (.bool (.lit false))))),[],1)))
 (.ret ((.v (.one (.z (.bool (.lit false))))),[],1)))
 (.ret ((.v (.one (.z (.bool (.lit false))))),[],1)))
 (.ite (.cmp .eql (.var 1) (.lit 3))
 (.ite (.fn 69 (.x (.var 5) .nil))
 (.ite (.and (.cmp .eql (.var 2) (.lit 0)) (.cmp .eql (.var 3) (.lit 0)))
 (.ite (.cmp .eql (.var 4) (.lit 0))
 (.ite (.cmp .eql (.len (.var 8)) (.lit 0))
 (.ite (.cmp .eql (.var 1) (.lit 3))
 (.ret ((.v (.one (.z (.bool (.lit true))))),[],1))
 (.ret ((.v (.one (.z (.bool (.cmp .eql (.var 6) (.lit 0)))))),[],1)))
 (.ret ((.v (.one (.z (.bool (.lit false))))),[],1)))
 (.ret ((.v (.one (.z (.bool (.lit false))))),[],1)))
 (.ret ((.v (.one (.z (.bool (.lit false))))),[],1)))
 (.ret ((.v (.one (.z (.bool (.lit false))))),[],1)))
 (.ite (.cmp .eql (.var 1) (.lit 6))
 (.ite (.fn 69 (.x (.var 5) .nil))
 (.ite (.and (.cmp .eql (.var 2) (.lit 0)) (.cmp .eql (.var 3) (.lit 0)))
 (.ite (.cmp .eql (.var 4) (.lit 0))
 (.ite (.cmp .eql (.len (.var 8)) (.lit 0))
 (.ite (.cmp .eql (.var 1) (.lit 3))
 (.ret ((.v (.one (.z (.bool (.lit true))))),[],1))
 (.ret ((.v (.one (.z (.bool (.cmp .eql (.var 6) (.lit 0)))))),[],1)))
 (.ret ((.v (.one (.z (.bool (.lit false))))),[],1)))
 (.ret ((.v (.one (.z (.bool (.lit false))))),[],1)))
 (.ret ((.v (.one (.z (.bool (.lit false))))),[],1)))
 (.ret ((.v (.one (.z (.bool (.lit false))))),[],1)))
 (.ite (.cmp .eql (.var 1) (.lit 4))
 (.ite (.fn 3 (.i (.var 2) (.i (.var 3) .nil)))
 (.ite (.fn 75 (.x (.var 8) .nil))
 (.ite (.cmp .eql (.var 4) (.lit 0))
 (.ite (.cmp .eql (.var 6) (.lit 0))
 (.ret ((.v (.one (.z (.bool (.cmp .eql (.len (.var 5)) (.lit 0)))))),[],1))
 (.ret ((.v (.one (.z (.bool (.lit false))))),[],1)))
 (.ret ((.v (.one (.z (.bool (.lit false))))),[],1)))
 (.ret ((.v (.one (.z (.bool (.lit false))))),[],1)))
 (.ret ((.v (.one (.z (.bool (.lit false))))),[],1)))
 (.ret ((.v (.one (.z (.bool (.lit false))))),[],1))))))))))))))))
set_option maxRecDepth 100000 in
theorem c5e:T.norm 0 (call Tryz.prog b8Z (Lt.of []) 100 59 (g7 0 [S6]) [] 0) TT.ret=b8Y:=by kernel_rfl
theorem c1n:b8Y.low 1000=true:=by kernel_rfl
theorem d6f(W:World)(ds l:List D):(a9 KW W ds).fb 3 l=w7 l:=by simp only[a9,KW,KV,KU,KT,KR,KG,KF,KE,KD,KC,KB,KA,K9,K8,K7,K6,K5,K]
theorem d3X(W:World)(ds l:List D):(a9 KW W ds).fb 69 l=H0 l:=by simp only[a9,KW,KV,KU,KT,KR,KG,KF,KE,KD,KC,KB]
theorem d4H(W:World)(ds l:List D):(a9 KW W ds).fb 75 l=T0 l:=by simp only[a9,KW,KV,KU,KT,KR,KG,KF,KE]
def a3W(ds:List D):Bool:=decide (a7 ds 0=1∨a7 ds 0=2∨a7 ds 0=5)
theorem d5J:m8 Tryz.prog 60 [it] (fun ds=> .bool (a3W ds)):=by
 refine GivesIf.all (i7 KW (by kernel_rfl) (fun ρ h=>a9C (Sees.of h 101)) (by kernel_rfl) c4U c3a (by decide) (fun W vals ds hr _=> ?_))
 simp only[b9b,g9,Nat.reduceBEq,Nat.reduceLT,Nat.reduceSub]
 simp only[a3W]
 (repeat' (first | (intro h;skip) | (refine And.intro ?_ ?_)))
 all_goals (congr 1;rw[Bool.eq_iff_iff];try rw[n8])
 all_goals (simp only[j8,decide_eq_true_eq,Bool.false_eq_true,false_iff,true_iff];omega)
set_option maxHeartbeats 4000000 in
theorem d5S:m8 Tryz.prog 59 [S6] (fun ds=> .bool (G1 ds)):=by
 refine GivesIf.all (i7 KW (by kernel_rfl) (fun ρ h=>a9C (Sees.of h 101)) (by kernel_rfl) c5e c1n (by decide) (fun W vals ds hr _=> ?_))
 simp only[b8Y,g9,Nat.reduceBEq,Nat.reduceLT,Nat.reduceSub,d6f,d3X,d4H,D7,P8,b2k]
 simp only[G1,G2]
 generalize a7 ds 0=id
 generalize a7 ds 1=kind
 generalize a7 ds 2=x
 generalize a7 ds 3=y
 generalize a7 ds 4=rad
 generalize b9 ds 5=area
 generalize a7 ds 6=depth
 generalize a7 ds 7=sym
 generalize b9 ds 8=sc
 have E0:= @z0 x y
 have E1:= @z0 (x-rad) (y-rad)
 have E2:= @z0 (x+rad) (y+rad)
 have W1:f9 x y=true→0≤rad→rad≤100000→IntKind.i64.wrap (x-rad)=x-rad∧IntKind.i64.wrap (y-rad)=y-rad∧IntKind.i64.wrap (x+rad)=x+rad∧IntKind.i64.wrap (y+rad)=y+rad:=fun h _ _=>by
  rw[z0] at h
  exact⟨b8 _ (by omega) (by omega),b8 _ (by omega) (by omega),b8 _ (by omega) (by omega),b8 _ (by omega) (by omega)⟩
 (repeat' (first | (intro h;skip) | (refine And.intro ?_ ?_)))
 all_goals (refine congrArg Value.bool ?_;rw[Bool.eq_iff_iff];simp only[n8,j8,decide_eq_true_eq,Bool.false_eq_true,false_iff,a4r])
 all_goals clear hr
 all_goals grind
def KX:Interp where
 fi n l:=KW.fi n l
 fb n l:=match n with | 101=>a3W l | n=>KW.fb n l
 fd _ _:=[]
theorem c6Y{ρ:Env}(h:Sees ρ KX 102):Sees ρ KW 101:=h.trans (by decide) fun n l hn=>by
 refine⟨?_,?_⟩
 ·
  rfl
 ·
  simp only[KX]
  split<;>first | omega | rfl
def d3m:=u7 [S6] fun al=> .ret (bV (bF 76 G1 al))
theorem c8k{ρ:Env}(h:Sees ρ KG 80):i9 Tryz.prog ρ 59 d3m:=
 j7 d5S (fun _=>rfl) (fun al=>by simp only[iV,bV,V.s0,V.val,V2.val,S.val,S0.val,m9 (s:=76) (f:=G1) (fun l=>by rw[(h 76 l (by decide)).2];simp only[KG,KF])];try rfl)
def d2z:=u7 [it] fun al=> .ret (bV (bF 101 a3W al))
theorem d0g{ρ:Env}(h:Sees ρ KX 102):i9 Tryz.prog ρ 60 d2z:=
 j7 d5J (fun _=>rfl) (fun al=>by simp only[iV,bV,V.s0,V.val,V2.val,S.val,S0.val,m9 (s:=101) (f:=a3W) (fun l=>by rw[(h 101 l (by decide)).2];simp only[KX])];try rfl)
theorem c6P{ρ:Env}(h:Sees ρ KX 102):Sees ρ KG 80:=b7V (c6Y h)
def b8d:Ct:=(59,d3m)::(60,d2z)::b8Z
theorem a9V{ρ:Env}(h:Sees ρ KX 102):CtOk Tryz.prog ρ b8d:= .cons (c8k (c6P h))<| .cons (d0g h) (a9C (c6Y h))
end Go.Proofs.YtcjaembdcfppfaaGreat
