/- MQ, merged: TRa, Ra, Rb, TRc, Rc, Rd, TRe, Re, Rf, TRg, Rg, Rh, Ri, TRj, Rj, TRk, Rk, Rl, TRm, Rm, TRn, Rn. -/
import Derived.Test.YtldbejmgalhdaaaGreatMP
set_option linter.unusedSimpArgs false
set_option linter.unusedVariables false
namespace Go.Proofs.YtldbejmgalhdaaaGreat
open Go.RowKit
def c1J:TT j6:=
(.ite (.cmp .geq (.var 0) (.lit (-1000000)))
 (.ite (.cmp .leq (.var 0) (.lit 1000000))
 (.ite (.cmp .geq (.var 1) (.lit (-1000000)))
 (.ret ((.v (.one (.z (.bool (.cmp .leq (.var 1) (.lit 1000000)))))),[],1))
 (.ret ((.v (.one (.z (.bool (.lit false))))),[],1)))
 (.ret ((.v (.one (.z (.bool (.lit false))))),[],1)))
 (.ret ((.v (.one (.z (.bool (.lit false))))),[],1)))
set_option maxRecDepth 100000 in
theorem c9b:T.norm 0 (call Tryz.prog [] (Lt.of []) 100 55 (i6 0 [pt]) [] 0) TT.ret=c1J:=by kernel_rfl
theorem c5S:c1J.low 1000=true:=by kernel_rfl
def b0O:TT j6:=
(.ite (.cmp .neq (.ar .sub .i64 (.ar .mul .i64 (.ar .sub .i64 (.var 4) (.var 2)) (.ar .sub .i64 (.var 1) (.var 3))) (.ar .mul .i64 (.ar .sub .i64 (.var 5) (.var 3)) (.ar .sub .i64 (.var 0) (.var 2)))) (.lit 0))
 (.ret ((.v (.one (.z (.bool (.lit false))))),[],11))
 (.ite (.cmp .geq (.var 0) (.mn (.var 2) (.var 4)))
 (.ite (.cmp .leq (.var 0) (.mx (.var 2) (.var 4)))
 (.ite (.cmp .geq (.var 1) (.mn (.var 3) (.var 5)))
 (.ret ((.v (.one (.z (.bool (.cmp .leq (.var 1) (.mx (.var 3) (.var 5))))))),[],11))
 (.ret ((.v (.one (.z (.bool (.lit false))))),[],11)))
 (.ret ((.v (.one (.z (.bool (.lit false))))),[],11)))
 (.ret ((.v (.one (.z (.bool (.lit false))))),[],11))))
set_option maxRecDepth 100000 in
theorem c1R:T.norm 0 (call Tryz.prog [] (Lt.of []) 100 135 (i6 0 [pt,pt,pt]) [] 0) TT.ret=b0O:=by kernel_rfl
theorem b8t:b0O.low 1000=true:=by kernel_rfl
def a7D:TT j6:=
(.ite (.cmp .gtr (.var 0) (.lit 0))
 (.ret ((.v (.one (.z (.int .i64 (.lit 1))))),[],0))
 (.ite (.cmp .lss (.var 0) (.lit 0))
 (.ret ((.v (.one (.z (.int .i64 (.lit (-1)))))),[],0))
 (.ret ((.v (.one (.z (.int .i64 (.lit 0))))),[],0))))
set_option maxRecDepth 100000 in
theorem b8B:T.norm 0 (call Tryz.prog [] (Lt.of []) 100 139 (i6 0 [it]) [] 0) TT.ret=a7D:=by kernel_rfl
theorem b5x:a7D.low 1000=true:=by kernel_rfl
def a5z:TT j6:=
(.ret ((.v (.agg [(.z (.int .i64 (.ar .add .i64 (.ar .add .i64 (.ar .mul .i64 (.ar .quo .i64 (.var 0) (.lit 4194304)) (.ar .quo .i64 (.var 1) (.lit 4194304))) (.ar .quo .i64 (.ar .add .i64 (.ar .mul .i64 (.ar .quo .i64 (.var 0) (.lit 4194304)) (.ar .rem .i64 (.var 1) (.lit 4194304))) (.ar .mul .i64 (.ar .rem .i64 (.var 0) (.lit 4194304)) (.ar .quo .i64 (.var 1) (.lit 4194304)))) (.lit 4194304))) (.ar .quo .i64 (.ar .add .i64 (.ar .mul .i64 (.ar .rem .i64 (.var 0) (.lit 4194304)) (.ar .rem .i64 (.var 1) (.lit 4194304))) (.ar .mul .i64 (.ar .rem .i64 (.ar .add .i64 (.ar .mul .i64 (.ar .quo .i64 (.var 0) (.lit 4194304)) (.ar .rem .i64 (.var 1) (.lit 4194304))) (.ar .mul .i64 (.ar .rem .i64 (.var 0) (.lit 4194304)) (.ar .quo .i64 (.var 1) (.lit 4194304)))) (.lit 4194304)) (.lit 4194304))) (.lit 17592186044416))))),(.z (.int .i64 (.ar .rem .i64 (.ar .add .i64 (.ar .mul .i64 (.ar .rem .i64 (.var 0) (.lit 4194304)) (.ar .rem .i64 (.var 1) (.lit 4194304))) (.ar .mul .i64 (.ar .rem .i64 (.ar .add .i64 (.ar .mul .i64 (.ar .quo .i64 (.var 0) (.lit 4194304)) (.ar .rem .i64 (.var 1) (.lit 4194304))) (.ar .mul .i64 (.ar .rem .i64 (.var 0) (.lit 4194304)) (.ar .quo .i64 (.var 1) (.lit 4194304)))) (.lit 4194304)) (.lit 4194304))) (.lit 17592186044416))))])),[],1))
set_option maxRecDepth 100000 in
theorem b7p:T.norm 0 (call Tryz.prog [] (Lt.of []) 100 138 (i6 0 [it,it]) [] 0) TT.ret=a5z:=by kernel_rfl
theorem b3y:a5z.low 1000=true:=by kernel_rfl
theorem d9a:k8 Tryz.prog 55 [pt] (fun ds=> .bool (s9 ds)):=by
 refine GivesIf.all (i7 KG (by kernel_rfl) (fun ρ h=> .nil) (by kernel_rfl) c9b c5S (by decide) (fun W vals ds _ _=> ?_))
 simp only[c1J,g8,Nat.reduceBEq,Nat.reduceLT,Nat.reduceSub]
 simp only[s9,g9]
 refine⟨fun h=>⟨fun h'=>⟨fun h''=> ?_,fun h''=> ?_⟩,fun h'=> ?_⟩,fun h=> ?_⟩
 all_goals (congr 1;rw[Bool.eq_iff_iff];try rw[x7])
 all_goals (simp only[p6,decide_eq_true_eq,Bool.false_eq_true,false_iff];omega)
theorem d3I:GivesIf Tryz.prog 135 [pt,pt,pt] (fun ds=>s8 ds=true) (fun ds=> .bool (onL ds)):=by
 refine i7 KG (by kernel_rfl) (fun ρ h=> .nil) (by kernel_rfl) c1R b8t (by decide) (fun W vals ds _ hok=> ?_)
 obtain⟨h0,h1,h2,h3,h4,h5⟩:=a3O hok
 simp only[b0O,g8,Nat.reduceBEq,Nat.reduceLT,Nat.reduceSub]
 rw[m6 h4 h2,m6 h1 h3,m6 h5 h3,m6 h0 h2,(n9 h4 h2 h1 h3).1,(n9 h5 h3 h0 h2).1,(Y1 h4 h2 h1 h3 h5 h3 h0 h2).1]
 simp only[onL,D5,A5,c1s,f7]
 refine⟨fun h=> ?_,fun h=>⟨fun h1=>⟨fun h2=>⟨fun h3=> ?_,fun h3=> ?_⟩,fun h2=> ?_⟩,fun h1=> ?_⟩⟩
 all_goals (congr 1;rw[Bool.eq_iff_iff];try rw[x7])
 all_goals (simp only[p6,decide_eq_true_eq,Bool.false_eq_true,false_iff];omega)
def a5U(ds:List D):Int:=J2 (c9 ds 0)
theorem d2w:k8 Tryz.prog 139 [it] (fun ds=> .int .i64 (a5U ds)):=by
 refine GivesIf.all (i7 KG (by kernel_rfl) (fun ρ h=> .nil) (by kernel_rfl) b8B b5x (by decide) (fun W vals ds _ _=> ?_))
 simp only[a7D,g8,Nat.reduceBEq,Nat.reduceLT,Nat.reduceSub]
 simp only[a5U,J2]
 refine⟨fun h=> ?_,fun h=>⟨fun h'=> ?_,fun h'=> ?_⟩⟩
 all_goals (congr 1;(repeat' split)<;>omega)
def a8J(ds:List D):Int:=c9 ds 0*c9 ds 1/17592186044416
def a8K(ds:List D):Int:=c9 ds 0*c9 ds 1 % 17592186044416
theorem a0b{a:Int}(h:0≤a):a.tdiv 4194304=a/4194304∧a.tmod 4194304=a % 4194304:=⟨Int.tdiv_eq_ediv_of_nonneg h,Int.tmod_eq_emod_of_nonneg h⟩
theorem c9S{p q r s:Int}(hp:0≤p∧p<4194304)(hq:0≤q∧q<4194304)(hr:0≤r∧r<4194304)(hs:0≤s∧s<4194304):
 let x:=p*4194304+q;let y:=r*4194304+s;let mid:=p*s+q*r;let lo:=q*s+mid % 4194304*4194304
 p*r+mid/4194304+lo/17592186044416=x*y/17592186044416∧lo % 17592186044416=x*y % 17592186044416:=by
 intro x y mid lo
 have e:x*y=(p*r+mid/4194304)*17592186044416+lo:=by
  have h1:x*y=p*r*17592186044416+mid*4194304+q*s:=by simp only[x,y,mid];grind
  have h2:=Int.mul_ediv_add_emod mid 4194304
  have h3:lo=q*s+mid % 4194304*4194304:=rfl
  omega
 rw[e]
 omega
theorem c8s:GivesIf Tryz.prog 138 [it,it] (fun ds=>(0≤c9 ds 0∧c9 ds 0<17592186044416)∧(0≤c9 ds 1∧c9 ds 1<17592186044416)) (fun ds=> .agg #[.int .i64 (a8J ds),.int .i64 (a8K ds)]):=by
 refine i7 KG (by kernel_rfl) (fun ρ h=> .nil) (by kernel_rfl) b7p b3y (by decide) (fun W vals ds _ hok=> ?_)
 obtain⟨⟨a0,a1⟩,b0,b1⟩:=hok
 simp only[a5z,g8,Nat.reduceBEq,Nat.reduceLT,Nat.reduceSub]
 obtain⟨x,hx⟩:∃x,c9 ds 0=x:=⟨_,rfl⟩
 obtain⟨y,hy⟩:∃y,c9 ds 1=y:=⟨_,rfl⟩
 rw[hx] at a0 a1
 rw[hy] at b0 b1
 simp only[a8J,a8K,hx,hy,(a0b a0).1,(a0b a0).2,(a0b b0).1,(a0b b0).2]
 have p1:0≤x/4194304∧x/4194304<4194304:=by omega
 have p2:0≤x % 4194304∧x % 4194304<4194304:=by omega
 have p3:0≤y/4194304∧y/4194304<4194304:=by omega
 have p4:0≤y % 4194304∧y % 4194304<4194304:=by omega
 have key:=c9S p1 p2 p3 p4
 have ex:x/4194304*4194304+x % 4194304=x:=by omega
 have ey:y/4194304*4194304+y % 4194304=y:=by omega
 simp only[ex,ey] at key
 have w1:∀ {u v:Int},0≤u∧u<4194304→0≤v∧v<4194304→0≤u*v∧u*v≤17592177655809:=fun {u v} h1 h2=>by
  have:=Int.mul_nonneg h1.1 h2.1
  have:=N7 (a:=u) (b:=v) (A:=4194303) (B:=4194303) (by omega) (by omega) (by omega) (by omega)
  omega
 have q1:=w1 p1 p3
 have q2:=w1 p1 p4
 have q3:=w1 p2 p3
 have q4:=w1 p2 p4
 generalize x/4194304=p at*
 generalize x % 4194304=q at*
 generalize y/4194304=r at*
 generalize y % 4194304=s at*
 rw[f8 p (by omega) (by omega),f8 r (by omega) (by omega),f8 (p*r) (by omega) (by omega),f8 (p*s) (by omega) (by omega),f8 (q*r) (by omega) (by omega),f8 (q*s) (by omega) (by omega),f8 (p*s+q*r) (by omega) (by omega)]
 rw[(a0b (show 0≤p*s+q*r by omega)).1,(a0b (show 0≤p*s+q*r by omega)).2]
 have m1:0≤(p*s+q*r)/4194304∧(p*s+q*r)/4194304≤8388608:=by omega
 have m2:0≤(p*s+q*r) % 4194304∧(p*s+q*r) % 4194304<4194304:=by omega
 generalize (p*s+q*r)/4194304=md at*
 generalize (p*s+q*r) % 4194304=mm at*
 rw[f8 (mm*4194304) (by omega) (by omega),f8 (q*s+mm*4194304) (by omega) (by omega),f8 md (by omega) (by omega)]
 rw[Int.tdiv_eq_ediv_of_nonneg (show 0≤q*s+mm*4194304 by omega),Int.tmod_eq_emod_of_nonneg (show 0≤q*s+mm*4194304 by omega)]
 have m3:0≤(q*s+mm*4194304)/17592186044416∧(q*s+mm*4194304)/17592186044416≤2:=by omega
 rw[f8 ((q*s+mm*4194304)/17592186044416) (by omega) (by omega),f8 (p*r+md) (by omega) (by omega),f8 (p*r+md+(q*s+mm*4194304)/17592186044416) (by omega) (by omega),key.1,key.2]
def KR:Interp where
 fi n l:=match n with | 90=>a5U l | 91=>a8J l | 92=>a8K l | n=>KG.fi n l
 fb n l:=KG.fb n l
 fd _ _:=[]
theorem a8T{ρ:Env}(h:Sees ρ KR 93):Sees ρ KG 80:=h.trans (by decide) fun n l hn=>by
 refine⟨?_,?_⟩
 ·
  simp only[KR]
  split<;>first | omega | rfl
 ·
  rfl
def c9C:=o7 [pt] fun al=> .ret (bV (bF 3 s9 al))
theorem b9b{ρ:Env}(h:Sees ρ KG 80):i9 Tryz.prog ρ 55 c9C:=
 k5 d9a (fun _=>rfl) (fun al=>by simp only[iV,bV,V.s0,V.val,V2.val,S.val,S0.val,k7 (s:=3) (f:=s9) (fun l=>by rw[(h 3 l (by decide)).2];simp only[KG,KF,KE,KD,KC,KB,KA,K9,K8,K7,K6,K5,K])];try rfl)
def b9w:=o7 [it] fun al=> .ret (iV .i64 (iF 90 a5U al))
theorem c1i{ρ:Env}(h:Sees ρ KR 93):i9 Tryz.prog ρ 139 b9w:=
 k5 d2w (fun _=>rfl) (fun al=>by simp only[iV,bV,V.s0,V.val,V2.val,S.val,S0.val,o6 (s:=90) (f:=a5U) (fun l=>by rw[(h 90 l (by decide)).1];simp only[KR])];try rfl)
theorem d5w{ρ:Env}{f:Nat}(g:GivesIf Tryz.prog f [pt,pt,pt] (fun ds=>s8 ds=true) (fun ds=> .bool (onL ds)))(h1:∀l,ρ.fb 1 l=s8 l)(h4:∀l,ρ.fb 4 l=onL l):i9 Tryz.prog ρ f b0v:=by
 refine A0 g (fun al v hv=> ?_)
 obtain⟨ho,hv⟩:=hv
 obtain rfl:=g7 hv
 have ho:(bF 1 s8 al).ev ρ=true:=ho
 rw[k7 h1] at ho
 refine⟨rfl,ho,?_⟩
 simp only[bV,V.s0,V.val,V2.val,S.val,S0.val,k7 h4]
theorem c5x{ρ:Env}(h:Sees ρ KG 80):i9 Tryz.prog ρ 135 b0v:=
 d5w d3I (fun l=>by rw[(h 1 l (by decide)).2];simp only[KG,KF,KE,KD,KC,KB,KA,K9,K8,K7,K6,K5,K]) (fun l=>by rw[(h 4 l (by decide)).2];simp only[KG,KF,KE,KD,KC,KB,KA,K9,K8,K7,K6,K5,K])
def c5B(al:AL):T V:=match al with
 | .i a (.i b .nil)=>T.obs [.tru (.cmpS .leq (.lit 0) a),.tru (.cmpS .lss a (.lit 17592186044416)),.tru (.cmpS .leq (.lit 0) b),.tru (.cmpS .lss b (.lit 17592186044416))] (.ret (.v (.agg [w6 91 a8J al,w6 92 a8K al])))
 | _=> .stuck "times"
def b9G:=o7 [it,it] c5B
theorem c1E{ρ:Env}(h:Sees ρ KR 93):i9 Tryz.prog ρ 138 b9G:=by
 refine A0 c8s (fun al v hv=> ?_)
 unfold c5B at hv
 split at hv
 ·rename_i a b
  obtain⟨ho,hv⟩:=T.res_obs hv
  obtain rfl:=g7 hv
  have o1:=ho _ (List.mem_cons_self ..)
  have o2:=ho _ (List.mem_cons_of_mem _ (List.mem_cons_self ..))
  have o3:=ho _ (List.mem_cons_of_mem _ (List.mem_cons_of_mem _ (List.mem_cons_self ..)))
  have o4:=ho _ (List.mem_cons_of_mem _ (List.mem_cons_of_mem _ (List.mem_cons_of_mem _ (List.mem_cons_self ..))))
  simp only[Ob.ok,B.cmpS_ev,x7,p6,E.ev] at o1 o2 o3 o4
  refine⟨rfl,⟨⟨o1,o2⟩,o3,o4⟩,?_⟩
  simp only[V.val,V2.val,S.val,S0.val,w6,List.map_cons,List.map_nil,o6 (s:=91) (f:=a8J) (fun l=>by rw[(h 91 l (by decide)).1];simp only[KR]),o6 (s:=92) (f:=a8K) (fun l=>by rw[(h 92 l (by decide)).1];simp only[KR])]
  try rfl
 ·exact hv.elim
def c2O:Ct:=(55,c9C)::(135,b0v)::(139,b9w)::(138,b9G)::[]
theorem b2b{ρ:Env}(h:Sees ρ KR 93):CtOk Tryz.prog ρ c2O:= .cons (b9b (a8T h))<| .cons (c5x (a8T h))<| .cons (c1i h)<| .cons (c1E h) .nil
def b6N:TT j6:=
(.ob (.tru (.fn 1 (.i (.var 0) (.i (.var 1) (.i (.var 4) (.i (.var 5) (.i (.var 6) (.i (.var 7) .nil))))))))
(.ite (.fn 4 (.i (.var 0) (.i (.var 1) (.i (.var 4) (.i (.var 5) (.i (.var 6) (.i (.var 7) .nil)))))))
 (.ret ((.v (.one (.z (.bool (.lit true))))),[],4))
 (.ob (.tru (.fn 1 (.i (.var 2) (.i (.var 3) (.i (.var 4) (.i (.var 5) (.i (.var 6) (.i (.var 7) .nil))))))))
 (.ite (.fn 4 (.i (.var 2) (.i (.var 3) (.i (.var 4) (.i (.var 5) (.i (.var 6) (.i (.var 7) .nil)))))))
 (.ret ((.v (.one (.z (.bool (.lit true))))),[],4))
 (.ob (.tru (.fn 1 (.i (.var 4) (.i (.var 5) (.i (.var 0) (.i (.var 1) (.i (.var 2) (.i (.var 3) .nil))))))))
 (.ite (.fn 4 (.i (.var 4) (.i (.var 5) (.i (.var 0) (.i (.var 1) (.i (.var 2) (.i (.var 3) .nil)))))))
 (.ret ((.v (.one (.z (.bool (.lit true))))),[],4))
 (.ob (.tru (.fn 1 (.i (.var 6) (.i (.var 7) (.i (.var 0) (.i (.var 1) (.i (.var 2) (.i (.var 3) .nil))))))))
 (.ite (.fn 4 (.i (.var 6) (.i (.var 7) (.i (.var 0) (.i (.var 1) (.i (.var 2) (.i (.var 3) .nil)))))))
 (.ret ((.v (.one (.z (.bool (.lit true))))),[],4))
 (.ite (.cmp .lss (.ar .mul .i64 (.fn 90 (.i (.ar .sub .i64 (.ar .mul .i64 (.ar .sub .i64 (.var 2) (.var 0)) (.ar .sub .i64 (.var 5) (.var 1))) (.ar .mul .i64 (.ar .sub .i64 (.var 3) (.var 1)) (.ar .sub .i64 (.var 4) (.var 0)))) .nil)) (.fn 90 (.i (.ar .sub .i64 (.ar .mul .i64 (.ar .sub .i64 (.var 2) (.var 0)) (.ar .sub .i64 (.var 7) (.var 1))) (.ar .mul .i64 (.ar .sub .i64 (.var 3) (.var 1)) (.ar .sub .i64 (.var 6) (.var 0)))) .nil))) (.lit 0))
 (.ret ((.v (.one (.z (.bool (.cmp .lss (.ar .mul .i64 (.fn 90 (.i (.ar .sub .i64 (.ar .mul .i64 (.ar .sub .i64 (.var 6) (.var 4)) (.ar .sub .i64 (.var 1) (.var 5))) (.ar .mul .i64 (.ar .sub .i64 (.var 7) (.var 5)) (.ar .sub .i64 (.var 0) (.var 4)))) .nil)) (.fn 90 (.i (.ar .sub .i64 (.ar .mul .i64 (.ar .sub .i64 (.var 6) (.var 4)) (.ar .sub .i64 (.var 3) (.var 5))) (.ar .mul .i64 (.ar .sub .i64 (.var 7) (.var 5)) (.ar .sub .i64 (.var 2) (.var 4)))) .nil))) (.lit 0)))))),[],36))
 (.ret ((.v (.one (.z (.bool (.lit false))))),[],36)))))))))))
set_option maxRecDepth 100000 in
theorem c4K:T.norm 0 (call Tryz.prog c2O (Lt.of []) 100 112 (i6 0 [pt,pt,pt,pt]) [] 0) TT.ret=b6N:=by kernel_rfl
theorem c2F:b6N.low 1000=true:=by kernel_rfl
def c2M:TT j6:=
(.ite (.cmp .leq (.ar .add .i64 (.ar .mul .i64 (.ar .sub .i64 (.var 4) (.var 2)) (.ar .sub .i64 (.var 0) (.var 2))) (.ar .mul .i64 (.ar .sub .i64 (.var 5) (.var 3)) (.ar .sub .i64 (.var 1) (.var 3)))) (.lit 0))
 (.ret ((.v (.one (.z (.bool (.cmp .leq (.ar .add .i64 (.ar .mul .i64 (.ar .sub .i64 (.var 0) (.var 2)) (.ar .sub .i64 (.var 0) (.var 2))) (.ar .mul .i64 (.ar .sub .i64 (.var 1) (.var 3)) (.ar .sub .i64 (.var 1) (.var 3)))) (.ar .mul .i64 (.var 6) (.var 6))))))),[],17))
 (.ite (.cmp .geq (.ar .add .i64 (.ar .mul .i64 (.ar .sub .i64 (.var 4) (.var 2)) (.ar .sub .i64 (.var 0) (.var 2))) (.ar .mul .i64 (.ar .sub .i64 (.var 5) (.var 3)) (.ar .sub .i64 (.var 1) (.var 3)))) (.ar .add .i64 (.ar .mul .i64 (.ar .sub .i64 (.var 4) (.var 2)) (.ar .sub .i64 (.var 4) (.var 2))) (.ar .mul .i64 (.ar .sub .i64 (.var 5) (.var 3)) (.ar .sub .i64 (.var 5) (.var 3)))))
 (.ret ((.v (.one (.z (.bool (.cmp .leq (.ar .add .i64 (.ar .mul .i64 (.ar .sub .i64 (.var 4) (.var 0)) (.ar .sub .i64 (.var 4) (.var 0))) (.ar .mul .i64 (.ar .sub .i64 (.var 5) (.var 1)) (.ar .sub .i64 (.var 5) (.var 1)))) (.ar .mul .i64 (.var 6) (.var 6))))))),[],25))
 (.ob (.tru (.cmp .leq (.lit 0) (.mx (.ar .sub .i64 (.ar .mul .i64 (.ar .sub .i64 (.var 4) (.var 2)) (.ar .sub .i64 (.var 1) (.var 3))) (.ar .mul .i64 (.ar .sub .i64 (.var 5) (.var 3)) (.ar .sub .i64 (.var 0) (.var 2)))) (.ar .sub .i64 (.lit 0) (.ar .sub .i64 (.ar .mul .i64 (.ar .sub .i64 (.var 4) (.var 2)) (.ar .sub .i64 (.var 1) (.var 3))) (.ar .mul .i64 (.ar .sub .i64 (.var 5) (.var 3)) (.ar .sub .i64 (.var 0) (.var 2))))))))
 (.ob (.tru (.cmp .lss (.mx (.ar .sub .i64 (.ar .mul .i64 (.ar .sub .i64 (.var 4) (.var 2)) (.ar .sub .i64 (.var 1) (.var 3))) (.ar .mul .i64 (.ar .sub .i64 (.var 5) (.var 3)) (.ar .sub .i64 (.var 0) (.var 2)))) (.ar .sub .i64 (.lit 0) (.ar .sub .i64 (.ar .mul .i64 (.ar .sub .i64 (.var 4) (.var 2)) (.ar .sub .i64 (.var 1) (.var 3))) (.ar .mul .i64 (.ar .sub .i64 (.var 5) (.var 3)) (.ar .sub .i64 (.var 0) (.var 2)))))) (.lit 17592186044416)))
 (.ob (.tru (.cmp .leq (.lit 0) (.mx (.ar .sub .i64 (.ar .mul .i64 (.ar .sub .i64 (.var 4) (.var 2)) (.ar .sub .i64 (.var 1) (.var 3))) (.ar .mul .i64 (.ar .sub .i64 (.var 5) (.var 3)) (.ar .sub .i64 (.var 0) (.var 2)))) (.ar .sub .i64 (.lit 0) (.ar .sub .i64 (.ar .mul .i64 (.ar .sub .i64 (.var 4) (.var 2)) (.ar .sub .i64 (.var 1) (.var 3))) (.ar .mul .i64 (.ar .sub .i64 (.var 5) (.var 3)) (.ar .sub .i64 (.var 0) (.var 2))))))))
 (.ob (.tru (.cmp .lss (.mx (.ar .sub .i64 (.ar .mul .i64 (.ar .sub .i64 (.var 4) (.var 2)) (.ar .sub .i64 (.var 1) (.var 3))) (.ar .mul .i64 (.ar .sub .i64 (.var 5) (.var 3)) (.ar .sub .i64 (.var 0) (.var 2)))) (.ar .sub .i64 (.lit 0) (.ar .sub .i64 (.ar .mul .i64 (.ar .sub .i64 (.var 4) (.var 2)) (.ar .sub .i64 (.var 1) (.var 3))) (.ar .mul .i64 (.ar .sub .i64 (.var 5) (.var 3)) (.ar .sub .i64 (.var 0) (.var 2)))))) (.lit 17592186044416)))
 (.ob (.tru (.cmp .leq (.lit 0) (.ar .mul .i64 (.var 6) (.var 6))))
 (.ob (.tru (.cmp .lss (.ar .mul .i64 (.var 6) (.var 6)) (.lit 17592186044416)))
 (.ob (.tru (.cmp .leq (.lit 0) (.ar .add .i64 (.ar .mul .i64 (.ar .sub .i64 (.var 4) (.var 2)) (.ar .sub .i64 (.var 4) (.var 2))) (.ar .mul .i64 (.ar .sub .i64 (.var 5) (.var 3)) (.ar .sub .i64 (.var 5) (.var 3))))))
 (.ob (.tru (.cmp .lss (.ar .add .i64 (.ar .mul .i64 (.ar .sub .i64 (.var 4) (.var 2)) (.ar .sub .i64 (.var 4) (.var 2))) (.ar .mul .i64 (.ar .sub .i64 (.var 5) (.var 3)) (.ar .sub .i64 (.var 5) (.var 3)))) (.lit 17592186044416)))
 (.ite (.cmp .lss (.fn 91 (.i (.mx (.ar .sub .i64 (.ar .mul .i64 (.ar .sub .i64 (.var 4) (.var 2)) (.ar .sub .i64 (.var 1) (.var 3))) (.ar .mul .i64 (.ar .sub .i64 (.var 5) (.var 3)) (.ar .sub .i64 (.var 0) (.var 2)))) (.ar .sub .i64 (.lit 0) (.ar .sub .i64 (.ar .mul .i64 (.ar .sub .i64 (.var 4) (.var 2)) (.ar .sub .i64 (.var 1) (.var 3))) (.ar .mul .i64 (.ar .sub .i64 (.var 5) (.var 3)) (.ar .sub .i64 (.var 0) (.var 2)))))) (.i (.mx (.ar .sub .i64 (.ar .mul .i64 (.ar .sub .i64 (.var 4) (.var 2)) (.ar .sub .i64 (.var 1) (.var 3))) (.ar .mul .i64 (.ar .sub .i64 (.var 5) (.var 3)) (.ar .sub .i64 (.var 0) (.var 2)))) (.ar .sub .i64 (.lit 0) (.ar .sub .i64 (.ar .mul .i64 (.ar .sub .i64 (.var 4) (.var 2)) (.ar .sub .i64 (.var 1) (.var 3))) (.ar .mul .i64 (.ar .sub .i64 (.var 5) (.var 3)) (.ar .sub .i64 (.var 0) (.var 2)))))) .nil))) (.fn 91 (.i (.ar .mul .i64 (.var 6) (.var 6)) (.i (.ar .add .i64 (.ar .mul .i64 (.ar .sub .i64 (.var 4) (.var 2)) (.ar .sub .i64 (.var 4) (.var 2))) (.ar .mul .i64 (.ar .sub .i64 (.var 5) (.var 3)) (.ar .sub .i64 (.var 5) (.var 3)))) .nil))))
 (.ret ((.v (.one (.z (.bool (.lit true))))),[],19))
 (.ite (.cmp .eql (.fn 91 (.i (.mx (.ar .sub .i64 (.ar .mul .i64 (.ar .sub .i64 (.var 4) (.var 2)) (.ar .sub .i64 (.var 1) (.var 3))) (.ar .mul .i64 (.ar .sub .i64 (.var 5) (.var 3)) (.ar .sub .i64 (.var 0) (.var 2)))) (.ar .sub .i64 (.lit 0) (.ar .sub .i64 (.ar .mul .i64 (.ar .sub .i64 (.var 4) (.var 2)) (.ar .sub .i64 (.var 1) (.var 3))) (.ar .mul .i64 (.ar .sub .i64 (.var 5) (.var 3)) (.ar .sub .i64 (.var 0) (.var 2)))))) (.i (.mx (.ar .sub .i64 (.ar .mul .i64 (.ar .sub .i64 (.var 4) (.var 2)) (.ar .sub .i64 (.var 1) (.var 3))) (.ar .mul .i64 (.ar .sub .i64 (.var 5) (.var 3)) (.ar .sub .i64 (.var 0) (.var 2)))) (.ar .sub .i64 (.lit 0) (.ar .sub .i64 (.ar .mul .i64 (.ar .sub .i64 (.var 4) (.var 2)) (.ar .sub .i64 (.var 1) (.var 3))) (.ar .mul .i64 (.ar .sub .i64 (.var 5) (.var 3)) (.ar .sub .i64 (.var 0) (.var 2)))))) .nil))) (.fn 91 (.i (.ar .mul .i64 (.var 6) (.var 6)) (.i (.ar .add .i64 (.ar .mul .i64 (.ar .sub .i64 (.var 4) (.var 2)) (.ar .sub .i64 (.var 4) (.var 2))) (.ar .mul .i64 (.ar .sub .i64 (.var 5) (.var 3)) (.ar .sub .i64 (.var 5) (.var 3)))) .nil))))
 (.ret ((.v (.one (.z (.bool (.cmp .leq (.fn 92 (.i (.mx (.ar .sub .i64 (.ar .mul .i64 (.ar .sub .i64 (.var 4) (.var 2)) (.ar .sub .i64 (.var 1) (.var 3))) (.ar .mul .i64 (.ar .sub .i64 (.var 5) (.var 3)) (.ar .sub .i64 (.var 0) (.var 2)))) (.ar .sub .i64 (.lit 0) (.ar .sub .i64 (.ar .mul .i64 (.ar .sub .i64 (.var 4) (.var 2)) (.ar .sub .i64 (.var 1) (.var 3))) (.ar .mul .i64 (.ar .sub .i64 (.var 5) (.var 3)) (.ar .sub .i64 (.var 0) (.var 2)))))) (.i (.mx (.ar .sub .i64 (.ar .mul .i64 (.ar .sub .i64 (.var 4) (.var 2)) (.ar .sub .i64 (.var 1) (.var 3))) (.ar .mul .i64 (.ar .sub .i64 (.var 5) (.var 3)) (.ar .sub .i64 (.var 0) (.var 2)))) (.ar .sub .i64 (.lit 0) (.ar .sub .i64 (.ar .mul .i64 (.ar .sub .i64 (.var 4) (.var 2)) (.ar .sub .i64 (.var 1) (.var 3))) (.ar .mul .i64 (.ar .sub .i64 (.var 5) (.var 3)) (.ar .sub .i64 (.var 0) (.var 2)))))) .nil))) (.fn 92 (.i (.ar .mul .i64 (.var 6) (.var 6)) (.i (.ar .add .i64 (.ar .mul .i64 (.ar .sub .i64 (.var 4) (.var 2)) (.ar .sub .i64 (.var 4) (.var 2))) (.ar .mul .i64 (.ar .sub .i64 (.var 5) (.var 3)) (.ar .sub .i64 (.var 5) (.var 3)))) .nil)))))))),[],19))
 (.ret ((.v (.one (.z (.bool (.lit false))))),[],19))))))))))))))
set_option maxRecDepth 100000 in
theorem c8n:T.norm 0 (call Tryz.prog c2O (Lt.of []) 100 109 (i6 0 [pt,pt,pt,it]) [] 0) TT.ret=c2M:=by kernel_rfl
theorem c6p:c2M.low 1000=true:=by kernel_rfl
theorem d8p(W:World)(ds l:List D):(f0 KR W ds).fb 1 l=s8 l:=by simp only[f0,KR,KG,KF,KE,KD,KC,KB,KA,K9,K8,K7,K6,K5,K]
theorem d9f(W:World)(ds l:List D):(f0 KR W ds).fb 4 l=onL l:=by simp only[f0,KR,KG,KF,KE,KD,KC,KB,KA,K9,K8,K7,K6,K5,K]
theorem d6D(W:World)(ds l:List D):(f0 KR W ds).fi 90 l=a5U l:=by simp only[f0,KR]
theorem d6U(W:World)(ds l:List D):(f0 KR W ds).fi 91 l=a8J l:=by simp only[f0,KR]
theorem d6T(W:World)(ds l:List D):(f0 KR W ds).fi 92 l=a8K l:=by simp only[f0,KR]
theorem c0z(n:Int):a5U [.i n]=J2 n:=rfl
theorem c8X(a b:Int):a8J [.i a,.i b]=a*b/17592186044416:=rfl
theorem c9d(a b:Int):a8K [.i a,.i b]=a*b % 17592186044416:=rfl
theorem d7p:GivesIf Tryz.prog 112 [pt,pt,pt,pt] (fun ds=>G9 ds=true) (fun ds=> .bool (L5 ds)):=by
 refine i7 KR (by kernel_rfl) (fun ρ h=>b2b (Sees.of h 93)) (by kernel_rfl) c4K c2F (by decide) (fun W vals ds _ hok=> ?_)
 simp only[G9,Bool.and_eq_true] at hok
 obtain⟨a,b,c,d⟩:=hok
 have a':=t9.mp a
 have b':=t9.mp b
 have c':=t9.mp c
 have d':=t9.mp d
 simp only[b6N,g8,Nat.reduceBEq,Nat.reduceLT,Nat.reduceSub,d8p,d9f,d6D,U1,a8U,c0z]
 simp only[m6 b'.1 a'.1,m6 c'.2 a'.2,m6 b'.2 a'.2,m6 c'.1 a'.1,m6 d'.2 a'.2,m6 d'.1 a'.1,m6 d'.1 c'.1,m6 a'.2 c'.2,m6 d'.2 c'.2,m6 a'.1 c'.1,m6 b'.2 c'.2,m6 b'.1 c'.1,
  L9 b'.1 a'.1 c'.2 a'.2,L9 b'.2 a'.2 c'.1 a'.1,L9 b'.1 a'.1 d'.2 a'.2,L9 b'.2 a'.2 d'.1 a'.1,L9 d'.1 c'.1 a'.2 c'.2,L9 d'.2 c'.2 a'.1 c'.1,L9 d'.1 c'.1 b'.2 c'.2,L9 d'.2 c'.2 b'.1 c'.1,
  (Y1 b'.1 a'.1 c'.2 a'.2 b'.2 a'.2 c'.1 a'.1).1,(Y1 b'.1 a'.1 d'.2 a'.2 b'.2 a'.2 d'.1 a'.1).1,(Y1 d'.1 c'.1 a'.2 c'.2 d'.2 c'.2 a'.1 c'.1).1,(Y1 d'.1 c'.1 b'.2 c'.2 d'.2 c'.2 b'.1 c'.1).1]
 have w:∀m n:Int,IntKind.i64.wrap (J2 m*J2 n)=J2 m*J2 n:=fun m n=>by
  have:=b0g m
  have:=b0g n
  have:=N7 (a:=J2 m) (b:=J2 n) (A:=1) (B:=1) (by omega) (by omega) (by omega) (by omega)
  exact f8 _ (by omega) (by omega)
 simp only[w,L5,t4,A5,f7,a,b,c,d,Bool.and_self,true_and]
 refine⟨fun h1=> ?_,fun h1=>⟨fun h2=> ?_,fun h2=>⟨fun h3=> ?_,fun h3=>⟨fun h4=> ?_,fun h4=>⟨fun h5=> ?_,fun h5=> ?_⟩⟩⟩⟩⟩
 ·rw[h1];simp
 ·rw[h2];simp
 ·rw[h3];simp
 ·rw[h4];simp
 ·rw[h1,h2,h3,h4];simp [h5,u7]
 ·rw[h1,h2,h3,h4];simp [h5]
theorem a8h{a b c d:Int}:(a*b/17592186044416<c*d/17592186044416∨(a*b/17592186044416=c*d/17592186044416∧a*b % 17592186044416≤c*d % 17592186044416))↔a*b≤c*d:=by
 generalize a*b=x
 generalize c*d=y
 omega
theorem d8L:GivesIf Tryz.prog 109 [pt,pt,pt,it] (fun ds=>a9i ds=true) (fun ds=> .bool (N1 ds)):=by
 refine i7 KR (by kernel_rfl) (fun ρ h=>b2b (Sees.of h 93)) (by kernel_rfl) c8n c6p (by decide) (fun W vals ds _ hok=> ?_)
 simp only[a9i,Bool.and_eq_true,A8,decide_eq_true_eq] at hok
 obtain⟨hok,h6⟩:=hok
 obtain⟨h0,h1,h2,h3,h4,h5⟩:=a3O hok
 simp only[c2M,g8,Nat.reduceBEq,Nat.reduceLT,Nat.reduceSub,d6U,d6T,c8X,c9d]
 have c0:=b6q h6
 have d1:=n9 h0 h2 h0 h2
 have d2:=n9 h1 h3 h1 h3
 have d3:=n9 h4 h0 h4 h0
 have d4:=n9 h5 h1 h5 h1
 have d5:=n9 h4 h2 h4 h2
 have d6:=n9 h5 h3 h5 h3
 have d7:=n9 h4 h2 h1 h3
 have d8:=n9 h5 h3 h0 h2
 have n1:=J0 (c9 ds 0-c9 ds 2)
 have n2:=J0 (c9 ds 1-c9 ds 3)
 have n5:=J0 (c9 ds 4-c9 ds 2)
 have n6:=J0 (c9 ds 5-c9 ds 3)
 simp only[m6 h4 h2,m6 h0 h2,m6 h5 h3,m6 h1 h3,m6 h4 h0,m6 h5 h1,L9 h4 h2 h0 h2,L9 h5 h3 h1 h3,d1.1,d2.1,d3.1,d4.1,d5.1,d6.1,d7.1,d8.1,M8 h4 h2 h0 h2 h5 h3 h1 h3,
  M8 h0 h2 h0 h2 h1 h3 h1 h3,M8 h4 h0 h4 h0 h5 h1 h5 h1,M8 h4 h2 h4 h2 h5 h3 h5 h3,(Y1 h4 h2 h1 h3 h5 h3 h0 h2).1,(Y1 h4 h2 h1 h3 h5 h3 h0 h2).2,c0.1,c1y]
 have D2:p7 (c9 ds 4) (c9 ds 5) (c9 ds 0) (c9 ds 1)=(c9 ds 4-c9 ds 0)*(c9 ds 4-c9 ds 0)+(c9 ds 5-c9 ds 1)*(c9 ds 5-c9 ds 1):=by unfold p7;grind
 refine⟨fun h=> ?_,fun h=>⟨fun h'=> ?_,fun h'=>⟨?_,?_,?_,?_,?_,?_,?_,?_,fun m=> ?_,fun m=>⟨fun m'=> ?_,fun m'=> ?_⟩⟩⟩⟩
 ·unfold N1 B8 T0
  rw[if_pos h]
  congr 1
 ·unfold N1 B8 T0
  rw[if_neg h,if_pos (show p7 _ _ _ _≤_ by unfold p7;exact h'),D2]
  congr 1
 case refine_11=>
  unfold N1 B8 T0
  rw[if_neg h,if_neg (show ¬p7 _ _ _ _≤_ by unfold p7;exact h'),decide_eq_true (by unfold f7 p7;exact a8h.mp (.inl m))]
 case refine_12=>
  unfold N1 B8 T0
  rw[if_neg h,if_neg (show ¬p7 _ _ _ _≤_ by unfold p7;exact h')]
  congr 1
  rw[Bool.eq_iff_iff,x7,decide_eq_true_eq]
  unfold f7 p7
  rw[←a8h]
  simp only[p6]
  omega
 case refine_13=>
  unfold N1 B8 T0
  rw[if_neg h,if_neg (show ¬p7 _ _ _ _≤_ by unfold p7;exact h'),decide_eq_false (by unfold f7 p7;rw[←a8h];omega)]
 all_goals omega
def inL(ds:List D):Bool:=decide (c9 ds 0≤c9 ds 4∧c9 ds 4≤c9 ds 1∧c9 ds 2≤c9 ds 5∧c9 ds 5≤c9 ds 3)
def upL(ds:List D):Int:=(c9 ds 0+c9 ds 1-1).tdiv (c9 ds 1)
def d6W(ds:List D):Int:=d0D (c9 ds 0)
def KT:Interp where
 fi n l:=match n with | 94=>upL l | 95=>d6W l | n=>KR.fi n l
 fb n l:=match n with | 93=>inL l | n=>KR.fb n l
 fd _ _:=[]
theorem b3X{ρ:Env}(h:Sees ρ KT 96):Sees ρ KR 93:=h.trans (by decide) fun n l hn=>by
 refine⟨?_,?_⟩
 ·
  simp only[KT]
  split<;>first | omega | rfl
 ·
  simp only[KT]
  split<;>first | omega | rfl
def c0M:=o7 [pt,pt,pt,pt] fun al=> .ob (.tru (bF 5 G9 al)) (.ret (bV (bF 6 L5 al)))
theorem c9L{ρ:Env}(h:Sees ρ KG 80):i9 Tryz.prog ρ 112 c0M:=by
 refine A0 d7p (fun al v hv=> ?_)
 obtain⟨ho,hv⟩:=hv
 obtain rfl:=g7 hv
 have ho:(bF 5 G9 al).ev ρ=true:=ho
 rw[k7 (fun l=>by rw[(h 5 l (by decide)).2];simp only[KG,KF,KE,KD,KC,KB,KA,K9,K8,K7,K6,K5,K])] at ho
 refine⟨rfl,ho,?_⟩
 simp only[bV,V.s0,V.val,V2.val,S.val,S0.val,k7 (s:=6) (f:=L5) (fun l=>by rw[(h 6 l (by decide)).2];simp only[KG,KF,KE,KD,KC,KB,KA,K9,K8,K7,K6,K5,K])]
theorem d1t{ρ:Env}(h:Sees ρ KG 80):i9 Tryz.prog ρ 109 a9u:=by
 refine A0 d8L (fun al v hv=> ?_)
 have h1:∀l,ρ.fb 1 l=s8 l:=fun l=>by rw[(h 1 l (by decide)).2];simp only[KG,KF,KE,KD,KC,KB,KA,K9,K8,K7,K6,K5,K]
 have h2:∀l,ρ.fb 2 l=N1 l:=fun l=>by rw[(h 2 l (by decide)).2];simp only[KG,KF,KE,KD,KC,KB,KA,K9,K8,K7,K6,K5,K]
 unfold b5R at hv
 split at hv
 ·rename_i a b c d e f r
  obtain⟨ho,hv⟩:=T.res_obs hv
  obtain rfl:=g7 hv
  have o1:=ho _ (List.mem_cons_self ..)
  have o2:=ho _ (List.mem_cons_of_mem _ (List.mem_cons_self ..))
  have o3:=ho _ (List.mem_cons_of_mem _ (List.mem_cons_of_mem _ (List.mem_cons_self ..)))
  simp only[Ob.ok,B.cmpS_ev,x7,p6,E.ev,B.ev,AL.ev,h1] at o1 o2 o3
  refine⟨rfl,?_,?_⟩
  ·show(s8 _&&A8 (r.ev ρ))=true
   rw[Bool.and_eq_true,A8,decide_eq_true_eq]
   exact⟨o1,o2,o3⟩
  ·simp only[bV,V.s0,V.val,V2.val,S.val,S0.val,B.ev,h2]
   try rfl
 ·exact hv.elim
def b1V:Ct:=(112,c0M)::(109,a9u)::c2O
theorem a3R{ρ:Env}(h:Sees ρ KT 96):CtOk Tryz.prog ρ b1V:= .cons (c9L (a8T (b3X h)))<| .cons (d1t (a8T (b3X h)))<|(b2b (b3X h))
def c1Y:TT j6:=
(.ret ((.v (.one (.z (.int .i64 (.fn 90 (.i (.ar .sub .i64 (.ar .mul .i64 (.ar .sub .i64 (.var 2) (.var 0)) (.ar .sub .i64 (.var 5) (.var 1))) (.ar .mul .i64 (.ar .sub .i64 (.var 3) (.var 1)) (.ar .sub .i64 (.var 4) (.var 0)))) .nil)))))),[],11))
set_option maxRecDepth 100000 in
theorem c9f:T.norm 0 (call Tryz.prog b1V (Lt.of []) 100 127 (i6 0 [pt,pt,pt]) [] 0) TT.ret=c1Y:=by kernel_rfl
theorem c6F:c1Y.low 1000=true:=by kernel_rfl
def c2r:TT j6:=
(.ite (.cmp .lss (.var 0) (.var 2))
 (.ret ((.v (.one (.z (.bool (.lit true))))),[],2))
 (.ite (.cmp .eql (.var 0) (.var 2))
 (.ret ((.v (.one (.z (.bool (.cmp .lss (.var 1) (.var 3)))))),[],2))
 (.ret ((.v (.one (.z (.bool (.lit false))))),[],2))))
set_option maxRecDepth 100000 in
theorem c9m:T.norm 0 (call Tryz.prog b1V (Lt.of []) 100 126 (i6 0 [pt,pt]) [] 0) TT.ret=c2r:=by kernel_rfl
theorem c6R:c2r.low 1000=true:=by kernel_rfl
def c2C:TT j6:=
(.loop 0 1000 ⟨[(0,(.lit 0))],[],[]⟩
 (.ite (.cmp .lss (.var 1000) (.len (.var 0)))
 (.loop 1 2000 ⟨[(0,(.ar .add .i64 (.var 1000) (.lit 2)))],[],[]⟩
 (.ite (.cmp .lss (.var 2000) (.len (.var 0)))
 (.ite (.cmp .gtr (.var 1000) (.lit 0))
 (.ob (.tru (.cmp .leq (.lit 0) (.var 1000)))
 (.ob (.tru (.cmp .lss (.var 1000) (.len (.var 0))))
 (.ob (.tru (.cmp .neq (.len (.var 0)) (.lit 0)))
 (.ob (.tru (.cmp .leq (.lit 0) (.ar .rem .i64 (.ar .add .i64 (.var 1000) (.lit 1)) (.len (.var 0)))))
 (.ob (.tru (.cmp .lss (.ar .rem .i64 (.ar .add .i64 (.var 1000) (.lit 1)) (.len (.var 0))) (.len (.var 0))))
 (.ob (.tru (.cmp .leq (.lit 0) (.var 2000)))
 (.ob (.tru (.cmp .lss (.var 2000) (.len (.var 0))))
 (.ob (.tru (.cmp .neq (.len (.var 0)) (.lit 0)))
 (.ob (.tru (.cmp .leq (.lit 0) (.ar .rem .i64 (.ar .add .i64 (.var 2000) (.lit 1)) (.len (.var 0)))))
 (.ob (.tru (.cmp .lss (.ar .rem .i64 (.ar .add .i64 (.var 2000) (.lit 1)) (.len (.var 0))) (.len (.var 0))))
 (.ob (.tru (.fn 5 (.i (.rd (.var 0) (.var 1000) 0) (.i (.rd (.var 0) (.var 1000) 1) (.i (.rd (.var 0) (.ar .rem .i64 (.ar .add .i64 (.var 1000) (.lit 1)) (.len (.var 0))) 0) (.i (.rd (.var 0) (.ar .rem .i64 (.ar .add .i64 (.var 1000) (.lit 1)) (.len (.var 0))) 1) (.i (.rd (.var 0) (.var 2000) 0) (.i (.rd (.var 0) (.var 2000) 1) (.i (.rd (.var 0) (.ar .rem .i64 (.ar .add .i64 (.var 2000) (.lit 1)) (.len (.var 0))) 0) (.i (.rd (.var 0) (.ar .rem .i64 (.ar .add .i64 (.var 2000) (.lit 1)) (.len (.var 0))) 1) .nil))))))))))
 (.ite (.fn 6 (.i (.rd (.var 0) (.var 1000) 0) (.i (.rd (.var 0) (.var 1000) 1) (.i (.rd (.var 0) (.ar .rem .i64 (.ar .add .i64 (.var 1000) (.lit 1)) (.len (.var 0))) 0) (.i (.rd (.var 0) (.ar .rem .i64 (.ar .add .i64 (.var 1000) (.lit 1)) (.len (.var 0))) 1) (.i (.rd (.var 0) (.var 2000) 0) (.i (.rd (.var 0) (.var 2000) 1) (.i (.rd (.var 0) (.ar .rem .i64 (.ar .add .i64 (.var 2000) (.lit 1)) (.len (.var 0))) 0) (.i (.rd (.var 0) (.ar .rem .i64 (.ar .add .i64 (.var 2000) (.lit 1)) (.len (.var 0))) 1) .nil)))))))))
 (.ret ((.v (.one (.z (.bool (.lit false))))),[],4))
 (.next 1 ⟨[(0,(.ar .add .i64 (.var 2000) (.lit 1)))],[],[]⟩)))))))))))))
 (.ite (.cmp .lss (.var 2000) (.ar .sub .i64 (.len (.var 0)) (.lit 1)))
 (.ob (.tru (.cmp .leq (.lit 0) (.var 1000)))
 (.ob (.tru (.cmp .lss (.var 1000) (.len (.var 0))))
 (.ob (.tru (.cmp .neq (.len (.var 0)) (.lit 0)))
 (.ob (.tru (.cmp .leq (.lit 0) (.ar .rem .i64 (.ar .add .i64 (.var 1000) (.lit 1)) (.len (.var 0)))))
 (.ob (.tru (.cmp .lss (.ar .rem .i64 (.ar .add .i64 (.var 1000) (.lit 1)) (.len (.var 0))) (.len (.var 0))))
 (.ob (.tru (.cmp .leq (.lit 0) (.var 2000)))
 (.ob (.tru (.cmp .lss (.var 2000) (.len (.var 0))))
 (.ob (.tru (.cmp .neq (.len (.var 0)) (.lit 0)))
 (.ob (.tru (.cmp .leq (.lit 0) (.ar .rem .i64 (.ar .add .i64 (.var 2000) (.lit 1)) (.len (.var 0)))))
 (.ob (.tru (.cmp .lss (.ar .rem .i64 (.ar .add .i64 (.var 2000) (.lit 1)) (.len (.var 0))) (.len (.var 0))))
 (.ob (.tru (.fn 5 (.i (.rd (.var 0) (.var 1000) 0) (.i (.rd (.var 0) (.var 1000) 1) (.i (.rd (.var 0) (.ar .rem .i64 (.ar .add .i64 (.var 1000) (.lit 1)) (.len (.var 0))) 0) (.i (.rd (.var 0) (.ar .rem .i64 (.ar .add .i64 (.var 1000) (.lit 1)) (.len (.var 0))) 1) (.i (.rd (.var 0) (.var 2000) 0) (.i (.rd (.var 0) (.var 2000) 1) (.i (.rd (.var 0) (.ar .rem .i64 (.ar .add .i64 (.var 2000) (.lit 1)) (.len (.var 0))) 0) (.i (.rd (.var 0) (.ar .rem .i64 (.ar .add .i64 (.var 2000) (.lit 1)) (.len (.var 0))) 1) .nil))))))))))
 (.ite (.fn 6 (.i (.rd (.var 0) (.var 1000) 0) (.i (.rd (.var 0) (.var 1000) 1) (.i (.rd (.var 0) (.ar .rem .i64 (.ar .add .i64 (.var 1000) (.lit 1)) (.len (.var 0))) 0) (.i (.rd (.var 0) (.ar .rem .i64 (.ar .add .i64 (.var 1000) (.lit 1)) (.len (.var 0))) 1) (.i (.rd (.var 0) (.var 2000) 0) (.i (.rd (.var 0) (.var 2000) 1) (.i (.rd (.var 0) (.ar .rem .i64 (.ar .add .i64 (.var 2000) (.lit 1)) (.len (.var 0))) 0) (.i (.rd (.var 0) (.ar .rem .i64 (.ar .add .i64 (.var 2000) (.lit 1)) (.len (.var 0))) 1) .nil)))))))))
 (.ret ((.v (.one (.z (.bool (.lit false))))),[],4))
 (.next 1 ⟨[(0,(.ar .add .i64 (.var 2000) (.lit 1)))],[],[]⟩)))))))))))))
 (.next 1 ⟨[(0,(.ar .add .i64 (.var 2000) (.lit 1)))],[],[]⟩)))
 (.next 0 ⟨[(0,(.ar .add .i64 (.var 1000) (.lit 1)))],[],[]⟩)))
 (.ret ((.v (.one (.z (.bool (.lit true))))),[],4))))
set_option maxRecDepth 100000 in
theorem c8K:T.norm 0 (call Tryz.prog b1V (Lt.of []) 100 128 (i6 0 [v9]) [] 0) TT.ret=c2C:=by kernel_rfl
theorem c5n:c2C.low 1000=true:=by kernel_rfl
def c2x:TT j6:=
(.loop 0 1000 ⟨[(0,(.lit 0)),(1,(.lit 0))],[],[]⟩
 (.ite (.cmp .lss (.var 1001) (.len (.var 0)))
 (.ob (.tru (.cmp .leq (.lit 0) (.var 1001)))
 (.ob (.tru (.cmp .lss (.var 1001) (.len (.var 0))))
 (.ob (.tru (.cmp .neq (.len (.var 0)) (.lit 0)))
 (.ob (.tru (.cmp .leq (.lit 0) (.ar .rem .i64 (.ar .add .i64 (.var 1001) (.lit 1)) (.len (.var 0)))))
 (.ob (.tru (.cmp .lss (.ar .rem .i64 (.ar .add .i64 (.var 1001) (.lit 1)) (.len (.var 0))) (.len (.var 0))))
 (.next 0 ⟨[(0,(.ar .add .i64 (.var 1000) (.ar .sub .i64 (.ar .mul .i64 (.rd (.var 0) (.var 1001) 0) (.rd (.var 0) (.ar .rem .i64 (.ar .add .i64 (.var 1001) (.lit 1)) (.len (.var 0))) 1)) (.ar .mul .i64 (.rd (.var 0) (.var 1001) 1) (.rd (.var 0) (.ar .rem .i64 (.ar .add .i64 (.var 1001) (.lit 1)) (.len (.var 0))) 0))))),(1,(.ar .add .i64 (.var 1001) (.lit 1)))],[],[]⟩))))))
 (.ret ((.v (.one (.z (.int .i64 (.var 1000))))),[],4))))
set_option maxRecDepth 100000 in
theorem c8Y:T.norm 0 (call Tryz.prog b1V (Lt.of []) 100 129 (i6 0 [v9]) [] 0) TT.ret=c2x:=by kernel_rfl
theorem c3V:c2x.low 1000=true:=by kernel_rfl
theorem d8h(W:World)(ds l:List D):(f0 KT W ds).fb 5 l=G9 l:=by simp only[f0,KT,KR,KG,KF,KE,KD,KC,KB,KA,K9,K8,K7,K6,K5,K]
theorem d8x(W:World)(ds l:List D):(f0 KT W ds).fb 6 l=L5 l:=by simp only[f0,KT,KR,KG,KF,KE,KD,KC,KB,KA,K9,K8,K7,K6,K5,K]
theorem d6B(W:World)(ds l:List D):(f0 KT W ds).fi 90 l=a5U l:=by simp only[f0,KT,KR]
theorem d9c:GivesIf Tryz.prog 127 [pt,pt,pt] (fun ds=>s8 ds=true) (fun ds=> .int .i64 (H5 ds)):=by
 refine i7 KT (by kernel_rfl) (fun ρ h=>a3R (Sees.of h 96)) (by kernel_rfl) c9f c6F (by decide) (fun W vals ds _ hok=> ?_)
 obtain⟨h0,h1,h2,h3,h4,h5⟩:=a3O hok
 simp only[c1Y,g8,Nat.reduceBEq,Nat.reduceLT,Nat.reduceSub,d6B,c0z]
 rw[m6 h2 h0,m6 h5 h1,m6 h3 h1,m6 h4 h0,(n9 h2 h0 h5 h1).1,(n9 h3 h1 h4 h0).1,(Y1 h2 h0 h5 h1 h3 h1 h4 h0).1]
 rfl
def a4x(ds:List D):Bool:=a1O (c9 ds 0) (c9 ds 1) (c9 ds 2) (c9 ds 3)
theorem d8g:k8 Tryz.prog 126 [pt,pt] (fun ds=> .bool (a4x ds)):=by
 refine GivesIf.all (i7 KT (by kernel_rfl) (fun ρ h=>a3R (Sees.of h 96)) (by kernel_rfl) c9m c6R (by decide) (fun W vals ds _ _=> ?_))
 simp only[c2r,g8,Nat.reduceBEq,Nat.reduceLT,Nat.reduceSub]
 simp only[a4x,a1O]
 refine⟨fun h=> ?_,fun h=>⟨fun h'=> ?_,fun h'=> ?_⟩⟩
 all_goals (congr 1;rw[Bool.eq_iff_iff];try rw[x7])
 all_goals (simp only[p6,decide_eq_true_eq,Bool.false_eq_true,false_iff,true_iff];omega)
theorem a1o{n i:Nat}(h:i<n)(hn:n≤281474976710656):(IntKind.i64.wrap ((i:Int)+1)).tmod (n:Int)=(nxt n i:Int):=by
 rw[f8 ((i:Int)+1) (by omega) (by omega),Int.tmod_eq_emod_of_nonneg (by omega)]
 unfold nxt
 split
 ·rename_i h1
  rw[show((i:Int)+1)=n by omega,Int.emod_self];rfl
 ·rw[Int.emod_eq_of_lt (by omega) (by omega)];rfl
theorem d8t:k8 Tryz.prog 129 [v9] (fun ds=> .int .i64 (X5 ds)):=by
 refine GivesIf.all (i7 KT (by kernel_rfl) (fun ρ h=>a3R (Sees.of h 96)) (by kernel_rfl) c8Y c3V (by decide) (fun W vals ds hr _=> ?_))
 have hlen:=Q5 hr
 simp only[c2x]
 refine TT.sat_loop (fun v=>∃i:Nat,v.i 1=i∧i≤(d9 ds 0).length∧G0 (d9 ds 0) ((d9 ds 0).length-i) i (v.i 0)=G0 (d9 ds 0) (d9 ds 0).length 0 0) (fun v=>(d9 ds 0).length-(v.i 1).toNat)
  ⟨0,by simp [j7,i8,E.ev],by omega,by simp [j7,i8,E.ev]⟩ (fun v hv=> ?_)
 obtain⟨i,i0,i1,i2⟩:=hv
 simp only[g8,Nat.reduceBEq,Nat.reduceLT,Nat.reduceSub,i0]
 refine⟨fun hc=> ?_,fun hc=> ?_⟩
 ·have hi:i<(d9 ds 0).length:=by omega
  have hn:=u0 hi
  obtain⟨f,hf⟩:∃f,(d9 ds 0).length-i=f+1:=⟨(d9 ds 0).length-i-1,by omega⟩
  rw[a1o hi hlen,f8 ((i:Int)+1) (by omega) (by omega)]
  rw[hf,G0] at i2
  have hf':(d9 ds 0).length-(i+1)=f:=by omega
  exact⟨by omega,by omega,by omega,by omega,by omega,⟨i+1,rfl,by omega,by rw[hf'];exact i2⟩,by omega⟩
 ·have:(d9 ds 0).length-i=0:=by omega
  rw[this,G0] at i2
  rw[X5,←i2]
theorem a5v{r:Rows}{i:Nat}:∀(m k f:Nat),k+m≤i+2→S9 r i (f+m) k=S9 r i f (k+m)
 | 0,k,f,_=>rfl
 | m+1,k,f,h=>by
   rw[←Nat.add_assoc,S9,a5v m (k+1) f (by omega)]
   have:F0 r i k=true:=by unfold F0;rw[decide_eq_true (.inl (by omega))];rfl
   rw[this,Bool.true_and,show k+1+m=k+(m+1) by omega]
theorem c6d{r:Rows}{i:Nat}(hi:i<r.length):S9 r i r.length 0=S9 r i (r.length-(i+2)) (i+2):=by
 by_cases h:i+2≤r.length
 ·have:=a5v (r:=r) (i:=i) (i+2) 0 (r.length-(i+2)) (by omega)
  rw[show r.length-(i+2)+(i+2)=r.length by omega,Nat.zero_add] at this
  exact this
 ·have:=a5v (r:=r) (i:=i) r.length 0 0 (by omega)
  rw[Nat.zero_add] at this
  rw[this,show r.length-(i+2)=0 by omega]
  rfl
def plL(ds:List D):Bool:=plN (d9 ds 0) (d9 ds 0).length 0
theorem d8c:GivesIf Tryz.prog 128 [v9] (fun ds=>plL ds=true) (fun ds=> .bool (J6 ds)):=by
 refine i7 KT (by kernel_rfl) (fun ρ h=>a3R (Sees.of h 96)) (by kernel_rfl) c8K c5n (by decide) (fun W vals ds hr hok=> ?_)
 have hlen:=Q5 hr
 have hpl:∀k:Nat,k<(d9 ds 0).length→g9 (lg (d9 ds 0) k 0) (lg (d9 ds 0) k 1)=true:=fun k hk=>a7Y _ 0 hok k (by omega) (by omega)
 simp only[c2C]
 refine TT.sat_loop (fun v=>∃i:Nat,v.i 0=i∧i≤(d9 ds 0).length∧o9 (d9 ds 0) ((d9 ds 0).length-i) i=o9 (d9 ds 0) (d9 ds 0).length 0) (fun v=>(d9 ds 0).length-(v.i 0).toNat)
  ⟨0,by simp [j7,i8,E.ev],by omega,rfl⟩ (fun v hv=> ?_)
 obtain⟨i,i0,i1,i2⟩:=hv
 simp only[g8,Nat.reduceBEq,Nat.reduceLT,Nat.reduceSub,i0]
 refine⟨fun hc=> ?_,fun hc=> ?_⟩
 ·have hi:i<(d9 ds 0).length:=by omega
  have hn:=u0 hi
  obtain⟨f,hf⟩:∃f,(d9 ds 0).length-i=f+1:=⟨(d9 ds 0).length-i-1,by omega⟩
  rw[hf,o9,c6d hi] at i2
  have hf':(d9 ds 0).length-(i+1)=f:=by omega
  refine TT.sat_loop (fun u=>∃k:Nat,u.i 0=k∧k≤max (d9 ds 0).length (i+2)∧i+2≤k∧(S9 (d9 ds 0) i ((d9 ds 0).length-k) k&&o9 (d9 ds 0) f (i+1))=o9 (d9 ds 0) (d9 ds 0).length 0) (fun u=>(d9 ds 0).length-(u.i 0).toNat)
   ⟨i+2,?_,by omega,by omega,i2⟩ (fun u hu=> ?_)
  ·simp [j7,i8,E.ev,B5,a0W,i0]
   rw[f8 _ (by omega) (by omega)]
  obtain⟨k,k0,k1,k3,k2⟩:=hu
  simp only[g8,Nat.reduceBEq,Nat.reduceLT,Nat.reduceSub,i0,k0,d8h,d8x,a0X,a1N]
  refine⟨fun hk=> ?_,fun hk=> ?_⟩
  ·have hkn:k<(d9 ds 0).length:=by omega
   have hn':=u0 hkn
   obtain⟨g,hg⟩:∃g,(d9 ds 0).length-k=g+1:=⟨(d9 ds 0).length-k-1,by omega⟩
   rw[a1o hkn hlen,a1o hi hlen,f8 ((k:Int)+1) (by omega) (by omega),f8 (((d9 ds 0).length:Int)-1) (by omega) (by omega)]
   rw[hg,S9] at k2
   have hg':(d9 ds 0).length-(k+1)=g:=by omega
   have N:F0 (d9 ds 0) i k=true→(∃j:Nat,(k:Int)+1=j∧j≤max (d9 ds 0).length (i+2)∧i+2≤j∧(S9 (d9 ds 0) i ((d9 ds 0).length-j) j&&o9 (d9 ds 0) f (i+1))=o9 (d9 ds 0) (d9 ds 0).length 0)∧(d9 ds 0).length-((k:Int)+1).toNat<(d9 ds 0).length-(k:Int).toNat:=
    fun h=>⟨⟨k+1,rfl,by omega,by omega,by rw[hg',←k2,h];rfl⟩,by omega⟩
   have F:F0 (d9 ds 0) i k=false→Value.bool false=Value.bool (J6 ds):=fun h=>by rw[show J6 ds=o9 (d9 ds 0) (d9 ds 0).length 0 from rfl,←k2,h];rfl
   have p0:=hpl i hi
   have p1:=hpl _ hn
   have p2:=hpl k hkn
   have p3:=hpl _ hn'
   have P1:(k≤i+1∨(i=0∧k+1=(d9 ds 0).length))→F0 (d9 ds 0) i k=true:=fun h=>by unfold F0;rw[decide_eq_true h];rfl
   have P2:¬(k≤i+1∨(i=0∧k+1=(d9 ds 0).length))→F0 (d9 ds 0) i k= !t4 (lg (d9 ds 0) i 0) (lg (d9 ds 0) i 1) (lg (d9 ds 0) (nxt (d9 ds 0).length i) 0) (lg (d9 ds 0) (nxt (d9 ds 0).length i) 1) (lg (d9 ds 0) k 0) (lg (d9 ds 0) k 1) (lg (d9 ds 0) (nxt (d9 ds 0).length k) 0) (lg (d9 ds 0) (nxt (d9 ds 0).length k) 1):=fun h=>by
    unfold F0 a6B a1P;rw[decide_eq_false h,a0X,p0,p1,p2,p3,a1N];rfl
   simp only[p0,p1,p2,p3,Bool.and_self]
   refine⟨fun a=>⟨by omega,by omega,by omega,by omega,by omega,by omega,by omega,by omega,by omega,by omega,by simp,fun m=>F ?_,fun m=>N ?_⟩,fun a=>⟨fun b=>⟨by omega,by omega,by omega,by omega,by omega,by omega,by omega,by omega,by omega,by omega,by simp,fun m=>F ?_,fun m=>N ?_⟩,fun b=>N (P1 (by omega))⟩⟩
   all_goals (rw[P2 (by omega),m];rfl)
  ·have:(d9 ds 0).length-k=0:=by omega
   rw[this,S9,Bool.true_and] at k2
   rw[f8 ((i:Int)+1) (by omega) (by omega)]
   exact⟨⟨i+1,rfl,by omega,by rw[hf'];exact k2⟩,by omega⟩
 ·have:(d9 ds 0).length-i=0:=by omega
  rw[this,o9] at i2
  rw[J6,←i2]
def KU:Interp where
 fi n l:=KT.fi n l
 fb n l:=match n with | 96=>a4x l | 97=>plL l | n=>KT.fb n l
 fd _ _:=[]
theorem d0h{ρ:Env}(h:Sees ρ KU 98):Sees ρ KT 96:=h.trans (by decide) fun n l hn=>by
 refine⟨?_,?_⟩
 ·
  rfl
 ·
  simp only[KU]
  split<;>first | omega | rfl
theorem b3K{ρ:Env}(h:Sees ρ KU 98):Sees ρ KG 80:=a8T (b3X (d0h h))
theorem c7P{ρ:Env}{f:Nat}(g:GivesIf Tryz.prog f [pt,pt,pt] (fun ds=>s8 ds=true) (fun ds=> .int .i64 (H5 ds)))(h1:∀l,ρ.fb 1 l=s8 l)(h0:∀l,ρ.fi 0 l=H5 l):i9 Tryz.prog ρ f a5P:=by
 refine A0 g (fun al v hv=> ?_)
 obtain⟨ho,hv⟩:=hv
 obtain rfl:=g7 hv
 have ho:(bF 1 s8 al).ev ρ=true:=ho
 rw[k7 h1] at ho
 refine⟨rfl,ho,?_⟩
 simp only[iV,V.s0,V.val,V2.val,S.val,S0.val,o6 h0]
theorem d2K{ρ:Env}(h:Sees ρ KG 80):i9 Tryz.prog ρ 127 a5P:=
 c7P d9c (fun l=>by rw[(h 1 l (by decide)).2];simp only[KG,KF,KE,KD,KC,KB,KA,K9,K8,K7,K6,K5,K]) (fun l=>by rw[(h 0 l (by decide)).1];simp only[KG,KF,KE,KD,KC,KB,KA,K9,K8,K7,K6,K5,K])
def d5R:=o7 [pt,pt] fun al=> .ret (bV (bF 96 a4x al))
theorem d3v{ρ:Env}(h:Sees ρ KU 98):i9 Tryz.prog ρ 126 d5R:=
 k5 d8g (fun _=>rfl) (fun al=>by simp only[iV,bV,V.s0,V.val,V2.val,S.val,S0.val,k7 (s:=96) (f:=a4x) (fun l=>by rw[(h 96 l (by decide)).2];simp only[KU])];try rfl)
def d5H:=o7 [v9] fun al=> .ret (iV .i64 (iF 65 X5 al))
theorem d3r{ρ:Env}(h:Sees ρ KG 80):i9 Tryz.prog ρ 129 d5H:=
 k5 d8t (fun _=>rfl) (fun al=>by simp only[iV,bV,V.s0,V.val,V2.val,S.val,S0.val,o6 (s:=65) (f:=X5) (fun l=>by rw[(h 65 l (by decide)).1];simp only[KG,KF,KE,KD,KC,KB,KA,K9,K8,K7,K6,K5,K])];try rfl)
def d0H:=o7 [v9] fun al=> .ob (.tru (bF 97 plL al)) (.ret (bV (bF 66 J6 al)))
theorem c8O{ρ:Env}(h:Sees ρ KU 98):i9 Tryz.prog ρ 128 d0H:=by
 refine A0 d8c (fun al v hv=> ?_)
 obtain⟨ho,hv⟩:=hv
 obtain rfl:=g7 hv
 have ho:(bF 97 plL al).ev ρ=true:=ho
 rw[k7 (fun l=>by rw[(h 97 l (by decide)).2];simp only[KU])] at ho
 refine⟨rfl,ho,?_⟩
 simp only[bV,V.s0,V.val,V2.val,S.val,S0.val,k7 (s:=66) (f:=J6) (fun l=>by rw[(b3K h 66 l (by decide)).2];simp only[KG,KF,KE,KD,KC,KB,KA,K9,K8,K7,K6,K5,K])]
def c1T:Ct:=(127,a5P)::(126,d5R)::(129,d5H)::(128,d0H)::b1V
theorem b2k{ρ:Env}(h:Sees ρ KU 98):CtOk Tryz.prog ρ c1T:= .cons (d2K (b3K h))<| .cons (d3v h)<| .cons (d3r (b3K h))<| .cons (c8O h) (a3R (d0h h))
def c1G:TT j6:=
(.ite (.cmp .lss (.len (.var 0)) (.lit 3))
 (.ret ((.v (.one (.z (.bool (.lit false))))),[],0))
 (.ite (.cmp .gtr (.len (.var 0)) (.lit 24))
 (.ret ((.v (.one (.z (.bool (.lit false))))),[],0))
 (.loop 0 1000 ⟨[(0,(.lit 0))],[],[]⟩
 (.ite (.cmp .lss (.var 1000) (.len (.var 0)))
 (.ob (.tru (.cmp .leq (.lit 0) (.var 1000)))
 (.ob (.tru (.cmp .lss (.var 1000) (.len (.var 0))))
 (.ite (.not (.fn 3 (.i (.rd (.var 0) (.var 1000) 0) (.i (.rd (.var 0) (.var 1000) 1) .nil))))
 (.ret ((.v (.one (.z (.bool (.lit false))))),[],1))
 (.ite (.cmp .gtr (.var 1000) (.lit 0))
 (.ob (.tru (.lit true))
 (.ob (.tru (.cmp .lss (.lit 0) (.len (.var 0))))
 (.ob (.tru (.cmp .leq (.lit 0) (.var 1000)))
 (.ob (.tru (.cmp .lss (.var 1000) (.len (.var 0))))
 (.ite (.not (.fn 96 (.i (.rd (.var 0) (.lit 0) 0) (.i (.rd (.var 0) (.lit 0) 1) (.i (.rd (.var 0) (.var 1000) 0) (.i (.rd (.var 0) (.var 1000) 1) .nil))))))
 (.ret ((.v (.one (.z (.bool (.lit false))))),[],1))
 (.next 0 ⟨[(0,(.ar .add .i64 (.var 1000) (.lit 1)))],[],[]⟩))))))
 (.next 0 ⟨[(0,(.ar .add .i64 (.var 1000) (.lit 1)))],[],[]⟩)))))
 (.loop 1 2000 ⟨[(0,(.lit 0))],[],[]⟩
 (.ite (.cmp .lss (.var 2000) (.len (.var 0)))
 (.ob (.tru (.cmp .leq (.lit 0) (.var 2000)))
 (.ob (.tru (.cmp .lss (.var 2000) (.len (.var 0))))
 (.ob (.tru (.cmp .neq (.len (.var 0)) (.lit 0)))
 (.ob (.tru (.cmp .leq (.lit 0) (.ar .rem .i64 (.ar .add .i64 (.var 2000) (.lit 1)) (.len (.var 0)))))
 (.ob (.tru (.cmp .lss (.ar .rem .i64 (.ar .add .i64 (.var 2000) (.lit 1)) (.len (.var 0))) (.len (.var 0))))
 (.ob (.tru (.cmp .neq (.len (.var 0)) (.lit 0)))
 (.ob (.tru (.cmp .leq (.lit 0) (.ar .rem .i64 (.ar .add .i64 (.var 2000) (.lit 2)) (.len (.var 0)))))
 (.ob (.tru (.cmp .lss (.ar .rem .i64 (.ar .add .i64 (.var 2000) (.lit 2)) (.len (.var 0))) (.len (.var 0))))
 (.ob (.tru (.fn 1 (.i (.rd (.var 0) (.var 2000) 0) (.i (.rd (.var 0) (.var 2000) 1) (.i (.rd (.var 0) (.ar .rem .i64 (.ar .add .i64 (.var 2000) (.lit 1)) (.len (.var 0))) 0) (.i (.rd (.var 0) (.ar .rem .i64 (.ar .add .i64 (.var 2000) (.lit 1)) (.len (.var 0))) 1) (.i (.rd (.var 0) (.ar .rem .i64 (.ar .add .i64 (.var 2000) (.lit 2)) (.len (.var 0))) 0) (.i (.rd (.var 0) (.ar .rem .i64 (.ar .add .i64 (.var 2000) (.lit 2)) (.len (.var 0))) 1) .nil))))))))
 (.ite (.cmp .eql (.fn 0 (.i (.rd (.var 0) (.var 2000) 0) (.i (.rd (.var 0) (.var 2000) 1) (.i (.rd (.var 0) (.ar .rem .i64 (.ar .add .i64 (.var 2000) (.lit 1)) (.len (.var 0))) 0) (.i (.rd (.var 0) (.ar .rem .i64 (.ar .add .i64 (.var 2000) (.lit 1)) (.len (.var 0))) 1) (.i (.rd (.var 0) (.ar .rem .i64 (.ar .add .i64 (.var 2000) (.lit 2)) (.len (.var 0))) 0) (.i (.rd (.var 0) (.ar .rem .i64 (.ar .add .i64 (.var 2000) (.lit 2)) (.len (.var 0))) 1) .nil))))))) (.lit 0))
 (.ret ((.v (.one (.z (.bool (.lit false))))),[],3))
 (.next 1 ⟨[(0,(.ar .add .i64 (.var 2000) (.lit 1)))],[],[]⟩)))))))))))
 (.ob (.tru (.fn 97 (.x (.var 0) .nil)))
 (.ite (.fn 66 (.x (.var 0) .nil))
 (.ret ((.v (.one (.z (.bool (.cmp .gtr (.fn 65 (.x (.var 0) .nil)) (.lit 0)))))),[],3))
 (.ret ((.v (.one (.z (.bool (.lit false))))),[],3))))))))))
set_option maxRecDepth 100000 in
theorem c8V:T.norm 0 (call Tryz.prog c1T (Lt.of []) 100 97 (i6 0 [v9]) [] 0) TT.ret=c1G:=by kernel_rfl
theorem c5b:c1G.low 1000=true:=by kernel_rfl
def c2u:TT j6:=
(.loop 0 2000 ⟨[(1,(.lit 0)),(0,(.lit 0))],[],[]⟩
 (.ite (.cmp .lss (.var 2000) (.len (.var 2)))
 (.ob (.tru (.cmp .leq (.lit 0) (.var 2000)))
 (.ob (.tru (.cmp .lss (.var 2000) (.len (.var 2))))
 (.ob (.tru (.cmp .neq (.len (.var 2)) (.lit 0)))
 (.ob (.tru (.cmp .leq (.lit 0) (.ar .rem .i64 (.ar .add .i64 (.var 2000) (.lit 1)) (.len (.var 2)))))
 (.ob (.tru (.cmp .lss (.ar .rem .i64 (.ar .add .i64 (.var 2000) (.lit 1)) (.len (.var 2))) (.len (.var 2))))
 (.ob (.tru (.fn 1 (.i (.var 0) (.i (.var 1) (.i (.rd (.var 2) (.var 2000) 0) (.i (.rd (.var 2) (.var 2000) 1) (.i (.rd (.var 2) (.ar .rem .i64 (.ar .add .i64 (.var 2000) (.lit 1)) (.len (.var 2))) 0) (.i (.rd (.var 2) (.ar .rem .i64 (.ar .add .i64 (.var 2000) (.lit 1)) (.len (.var 2))) 1) .nil))))))))
 (.ite (.fn 4 (.i (.var 0) (.i (.var 1) (.i (.rd (.var 2) (.var 2000) 0) (.i (.rd (.var 2) (.var 2000) 1) (.i (.rd (.var 2) (.ar .rem .i64 (.ar .add .i64 (.var 2000) (.lit 1)) (.len (.var 2))) 0) (.i (.rd (.var 2) (.ar .rem .i64 (.ar .add .i64 (.var 2000) (.lit 1)) (.len (.var 2))) 1) .nil)))))))
 (.ret ((.v (.one (.z (.int .i64 (.lit 0))))),[],5))
 (.ite (.cmp .leq (.rd (.var 2) (.var 2000) 1) (.var 1))
 (.ite (.cmp .gtr (.rd (.var 2) (.ar .rem .i64 (.ar .add .i64 (.var 2000) (.lit 1)) (.len (.var 2))) 1) (.var 1))
 (.ob (.tru (.fn 1 (.i (.rd (.var 2) (.var 2000) 0) (.i (.rd (.var 2) (.var 2000) 1) (.i (.rd (.var 2) (.ar .rem .i64 (.ar .add .i64 (.var 2000) (.lit 1)) (.len (.var 2))) 0) (.i (.rd (.var 2) (.ar .rem .i64 (.ar .add .i64 (.var 2000) (.lit 1)) (.len (.var 2))) 1) (.i (.var 0) (.i (.var 1) .nil))))))))
 (.ite (.cmp .gtr (.fn 0 (.i (.rd (.var 2) (.var 2000) 0) (.i (.rd (.var 2) (.var 2000) 1) (.i (.rd (.var 2) (.ar .rem .i64 (.ar .add .i64 (.var 2000) (.lit 1)) (.len (.var 2))) 0) (.i (.rd (.var 2) (.ar .rem .i64 (.ar .add .i64 (.var 2000) (.lit 1)) (.len (.var 2))) 1) (.i (.var 0) (.i (.var 1) .nil))))))) (.lit 0))
 (.ite (.cmp .leq (.rd (.var 2) (.ar .rem .i64 (.ar .add .i64 (.var 2000) (.lit 1)) (.len (.var 2))) 1) (.var 1))
 (.ite (.cmp .gtr (.rd (.var 2) (.var 2000) 1) (.var 1))
 (.ob (.tru (.fn 1 (.i (.rd (.var 2) (.var 2000) 0) (.i (.rd (.var 2) (.var 2000) 1) (.i (.rd (.var 2) (.ar .rem .i64 (.ar .add .i64 (.var 2000) (.lit 1)) (.len (.var 2))) 0) (.i (.rd (.var 2) (.ar .rem .i64 (.ar .add .i64 (.var 2000) (.lit 1)) (.len (.var 2))) 1) (.i (.var 0) (.i (.var 1) .nil))))))))
 (.ite (.cmp .lss (.fn 0 (.i (.rd (.var 2) (.var 2000) 0) (.i (.rd (.var 2) (.var 2000) 1) (.i (.rd (.var 2) (.ar .rem .i64 (.ar .add .i64 (.var 2000) (.lit 1)) (.len (.var 2))) 0) (.i (.rd (.var 2) (.ar .rem .i64 (.ar .add .i64 (.var 2000) (.lit 1)) (.len (.var 2))) 1) (.i (.var 0) (.i (.var 1) .nil))))))) (.lit 0))
 (.next 0 ⟨[(1,(.ar .sub .i64 (.ar .add .i64 (.var 2001) (.lit 1)) (.lit 1))),(0,(.ar .add .i64 (.var 2000) (.lit 1)))],[],[]⟩)
 (.next 0 ⟨[(1,(.ar .add .i64 (.var 2001) (.lit 1))),(0,(.ar .add .i64 (.var 2000) (.lit 1)))],[],[]⟩)))
 (.next 0 ⟨[(1,(.ar .add .i64 (.var 2001) (.lit 1))),(0,(.ar .add .i64 (.var 2000) (.lit 1)))],[],[]⟩))
 (.next 0 ⟨[(1,(.ar .add .i64 (.var 2001) (.lit 1))),(0,(.ar .add .i64 (.var 2000) (.lit 1)))],[],[]⟩))
 (.ite (.cmp .leq (.rd (.var 2) (.ar .rem .i64 (.ar .add .i64 (.var 2000) (.lit 1)) (.len (.var 2))) 1) (.var 1))
 (.ite (.cmp .gtr (.rd (.var 2) (.var 2000) 1) (.var 1))
 (.ob (.tru (.fn 1 (.i (.rd (.var 2) (.var 2000) 0) (.i (.rd (.var 2) (.var 2000) 1) (.i (.rd (.var 2) (.ar .rem .i64 (.ar .add .i64 (.var 2000) (.lit 1)) (.len (.var 2))) 0) (.i (.rd (.var 2) (.ar .rem .i64 (.ar .add .i64 (.var 2000) (.lit 1)) (.len (.var 2))) 1) (.i (.var 0) (.i (.var 1) .nil))))))))
 (.ite (.cmp .lss (.fn 0 (.i (.rd (.var 2) (.var 2000) 0) (.i (.rd (.var 2) (.var 2000) 1) (.i (.rd (.var 2) (.ar .rem .i64 (.ar .add .i64 (.var 2000) (.lit 1)) (.len (.var 2))) 0) (.i (.rd (.var 2) (.ar .rem .i64 (.ar .add .i64 (.var 2000) (.lit 1)) (.len (.var 2))) 1) (.i (.var 0) (.i (.var 1) .nil))))))) (.lit 0))
 (.next 0 ⟨[(1,(.ar .sub .i64 (.var 2001) (.lit 1))),(0,(.ar .add .i64 (.var 2000) (.lit 1)))],[],[]⟩)
 (.next 0 ⟨[(1,(.var 2001)),(0,(.ar .add .i64 (.var 2000) (.lit 1)))],[],[]⟩)))
 (.next 0 ⟨[(1,(.var 2001)),(0,(.ar .add .i64 (.var 2000) (.lit 1)))],[],[]⟩))
 (.next 0 ⟨[(1,(.var 2001)),(0,(.ar .add .i64 (.var 2000) (.lit 1)))],[],[]⟩))))
 (.ite (.cmp .leq (.rd (.var 2) (.ar .rem .i64 (.ar .add .i64 (.var 2000) (.lit 1)) (.len (.var 2))) 1) (.var 1))
 (.ite (.cmp .gtr (.rd (.var 2) (.var 2000) 1) (.var 1))
 (.ob (.tru (.fn 1 (.i (.rd (.var 2) (.var 2000) 0) (.i (.rd (.var 2) (.var 2000) 1) (.i (.rd (.var 2) (.ar .rem .i64 (.ar .add .i64 (.var 2000) (.lit 1)) (.len (.var 2))) 0) (.i (.rd (.var 2) (.ar .rem .i64 (.ar .add .i64 (.var 2000) (.lit 1)) (.len (.var 2))) 1) (.i (.var 0) (.i (.var 1) .nil))))))))
 (.ite (.cmp .lss (.fn 0 (.i (.rd (.var 2) (.var 2000) 0) (.i (.rd (.var 2) (.var 2000) 1) (.i (.rd (.var 2) (.ar .rem .i64 (.ar .add .i64 (.var 2000) (.lit 1)) (.len (.var 2))) 0) (.i (.rd (.var 2) (.ar .rem .i64 (.ar .add .i64 (.var 2000) (.lit 1)) (.len (.var 2))) 1) (.i (.var 0) (.i (.var 1) .nil))))))) (.lit 0))
 (.next 0 ⟨[(1,(.ar .sub .i64 (.var 2001) (.lit 1))),(0,(.ar .add .i64 (.var 2000) (.lit 1)))],[],[]⟩)
 (.next 0 ⟨[(1,(.var 2001)),(0,(.ar .add .i64 (.var 2000) (.lit 1)))],[],[]⟩)))
 (.next 0 ⟨[(1,(.var 2001)),(0,(.ar .add .i64 (.var 2000) (.lit 1)))],[],[]⟩))
 (.next 0 ⟨[(1,(.var 2001)),(0,(.ar .add .i64 (.var 2000) (.lit 1)))],[],[]⟩)))
 (.ite (.cmp .leq (.rd (.var 2) (.ar .rem .i64 (.ar .add .i64 (.var 2000) (.lit 1)) (.len (.var 2))) 1) (.var 1))
 (.ite (.cmp .gtr (.rd (.var 2) (.var 2000) 1) (.var 1))
 (.ob (.tru (.fn 1 (.i (.rd (.var 2) (.var 2000) 0) (.i (.rd (.var 2) (.var 2000) 1) (.i (.rd (.var 2) (.ar .rem .i64 (.ar .add .i64 (.var 2000) (.lit 1)) (.len (.var 2))) 0) (.i (.rd (.var 2) (.ar .rem .i64 (.ar .add .i64 (.var 2000) (.lit 1)) (.len (.var 2))) 1) (.i (.var 0) (.i (.var 1) .nil))))))))
 (.ite (.cmp .lss (.fn 0 (.i (.rd (.var 2) (.var 2000) 0) (.i (.rd (.var 2) (.var 2000) 1) (.i (.rd (.var 2) (.ar .rem .i64 (.ar .add .i64 (.var 2000) (.lit 1)) (.len (.var 2))) 0) (.i (.rd (.var 2) (.ar .rem .i64 (.ar .add .i64 (.var 2000) (.lit 1)) (.len (.var 2))) 1) (.i (.var 0) (.i (.var 1) .nil))))))) (.lit 0))
 (.next 0 ⟨[(1,(.ar .sub .i64 (.var 2001) (.lit 1))),(0,(.ar .add .i64 (.var 2000) (.lit 1)))],[],[]⟩)
 (.next 0 ⟨[(1,(.var 2001)),(0,(.ar .add .i64 (.var 2000) (.lit 1)))],[],[]⟩)))
 (.next 0 ⟨[(1,(.var 2001)),(0,(.ar .add .i64 (.var 2000) (.lit 1)))],[],[]⟩))
 (.next 0 ⟨[(1,(.var 2001)),(0,(.ar .add .i64 (.var 2000) (.lit 1)))],[],[]⟩))))))))))
 (.ite (.cmp .eql (.var 2001) (.lit 0))
 (.ret ((.v (.one (.z (.int .i64 (.lit (-1)))))),[],5))
 (.ret ((.v (.one (.z (.int .i64 (.lit 1))))),[],5)))))
set_option maxRecDepth 100000 in
theorem c8f:T.norm 0 (call Tryz.prog c1T (Lt.of []) 100 107 (i6 0 [pt,v9]) [] 0) TT.ret=c2u:=by kernel_rfl
theorem c4I:c2u.low 1000=true:=by kernel_rfl
theorem c6H{n i:Nat}(h:i<n)(h3:3≤n)(hn:n≤281474976710656):(IntKind.i64.wrap ((i:Int)+2)).tmod (n:Int)=(nxt n (nxt n i):Int):=by
 rw[f8 ((i:Int)+2) (by omega) (by omega),Int.tmod_eq_emod_of_nonneg (by omega)]
 by_cases h1:i+1=n
 ·rw[show nxt n i=0 by unfold nxt;rw[if_pos h1],show nxt n 0=1 by unfold nxt;rw[if_neg (by omega)],show((i:Int)+2)=1+n by omega,Int.add_emod_right,Int.emod_eq_of_lt (by omega) (by omega)];rfl
 ·rw[show nxt n i=i+1 by unfold nxt;rw[if_neg h1]]
  by_cases h2:i+2=n
  ·rw[show nxt n (i+1)=0 by unfold nxt;rw[if_pos (by omega)],show((i:Int)+2)=n by omega,Int.emod_self];rfl
  ·rw[show nxt n (i+1)=i+2 by unfold nxt;rw[if_neg (by omega)],Int.emod_eq_of_lt (by omega) (by omega)];rfl
theorem c7R(W:World)(ds l:List D):(f0 KU W ds).fb 1 l=s8 l:=by simp only[f0,KU,KT,KR,KG,KF,KE,KD,KC,KB,KA,K9,K8,K7,K6,K5,K]
theorem d4s(W:World)(ds l:List D):(f0 KU W ds).fb 3 l=s9 l:=by simp only[f0,KU,KT,KR,KG,KF,KE,KD,KC,KB,KA,K9,K8,K7,K6,K5,K]
theorem d8T(W:World)(ds l:List D):(f0 KU W ds).fb 4 l=onL l:=by simp only[f0,KU,KT,KR,KG,KF,KE,KD,KC,KB,KA,K9,K8,K7,K6,K5,K]
theorem c9B(W:World)(ds l:List D):(f0 KU W ds).fi 0 l=H5 l:=by simp only[f0,KU,KT,KR,KG,KF,KE,KD,KC,KB,KA,K9,K8,K7,K6,K5,K]
theorem d0k(W:World)(ds l:List D):(f0 KU W ds).fb 96 l=a4x l:=by simp only[f0,KU]
theorem d0e(W:World)(ds l:List D):(f0 KU W ds).fb 97 l=plL l:=by simp only[f0,KU]
theorem d0x(W:World)(ds l:List D):(f0 KU W ds).fb 66 l=J6 l:=by simp only[f0,KU,KT,KR,KG,KF,KE,KD,KC,KB,KA,K9,K8,K7,K6,K5,K]
theorem d0a(W:World)(ds l:List D):(f0 KU W ds).fi 65 l=X5 l:=by simp only[f0,KU,KT,KR,KG,KF,KE,KD,KC,KB,KA,K9,K8,K7,K6,K5,K]
theorem b2T(a b c d:Int):a4x [.i a,.i b,.i c,.i d]=a1O a b c d:=rfl
theorem c4e(r:Rows):plL [.l r]=plN r r.length 0:=rfl
theorem d8o:k8 Tryz.prog 97 [v9] (fun ds=> .bool (H3 ds)):=by
 refine GivesIf.all (i7 KU (by kernel_rfl) (fun ρ h=>b2k (Sees.of h 98)) (by kernel_rfl) c8V c5b (by decide) (fun W vals ds hr _=> ?_))
 have hlen:=Q5 hr
 simp only[c1G,g8,Nat.reduceBEq,Nat.reduceLT,Nat.reduceSub]
 generalize hr0:d9 ds 0=r at hlen ⊢
 have hP:H3 ds=n7 r:=by rw[H3,hr0]
 rw[hP]
 refine⟨fun h=> ?_,fun h1=>⟨fun h=> ?_,fun h2=> ?_⟩⟩
 ·rw[n7,decide_eq_false (by omega)];rfl
 ·rw[n7,decide_eq_false (by omega)];rfl
 have hd:decide (3≤r.length∧r.length≤24)=true:=decide_eq_true (by omega)
 have hpb:n7 r=(plN r r.length 0&&(Y2 r r.length 0&&(o9 r r.length 0&&decide (0<G0 r r.length 0 0)))):=by rw[n7,hd];rfl
 have F1:∀k:Nat,k<r.length→g9 (lg r k 0) (lg r k 1)=false→Value.bool false=Value.bool (n7 r):=fun k hk h=>by
  have:plN r r.length 0=false:=by
   rw[Bool.eq_false_iff]
   intro q
   rw[(b0N _ _).mp q k (by omega) (by omega)] at h
   exact absurd h (by decide)
  rw[hpb,this];rfl
 have F2:(∀k:Nat,k<r.length→g9 (lg r k 0) (lg r k 1)=true→True)→∀k:Nat,k<r.length→¬O0 r k=true→Value.bool false=Value.bool (n7 r):=fun _ k hk h=>by
  have:Y2 r r.length 0=false:=by
   rw[Bool.eq_false_iff]
   exact fun q=>h ((a2S _ _).mp q k (by omega) (by omega))
  rw[hpb,this,Bool.false_and,Bool.and_false]
 refine TT.sat_loop (fun v=>∃i:Nat,v.i 0=i∧i≤r.length∧∀k:Nat,k<i→g9 (lg r k 0) (lg r k 1)=true∧(0<k→a1O (lg r 0 0) (lg r 0 1) (lg r k 0) (lg r k 1)=true)) (fun v=>r.length-(v.i 0).toNat)
  ⟨0,by simp [j7,i8,E.ev],by omega,fun k hk=>by omega⟩ (fun v hv=> ?_)
 obtain⟨i,i0,i1,i2⟩:=hv
 simp only[g8,Nat.reduceBEq,Nat.reduceLT,Nat.reduceSub,i0,hr0,c7R,d4s,c9B,d0k,d0e,d0x,d0a,b2T,E5,a1M,a2Q,c4e]
 refine⟨fun hc=> ?_,fun hc=> ?_⟩
 ·have hi:i<r.length:=by omega
  have N:g9 (lg r i 0) (lg r i 1)=true→(0<i→a1O (lg r 0 0) (lg r 0 1) (lg r i 0) (lg r i 1)=true)→(∃j:Nat,IntKind.i64.wrap ((i:Int)+1)=j∧j≤r.length∧∀k:Nat,k<j→g9 (lg r k 0) (lg r k 1)=true∧(0<k→a1O (lg r 0 0) (lg r 0 1) (lg r k 0) (lg r k 1)=true))∧r.length-(IntKind.i64.wrap ((i:Int)+1)).toNat<r.length-(i:Int).toNat:=by
   intro h h'
   rw[f8 _ (by omega) (by omega)]
   refine⟨⟨i+1,rfl,by omega,fun k hk=> ?_⟩,by omega⟩
   by_cases e:k=i
   ·subst e;exact⟨h,h'⟩
   ·exact i2 k (by omega)
  refine⟨by omega,by omega,fun p=>F1 i hi p,fun p=>⟨fun a=>⟨by omega,by omega,by omega,fun l=>F2 (fun _ _ _=>trivial) i hi (fun q=> ?_),fun l=>N p (fun _=>l)⟩,fun a=>N p (fun h=>by omega)⟩⟩
  unfold O0 at q
  simp only[Bool.and_eq_true,Bool.not_eq_true',Bool.and_eq_false_imp,decide_eq_true_eq,decide_eq_false_iff_not,a9d,Decidable.not_not] at q
  rw[q.1 (by omega)] at l
  exact absurd l (by decide)
 ·have hi:i=r.length:=by omega
  subst hi
  have hpl:∀k:Nat,k<r.length→g9 (lg r k 0) (lg r k 1)=true:=fun k hk=>(i2 k hk).1
  have hplN:plN r r.length 0=true:=(b0N _ _).mpr (fun k _ hk=>hpl k (by omega))
  refine TT.sat_loop (fun v=>∃j:Nat,v.i 0=j∧j≤r.length∧∀k:Nat,k<j→A5 (lg r k 0) (lg r k 1) (lg r (nxt r.length k) 0) (lg r (nxt r.length k) 1) (lg r (nxt r.length (nxt r.length k)) 0) (lg r (nxt r.length (nxt r.length k)) 1)≠0) (fun v=>r.length-(v.i 0).toNat)
   ⟨0,by simp [j7,i8,E.ev],by omega,fun k hk=>by omega⟩ (fun u hu=> ?_)
  obtain⟨j,j0,j1,j2⟩:=hu
  simp only[g8,Nat.reduceBEq,Nat.reduceLT,Nat.reduceSub,j0,hr0,c7R,d4s,c9B,d0k,d0e,d0x,d0a,b2T,E5,a1M,a2Q,c4e,U1,a2o]
  refine⟨fun hc=> ?_,fun hc=> ?_⟩
  ·have hj:j<r.length:=by omega
   have hn:=u0 hj
   have hnn:=u0 hn
   simp only[a1o hj hlen,c6H hj (by omega) hlen,hpl j hj,hpl _ hn,hpl _ hnn,Bool.and_self]
   refine⟨by omega,by omega,by omega,by omega,by omega,by omega,by omega,by omega,by simp,fun t=>F2 (fun _ _ _=>trivial) (nxt r.length j) hn (fun q=> ?_),fun t=>⟨⟨j+1,?_,by omega,fun k hk=> ?_⟩,?_⟩⟩
   ·exact((a4q hpl hn).mp q).2 (by rw[b9L hj];exact t)
   ·rw[f8 _ (by omega) (by omega)];rfl
   ·by_cases e:k=j
    ·subst e;exact t
    ·exact j2 k (by omega)
   ·rw[f8 _ (by omega) (by omega)];omega
  ·have hj:j=r.length:=by omega
   have hco:Y2 r r.length 0=true:=(a2S _ _).mpr (fun k _ hk=>(a4q hpl (by omega)).mpr ⟨(i2 k (by omega)).2,by
    have:=j2 (X2 r.length k) (by have:=a9M (show k<r.length by omega);omega)
    rw[d2P (by omega)] at this
    exact this⟩)
   rw[hpb,hplN,hco,Bool.true_and,Bool.true_and]
   refine⟨rfl,fun s=> ?_,fun s=> ?_⟩
   ·rw[s,Bool.true_and]
    congr 1
   ·rw[s];rfl
theorem d8n(x y ax ay bx by':Int):sE x y ax ay bx by'=(if ay≤y∧y<by'∧0<A5 ax ay bx by' x y then 1 else 0)+(if by'≤y∧y<ay∧A5 ax ay bx by' x y<0 then -1 else 0):=by
 rw[a7h]
 have e:f7 bx by' ax ay x y= - f7 ax ay bx by' x y:=by unfold f7;grind
 rw[e]
 unfold A5
 simp only[d0Y,d6t]
 generalize f7 ax ay bx by' x y=u
 (repeat' split)<;>omega
theorem c7b{r:Rows}{x y:Int}:∀(f i:Nat),onN r x y f i=false→∀k,i≤k→k<i+f→D5 x y (cx r k) (cy r k) (cx r (nxt r.length k)) (cy r (nxt r.length k))=false
 | 0,_,_,k,h1,h2=>by omega
 | f+1,i,h,k,h1,h2=>by
   rw[onN,Bool.or_eq_false_iff] at h
   by_cases e:k=i
   ·subst e;exact h.1
   ·exact c7b f (i+1) h.2 k (by omega) (by omega)
theorem d8V:GivesIf Tryz.prog 107 [pt,v9] (fun ds=>(g9 (c9 ds 0) (c9 ds 1)&&n7 (d9 ds 2))=true) (fun ds=> .int .i64 (t3 (d9 ds 2) (c9 ds 0) (c9 ds 1) (d9 ds 2).length 0 false)):=by
 refine i7 KU (by kernel_rfl) (fun ρ h=>b2k (Sees.of h 98)) (by kernel_rfl) c8f c4I (by decide) (fun W vals ds hr hok=> ?_)
 rw[Bool.and_eq_true] at hok
 obtain⟨hq,hp⟩:=hok
 have hl:=O7 hp
 have hpl:∀k:Nat,k<(d9 ds 2).length→g9 (lg (d9 ds 2) k 0) (lg (d9 ds 2) k 1)=true:=fun k hk=>P5 hp hk
 simp only[c2u]
 refine TT.sat_loop (fun v=>∃i:Nat,v.i 0=i∧i≤(d9 ds 2).length∧(v.i 1=C3 (fun k=>sE (c9 ds 0) (c9 ds 1) (cx (d9 ds 2) k) (cy (d9 ds 2) k) (cx (d9 ds 2) (nxt (d9 ds 2).length k)) (cy (d9 ds 2) (nxt (d9 ds 2).length k))) i∧ -i≤v.i 1∧v.i 1≤i)∧∀k,k<i→D5 (c9 ds 0) (c9 ds 1) (cx (d9 ds 2) k) (cy (d9 ds 2) k) (cx (d9 ds 2) (nxt (d9 ds 2).length k)) (cy (d9 ds 2) (nxt (d9 ds 2).length k))=false) (fun v=>(d9 ds 2).length-(v.i 0).toNat)
  ⟨0,by simp [j7,i8,E.ev],by omega,⟨by simp [j7,i8,E.ev,C3],by simp [j7,i8,E.ev],by simp [j7,i8,E.ev]⟩,fun k hk=>by omega⟩ (fun v hv=> ?_)
 obtain⟨i,i0,i1,⟨i2,i3,i4⟩,i5⟩:=hv
 simp only[g8,Nat.reduceBEq,Nat.reduceLT,Nat.reduceSub,i0,c7R,d8T,c9B,U1,a8U,a2o]
 refine⟨fun hc=> ?_,fun hc=> ?_⟩
 ·have hi:i<(d9 ds 2).length:=by omega
  have hn:=u0 hi
  simp only[a1o hi (show(d9 ds 2).length≤281474976710656 by omega),hq,hpl i hi,hpl _ hn,Bool.and_self]
  have N:∀w:Int,w=v.i 1+sE (c9 ds 0) (c9 ds 1) (cx (d9 ds 2) i) (cy (d9 ds 2) i) (cx (d9 ds 2) (nxt (d9 ds 2).length i)) (cy (d9 ds 2) (nxt (d9 ds 2).length i))→D5 (c9 ds 0) (c9 ds 1) (lg (d9 ds 2) i 0) (lg (d9 ds 2) i 1) (lg (d9 ds 2) (nxt (d9 ds 2).length i) 0) (lg (d9 ds 2) (nxt (d9 ds 2).length i) 1)=false→
   (∃j:Nat,IntKind.i64.wrap ((i:Int)+1)=j∧j≤(d9 ds 2).length∧(w=C3 (fun k=>sE (c9 ds 0) (c9 ds 1) (cx (d9 ds 2) k) (cy (d9 ds 2) k) (cx (d9 ds 2) (nxt (d9 ds 2).length k)) (cy (d9 ds 2) (nxt (d9 ds 2).length k))) j∧ -j≤w∧w≤j)∧∀k,k<j→D5 (c9 ds 0) (c9 ds 1) (cx (d9 ds 2) k) (cy (d9 ds 2) k) (cx (d9 ds 2) (nxt (d9 ds 2).length k)) (cy (d9 ds 2) (nxt (d9 ds 2).length k))=false)∧(d9 ds 2).length-(IntKind.i64.wrap ((i:Int)+1)).toNat<(d9 ds 2).length-(i:Int).toNat:=by
   intro w hw ho
   rw[f8 _ (by omega) (by omega)]
   have hs: -1≤sE (c9 ds 0) (c9 ds 1) (cx (d9 ds 2) i) (cy (d9 ds 2) i) (cx (d9 ds 2) (nxt (d9 ds 2).length i)) (cy (d9 ds 2) (nxt (d9 ds 2).length i))∧sE (c9 ds 0) (c9 ds 1) (cx (d9 ds 2) i) (cy (d9 ds 2) i) (cx (d9 ds 2) (nxt (d9 ds 2).length i)) (cy (d9 ds 2) (nxt (d9 ds 2).length i))≤1:=by
    unfold sE;(repeat' split)<;>omega
   refine⟨⟨i+1,rfl,by omega,⟨?_,by omega,by omega⟩,fun k hk=> ?_⟩,by omega⟩
   ·rw[C3,←i2];exact hw
   ·by_cases e:k=i
    ·subst e;exact ho
    ·exact i5 k (by omega)
  have es:=d8n (c9 ds 0) (c9 ds 1) (cx (d9 ds 2) i) (cy (d9 ds 2) i) (cx (d9 ds 2) (nxt (d9 ds 2).length i)) (cy (d9 ds 2) (nxt (d9 ds 2).length i))
  unfold cx cy at es N
  have w1:IntKind.i64.wrap (v.i 1+1)=v.i 1+1:=f8 _ (by omega) (by omega)
  have w2:IntKind.i64.wrap (v.i 1-1)=v.i 1-1:=f8 _ (by omega) (by omega)
  have w3:IntKind.i64.wrap (v.i 1+1-1)=v.i 1+1-1:=f8 _ (by omega) (by omega)
  simp only[w1,w2,w3]
  generalize A5 (lg (d9 ds 2) i 0) (lg (d9 ds 2) i 1) (lg (d9 ds 2) (nxt (d9 ds 2).length i) 0) (lg (d9 ds 2) (nxt (d9 ds 2).length i) 1) (c9 ds 0) (c9 ds 1)=t at*
  refine⟨by omega,by omega,by omega,by omega,by omega,by simp,fun o=> ?_,fun o=> ?_⟩
  ·rw[a5I hp hq _ _ _ (by omega)]
   have:onN (d9 ds 2) (c9 ds 0) (c9 ds 1) (d9 ds 2).length 0=true:=by
    cases h:onN (d9 ds 2) (c9 ds 0) (c9 ds 1) (d9 ds 2).length 0 with
    | true=>rfl
    | false=>
      have:=c7b _ 0 h i (by omega) (by omega)
      unfold cx cy at this
      rw[o] at this;exact absurd this (by decide)
   rw[this];rfl
  ·(repeat' (first | (intro h;skip) | (refine And.intro ?_ ?_)))
   all_goals try (exfalso;omega)
   all_goals try (simp;done)
   all_goals try (exact(N (v.i 1+sE _ _ _ _ _ _) rfl o).2)
   all_goals first | (refine(N (v.i 1+1) ?_ o).1;rw[es];(repeat' split)<;>omega) | (refine(N (v.i 1-1) ?_ o).1;rw[es];(repeat' split)<;>omega) | (refine(N (v.i 1) ?_ o).1;rw[es];(repeat' split)<;>omega)
 ·have hi:i=(d9 ds 2).length:=by omega
  subst hi
  rw[c1m hp hq i5]
  have ew:F8 (cx (d9 ds 2)) (cy (d9 ds 2)) (d9 ds 2).length (c9 ds 0) (c9 ds 1)=v.i 1:=i2.symm
  rw[ew]
  exact⟨fun h=>by rw[if_pos h],fun h=>by rw[if_neg h]⟩
def c1k(ds:List D):Int:=t3 (d9 ds 2) (c9 ds 0) (c9 ds 1) (d9 ds 2).length 0 false
def KV:Interp where
 fi n l:=match n with | 98=>c1k l | n=>KU.fi n l
 fb n l:=KU.fb n l
 fd _ _:=[]
theorem d0v{ρ:Env}(h:Sees ρ KV 99):Sees ρ KU 98:=h.trans (by decide) fun n l hn=>by
 refine⟨?_,?_⟩
 ·
  simp only[KV]
  split<;>first | omega | rfl
 ·
  rfl
def d5b:=o7 [v9] fun al=> .ret (bV (bF 69 H3 al))
theorem d1K{ρ:Env}(h:Sees ρ KG 80):i9 Tryz.prog ρ 97 d5b:=
 k5 d8o (fun _=>rfl) (fun al=>by simp only[iV,bV,V.s0,V.val,V2.val,S.val,S0.val,k7 (s:=69) (f:=H3) (fun l=>by rw[(h 69 l (by decide)).2];simp only[KG,KF,KE,KD,KC,KB])];try rfl)
def d5p(al:AL):T V:=match al with
 | .i a (.i b (.x r .nil))=>T.obs [.tru (.fn 3 (.i a (.i b .nil))),.tru (.fn 69 (.x r .nil))] (.ret (iV .i64 (iF 98 c1k al)))
 | _=> .stuck "place"
def d0F:=o7 [pt,v9] d5p
theorem b3S{ρ:Env}(h:Sees ρ KV 99):Sees ρ KG 80:=b3K (d0v h)
theorem c9u{ρ:Env}(h:Sees ρ KV 99):i9 Tryz.prog ρ 107 d0F:=by
 refine A0 d8V (fun al v hv=> ?_)
 have h3:∀l,ρ.fb 3 l=s9 l:=fun l=>by rw[(b3S h 3 l (by decide)).2];simp only[KG,KF,KE,KD,KC,KB,KA,K9,K8,K7,K6,K5,K]
 have h69:∀l,ρ.fb 69 l=H3 l:=fun l=>by rw[(b3S h 69 l (by decide)).2];simp only[KG,KF,KE,KD,KC,KB,KA,K9,K8,K7,K6,K5,K]
 unfold d5p at hv
 split at hv
 ·rename_i a b r
  obtain⟨ho,hv⟩:=T.res_obs hv
  obtain rfl:=g7 hv
  have o1:=ho _ (List.mem_cons_self ..)
  have o2:=ho _ (List.mem_cons_of_mem _ (List.mem_cons_self ..))
  simp only[Ob.ok,B.ev,AL.ev,h3,h69] at o1 o2
  refine⟨rfl,?_,?_⟩
  ·show(g9 (a.ev ρ) (b.ev ρ)&&n7 (r.ev ρ))=true
   rw[Bool.and_eq_true]
   exact⟨o1,o2⟩
  ·simp only[iV,V.s0,V.val,V2.val,S.val,S0.val,o6 (s:=98) (f:=c1k) (fun l=>by rw[(h 98 l (by decide)).1];simp only[KV])]
   try rfl
 ·exact hv.elim
def c7M:Ct:=(97,d5b)::(107,d0F)::c1T
theorem b9X{ρ:Env}(h:Sees ρ KV 99):CtOk Tryz.prog ρ c7M:= .cons (d1K (b3S h))<| .cons (c9u h) (b2k (d0v h))
def c2l:TT j6:=
(.ite (.not (.fn 3 (.i (.var 0) (.i (.var 1) .nil))))
 (.ret ((.tup [(.one (.z (.int .i64 (.lit 0)))),(.one (.z (.int .i64 (.lit 1))))]),[],1))
 (.ite (.not (.fn 69 (.x (.var 2) .nil)))
 (.ret ((.tup [(.one (.z (.int .i64 (.lit 0)))),(.one (.z (.int .i64 (.lit 1))))]),[],1))
 (.ob (.tru (.fn 3 (.i (.var 0) (.i (.var 1) .nil))))
 (.ob (.tru (.fn 69 (.x (.var 2) .nil)))
 (.ret ((.tup [(.one (.z (.int .i64 (.fn 98 (.i (.var 0) (.i (.var 1) (.x (.var 2) .nil))))))),(.one (.z (.int .i64 (.lit 0))))]),[],1))))))
set_option maxRecDepth 100000 in
theorem c8o:T.norm 0 (call Tryz.prog c7M (Lt.of []) 100 86 (i6 0 [pt,v9]) [] 0) TT.ret=c2l:=by kernel_rfl
theorem c5H:c2l.low 1000=true:=by kernel_rfl
def c0Y:TT j6:=
(.ite (.cmp .geq (.var 0) (.lit (-1000000)))
 (.ite (.cmp .leq (.var 0) (.lit 1000000))
 (.ite (.cmp .geq (.var 1) (.lit (-1000000)))
 (.ite (.cmp .leq (.var 1) (.lit 1000000))
 (.ite (.cmp .neq (.var 0) (.lit 0))
 (.ret ((.v (.one (.z (.bool (.lit true))))),[],1))
 (.ret ((.v (.one (.z (.bool (.cmp .neq (.var 1) (.lit 0)))))),[],1)))
 (.ret ((.v (.one (.z (.bool (.lit false))))),[],1)))
 (.ret ((.v (.one (.z (.bool (.lit false))))),[],1)))
 (.ret ((.v (.one (.z (.bool (.lit false))))),[],1)))
 (.ret ((.v (.one (.z (.bool (.lit false))))),[],1)))
set_option maxRecDepth 100000 in
theorem c8M:T.norm 0 (call Tryz.prog [] (Lt.of []) 100 147 (i6 0 [O6]) [] 0) TT.ret=c0Y:=by kernel_rfl
theorem c4G:c0Y.low 1000=true:=by kernel_rfl
theorem d8J(W:World)(ds l:List D):(f0 KV W ds).fb 3 l=s9 l:=by simp only[f0,KV,KU,KT,KR,KG,KF,KE,KD,KC,KB,KA,K9,K8,K7,K6,K5,K]
theorem d6L(W:World)(ds l:List D):(f0 KV W ds).fb 69 l=H3 l:=by simp only[f0,KV,KU,KT,KR,KG,KF,KE,KD,KC,KB]
theorem d7j(W:World)(ds l:List D):(f0 KV W ds).fi 98 l=c1k l:=by simp only[f0,KV]
theorem d8G:k8 Tryz.prog 86 [pt,v9] (fun ds=> .tuple #[.int .i64 (O3 ds),.int .i64 (P8 ds)]):=by
 refine GivesIf.all (i7 KV (by kernel_rfl) (fun ρ h=>b9X (Sees.of h 99)) (by kernel_rfl) c8o c5H (by decide) (fun W vals ds hr _=> ?_))
 simp only[c2l,g8,Nat.reduceBEq,Nat.reduceLT,Nat.reduceSub,d8J,d6L,d7j,E5,Y4]
 refine⟨fun h=> ?_,fun h=>⟨fun h'=> ?_,fun h'=>⟨h,h',?_⟩⟩⟩
 ·simp [O3,P8,a3A,h]
 ·simp [O3,P8,a3A,h']
 ·have ho:a3A ds=true:=by unfold a3A;rw[h,h'];rfl
  simp only[O3,P8,ho,if_true]
  rfl
def a5R(ds:List D):Bool:=A7 (c9 ds 0) (c9 ds 1)
theorem d8u:k8 Tryz.prog 147 [O6] (fun ds=> .bool (a5R ds)):=by
 refine GivesIf.all (i7 KV (by kernel_rfl) (fun ρ h=> .nil) (by kernel_rfl) c8M c4G (by decide) (fun W vals ds hr _=> ?_))
 simp only[c0Y,g8,Nat.reduceBEq,Nat.reduceLT,Nat.reduceSub]
 simp only[a5R,A7]
 (repeat' (first | (intro h;skip) | (refine And.intro ?_ ?_)))
 all_goals (congr 1;rw[Bool.eq_iff_iff];try rw[x7])
 all_goals (simp only[p6,decide_eq_true_eq,Bool.false_eq_true,false_iff,true_iff];omega)
def a4A(ds:List D):Bool:=a2k (c9 ds 0) (c9 ds 1) (c9 ds 2) (c9 ds 3) (c9 ds 4) (c9 ds 5)
def KW:Interp where
 fi n l:=KV.fi n l
 fb n l:=match n with | 99=>a5R l | 100=>a4A l | n=>KV.fb n l
 fd _ _:=[]
theorem d1f{ρ:Env}(h:Sees ρ KW 101):Sees ρ KV 99:=h.trans (by decide) fun n l hn=>by
 refine⟨?_,?_⟩
 ·
  rfl
 ·
  simp only[KW]
  split<;>first | omega | rfl
def c9y:=o7 [pt,v9] fun al=> .ret (.tup [.one (w6 70 O3 al),.one (w6 71 P8 al)])
theorem b9W{ρ:Env}(h:Sees ρ KG 80):i9 Tryz.prog ρ 86 c9y:=
 k5 d8G (fun _=>rfl) (fun al=>by simp only[V.val,V2.val,S.val,S0.val,w6,G8,List.map_cons,List.map_nil,o6 (s:=70) (f:=O3) (fun l=>by rw[(h 70 l (by decide)).1];simp only[KG,KF,KE,KD,KC]),o6 (s:=71) (f:=P8) (fun l=>by rw[(h 71 l (by decide)).1];simp only[KG,KF,KE,KD,KC])];try rfl)
def d6g:=o7 [O6] fun al=> .ret (bV (bF 99 a5R al))
theorem d3a{ρ:Env}(h:Sees ρ KW 101):i9 Tryz.prog ρ 147 d6g:=
 k5 d8u (fun _=>rfl) (fun al=>by simp only[iV,bV,V.s0,V.val,V2.val,S.val,S0.val,k7 (s:=99) (f:=a5R) (fun l=>by rw[(h 99 l (by decide)).2];simp only[KW])];try rfl)
theorem c2c{ρ:Env}(h:Sees ρ KW 101):Sees ρ KG 80:=b3S (d1f h)
def c1z:Ct:=(86,c9y)::(147,d6g)::c7M
theorem b1n{ρ:Env}(h:Sees ρ KW 101):CtOk Tryz.prog ρ c1z:= .cons (b9W (c2c h))<| .cons (d3a h) (b9X (d1f h))
def c1b:TT j6:=
(.ite (.cmp .eql (.ar .sub .i64 (.ar .mul .i64 (.var 0) (.var 3)) (.ar .mul .i64 (.var 1) (.var 2))) (.lit 0))
 (.ite (.cmp .gtr (.ar .add .i64 (.ar .mul .i64 (.var 0) (.var 2)) (.ar .mul .i64 (.var 1) (.var 3))) (.lit 0))
 (.ret ((.v (.one (.z (.bool (.lit true))))),[],7))
 (.ite (.cmp .eql (.ar .sub .i64 (.ar .mul .i64 (.var 0) (.var 5)) (.ar .mul .i64 (.var 1) (.var 4))) (.lit 0))
 (.ite (.cmp .gtr (.ar .add .i64 (.ar .mul .i64 (.var 0) (.var 4)) (.ar .mul .i64 (.var 1) (.var 5))) (.lit 0))
 (.ret ((.v (.one (.z (.bool (.lit true))))),[],11))
 (.ite (.cmp .eql (.ar .sub .i64 (.ar .mul .i64 (.var 2) (.var 5)) (.ar .mul .i64 (.var 3) (.var 4))) (.lit 0))
 (.ite (.cmp .gtr (.ar .add .i64 (.ar .mul .i64 (.var 2) (.var 4)) (.ar .mul .i64 (.var 3) (.var 5))) (.lit 0))
 (.ret ((.v (.one (.z (.bool (.lit false))))),[],15))
 (.ite (.cmp .gtr (.ar .sub .i64 (.ar .mul .i64 (.var 0) (.var 5)) (.ar .mul .i64 (.var 1) (.var 4))) (.lit 0))
 (.ite (.cmp .gtr (.ar .sub .i64 (.ar .mul .i64 (.var 4) (.var 3)) (.ar .mul .i64 (.var 5) (.var 2))) (.lit 0))
 (.ret ((.v (.one (.z (.bool (.lit true))))),[],19))
 (.ret ((.v (.one (.z (.bool (.cmp .leq (.ar .sub .i64 (.ar .mul .i64 (.var 0) (.var 3)) (.ar .mul .i64 (.var 1) (.var 2))) (.lit 0)))))),[],21)))
 (.ite (.cmp .gtr (.ar .sub .i64 (.ar .mul .i64 (.var 4) (.var 3)) (.ar .mul .i64 (.var 5) (.var 2))) (.lit 0))
 (.ret ((.v (.one (.z (.bool (.cmp .lss (.ar .sub .i64 (.ar .mul .i64 (.var 0) (.var 3)) (.ar .mul .i64 (.var 1) (.var 2))) (.lit 0)))))),[],21))
 (.ret ((.v (.one (.z (.bool (.lit false))))),[],19)))))
 (.ite (.cmp .gtr (.ar .sub .i64 (.ar .mul .i64 (.var 0) (.var 5)) (.ar .mul .i64 (.var 1) (.var 4))) (.lit 0))
 (.ite (.cmp .gtr (.ar .sub .i64 (.ar .mul .i64 (.var 4) (.var 3)) (.ar .mul .i64 (.var 5) (.var 2))) (.lit 0))
 (.ret ((.v (.one (.z (.bool (.lit true))))),[],19))
 (.ret ((.v (.one (.z (.bool (.cmp .leq (.ar .sub .i64 (.ar .mul .i64 (.var 0) (.var 3)) (.ar .mul .i64 (.var 1) (.var 2))) (.lit 0)))))),[],21)))
 (.ite (.cmp .gtr (.ar .sub .i64 (.ar .mul .i64 (.var 4) (.var 3)) (.ar .mul .i64 (.var 5) (.var 2))) (.lit 0))
 (.ret ((.v (.one (.z (.bool (.cmp .lss (.ar .sub .i64 (.ar .mul .i64 (.var 0) (.var 3)) (.ar .mul .i64 (.var 1) (.var 2))) (.lit 0)))))),[],21))
 (.ret ((.v (.one (.z (.bool (.lit false))))),[],19))))))
 (.ite (.cmp .eql (.ar .sub .i64 (.ar .mul .i64 (.var 2) (.var 5)) (.ar .mul .i64 (.var 3) (.var 4))) (.lit 0))
 (.ite (.cmp .gtr (.ar .add .i64 (.ar .mul .i64 (.var 2) (.var 4)) (.ar .mul .i64 (.var 3) (.var 5))) (.lit 0))
 (.ret ((.v (.one (.z (.bool (.lit false))))),[],15))
 (.ite (.cmp .gtr (.ar .sub .i64 (.ar .mul .i64 (.var 0) (.var 5)) (.ar .mul .i64 (.var 1) (.var 4))) (.lit 0))
 (.ite (.cmp .gtr (.ar .sub .i64 (.ar .mul .i64 (.var 4) (.var 3)) (.ar .mul .i64 (.var 5) (.var 2))) (.lit 0))
 (.ret ((.v (.one (.z (.bool (.lit true))))),[],19))
 (.ret ((.v (.one (.z (.bool (.cmp .leq (.ar .sub .i64 (.ar .mul .i64 (.var 0) (.var 3)) (.ar .mul .i64 (.var 1) (.var 2))) (.lit 0)))))),[],21)))
 (.ite (.cmp .gtr (.ar .sub .i64 (.ar .mul .i64 (.var 4) (.var 3)) (.ar .mul .i64 (.var 5) (.var 2))) (.lit 0))
 (.ret ((.v (.one (.z (.bool (.cmp .lss (.ar .sub .i64 (.ar .mul .i64 (.var 0) (.var 3)) (.ar .mul .i64 (.var 1) (.var 2))) (.lit 0)))))),[],21))
 (.ret ((.v (.one (.z (.bool (.lit false))))),[],19)))))
 (.ite (.cmp .gtr (.ar .sub .i64 (.ar .mul .i64 (.var 0) (.var 5)) (.ar .mul .i64 (.var 1) (.var 4))) (.lit 0))
 (.ite (.cmp .gtr (.ar .sub .i64 (.ar .mul .i64 (.var 4) (.var 3)) (.ar .mul .i64 (.var 5) (.var 2))) (.lit 0))
 (.ret ((.v (.one (.z (.bool (.lit true))))),[],19))
 (.ret ((.v (.one (.z (.bool (.cmp .leq (.ar .sub .i64 (.ar .mul .i64 (.var 0) (.var 3)) (.ar .mul .i64 (.var 1) (.var 2))) (.lit 0)))))),[],21)))
 (.ite (.cmp .gtr (.ar .sub .i64 (.ar .mul .i64 (.var 4) (.var 3)) (.ar .mul .i64 (.var 5) (.var 2))) (.lit 0))
 (.ret ((.v (.one (.z (.bool (.cmp .lss (.ar .sub .i64 (.ar .mul .i64 (.var 0) (.var 3)) (.ar .mul .i64 (.var 1) (.var 2))) (.lit 0)))))),[],21))
 (.ret ((.v (.one (.z (.bool (.lit false))))),[],19)))))))
 (.ite (.cmp .eql (.ar .sub .i64 (.ar .mul .i64 (.var 0) (.var 5)) (.ar .mul .i64 (.var 1) (.var 4))) (.lit 0))
 (.ite (.cmp .gtr (.ar .add .i64 (.ar .mul .i64 (.var 0) (.var 4)) (.ar .mul .i64 (.var 1) (.var 5))) (.lit 0))
 (.ret ((.v (.one (.z (.bool (.lit true))))),[],11))
 (.ite (.cmp .eql (.ar .sub .i64 (.ar .mul .i64 (.var 2) (.var 5)) (.ar .mul .i64 (.var 3) (.var 4))) (.lit 0))
 (.ite (.cmp .gtr (.ar .add .i64 (.ar .mul .i64 (.var 2) (.var 4)) (.ar .mul .i64 (.var 3) (.var 5))) (.lit 0))
 (.ret ((.v (.one (.z (.bool (.lit false))))),[],15))
 (.ite (.cmp .gtr (.ar .sub .i64 (.ar .mul .i64 (.var 0) (.var 5)) (.ar .mul .i64 (.var 1) (.var 4))) (.lit 0))
 (.ite (.cmp .gtr (.ar .sub .i64 (.ar .mul .i64 (.var 4) (.var 3)) (.ar .mul .i64 (.var 5) (.var 2))) (.lit 0))
 (.ret ((.v (.one (.z (.bool (.lit true))))),[],19))
 (.ret ((.v (.one (.z (.bool (.cmp .leq (.ar .sub .i64 (.ar .mul .i64 (.var 0) (.var 3)) (.ar .mul .i64 (.var 1) (.var 2))) (.lit 0)))))),[],21)))
 (.ite (.cmp .gtr (.ar .sub .i64 (.ar .mul .i64 (.var 4) (.var 3)) (.ar .mul .i64 (.var 5) (.var 2))) (.lit 0))
 (.ret ((.v (.one (.z (.bool (.cmp .lss (.ar .sub .i64 (.ar .mul .i64 (.var 0) (.var 3)) (.ar .mul .i64 (.var 1) (.var 2))) (.lit 0)))))),[],21))
 (.ret ((.v (.one (.z (.bool (.lit false))))),[],19)))))
 (.ite (.cmp .gtr (.ar .sub .i64 (.ar .mul .i64 (.var 0) (.var 5)) (.ar .mul .i64 (.var 1) (.var 4))) (.lit 0))
 (.ite (.cmp .gtr (.ar .sub .i64 (.ar .mul .i64 (.var 4) (.var 3)) (.ar .mul .i64 (.var 5) (.var 2))) (.lit 0))
 (.ret ((.v (.one (.z (.bool (.lit true))))),[],19))
 (.ret ((.v (.one (.z (.bool (.cmp .leq (.ar .sub .i64 (.ar .mul .i64 (.var 0) (.var 3)) (.ar .mul .i64 (.var 1) (.var 2))) (.lit 0)))))),[],21)))
 (.ite (.cmp .gtr (.ar .sub .i64 (.ar .mul .i64 (.var 4) (.var 3)) (.ar .mul .i64 (.var 5) (.var 2))) (.lit 0))
 (.ret ((.v (.one (.z (.bool (.cmp .lss (.ar .sub .i64 (.ar .mul .i64 (.var 0) (.var 3)) (.ar .mul .i64 (.var 1) (.var 2))) (.lit 0)))))),[],21))
 (.ret ((.v (.one (.z (.bool (.lit false))))),[],19))))))
 (.ite (.cmp .eql (.ar .sub .i64 (.ar .mul .i64 (.var 2) (.var 5)) (.ar .mul .i64 (.var 3) (.var 4))) (.lit 0))
 (.ite (.cmp .gtr (.ar .add .i64 (.ar .mul .i64 (.var 2) (.var 4)) (.ar .mul .i64 (.var 3) (.var 5))) (.lit 0))
 (.ret ((.v (.one (.z (.bool (.lit false))))),[],15))
 (.ite (.cmp .gtr (.ar .sub .i64 (.ar .mul .i64 (.var 0) (.var 5)) (.ar .mul .i64 (.var 1) (.var 4))) (.lit 0))
 (.ite (.cmp .gtr (.ar .sub .i64 (.ar .mul .i64 (.var 4) (.var 3)) (.ar .mul .i64 (.var 5) (.var 2))) (.lit 0))
 (.ret ((.v (.one (.z (.bool (.lit true))))),[],19))
 (.ret ((.v (.one (.z (.bool (.cmp .leq (.ar .sub .i64 (.ar .mul .i64 (.var 0) (.var 3)) (.ar .mul .i64 (.var 1) (.var 2))) (.lit 0)))))),[],21)))
 (.ite (.cmp .gtr (.ar .sub .i64 (.ar .mul .i64 (.var 4) (.var 3)) (.ar .mul .i64 (.var 5) (.var 2))) (.lit 0))
 (.ret ((.v (.one (.z (.bool (.cmp .lss (.ar .sub .i64 (.ar .mul .i64 (.var 0) (.var 3)) (.ar .mul .i64 (.var 1) (.var 2))) (.lit 0)))))),[],21))
 (.ret ((.v (.one (.z (.bool (.lit false))))),[],19)))))
 (.ite (.cmp .gtr (.ar .sub .i64 (.ar .mul .i64 (.var 0) (.var 5)) (.ar .mul .i64 (.var 1) (.var 4))) (.lit 0))
 (.ite (.cmp .gtr (.ar .sub .i64 (.ar .mul .i64 (.var 4) (.var 3)) (.ar .mul .i64 (.var 5) (.var 2))) (.lit 0))
 (.ret ((.v (.one (.z (.bool (.lit true))))),[],19))
 (.ret ((.v (.one (.z (.bool (.cmp .leq (.ar .sub .i64 (.ar .mul .i64 (.var 0) (.var 3)) (.ar .mul .i64 (.var 1) (.var 2))) (.lit 0)))))),[],21)))
 (.ite (.cmp .gtr (.ar .sub .i64 (.ar .mul .i64 (.var 4) (.var 3)) (.ar .mul .i64 (.var 5) (.var 2))) (.lit 0))
 (.ret ((.v (.one (.z (.bool (.cmp .lss (.ar .sub .i64 (.ar .mul .i64 (.var 0) (.var 3)) (.ar .mul .i64 (.var 1) (.var 2))) (.lit 0)))))),[],21))
 (.ret ((.v (.one (.z (.bool (.lit false))))),[],19)))))))
set_option maxRecDepth 100000 in
theorem c8j:T.norm 0 (call Tryz.prog c1z (Lt.of []) 100 131 (i6 0 [O6,O6,O6]) [] 0) TT.ret=c1b:=by kernel_rfl
theorem c6X:c1b.low 1000=true:=by kernel_rfl
def c2Y:TT j6:=
(.ite (.fn 99 (.i (.var 0) (.i (.var 1) .nil)))
 (.ite (.fn 99 (.i (.var 2) (.i (.var 3) .nil)))
 (.ite (.cmp .geq (.var 4) (.lit 1))
 (.ite (.cmp .leq (.var 4) (.lit 3))
 (.ite (.cmp .geq (.var 5) (.lit 1))
 (.ret ((.v (.one (.z (.bool (.cmp .leq (.var 5) (.lit 3000000)))))),[],1))
 (.ret ((.v (.one (.z (.bool (.lit false))))),[],1)))
 (.ret ((.v (.one (.z (.bool (.lit false))))),[],1)))
 (.ret ((.v (.one (.z (.bool (.lit false))))),[],1)))
 (.ret ((.v (.one (.z (.bool (.lit false))))),[],1)))
 (.ret ((.v (.one (.z (.bool (.lit false))))),[],1)))
set_option maxRecDepth 100000 in
theorem c8J:T.norm 0 (call Tryz.prog c1z (Lt.of []) 100 130 (i6 0 [sec]) [] 0) TT.ret=c2Y:=by kernel_rfl
theorem c7q:c2Y.low 1000=true:=by kernel_rfl
theorem c3E(W:World)(ds l:List D):(f0 KW W ds).fb 99 l=a5R l:=by simp only[f0,KW]
theorem b8R(a b:Int):a5R [.i a,.i b]=A7 a b:=rfl
theorem d8d:k8 Tryz.prog 130 [sec] (fun ds=> .bool (a1F ds)):=by
 refine GivesIf.all (i7 KW (by kernel_rfl) (fun ρ h=>b1n (Sees.of h 101)) (by kernel_rfl) c8J c7q (by decide) (fun W vals ds hr _=> ?_))
 simp only[c2Y,g8,Nat.reduceBEq,Nat.reduceLT,Nat.reduceSub,c3E,b8R]
 simp only[a1F,a7V,A7]
 (repeat' (first | (intro h;skip) | (refine And.intro ?_ ?_)))
 all_goals (congr 1;rw[Bool.eq_iff_iff];try rw[x7])
 all_goals (simp only[p6,decide_eq_true_eq,Bool.false_eq_true,false_iff,true_iff,decide_eq_false_iff_not] at *;omega)
theorem b1H{a b c d:Int}(h1:A7 a b=true)(h2:A7 c d=true):IntKind.i64.wrap (IntKind.i64.wrap (a*c)+IntKind.i64.wrap (b*d))=a*c+b*d:=by
 rw[a0B] at h1 h2
 have m1:=N7 (a:=a) (b:=c) (A:=1000000) (B:=1000000) (by omega) (by omega) (by omega) (by omega)
 have m2:=N7 (a:=b) (b:=d) (A:=1000000) (B:=1000000) (by omega) (by omega) (by omega) (by omega)
 rw[f8 (a*c) (by omega) (by omega),f8 (b*d) (by omega) (by omega),f8 _ (by omega) (by omega)]
theorem a4G{a b c d:Int}(h1:A7 a b=true)(h2:A7 c d=true):IntKind.i64.wrap (IntKind.i64.wrap (a*d)-IntKind.i64.wrap (b*c))=E4 a b c d:=b0W h1 h2
theorem d8m:GivesIf Tryz.prog 131 [O6,O6,O6] (fun ds=>(A7 (c9 ds 0) (c9 ds 1)&&(A7 (c9 ds 2) (c9 ds 3)&&A7 (c9 ds 4) (c9 ds 5)))=true) (fun ds=> .bool (a4A ds)):=by
 refine i7 KW (by kernel_rfl) (fun ρ h=>b1n (Sees.of h 101)) (by kernel_rfl) c8j c6X (by decide) (fun W vals ds hr hok=> ?_)
 rw[Bool.and_eq_true,Bool.and_eq_true] at hok
 obtain⟨h1,h2,h3⟩:=hok
 simp only[c1b,g8,Nat.reduceBEq,Nat.reduceLT,Nat.reduceSub]
 simp only[a4G h1 h2,a4G h1 h3,a4G h2 h3,a4G h3 h2,b1H h1 h2,b1H h1 h3,b1H h2 h3]
 rw[a4A,d5z h1 h2 h3]
 (repeat' (first | (intro h;skip) | (refine And.intro ?_ ?_)))
 all_goals (refine congrArg Value.bool ?_;rw[Bool.eq_iff_iff,decide_eq_true_eq];unfold b4Y S8;simp only[x7,p6,Bool.false_eq_true,false_iff,true_iff])
 all_goals
  generalize E4 (c9 ds 0) (c9 ds 1) (c9 ds 2) (c9 ds 3)=u at*
  generalize E4 (c9 ds 0) (c9 ds 1) (c9 ds 4) (c9 ds 5)=v at*
  generalize E4 (c9 ds 2) (c9 ds 3) (c9 ds 4) (c9 ds 5)=w at*
  generalize E4 (c9 ds 4) (c9 ds 5) (c9 ds 2) (c9 ds 3)=z at*
  generalize c9 ds 0*c9 ds 2+c9 ds 1*c9 ds 3=x1 at*
  generalize c9 ds 0*c9 ds 4+c9 ds 1*c9 ds 5=x2 at*
  generalize c9 ds 2*c9 ds 4+c9 ds 3*c9 ds 5=x3 at*
  clear h1 h2 h3 hr
  (repeat' split)<;>omega
def d3X:=o7 [sec] fun al=> .ret (bV (bF 73 a1F al))
theorem d1u{ρ:Env}(h:Sees ρ KG 80):i9 Tryz.prog ρ 130 d3X:=
 k5 d8d (fun _=>rfl) (fun al=>by simp only[iV,bV,V.s0,V.val,V2.val,S.val,S0.val,k7 (s:=73) (f:=a1F) (fun l=>by rw[(h 73 l (by decide)).2];simp only[KG,KF,KE,KD,KC])];try rfl)
def d1b(al:AL):T V:=match al with
 | .i a (.i b (.i c (.i d (.i x (.i y .nil)))))=>T.obs [.tru (.fn 99 (.i a (.i b .nil))),.tru (.fn 99 (.i c (.i d .nil))),.tru (.fn 99 (.i x (.i y .nil)))] (.ret (bV (bF 100 a4A al)))
 | _=> .stuck "has"
def d0L:=o7 [O6,O6,O6] d1b
theorem c8h{ρ:Env}(h:Sees ρ KW 101):i9 Tryz.prog ρ 131 d0L:=by
 refine A0 d8m (fun al v hv=> ?_)
 have h99:∀l,ρ.fb 99 l=a5R l:=fun l=>by rw[(h 99 l (by decide)).2];simp only[KW]
 unfold d1b at hv
 split at hv
 ·rename_i a b c d x y
  obtain⟨ho,hv⟩:=T.res_obs hv
  obtain rfl:=g7 hv
  have o1:=ho _ (List.mem_cons_self ..)
  have o2:=ho _ (List.mem_cons_of_mem _ (List.mem_cons_self ..))
  have o3:=ho _ (List.mem_cons_of_mem _ (List.mem_cons_of_mem _ (List.mem_cons_self ..)))
  simp only[Ob.ok,B.ev,AL.ev,h99] at o1 o2 o3
  refine⟨rfl,?_,?_⟩
  ·show(A7 (a.ev ρ) (b.ev ρ)&&(A7 (c.ev ρ) (d.ev ρ)&&A7 (x.ev ρ) (y.ev ρ)))=true
   rw[Bool.and_eq_true,Bool.and_eq_true]
   exact⟨o1,o2,o3⟩
  ·simp only[bV,V.s0,V.val,V2.val,S.val,S0.val,k7 (s:=100) (f:=a4A) (fun l=>by rw[(h 100 l (by decide)).2];simp only[KW])]
   try rfl
 ·exact hv.elim
def c8t:Ct:=(130,d3X)::(131,d0L)::c1z
theorem c0D{ρ:Env}(h:Sees ρ KW 101):CtOk Tryz.prog ρ c8t:= .cons (d1u (c2c h))<| .cons (c8h h) (b1n h)
def c3h:TT j6:=
(.ite (.cmp .gtr (.len (.var 0)) (.lit 12))
 (.ret ((.v (.one (.z (.bool (.lit false))))),[],0))
 (.loop 0 1000 ⟨[(0,(.lit 0))],[],[]⟩
 (.ite (.cmp .lss (.var 1000) (.len (.var 0)))
 (.ob (.tru (.cmp .leq (.lit 0) (.var 1000)))
 (.ob (.tru (.cmp .lss (.var 1000) (.len (.var 0))))
 (.ite (.not (.fn 73 (.i (.rd (.var 0) (.var 1000) 0) (.i (.rd (.var 0) (.var 1000) 1) (.i (.rd (.var 0) (.var 1000) 2) (.i (.rd (.var 0) (.var 1000) 3) (.i (.rd (.var 0) (.var 1000) 4) (.i (.rd (.var 0) (.var 1000) 5) .nil))))))))
 (.ret ((.v (.one (.z (.bool (.lit false))))),[],2))
 (.loop 1 2000 ⟨[(0,(.lit 0))],[],[]⟩
 (.ite (.cmp .lss (.var 2000) (.var 1000))
 (.ob (.tru (.cmp .leq (.lit 0) (.var 1000)))
 (.ob (.tru (.cmp .lss (.var 1000) (.len (.var 0))))
 (.ob (.tru (.cmp .leq (.lit 0) (.var 1000)))
 (.ob (.tru (.cmp .lss (.var 1000) (.len (.var 0))))
 (.ob (.tru (.cmp .leq (.lit 0) (.var 2000)))
 (.ob (.tru (.cmp .lss (.var 2000) (.len (.var 0))))
 (.ob (.tru (.fn 99 (.i (.rd (.var 0) (.var 1000) 0) (.i (.rd (.var 0) (.var 1000) 1) .nil))))
 (.ob (.tru (.fn 99 (.i (.rd (.var 0) (.var 1000) 2) (.i (.rd (.var 0) (.var 1000) 3) .nil))))
 (.ob (.tru (.fn 99 (.i (.rd (.var 0) (.var 2000) 0) (.i (.rd (.var 0) (.var 2000) 1) .nil))))
 (.ite (.fn 100 (.i (.rd (.var 0) (.var 1000) 0) (.i (.rd (.var 0) (.var 1000) 1) (.i (.rd (.var 0) (.var 1000) 2) (.i (.rd (.var 0) (.var 1000) 3) (.i (.rd (.var 0) (.var 2000) 0) (.i (.rd (.var 0) (.var 2000) 1) .nil)))))))
 (.ret ((.v (.one (.z (.bool (.lit false))))),[],2))
 (.ob (.tru (.cmp .leq (.lit 0) (.var 2000)))
 (.ob (.tru (.cmp .lss (.var 2000) (.len (.var 0))))
 (.ob (.tru (.cmp .leq (.lit 0) (.var 2000)))
 (.ob (.tru (.cmp .lss (.var 2000) (.len (.var 0))))
 (.ob (.tru (.cmp .leq (.lit 0) (.var 1000)))
 (.ob (.tru (.cmp .lss (.var 1000) (.len (.var 0))))
 (.ob (.tru (.fn 99 (.i (.rd (.var 0) (.var 2000) 0) (.i (.rd (.var 0) (.var 2000) 1) .nil))))
 (.ob (.tru (.fn 99 (.i (.rd (.var 0) (.var 2000) 2) (.i (.rd (.var 0) (.var 2000) 3) .nil))))
 (.ob (.tru (.fn 99 (.i (.rd (.var 0) (.var 1000) 0) (.i (.rd (.var 0) (.var 1000) 1) .nil))))
 (.ite (.fn 100 (.i (.rd (.var 0) (.var 2000) 0) (.i (.rd (.var 0) (.var 2000) 1) (.i (.rd (.var 0) (.var 2000) 2) (.i (.rd (.var 0) (.var 2000) 3) (.i (.rd (.var 0) (.var 1000) 0) (.i (.rd (.var 0) (.var 1000) 1) .nil)))))))
 (.ret ((.v (.one (.z (.bool (.lit false))))),[],2))
 (.next 1 ⟨[(0,(.ar .add .i64 (.var 2000) (.lit 1)))],[],[]⟩)))))))))))))))))))))
 (.next 0 ⟨[(0,(.ar .add .i64 (.var 1000) (.lit 1)))],[],[]⟩))))))
 (.ret ((.v (.one (.z (.bool (.lit true))))),[],2)))))
set_option maxRecDepth 100000 in
theorem c9w:T.norm 0 (call Tryz.prog c8t (Lt.of []) 100 98 (i6 0 [a8x]) [] 0) TT.ret=c3h:=by kernel_rfl
theorem c4H:c3h.low 1000=true:=by kernel_rfl
theorem d0T(W:World)(ds l:List D):(f0 KW W ds).fb 73 l=a1F l:=by simp only[f0,KW,KV,KU,KT,KR,KG,KF,KE,KD,KC]
theorem c6x(W:World)(ds l:List D):(f0 KW W ds).fb 100 l=a4A l:=by simp only[f0,KW]
theorem c7H(a b c d x y:Int):a4A [.i a,.i b,.i c,.i d,.i x,.i y]=a2k a b c d x y:=rfl
theorem b9j{a b c d e f:Int}(h:a7V a b c d e f=true):A7 a b=true∧A7 c d=true:=by
 unfold a7V at h
 rw[decide_eq_true_eq] at h
 rw[a0B,a0B]
 omega
theorem d8Z:k8 Tryz.prog 98 [a8x] (fun ds=> .bool (R7 ds)):=by
 refine GivesIf.all (i7 KW (by kernel_rfl) (fun ρ h=>c0D (Sees.of h 101)) (by kernel_rfl) c9w c4H (by decide) (fun W vals ds hr _=> ?_))
 have hlen:=b5m hr
 simp only[c3h,g8,Nat.reduceBEq,Nat.reduceLT,Nat.reduceSub]
 generalize hr0:d9 ds 0=r at hlen ⊢
 have hP:R7 ds=X9 r:=by rw[R7,hr0]
 rw[hP]
 refine⟨fun h=> ?_,fun h=> ?_⟩
 ·rw[X9,decide_eq_false (by omega),Bool.and_false]
 have h12:decide (r.length≤12)=true:=decide_eq_true (by omega)
 have hS:X9 r=a0C r r.length 0:=by rw[X9,h12,Bool.and_true]
 rw[hS]
 refine TT.sat_loop (fun v=>∃i:Nat,v.i 0=i∧i≤r.length∧a0C r (r.length-i) i=a0C r r.length 0∧∀k:Nat,k<i→a3P r k=true) (fun v=>r.length-(v.i 0).toNat)
  ⟨0,by simp [j7,i8,E.ev],by omega,rfl,fun k hk=>by omega⟩ (fun v hv=> ?_)
 obtain⟨i,i0,i1,i2,i3⟩:=hv
 simp only[g8,Nat.reduceBEq,Nat.reduceLT,Nat.reduceSub,i0,hr0,d0T,c3E,c6x,a6X]
 refine⟨fun hc=> ?_,fun hc=> ?_⟩
 ·have hi:i<r.length:=by omega
  obtain⟨f,hf⟩:∃f,r.length-i=f+1:=⟨r.length-i-1,by omega⟩
  rw[hf,a0C] at i2
  refine⟨by omega,by omega,fun p=> ?_,fun p=> ?_⟩
  ·rw[←i2,a3P,p];rfl
  have hd:=b9j p
  refine TT.sat_loop (fun v=>∃k:Nat,v.i 0=k∧k≤i∧(a5J r i (i-k) k&&a0C r f (i+1))=a0C r r.length 0) (fun v=>i-(v.i 0).toNat)
   ⟨0,by simp [j7,i8,E.ev],by omega,by rw[←i2,a3P,p];rfl⟩ (fun u hu=> ?_)
  obtain⟨k,k0,k1,k2⟩:=hu
  simp only[g8,Nat.reduceBEq,Nat.reduceLT,Nat.reduceSub,i0,k0,hr0,d0T,c3E,c6x,a6X,c7H,b8R]
  refine⟨fun hk=> ?_,fun hk=> ?_⟩
  ·have hki:k<i:=by omega
   have hdk:=b9j (i3 k hki)
   obtain⟨g,hg⟩:∃g,i-k=g+1:=⟨i-k-1,by omega⟩
   rw[hg,a5J,b7q] at k2
   refine⟨by omega,by omega,by omega,by omega,by omega,by omega,hd.1,hd.2,hdk.1,fun q=> ?_,fun q=>⟨by omega,by omega,by omega,by omega,by omega,by omega,hdk.1,hdk.2,hd.1,fun q'=> ?_,fun q'=>⟨⟨k+1,?_,by omega,?_⟩,?_⟩⟩⟩
   ·rw[←k2,q];rfl
   ·rw[←k2,q,q'];rfl
   ·rw[f8 _ (by omega) (by omega)];rfl
   ·rw[show i-(k+1)=g by omega,←k2,q,q'];rfl
   ·rw[f8 _ (by omega) (by omega)];omega
  ·have:i-k=0:=by omega
   rw[this,a5J,Bool.true_and] at k2
   refine⟨⟨i+1,?_,by omega,?_,fun j hj=> ?_⟩,?_⟩
   ·rw[f8 _ (by omega) (by omega)];rfl
   ·rw[show r.length-(i+1)=f by omega];exact k2
   ·by_cases e:j=i
    ·subst e;exact p
    ·exact i3 j (by omega)
   ·rw[f8 _ (by omega) (by omega)];omega
 ·have:r.length-i=0:=by omega
  rw[this,a0C] at i2
  rw[←i2]
def d5Z:=o7 [a8x] fun al=> .ret (bV (bF 75 R7 al))
theorem d2x{ρ:Env}(h:Sees ρ KG 80):i9 Tryz.prog ρ 98 d5Z:=
 k5 d8Z (fun _=>rfl) (fun al=>by simp only[iV,bV,V.s0,V.val,V2.val,S.val,S0.val,k7 (s:=75) (f:=R7) (fun l=>by rw[(h 75 l (by decide)).2];simp only[KG,KF,KE])];try rfl)
def d5M:Ct:=(98,d5Z)::c8t
theorem d1j{ρ:Env}(h:Sees ρ KW 101):CtOk Tryz.prog ρ d5M:= .cons (d2x (c2c h)) (c0D h)
def d9v:TT j6:=
(.ite (.cmp .eql (.var 0) (.lit 1))
 (.ret ((.v (.one (.z (.bool (.lit true))))),[],0))
 (.ite (.cmp .eql (.var 0) (.lit 2))
 (.ret ((.v (.one (.z (.bool (.lit true))))),[],0))
 (.ret ((.v (.one (.z (.bool (.cmp .eql (.var 0) (.lit 5)))))),[],0))))
def c1r:TT j6:=
(.ite (.cmp .lss (.var 0) (.lit 1))
 (.ret ((.v (.one (.z (.bool (.lit false))))),[],1))
 (.ite (.cmp .gtr (.var 0) (.lit 100000))
 (.ret ((.v (.one (.z (.bool (.lit false))))),[],1))
 (.ite (.cmp .lss (.var 7) (.lit 0))
 (.ret ((.v (.one (.z (.bool (.lit false))))),[],1))
 (.ite (.cmp .gtr (.var 7) (.lit 999))
 (.ret ((.v (.one (.z (.bool (.lit false))))),[],1))
 (.ite (.cmp .lss (.var 6) (.lit 0))
 (.ret ((.v (.one (.z (.bool (.lit false))))),[],1))
 (.ite (.cmp .gtr (.var 6) (.lit 100000))
 (.ret ((.v (.one (.z (.bool (.lit false))))),[],1))
 (.ite (.cmp .lss (.var 4) (.lit 0))
 (.ret ((.v (.one (.z (.bool (.lit false))))),[],1))
 (.ite (.cmp .gtr (.var 4) (.lit 100000))
 (.ret ((.v (.one (.z (.bool (.lit false))))),[],1))
 (.ite (.cmp .eql (.var 1) (.lit 1))
 (.ite (.fn 3 (.i (.var 2) (.i (.var 3) .nil)))
 (.ite (.cmp .geq (.ar .sub .i64 (.var 2) (.var 4)) (.lit (-1000000)))
 (.ite (.cmp .leq (.ar .add .i64 (.var 2) (.var 4)) (.lit 1000000))
 (.ite (.cmp .geq (.ar .sub .i64 (.var 3) (.var 4)) (.lit (-1000000)))
 (.ite (.cmp .leq (.ar .add .i64 (.var 3) (.var 4)) (.lit 1000000))
 (.ite (.cmp .eql (.len (.var 5)) (.lit 0))
 (.ret ((.v (.one (.z (.bool (.cmp .eql (.len (.var 8)) (.lit 0)))))),[],1))
 (.ret ((.v (.one (.z (.bool (.lit false))))),[],1)))
 (.ret ((.v (.one (.z (.bool (.lit false))))),[],1)))
 (.ret ((.v (.one (.z (.bool (.lit false))))),[],1)))
 (.ret ((.v (.one (.z (.bool (.lit false))))),[],1)))
 (.ret ((.v (.one (.z (.bool (.lit false))))),[],1)))
 (.ret ((.v (.one (.z (.bool (.lit false))))),[],1)))
 (.ite (.cmp .eql (.var 1) (.lit 2))
 (.ite (.fn 3 (.i (.var 2) (.i (.var 3) .nil)))
 (.ite (.cmp .geq (.ar .sub .i64 (.var 2) (.var 4)) (.lit (-1000000)))
 (.ite (.cmp .leq (.ar .add .i64 (.var 2) (.var 4)) (.lit 1000000))
 (.ite (.cmp .geq (.ar .sub .i64 (.var 3) (.var 4)) (.lit (-1000000)))
 (.ite (.cmp .leq (.ar .add .i64 (.var 3) (.var 4)) (.lit 1000000))
 (.ite (.cmp .eql (.len (.var 5)) (.lit 0))
 (.ret ((.v (.one (.z (.bool (.cmp .eql (.len (.var 8)) (.lit 0)))))),[],1))
 (.ret ((.v (.one (.z (.bool (.lit false))))),[],1)))
 (.ret ((.v (.one (.z (.bool (.lit false))))),[],1)))
 (.ret ((.v (.one (.z (.bool (.lit false))))),[],1)))
 (.ret ((.v (.one (.z (.bool (.lit false))))),[],1)))
 (.ret ((.v (.one (.z (.bool (.lit false))))),[],1)))
 (.ret ((.v (.one (.z (.bool (.lit false))))),[],1)))
 (.ite (.cmp .eql (.var 1) (.lit 5))
 (.ite (.fn 3 (.i (.var 2) (.i (.var 3) .nil)))
 (.ite (.cmp .geq (.ar .sub .i64 (.var 2) (.var 4)) (.lit (-1000000)))
 (.ite (.cmp .leq (.ar .add .i64 (.var 2) (.var 4)) (.lit 1000000))
 (.ite (.cmp .geq (.ar .sub .i64 (.var 3) (.var 4)) (.lit (-1000000)))
 (.ite (.cmp .leq (.ar .add .i64 (.var 3) (.var 4)) (.lit 1000000))
 (.ite (.cmp .eql (.len (.var 5)) (.lit 0))
 (.ret ((.v (.one (.z (.bool (.cmp .eql (.len (.var 8)) (.lit 0)))))),[],1))
 (.ret ((.v (.one (.z (.bool (.lit false))))),[],1)))
 (.ret ((.v (.one (.z (.bool (.lit false))))),[],1)))
 (.ret ((.v (.one (.z (.bool (.lit false))))),[],1)))
 (.ret ((.v (.one (.z (.bool (.lit false))))),[],1)))
 (.ret ((.v (.one (.z (.bool (.lit false))))),[],1)))
 (.ret ((.v (.one (.z (.bool (.lit false))))),[],1)))
 (.ite (.cmp .eql (.var 1) (.lit 3))
 (.ite (.fn 69 (.x (.var 5) .nil))
 (.ite (.and (.cmp .eql (.var 2) (.lit 0)) (.cmp .eql (.var 3) (.lit 0)))
 (.ite (.cmp .eql (.var 4) (.lit 0))
 (.ite (.cmp .eql (.len (.var 8)) (.lit 0))
 (.ite (.cmp .eql (.var 1) (.lit 3))
 (.ret ((.v (.one (.z (.bool (.lit true))))),[],1))
 (.ret ((.v (.one (.z (.bool (.cmp .eql (.var 6) (.lit 0)))))),[],1)))
 (.ret ((.v (.one (.z (.bool (.lit false))))),[],1)))
 (.ret ((.v (.one (.z (.bool (.lit false))))),[],1)))
 (.ret ((.v (.one (.z (.bool (.lit false))))),[],1)))
 (.ret ((.v (.one (.z (.bool (.lit false))))),[],1)))
 (.ite (.cmp .eql (.var 1) (.lit 6))
 (.ite (.fn 69 (.x (.var 5) .nil))
 (.ite (.and (.cmp .eql (.var 2) (.lit 0)) (.cmp .eql (.var 3) (.lit 0)))
 (.ite (.cmp .eql (.var 4) (.lit 0))
 (.ite (.cmp .eql (.len (.var 8)) (.lit 0))
 (.ite (.cmp .eql (.var 1) (.lit 3))
 (.ret ((.v (.one (.z (.bool (.lit true))))),[],1))
 (.ret ((.v (.one (.z (.bool (.cmp .eql (.var 6) (.lit 0)))))),[],1)))
 (.ret ((.v (.one (.z (.bool (.lit false))))),[],1)))
 (.ret ((.v (.one (.z (.bool (.lit false))))),[],1)))
 (.ret ((.v (.one (.z (.bool (.lit false))))),[],1)))
 (.ret ((.v (.one (.z (.bool (.lit false))))),[],1)))
 (.ite (.cmp .eql (.var 1) (.lit 4))
 (.ite (.fn 3 (.i (.var 2) (.i (.var 3) .nil)))
 (.ite (.fn 75 (.x (.var 8) .nil))
 (.ite (.cmp .eql (.var 4) (.lit 0))
 (.ite (.cmp .eql (.var 6) (.lit 0))
 (.ret ((.v (.one (.z (.bool (.cmp .eql (.len (.var 5)) (.lit 0)))))),[],1))
 (.ret ((.v (.one (.z (.bool (.lit false))))),[],1)))
 (.ret ((.v (.one (.z (.bool (.lit false))))),[],1)))
 (.ret ((.v (.one (.z (.bool (.lit false))))),[],1)))
 (.ret ((.v (.one (.z (.bool (.lit false))))),[],1)))
 (.ret ((.v (.one (.z (.bool (.lit false))))),[],1))))))))))))))))
set_option maxRecDepth 100000 in
theorem c8e:T.norm 0 (call Tryz.prog d5M (Lt.of []) 100 70 (i6 0 [v5]) [] 0) TT.ret=c1r:=by kernel_rfl
theorem c6O:c1r.low 1000=true:=by kernel_rfl
theorem d8I(W:World)(ds l:List D):(f0 KW W ds).fb 3 l=s9 l:=by simp only[f0,KW,KV,KU,KT,KR,KG,KF,KE,KD,KC,KB,KA,K9,K8,K7,K6,K5,K]
theorem d6E(W:World)(ds l:List D):(f0 KW W ds).fb 69 l=H3 l:=by simp only[f0,KW,KV,KU,KT,KR,KG,KF,KE,KD,KC,KB]
theorem d7o(W:World)(ds l:List D):(f0 KW W ds).fb 75 l=R7 l:=by simp only[f0,KW,KV,KU,KT,KR,KG,KF,KE]
set_option maxHeartbeats 4000000 in
theorem d8M:k8 Tryz.prog 70 [v5] (fun ds=> .bool (G2 ds)):=by
 refine GivesIf.all (i7 KW (by kernel_rfl) (fun ρ h=>d1j (Sees.of h 101)) (by kernel_rfl) c8e c6O (by decide) (fun W vals ds hr _=> ?_))
 simp only[c1r,g8,Nat.reduceBEq,Nat.reduceLT,Nat.reduceSub,d8I,d6E,d7o,E5,Y4,b5E]
 simp only[G2,z6]
 generalize c9 ds 0=id
 generalize c9 ds 1=kind
 generalize c9 ds 2=x
 generalize c9 ds 3=y
 generalize c9 ds 4=rad
 generalize d9 ds 5=area
 generalize c9 ds 6=depth
 generalize c9 ds 7=sym
 generalize d9 ds 8=sc
 have E0:= @t9 x y
 have E1:= @t9 (x-rad) (y-rad)
 have E2:= @t9 (x+rad) (y+rad)
 have W1:g9 x y=true→0≤rad→rad≤100000→IntKind.i64.wrap (x-rad)=x-rad∧IntKind.i64.wrap (y-rad)=y-rad∧IntKind.i64.wrap (x+rad)=x+rad∧IntKind.i64.wrap (y+rad)=y+rad:=fun h _ _=>by
  rw[t9] at h
  exact⟨f8 _ (by omega) (by omega),f8 _ (by omega) (by omega),f8 _ (by omega) (by omega),f8 _ (by omega) (by omega)⟩
 (repeat' (first | (intro h;skip) | (refine And.intro ?_ ?_)))
 all_goals (refine congrArg Value.bool ?_;rw[Bool.eq_iff_iff];simp only[x7,p6,decide_eq_true_eq,Bool.false_eq_true,false_iff,a7a])
 all_goals clear hr
 all_goals grind
def d5u:=o7 [v5] fun al=> .ret (bV (bF 76 G2 al))
theorem d2Z{ρ:Env}(h:Sees ρ KG 80):i9 Tryz.prog ρ 70 d5u:=
 k5 d8M (fun _=>rfl) (fun al=>by simp only[iV,bV,V.s0,V.val,V2.val,S.val,S0.val,k7 (s:=76) (f:=G2) (fun l=>by rw[(h 76 l (by decide)).2];simp only[KG,KF])];try rfl)
end Go.Proofs.YtldbejmgalhdaaaGreat
