/- NM, merged: TI0, I0, TI1, I1, I2, TIz, I3, I4, I5, I6. -/
import Derived.Test.YtcjaembdcfppfaaGreatNH
set_option linter.unusedSimpArgs false
set_option linter.unusedVariables false
namespace Go.Proofs.YtcjaembdcfppfaaGreat
open Go.RowKit
def a9N:TT j4:=
(.ite (.cmp .lss (.var 2) (.lit 1))
 (.ret ((.tup [(.agg [(.z (.int .i64 (.lit 0))),(.z (.int .i64 (.lit 0))),(.z (.int .i64 (.lit 0))),(.z (.int .i64 (.lit 0)))]),(.one (.z (.bool (.lit false))))]),[],2))
 (.ite (.cmp .gtr (.var 2) (.lit 100000))
 (.ret ((.tup [(.agg [(.z (.int .i64 (.lit 0))),(.z (.int .i64 (.lit 0))),(.z (.int .i64 (.lit 0))),(.z (.int .i64 (.lit 0)))]),(.one (.z (.bool (.lit false))))]),[],2))
 (.ite (.cmp .lss (.var 3) (.lit 1))
 (.ret ((.tup [(.agg [(.z (.int .i64 (.lit 0))),(.z (.int .i64 (.lit 0))),(.z (.int .i64 (.lit 0))),(.z (.int .i64 (.lit 0)))]),(.one (.z (.bool (.lit false))))]),[],2))
 (.ite (.cmp .gtr (.var 3) (.lit 64))
 (.ret ((.tup [(.agg [(.z (.int .i64 (.lit 0))),(.z (.int .i64 (.lit 0))),(.z (.int .i64 (.lit 0))),(.z (.int .i64 (.lit 0)))]),(.one (.z (.bool (.lit false))))]),[],2))
 (.ite (.cmp .lss (.var 4) (.lit 1))
 (.ret ((.tup [(.agg [(.z (.int .i64 (.lit 0))),(.z (.int .i64 (.lit 0))),(.z (.int .i64 (.lit 0))),(.z (.int .i64 (.lit 0)))]),(.one (.z (.bool (.lit false))))]),[],2))
 (.ite (.cmp .gtr (.var 4) (.lit 64))
 (.ret ((.tup [(.agg [(.z (.int .i64 (.lit 0))),(.z (.int .i64 (.lit 0))),(.z (.int .i64 (.lit 0))),(.z (.int .i64 (.lit 0)))]),(.one (.z (.bool (.lit false))))]),[],2))
 (.ite (.not (.fn 31 (.i (.var 0) (.i (.var 0) (.i (.var 1) (.i (.var 1) .nil))))))
 (.ret ((.tup [(.agg [(.z (.int .i64 (.lit 0))),(.z (.int .i64 (.lit 0))),(.z (.int .i64 (.lit 0))),(.z (.int .i64 (.lit 0)))]),(.one (.z (.bool (.lit false))))]),[],3))
 (.ret ((.tup [(.agg [(.z (.int .i64 (.var 0))),(.z (.int .i64 (.ar .add .i64 (.var 0) (.ar .mul .i64 (.var 3) (.var 2))))),(.z (.int .i64 (.var 1))),(.z (.int .i64 (.ar .add .i64 (.var 1) (.ar .mul .i64 (.var 4) (.var 2)))))]),(.one (.z (.bool (.fn 31 (.i (.var 0) (.i (.ar .add .i64 (.var 0) (.ar .mul .i64 (.var 3) (.var 2))) (.i (.var 1) (.i (.ar .add .i64 (.var 1) (.ar .mul .i64 (.var 4) (.var 2))) .nil))))))))]),[],3)))))))))
set_option maxRecDepth 100000 in
theorem b9V:T.norm 0 (call Tryz.prog a9J (Lt.of []) 200 28 (g7 0 [l8]) [] 0) TT.ret=a9N:=by kernel_rfl
theorem b5r:a9N.low 1000=true:=by kernel_rfl
def frL(ds:List D):Bool:=decide (s8 (a7 ds 0) (a7 ds 1) (a7 ds 2) (a7 ds 3) (a7 ds 4))
def frC(x y s w h:Int):Prop:=((1≤s∧s≤100000)∧(1≤w∧w≤64)∧1≤h∧h≤64)∧(-1000000≤x∧x≤1000000)∧ -1000000≤y∧y≤1000000
instance (x y s w h:Int):Decidable (frC x y s w h):=by unfold frC;infer_instance
def frK(ds:List D):Bool:=decide (frC (a7 ds 0) (a7 ds 1) (a7 ds 2) (a7 ds 3) (a7 ds 4))
def frX(ds:List D):Int:=if frK ds=true then a7 ds 0 else 0
def a2V(ds:List D):Int:=if frK ds=true then a7 ds 0+a7 ds 3*a7 ds 2 else 0
def frY(ds:List D):Int:=if frK ds=true then a7 ds 1 else 0
def a2P(ds:List D):Int:=if frK ds=true then a7 ds 1+a7 ds 4*a7 ds 2 else 0
theorem d1X(W:World)(ds l:List D):(a9 B3 W ds).fb 31 l=S4 l:=by simp only[a9,B3,w8,K82,W8,I9,R5,T2,L4,E6,L6,M0,F4,B8,KI,KH,KG,KF,KE,KD,KC,KB,KA,K9,K8,K7,K6,K5,K]
theorem d1H:m8 Tryz.prog 28 [l8] (fun ds=> .tuple #[.agg #[.int .i64 (frX ds),.int .i64 (a2V ds),.int .i64 (frY ds),.int .i64 (a2P ds)],.bool (frL ds)]):=by
 refine GivesIf.all (i7 B3 (by kernel_rfl) (fun ρ h=>a3h (Sees.of h 160) (SeesD.of h 2)) (by kernel_rfl) b9V b5r (by decide) (fun W vals ds hr _=> ?_))
 have e1:frX ds=if frK ds=true then a7 ds 0 else 0:=rfl
 have e2:a2V ds=if frK ds=true then a7 ds 0+a7 ds 3*a7 ds 2 else 0:=rfl
 have e3:frY ds=if frK ds=true then a7 ds 1 else 0:=rfl
 have e4:a2P ds=if frK ds=true then a7 ds 1+a7 ds 4*a7 ds 2 else 0:=rfl
 have e5:frL ds=decide (s8 (a7 ds 0) (a7 ds 1) (a7 ds 2) (a7 ds 3) (a7 ds 4)):=rfl
 have e6:frK ds=decide (frC (a7 ds 0) (a7 ds 1) (a7 ds 2) (a7 ds 3) (a7 ds 4)):=rfl
 clear hr
 simp only[a9N,g9,Nat.reduceBEq,Nat.reduceLT,Nat.reduceSub,d1X,a1V]
 generalize a7 ds 0=x at*
 generalize a7 ds 1=y at*
 generalize a7 ds 2=s at*
 generalize a7 ds 3=w at*
 generalize a7 ds 4=h at*
 have N:¬frC x y s w h→Value.tuple #[.agg #[.int .i64 0,.int .i64 0,.int .i64 0,.int .i64 0],.bool false]= .tuple #[.agg #[.int .i64 (frX ds),.int .i64 (a2V ds),.int .i64 (frY ds),.int .i64 (a2P ds)],.bool (frL ds)]:=fun q=>by
  rw[decide_eq_false q] at e6
  rw[e6,if_neg (by decide)] at e1 e2 e3 e4
  have:¬s8 x y s w h:=fun k=>by
   unfold s8 at k
   unfold frC at q
   have p1:=o5 (a:=w) (b:=s) (m:=64) (n:=100000) (by omega) (by omega) (by omega) (by omega)
   have p2:=o5 (a:=h) (b:=s) (m:=64) (n:=100000) (by omega) (by omega) (by omega) (by omega)
   omega
  rw[decide_eq_false this] at e5
  rw[e1,e2,e3,e4,e5]
 refine⟨fun q=>N (fun k=>by unfold frC at k;omega),fun q1=>⟨fun q=>N (fun k=>by unfold frC at k;omega),fun q2=>⟨fun q=>N (fun k=>by unfold frC at k;omega),fun q3=>⟨fun q=>N (fun k=>by unfold frC at k;omega),fun q4=>⟨fun q=>N (fun k=>by unfold frC at k;omega),fun q5=>⟨fun q=>N (fun k=>by unfold frC at k;omega),fun q6=>⟨fun q=>N (fun k=> ?_),fun q=> ?_⟩⟩⟩⟩⟩⟩⟩
 ·unfold frC at k
  unfold o8 at q
  exact absurd (of_decide_eq_false q) (fun k'=>k' (by omega))
 ·unfold o8 at q ⊢
  have q:=of_decide_eq_true q
  have p1:=o5 (a:=w) (b:=s) (m:=64) (n:=100000) (by omega) (by omega) (by omega) (by omega)
  have p2:=o5 (a:=h) (b:=s) (m:=64) (n:=100000) (by omega) (by omega) (by omega) (by omega)
  rw[b8 (w*s) (by omega) (by omega),b8 (h*s) (by omega) (by omega),b8 (x+w*s) (by omega) (by omega),b8 (y+h*s) (by omega) (by omega)]
  have hc:frC x y s w h:=by unfold frC;omega
  rw[decide_eq_true hc] at e6
  rw[e6,if_pos rfl] at e1 e2 e3 e4
  rw[e1,e2,e3,e4,e5]
  congr 4
  refine congrArg Value.bool (decide_eq_decide.2 ?_)
  unfold s8
  constructor<;>intro k<;>omega
def y6:Interp where
 fi n l:=match n with | 181=>frX l | 182=>a2V l | 183=>frY l | 184=>a2P l | n=>B4.fi n l
 fb n l:=match n with | 180=>frL l | n=>B4.fb n l
 fd n l:=B4.fd n l
theorem a9F{ρ:Env}(h:Sees ρ y6 190):Sees ρ B4 170:=h.trans (by decide) fun n l hn=>by
 refine⟨?_,?_⟩
 ·
  simp only[y6]
  split<;>first | omega | rfl
 ·
  simp only[y6]
  split<;>first | omega | rfl
def c2S:=u7 [l8] fun al=> .ret (.tup [.agg [w9 181 frX al,w9 182 a2V al,w9 183 frY al,w9 184 a2P al],.one (.z (.bool (bF 180 frL al)))])
theorem c3t{ρ:Env}(h:Sees ρ y6 190):i9 Tryz.prog ρ 28 c2S:=by
 refine j7 d1H (fun _=>rfl) (fun al=> ?_)
 have h1:(iF 181 frX al).ev ρ=frX (al.ev ρ):=k8 (s:=181) (f:=frX) (fun l=>by rw[(h 181 l (by decide)).1];simp only[y6]) al
 have h2:(iF 182 a2V al).ev ρ=a2V (al.ev ρ):=k8 (s:=182) (f:=a2V) (fun l=>by rw[(h 182 l (by decide)).1];simp only[y6]) al
 have h3:(iF 183 frY al).ev ρ=frY (al.ev ρ):=k8 (s:=183) (f:=frY) (fun l=>by rw[(h 183 l (by decide)).1];simp only[y6]) al
 have h4:(iF 184 a2P al).ev ρ=a2P (al.ev ρ):=k8 (s:=184) (f:=a2P) (fun l=>by rw[(h 184 l (by decide)).1];simp only[y6]) al
 have h5:(bF 180 frL al).ev ρ=frL (al.ev ρ):=m9 (s:=180) (f:=frL) (fun l=>by rw[(h 180 l (by decide)).2];simp only[y6]) al
 simp only[V.val,V2.val,S.val,S0.val,w9,List.map_cons,List.map_nil,h1,h2,h3,h4,h5]
def b4i:Ct:=(28,c2S)::d0s
theorem a6x{ρ:Env}(h:Sees ρ y6 190)(hd:SeesD ρ y6 5):CtOk Tryz.prog ρ b4i:= .cons (c3t h) (c9r (a9F h) (fun n l hn=>(hd n l hn).trans rfl))
def a7E:TT j4:=
(.ite (.not (.fn 150 (.i (.var 0) (.i (.var 1) (.i (.var 2) (.i (.var 3) (.i (.var 4) (.x (.var 5) .nil))))))))
 (.ret ((.tup [(.agg [(.z (.int .i64 (.lit 0))),(.z (.int .i64 (.lit 0))),(.z (.int .i64 (.lit 0))),(.z (.int .i64 (.lit 0))),(.z (.int .i64 (.lit 0))),(.z (.const (.slice none 0 0)))]),(.one (.z (.int .i64 (.lit 1))))]),[],2))
 (.ite (.cmp .lss (.var 6) (.lit 1))
 (.ret ((.tup [(.agg [(.z (.int .i64 (.lit 0))),(.z (.int .i64 (.lit 0))),(.z (.int .i64 (.lit 0))),(.z (.int .i64 (.lit 0))),(.z (.int .i64 (.lit 0))),(.z (.const (.slice none 0 0)))]),(.one (.z (.int .i64 (.lit 1))))]),[],2))
 (.ite (.cmp .gtr (.var 6) (.lit 64))
 (.ret ((.tup [(.agg [(.z (.int .i64 (.lit 0))),(.z (.int .i64 (.lit 0))),(.z (.int .i64 (.lit 0))),(.z (.int .i64 (.lit 0))),(.z (.int .i64 (.lit 0))),(.z (.const (.slice none 0 0)))]),(.one (.z (.int .i64 (.lit 1))))]),[],2))
 (.ob (.tru (.cmp .neq (.var 6) (.lit 0)))
 (.ite (.cmp .neq (.ar .rem .i64 (.var 3) (.var 6)) (.lit 0))
 (.ret ((.tup [(.agg [(.z (.int .i64 (.lit 0))),(.z (.int .i64 (.lit 0))),(.z (.int .i64 (.lit 0))),(.z (.int .i64 (.lit 0))),(.z (.int .i64 (.lit 0))),(.z (.const (.slice none 0 0)))]),(.one (.z (.int .i64 (.lit 1))))]),[],2))
 (.ob (.tru (.cmp .neq (.var 6) (.lit 0)))
 (.ite (.cmp .neq (.ar .rem .i64 (.var 4) (.var 6)) (.lit 0))
 (.ret ((.tup [(.agg [(.z (.int .i64 (.lit 0))),(.z (.int .i64 (.lit 0))),(.z (.int .i64 (.lit 0))),(.z (.int .i64 (.lit 0))),(.z (.int .i64 (.lit 0))),(.z (.const (.slice none 0 0)))]),(.one (.z (.int .i64 (.lit 1))))]),[],2))
 (.ite (.cmp .gtr (.ar .mul .i64 (.var 6) (.var 2)) (.lit 100000))
 (.ret ((.tup [(.agg [(.z (.int .i64 (.lit 0))),(.z (.int .i64 (.lit 0))),(.z (.int .i64 (.lit 0))),(.z (.int .i64 (.lit 0))),(.z (.int .i64 (.lit 0))),(.z (.const (.slice none 0 0)))]),(.one (.z (.int .i64 (.lit 1))))]),[],2))
 (.ob (.tru (.cmp .neq (.var 6) (.lit 0)))
 (.ob (.tru (.cmp .neq (.var 6) (.lit 0)))
 (.ob (.tru (.cmp .leq (.lit 0) (.ar .mul .i64 (.ar .quo .i64 (.var 3) (.var 6)) (.ar .quo .i64 (.var 4) (.var 6)))))
 (.ob (.tru (.cmp .leq (.ar .mul .i64 (.ar .quo .i64 (.var 3) (.var 6)) (.ar .quo .i64 (.var 4) (.var 6))) (.lit 1000000)))
 (.loop 0 6000 ⟨[(0,(.lit 0))],[],[(1,(.rep (.ar .mul .i64 (.ar .quo .i64 (.var 3) (.var 6)) (.ar .quo .i64 (.var 4) (.var 6))) (.i (.lit 100000) .nil)))]⟩
 (.ite (.cmp .lss (.var 6000) (.len (.var 5)))
 (.ob (.tru (.cmp .leq (.lit 0) (.var 6000)))
 (.ob (.tru (.cmp .lss (.var 6000) (.len (.var 5))))
 (.ob (.tru (.cmp .neq (.var 3) (.lit 0)))
 (.ob (.tru (.cmp .neq (.var 6) (.lit 0)))
 (.ob (.tru (.cmp .neq (.var 3) (.lit 0)))
 (.ob (.tru (.cmp .neq (.var 6) (.lit 0)))
 (.ob (.tru (.cmp .leq (.lit 0) (.ar .add .i64 (.ar .quo .i64 (.ar .rem .i64 (.var 6000) (.var 3)) (.var 6)) (.ar .mul .i64 (.ar .quo .i64 (.ar .quo .i64 (.var 6000) (.var 3)) (.var 6)) (.ar .quo .i64 (.var 3) (.var 6))))))
 (.ob (.tru (.cmp .lss (.ar .add .i64 (.ar .quo .i64 (.ar .rem .i64 (.var 6000) (.var 3)) (.var 6)) (.ar .mul .i64 (.ar .quo .i64 (.ar .quo .i64 (.var 6000) (.var 3)) (.var 6)) (.ar .quo .i64 (.var 3) (.var 6)))) (.len (.var 6001))))
 (.next 0 ⟨[(0,(.ar .add .i64 (.var 6000) (.lit 1)))],[],[(1,(.upd (.var 6001) (.ar .add .i64 (.ar .quo .i64 (.ar .rem .i64 (.var 6000) (.var 3)) (.var 6)) (.ar .mul .i64 (.ar .quo .i64 (.ar .quo .i64 (.var 6000) (.var 3)) (.var 6)) (.ar .quo .i64 (.var 3) (.var 6)))) 0 (.i (.mn (.rd (.var 6001) (.ar .add .i64 (.ar .quo .i64 (.ar .rem .i64 (.var 6000) (.var 3)) (.var 6)) (.ar .mul .i64 (.ar .quo .i64 (.ar .quo .i64 (.var 6000) (.var 3)) (.var 6)) (.ar .quo .i64 (.var 3) (.var 6)))) 0) (.rd (.var 5) (.var 6000) 0)) .nil)))]⟩)))))))))
 (.ret ((.tup [(.agg [(.z (.int .i64 (.var 0))),(.z (.int .i64 (.var 1))),(.z (.int .i64 (.ar .mul .i64 (.var 6) (.var 2)))),(.z (.int .i64 (.ar .quo .i64 (.var 3) (.var 6)))),(.z (.int .i64 (.ar .quo .i64 (.var 4) (.var 6)))),(.z (.own 4 (.lit 0)))]),(.one (.z (.int .i64 (.lit 0))))]),[(4,(.own 3 [(.int .i64)] (.var 6001) (.lit 0))),(4,(.own 3 [(.int .i64)] (.rep (.ar .mul .i64 (.ar .quo .i64 (.var 3) (.var 6)) (.ar .quo .i64 (.var 4) (.var 6))) (.i (.lit 100000) .nil)) (.lit 0)))],6))))))))))))))))
set_option maxRecDepth 100000 in
theorem b5Z:T.norm 0 (call Tryz.prog b4i (Lt.of []) 200 13 (g7 0 [l8,it]) [] 0) TT.ret=a7E:=by kernel_rfl
theorem b2S:a7E.low 1000=true:=by kernel_rfl
def b0c:TT j4:=
(.ite (.not (.fn 150 (.i (.var 0) (.i (.var 1) (.i (.var 2) (.i (.var 3) (.i (.var 4) (.x (.var 5) .nil))))))))
 (.ret ((.tup [(.one (.z (.int .i64 (.lit 0)))),(.one (.z (.int .i64 (.lit 1))))]),[],2))
 (.ite (.not (.fn 31 (.i (.var 6) (.i (.var 7) (.i (.var 8) (.i (.var 9) .nil))))))
 (.ret ((.tup [(.one (.z (.int .i64 (.lit 0)))),(.one (.z (.int .i64 (.lit 1))))]),[],2))
 (.ite (.not (.fn 51 (.i (.var 6) (.i (.var 7) (.i (.var 8) (.i (.var 9) (.i (.fn 181 (.i (.var 0) (.i (.var 1) (.i (.var 2) (.i (.var 3) (.i (.var 4) (.x (.var 5) .nil))))))) (.i (.fn 182 (.i (.var 0) (.i (.var 1) (.i (.var 2) (.i (.var 3) (.i (.var 4) (.x (.var 5) .nil))))))) (.i (.fn 183 (.i (.var 0) (.i (.var 1) (.i (.var 2) (.i (.var 3) (.i (.var 4) (.x (.var 5) .nil))))))) (.i (.fn 184 (.i (.var 0) (.i (.var 1) (.i (.var 2) (.i (.var 3) (.i (.var 4) (.x (.var 5) .nil))))))) .nil))))))))))
 (.ret ((.tup [(.one (.z (.int .i64 (.lit 0)))),(.one (.z (.int .i64 (.lit 3))))]),[],3))
 (.loop 0 9000 ⟨[(0,(.lit 0)),(1,(.lit 0)),(2,(.lit 100000))],[],[]⟩
 (.ite (.cmp .lss (.var 9000) (.var 4))
 (.loop 1 10000 ⟨[(0,(.lit 0)),(1,(.var 9001)),(2,(.var 9002))],[],[]⟩
 (.ite (.cmp .lss (.var 10000) (.var 3))
 (.ite (.cmp .eql (.fn 41 (.i (.ar .add .i64 (.var 0) (.ar .mul .i64 (.var 10000) (.var 2))) (.i (.ar .add .i64 (.ar .add .i64 (.var 0) (.ar .mul .i64 (.var 10000) (.var 2))) (.var 2)) (.i (.ar .add .i64 (.var 1) (.ar .mul .i64 (.var 9000) (.var 2))) (.i (.ar .add .i64 (.ar .add .i64 (.var 1) (.ar .mul .i64 (.var 9000) (.var 2))) (.var 2)) (.i (.var 6) (.i (.var 7) (.i (.var 8) (.i (.var 9) .nil))))))))) (.lit 0))
 (.ob (.tru (.cmp .leq (.lit 0) (.var 10001)))
 (.ob (.tru (.cmp .lss (.var 10001) (.len (.var 5))))
 (.next 1 ⟨[(0,(.ar .add .i64 (.var 10000) (.lit 1))),(1,(.ar .add .i64 (.var 10001) (.lit 1))),(2,(.mn (.var 10002) (.rd (.var 5) (.var 10001) 0)))],[],[]⟩)))
 (.next 1 ⟨[(0,(.ar .add .i64 (.var 10000) (.lit 1))),(1,(.ar .add .i64 (.var 10001) (.lit 1))),(2,(.var 10002))],[],[]⟩))
 (.next 0 ⟨[(0,(.ar .add .i64 (.var 9000) (.lit 1))),(1,(.var 10001)),(2,(.var 10002))],[],[]⟩)))
 (.ret ((.tup [(.one (.z (.int .i64 (.var 9002)))),(.one (.z (.int .i64 (.lit 0))))]),[],12)))))))
set_option maxRecDepth 100000 in
theorem b8N:T.norm 0 (call Tryz.prog b4i (Lt.of []) 200 15 (g7 0 [l8,bx]) [] 0) TT.ret=b0c:=by kernel_rfl
theorem b5s:b0c.low 1000=true:=by kernel_rfl
def b1L(sh:List Sh)(l:NL)(c:AL→B)(out:AL→Nat→Option (V×V))(args:List V)(mem:Mem)(nx:Nat):T j4:=match a0e mem sh args with
 | some al=>match out al nx with
   | some (a,b)=> .iteS (c al) (.ret (a,[(nx,.own l.e l.ks (dF l.s l.rows al) (.lit 0))],nx+1)) (.ret (b,[(nx,.own l.e l.ks (dF l.s l.rows al) (.lit 0))],nx+1))
   | none=> .stuck "new list"
 | none=> .stuck "new list"
theorem b2f{P:Program}{ρ:Env}{f:FuncId}{sh:List Sh}{l:NL}{res:List D→Value→Value}(hg:B2 P f sh [l] (fun _=>True) (fun _ ds vs u=>∃v,vs=[v]∧u=res ds v))(hf:l.ks.all CK.flat=true)
 (hs:∀a,ρ.fd l.s a=l.rows a) {c:AL→B} {out:AL→Nat→Option (V×V)}
 (hA:∀(al:AL) (nx:Nat) (a b:V) (σ':As) (v:Value),out al nx=some (a,b)→(S0.own nx (.lit 0)).den ρ σ' v→((c al).ev ρ=true→a.den ρ σ' (res (al.ev ρ) v))∧((c al).ev ρ=false→b.den ρ σ' (res (al.ev ρ) v))):i9 P ρ f (b1L sh l c out):=by
 intro args mem nx q hq hle σ W vals hr hfr hd
 unfold b1L at hq
 split at hq
 ·rename_i al ha
  split at hq
  ·rename_i oa ob hop
   have h0:∃o:V,q=(o,[(nx,.own l.e l.ks (dF l.s l.rows al) (.lit 0))],nx+1)∧∀(σ':As) (v:Value),(S0.own nx (.lit 0)).den ρ σ' v→o.den ρ σ' (res (al.ev ρ) v):=by
    rcases T.res_iteS hq with ⟨hb,hq⟩ | ⟨hb,hq⟩
    ·exact⟨oa,c9 hq,fun σ' v h=>(hA al nx oa ob σ' v hop h).1 hb⟩
    ·exact⟨ob,c9 hq,fun σ' v h=>(hA al nx oa ob σ' v hop h).2 hb⟩
   obtain⟨o,rfl,hout⟩:=h0
   have hc:=hg W W vals (al.ev ρ) (Below.refl _ _) (a0u hr sh args al ha vals hd) trivial
   have hw:CallsIn Fence.wide 0 P f vals.toArray W _:=callsIn_wide.2 hc
   refine CallsIn.mono (F:=FR none) hw ?_
   rintro en W' ⟨vs,u,rfl,⟨v,rfl,rfl⟩,hb,hn⟩
   obtain⟨xs,h1,h2,h3,⟨a,c,rfl⟩,h5⟩:=hn.each 0 l _ rfl rfl
   have hnx:=hfr nx (Nat.le_refl _) (Nat.lt_succ_self _)
   have hnone:∀k,σ.h nx k= .none:=fun k=>by
    cases hk:σ.h nx k with
    | none=>rfl
    | some y=>exact absurd (.inr ⟨k,y,hk⟩) hnx
   have hx:=b7K (ρ:=ρ) (s:=l.s) (f:=l.rows) hs al
   have hstep:=Q4 (ρ:=ρ) (σ:=σ) (W:=W) (id:=nx) (t:=l.e) (ks:=l.ks) (x:=dF l.s l.rows al) (ver:= .lit 0) (v:= .slice .none 0 0) (W':=W') (xs:=xs) (fun i a hi=>hr.lt i a hi) (hnone _) (fun u _=>hnone u) hr.inj (fun k hk=>by cases hk)
    (by
     rw[hx]
     exact⟨h1.base hr.base.size,hb.os,hb.tape,hb.output,hb.size,fun k hk _=>hb.block k hk,fun k hk=> .inr (h5 k hk),Keep.of_eq (fun k hk=>hb.block k hk),a,c,rfl⟩)
    (by rw[hx];exact fun i row hi=>a1j hf (h2.2 i row hi)) (by rw[hx];exact h3)
   exact⟨_,_,rfl,hout _ _ ⟨⟨a,_,c,rfl⟩,As.say_self⟩,hstep,fun i hi=>(O9 hi).imp (fun h=>h) (fun h=>⟨by omega,by show i<nx+1;omega⟩)⟩
  ·exact hq.elim
 ·exact hq.elim
def X6(x y s w h:Int)(v:Value)(e:Int):Value:= .tuple #[.agg #[.int .i64 x,.int .i64 y,.int .i64 s,.int .i64 w,.int .i64 h,v],.int .i64 e]
theorem P4{ρ:Env}{l:NL}{ds:List D}{w0:World}{ws:Mem}{s:S0}{x:X}{e1 e2 e3 e4 e5 e:E}{U:Value→Value}(h1:A0 ws l.e l.ks s=some x)(h2:x.ev ρ=l.rows ds)(h3:∀v,U v=X6 (e1.ev ρ) (e2.ev ρ) (e3.ev ρ) (e4.ev ρ) (e5.ev ρ) v (e.ev ρ)):
 ∃s' x',A0 ws l.e l.ks s'=some x'∧x'.ev ρ=l.rows ds∧∀(σ:As) u,ρ.w=w0→(V.tup [.agg [.z (.int .i64 e1),.z (.int .i64 e2),.z (.int .i64 e3),.z (.int .i64 e4),.z (.int .i64 e5),.z s],.one (.z (.int .i64 e))]).den ρ σ u→∃v,s'.den ρ σ v∧u=U v:=by
 refine⟨s,x,h1,h2,fun σ u _ hd=> ?_⟩
 obtain⟨vs,hv,rfl⟩:=hd
 obtain⟨v1,r1,rfl,k1,k2⟩:=DL.cons_inv hv
 obtain⟨v2,r2,rfl,k3,k4⟩:=DL.cons_inv k2
 obtain rfl:=DL.nil_inv k4
 obtain⟨us,k5,rfl⟩:=k1
 obtain⟨a1,s1,rfl,f1,k5⟩:=DL.cons_inv k5
 obtain⟨a2,s2,rfl,f2,k5⟩:=DL.cons_inv k5
 obtain⟨a3,s3,rfl,f3,k5⟩:=DL.cons_inv k5
 obtain⟨a4,s4,rfl,f4,k5⟩:=DL.cons_inv k5
 obtain⟨a5,s5,rfl,f5,k5⟩:=DL.cons_inv k5
 obtain⟨a6,s6,rfl,f6,k5⟩:=DL.cons_inv k5
 obtain rfl:=DL.nil_inv k5
 have f1:a1= .int .i64 (e1.ev ρ):=f1
 have f2:a2= .int .i64 (e2.ev ρ):=f2
 have f3:a3= .int .i64 (e3.ev ρ):=f3
 have f4:a4= .int .i64 (e4.ev ρ):=f4
 have f5:a5= .int .i64 (e5.ev ρ):=f5
 have k3:v2= .int .i64 (e.ev ρ):=k3
 exact⟨a6,f6,by rw[h3,f1,f2,f3,f4,f5,k3];rfl⟩
theorem y3{n:Nat}(h:n≤1000000):IntKind.i64.wrap (n:Int)=n:=b8 _ (by omega) (by omega)
def N0(W k c:Nat):Nat:=c % W/k+c/W/k*(W/k)
def O7(W H k:Nat)(D:List Int):Nat→List Int
 | 0=>List.replicate (W/k*(H/k)) 100000
 | c+1=>(O7 W H k D c).set (N0 W k c) (min (Grid.at_ (O7 W H k D c) (N0 W k c)) (Grid.at_ D c))
theorem a6o(W H k:Nat)(D:List Int):∀c,(O7 W H k D c).length=W/k*(H/k)
 | 0=>by simp [O7]
 | c+1=>by simp [O7,a6o W H k D c]
def R0(ds:List D):Bool:=Z3 ds&&decide (1≤a7 ds 6∧a7 ds 6≤64∧(a7 ds 3).tmod (a7 ds 6)=0∧(a7 ds 4).tmod (a7 ds 6)=0∧a7 ds 6*a7 ds 2≤100000)
def coE(ds:List D):Int:=if R0 ds=true then 0 else 1
def coR(ds:List D):Rows:=if R0 ds=true then g0 (O7 (a7 ds 3).toNat (a7 ds 4).toNat (a7 ds 6).toNat (g8 (b9 ds 5)) ((a7 ds 3).toNat*(a7 ds 4).toNat)) else []
def coV(ds:List D)(v:Value):Value:=if R0 ds=true then X6 (a7 ds 0) (a7 ds 1) (a7 ds 6*a7 ds 2) ((a7 ds 3).tdiv (a7 ds 6)) ((a7 ds 4).tdiv (a7 ds 6)) v 0 else X6 0 0 0 0 0 v 1
def F3:NL:=⟨3,[.int .i64],5,coR⟩
theorem b3S{W H k c:Nat}(hk:0<k)(hW:k∣W)(hH:k∣H)(hw:0<W)(hc:c<W*H):N0 W k c<W/k*(H/k):=by
 obtain⟨a,rfl⟩:=hW
 obtain⟨b,rfl⟩:=hH
 unfold N0
 rw[Nat.mul_div_cancel_left a hk,Nat.mul_div_cancel_left b hk]
 have h1:c % (k*a)/k<a:=by
  rw[Nat.div_lt_iff_lt_mul hk,Nat.mul_comm a k]
  exact Nat.mod_lt _ hw
 have h2:c/(k*a)/k<b:=by
  rw[Nat.div_lt_iff_lt_mul hk,Nat.div_lt_iff_lt_mul hw]
  have e:b*k*(k*a)=k*a*(k*b):=by rw[Nat.mul_comm b k,Nat.mul_comm]
  omega
 have h3:c/(k*a)/k*a+a≤b*a:=by
  have:=Nat.mul_le_mul_right a (show c/(k*a)/k+1≤b by omega)
  rw[Nat.add_mul,Nat.one_mul] at this
  exact this
 rw[Nat.mul_comm a b]
 omega
theorem b6Z(W:World)(ds l:List D):(a9 y6 W ds).fb 150 l=Z3 l:=by simp only[a9,y6,B4,B3]
theorem c0C(W:World)(ds l:List D):(a9 y6 W ds).fb 31 l=S4 l:=by simp only[a9,y6,B4,B3,w8,K82,W8,I9,R5,T2,L4,E6,L6,M0,F4,B8,KI,KH,KG,KF,KE,KD,KC,KB,KA,K9,K8,K7,K6,K5,K]
theorem c8X(W:World)(ds l:List D):(a9 y6 W ds).fb 180 l=frL l:=by simp only[a9,y6]
set_option maxHeartbeats 2000000 in
theorem b7s:B2 Tryz.prog 13 [l8,it] [F3] (fun _=>True) (fun _ ds vs u=>∃v,vs=[v]∧u=coV ds v):=by
 refine A4 y6 (by kernel_rfl) (fun ρ h=>a6x (Sees.of h 190) (SeesD.of h 5)) (by kernel_rfl) b5Z b2S (by decide) (fun w0 vals ds hr _=> ?_)
 have hwf:=N9 (C3 hr) (j:=5) rfl
 have hR:F3.rows ds=if R0 ds=true then g0 (O7 (a7 ds 3).toNat (a7 ds 4).toNat (a7 ds 6).toNat (g8 (b9 ds 5)) ((a7 ds 3).toNat*(a7 ds 4).toNat)) else []:=rfl
 have hV:∀v,coV ds v=if R0 ds=true then X6 (a7 ds 0) (a7 ds 1) (a7 ds 6*a7 ds 2) ((a7 ds 3).tdiv (a7 ds 6)) ((a7 ds 4).tdiv (a7 ds 6)) v 0 else X6 0 0 0 0 0 v 1:=fun _=>rfl
 have hO:R0 ds=(F5 (a7 ds 0) (a7 ds 1) (a7 ds 2) (a7 ds 3) (a7 ds 4) (b9 ds 5)&&decide (1≤a7 ds 6∧a7 ds 6≤64∧(a7 ds 3).tmod (a7 ds 6)=0∧(a7 ds 4).tmod (a7 ds 6)=0∧a7 ds 6*a7 ds 2≤100000)):=rfl
 have bad:∀ {ρ:Env} {ws:Mem},R0 ds=false→∃s' x',A0 ws F3.e F3.ks s'=some x'∧x'.ev ρ=F3.rows ds∧∀(σ:As) u,ρ.w=w0→(V.tup [.agg [.z (.int .i64 (.lit 0)),.z (.int .i64 (.lit 0)),.z (.int .i64 (.lit 0)),.z (.int .i64 (.lit 0)),.z (.int .i64 (.lit 0)),.z (.const (.slice none 0 0))],.one (.z (.int .i64 (.lit 1)))]).den ρ σ u→∃v,s'.den ρ σ v∧u=coV ds v:=fun h=>by
  rw[h] at hR
  exact P4 (x:= .nil) rfl (by rw[hR];rfl) (fun v=>by rw[hV,h];rfl)
 clear hr
 simp only[a7E,g9,Nat.reduceBEq,Nat.reduceLT,Nat.reduceSub,b6Z,I5]
 generalize e0:a7 ds 0=x at*
 generalize e1:a7 ds 1=y at*
 generalize e2:a7 ds 2=s at*
 generalize e3:a7 ds 3=w at*
 generalize e4:a7 ds 4=h at*
 generalize e5:b9 ds 5=r at*
 generalize e6:a7 ds 6=k at*
 refine⟨fun hg=>bad (by rw[hO,hg,Bool.false_and]),fun hg=>⟨fun q=>bad (by rw[hO,decide_eq_false (by omega),Bool.and_false]),fun q1=>⟨fun q=>bad (by rw[hO,decide_eq_false (by omega),Bool.and_false]),fun q2=>⟨by omega,fun q=>bad (by rw[hO,decide_eq_false (fun z=>q z.2.2.1),Bool.and_false]),fun q3=>⟨by omega,fun q=>bad (by rw[hO,decide_eq_false (fun z=>q z.2.2.2.1),Bool.and_false]),fun q4=>⟨fun q=>bad ?_,fun q5=> ?_⟩⟩⟩⟩⟩⟩
 ·have p1:=o5 (a:=k) (b:=s) (m:=64) (n:=100000) (by omega) (by have:=(z9 hg).1;unfold s8 at this;omega) (by omega) (by have:=(z9 hg).1;unfold s8 at this;omega)
  rw[b8 (k*s) (by omega) (by omega)] at q
  rw[hO,decide_eq_false (by omega),Bool.and_false]
 ·obtain⟨hf,hl,hcell⟩:=z9 hg
  unfold s8 at hf
  obtain⟨⟨hs,hw,hh⟩,_⟩:=hf
  have p1:=o5 (a:=k) (b:=s) (m:=64) (n:=100000) (by omega) (by omega) (by omega) (by omega)
  have ews:IntKind.i64.wrap (k*s)=k*s:=b8 (k*s) (by omega) (by omega)
  rw[ews] at q5
  have hok:R0 ds=true:=by rw[hO,hg,decide_eq_true (by omega)];rfl
  rw[hok] at hR hV
  simp only[if_true] at hR hV
  obtain⟨W,rfl⟩:=Int.eq_ofNat_of_zero_le (a:=w) (by omega)
  obtain⟨H,rfl⟩:=Int.eq_ofNat_of_zero_le (a:=h) (by omega)
  obtain⟨K,rfl⟩:=Int.eq_ofNat_of_zero_le (a:=k) (by omega)
  have hn:r.length=W*H:=by
   have:(r.length:Int)=((W*H:Nat):Int):=by rw[hl];simp
   omega
  have hWH:W*H≤64*64:=Nat.mul_le_mul (by omega) (by omega)
  have hW:0<W:=by omega
  have hK:0<K:=by omega
  have dW:K∣W:=by
   have e:(W:Int).tmod K=((W % K:Nat):Int):=rfl
   have:=Classical.not_not.1 q3
   rw[e] at this
   exact Nat.dvd_of_mod_eq_zero (by omega)
  have dH:K∣H:=by
   have e:(H:Int).tmod K=((H % K:Nat):Int):=rfl
   have:=Classical.not_not.1 q4
   rw[e] at this
   exact Nat.dvd_of_mod_eq_zero (by omega)
  have hWK:W/K≤64:=Nat.le_trans (Nat.div_le_self _ _) (by omega)
  have hHK:H/K≤64:=Nat.le_trans (Nat.div_le_self _ _) (by omega)
  have hP:W/K*(H/K)≤64*64:=Nat.mul_le_mul hWK hHK
  have eW:IntKind.i64.wrap ((W:Int).tdiv K)=((W/K:Nat):Int):=by
   exact y3 (Nat.le_trans hWK (by decide))
  have eH:IntKind.i64.wrap ((H:Int).tdiv K)=((H/K:Nat):Int):=by
   exact y3 (Nat.le_trans hHK (by decide))
  have eP:IntKind.i64.wrap (((W/K:Nat):Int)*((H/K:Nat):Int))=((W/K*(H/K):Nat):Int):=by
   rw[←Int.natCast_mul]
   exact y3 (Nat.le_trans hP (by decide))
  rw[eW,eH,eP]
  refine⟨by omega,by omega,by omega,by omega,?_⟩
  simp only[Int.toNat_natCast] at hR
  refine TT.sat_loop (fun v=>∃c:Nat,v.i 0=c∧c≤W*H∧v.d 1=g0 (O7 W H K (g8 r) c)) (fun v=>W*H-(v.i 0).toNat)
   ⟨0,by simp [j5,i8,E.ev],by omega,?_⟩ (fun v hv=> ?_)
  ·simp only[D4,i8,beq_self_eq_true,if_true,X.ev,AL.ev,E.ev,y9,w6,e3,e4,e6,eW,eH,eP,Int.toNat_natCast]
   exact a1i _ _
  obtain⟨c,c0,c1,c2⟩:=hv
  have hcl:=a6o W H K (g8 r) c
  simp only[g9,Nat.reduceBEq,Nat.reduceLT,Nat.reduceSub,c0,c2,e0,e1,e2,e3,e4,e5,e6,hn,s7,hcl]
  refine⟨fun hc=> ?_,fun hc=> ?_⟩
  ·have hcc:c<W*H:=by omega
   have hix:=b3S hK dW dH hW hcc
   have a1:c % W<W:=Nat.mod_lt _ hW
   have a2:c % W/K≤c % W:=Nat.div_le_self _ _
   have a3:c/W≤c:=Nat.div_le_self _ _
   have a4:c/W/K≤c/W:=Nat.div_le_self _ _
   have x1:IntKind.i64.wrap (((c:Int).tmod W).tdiv K)=((c % W/K:Nat):Int):=by
    exact y3 (Nat.le_trans a2 (by omega))
   have x2:IntKind.i64.wrap ((c:Int).tdiv W)=((c/W:Nat):Int):=by
    exact y3 (Nat.le_trans a3 (by omega))
   have x3:IntKind.i64.wrap (((c/W:Nat):Int).tdiv K)=((c/W/K:Nat):Int):=by
    exact y3 (Nat.le_trans a4 (Nat.le_trans a3 (by omega)))
   have x4:IntKind.i64.wrap (((c/W/K:Nat):Int)*((W/K:Nat):Int))=((c/W/K*(W/K):Nat):Int):=by
    have:c/W/K*(W/K)≤4096*64:=Nat.mul_le_mul (Nat.le_trans a4 (Nat.le_trans a3 (by omega))) hWK
    rw[←Int.natCast_mul]
    exact y3 (Nat.le_trans this (by decide))
   have x5:IntKind.i64.wrap (((c % W/K:Nat):Int)+((c/W/K*(W/K):Nat):Int))=((N0 W K c:Nat):Int):=by
    rw[←Int.natCast_add]
    exact y3 (Nat.le_trans (Nat.le_of_lt hix) (Nat.le_trans hP (by decide)))
   have x6:IntKind.i64.wrap ((c:Int)+1)=((c+1:Nat):Int):=by rw[b8 _ (by omega) (by omega)];omega
   rw[x1,x2,x3,eW,x4,x5,x6,y8 (by omega),C6 (by omega),P6]
   exact⟨by omega,by omega,by omega,by omega,by omega,by omega,by omega,by omega,⟨c+1,rfl,by omega,rfl⟩,by rw[Int.toNat_natCast,Int.toNat_natCast];omega⟩
  ·have hcn:c=W*H:=by omega
   refine P4 (x:= .var 6001) (by kernel_rfl) ?_ (fun v=> ?_)
   ·rw[hR]
    simp only[X.ev,x7,g9,Nat.reduceBEq,Nat.reduceLT,Nat.reduceSub,c2]
    rw[hcn]
   ·rw[hV]
    simp only[g9,Nat.reduceBEq,Nat.reduceLT,Nat.reduceSub,e0,e1,e2,e3,e4,e6,ews,eW,eH]
    rfl
def cX(x s:Int)(W c:Nat):Int:=x+((c % W:Nat):Int)*s
def cY(y s:Int)(W c:Nat):Int:=y+((c/W:Nat):Int)*s
def mtC(x y s:Int)(W c:Nat)(b1 b2 b3 b4:Int):Bool:=decide (max (cX x s W c) b1≤min (cX x s W c+s) b2∧max (cY y s W c) b3≤min (cY y s W c+s) b4)
def lsN(x y s:Int)(W:Nat)(D:List Int)(b1 b2 b3 b4:Int):Nat→Int
 | 0=>100000
 | c+1=>if mtC x y s W c b1 b2 b3 b4=true then min (lsN x y s W D b1 b2 b3 b4 c) (Grid.at_ D c) else lsN x y s W D b1 b2 b3 b4 c
def lsO(ds:List D):Bool:=Z3 ds&&o8 (a7 ds 6) (a7 ds 7) (a7 ds 8) (a7 ds 9)
def lsW(ds:List D):Bool:=decide (a7 ds 0≤a7 ds 6∧a7 ds 7≤a7 ds 0+a7 ds 3*a7 ds 2∧a7 ds 1≤a7 ds 8∧a7 ds 9≤a7 ds 1+a7 ds 4*a7 ds 2)
def lsE(ds:List D):Int:=if lsO ds=true then(if lsW ds=true then 0 else 3) else 1
def lsR(ds:List D):Int:=if lsE ds=0 then lsN (a7 ds 0) (a7 ds 1) (a7 ds 2) (a7 ds 3).toNat (g8 (b9 ds 5)) (a7 ds 6) (a7 ds 7) (a7 ds 8) (a7 ds 9) ((a7 ds 3).toNat*(a7 ds 4).toNat) else 0
theorem b0O(a b c d e f g h:Int):H6 [.i a,.i b,.i c,.i d,.i e,.i f,.i g,.i h]=(o8 a b c d&&o8 e f g h&&decide (e≤a∧b≤f∧g≤c∧d≤h)):=rfl
theorem c8g(a b c d e f g h:Int):a0J [.i a,.i b,.i c,.i d,.i e,.i f,.i g,.i h]=if (o8 a b c d&&o8 e f g h&&decide (max a e≤min b f∧max c g≤min d h))=true then 0 else if (o8 a b c d&&o8 e f g h)=true then 4 else 1:=rfl
theorem c1Z{x y s:Int}{W c:Nat}{b1 b2 b3 b4:Int}(hc:o8 (cX x s W c) (cX x s W c+s) (cY y s W c) (cY y s W c+s)=true)(hb:o8 b1 b2 b3 b4=true):
 a0J [.i (cX x s W c),.i (cX x s W c+s),.i (cY y s W c),.i (cY y s W c+s),.i b1,.i b2,.i b3,.i b4]=0↔mtC x y s W c b1 b2 b3 b4=true:=by
 rw[c8g,hc,hb]
 unfold mtC
 simp only[Bool.true_and]
 by_cases q:(max (cX x s W c) b1≤min (cX x s W c+s) b2∧max (cY y s W c) b3≤min (cY y s W c+s) b4)
 ·rw[decide_eq_true q];simp
 ·rw[decide_eq_false q];simp
theorem d6y{x y s w h:Int}(hf:s8 x y s w h):frC x y s w h:=by
 unfold s8 at hf
 have p1:=o5 (a:=w) (b:=s) (m:=64) (n:=100000) (by omega) (by omega) (by omega) (by omega)
 have p2:=o5 (a:=h) (b:=s) (m:=64) (n:=100000) (by omega) (by omega) (by omega) (by omega)
 unfold frC
 omega
theorem c9O{x y s w h:Int}{r:Rows}(hf:s8 x y s w h):frX [.i x,.i y,.i s,.i w,.i h,.l r]=x∧a2V [.i x,.i y,.i s,.i w,.i h,.l r]=x+w*s∧frY [.i x,.i y,.i s,.i w,.i h,.l r]=y∧a2P [.i x,.i y,.i s,.i w,.i h,.l r]=y+h*s:=by
 have hk:frK [.i x,.i y,.i s,.i w,.i h,.l r]=true:=decide_eq_true (d6y hf)
 exact⟨if_pos hk,if_pos hk,if_pos hk,if_pos hk⟩
theorem a2x{W i j:Nat}(hi:i<W):(j*W+i) % W=i∧(j*W+i)/W=j:=by
 constructor
 ·rw[Nat.add_comm,Nat.add_mul_mod_self_right,Nat.mod_eq_of_lt hi]
 ·rw[Nat.add_comm,Nat.add_mul_div_right _ _ (by omega),Nat.div_eq_of_lt hi,Nat.zero_add]
theorem Z1{s:Int}{i W:Nat}(hs:1≤s)(hi:i<W):0≤(i:Int)*s∧(i:Int)*s+s≤(W:Int)*s:=by
 refine⟨Int.mul_nonneg (by omega) (by omega),?_⟩
 have:=Int.mul_le_mul_of_nonneg_right (show((i:Int)+1)≤(W:Int) by omega) (show 0≤s by omega)
 rw[Int.add_mul,Int.one_mul] at this
 exact this
theorem Q2{W H i j:Nat}(hi:i<W)(hj:j<H):j*W+i<W*H:=by
 have:=Nat.mul_le_mul_right W (show j+1≤H by omega)
 rw[Nat.add_mul,Nat.one_mul,Nat.mul_comm H W] at this
 omega
theorem d1p(W:World)(ds l:List D):(a9 y6 W ds).fb 51 l=H6 l:=by simp only[a9,y6,B4,B3,w8,K82,W8,I9,R5,T2,L4,E6,L6,M0,F4,B8,KI,KH,KG,KF,KE,KD,KC,KB,KA,K9,K8,K7,K6,K5,K]
theorem c2j(W:World)(ds l:List D):(a9 y6 W ds).fi 41 l=a0J l:=by simp only[a9,y6,B4,B3,w8,K82,W8,I9,R5,T2,L4,E6,L6,M0,F4,B8,KI,KH,KG,KF,KE,KD,KC,KB,KA,K9,K8,K7,K6,K5,K]
theorem c9m(W:World)(ds l:List D):(a9 y6 W ds).fi 181 l=frX l:=by simp only[a9,y6]
theorem c9B(W:World)(ds l:List D):(a9 y6 W ds).fi 182 l=a2V l:=by simp only[a9,y6]
theorem c9A(W:World)(ds l:List D):(a9 y6 W ds).fi 183 l=frY l:=by simp only[a9,y6]
theorem d0e(W:World)(ds l:List D):(a9 y6 W ds).fi 184 l=a2P l:=by simp only[a9,y6]
set_option maxHeartbeats 2000000 in
theorem d0C:m8 Tryz.prog 15 [l8,bx] (fun ds=> .tuple #[.int .i64 (lsR ds),.int .i64 (lsE ds)]):=by
 refine GivesIf.all (i7 y6 (by kernel_rfl) (fun ρ h=>a6x (Sees.of h 190) (SeesD.of h 5)) (by kernel_rfl) b8N b5s (by decide) (fun W0 vals ds hr _=> ?_))
 have hR:lsR ds=if lsE ds=0 then lsN (a7 ds 0) (a7 ds 1) (a7 ds 2) (a7 ds 3).toNat (g8 (b9 ds 5)) (a7 ds 6) (a7 ds 7) (a7 ds 8) (a7 ds 9) ((a7 ds 3).toNat*(a7 ds 4).toNat) else 0:=rfl
 have hE:lsE ds=if lsO ds=true then(if lsW ds=true then 0 else 3) else 1:=rfl
 have hO:lsO ds=(F5 (a7 ds 0) (a7 ds 1) (a7 ds 2) (a7 ds 3) (a7 ds 4) (b9 ds 5)&&o8 (a7 ds 6) (a7 ds 7) (a7 ds 8) (a7 ds 9)):=rfl
 have hW:lsW ds=decide (a7 ds 0≤a7 ds 6∧a7 ds 7≤a7 ds 0+a7 ds 3*a7 ds 2∧a7 ds 1≤a7 ds 8∧a7 ds 9≤a7 ds 1+a7 ds 4*a7 ds 2):=rfl
 clear hr
 simp only[b0c,g9,Nat.reduceBEq,Nat.reduceLT,Nat.reduceSub,b6Z,c0C,d1p,c2j,c9m,c9B,c9A,d0e,I5,a1V,b0O]
 generalize e0:a7 ds 0=x at*
 generalize e1:a7 ds 1=y at*
 generalize e2:a7 ds 2=s at*
 generalize e3:a7 ds 3=w at*
 generalize e4:a7 ds 4=h at*
 generalize e5:b9 ds 5=r at*
 generalize e6:a7 ds 6=b1 at*
 generalize e7:a7 ds 7=b2 at*
 generalize e8:a7 ds 8=b3 at*
 generalize e9:a7 ds 9=b4 at*
 have no:lsO ds=false→Value.tuple #[.int .i64 0,.int .i64 1]= .tuple #[.int .i64 (lsR ds),.int .i64 (lsE ds)]:=fun q=>by
  rw[q] at hE
  have hE:lsE ds=1:=hE
  rw[hE,if_neg (by decide)] at hR
  rw[hE,hR]
 refine⟨fun hg=>no (by rw[hO,hg,Bool.false_and]),fun hg=>⟨fun hb=>no (by rw[hO,hb,Bool.and_false]),fun hb=> ?_⟩⟩
 obtain⟨hf,hl,hcell⟩:=z9 hg
 obtain⟨f1,f2,f3,f4⟩:=c9O (r:=r) hf
 rw[f1,f2,f3,f4,hb]
 have hok:lsO ds=true:=by rw[hO,hg,hb];rfl
 rw[if_pos hok] at hE
 have hf':=hf
 unfold s8 at hf
 have p1:=o5 (a:=w) (b:=s) (m:=64) (n:=100000) (by omega) (by omega) (by omega) (by omega)
 have p2:=o5 (a:=h) (b:=s) (m:=64) (n:=100000) (by omega) (by omega) (by omega) (by omega)
 have hfb:o8 x (x+w*s) y (y+h*s)=true:=by unfold o8;exact decide_eq_true (by omega)
 rw[hfb]
 refine⟨fun q=> ?_,fun q=> ?_⟩
 ·have:lsW ds=false:=by rw[hW];simpa using q
  rw[this] at hE
  have hE:lsE ds=3:=hE
  rw[hE,if_neg (by decide)] at hR
  rw[hE,hR]
 have hwt:lsW ds=true:=by rw[hW];simpa using q
 rw[if_pos hwt] at hE
 rw[if_pos hE] at hR
 obtain⟨W,rfl⟩:=Int.eq_ofNat_of_zero_le (a:=w) (by omega)
 obtain⟨H,rfl⟩:=Int.eq_ofNat_of_zero_le (a:=h) (by omega)
 have hn:r.length=W*H:=by
  have:(r.length:Int)=((W*H:Nat):Int):=by rw[hl];simp
  omega
 simp only[Int.toNat_natCast] at hR
 have hWH:W*H≤64*64:=Nat.mul_le_mul (by omega) (by omega)
 have hbb:=hb
 unfold o8 at hbb
 have hbb:=of_decide_eq_true hbb
 refine TT.sat_loop (fun v=>∃j:Nat,v.i 0=j∧j≤H∧v.i 1=(j*W:Nat)∧v.i 2=lsN x y s W (g8 r) b1 b2 b3 b4 (j*W)) (fun v=>H-(v.i 0).toNat)
  ⟨0,by simp [j5,i8,E.ev],by omega,by simp [j5,i8,E.ev],by simp [j5,i8,E.ev,lsN]⟩ (fun v hv=> ?_)
 obtain⟨j,j0,j1,j2,j3⟩:=hv
 simp only[g9,Nat.reduceBEq,Nat.reduceLT,Nat.reduceSub,j0,j2,j3,e0,e1,e2,e3,e4,e5,e6,e7,e8,e9]
 refine⟨fun hj=> ?_,fun hj=> ?_⟩
 ·have hjH:j<H:=by omega
  refine TT.sat_loop (fun u=>∃i:Nat,u.i 0=i∧i≤W∧u.i 1=(j*W+i:Nat)∧u.i 2=lsN x y s W (g8 r) b1 b2 b3 b4 (j*W+i)) (fun u=>W-(u.i 0).toNat)
   ⟨0,by simp [j5,i8,E.ev],by omega,by simp [j5,i8,E.ev,F6,j2],by simp [j5,i8,E.ev,F6,j3]⟩ (fun u hu=> ?_)
  obtain⟨i,i0,i1,i2,i3⟩:=hu
  simp only[g9,Nat.reduceBEq,Nat.reduceLT,Nat.reduceSub,j0,j2,j3,i0,i2,i3,e0,e1,e2,e3,e4,e5,e6,e7,e8,e9,c2j,show((0:Nat)=1)=False from by simp,if_false]
  refine⟨fun hi=> ?_,fun hi=> ?_⟩
  ·have hiW:i<W:=by omega
   obtain⟨c1,c2⟩:=a2x (j:=j) hiW
   have hcl:=Q2 hiW hjH
   obtain⟨s1,s2⟩:=Z1 (s:=s) (by omega) hiW
   obtain⟨s3,s4⟩:=Z1 (s:=s) (by omega) hjH
   have ex:cX x s W (j*W+i)=x+(i:Int)*s:=by unfold cX;rw[c1]
   have ey:cY y s W (j*W+i)=y+(j:Int)*s:=by unfold cY;rw[c2]
   have hcb:o8 (cX x s W (j*W+i)) (cX x s W (j*W+i)+s) (cY y s W (j*W+i)) (cY y s W (j*W+i)+s)=true:=by
    rw[ex,ey];unfold o8;exact decide_eq_true (by omega)
   have hm:=c1Z hcb hb
   rw[ex,ey] at hm
   have x1:IntKind.i64.wrap ((i:Int)+1)=((i+1:Nat):Int):=by rw[b8 _ (by omega) (by omega)];omega
   have x2:IntKind.i64.wrap (((j*W+i:Nat):Int)+1)=((j*W+(i+1):Nat):Int):=by rw[b8 _ (by omega) (by omega)];omega
   rw[b8 ((i:Int)*s) (by omega) (by omega),b8 ((j:Int)*s) (by omega) (by omega),b8 (x+(i:Int)*s) (by omega) (by omega),b8 (y+(j:Int)*s) (by omega) (by omega),b8 (x+(i:Int)*s+s) (by omega) (by omega),b8 (y+(j:Int)*s+s) (by omega) (by omega),hm,x1,x2,C6 (by omega)]
   have hs:lsN x y s W (g8 r) b1 b2 b3 b4 (j*W+(i+1))=if mtC x y s W (j*W+i) b1 b2 b3 b4=true then min (lsN x y s W (g8 r) b1 b2 b3 b4 (j*W+i)) (Grid.at_ (g8 r) (j*W+i)) else lsN x y s W (g8 r) b1 b2 b3 b4 (j*W+i):=rfl
   refine⟨fun q=>⟨by omega,by omega,⟨i+1,rfl,by omega,rfl,by rw[hs,if_pos q]⟩,by rw[Int.toNat_natCast,Int.toNat_natCast];omega⟩,fun q=>⟨⟨i+1,rfl,by omega,rfl,by rw[hs,if_neg q]⟩,by rw[Int.toNat_natCast,Int.toNat_natCast];omega⟩⟩
  ·have hiW:i=W:=by omega
   subst hiW
   have x1:IntKind.i64.wrap ((j:Int)+1)=((j+1:Nat):Int):=by rw[b8 _ (by omega) (by omega)];omega
   have x2:(j+1)*i=j*i+i:=by rw[Nat.add_mul,Nat.one_mul]
   rw[x1]
   exact⟨⟨j+1,rfl,by omega,by rw[x2],by rw[x2]⟩,by rw[Int.toNat_natCast,Int.toNat_natCast];omega⟩
 ·have hjj:j=H:=by omega
  subst hjj
  rw[hR,hE,Nat.mul_comm W j]
def b4I:TT j4:=
(.ite (.not (.fn 180 (.i (.var 1) (.i (.var 2) (.i (.var 3) (.i (.var 4) (.i (.var 5) (.x .nil .nil))))))))
 (.ret ((.tup [(.agg [(.z (.int .i64 (.lit 0))),(.z (.int .i64 (.lit 0))),(.z (.int .i64 (.lit 0))),(.z (.int .i64 (.lit 0))),(.z (.int .i64 (.lit 0))),(.z (.const (.slice none 0 0)))]),(.one (.z (.int .i64 (.lit 1))))]),[],5))
 (.ite (.not (.fn 140 (.x (.var 0) .nil)))
 (.ret ((.tup [(.agg [(.z (.int .i64 (.lit 0))),(.z (.int .i64 (.lit 0))),(.z (.int .i64 (.lit 0))),(.z (.int .i64 (.lit 0))),(.z (.int .i64 (.lit 0))),(.z (.const (.slice none 0 0)))]),(.one (.z (.int .i64 (.lit 1))))]),[],5))
 (.loop 0 9000 ⟨[(0,(.lit 0)),(1,(.lit 0)),(1,(.lit 0))],[],[(2,.nil)]⟩
 (.ite (.cmp .lss (.var 9000) (.var 5))
 (.loop 1 11000 ⟨[(0,(.lit 0)),(2,(.var 9001)),(2,(.var 9001))],[],[(1,(.var 9002))]⟩
 (.ite (.cmp .lss (.var 11000) (.var 4))
 (.ite (.not (.fn 31 (.i (.ar .add .i64 (.var 1) (.ar .mul .i64 (.var 11000) (.var 3))) (.i (.ar .add .i64 (.ar .add .i64 (.var 1) (.ar .mul .i64 (.var 11000) (.var 3))) (.var 3)) (.i (.ar .add .i64 (.var 2) (.ar .mul .i64 (.var 9000) (.var 3))) (.i (.ar .add .i64 (.ar .add .i64 (.var 2) (.ar .mul .i64 (.var 9000) (.var 3))) (.var 3)) .nil))))))
 (.loop 2 15000 ⟨[(1,(.lit 100000)),(0,(.lit 0))],[],[]⟩
 (.ite (.cmp .lss (.var 15000) (.len (.var 0)))
 (.ob (.tru (.cmp .leq (.lit 0) (.var 15000)))
 (.ob (.tru (.cmp .lss (.var 15000) (.len (.var 0))))
 (.ite (.cmp .geq (.rd (.var 0) (.var 15000) 6) (.var 15001))
 (.next 2 ⟨[(1,(.var 15001)),(0,(.ar .add .i64 (.var 15000) (.lit 1)))],[],[]⟩)
 (.ite (.cmp .eql (.fn 119 (.i (.rd (.var 0) (.var 15000) 0) (.i (.rd (.var 0) (.var 15000) 1) (.i (.rd (.var 0) (.var 15000) 2) (.i (.rd (.var 0) (.var 15000) 3) (.i (.rd (.var 0) (.var 15000) 4) (.x (.rd (.var 0) (.var 15000) 5) (.i (.rd (.var 0) (.var 15000) 6) (.i (.rd (.var 0) (.var 15000) 7) (.x (.rd (.var 0) (.var 15000) 8) (.i (.lit 1) (.i (.lit 3) (.i (.lit 0) (.i (.lit 0) (.i (.lit 0) (.x .nil (.i (.lit 0) (.i (.lit 0) (.x .nil .nil))))))))))))))))))) (.lit 0))
 (.ite (.fn 120 (.i (.rd (.var 0) (.var 15000) 0) (.i (.rd (.var 0) (.var 15000) 1) (.i (.rd (.var 0) (.var 15000) 2) (.i (.rd (.var 0) (.var 15000) 3) (.i (.rd (.var 0) (.var 15000) 4) (.x (.rd (.var 0) (.var 15000) 5) (.i (.rd (.var 0) (.var 15000) 6) (.i (.rd (.var 0) (.var 15000) 7) (.x (.rd (.var 0) (.var 15000) 8) (.i (.lit 1) (.i (.lit 3) (.i (.lit 0) (.i (.lit 0) (.i (.lit 0) (.x .nil (.i (.lit 0) (.i (.lit 0) (.x .nil .nil)))))))))))))))))))
 (.next 2 ⟨[(1,(.rd (.var 0) (.var 15000) 6)),(0,(.ar .add .i64 (.var 15000) (.lit 1)))],[],[]⟩)
 (.next 2 ⟨[(1,(.var 15001)),(0,(.ar .add .i64 (.var 15000) (.lit 1)))],[],[]⟩))
 (.next 2 ⟨[(1,(.var 15001)),(0,(.ar .add .i64 (.var 15000) (.lit 1)))],[],[]⟩)))))
 (.ob (.tru (.cmp .leq (.len (.app (.var 11001) (.app (.row (.i (.var 15001) .nil)) .nil))) (.lit 1000000)))
 (.next 1 ⟨[(0,(.ar .add .i64 (.var 11000) (.lit 1))),(2,(.plus (.var 11002) (.lit 1))),(2,(.plus (.var 11002) (.lit 1)))],[],[(1,(.app (.var 11001) (.app (.row (.i (.var 15001) .nil)) .nil)))]⟩))))
 (.ite (.cmp .eql (.ar .add .i64 (.var 1) (.ar .mul .i64 (.var 11000) (.var 3))) (.ar .add .i64 (.ar .add .i64 (.var 1) (.ar .mul .i64 (.var 11000) (.var 3))) (.var 3)))
 (.loop 2 15000 ⟨[(1,(.lit 100000)),(0,(.lit 0))],[],[]⟩
 (.ite (.cmp .lss (.var 15000) (.len (.var 0)))
 (.ob (.tru (.cmp .leq (.lit 0) (.var 15000)))
 (.ob (.tru (.cmp .lss (.var 15000) (.len (.var 0))))
 (.ite (.cmp .geq (.rd (.var 0) (.var 15000) 6) (.var 15001))
 (.next 2 ⟨[(1,(.var 15001)),(0,(.ar .add .i64 (.var 15000) (.lit 1)))],[],[]⟩)
 (.ite (.cmp .eql (.fn 119 (.i (.rd (.var 0) (.var 15000) 0) (.i (.rd (.var 0) (.var 15000) 1) (.i (.rd (.var 0) (.var 15000) 2) (.i (.rd (.var 0) (.var 15000) 3) (.i (.rd (.var 0) (.var 15000) 4) (.x (.rd (.var 0) (.var 15000) 5) (.i (.rd (.var 0) (.var 15000) 6) (.i (.rd (.var 0) (.var 15000) 7) (.x (.rd (.var 0) (.var 15000) 8) (.i (.lit 1) (.i (.lit 3) (.i (.lit 0) (.i (.lit 0) (.i (.lit 0) (.x .nil (.i (.lit 0) (.i (.lit 0) (.x .nil .nil))))))))))))))))))) (.lit 0))
 (.ite (.fn 120 (.i (.rd (.var 0) (.var 15000) 0) (.i (.rd (.var 0) (.var 15000) 1) (.i (.rd (.var 0) (.var 15000) 2) (.i (.rd (.var 0) (.var 15000) 3) (.i (.rd (.var 0) (.var 15000) 4) (.x (.rd (.var 0) (.var 15000) 5) (.i (.rd (.var 0) (.var 15000) 6) (.i (.rd (.var 0) (.var 15000) 7) (.x (.rd (.var 0) (.var 15000) 8) (.i (.lit 1) (.i (.lit 3) (.i (.lit 0) (.i (.lit 0) (.i (.lit 0) (.x .nil (.i (.lit 0) (.i (.lit 0) (.x .nil .nil)))))))))))))))))))
 (.next 2 ⟨[(1,(.rd (.var 0) (.var 15000) 6)),(0,(.ar .add .i64 (.var 15000) (.lit 1)))],[],[]⟩)
 (.next 2 ⟨[(1,(.var 15001)),(0,(.ar .add .i64 (.var 15000) (.lit 1)))],[],[]⟩))
 (.next 2 ⟨[(1,(.var 15001)),(0,(.ar .add .i64 (.var 15000) (.lit 1)))],[],[]⟩)))))
 (.ob (.tru (.cmp .leq (.len (.app (.var 11001) (.app (.row (.i (.var 15001) .nil)) .nil))) (.lit 1000000)))
 (.next 1 ⟨[(0,(.ar .add .i64 (.var 11000) (.lit 1))),(2,(.plus (.var 11002) (.lit 1))),(2,(.plus (.var 11002) (.lit 1)))],[],[(1,(.app (.var 11001) (.app (.row (.i (.var 15001) .nil)) .nil)))]⟩))))
 (.ite (.cmp .eql (.ar .add .i64 (.var 2) (.ar .mul .i64 (.var 9000) (.var 3))) (.ar .add .i64 (.ar .add .i64 (.var 2) (.ar .mul .i64 (.var 9000) (.var 3))) (.var 3)))
 (.loop 2 15000 ⟨[(1,(.lit 100000)),(0,(.lit 0))],[],[]⟩
 (.ite (.cmp .lss (.var 15000) (.len (.var 0)))
 (.ob (.tru (.cmp .leq (.lit 0) (.var 15000)))
 (.ob (.tru (.cmp .lss (.var 15000) (.len (.var 0))))
 (.ite (.cmp .geq (.rd (.var 0) (.var 15000) 6) (.var 15001))
 (.next 2 ⟨[(1,(.var 15001)),(0,(.ar .add .i64 (.var 15000) (.lit 1)))],[],[]⟩)
 (.ite (.cmp .eql (.fn 119 (.i (.rd (.var 0) (.var 15000) 0) (.i (.rd (.var 0) (.var 15000) 1) (.i (.rd (.var 0) (.var 15000) 2) (.i (.rd (.var 0) (.var 15000) 3) (.i (.rd (.var 0) (.var 15000) 4) (.x (.rd (.var 0) (.var 15000) 5) (.i (.rd (.var 0) (.var 15000) 6) (.i (.rd (.var 0) (.var 15000) 7) (.x (.rd (.var 0) (.var 15000) 8) (.i (.lit 1) (.i (.lit 3) (.i (.lit 0) (.i (.lit 0) (.i (.lit 0) (.x .nil (.i (.lit 0) (.i (.lit 0) (.x .nil .nil))))))))))))))))))) (.lit 0))
 (.ite (.fn 120 (.i (.rd (.var 0) (.var 15000) 0) (.i (.rd (.var 0) (.var 15000) 1) (.i (.rd (.var 0) (.var 15000) 2) (.i (.rd (.var 0) (.var 15000) 3) (.i (.rd (.var 0) (.var 15000) 4) (.x (.rd (.var 0) (.var 15000) 5) (.i (.rd (.var 0) (.var 15000) 6) (.i (.rd (.var 0) (.var 15000) 7) (.x (.rd (.var 0) (.var 15000) 8) (.i (.lit 1) (.i (.lit 3) (.i (.lit 0) (.i (.lit 0) (.i (.lit 0) (.x .nil (.i (.lit 0) (.i (.lit 0) (.x .nil .nil)))))))))))))))))))
 (.next 2 ⟨[(1,(.rd (.var 0) (.var 15000) 6)),(0,(.ar .add .i64 (.var 15000) (.lit 1)))],[],[]⟩)
 (.next 2 ⟨[(1,(.var 15001)),(0,(.ar .add .i64 (.var 15000) (.lit 1)))],[],[]⟩))
 (.next 2 ⟨[(1,(.var 15001)),(0,(.ar .add .i64 (.var 15000) (.lit 1)))],[],[]⟩)))))
 (.ob (.tru (.cmp .leq (.len (.app (.var 11001) (.app (.row (.i (.var 15001) .nil)) .nil))) (.lit 1000000)))
 (.next 1 ⟨[(0,(.ar .add .i64 (.var 11000) (.lit 1))),(2,(.plus (.var 11002) (.lit 1))),(2,(.plus (.var 11002) (.lit 1)))],[],[(1,(.app (.var 11001) (.app (.row (.i (.var 15001) .nil)) .nil)))]⟩))))
 (.loop 2 16000 ⟨[(1,(.lit 100000)),(0,(.lit 0))],[],[]⟩
 (.ite (.cmp .lss (.var 16000) (.len (.var 0)))
 (.ob (.tru (.cmp .leq (.lit 0) (.var 16000)))
 (.ob (.tru (.cmp .lss (.var 16000) (.len (.var 0))))
 (.ite (.cmp .geq (.rd (.var 0) (.var 16000) 6) (.var 16001))
 (.next 2 ⟨[(1,(.var 16001)),(0,(.ar .add .i64 (.var 16000) (.lit 1)))],[],[]⟩)
 (.ite (.cmp .eql (.fn 119 (.i (.rd (.var 0) (.var 16000) 0) (.i (.rd (.var 0) (.var 16000) 1) (.i (.rd (.var 0) (.var 16000) 2) (.i (.rd (.var 0) (.var 16000) 3) (.i (.rd (.var 0) (.var 16000) 4) (.x (.rd (.var 0) (.var 16000) 5) (.i (.rd (.var 0) (.var 16000) 6) (.i (.rd (.var 0) (.var 16000) 7) (.x (.rd (.var 0) (.var 16000) 8) (.i (.lit 1) (.i (.lit 3) (.i (.lit 0) (.i (.lit 0) (.i (.lit 0) (.x (.app (.row (.i (.ar .add .i64 (.var 1) (.ar .mul .i64 (.var 11000) (.var 3))) (.i (.ar .add .i64 (.var 2) (.ar .mul .i64 (.var 9000) (.var 3))) .nil))) (.app (.row (.i (.ar .add .i64 (.ar .add .i64 (.var 1) (.ar .mul .i64 (.var 11000) (.var 3))) (.var 3)) (.i (.ar .add .i64 (.var 2) (.ar .mul .i64 (.var 9000) (.var 3))) .nil))) (.app (.row (.i (.ar .add .i64 (.ar .add .i64 (.var 1) (.ar .mul .i64 (.var 11000) (.var 3))) (.var 3)) (.i (.ar .add .i64 (.ar .add .i64 (.var 2) (.ar .mul .i64 (.var 9000) (.var 3))) (.var 3)) .nil))) (.app (.row (.i (.ar .add .i64 (.var 1) (.ar .mul .i64 (.var 11000) (.var 3))) (.i (.ar .add .i64 (.ar .add .i64 (.var 2) (.ar .mul .i64 (.var 9000) (.var 3))) (.var 3)) .nil))) .nil)))) (.i (.lit 0) (.i (.lit 0) (.x .nil .nil))))))))))))))))))) (.lit 0))
 (.ite (.fn 120 (.i (.rd (.var 0) (.var 16000) 0) (.i (.rd (.var 0) (.var 16000) 1) (.i (.rd (.var 0) (.var 16000) 2) (.i (.rd (.var 0) (.var 16000) 3) (.i (.rd (.var 0) (.var 16000) 4) (.x (.rd (.var 0) (.var 16000) 5) (.i (.rd (.var 0) (.var 16000) 6) (.i (.rd (.var 0) (.var 16000) 7) (.x (.rd (.var 0) (.var 16000) 8) (.i (.lit 1) (.i (.lit 3) (.i (.lit 0) (.i (.lit 0) (.i (.lit 0) (.x (.app (.row (.i (.ar .add .i64 (.var 1) (.ar .mul .i64 (.var 11000) (.var 3))) (.i (.ar .add .i64 (.var 2) (.ar .mul .i64 (.var 9000) (.var 3))) .nil))) (.app (.row (.i (.ar .add .i64 (.ar .add .i64 (.var 1) (.ar .mul .i64 (.var 11000) (.var 3))) (.var 3)) (.i (.ar .add .i64 (.var 2) (.ar .mul .i64 (.var 9000) (.var 3))) .nil))) (.app (.row (.i (.ar .add .i64 (.ar .add .i64 (.var 1) (.ar .mul .i64 (.var 11000) (.var 3))) (.var 3)) (.i (.ar .add .i64 (.ar .add .i64 (.var 2) (.ar .mul .i64 (.var 9000) (.var 3))) (.var 3)) .nil))) (.app (.row (.i (.ar .add .i64 (.var 1) (.ar .mul .i64 (.var 11000) (.var 3))) (.i (.ar .add .i64 (.ar .add .i64 (.var 2) (.ar .mul .i64 (.var 9000) (.var 3))) (.var 3)) .nil))) .nil)))) (.i (.lit 0) (.i (.lit 0) (.x .nil .nil)))))))))))))))))))
 (.next 2 ⟨[(1,(.rd (.var 0) (.var 16000) 6)),(0,(.ar .add .i64 (.var 16000) (.lit 1)))],[],[]⟩)
 (.next 2 ⟨[(1,(.var 16001)),(0,(.ar .add .i64 (.var 16000) (.lit 1)))],[],[]⟩))
 (.next 2 ⟨[(1,(.var 16001)),(0,(.ar .add .i64 (.var 16000) (.lit 1)))],[],[]⟩)))))
 (.ob (.tru (.cmp .leq (.len (.app (.var 11001) (.app (.row (.i (.var 16001) .nil)) .nil))) (.lit 1000000)))
 (.next 1 ⟨[(0,(.ar .add .i64 (.var 11000) (.lit 1))),(2,(.plus (.var 11002) (.lit 1))),(2,(.plus (.var 11002) (.lit 1)))],[],[(1,(.app (.var 11001) (.app (.row (.i (.var 16001) .nil)) .nil)))]⟩)))))))
 (.next 0 ⟨[(0,(.ar .add .i64 (.var 9000) (.lit 1))),(1,(.var 11002)),(1,(.var 11002))],[],[(2,(.var 11001))]⟩)))
 (.ret ((.tup [(.agg [(.z (.int .i64 (.var 1))),(.z (.int .i64 (.var 2))),(.z (.int .i64 (.var 3))),(.z (.int .i64 (.var 4))),(.z (.int .i64 (.var 5))),(.z (.own 9 (.var 9001)))]),(.one (.z (.int .i64 (.lit 0))))]),[(9,(.own 3 [(.int .i64)] (.var 9002) (.var 9001)))],18))))))
def c5N:List (Nat×St):=[
(8,⟨(List.append [(.v (.one (.z (.yl 7)))),(.v (.one (.z (.ptr 5 0))))] (List.append (List.replicate 5 V.any) (List.append [(.v (.one (.z (.ptr 5 4)))),(.v (.one (.z (.int .i64 (.var 5))))),(.v (.one (.z (.int .i64 (.var 9000)))))] (List.replicate 41 V.any)))),[(9,(.own 3 [(.int .i64)] (.var 9002) (.var 9001))),(7,(.loop .ready none (List.append [(.v (.one (.z (.ext [(.int .i64),(.int .i64),(.int .i64),(.int .i64),(.int .i64),(.sl [(.int .i64),(.int .i64)]),(.int .i64),(.int .i64),(.sl [(.int .i64),(.int .i64),(.int .i64),(.int .i64),(.int .i64),(.int .i64)])] (.var 0) false)))),(.v (.agg [(.z (.int .i64 (.var 1))),(.z (.int .i64 (.var 2)))])),(.v (.one (.z (.int .i64 (.var 3))))),(.v (.one (.z (.int .i64 (.var 4))))),(.v (.one (.z (.int .i64 (.var 5))))),(.v (.one (.z (.ptr 0 0)))),(.v (.one (.z (.ptr 1 0)))),(.v (.one (.z .any))),(.v (.one (.z .any))),(.v (.one (.z .any))),(.v (.one (.z (.ptr 2 0)))),(.v (.one (.z (.int .i64 (.lit 0))))),(.v (.one (.z (.ptr 3 0)))),(.v (.one (.z (.ptr 4 0)))),(.v (.one (.z (.bool (.fn 180 (.i (.var 1) (.i (.var 2) (.i (.var 3) (.i (.var 4) (.i (.var 5) (.x .nil .nil)))))))))))] (List.append (List.replicate 9 V.any) (List.append [(.v (.agg [(.z (.int .i64 (.var 1))),(.z (.int .i64 (.var 2)))])),(.v (.one (.z (.int .i64 (.var 3))))),(.v (.one (.z (.int .i64 (.var 4))))),(.v (.one (.z (.int .i64 (.var 5))))),(.v (.agg [(.z (.int .i64 (.var 1))),(.z (.int .i64 (.var 2))),(.z (.int .i64 (.var 3))),(.z (.int .i64 (.var 4))),(.z (.int .i64 (.var 5))),(.z (.const (.slice none 0 0)))])),(.v (.one (.z .any))),(.v (.agg [(.z (.int .i64 (.var 1))),(.z (.int .i64 (.var 2))),(.z (.int .i64 (.var 3))),(.z (.int .i64 (.var 4))),(.z (.int .i64 (.var 5))),(.z (.const (.slice none 0 0)))])),(.v (.one (.z .any))),(.v (.agg [(.z (.int .i64 (.fn 181 (.i (.var 1) (.i (.var 2) (.i (.var 3) (.i (.var 4) (.i (.var 5) (.x .nil .nil))))))))),(.z (.int .i64 (.fn 182 (.i (.var 1) (.i (.var 2) (.i (.var 3) (.i (.var 4) (.i (.var 5) (.x .nil .nil))))))))),(.z (.int .i64 (.fn 183 (.i (.var 1) (.i (.var 2) (.i (.var 3) (.i (.var 4) (.i (.var 5) (.x .nil .nil))))))))),(.z (.int .i64 (.fn 184 (.i (.var 1) (.i (.var 2) (.i (.var 3) (.i (.var 4) (.i (.var 5) (.x .nil .nil)))))))))])),(.v (.one (.z (.bool (.fn 180 (.i (.var 1) (.i (.var 2) (.i (.var 3) (.i (.var 4) (.i (.var 5) (.x .nil .nil))))))))))),(.v (.one (.z (.bool (.fn 180 (.i (.var 1) (.i (.var 2) (.i (.var 3) (.i (.var 4) (.i (.var 5) (.x .nil .nil))))))))))),(.v (.one (.z (.bool (.not (.fn 180 (.i (.var 1) (.i (.var 2) (.i (.var 3) (.i (.var 4) (.i (.var 5) (.x .nil .nil)))))))))))),(.v (.one (.z (.bool (.lit false))))),(.v (.one (.z (.ext [(.int .i64),(.int .i64),(.int .i64),(.int .i64),(.int .i64),(.sl [(.int .i64),(.int .i64)]),(.int .i64),(.int .i64),(.sl [(.int .i64),(.int .i64),(.int .i64),(.int .i64),(.int .i64),(.int .i64)])] (.var 0) false)))),(.v (.one (.z (.bool (.fn 140 (.x (.var 0) .nil)))))),(.v (.one (.z (.bool (.not (.fn 140 (.x (.var 0) .nil))))))),(.v (.one (.z (.bool (.not (.fn 140 (.x (.var 0) .nil))))))),(.v (.one (.z .any))),(.v (.agg [(.z (.int .i64 (.var 1))),(.z (.int .i64 (.var 2))),(.z (.int .i64 (.var 3))),(.z (.int .i64 (.var 4))),(.z (.int .i64 (.var 5))),(.z (.const (.slice none 0 0)))])),(.v (.one (.z (.clo 58 [(5,0)]))))] (List.replicate 39 V.any)))) [] .skip .skip 6)),(6,(.dfd false)),(5,(.cells 27 [(.z (.int .i64 (.var 1))),(.z (.int .i64 (.var 2))),(.z (.int .i64 (.var 3))),(.z (.int .i64 (.var 4))),(.z (.int .i64 (.var 5))),(.z (.const (.slice none 0 0)))])),(4,(.cells 31 [(.z (.int .i64 (.fn 181 (.i (.var 1) (.i (.var 2) (.i (.var 3) (.i (.var 4) (.i (.var 5) (.x .nil .nil))))))))),(.z (.int .i64 (.fn 182 (.i (.var 1) (.i (.var 2) (.i (.var 3) (.i (.var 4) (.i (.var 5) (.x .nil .nil))))))))),(.z (.int .i64 (.fn 183 (.i (.var 1) (.i (.var 2) (.i (.var 3) (.i (.var 4) (.i (.var 5) (.x .nil .nil))))))))),(.z (.int .i64 (.fn 184 (.i (.var 1) (.i (.var 2) (.i (.var 3) (.i (.var 4) (.i (.var 5) (.x .nil .nil)))))))))])),(3,(.cells 27 [(.z (.int .i64 (.var 1))),(.z (.int .i64 (.var 2))),(.z (.int .i64 (.var 3))),(.z (.int .i64 (.var 4))),(.z (.int .i64 (.var 5))),(.z (.own 9 (.var 9001)))])),(2,(.cells 27 [(.z (.int .i64 (.lit 0))),(.z (.int .i64 (.lit 0))),(.z (.int .i64 (.lit 0))),(.z (.int .i64 (.lit 0))),(.z (.int .i64 (.lit 0))),(.z (.const (.slice none 0 0)))])),(1,(.cells 24 [(.z (.int .i64 (.var 1))),(.z (.int .i64 (.var 2)))])),(0,(.cells 22 [(.z (.ext [(.int .i64),(.int .i64),(.int .i64),(.int .i64),(.int .i64),(.sl [(.int .i64),(.int .i64)]),(.int .i64),(.int .i64),(.sl [(.int .i64),(.int .i64),(.int .i64),(.int .i64),(.int .i64),(.int .i64)])] (.var 0) false))]))],10,[]⟩),
(10,⟨(List.append [(.v (.one (.z (.yl 7)))),(.v (.one (.z (.ptr 5 0)))),(.v (.one (.z .any))),(.v (.one (.z (.int .i64 (.var 9000))))),(.v (.one (.z .any))),(.v (.one (.z .any))),(.v (.one (.z .any))),(.v (.one (.z (.ptr 5 4)))),(.v (.one (.z (.int .i64 (.var 5))))),(.v (.one (.z (.int .i64 (.var 9000))))),(.v (.one (.z (.bool (.cmp .lss (.var 9000) (.var 5)))))),(.v (.one (.z (.int .i64 (.var 9000))))),(.v (.one (.z (.ptr 5 3)))),(.v (.one (.z (.int .i64 (.var 4))))),(.v (.one (.z (.int .i64 (.var 11000)))))] (List.replicate 36 V.any)),[(9,(.own 3 [(.int .i64)] (.var 11001) (.var 11002))),(7,(.loop .ready none (List.append [(.v (.one (.z (.ext [(.int .i64),(.int .i64),(.int .i64),(.int .i64),(.int .i64),(.sl [(.int .i64),(.int .i64)]),(.int .i64),(.int .i64),(.sl [(.int .i64),(.int .i64),(.int .i64),(.int .i64),(.int .i64),(.int .i64)])] (.var 0) false)))),(.v (.agg [(.z (.int .i64 (.var 1))),(.z (.int .i64 (.var 2)))])),(.v (.one (.z (.int .i64 (.var 3))))),(.v (.one (.z (.int .i64 (.var 4))))),(.v (.one (.z (.int .i64 (.var 5))))),(.v (.one (.z (.ptr 0 0)))),(.v (.one (.z (.ptr 1 0)))),(.v (.one (.z .any))),(.v (.one (.z .any))),(.v (.one (.z .any))),(.v (.one (.z (.ptr 2 0)))),(.v (.one (.z (.int .i64 (.lit 0))))),(.v (.one (.z (.ptr 3 0)))),(.v (.one (.z (.ptr 4 0)))),(.v (.one (.z (.bool (.fn 180 (.i (.var 1) (.i (.var 2) (.i (.var 3) (.i (.var 4) (.i (.var 5) (.x .nil .nil)))))))))))] (List.append (List.replicate 9 V.any) (List.append [(.v (.agg [(.z (.int .i64 (.var 1))),(.z (.int .i64 (.var 2)))])),(.v (.one (.z (.int .i64 (.var 3))))),(.v (.one (.z (.int .i64 (.var 4))))),(.v (.one (.z (.int .i64 (.var 5))))),(.v (.agg [(.z (.int .i64 (.var 1))),(.z (.int .i64 (.var 2))),(.z (.int .i64 (.var 3))),(.z (.int .i64 (.var 4))),(.z (.int .i64 (.var 5))),(.z (.const (.slice none 0 0)))])),(.v (.one (.z .any))),(.v (.agg [(.z (.int .i64 (.var 1))),(.z (.int .i64 (.var 2))),(.z (.int .i64 (.var 3))),(.z (.int .i64 (.var 4))),(.z (.int .i64 (.var 5))),(.z (.const (.slice none 0 0)))])),(.v (.one (.z .any))),(.v (.agg [(.z (.int .i64 (.fn 181 (.i (.var 1) (.i (.var 2) (.i (.var 3) (.i (.var 4) (.i (.var 5) (.x .nil .nil))))))))),(.z (.int .i64 (.fn 182 (.i (.var 1) (.i (.var 2) (.i (.var 3) (.i (.var 4) (.i (.var 5) (.x .nil .nil))))))))),(.z (.int .i64 (.fn 183 (.i (.var 1) (.i (.var 2) (.i (.var 3) (.i (.var 4) (.i (.var 5) (.x .nil .nil))))))))),(.z (.int .i64 (.fn 184 (.i (.var 1) (.i (.var 2) (.i (.var 3) (.i (.var 4) (.i (.var 5) (.x .nil .nil)))))))))])),(.v (.one (.z (.bool (.fn 180 (.i (.var 1) (.i (.var 2) (.i (.var 3) (.i (.var 4) (.i (.var 5) (.x .nil .nil))))))))))),(.v (.one (.z (.bool (.fn 180 (.i (.var 1) (.i (.var 2) (.i (.var 3) (.i (.var 4) (.i (.var 5) (.x .nil .nil))))))))))),(.v (.one (.z (.bool (.not (.fn 180 (.i (.var 1) (.i (.var 2) (.i (.var 3) (.i (.var 4) (.i (.var 5) (.x .nil .nil)))))))))))),(.v (.one (.z (.bool (.lit false))))),(.v (.one (.z (.ext [(.int .i64),(.int .i64),(.int .i64),(.int .i64),(.int .i64),(.sl [(.int .i64),(.int .i64)]),(.int .i64),(.int .i64),(.sl [(.int .i64),(.int .i64),(.int .i64),(.int .i64),(.int .i64),(.int .i64)])] (.var 0) false)))),(.v (.one (.z (.bool (.fn 140 (.x (.var 0) .nil)))))),(.v (.one (.z (.bool (.not (.fn 140 (.x (.var 0) .nil))))))),(.v (.one (.z (.bool (.not (.fn 140 (.x (.var 0) .nil))))))),(.v (.one (.z .any))),(.v (.agg [(.z (.int .i64 (.var 1))),(.z (.int .i64 (.var 2))),(.z (.int .i64 (.var 3))),(.z (.int .i64 (.var 4))),(.z (.int .i64 (.var 5))),(.z (.const (.slice none 0 0)))])),(.v (.one (.z (.clo 58 [(5,0)]))))] (List.replicate 39 V.any)))) [] .skip .skip 6)),(6,(.dfd false)),(5,(.cells 27 [(.z (.int .i64 (.var 1))),(.z (.int .i64 (.var 2))),(.z (.int .i64 (.var 3))),(.z (.int .i64 (.var 4))),(.z (.int .i64 (.var 5))),(.z (.const (.slice none 0 0)))])),(4,(.cells 31 [(.z (.int .i64 (.fn 181 (.i (.var 1) (.i (.var 2) (.i (.var 3) (.i (.var 4) (.i (.var 5) (.x .nil .nil))))))))),(.z (.int .i64 (.fn 182 (.i (.var 1) (.i (.var 2) (.i (.var 3) (.i (.var 4) (.i (.var 5) (.x .nil .nil))))))))),(.z (.int .i64 (.fn 183 (.i (.var 1) (.i (.var 2) (.i (.var 3) (.i (.var 4) (.i (.var 5) (.x .nil .nil))))))))),(.z (.int .i64 (.fn 184 (.i (.var 1) (.i (.var 2) (.i (.var 3) (.i (.var 4) (.i (.var 5) (.x .nil .nil)))))))))])),(3,(.cells 27 [(.z (.int .i64 (.var 1))),(.z (.int .i64 (.var 2))),(.z (.int .i64 (.var 3))),(.z (.int .i64 (.var 4))),(.z (.int .i64 (.var 5))),(.z (.own 9 (.var 11002)))])),(2,(.cells 27 [(.z (.int .i64 (.lit 0))),(.z (.int .i64 (.lit 0))),(.z (.int .i64 (.lit 0))),(.z (.int .i64 (.lit 0))),(.z (.int .i64 (.lit 0))),(.z (.const (.slice none 0 0)))])),(1,(.cells 24 [(.z (.int .i64 (.var 1))),(.z (.int .i64 (.var 2)))])),(0,(.cells 22 [(.z (.ext [(.int .i64),(.int .i64),(.int .i64),(.int .i64),(.int .i64),(.sl [(.int .i64),(.int .i64)]),(.int .i64),(.int .i64),(.sl [(.int .i64),(.int .i64),(.int .i64),(.int .i64),(.int .i64),(.int .i64)])] (.var 0) false))]))],11,[]⟩),
(14,⟨(List.append [(.v (.one (.z (.ext [(.int .i64),(.int .i64),(.int .i64),(.int .i64),(.int .i64),(.sl [(.int .i64),(.int .i64)]),(.int .i64),(.int .i64),(.sl [(.int .i64),(.int .i64),(.int .i64),(.int .i64),(.int .i64),(.int .i64)])] (.var 0) false)))),(.v (.agg [(.z (.int .i64 (.var 1))),(.z (.int .i64 (.var 2)))])),(.v (.one (.z (.int .i64 (.var 3))))),(.v (.one (.z (.int .i64 (.var 4))))),(.v (.one (.z (.int .i64 (.var 5))))),(.v (.one (.z (.ptr 0 0)))),(.v (.one (.z (.ptr 1 0)))),(.v (.one (.z .any))),(.v (.one (.z .any))),(.v (.one (.z .any))),(.v (.one (.z (.ptr 2 0)))),(.v (.one (.z (.int .i64 (.lit 0))))),(.v (.one (.z (.ptr 3 0)))),(.v (.one (.z (.ptr 4 0)))),(.v (.one (.z (.bool (.fn 180 (.i (.var 1) (.i (.var 2) (.i (.var 3) (.i (.var 4) (.i (.var 5) (.x .nil .nil))))))))))),(.v (.one (.z (.ptr 11 0)))),(.v (.one (.z (.const (.slice none 0 0))))),(.v (.one (.z (.int .i64 (.lit 1))))),(.v (.one (.z (.ptr 13 0)))),(.v (.one (.z (.int .i64 (.var 15001)))))] (List.append (List.replicate 4 V.any) (List.append [(.v (.agg [(.z (.int .i64 (.var 1))),(.z (.int .i64 (.var 2)))])),(.v (.one (.z (.int .i64 (.var 3))))),(.v (.one (.z (.int .i64 (.var 4))))),(.v (.one (.z (.int .i64 (.var 5))))),(.v (.agg [(.z (.int .i64 (.var 1))),(.z (.int .i64 (.var 2))),(.z (.int .i64 (.var 3))),(.z (.int .i64 (.var 4))),(.z (.int .i64 (.var 5))),(.z (.const (.slice none 0 0)))])),(.v (.one (.z .any))),(.v (.agg [(.z (.int .i64 (.var 1))),(.z (.int .i64 (.var 2))),(.z (.int .i64 (.var 3))),(.z (.int .i64 (.var 4))),(.z (.int .i64 (.var 5))),(.z (.const (.slice none 0 0)))])),(.v (.one (.z .any))),(.v (.agg [(.z (.int .i64 (.fn 181 (.i (.var 1) (.i (.var 2) (.i (.var 3) (.i (.var 4) (.i (.var 5) (.x .nil .nil))))))))),(.z (.int .i64 (.fn 182 (.i (.var 1) (.i (.var 2) (.i (.var 3) (.i (.var 4) (.i (.var 5) (.x .nil .nil))))))))),(.z (.int .i64 (.fn 183 (.i (.var 1) (.i (.var 2) (.i (.var 3) (.i (.var 4) (.i (.var 5) (.x .nil .nil))))))))),(.z (.int .i64 (.fn 184 (.i (.var 1) (.i (.var 2) (.i (.var 3) (.i (.var 4) (.i (.var 5) (.x .nil .nil)))))))))])),(.v (.one (.z (.bool (.fn 180 (.i (.var 1) (.i (.var 2) (.i (.var 3) (.i (.var 4) (.i (.var 5) (.x .nil .nil))))))))))),(.v (.one (.z (.bool (.fn 180 (.i (.var 1) (.i (.var 2) (.i (.var 3) (.i (.var 4) (.i (.var 5) (.x .nil .nil))))))))))),(.v (.one (.z (.bool (.not (.fn 180 (.i (.var 1) (.i (.var 2) (.i (.var 3) (.i (.var 4) (.i (.var 5) (.x .nil .nil)))))))))))),(.v (.one (.z (.bool (.lit false))))),(.v (.one (.z (.ext [(.int .i64),(.int .i64),(.int .i64),(.int .i64),(.int .i64),(.sl [(.int .i64),(.int .i64)]),(.int .i64),(.int .i64),(.sl [(.int .i64),(.int .i64),(.int .i64),(.int .i64),(.int .i64),(.int .i64)])] (.var 0) false)))),(.v (.one (.z (.bool (.fn 140 (.x (.var 0) .nil)))))),(.v (.one (.z (.bool (.not (.fn 140 (.x (.var 0) .nil))))))),(.v (.one (.z (.bool (.not (.fn 140 (.x (.var 0) .nil))))))),(.v (.one (.z .any))),(.v (.agg [(.z (.int .i64 (.var 1))),(.z (.int .i64 (.var 2))),(.z (.int .i64 (.var 3))),(.z (.int .i64 (.var 4))),(.z (.int .i64 (.var 5))),(.z (.const (.slice none 0 0)))])),(.v (.one (.z (.clo 58 [(5,0)])))),(.v (.agg [(.z (.int .i64 (.ar .add .i64 (.var 1) (.ar .mul .i64 (.var 11000) (.var 3))))),(.z (.int .i64 (.ar .add .i64 (.ar .add .i64 (.var 1) (.ar .mul .i64 (.var 11000) (.var 3))) (.var 3)))),(.z (.int .i64 (.ar .add .i64 (.var 2) (.ar .mul .i64 (.var 9000) (.var 3))))),(.z (.int .i64 (.ar .add .i64 (.ar .add .i64 (.var 2) (.ar .mul .i64 (.var 9000) (.var 3))) (.var 3))))])),(.v (.one (.z .any))),(.v (.agg [(.z (.int .i64 (.ar .add .i64 (.var 1) (.ar .mul .i64 (.var 11000) (.var 3))))),(.z (.int .i64 (.ar .add .i64 (.ar .add .i64 (.var 1) (.ar .mul .i64 (.var 11000) (.var 3))) (.var 3)))),(.z (.int .i64 (.ar .add .i64 (.var 2) (.ar .mul .i64 (.var 9000) (.var 3))))),(.z (.int .i64 (.ar .add .i64 (.ar .add .i64 (.var 2) (.ar .mul .i64 (.var 9000) (.var 3))) (.var 3))))])),(.v (.one (.z .any))),(.v (.one (.z (.const (.slice none 0 0))))),(.v (.one (.z (.int .i64 (.lit 1))))),(.v (.one (.z (.const (.slice none 0 0))))),(.v (.agg [(.z (.int .i64 (.lit 1))),(.z (.int .i64 (.lit 3))),(.z (.int .i64 (.lit 0))),(.z (.int .i64 (.lit 0))),(.z (.int .i64 (.lit 0))),(.z (.const (.slice none 0 0))),(.z (.int .i64 (.lit 0))),(.z (.int .i64 (.lit 0))),(.z (.const (.slice none 0 0)))])),(.v (.one (.z (.ext [(.int .i64),(.int .i64),(.int .i64),(.int .i64),(.int .i64),(.sl [(.int .i64),(.int .i64)]),(.int .i64),(.int .i64),(.sl [(.int .i64),(.int .i64),(.int .i64),(.int .i64),(.int .i64),(.int .i64)])] (.var 0) false)))),(.v (.one (.z (.int .i64 (.len (.var 0)))))),(.v (.one (.z (.int .i64 (.var 15000)))))] (List.replicate 28 V.any)))),[(13,(.cells 67 [(.z (.int .i64 (.lit 1))),(.z (.int .i64 (.lit 3))),(.z (.int .i64 (.lit 0))),(.z (.int .i64 (.lit 0))),(.z (.int .i64 (.lit 0))),(.z (.const (.slice none 0 0))),(.z (.int .i64 (.lit 0))),(.z (.int .i64 (.lit 0))),(.z (.const (.slice none 0 0)))])),(7,(.loop .busy none (List.append [(.v (.one (.z (.ext [(.int .i64),(.int .i64),(.int .i64),(.int .i64),(.int .i64),(.sl [(.int .i64),(.int .i64)]),(.int .i64),(.int .i64),(.sl [(.int .i64),(.int .i64),(.int .i64),(.int .i64),(.int .i64),(.int .i64)])] (.var 0) false)))),(.v (.agg [(.z (.int .i64 (.var 1))),(.z (.int .i64 (.var 2)))])),(.v (.one (.z (.int .i64 (.var 3))))),(.v (.one (.z (.int .i64 (.var 4))))),(.v (.one (.z (.int .i64 (.var 5))))),(.v (.one (.z (.ptr 0 0)))),(.v (.one (.z (.ptr 1 0)))),(.v (.one (.z .any))),(.v (.one (.z .any))),(.v (.one (.z .any))),(.v (.one (.z (.ptr 2 0)))),(.v (.one (.z (.int .i64 (.lit 0))))),(.v (.one (.z (.ptr 3 0)))),(.v (.one (.z (.ptr 4 0)))),(.v (.one (.z (.bool (.fn 180 (.i (.var 1) (.i (.var 2) (.i (.var 3) (.i (.var 4) (.i (.var 5) (.x .nil .nil)))))))))))] (List.append (List.replicate 9 V.any) (List.append [(.v (.agg [(.z (.int .i64 (.var 1))),(.z (.int .i64 (.var 2)))])),(.v (.one (.z (.int .i64 (.var 3))))),(.v (.one (.z (.int .i64 (.var 4))))),(.v (.one (.z (.int .i64 (.var 5))))),(.v (.agg [(.z (.int .i64 (.var 1))),(.z (.int .i64 (.var 2))),(.z (.int .i64 (.var 3))),(.z (.int .i64 (.var 4))),(.z (.int .i64 (.var 5))),(.z (.const (.slice none 0 0)))])),(.v (.one (.z .any))),(.v (.agg [(.z (.int .i64 (.var 1))),(.z (.int .i64 (.var 2))),(.z (.int .i64 (.var 3))),(.z (.int .i64 (.var 4))),(.z (.int .i64 (.var 5))),(.z (.const (.slice none 0 0)))])),(.v (.one (.z .any))),(.v (.agg [(.z (.int .i64 (.fn 181 (.i (.var 1) (.i (.var 2) (.i (.var 3) (.i (.var 4) (.i (.var 5) (.x .nil .nil))))))))),(.z (.int .i64 (.fn 182 (.i (.var 1) (.i (.var 2) (.i (.var 3) (.i (.var 4) (.i (.var 5) (.x .nil .nil))))))))),(.z (.int .i64 (.fn 183 (.i (.var 1) (.i (.var 2) (.i (.var 3) (.i (.var 4) (.i (.var 5) (.x .nil .nil))))))))),(.z (.int .i64 (.fn 184 (.i (.var 1) (.i (.var 2) (.i (.var 3) (.i (.var 4) (.i (.var 5) (.x .nil .nil)))))))))])),(.v (.one (.z (.bool (.fn 180 (.i (.var 1) (.i (.var 2) (.i (.var 3) (.i (.var 4) (.i (.var 5) (.x .nil .nil))))))))))),(.v (.one (.z (.bool (.fn 180 (.i (.var 1) (.i (.var 2) (.i (.var 3) (.i (.var 4) (.i (.var 5) (.x .nil .nil))))))))))),(.v (.one (.z (.bool (.not (.fn 180 (.i (.var 1) (.i (.var 2) (.i (.var 3) (.i (.var 4) (.i (.var 5) (.x .nil .nil)))))))))))),(.v (.one (.z (.bool (.lit false))))),(.v (.one (.z (.ext [(.int .i64),(.int .i64),(.int .i64),(.int .i64),(.int .i64),(.sl [(.int .i64),(.int .i64)]),(.int .i64),(.int .i64),(.sl [(.int .i64),(.int .i64),(.int .i64),(.int .i64),(.int .i64),(.int .i64)])] (.var 0) false)))),(.v (.one (.z (.bool (.fn 140 (.x (.var 0) .nil)))))),(.v (.one (.z (.bool (.not (.fn 140 (.x (.var 0) .nil))))))),(.v (.one (.z (.bool (.not (.fn 140 (.x (.var 0) .nil))))))),(.v (.one (.z .any))),(.v (.agg [(.z (.int .i64 (.var 1))),(.z (.int .i64 (.var 2))),(.z (.int .i64 (.var 3))),(.z (.int .i64 (.var 4))),(.z (.int .i64 (.var 5))),(.z (.const (.slice none 0 0)))])),(.v (.one (.z (.clo 58 [(5,0)]))))] (List.replicate 39 V.any)))) [] .skip .skip 6)),(11,(.cells 31 [(.z (.int .i64 (.ar .add .i64 (.var 1) (.ar .mul .i64 (.var 11000) (.var 3))))),(.z (.int .i64 (.ar .add .i64 (.ar .add .i64 (.var 1) (.ar .mul .i64 (.var 11000) (.var 3))) (.var 3)))),(.z (.int .i64 (.ar .add .i64 (.var 2) (.ar .mul .i64 (.var 9000) (.var 3))))),(.z (.int .i64 (.ar .add .i64 (.ar .add .i64 (.var 2) (.ar .mul .i64 (.var 9000) (.var 3))) (.var 3))))])),(9,(.own 3 [(.int .i64)] (.var 11001) (.var 11002))),(6,(.dfd false)),(5,(.cells 27 [(.z (.int .i64 (.var 1))),(.z (.int .i64 (.var 2))),(.z (.int .i64 (.var 3))),(.z (.int .i64 (.var 4))),(.z (.int .i64 (.var 5))),(.z (.const (.slice none 0 0)))])),(4,(.cells 31 [(.z (.int .i64 (.fn 181 (.i (.var 1) (.i (.var 2) (.i (.var 3) (.i (.var 4) (.i (.var 5) (.x .nil .nil))))))))),(.z (.int .i64 (.fn 182 (.i (.var 1) (.i (.var 2) (.i (.var 3) (.i (.var 4) (.i (.var 5) (.x .nil .nil))))))))),(.z (.int .i64 (.fn 183 (.i (.var 1) (.i (.var 2) (.i (.var 3) (.i (.var 4) (.i (.var 5) (.x .nil .nil))))))))),(.z (.int .i64 (.fn 184 (.i (.var 1) (.i (.var 2) (.i (.var 3) (.i (.var 4) (.i (.var 5) (.x .nil .nil)))))))))])),(3,(.cells 27 [(.z (.int .i64 (.var 1))),(.z (.int .i64 (.var 2))),(.z (.int .i64 (.var 3))),(.z (.int .i64 (.var 4))),(.z (.int .i64 (.var 5))),(.z (.own 9 (.var 11002)))])),(2,(.cells 27 [(.z (.int .i64 (.lit 0))),(.z (.int .i64 (.lit 0))),(.z (.int .i64 (.lit 0))),(.z (.int .i64 (.lit 0))),(.z (.int .i64 (.lit 0))),(.z (.const (.slice none 0 0)))])),(1,(.cells 24 [(.z (.int .i64 (.var 1))),(.z (.int .i64 (.var 2)))])),(0,(.cells 22 [(.z (.ext [(.int .i64),(.int .i64),(.int .i64),(.int .i64),(.int .i64),(.sl [(.int .i64),(.int .i64)]),(.int .i64),(.int .i64),(.sl [(.int .i64),(.int .i64),(.int .i64),(.int .i64),(.int .i64),(.int .i64)])] (.var 0) false))]))],15,[]⟩),
(14,⟨(List.append [(.v (.one (.z (.ext [(.int .i64),(.int .i64),(.int .i64),(.int .i64),(.int .i64),(.sl [(.int .i64),(.int .i64)]),(.int .i64),(.int .i64),(.sl [(.int .i64),(.int .i64),(.int .i64),(.int .i64),(.int .i64),(.int .i64)])] (.var 0) false)))),(.v (.agg [(.z (.int .i64 (.var 1))),(.z (.int .i64 (.var 2)))])),(.v (.one (.z (.int .i64 (.var 3))))),(.v (.one (.z (.int .i64 (.var 4))))),(.v (.one (.z (.int .i64 (.var 5))))),(.v (.one (.z (.ptr 0 0)))),(.v (.one (.z (.ptr 1 0)))),(.v (.one (.z .any))),(.v (.one (.z .any))),(.v (.one (.z .any))),(.v (.one (.z (.ptr 2 0)))),(.v (.one (.z (.int .i64 (.lit 0))))),(.v (.one (.z (.ptr 3 0)))),(.v (.one (.z (.ptr 4 0)))),(.v (.one (.z (.bool (.fn 180 (.i (.var 1) (.i (.var 2) (.i (.var 3) (.i (.var 4) (.i (.var 5) (.x .nil .nil))))))))))),(.v (.one (.z (.ptr 11 0)))),(.v (.one (.z (.const (.slice none 0 0))))),(.v (.one (.z (.int .i64 (.lit 4))))),(.v (.one (.z (.ptr 13 0)))),(.v (.one (.z (.int .i64 (.var 15001)))))] (List.append (List.replicate 4 V.any) (List.append [(.v (.agg [(.z (.int .i64 (.var 1))),(.z (.int .i64 (.var 2)))])),(.v (.one (.z (.int .i64 (.var 3))))),(.v (.one (.z (.int .i64 (.var 4))))),(.v (.one (.z (.int .i64 (.var 5))))),(.v (.agg [(.z (.int .i64 (.var 1))),(.z (.int .i64 (.var 2))),(.z (.int .i64 (.var 3))),(.z (.int .i64 (.var 4))),(.z (.int .i64 (.var 5))),(.z (.const (.slice none 0 0)))])),(.v (.one (.z .any))),(.v (.agg [(.z (.int .i64 (.var 1))),(.z (.int .i64 (.var 2))),(.z (.int .i64 (.var 3))),(.z (.int .i64 (.var 4))),(.z (.int .i64 (.var 5))),(.z (.const (.slice none 0 0)))])),(.v (.one (.z .any))),(.v (.agg [(.z (.int .i64 (.fn 181 (.i (.var 1) (.i (.var 2) (.i (.var 3) (.i (.var 4) (.i (.var 5) (.x .nil .nil))))))))),(.z (.int .i64 (.fn 182 (.i (.var 1) (.i (.var 2) (.i (.var 3) (.i (.var 4) (.i (.var 5) (.x .nil .nil))))))))),(.z (.int .i64 (.fn 183 (.i (.var 1) (.i (.var 2) (.i (.var 3) (.i (.var 4) (.i (.var 5) (.x .nil .nil))))))))),(.z (.int .i64 (.fn 184 (.i (.var 1) (.i (.var 2) (.i (.var 3) (.i (.var 4) (.i (.var 5) (.x .nil .nil)))))))))])),(.v (.one (.z (.bool (.fn 180 (.i (.var 1) (.i (.var 2) (.i (.var 3) (.i (.var 4) (.i (.var 5) (.x .nil .nil))))))))))),(.v (.one (.z (.bool (.fn 180 (.i (.var 1) (.i (.var 2) (.i (.var 3) (.i (.var 4) (.i (.var 5) (.x .nil .nil))))))))))),(.v (.one (.z (.bool (.not (.fn 180 (.i (.var 1) (.i (.var 2) (.i (.var 3) (.i (.var 4) (.i (.var 5) (.x .nil .nil)))))))))))),(.v (.one (.z (.bool (.lit false))))),(.v (.one (.z (.ext [(.int .i64),(.int .i64),(.int .i64),(.int .i64),(.int .i64),(.sl [(.int .i64),(.int .i64)]),(.int .i64),(.int .i64),(.sl [(.int .i64),(.int .i64),(.int .i64),(.int .i64),(.int .i64),(.int .i64)])] (.var 0) false)))),(.v (.one (.z (.bool (.fn 140 (.x (.var 0) .nil)))))),(.v (.one (.z (.bool (.not (.fn 140 (.x (.var 0) .nil))))))),(.v (.one (.z (.bool (.not (.fn 140 (.x (.var 0) .nil))))))),(.v (.one (.z .any))),(.v (.agg [(.z (.int .i64 (.var 1))),(.z (.int .i64 (.var 2))),(.z (.int .i64 (.var 3))),(.z (.int .i64 (.var 4))),(.z (.int .i64 (.var 5))),(.z (.const (.slice none 0 0)))])),(.v (.one (.z (.clo 58 [(5,0)])))),(.v (.agg [(.z (.int .i64 (.ar .add .i64 (.var 1) (.ar .mul .i64 (.var 11000) (.var 3))))),(.z (.int .i64 (.ar .add .i64 (.ar .add .i64 (.var 1) (.ar .mul .i64 (.var 11000) (.var 3))) (.var 3)))),(.z (.int .i64 (.ar .add .i64 (.var 2) (.ar .mul .i64 (.var 9000) (.var 3))))),(.z (.int .i64 (.ar .add .i64 (.ar .add .i64 (.var 2) (.ar .mul .i64 (.var 9000) (.var 3))) (.var 3))))])),(.v (.one (.z .any))),(.v (.agg [(.z (.int .i64 (.ar .add .i64 (.var 1) (.ar .mul .i64 (.var 11000) (.var 3))))),(.z (.int .i64 (.ar .add .i64 (.ar .add .i64 (.var 1) (.ar .mul .i64 (.var 11000) (.var 3))) (.var 3)))),(.z (.int .i64 (.ar .add .i64 (.var 2) (.ar .mul .i64 (.var 9000) (.var 3))))),(.z (.int .i64 (.ar .add .i64 (.ar .add .i64 (.var 2) (.ar .mul .i64 (.var 9000) (.var 3))) (.var 3))))])),(.v (.one (.z .any))),(.v (.one (.z (.const (.slice none 0 0))))),(.v (.one (.z (.int .i64 (.lit 4))))),(.v (.one (.z (.const (.slice none 0 0))))),(.v (.agg [(.z (.int .i64 (.lit 1))),(.z (.int .i64 (.lit 3))),(.z (.int .i64 (.lit 0))),(.z (.int .i64 (.lit 0))),(.z (.int .i64 (.lit 0))),(.z (.const (.slice none 0 0))),(.z (.int .i64 (.lit 0))),(.z (.int .i64 (.lit 0))),(.z (.const (.slice none 0 0)))])),(.v (.one (.z (.ext [(.int .i64),(.int .i64),(.int .i64),(.int .i64),(.int .i64),(.sl [(.int .i64),(.int .i64)]),(.int .i64),(.int .i64),(.sl [(.int .i64),(.int .i64),(.int .i64),(.int .i64),(.int .i64),(.int .i64)])] (.var 0) false)))),(.v (.one (.z (.int .i64 (.len (.var 0)))))),(.v (.one (.z (.int .i64 (.var 15000)))))] (List.replicate 28 V.any)))),[(13,(.cells 67 [(.z (.int .i64 (.lit 1))),(.z (.int .i64 (.lit 3))),(.z (.int .i64 (.lit 0))),(.z (.int .i64 (.lit 0))),(.z (.int .i64 (.lit 0))),(.z (.const (.slice none 0 0))),(.z (.int .i64 (.lit 0))),(.z (.int .i64 (.lit 0))),(.z (.const (.slice none 0 0)))])),(7,(.loop .busy none (List.append [(.v (.one (.z (.ext [(.int .i64),(.int .i64),(.int .i64),(.int .i64),(.int .i64),(.sl [(.int .i64),(.int .i64)]),(.int .i64),(.int .i64),(.sl [(.int .i64),(.int .i64),(.int .i64),(.int .i64),(.int .i64),(.int .i64)])] (.var 0) false)))),(.v (.agg [(.z (.int .i64 (.var 1))),(.z (.int .i64 (.var 2)))])),(.v (.one (.z (.int .i64 (.var 3))))),(.v (.one (.z (.int .i64 (.var 4))))),(.v (.one (.z (.int .i64 (.var 5))))),(.v (.one (.z (.ptr 0 0)))),(.v (.one (.z (.ptr 1 0)))),(.v (.one (.z .any))),(.v (.one (.z .any))),(.v (.one (.z .any))),(.v (.one (.z (.ptr 2 0)))),(.v (.one (.z (.int .i64 (.lit 0))))),(.v (.one (.z (.ptr 3 0)))),(.v (.one (.z (.ptr 4 0)))),(.v (.one (.z (.bool (.fn 180 (.i (.var 1) (.i (.var 2) (.i (.var 3) (.i (.var 4) (.i (.var 5) (.x .nil .nil)))))))))))] (List.append (List.replicate 9 V.any) (List.append [(.v (.agg [(.z (.int .i64 (.var 1))),(.z (.int .i64 (.var 2)))])),(.v (.one (.z (.int .i64 (.var 3))))),(.v (.one (.z (.int .i64 (.var 4))))),(.v (.one (.z (.int .i64 (.var 5))))),(.v (.agg [(.z (.int .i64 (.var 1))),(.z (.int .i64 (.var 2))),(.z (.int .i64 (.var 3))),(.z (.int .i64 (.var 4))),(.z (.int .i64 (.var 5))),(.z (.const (.slice none 0 0)))])),(.v (.one (.z .any))),(.v (.agg [(.z (.int .i64 (.var 1))),(.z (.int .i64 (.var 2))),(.z (.int .i64 (.var 3))),(.z (.int .i64 (.var 4))),(.z (.int .i64 (.var 5))),(.z (.const (.slice none 0 0)))])),(.v (.one (.z .any))),(.v (.agg [(.z (.int .i64 (.fn 181 (.i (.var 1) (.i (.var 2) (.i (.var 3) (.i (.var 4) (.i (.var 5) (.x .nil .nil))))))))),(.z (.int .i64 (.fn 182 (.i (.var 1) (.i (.var 2) (.i (.var 3) (.i (.var 4) (.i (.var 5) (.x .nil .nil))))))))),(.z (.int .i64 (.fn 183 (.i (.var 1) (.i (.var 2) (.i (.var 3) (.i (.var 4) (.i (.var 5) (.x .nil .nil))))))))),(.z (.int .i64 (.fn 184 (.i (.var 1) (.i (.var 2) (.i (.var 3) (.i (.var 4) (.i (.var 5) (.x .nil .nil)))))))))])),(.v (.one (.z (.bool (.fn 180 (.i (.var 1) (.i (.var 2) (.i (.var 3) (.i (.var 4) (.i (.var 5) (.x .nil .nil))))))))))),(.v (.one (.z (.bool (.fn 180 (.i (.var 1) (.i (.var 2) (.i (.var 3) (.i (.var 4) (.i (.var 5) (.x .nil .nil))))))))))),(.v (.one (.z (.bool (.not (.fn 180 (.i (.var 1) (.i (.var 2) (.i (.var 3) (.i (.var 4) (.i (.var 5) (.x .nil .nil)))))))))))),(.v (.one (.z (.bool (.lit false))))),(.v (.one (.z (.ext [(.int .i64),(.int .i64),(.int .i64),(.int .i64),(.int .i64),(.sl [(.int .i64),(.int .i64)]),(.int .i64),(.int .i64),(.sl [(.int .i64),(.int .i64),(.int .i64),(.int .i64),(.int .i64),(.int .i64)])] (.var 0) false)))),(.v (.one (.z (.bool (.fn 140 (.x (.var 0) .nil)))))),(.v (.one (.z (.bool (.not (.fn 140 (.x (.var 0) .nil))))))),(.v (.one (.z (.bool (.not (.fn 140 (.x (.var 0) .nil))))))),(.v (.one (.z .any))),(.v (.agg [(.z (.int .i64 (.var 1))),(.z (.int .i64 (.var 2))),(.z (.int .i64 (.var 3))),(.z (.int .i64 (.var 4))),(.z (.int .i64 (.var 5))),(.z (.const (.slice none 0 0)))])),(.v (.one (.z (.clo 58 [(5,0)]))))] (List.replicate 39 V.any)))) [] .skip .skip 6)),(11,(.cells 31 [(.z (.int .i64 (.ar .add .i64 (.var 1) (.ar .mul .i64 (.var 11000) (.var 3))))),(.z (.int .i64 (.ar .add .i64 (.ar .add .i64 (.var 1) (.ar .mul .i64 (.var 11000) (.var 3))) (.var 3)))),(.z (.int .i64 (.ar .add .i64 (.var 2) (.ar .mul .i64 (.var 9000) (.var 3))))),(.z (.int .i64 (.ar .add .i64 (.ar .add .i64 (.var 2) (.ar .mul .i64 (.var 9000) (.var 3))) (.var 3))))])),(9,(.own 3 [(.int .i64)] (.var 11001) (.var 11002))),(6,(.dfd false)),(5,(.cells 27 [(.z (.int .i64 (.var 1))),(.z (.int .i64 (.var 2))),(.z (.int .i64 (.var 3))),(.z (.int .i64 (.var 4))),(.z (.int .i64 (.var 5))),(.z (.const (.slice none 0 0)))])),(4,(.cells 31 [(.z (.int .i64 (.fn 181 (.i (.var 1) (.i (.var 2) (.i (.var 3) (.i (.var 4) (.i (.var 5) (.x .nil .nil))))))))),(.z (.int .i64 (.fn 182 (.i (.var 1) (.i (.var 2) (.i (.var 3) (.i (.var 4) (.i (.var 5) (.x .nil .nil))))))))),(.z (.int .i64 (.fn 183 (.i (.var 1) (.i (.var 2) (.i (.var 3) (.i (.var 4) (.i (.var 5) (.x .nil .nil))))))))),(.z (.int .i64 (.fn 184 (.i (.var 1) (.i (.var 2) (.i (.var 3) (.i (.var 4) (.i (.var 5) (.x .nil .nil)))))))))])),(3,(.cells 27 [(.z (.int .i64 (.var 1))),(.z (.int .i64 (.var 2))),(.z (.int .i64 (.var 3))),(.z (.int .i64 (.var 4))),(.z (.int .i64 (.var 5))),(.z (.own 9 (.var 11002)))])),(2,(.cells 27 [(.z (.int .i64 (.lit 0))),(.z (.int .i64 (.lit 0))),(.z (.int .i64 (.lit 0))),(.z (.int .i64 (.lit 0))),(.z (.int .i64 (.lit 0))),(.z (.const (.slice none 0 0)))])),(1,(.cells 24 [(.z (.int .i64 (.var 1))),(.z (.int .i64 (.var 2)))])),(0,(.cells 22 [(.z (.ext [(.int .i64),(.int .i64),(.int .i64),(.int .i64),(.int .i64),(.sl [(.int .i64),(.int .i64)]),(.int .i64),(.int .i64),(.sl [(.int .i64),(.int .i64),(.int .i64),(.int .i64),(.int .i64),(.int .i64)])] (.var 0) false))]))],15,[]⟩),
(15,⟨(List.append [(.v (.one (.z (.ext [(.int .i64),(.int .i64),(.int .i64),(.int .i64),(.int .i64),(.sl [(.int .i64),(.int .i64)]),(.int .i64),(.int .i64),(.sl [(.int .i64),(.int .i64),(.int .i64),(.int .i64),(.int .i64),(.int .i64)])] (.var 0) false)))),(.v (.agg [(.z (.int .i64 (.var 1))),(.z (.int .i64 (.var 2)))])),(.v (.one (.z (.int .i64 (.var 3))))),(.v (.one (.z (.int .i64 (.var 4))))),(.v (.one (.z (.int .i64 (.var 5))))),(.v (.one (.z (.ptr 0 0)))),(.v (.one (.z (.ptr 1 0)))),(.v (.one (.z .any))),(.v (.one (.z .any))),(.v (.one (.z .any))),(.v (.one (.z (.ptr 2 0)))),(.v (.one (.z (.int .i64 (.lit 0))))),(.v (.one (.z (.ptr 3 0)))),(.v (.one (.z (.ptr 4 0)))),(.v (.one (.z (.bool (.fn 180 (.i (.var 1) (.i (.var 2) (.i (.var 3) (.i (.var 4) (.i (.var 5) (.x .nil .nil))))))))))),(.v (.one (.z (.ptr 11 0)))),(.v (.one (.z (.sl 13 0 4 (some 4))))),(.v (.one (.z (.int .i64 (.lit 0))))),(.v (.one (.z (.ptr 14 0)))),(.v (.one (.z (.int .i64 (.var 16001)))))] (List.append (List.replicate 4 V.any) (List.append [(.v (.agg [(.z (.int .i64 (.var 1))),(.z (.int .i64 (.var 2)))])),(.v (.one (.z (.int .i64 (.var 3))))),(.v (.one (.z (.int .i64 (.var 4))))),(.v (.one (.z (.int .i64 (.var 5))))),(.v (.agg [(.z (.int .i64 (.var 1))),(.z (.int .i64 (.var 2))),(.z (.int .i64 (.var 3))),(.z (.int .i64 (.var 4))),(.z (.int .i64 (.var 5))),(.z (.const (.slice none 0 0)))])),(.v (.one (.z .any))),(.v (.agg [(.z (.int .i64 (.var 1))),(.z (.int .i64 (.var 2))),(.z (.int .i64 (.var 3))),(.z (.int .i64 (.var 4))),(.z (.int .i64 (.var 5))),(.z (.const (.slice none 0 0)))])),(.v (.one (.z .any))),(.v (.agg [(.z (.int .i64 (.fn 181 (.i (.var 1) (.i (.var 2) (.i (.var 3) (.i (.var 4) (.i (.var 5) (.x .nil .nil))))))))),(.z (.int .i64 (.fn 182 (.i (.var 1) (.i (.var 2) (.i (.var 3) (.i (.var 4) (.i (.var 5) (.x .nil .nil))))))))),(.z (.int .i64 (.fn 183 (.i (.var 1) (.i (.var 2) (.i (.var 3) (.i (.var 4) (.i (.var 5) (.x .nil .nil))))))))),(.z (.int .i64 (.fn 184 (.i (.var 1) (.i (.var 2) (.i (.var 3) (.i (.var 4) (.i (.var 5) (.x .nil .nil)))))))))])),(.v (.one (.z (.bool (.fn 180 (.i (.var 1) (.i (.var 2) (.i (.var 3) (.i (.var 4) (.i (.var 5) (.x .nil .nil))))))))))),(.v (.one (.z (.bool (.fn 180 (.i (.var 1) (.i (.var 2) (.i (.var 3) (.i (.var 4) (.i (.var 5) (.x .nil .nil))))))))))),(.v (.one (.z (.bool (.not (.fn 180 (.i (.var 1) (.i (.var 2) (.i (.var 3) (.i (.var 4) (.i (.var 5) (.x .nil .nil)))))))))))),(.v (.one (.z (.bool (.lit false))))),(.v (.one (.z (.ext [(.int .i64),(.int .i64),(.int .i64),(.int .i64),(.int .i64),(.sl [(.int .i64),(.int .i64)]),(.int .i64),(.int .i64),(.sl [(.int .i64),(.int .i64),(.int .i64),(.int .i64),(.int .i64),(.int .i64)])] (.var 0) false)))),(.v (.one (.z (.bool (.fn 140 (.x (.var 0) .nil)))))),(.v (.one (.z (.bool (.not (.fn 140 (.x (.var 0) .nil))))))),(.v (.one (.z (.bool (.not (.fn 140 (.x (.var 0) .nil))))))),(.v (.one (.z .any))),(.v (.agg [(.z (.int .i64 (.var 1))),(.z (.int .i64 (.var 2))),(.z (.int .i64 (.var 3))),(.z (.int .i64 (.var 4))),(.z (.int .i64 (.var 5))),(.z (.const (.slice none 0 0)))])),(.v (.one (.z (.clo 58 [(5,0)])))),(.v (.agg [(.z (.int .i64 (.ar .add .i64 (.var 1) (.ar .mul .i64 (.var 11000) (.var 3))))),(.z (.int .i64 (.ar .add .i64 (.ar .add .i64 (.var 1) (.ar .mul .i64 (.var 11000) (.var 3))) (.var 3)))),(.z (.int .i64 (.ar .add .i64 (.var 2) (.ar .mul .i64 (.var 9000) (.var 3))))),(.z (.int .i64 (.ar .add .i64 (.ar .add .i64 (.var 2) (.ar .mul .i64 (.var 9000) (.var 3))) (.var 3))))])),(.v (.one (.z .any))),(.v (.agg [(.z (.int .i64 (.ar .add .i64 (.var 1) (.ar .mul .i64 (.var 11000) (.var 3))))),(.z (.int .i64 (.ar .add .i64 (.ar .add .i64 (.var 1) (.ar .mul .i64 (.var 11000) (.var 3))) (.var 3)))),(.z (.int .i64 (.ar .add .i64 (.var 2) (.ar .mul .i64 (.var 9000) (.var 3))))),(.z (.int .i64 (.ar .add .i64 (.ar .add .i64 (.var 2) (.ar .mul .i64 (.var 9000) (.var 3))) (.var 3))))])),(.v (.one (.z .any))),(.v (.one (.z (.sl 13 0 4 (some 4))))),(.v (.one (.z (.int .i64 (.lit 0))))),(.v (.one (.z (.sl 13 0 4 (some 4))))),(.v (.agg [(.z (.int .i64 (.lit 1))),(.z (.int .i64 (.lit 3))),(.z (.int .i64 (.lit 0))),(.z (.int .i64 (.lit 0))),(.z (.int .i64 (.lit 0))),(.z (.sl 13 0 4 (some 4))),(.z (.int .i64 (.lit 0))),(.z (.int .i64 (.lit 0))),(.z (.const (.slice none 0 0)))])),(.v (.one (.z (.ext [(.int .i64),(.int .i64),(.int .i64),(.int .i64),(.int .i64),(.sl [(.int .i64),(.int .i64)]),(.int .i64),(.int .i64),(.sl [(.int .i64),(.int .i64),(.int .i64),(.int .i64),(.int .i64),(.int .i64)])] (.var 0) false)))),(.v (.one (.z (.int .i64 (.len (.var 0)))))),(.v (.one (.z (.int .i64 (.var 16000)))))] (List.replicate 28 V.any)))),[(14,(.cells 67 [(.z (.int .i64 (.lit 1))),(.z (.int .i64 (.lit 3))),(.z (.int .i64 (.lit 0))),(.z (.int .i64 (.lit 0))),(.z (.int .i64 (.lit 0))),(.z (.sl 13 0 4 (some 4))),(.z (.int .i64 (.lit 0))),(.z (.int .i64 (.lit 0))),(.z (.const (.slice none 0 0)))])),(13,(.cells 24 [(.z (.int .i64 (.ar .add .i64 (.var 1) (.ar .mul .i64 (.var 11000) (.var 3))))),(.z (.int .i64 (.ar .add .i64 (.var 2) (.ar .mul .i64 (.var 9000) (.var 3))))),(.z (.int .i64 (.ar .add .i64 (.ar .add .i64 (.var 1) (.ar .mul .i64 (.var 11000) (.var 3))) (.var 3)))),(.z (.int .i64 (.ar .add .i64 (.var 2) (.ar .mul .i64 (.var 9000) (.var 3))))),(.z (.int .i64 (.ar .add .i64 (.ar .add .i64 (.var 1) (.ar .mul .i64 (.var 11000) (.var 3))) (.var 3)))),(.z (.int .i64 (.ar .add .i64 (.ar .add .i64 (.var 2) (.ar .mul .i64 (.var 9000) (.var 3))) (.var 3)))),(.z (.int .i64 (.ar .add .i64 (.var 1) (.ar .mul .i64 (.var 11000) (.var 3))))),(.z (.int .i64 (.ar .add .i64 (.ar .add .i64 (.var 2) (.ar .mul .i64 (.var 9000) (.var 3))) (.var 3))))])),(7,(.loop .busy none (List.append [(.v (.one (.z (.ext [(.int .i64),(.int .i64),(.int .i64),(.int .i64),(.int .i64),(.sl [(.int .i64),(.int .i64)]),(.int .i64),(.int .i64),(.sl [(.int .i64),(.int .i64),(.int .i64),(.int .i64),(.int .i64),(.int .i64)])] (.var 0) false)))),(.v (.agg [(.z (.int .i64 (.var 1))),(.z (.int .i64 (.var 2)))])),(.v (.one (.z (.int .i64 (.var 3))))),(.v (.one (.z (.int .i64 (.var 4))))),(.v (.one (.z (.int .i64 (.var 5))))),(.v (.one (.z (.ptr 0 0)))),(.v (.one (.z (.ptr 1 0)))),(.v (.one (.z .any))),(.v (.one (.z .any))),(.v (.one (.z .any))),(.v (.one (.z (.ptr 2 0)))),(.v (.one (.z (.int .i64 (.lit 0))))),(.v (.one (.z (.ptr 3 0)))),(.v (.one (.z (.ptr 4 0)))),(.v (.one (.z (.bool (.fn 180 (.i (.var 1) (.i (.var 2) (.i (.var 3) (.i (.var 4) (.i (.var 5) (.x .nil .nil)))))))))))] (List.append (List.replicate 9 V.any) (List.append [(.v (.agg [(.z (.int .i64 (.var 1))),(.z (.int .i64 (.var 2)))])),(.v (.one (.z (.int .i64 (.var 3))))),(.v (.one (.z (.int .i64 (.var 4))))),(.v (.one (.z (.int .i64 (.var 5))))),(.v (.agg [(.z (.int .i64 (.var 1))),(.z (.int .i64 (.var 2))),(.z (.int .i64 (.var 3))),(.z (.int .i64 (.var 4))),(.z (.int .i64 (.var 5))),(.z (.const (.slice none 0 0)))])),(.v (.one (.z .any))),(.v (.agg [(.z (.int .i64 (.var 1))),(.z (.int .i64 (.var 2))),(.z (.int .i64 (.var 3))),(.z (.int .i64 (.var 4))),(.z (.int .i64 (.var 5))),(.z (.const (.slice none 0 0)))])),(.v (.one (.z .any))),(.v (.agg [(.z (.int .i64 (.fn 181 (.i (.var 1) (.i (.var 2) (.i (.var 3) (.i (.var 4) (.i (.var 5) (.x .nil .nil))))))))),(.z (.int .i64 (.fn 182 (.i (.var 1) (.i (.var 2) (.i (.var 3) (.i (.var 4) (.i (.var 5) (.x .nil .nil))))))))),(.z (.int .i64 (.fn 183 (.i (.var 1) (.i (.var 2) (.i (.var 3) (.i (.var 4) (.i (.var 5) (.x .nil .nil))))))))),(.z (.int .i64 (.fn 184 (.i (.var 1) (.i (.var 2) (.i (.var 3) (.i (.var 4) (.i (.var 5) (.x .nil .nil)))))))))])),(.v (.one (.z (.bool (.fn 180 (.i (.var 1) (.i (.var 2) (.i (.var 3) (.i (.var 4) (.i (.var 5) (.x .nil .nil))))))))))),(.v (.one (.z (.bool (.fn 180 (.i (.var 1) (.i (.var 2) (.i (.var 3) (.i (.var 4) (.i (.var 5) (.x .nil .nil))))))))))),(.v (.one (.z (.bool (.not (.fn 180 (.i (.var 1) (.i (.var 2) (.i (.var 3) (.i (.var 4) (.i (.var 5) (.x .nil .nil)))))))))))),(.v (.one (.z (.bool (.lit false))))),(.v (.one (.z (.ext [(.int .i64),(.int .i64),(.int .i64),(.int .i64),(.int .i64),(.sl [(.int .i64),(.int .i64)]),(.int .i64),(.int .i64),(.sl [(.int .i64),(.int .i64),(.int .i64),(.int .i64),(.int .i64),(.int .i64)])] (.var 0) false)))),(.v (.one (.z (.bool (.fn 140 (.x (.var 0) .nil)))))),(.v (.one (.z (.bool (.not (.fn 140 (.x (.var 0) .nil))))))),(.v (.one (.z (.bool (.not (.fn 140 (.x (.var 0) .nil))))))),(.v (.one (.z .any))),(.v (.agg [(.z (.int .i64 (.var 1))),(.z (.int .i64 (.var 2))),(.z (.int .i64 (.var 3))),(.z (.int .i64 (.var 4))),(.z (.int .i64 (.var 5))),(.z (.const (.slice none 0 0)))])),(.v (.one (.z (.clo 58 [(5,0)]))))] (List.replicate 39 V.any)))) [] .skip .skip 6)),(11,(.cells 31 [(.z (.int .i64 (.ar .add .i64 (.var 1) (.ar .mul .i64 (.var 11000) (.var 3))))),(.z (.int .i64 (.ar .add .i64 (.ar .add .i64 (.var 1) (.ar .mul .i64 (.var 11000) (.var 3))) (.var 3)))),(.z (.int .i64 (.ar .add .i64 (.var 2) (.ar .mul .i64 (.var 9000) (.var 3))))),(.z (.int .i64 (.ar .add .i64 (.ar .add .i64 (.var 2) (.ar .mul .i64 (.var 9000) (.var 3))) (.var 3))))])),(9,(.own 3 [(.int .i64)] (.var 11001) (.var 11002))),(6,(.dfd false)),(5,(.cells 27 [(.z (.int .i64 (.var 1))),(.z (.int .i64 (.var 2))),(.z (.int .i64 (.var 3))),(.z (.int .i64 (.var 4))),(.z (.int .i64 (.var 5))),(.z (.const (.slice none 0 0)))])),(4,(.cells 31 [(.z (.int .i64 (.fn 181 (.i (.var 1) (.i (.var 2) (.i (.var 3) (.i (.var 4) (.i (.var 5) (.x .nil .nil))))))))),(.z (.int .i64 (.fn 182 (.i (.var 1) (.i (.var 2) (.i (.var 3) (.i (.var 4) (.i (.var 5) (.x .nil .nil))))))))),(.z (.int .i64 (.fn 183 (.i (.var 1) (.i (.var 2) (.i (.var 3) (.i (.var 4) (.i (.var 5) (.x .nil .nil))))))))),(.z (.int .i64 (.fn 184 (.i (.var 1) (.i (.var 2) (.i (.var 3) (.i (.var 4) (.i (.var 5) (.x .nil .nil)))))))))])),(3,(.cells 27 [(.z (.int .i64 (.var 1))),(.z (.int .i64 (.var 2))),(.z (.int .i64 (.var 3))),(.z (.int .i64 (.var 4))),(.z (.int .i64 (.var 5))),(.z (.own 9 (.var 11002)))])),(2,(.cells 27 [(.z (.int .i64 (.lit 0))),(.z (.int .i64 (.lit 0))),(.z (.int .i64 (.lit 0))),(.z (.int .i64 (.lit 0))),(.z (.int .i64 (.lit 0))),(.z (.const (.slice none 0 0)))])),(1,(.cells 24 [(.z (.int .i64 (.var 1))),(.z (.int .i64 (.var 2)))])),(0,(.cells 22 [(.z (.ext [(.int .i64),(.int .i64),(.int .i64),(.int .i64),(.int .i64),(.sl [(.int .i64),(.int .i64)]),(.int .i64),(.int .i64),(.sl [(.int .i64),(.int .i64),(.int .i64),(.int .i64),(.int .i64),(.int .i64)])] (.var 0) false))]))],16,[]⟩)]
def c4x:List (FuncId×Nat×Nat×St):=[
]
set_option maxRecDepth 100000 in
theorem c1H:T.norm 0 (call Tryz.prog b4i ⟨Lt.un (Lt.of []),c5N,c4x⟩ 200 10 (g7 0 [G4,pt,it,it,it]) [] 0) TT.ret=b4I:=by kernel_rfl
theorem b8x:b4I.low 1000=true:=by kernel_rfl
def u5(x y s:Int):Rows:=[[.i x,.i y],[.i (x+s),.i y],[.i (x+s),.i (y+s)],[.i x,.i (y+s)]]
def X7(r:Rows)(i:Nat)(A:Rows):List D:=[.i (lg r i 0),.i (lg r i 1),.i (lg r i 2),.i (lg r i 3),.i (lg r i 4),.l (lr r i 5),.i (lg r i 6),.i (lg r i 7),.l (lr r i 8),.i 1,.i 3,.i 0,.i 0,.i 0,.l A,.i 0,.i 0,.l []]
def a9Q(r:Rows)(i:Nat)(A:Rows):Bool:=decide (feE (X7 r i A)=0)&&T3 (X7 r i A)
def mkD(r A:Rows):Nat→Int
 | 0=>100000
 | k+1=>if lg r k 6<mkD r A k∧a9Q r k A=true then lg r k 6 else mkD r A k
def mkL(r:Rows)(x y s:Int)(W n:Nat):List Int:=(List.range n).map fun c=>mkD r (u5 (cX x s W c) (cY y s W c) s) r.length
theorem b7v(r:Rows)(x y s:Int)(W n:Nat):(mkL r x y s W n).length=n:=by simp [mkL]
theorem b4Q(r:Rows)(x y s:Int)(W n:Nat):mkL r x y s W (n+1)=mkL r x y s W n++[mkD r (u5 (cX x s W n) (cY y s W n) s) r.length]:=by
 simp [mkL,List.range_succ]
def R3(ds:List D):Bool:=decide (s8 (a7 ds 1) (a7 ds 2) (a7 ds 3) (a7 ds 4) (a7 ds 5))&&L7 (b9 ds 0)
def mkE(ds:List D):Int:=if R3 ds=true then 0 else 1
def mkR(ds:List D):Rows:=if R3 ds=true then g0 (mkL (b9 ds 0) (a7 ds 1) (a7 ds 2) (a7 ds 3) (a7 ds 4).toNat ((a7 ds 4).toNat*(a7 ds 5).toNat)) else []
def mkV(ds:List D)(v:Value):Value:=if R3 ds=true then X6 (a7 ds 1) (a7 ds 2) (a7 ds 3) (a7 ds 4) (a7 ds 5) v 0 else X6 0 0 0 0 0 v 1
def N6:NL:=⟨3,[.int .i64],6,mkR⟩
theorem d2p(x y s w h:Int)(r:Rows):frL [.i x,.i y,.i s,.i w,.i h,.l r]=decide (s8 x y s w h):=rfl
theorem b3Y(r:Rows):M7 [.l r]=L7 r:=rfl
theorem c9Q(W:World)(ds l:List D):(a9 y6 W ds).fb 120 l=T3 l:=by simp only[a9,y6,B4,B3,w8,K82,W8,I9,R5,T2,L4]
theorem c8x(W:World)(ds l:List D):(a9 y6 W ds).fi 119 l=feE l:=by simp only[a9,y6,B4,B3,w8,K82,W8,I9,R5,T2,L4]
theorem d0i(W:World)(ds l:List D):(a9 y6 W ds).fb 140 l=M7 l:=by simp only[a9,y6,B4,B3,w8]
set_option maxHeartbeats 4000000 in
theorem c6u:B2 Tryz.prog 10 [G4,pt,it,it,it] [N6] (fun _=>True) (fun _ ds vs u=>∃v,vs=[v]∧u=mkV ds v):=by
 refine A4 y6 (by kernel_rfl) (fun ρ h=>a6x (Sees.of h 190) (SeesD.of h 5)) (by kernel_rfl) c1H b8x (by decide) (fun w0 vals ds hr _=> ?_)
 have hR:N6.rows ds=if R3 ds=true then g0 (mkL (b9 ds 0) (a7 ds 1) (a7 ds 2) (a7 ds 3) (a7 ds 4).toNat ((a7 ds 4).toNat*(a7 ds 5).toNat)) else []:=rfl
 have hV:∀v,mkV ds v=if R3 ds=true then X6 (a7 ds 1) (a7 ds 2) (a7 ds 3) (a7 ds 4) (a7 ds 5) v 0 else X6 0 0 0 0 0 v 1:=fun _=>rfl
 have hO:R3 ds=(decide (s8 (a7 ds 1) (a7 ds 2) (a7 ds 3) (a7 ds 4) (a7 ds 5))&&L7 (b9 ds 0)):=rfl
 have bad:∀ {ρ:Env} {ws:Mem},R3 ds=false→∃s' x',A0 ws N6.e N6.ks s'=some x'∧x'.ev ρ=N6.rows ds∧∀(σ:As) u,ρ.w=w0→(V.tup [.agg [.z (.int .i64 (.lit 0)),.z (.int .i64 (.lit 0)),.z (.int .i64 (.lit 0)),.z (.int .i64 (.lit 0)),.z (.int .i64 (.lit 0)),.z (.const (.slice none 0 0))],.one (.z (.int .i64 (.lit 1)))]).den ρ σ u→∃v,s'.den ρ σ v∧u=mkV ds v:=fun h=>by
  rw[h] at hR
  exact P4 (x:= .nil) rfl (by rw[hR];rfl) (fun v=>by rw[hV,h];rfl)
 clear hr
 simp only[b4I,g9,Nat.reduceBEq,Nat.reduceLT,Nat.reduceSub,c8X,d0i,d2p,b3Y]
 generalize e0:b9 ds 0=r at*
 generalize e1:a7 ds 1=x at*
 generalize e2:a7 ds 2=y at*
 generalize e3:a7 ds 3=s at*
 generalize e4:a7 ds 4=w at*
 generalize e5:a7 ds 5=h at*
 refine⟨fun q=>bad (by rw[hO,decide_eq_false (by simpa using q)];rfl),fun hf=>⟨fun q=>bad (by rw[hO,q,Bool.and_false]),fun hl=> ?_⟩⟩
 have hok:R3 ds=true:=by rw[hO,decide_eq_true (by simpa using hf),hl];rfl
 have hf:s8 x y s w h:=by simpa using hf
 rw[hok] at hR hV
 simp only[if_true] at hR hV
 have hf':=hf
 unfold s8 at hf
 have p1:=o5 (a:=w) (b:=s) (m:=64) (n:=100000) (by omega) (by omega) (by omega) (by omega)
 have p2:=o5 (a:=h) (b:=s) (m:=64) (n:=100000) (by omega) (by omega) (by omega) (by omega)
 obtain⟨W,rfl⟩:=Int.eq_ofNat_of_zero_le (a:=w) (by omega)
 obtain⟨H,rfl⟩:=Int.eq_ofNat_of_zero_le (a:=h) (by omega)
 simp only[Int.toNat_natCast] at hR
 have hWH:W*H≤64*64:=Nat.mul_le_mul (by omega) (by omega)
 have h300:r.length≤300:=by
  unfold L7 at hl
  simp only[Bool.and_eq_true,decide_eq_true_eq] at hl
  exact hl.2
 refine TT.sat_loop (fun v=>∃j:Nat,v.i 0=j∧j≤H∧v.d 2=g0 (mkL r x y s W (j*W))) (fun v=>H-(v.i 0).toNat)
  ⟨0,by simp [j5,i8,E.ev],by omega,by simp [D4,i8,X.ev,mkL,g0]⟩ (fun v hv=> ?_)
 obtain⟨j,j0,j1,j2⟩:=hv
 simp only[g9,Nat.reduceBEq,Nat.reduceLT,Nat.reduceSub,j0,j2,e0,e1,e2,e3,e4,e5]
 refine⟨fun hj=> ?_,fun hj=> ?_⟩
 ·have hjH:j<H:=by omega
  refine TT.sat_loop (fun u=>∃i:Nat,u.i 0=i∧i≤W∧u.d 1=g0 (mkL r x y s W (j*W+i))) (fun u=>W-(u.i 0).toNat)
   ⟨0,by simp [j5,i8,E.ev],by omega,by simp [D4,i8,X.ev,x7,j2]⟩ (fun u hu=> ?_)
  obtain⟨i,i0,i1,i2⟩:=hu
  simp only[g9,Nat.reduceBEq,Nat.reduceLT,Nat.reduceSub,j0,j2,i0,i2,e0,e1,e2,e3,e4,e5,c0C,a1V,show((0:Nat)=1)=False from by simp,if_false]
  refine⟨fun hi=> ?_,fun hi=> ?_⟩
  ·have hiW:i<W:=by omega
   obtain⟨c1,c2⟩:=a2x (j:=j) hiW
   have hcl:=Q2 hiW hjH
   obtain⟨s1,s2⟩:=Z1 (s:=s) (by omega) hiW
   obtain⟨s3,s4⟩:=Z1 (s:=s) (by omega) hjH
   have ex:cX x s W (j*W+i)=x+(i:Int)*s:=by unfold cX;rw[c1]
   have ey:cY y s W (j*W+i)=y+(j:Int)*s:=by unfold cY;rw[c2]
   have x1:IntKind.i64.wrap ((i:Int)+1)=((i+1:Nat):Int):=by rw[b8 _ (by omega) (by omega)];omega
   have wa:IntKind.i64.wrap ((i:Int)*s)=(i:Int)*s:=b8 _ (by omega) (by omega)
   have wb:IntKind.i64.wrap ((j:Int)*s)=(j:Int)*s:=b8 _ (by omega) (by omega)
   have wc:IntKind.i64.wrap (x+(i:Int)*s)=x+(i:Int)*s:=b8 _ (by omega) (by omega)
   have wd:IntKind.i64.wrap (y+(j:Int)*s)=y+(j:Int)*s:=b8 _ (by omega) (by omega)
   have we:IntKind.i64.wrap (x+(i:Int)*s+s)=x+(i:Int)*s+s:=b8 _ (by omega) (by omega)
   have wf:IntKind.i64.wrap (y+(j:Int)*s+s)=y+(j:Int)*s+s:=b8 _ (by omega) (by omega)
   simp only[wa,wb,wc,wd,we,wf]
   have hcb:o8 (x+(i:Int)*s) (x+(i:Int)*s+s) (y+(j:Int)*s) (y+(j:Int)*s+s)=true:=by unfold o8;exact decide_eq_true (by omega)
   rw[hcb]
   refine⟨(fun q=>nomatch q),fun _=>⟨fun q=>by omega,fun _=>⟨fun q=>by omega,fun _=> ?_⟩⟩⟩
   refine TT.sat_loop (fun t=>∃k:Nat,t.i 0=k∧k≤r.length∧t.i 1=mkD r (u5 (x+(i:Int)*s) (y+(j:Int)*s) s) k) (fun t=>r.length-(t.i 0).toNat)
    ⟨0,by simp [j5,i8,E.ev],by omega,by simp [j5,i8,E.ev,mkD]⟩ (fun t ht=> ?_)
   obtain⟨k,k0,k1,k2⟩:=ht
   simp only[g9,Nat.reduceBEq,Nat.reduceLT,Nat.reduceSub,j0,j2,i0,i2,k0,k2,e0,e1,e2,e3,e4,e5,c8x,c9Q,wa,wb,wc,wd,we,wf,show((1:Nat)=2)=False from by simp,if_false]
   refine⟨fun hk=> ?_,fun hk=> ?_⟩
   ·have hkl:k<r.length:=by omega
    have x2:IntKind.i64.wrap ((k:Int)+1)=((k+1:Nat):Int):=by rw[b8 _ (by omega) (by omega)];omega
    rw[x2]
    have hs:mkD r (u5 (x+(i:Int)*s) (y+(j:Int)*s) s) (k+1)=if lg r k 6<mkD r (u5 (x+(i:Int)*s) (y+(j:Int)*s) s) k∧a9Q r k (u5 (x+(i:Int)*s) (y+(j:Int)*s) s)=true then lg r k 6 else mkD r (u5 (x+(i:Int)*s) (y+(j:Int)*s) s) k:=rfl
    have hT:a9Q r k (u5 (x+(i:Int)*s) (y+(j:Int)*s) s)=(decide (feE (X7 r k (u5 (x+(i:Int)*s) (y+(j:Int)*s) s))=0)&&T3 (X7 r k (u5 (x+(i:Int)*s) (y+(j:Int)*s) s))):=rfl
    show _∧_∧(_→_)∧(_→(feE (X7 r k (u5 (x+(i:Int)*s) (y+(j:Int)*s) s))=0→(T3 (X7 r k (u5 (x+(i:Int)*s) (y+(j:Int)*s) s))=true→_)∧(T3 (X7 r k (u5 (x+(i:Int)*s) (y+(j:Int)*s) s))=false→_))∧(¬feE (X7 r k (u5 (x+(i:Int)*s) (y+(j:Int)*s) s))=0→_))
    generalize u5 (x+(i:Int)*s) (y+(j:Int)*s) s=A at*
    have hm:r.length-((k+1:Nat):Int).toNat<r.length-((k:Int)).toNat:=by rw[Int.toNat_natCast,Int.toNat_natCast];omega
    refine⟨by omega,by omega,fun q=>⟨⟨k+1,rfl,by omega,by rw[hs,if_neg (fun z=>by omega)]⟩,hm⟩,fun q=>⟨fun q1=>⟨fun q2=>⟨⟨k+1,rfl,by omega,?_⟩,hm⟩,fun q2=>⟨⟨k+1,rfl,by omega,?_⟩,hm⟩⟩,fun q1=>⟨⟨k+1,rfl,by omega,?_⟩,hm⟩⟩⟩
    ·rw[hs,if_pos ⟨by omega,by rw[hT,q1,q2];rfl⟩]
    ·rw[hs,if_neg (fun z=>by rw[hT,q2,Bool.and_false] at z;exact absurd z.2 (by decide))]
    ·rw[hs,if_neg (fun z=>by rw[hT,decide_eq_false q1,Bool.false_and] at z;exact absurd z.2 (by decide))]
   ·have hkl:k=r.length:=by omega
    rw[x1,List.append_nil,K0,hkl]
    have hsn:=b4Q r x y s W (j*W+i)
    rw[ex,ey] at hsn
    rw[←hsn,s7,b7v]
    exact⟨by omega,⟨i+1,rfl,by omega,rfl⟩,by rw[Int.toNat_natCast,Int.toNat_natCast];omega⟩
  ·have hiW:i=W:=by omega
   subst hiW
   have x1:IntKind.i64.wrap ((j:Int)+1)=((j+1:Nat):Int):=by rw[b8 _ (by omega) (by omega)];omega
   have x2:(j+1)*i=j*i+i:=by rw[Nat.add_mul,Nat.one_mul]
   rw[x1]
   exact⟨⟨j+1,rfl,by omega,by rw[x2]⟩,by rw[Int.toNat_natCast,Int.toNat_natCast];omega⟩
 ·have hjj:j=H:=by omega
  subst hjj
  refine P4 (x:= .var 9002) (by kernel_rfl) ?_ (fun v'=> ?_)
  ·rw[hR]
   simp only[X.ev,x7,g9,Nat.reduceBEq,Nat.reduceLT,Nat.reduceSub,j2]
   rw[Nat.mul_comm j W]
  ·rw[hV]
   simp only[g9,Nat.reduceBEq,Nat.reduceLT,Nat.reduceSub,e1,e2,e3,e4,e5]
def B9:Interp where
 fi n l:=match n with | 192=>lsR l | 193=>lsE l | n=>y6.fi n l
 fb n l:=match n with | 190=>R0 l | 191=>R3 l | n=>y6.fb n l
 fd n l:=match n with | 5=>coR l | 6=>mkR l | n=>y6.fd n l
theorem c4p{ρ:Env}(h:SeesD ρ B9 7):SeesD ρ y6 5:=fun n l hn=>by
 rw[h n l (by omega)]
 simp only[B9]
 split<;>first | omega | rfl
theorem b0w{ρ:Env}(h:Sees ρ B9 200):Sees ρ y6 190:=h.trans (by decide) fun n l hn=>by
 refine⟨?_,?_⟩
 ·
  simp only[B9]
  split<;>first | omega | rfl
 ·
  simp only[B9]
  split<;>first | omega | rfl
def b2W(a b c d e:E)(er:Int)(nx:Nat):V:= .tup [.agg [.z (.int .i64 a),.z (.int .i64 b),.z (.int .i64 c),.z (.int .i64 d),.z (.int .i64 e),.z (.own nx (.lit 0))],.one (.z (.int .i64 (.lit er)))]
theorem a4l{ρ:Env}{σ:As}{a b c d e:E}{er:Int}{nx:Nat}{v:Value}(h:(S0.own nx (.lit 0)).den ρ σ v):(b2W a b c d e er nx).den ρ σ (X6 (a.ev ρ) (b.ev ρ) (c.ev ρ) (d.ev ρ) (e.ev ρ) v er):=
 ⟨[.agg #[.int .i64 (a.ev ρ),.int .i64 (b.ev ρ),.int .i64 (c.ev ρ),.int .i64 (d.ev ρ),.int .i64 (e.ev ρ),v],.int .i64 er],⟨⟨[.int .i64 (a.ev ρ),.int .i64 (b.ev ρ),.int .i64 (c.ev ρ),.int .i64 (d.ev ρ),.int .i64 (e.ev ρ),v],⟨rfl,rfl,rfl,rfl,rfl,h,trivial⟩,rfl⟩,rfl,trivial⟩,rfl⟩
def c7o(al:AL)(nx:Nat):Option (V×V):=match al with
 | .i x (.i y (.i s (.i w (.i h (.x _ (.i k .nil))))))=>some (b2W x y (.arS .mul .i64 k s) (.arS .quo .i64 w k) (.arS .quo .i64 h k) 0 nx,b2W (.lit 0) (.lit 0) (.lit 0) (.lit 0) (.lit 0) 1 nx)
 | _=>none
def b2x:=b1L [l8,it] F3 (fun al=>bF 190 R0 al) c7o
theorem d2Y(x y s w h k:Int)(r:Rows)(v:Value):coV [.i x,.i y,.i s,.i w,.i h,.l r,.i k] v=if R0 [.i x,.i y,.i s,.i w,.i h,.l r,.i k]=true then X6 x y (k*s) (w.tdiv k) (h.tdiv k) v 0 else X6 0 0 0 0 0 v 1:=rfl
theorem d3e(x y s w h k:Int)(r:Rows):R0 [.i x,.i y,.i s,.i w,.i h,.l r,.i k]=(F5 x y s w h r&&decide (1≤k∧k≤64∧w.tmod k=0∧h.tmod k=0∧k*s≤100000)):=rfl
theorem b5X{ρ:Env}(h:Sees ρ B9 200)(hd:SeesD ρ B9 7):i9 Tryz.prog ρ 13 b2x:=by
 refine b2f b7s (by decide) (fun a=> ?_) (fun al nx a b σ' v ho hv=> ?_)
 ·show ρ.fd 5 a=coR a
  rw[hd 5 _ (by decide)];simp only[B9]
 ·have hb:(bF 190 R0 al).ev ρ=R0 (al.ev ρ):=m9 (s:=190) (f:=R0) (fun l=>by rw[(h 190 l (by decide)).2];simp only[B9]) al
  rw[hb]
  unfold c7o at ho
  split at ho
  ·rename_i x y s w h' r k
   obtain⟨rfl,rfl⟩:=Prod.mk.inj (Option.some.inj ho)
   simp only[AL.ev]
   rw[d2Y]
   refine⟨fun q=> ?_,fun q=> ?_⟩
   ·rw[if_pos q]
    rw[d3e] at q
    obtain⟨hg,q⟩:=Bool.and_eq_true_iff.1 q
    have q:=of_decide_eq_true q
    have hf:=(z9 hg).1
    unfold s8 at hf
    have p1:=o5 (a:=k.ev ρ) (b:=s.ev ρ) (m:=64) (n:=100000) (by omega) (by omega) (by omega) (by omega)
    have d1:(w.ev ρ).tdiv (k.ev ρ)≤w.ev ρ:=Int.tdiv_le_self _ (by omega)
    have d2:0≤(w.ev ρ).tdiv (k.ev ρ):=Int.tdiv_nonneg (by omega) (by omega)
    have d3:(h'.ev ρ).tdiv (k.ev ρ)≤h'.ev ρ:=Int.tdiv_le_self _ (by omega)
    have d4:0≤(h'.ev ρ).tdiv (k.ev ρ):=Int.tdiv_nonneg (by omega) (by omega)
    have e1:(E.arS .mul .i64 k s).ev ρ=k.ev ρ*s.ev ρ:=by rw[E.arS_ev];simp only[E.ev,y9];exact b8 _ (by omega) (by omega)
    have e2:(E.arS .quo .i64 w k).ev ρ=(w.ev ρ).tdiv (k.ev ρ):=by rw[E.arS_ev];simp only[E.ev,y9];exact b8 _ (by omega) (by omega)
    have e3:(E.arS .quo .i64 h' k).ev ρ=(h'.ev ρ).tdiv (k.ev ρ):=by rw[E.arS_ev];simp only[E.ev,y9];exact b8 _ (by omega) (by omega)
    rw[←e1,←e2,←e3]
    exact a4l hv
   ·rw[if_neg (by rw[q];decide)]
    exact a4l (a:= .lit 0) (b:= .lit 0) (c:= .lit 0) (d:= .lit 0) (e:= .lit 0) hv
  ·cases ho
def c6z(al:AL)(nx:Nat):Option (V×V):=match al with
 | .x _ (.i x (.i y (.i s (.i w (.i h .nil)))))=>some (b2W x y s w h 0 nx,b2W (.lit 0) (.lit 0) (.lit 0) (.lit 0) (.lit 0) 1 nx)
 | _=>none
def c3J:=b1L [G4,pt,it,it,it] N6 (fun al=>bF 191 R3 al) c6z
theorem d0T(x y s w h:Int)(r:Rows)(v:Value):mkV [.l r,.i x,.i y,.i s,.i w,.i h] v=if R3 [.l r,.i x,.i y,.i s,.i w,.i h]=true then X6 x y s w h v 0 else X6 0 0 0 0 0 v 1:=rfl
theorem c2g{ρ:Env}(h:Sees ρ B9 200)(hd:SeesD ρ B9 7):i9 Tryz.prog ρ 10 c3J:=by
 refine b2f c6u (by decide) (fun a=> ?_) (fun al nx a b σ' v ho hv=> ?_)
 ·show ρ.fd 6 a=mkR a
  rw[hd 6 _ (by decide)];simp only[B9]
 ·have hb:(bF 191 R3 al).ev ρ=R3 (al.ev ρ):=m9 (s:=191) (f:=R3) (fun l=>by rw[(h 191 l (by decide)).2];simp only[B9]) al
  rw[hb]
  unfold c6z at ho
  split at ho
  ·rename_i r x y s w h'
   obtain⟨rfl,rfl⟩:=Prod.mk.inj (Option.some.inj ho)
   simp only[AL.ev]
   rw[d0T]
   refine⟨fun q=> ?_,fun q=> ?_⟩
   ·rw[if_pos q]
    exact a4l hv
   ·rw[if_neg (by rw[q];decide)]
    exact a4l (a:= .lit 0) (b:= .lit 0) (c:= .lit 0) (d:= .lit 0) (e:= .lit 0) hv
  ·cases ho
def a6w:=u7 [l8,bx] fun al=> .ret (.tup [.one (w9 192 lsR al),.one (w9 193 lsE al)])
theorem b7G{ρ:Env}(h:Sees ρ B9 200):i9 Tryz.prog ρ 15 a6w:=by
 refine j7 d0C (fun _=>rfl) (fun al=> ?_)
 have h1:(iF 192 lsR al).ev ρ=lsR (al.ev ρ):=k8 (s:=192) (f:=lsR) (fun l=>by rw[(h 192 l (by decide)).1];simp only[B9]) al
 have h2:(iF 193 lsE al).ev ρ=lsE (al.ev ρ):=k8 (s:=193) (f:=lsE) (fun l=>by rw[(h 193 l (by decide)).1];simp only[B9]) al
 simp only[V.val,V2.val,S.val,S0.val,w9,List.map_cons,List.map_nil,h1,h2]
def c4K:Ct:=(13,b2x)::(10,c3J)::(15,a6w)::b4i
theorem b6d{ρ:Env}(h:Sees ρ B9 200)(hd:SeesD ρ B9 7):CtOk Tryz.prog ρ c4K:= .cons (b5X h hd)<| .cons (c2g h hd)<| .cons (b7G h)<|a6x (b0w h) (c4p hd)
section
variable {r:Rows}
theorem b1N:∀(f i:Nat) (last:Int),H8 r f i last=true→∀k:Nat,i≤k→k<i+f→W6 r k=true∧last<lg r k 0∧∀l:Nat,k<l→l<i+f→lg r k 0<lg r l 0
 | 0,i,last,_,k,h1,h2=>by omega
 | f+1,i,last,h,k,h1,h2=>by
   simp only[H8,Bool.and_eq_true,decide_eq_true_eq] at h
   by_cases e:k=i
   ·subst e
    exact⟨h.1.1,h.1.2,fun l g1 g2=>(b1N f (k+1) _ h.2 l (by omega) (by omega)).2.1⟩
   ·obtain⟨g1,g2,g3⟩:=b1N f (i+1) _ h.2 k (by omega) (by omega)
    exact⟨g1,by omega,fun l q1 q2=>g3 l q1 (by omega)⟩
theorem c8B(h:L7 r=true):r.length≤300∧(∀k:Nat,k<r.length→W6 r k=true)∧∀k l:Nat,k<l→l<r.length→lg r k 0<lg r l 0:=by
 simp only[L7,Bool.and_eq_true,decide_eq_true_eq] at h
 exact⟨h.2,fun k hk=>(b1N _ 0 0 h.1 k (by omega) (by omega)).1,fun k l h1 h2=>(b1N _ 0 0 h.1 k (by omega) (by omega)).2.2 l h1 (by omega)⟩
end
section
variable {x y s:Int} {W:Nat} {D:List Int} {b1 b2 b3 b4:Int}
end
end Go.Proofs.YtcjaembdcfppfaaGreat
namespace Go.Proofs.YtcjaembdcfppfaaGreat
open Go.RowKit
section
variable {W H k:Nat} {D:List Int}
theorem c1r(hk:0<k)(hW:k∣W)(hH:k∣H)(hw:0<W)(hD:∀c,c<W*H→0≤Grid.at_ D c∧Grid.at_ D c≤100000):∀n,n≤W*H→
 (∀i,i<W/k*(H/k)→0≤Grid.at_ (O7 W H k D n) i∧Grid.at_ (O7 W H k D n) i≤100000)∧(∀c,c<n→Grid.at_ (O7 W H k D n) (N0 W k c)≤Grid.at_ D c)∧
 ∀i,i<W/k*(H/k)→Grid.at_ (O7 W H k D n) i=100000∨∃c,c<n∧N0 W k c=i∧Grid.at_ (O7 W H k D n) i=Grid.at_ D c
 | 0,_=>by
   have z:∀i,i<W/k*(H/k)→Grid.at_ (O7 W H k D 0) i=100000:=fun i hi=>by
    unfold O7 Grid.at_
    rw[List.getElem?_eq_getElem (by simpa using hi)]
    simp
   exact⟨fun i hi=>by rw[z i hi];omega,fun c hc=>by omega,fun i hi=> .inl (z i hi)⟩
 | n+1,hn=>by
   obtain⟨h1,h2,h3⟩:=c1r hk hW hH hw hD n (by omega)
   have hl:=a6o W H k D n
   have hx:=b3S hk hW hH hw (show n<W*H by omega)
   have hd:=hD n (by omega)
   have key:∀i,Grid.at_ (O7 W H k D (n+1)) i=if i=N0 W k n then min (Grid.at_ (O7 W H k D n) (N0 W k n)) (Grid.at_ D n) else Grid.at_ (O7 W H k D n) i:=fun i=>by
    rw[O7];exact Grid.at_set (by rw[hl];exact hx)
   have hb:=h1 _ hx
   refine⟨fun i hi=> ?_,fun c hc=> ?_,fun i hi=> ?_⟩
   ·rw[key]
    have:=h1 i hi
    split<;>omega
   ·rw[key]
    by_cases e:c=n
    ·subst e;rw[if_pos rfl];omega
    ·have:=h2 c (by omega)
     split
     ·rename_i e2;rw[e2] at this;omega
     ·exact this
   ·rw[key]
    split
    ·rename_i e
     by_cases g:Grid.at_ (O7 W H k D n) (N0 W k n)≤Grid.at_ D n
     ·rw[Int.min_eq_left g,←e]
      rcases h3 i hi with h3 | ⟨c,g1,g2,g3⟩
      ·exact .inl h3
      ·exact .inr ⟨c,by omega,g2,g3⟩
     ·rw[Int.min_eq_right (by omega)]
      exact .inr ⟨n,by omega,e.symm,rfl⟩
    ·rcases h3 i hi with h3 | ⟨c,g1,g2,g3⟩
     ·exact .inl h3
     ·exact .inr ⟨c,by omega,g2,g3⟩
theorem c5f(hk:0<k)(hW:k∣W)(hw:0<W)(c:Nat):N0 W k c % (W/k)=c % W/k∧N0 W k c/(W/k)=c/W/k:=by
 obtain⟨a,rfl⟩:=hW
 unfold N0
 rw[Nat.mul_div_cancel_left a hk]
 have h1:c % (k*a)/k<a:=by
  rw[Nat.div_lt_iff_lt_mul hk,Nat.mul_comm a k]
  exact Nat.mod_lt _ hw
 rw[Nat.add_comm (c % (k*a)/k)]
 exact a2x h1
end
end Go.Proofs.YtcjaembdcfppfaaGreat
