/- MC, merged: Ba, Bm, Ca, TCb, Cb, Cc0, TCc, Cc, Cd, Ce0, TCe, Ce, Cf0, TCf, Cf. -/
import Derived.Test.YtldbejmgalhdaaaGreatProg
import Derived.WalkKit
import Derived.WalkSpells
import Derived.WalkLawsBesides
import Derived.Handy
import Derived.Lib.Hide
import Derived.Deep.RegionHeld3
import Derived.Shelf.Bits.Mul64
import Derived.Test.YtldbejmgalhdaaaGreatMK
set_option linter.unusedSimpArgs false
set_option linter.unusedVariables false
namespace Go.Proofs.YtldbejmgalhdaaaGreat
open Go.RowKit
theorem b5j{P:Program}(w:World)(ts:Array TypeId)(t:TypeId)(k k':IntKind)(x y:Int):(Builtin.max_ ts t #[.int k x,.int k' y]).run P w= .ok (.int k (max x y)) w:=by
 rw[run_max_int2];congr 2;split<;>omega
theorem b5O{P:Program}(w:World)(ts:Array TypeId)(t:TypeId)(k k':IntKind)(x y:Int):(Builtin.min_ ts t #[.int k x,.int k' y]).run P w= .ok (.int k (min x y)) w:=by
 rw[run_min_int2];congr 2;split<;>omega
attribute [local go_sem high] b5j b5O
def Ret(w:World)(v:Value)(e:Ending)(w':World):Prop:=e= .returned v∧Below w.heap.size w w'
theorem rb{a b:Bool}(h:(a=true)↔(b=true)):Ending.returned (.bool a)= .returned (.bool b):=by rw[Bool.eq_iff_iff.2 h]
end Go.Proofs.YtldbejmgalhdaaaGreat
namespace Go.Proofs.YtldbejmgalhdaaaGreat
open Go.RowKit
attribute [local go_sem high] b5j b5O
set_option maxHeartbeats 1000000 in
theorem b3c(x y:Nat)(hx:x<18446744073709551616)(hy:y<18446744073709551616)(w:World):
 Calls Tryz.prog 205 #[.int .u64 x,.int .u64 y] w (Ret w (.tuple #[.int .u64 ((x*y/18446744073709551616:Nat):Int),.int .u64 ((x*y % 18446744073709551616:Nat):Int)])):=by
 obtain⟨bd,bt,bw,hhi⟩:=Lib.mul64_hi x y hx hy
 have ba:=Lib.half_mul_le (a:=x/4294967296) (b:=y/4294967296) (by omega) (by omega)
 have bb:=Lib.half_mul_le (a:=x/4294967296) (b:=y % 4294967296) (by omega) (by omega)
 have bc:=Lib.half_mul_le (a:=x % 4294967296) (b:=y/4294967296) (by omega) (by omega)
 have ba':x/4294967296*(y/4294967296)<18446744073709551616:=by omega
 have bb':x/4294967296*(y % 4294967296)<18446744073709551616:=by omega
 have bc':x % 4294967296*(y/4294967296)<18446744073709551616:=by omega
 have bh1:x/4294967296*(y/4294967296)+(x/4294967296*(y % 4294967296)+x % 4294967296*(y % 4294967296)/4294967296)/4294967296<18446744073709551616:=by omega
 have bh:x/4294967296*(y/4294967296)+(x/4294967296*(y % 4294967296)+x % 4294967296*(y % 4294967296)/4294967296)/4294967296+((x/4294967296*(y % 4294967296)+x % 4294967296*(y % 4294967296)/4294967296) % 4294967296+x % 4294967296*(y/4294967296))/4294967296<18446744073709551616:=by omega
 go_enter Tryz.func205,Tryz.ntmps205
 go_wp2
 simp only[Mul64.maskN x hx,Mul64.maskN y hy,Mul64.divN,Mul64.mulN,Mul64.addN,Mul64.wrapN _ bd,Mul64.wrapN _ bb',Mul64.wrapN _ bt,Mul64.maskN _ bt,Mul64.wrapN _ bc',Mul64.wrapN _ bw,Mul64.wrapN _ ba',Mul64.wrapN _ bh1,Mul64.wrapN _ bh,Mul64.wrapM (x*y)]
 rw[hhi]
 go_ret2
 exact⟨rfl,by(repeat' (first | (with_reducible exact Below.refl _ _) | (with_reducible assumption) | (with_reducible refine Below.alloc ?_ ?_ _) | (with_reducible refine Below.setCell ?_ ?_ _) | (with_reducible refine Below.drew ?_) | (with_reducible refine Below.trans ?_ (Below.mono (by assumption) ?_)) | omega | (dsimp only;omega) | ((repeat (first | rw[World.size_alloc] | rw[World.size_setCell] | rw[World.size_drew]));(try dsimp only);omega)))⟩
theorem c9R(a b c d:Nat):(decide (a*b/18446744073709551616<c*d/18446744073709551616)||(decide (a*b/18446744073709551616=c*d/18446744073709551616)&&decide (a*b % 18446744073709551616≤c*d % 18446744073709551616)))=decide (a*b≤c*d):=by
 rw[Bool.eq_iff_iff]
 simp only[Bool.or_eq_true,Bool.and_eq_true,decide_eq_true_eq]
 omega
set_option maxHeartbeats 1000000 in
theorem c7U(a b c d:Int)(w:World)(ha:0≤a)(hb:0≤b)(hc:0≤c)(hd:0≤d)(ha':a<9223372036854775808)(hb':b<9223372036854775808)(hc':c<9223372036854775808)(hd':d<9223372036854775808):
 Calls Tryz.prog 200 #[.int .i64 a,.int .i64 b,.int .i64 c,.int .i64 d] w (Ret w (.bool (decide (a*b≤c*d)))):=by
 obtain⟨a,rfl⟩:=Int.eq_ofNat_of_zero_le ha
 obtain⟨b,rfl⟩:=Int.eq_ofNat_of_zero_le hb
 obtain⟨c,rfl⟩:=Int.eq_ofNat_of_zero_le hc
 obtain⟨d,rfl⟩:=Int.eq_ofNat_of_zero_le hd
 have HR:Hid (decide ((a:Int)*b≤(c:Int)*d)=(decide (a*b/18446744073709551616<c*d/18446744073709551616)||(decide (a*b/18446744073709551616=c*d/18446744073709551616)&&decide (a*b % 18446744073709551616≤c*d % 18446744073709551616)))):=by
  show _=_
  rw[c9R,←Int.natCast_mul,←Int.natCast_mul,Bool.eq_iff_iff]
  simp only[decide_eq_true_eq]
  omega
 generalize hx1:a*b/18446744073709551616=x1 at HR
 generalize hx2:a*b % 18446744073709551616=x2 at HR
 generalize hy1:c*d/18446744073709551616=y1 at HR
 generalize hy2:c*d % 18446744073709551616=y2 at HR
 have h1:∀W,Calls Tryz.prog 205 #[.int .u64 a,.int .u64 b] W (Ret W (.tuple #[.int .u64 (x1:Int),.int .u64 (x2:Int)])):=fun W=>by
  have:=b3c a b (by omega) (by omega) W
  rwa [hx1,hx2] at this
 have h2:∀W,Calls Tryz.prog 205 #[.int .u64 c,.int .u64 d] W (Ret W (.tuple #[.int .u64 (y1:Int),.int .u64 (y2:Int)])):=fun W=>by
  have:=b3c c d (by omega) (by omega) W
  rwa [hy1,hy2] at this
 have H1:=Lib.hid h1
 have H2:=Lib.hid h2
 have e1:=Mul64.wrapN a (by omega)
 have e2:=Mul64.wrapN b (by omega)
 have e3:=Mul64.wrapN c (by omega)
 have e4:=Mul64.wrapN d (by omega)
 clear h1 h2 hx1 hx2 hy1 hy2 ha hb hc hd ha' hb' hc' hd'
 go_enter Tryz.func200,Tryz.ntmps200
 go_wp2_with fail
 refine(H1.out _).mono ?_
 rintro e w1 ⟨rfl,hb1⟩
 have hz1:=hb1.size
 go_wp2_with fail
 refine(H2.out _).mono ?_
 rintro e w2 ⟨rfl,hb2⟩
 have hz2:=hb2.size
 go_wp2
 all_goals
  go_ret
  exact⟨rb (by rw[HR.out];simp [*];try omega),by(repeat' (first | (with_reducible exact Below.refl _ _) | (with_reducible assumption) | (with_reducible refine Below.alloc ?_ ?_ _) | (with_reducible refine Below.setCell ?_ ?_ _) | (with_reducible refine Below.drew ?_) | (with_reducible refine Below.trans ?_ (Below.mono (by assumption) ?_)) | omega | (dsimp only;omega) | ((repeat (first | rw[World.size_alloc] | rw[World.size_setCell] | rw[World.size_drew]));(try dsimp only);omega)))⟩
end Go.Proofs.YtldbejmgalhdaaaGreat
namespace Go.Proofs.YtldbejmgalhdaaaGreat
open Go.RowKit
def i4:List Sh:=[.one (.int .i64),.one (.int .i64),.one (.int .i64),.one (.int .i64)]
def nn(e:E):List Ob:=[.tru (.cmpS .leq (.lit 0) e),.tru (.cmpS .lss e (.lit 9223372036854775808))]
def d0N(al:AL):T V:=match al with
 | .i a (.i b (.i c (.i d .nil)))=>T.obs (nn a++nn b++nn c++nn d) (.ret (bV (match a,b,c,d with | .lit x,.lit y,.lit z,.lit u=> .lit (decide (x*y≤z*u)) | _,_,_,_=> .fn 0 al)))
 | _=> .stuck "most"
def c3x:=o7 i4 d0N
def ct0:Ct:=[(200,c3x)]
def pt:Sh:= .agg [.int .i64,.int .i64]
def it:Sh:= .one (.int .i64)
def b2m:TT j6:=
(.ite (.cmp .leq (.mx (.var 0) (.var 1)) (.lit 1000000))
 (.ret ((.v (.one (.z (.bool (.cmp .geq (.mn (.var 0) (.var 1)) (.lit (-1000000))))))),[],1))
 (.ret ((.v (.one (.z (.bool (.lit false))))),[],1)))
set_option maxRecDepth 100000 in
theorem c3m:T.norm 0 (call Tryz.prog ct0 (Lt.of []) 100 54 (i6 0 [pt]) [] 0) TT.ret=b2m:=by kernel_rfl
theorem b7G:b2m.low 1000=true:=by kernel_rfl
def b1X:TT j6:=
(.ite (.cmp .lss (.ar .sub .i64 (.ar .mul .i64 (.ar .sub .i64 (.var 2) (.var 0)) (.ar .sub .i64 (.var 5) (.var 1))) (.ar .mul .i64 (.ar .sub .i64 (.var 3) (.var 1)) (.ar .sub .i64 (.var 4) (.var 0)))) (.lit 0))
 (.ret ((.v (.one (.z (.int .i64 (.lit (-1)))))),[],11))
 (.ite (.cmp .gtr (.ar .sub .i64 (.ar .mul .i64 (.ar .sub .i64 (.var 2) (.var 0)) (.ar .sub .i64 (.var 5) (.var 1))) (.ar .mul .i64 (.ar .sub .i64 (.var 3) (.var 1)) (.ar .sub .i64 (.var 4) (.var 0)))) (.lit 0))
 (.ret ((.v (.one (.z (.int .i64 (.lit 1))))),[],11))
 (.ret ((.v (.one (.z (.int .i64 (.lit 0))))),[],11))))
set_option maxRecDepth 100000 in
theorem c3j:T.norm 0 (call Tryz.prog ct0 (Lt.of []) 100 153 (i6 0 [pt,pt,pt]) [] 0) TT.ret=b1X:=by kernel_rfl
theorem b8L:b1X.low 1000=true:=by kernel_rfl
def b0q:TT j6:=
(.ite (.cmp .leq (.ar .add .i64 (.ar .mul .i64 (.ar .sub .i64 (.var 4) (.var 2)) (.ar .sub .i64 (.var 0) (.var 2))) (.ar .mul .i64 (.ar .sub .i64 (.var 5) (.var 3)) (.ar .sub .i64 (.var 1) (.var 3)))) (.lit 0))
 (.ob (.tru (.cmp .leq (.lit 0) (.ar .add .i64 (.ar .mul .i64 (.ar .sub .i64 (.var 0) (.var 2)) (.ar .sub .i64 (.var 0) (.var 2))) (.ar .mul .i64 (.ar .sub .i64 (.var 1) (.var 3)) (.ar .sub .i64 (.var 1) (.var 3))))))
 (.ob (.tru (.cmp .lss (.ar .add .i64 (.ar .mul .i64 (.ar .sub .i64 (.var 0) (.var 2)) (.ar .sub .i64 (.var 0) (.var 2))) (.ar .mul .i64 (.ar .sub .i64 (.var 1) (.var 3)) (.ar .sub .i64 (.var 1) (.var 3)))) (.lit 9223372036854775808)))
 (.ob (.tru (.lit true))
 (.ob (.tru (.lit true))
 (.ob (.tru (.cmp .leq (.lit 0) (.ar .mul .i64 (.var 6) (.var 6))))
 (.ob (.tru (.cmp .lss (.ar .mul .i64 (.var 6) (.var 6)) (.lit 9223372036854775808)))
 (.ob (.tru (.lit true))
 (.ob (.tru (.lit true))
 (.ret ((.v (.one (.z (.bool (.fn 0 (.i (.ar .add .i64 (.ar .mul .i64 (.ar .sub .i64 (.var 0) (.var 2)) (.ar .sub .i64 (.var 0) (.var 2))) (.ar .mul .i64 (.ar .sub .i64 (.var 1) (.var 3)) (.ar .sub .i64 (.var 1) (.var 3)))) (.i (.lit 1) (.i (.ar .mul .i64 (.var 6) (.var 6)) (.i (.lit 1) .nil))))))))),[],20))))))))))
 (.ite (.cmp .geq (.ar .add .i64 (.ar .mul .i64 (.ar .sub .i64 (.var 4) (.var 2)) (.ar .sub .i64 (.var 0) (.var 2))) (.ar .mul .i64 (.ar .sub .i64 (.var 5) (.var 3)) (.ar .sub .i64 (.var 1) (.var 3)))) (.ar .add .i64 (.ar .mul .i64 (.ar .sub .i64 (.var 4) (.var 2)) (.ar .sub .i64 (.var 4) (.var 2))) (.ar .mul .i64 (.ar .sub .i64 (.var 5) (.var 3)) (.ar .sub .i64 (.var 5) (.var 3)))))
 (.ob (.tru (.cmp .leq (.lit 0) (.ar .add .i64 (.ar .mul .i64 (.ar .sub .i64 (.var 0) (.var 4)) (.ar .sub .i64 (.var 0) (.var 4))) (.ar .mul .i64 (.ar .sub .i64 (.var 1) (.var 5)) (.ar .sub .i64 (.var 1) (.var 5))))))
 (.ob (.tru (.cmp .lss (.ar .add .i64 (.ar .mul .i64 (.ar .sub .i64 (.var 0) (.var 4)) (.ar .sub .i64 (.var 0) (.var 4))) (.ar .mul .i64 (.ar .sub .i64 (.var 1) (.var 5)) (.ar .sub .i64 (.var 1) (.var 5)))) (.lit 9223372036854775808)))
 (.ob (.tru (.lit true))
 (.ob (.tru (.lit true))
 (.ob (.tru (.cmp .leq (.lit 0) (.ar .mul .i64 (.var 6) (.var 6))))
 (.ob (.tru (.cmp .lss (.ar .mul .i64 (.var 6) (.var 6)) (.lit 9223372036854775808)))
 (.ob (.tru (.lit true))
 (.ob (.tru (.lit true))
 (.ret ((.v (.one (.z (.bool (.fn 0 (.i (.ar .add .i64 (.ar .mul .i64 (.ar .sub .i64 (.var 0) (.var 4)) (.ar .sub .i64 (.var 0) (.var 4))) (.ar .mul .i64 (.ar .sub .i64 (.var 1) (.var 5)) (.ar .sub .i64 (.var 1) (.var 5)))) (.i (.lit 1) (.i (.ar .mul .i64 (.var 6) (.var 6)) (.i (.lit 1) .nil))))))))),[],24))))))))))
 (.ob (.tru (.cmp .leq (.lit 0) (.mx (.ar .sub .i64 (.ar .mul .i64 (.ar .sub .i64 (.var 4) (.var 2)) (.ar .sub .i64 (.var 1) (.var 3))) (.ar .mul .i64 (.ar .sub .i64 (.var 5) (.var 3)) (.ar .sub .i64 (.var 0) (.var 2)))) (.ar .sub .i64 (.lit 0) (.ar .sub .i64 (.ar .mul .i64 (.ar .sub .i64 (.var 4) (.var 2)) (.ar .sub .i64 (.var 1) (.var 3))) (.ar .mul .i64 (.ar .sub .i64 (.var 5) (.var 3)) (.ar .sub .i64 (.var 0) (.var 2))))))))
 (.ob (.tru (.cmp .lss (.mx (.ar .sub .i64 (.ar .mul .i64 (.ar .sub .i64 (.var 4) (.var 2)) (.ar .sub .i64 (.var 1) (.var 3))) (.ar .mul .i64 (.ar .sub .i64 (.var 5) (.var 3)) (.ar .sub .i64 (.var 0) (.var 2)))) (.ar .sub .i64 (.lit 0) (.ar .sub .i64 (.ar .mul .i64 (.ar .sub .i64 (.var 4) (.var 2)) (.ar .sub .i64 (.var 1) (.var 3))) (.ar .mul .i64 (.ar .sub .i64 (.var 5) (.var 3)) (.ar .sub .i64 (.var 0) (.var 2)))))) (.lit 9223372036854775808)))
 (.ob (.tru (.cmp .leq (.lit 0) (.mx (.ar .sub .i64 (.ar .mul .i64 (.ar .sub .i64 (.var 4) (.var 2)) (.ar .sub .i64 (.var 1) (.var 3))) (.ar .mul .i64 (.ar .sub .i64 (.var 5) (.var 3)) (.ar .sub .i64 (.var 0) (.var 2)))) (.ar .sub .i64 (.lit 0) (.ar .sub .i64 (.ar .mul .i64 (.ar .sub .i64 (.var 4) (.var 2)) (.ar .sub .i64 (.var 1) (.var 3))) (.ar .mul .i64 (.ar .sub .i64 (.var 5) (.var 3)) (.ar .sub .i64 (.var 0) (.var 2))))))))
 (.ob (.tru (.cmp .lss (.mx (.ar .sub .i64 (.ar .mul .i64 (.ar .sub .i64 (.var 4) (.var 2)) (.ar .sub .i64 (.var 1) (.var 3))) (.ar .mul .i64 (.ar .sub .i64 (.var 5) (.var 3)) (.ar .sub .i64 (.var 0) (.var 2)))) (.ar .sub .i64 (.lit 0) (.ar .sub .i64 (.ar .mul .i64 (.ar .sub .i64 (.var 4) (.var 2)) (.ar .sub .i64 (.var 1) (.var 3))) (.ar .mul .i64 (.ar .sub .i64 (.var 5) (.var 3)) (.ar .sub .i64 (.var 0) (.var 2)))))) (.lit 9223372036854775808)))
 (.ob (.tru (.cmp .leq (.lit 0) (.ar .mul .i64 (.var 6) (.var 6))))
 (.ob (.tru (.cmp .lss (.ar .mul .i64 (.var 6) (.var 6)) (.lit 9223372036854775808)))
 (.ob (.tru (.cmp .leq (.lit 0) (.ar .add .i64 (.ar .mul .i64 (.ar .sub .i64 (.var 4) (.var 2)) (.ar .sub .i64 (.var 4) (.var 2))) (.ar .mul .i64 (.ar .sub .i64 (.var 5) (.var 3)) (.ar .sub .i64 (.var 5) (.var 3))))))
 (.ob (.tru (.cmp .lss (.ar .add .i64 (.ar .mul .i64 (.ar .sub .i64 (.var 4) (.var 2)) (.ar .sub .i64 (.var 4) (.var 2))) (.ar .mul .i64 (.ar .sub .i64 (.var 5) (.var 3)) (.ar .sub .i64 (.var 5) (.var 3)))) (.lit 9223372036854775808)))
 (.ret ((.v (.one (.z (.bool (.fn 0 (.i (.mx (.ar .sub .i64 (.ar .mul .i64 (.ar .sub .i64 (.var 4) (.var 2)) (.ar .sub .i64 (.var 1) (.var 3))) (.ar .mul .i64 (.ar .sub .i64 (.var 5) (.var 3)) (.ar .sub .i64 (.var 0) (.var 2)))) (.ar .sub .i64 (.lit 0) (.ar .sub .i64 (.ar .mul .i64 (.ar .sub .i64 (.var 4) (.var 2)) (.ar .sub .i64 (.var 1) (.var 3))) (.ar .mul .i64 (.ar .sub .i64 (.var 5) (.var 3)) (.ar .sub .i64 (.var 0) (.var 2)))))) (.i (.mx (.ar .sub .i64 (.ar .mul .i64 (.ar .sub .i64 (.var 4) (.var 2)) (.ar .sub .i64 (.var 1) (.var 3))) (.ar .mul .i64 (.ar .sub .i64 (.var 5) (.var 3)) (.ar .sub .i64 (.var 0) (.var 2)))) (.ar .sub .i64 (.lit 0) (.ar .sub .i64 (.ar .mul .i64 (.ar .sub .i64 (.var 4) (.var 2)) (.ar .sub .i64 (.var 1) (.var 3))) (.ar .mul .i64 (.ar .sub .i64 (.var 5) (.var 3)) (.ar .sub .i64 (.var 0) (.var 2)))))) (.i (.ar .mul .i64 (.var 6) (.var 6)) (.i (.ar .add .i64 (.ar .mul .i64 (.ar .sub .i64 (.var 4) (.var 2)) (.ar .sub .i64 (.var 4) (.var 2))) (.ar .mul .i64 (.ar .sub .i64 (.var 5) (.var 3)) (.ar .sub .i64 (.var 5) (.var 3)))) .nil))))))))),[],20))))))))))))
set_option maxRecDepth 100000 in
theorem c1K:T.norm 0 (call Tryz.prog ct0 (Lt.of []) 100 198 (i6 0 [pt,pt,pt,it]) [] 0) TT.ret=b0q:=by kernel_rfl
theorem b8e:b0q.low 1000=true:=by kernel_rfl
def c9(ds:List D)(k:Nat):Int:=(ds.getD k (.i 0)).int
def bAt(ds:List D)(k:Nat):Bool:=(ds.getD k (.i 0)).bool
def d9(ds:List D)(k:Nat):Rows:=(ds.getD k (.i 0)).rows
theorem d2p(I:Interp)(W:World)(ds:List D)(k:Nat):(f0 I W ds).i k=c9 ds k:=rfl
theorem d1X(I:Interp)(W:World)(ds:List D)(k:Nat):(f0 I W ds).b k=bAt ds k:=rfl
theorem J8(I:Interp)(W:World)(ds:List D)(k:Nat):(f0 I W ds).d k=d9 ds k:=rfl
theorem d7u(a b:Bool):((a&&b)=false)=¬(a=true∧b=true):=by cases a<;>cases b<;>simp
def lg(r:Rows)(i:Int)(j:Nat):Int:=(w8 r i j).int
def lb(r:Rows)(i:Int)(j:Nat):Bool:=(w8 r i j).bool
def lr(r:Rows)(i:Int)(j:Nat):Rows:=(w8 r i j).rows
theorem d3g(r:Rows)(i:Int)(j:Nat):(w8 r i j).int=lg r i j:=rfl
theorem d2j(r:Rows)(i:Int)(j:Nat):(w8 r i j).bool=lb r i j:=rfl
theorem d1k(r:Rows)(i:Int)(j:Nat):(w8 r i j).rows=lr r i j:=rfl
def p6(o:BinOp)(a b:Int):Prop:=
 match o with
 | .eql=>a=b | .neq=>a≠b | .lss=>a<b | .leq=>a≤b | .gtr=>b<a | .geq=>b≤a | _=>False
theorem x7(o:BinOp)(a b:Int):(u7 o a b=true)=p6 o a b:=by cases o<;>simp [u7,p6]
theorem d7l(o:BinOp)(a b:Int):(u7 o a b=false)=¬p6 o a b:=by cases o<;>simp [u7,p6]
def b3W:List D→Bool
 | [.i a,.i b,.i c,.i d]=>decide (a*b≤c*d)
 | _=>false
def I0:Interp:= { fi:=fun _ _=>0,fb:=fun n l=>match n with | 0=>b3W l | _=>false,fd:=fun _ _=>[] }
theorem d7C:GivesIf Tryz.prog 200 i4 (fun ds=>(0≤c9 ds 0∧c9 ds 0<9223372036854775808)∧(0≤c9 ds 1∧c9 ds 1<9223372036854775808)∧(0≤c9 ds 2∧c9 ds 2<9223372036854775808)∧(0≤c9 ds 3∧c9 ds 3<9223372036854775808))
 (fun ds=> .bool (decide (c9 ds 0*c9 ds 1≤c9 ds 2*c9 ds 3))):=by
 intro W vals ds hr hok
 obtain⟨v0,vs0,d0,ds0,rfl,rfl,⟨e0,rfl,h0⟩,hr⟩:=hr
 obtain⟨v1,vs1,d1,ds1,rfl,rfl,⟨e1,rfl,h1⟩,hr⟩:=hr
 obtain⟨v2,vs2,d2,ds2,rfl,rfl,⟨e2,rfl,h2⟩,hr⟩:=hr
 obtain⟨v3,vs3,d3,ds3,rfl,rfl,⟨e3,rfl,h3⟩,rfl,rfl⟩:=hr
 unfold CK.rep at h0 h1 h2 h3
 obtain⟨a,rfl,rfl⟩:=h0
 obtain⟨b,rfl,rfl⟩:=h1
 obtain⟨c,rfl,rfl⟩:=h2
 obtain⟨d,rfl,rfl⟩:=h3
 obtain⟨⟨q1,q2⟩,⟨q3,q4⟩,⟨q5,q6⟩,q7,q8⟩:=hok
 exact c7U a b c d W q1 q3 q5 q7 q2 q4 q6 q8
theorem b3O{ρ:Env}{e:E}(h:∀o∈nn e,o.ok ρ):0≤e.ev ρ∧e.ev ρ<9223372036854775808:=by
 have h1:=h _ (List.mem_cons_self ..)
 have h2:=h _ (List.mem_cons_of_mem _ (List.mem_cons_self ..))
 simp only[Ob.ok,B.cmpS_ev,x7,p6,E.ev] at h1 h2
 exact⟨h1,h2⟩
theorem b4w{ρ:Env}(h:∀l,ρ.fb 0 l=b3W l):i9 Tryz.prog ρ 200 c3x:=by
 refine A0 d7C (fun al v hv=> ?_)
 unfold d0N at hv
 split at hv
 ·rename_i a b c d
  obtain⟨ho,hv⟩:=T.res_obs hv
  obtain rfl:=g7 hv
  have n1:=b3O (fun o q=>ho o (by simp only[List.mem_append];exact .inl (.inl (.inl q))))
  have n2:=b3O (fun o q=>ho o (by simp only[List.mem_append];exact .inl (.inl (.inr q))))
  have n3:=b3O (fun o q=>ho o (by simp only[List.mem_append];exact .inl (.inr q)))
  have n4:=b3O (fun o q=>ho o (by simp only[List.mem_append];exact .inr q))
  refine⟨rfl,⟨n1,n2,n3,n4⟩,?_⟩
  split
  ·rfl
  ·show Value.bool (ρ.fb 0 _)=_
   rw[h]
   simp only[AL.ev]
   rfl
 ·exact hv.elim
theorem g8:
(∀ {p:Type} {q:Env→p→Prop} {r:Nat→LV→Prop} {t:Env} {u:p},TT.sat (TT.ret u) t q r=q t u)∧
(∀ {p:Type} {q:Env→p→Prop} {r:Nat→LV→Prop} {t:Env} {u:B} {w y:TT p},TT.sat (TT.ite u w y) t q r=((B.ev t u=true→TT.sat w t q r)∧(B.ev t u=false→TT.sat y t q r)))∧
(∀ {p:Type} {q:Env→p→Prop} {r:Nat→LV→Prop} {t:Env} {u:Ob} {w:TT p},TT.sat (TT.ob u w) t q r=(Ob.ok t u∧TT.sat w t q r))∧
(∀ {p:Type} {q:Env→p→Prop} {r:Nat→LV→Prop} {t:Env} {u:Nat} {w:Asg},TT.sat (TT.next u w) t q r=r u (Asg.val t w))∧
(∀ {p:Type} {q:Env→p→Prop} {r:Nat→LV→Prop} {t:Env} {u:String},TT.sat (TT.stuck u) t q r=False)∧
(∀ {p:Env} (q:Nat) (r:LV) (t:Nat),(Env.put p q r).i t=if t<q then p.i t else r.i (t-q))∧
(∀ {p:Env} (q:Nat) (r:LV) (t:Nat),(Env.put p q r).b t=if t<q then p.b t else r.b (t-q))∧
(∀ {p:Env} (q:Nat) (r:LV) (t:Nat),(Env.put p q r).d t=if t<q then p.d t else r.d (t-q))∧
(∀ {p:Env} (q:Nat) (r:LV),(Env.put p q r).fi=p.fi)∧
(∀ {p:Env} (q:Nat) (r:LV),(Env.put p q r).fb=p.fb)∧
(∀ {p:Env} (q:Nat) (r:LV),(Env.put p q r).fd=p.fd)∧
(∀(p:Env) (q:B),Ob.ok p (Ob.tru q)=(B.ev p q=true))∧
(∀(p:Env) (q:Bool),B.ev p (B.lit q)=q)∧
(∀(p:Env) (q:Nat),B.ev p (B.var q)=p.b q)∧
(∀(p:Env) (q:BinOp) (r t:E),B.ev p (B.cmp q r t)=u7 q (E.ev p r) (E.ev p t))∧
(∀(p:Env) (q:B),B.ev p (B.not q)= !B.ev p q)∧
(∀(p:Env) (q r:B),B.ev p (B.eqb q r)=(B.ev p q == B.ev p r))∧
(∀(p:Env) (q r:B),B.ev p (B.and q r)=(B.ev p q&&B.ev p r))∧
(∀(p:Env) (q:Nat) (r:AL),B.ev p (B.fn q r)=p.fb q (AL.ev p r))∧
(∀(p:Env) (q:X) (r:E) (t:Nat),B.ev p (B.rd q r t)=D.bool (w8 (X.ev p q) (E.ev p r) t))∧
(∀(p:Env) (q:Int),E.ev p (E.lit q)=q)∧
(∀(p:Env) (q:Nat),E.ev p (E.var q)=p.i q)∧
(∀(p:Env) (q:BinOp) (r:IntKind) (t u:E),E.ev p (E.ar q r t u)=B5 q r (E.ev p t) (E.ev p u))∧
(∀(p:Env) (q:IntKind) (r:E),E.ev p (E.wr q r)=IntKind.wrap q (E.ev p r))∧
(∀(p:Env) (q r:E),E.ev p (E.mx q r)=max (E.ev p q) (E.ev p r))∧
(∀(p:Env) (q r:E),E.ev p (E.mn q r)=min (E.ev p q) (E.ev p r))∧
(∀(p:Env) (q:Nat) (r:AL),E.ev p (E.fn q r)=p.fi q (AL.ev p r))∧
(∀(p:Env) (q:X),E.ev p (E.len q)=(↑(List.length (X.ev p q)):Int))∧
(∀(p:Env) (q:X) (r:E) (t:Nat),E.ev p (E.rd q r t)=D.int (w8 (X.ev p q) (E.ev p r) t))∧
(∀(p:Env) (q r:E),E.ev p (E.plus q r)=E.ev p q+E.ev p r)∧
(∀(p:Env) (q:Nat),X.ev p (X.var q)=p.d q)∧
(∀(p:Env),X.ev p X.nil=[])∧
(∀(p:Env) (q:X) (r:E) (t:Nat),X.ev p (X.rd q r t)=D.rows (w8 (X.ev p q) (E.ev p r) t))∧
(∀(p:Env) (q:X) (r t:E),X.ev p (X.sub q r t)=m8 (X.ev p q) (E.ev p r) (E.ev p t))∧
(∀(p:Env) (q r:X),X.ev p (X.app q r)=X.ev p q++X.ev p r)∧
(∀(p:Env) (q:AL),X.ev p (X.row q)=[AL.ev p q])∧
(∀(p:Env) (q:X) (r:E) (t:Nat) (u:AL),X.ev p (X.upd q r t u)=a0A (X.ev p q) (E.ev p r) t (AL.ev p u))∧
(∀(p:Env) (q:Nat) (r:AL),X.ev p (X.fn q r)=p.fd q (AL.ev p r))∧
(∀(p:Env) (q:E) (r:AL),X.ev p (X.rep q r)=List.replicate (Int.toNat (E.ev p q)) (AL.ev p r))∧
(∀(p:Env),AL.ev p AL.nil=[])∧
(∀(p:Env) (q:E) (r:AL),AL.ev p (AL.i q r)=D.i (E.ev p q)::AL.ev p r)∧
(∀(p:Env) (q:B) (r:AL),AL.ev p (AL.b q r)=D.b (B.ev p q)::AL.ev p r)∧
(∀(p:Env) (q:X) (r:AL),AL.ev p (AL.x q r)=D.l (X.ev p q)::AL.ev p r)∧
(∀(p:BinOp) (q r:Int),(u7 p q r=true)=p6 p q r)∧
(∀(p:BinOp) (q r:Int),(u7 p q r=false)=¬p6 p q r)∧
(∀(p:IntKind) (q r:Int),B5 BinOp.add p q r=IntKind.wrap p (q+r))∧
(∀(p:IntKind) (q r:Int),B5 BinOp.sub p q r=IntKind.wrap p (q-r))∧
(∀(p:IntKind) (q r:Int),B5 BinOp.mul p q r=IntKind.wrap p (q*r))∧
(∀(p:IntKind) (q r:Int),B5 BinOp.quo p q r=IntKind.wrap p (Int.tdiv q r))∧
(∀(p:IntKind) (q r:Int),B5 BinOp.rem p q r=Int.tmod q r)∧
(∀(p:IntKind) (q r:Int),B5 BinOp.shr p q r=Int.fdiv q (2^min (Int.toNat r) (IntKind.bits p)))∧
(∀(p:IntKind) (q r:Int),B5 BinOp.shl p q r=IntKind.wrap p (q*2^min (Int.toNat r) (IntKind.bits p)))∧
(∀(p:IntKind) (q r:Int),B5 BinOp.and p q r=N0 BinOp.and p q r)∧
(∀(p:IntKind) (q r:Int),B5 BinOp.or p q r=N0 BinOp.or p q r)∧
(∀(p:IntKind) (q r:Int),B5 BinOp.xor p q r=N0 BinOp.xor p q r)∧
(∀(p:IntKind) (q r:Int),B5 BinOp.andNot p q r=N0 BinOp.andNot p q r)∧
(∀(p:BinOp) (q:IntKind) (r t:Int),(p=BinOp.add→False)→(p=BinOp.sub→False)→(p=BinOp.mul→False)→(p=BinOp.quo→False)→(p=BinOp.rem→False)→(p=BinOp.shr→False)→(p=BinOp.shl→False)→(p=BinOp.and→False)→(p=BinOp.or→False)→(p=BinOp.xor→False)→(p=BinOp.andNot→False)→B5 p q r t=0)∧
(∀(p:V2),V.plain (V.v p)=V2.plain p)∧
(∀(p:List V2),V.plain (V.tup p)=List.all p V2.plain)∧
(∀(p:S),V2.plain (V2.one p)=S.plain p)∧
(∀(p:List S),V2.plain (V2.agg p)=List.all p S.plain)∧
(∀(p:S0),S.plain (S.z p)=S0.plain p)∧
(∀(p:S),(∀(s:S0),p=S.z s→False)→S.plain p=false)∧
(∀(p:B),S0.plain (S0.bool p)=true)∧
(∀(p:IntKind) (q:E),S0.plain (S0.int p q)=true)∧
(∀(p:Value),S0.plain (S0.const p)=true)∧
(∀(p:S0),(∀(b:B),p=S0.bool b→False)→(∀(k:IntKind) (e:E),p=S0.int k e→False)→(∀(v:Value),p=S0.const v→False)→S0.plain p=false)∧
(∀(p:Env) (q:V2),V.val p (V.v q)=V2.val p q)∧
(∀(p:Env) (q:List V2),V.val p (V.tup q)=Value.tuple (List.toArray (List.map (V2.val p) q)))∧
(∀(p:Env) (q:S),V2.val p (V2.one q)=S.val p q)∧
(∀(p:Env) (q:List S),V2.val p (V2.agg q)=Value.agg (List.toArray (List.map (S.val p) q)))∧
(∀(p:Env) (q:S0),S.val p (S.z q)=S0.val p q)∧
(∀(p:Env) (q:S),(∀(s:S0),q=S.z s→False)→S.val p q=undef)∧
(∀(p:Env) (q:B),S0.val p (S0.bool q)=Value.bool (B.ev p q))∧
(∀(p:Env) (q:IntKind) (r:E),S0.val p (S0.int q r)=Value.int q (E.ev p r))∧
(∀(p:Env) (q:Value),S0.val p (S0.const q)=q)∧
(∀(p:Env) (q:S0),(∀(b:B),q=S0.bool b→False)→(∀(k:IntKind) (e:E),q=S0.int k e→False)→(∀(v:Value),q=S0.const v→False)→S0.val p q=undef)∧
(∀(p:B),bV p=V.s0 (S0.bool p))∧
(∀(p:IntKind) (q:E),iV p q=V.s0 (S0.int p q))∧
(∀ {p:Type} {q:p} {r:List p} {t:p→Bool},List.all (q::r) t=(t q&&List.all r t))∧
(∀ {p:Type} {q:p→Bool},List.all [] q=true)∧
(∀(p:Bool),(p&&true)=p)∧
(∀(p:Bool),(p&&p)=p)∧
(∀(p:Interp) (q:World) (r:List D) (t:Nat),(f0 p q r).i t=c9 r t)∧
(∀(p:Interp) (q:World) (r:List D) (t:Nat),(f0 p q r).b t=bAt r t)∧
(∀(p:Interp) (q:World) (r:List D) (t:Nat),(f0 p q r).d t=d9 r t)∧
(∀ {p q:Type} {r:p→q} {t:p} {u:List p},List.map r (t::u)=r t::List.map r u)∧
(∀ {p q:Type} {r:p→q},List.map r []=[])∧
(∀(p:Prop),(True∧p)=p)∧
(∀(p:Bool),((!p)=true)=(p=false))∧
(∀(p:Bool),((!p)=false)=(p=true))∧
(∀(p:Bool),(!!p)=p)∧
(∀(p q:Bool),((p&&q)=true)=(p=true∧q=true))∧
(∀(p q:Bool),((p&&q)=false)=¬(p=true∧q=true))∧
(∀(p:Go.Proofs.YtldbejmgalhdaaaGreat.Rows) (q:Int) (r:Nat),D.int (w8 p q r)=lg p q r)∧
(∀(p:Go.Proofs.YtldbejmgalhdaaaGreat.Rows) (q:Int) (r:Nat),D.bool (w8 p q r)=lb p q r)∧
(∀(p:Go.Proofs.YtldbejmgalhdaaaGreat.Rows) (q:Int) (r:Nat),D.rows (w8 p q r)=lr p q r)∧
(∀(p q:Int),p6 BinOp.eql p q=(p=q))∧
(∀(p q:Int),p6 BinOp.neq p q=(p≠q))∧
(∀(p q:Int),p6 BinOp.lss p q=(p<q))∧
(∀(p q:Int),p6 BinOp.leq p q=(p≤q))∧
(∀(p q:Int),p6 BinOp.gtr p q=(q<p))∧
(∀(p q:Int),p6 BinOp.geq p q=(q≤p))∧
(∀(p:BinOp) (q r:Int),(p=BinOp.eql→False)→(p=BinOp.neq→False)→(p=BinOp.lss→False)→(p=BinOp.leq→False)→(p=BinOp.gtr→False)→(p=BinOp.geq→False)→p6 p q r=False)∧
(∀ {p:Env} (q:Asg) (r:Nat),(Asg.val p q).i r=match i8 q.i r with | some e=>E.ev p e | none=>0)∧
(∀ {p:Env} (q:Asg) (r:Nat),(Asg.val p q).b r=match i8 q.b r with | some e=>B.ev p e | none=>false)∧
(∀ {p:Env} (q:Asg) (r:Nat),(Asg.val p q).d r=match i8 q.d r with | some e=>X.ev p e | none=>[])∧
(∀ {p:Type} (q:Nat),i8 ([]:List (Nat×p)) q=none)∧
(∀ {p:Type} (q r:Nat) (t:p) (u:List (Nat×p)),i8 ((r,t)::u) q=if (r == q)=true then some t else i8 u q)∧
(∀ {p:Type} [q:BEq p] [r:ReflBEq p] (t:p),(t == t)=true)∧
((false=true)=False)∧
(∀ {p:Type} {q:Decidable True} (r t:p),(if True then r else t)=r)∧
(∀ {p:Type} {q:Decidable False} (r t:p),(if False then r else t)=t)∧
(∀(p:Nat),p-p=0)∧
(∀(p:Nat),¬p<p):=
⟨TT.sat_ret,TT.sat_ite,TT.sat_ob,TT.sat_next,TT.sat_stuck,a0W,d6A,B6,d3L,d4R,c5N,Ob.ok.eq_1,B.ev.eq_1,B.ev.eq_2,B.ev.eq_3,B.ev.eq_4,B.ev.eq_5,B.ev.eq_6,B.ev.eq_7,B.ev.eq_8,E.ev.eq_1,E.ev.eq_2,E.ev.eq_3,E.ev.eq_4,E.ev.eq_5,E.ev.eq_6,E.ev.eq_7,E.ev.eq_8,E.ev.eq_9,E.ev.eq_10,X.ev.eq_1,X.ev.eq_2,X.ev.eq_3,X.ev.eq_4,X.ev.eq_5,X.ev.eq_6,X.ev.eq_7,X.ev.eq_8,X.ev.eq_9,AL.ev.eq_1,AL.ev.eq_2,AL.ev.eq_3,AL.ev.eq_4,x7,d7l,B5.eq_1,B5.eq_2,B5.eq_3,B5.eq_4,B5.eq_5,B5.eq_6,B5.eq_7,B5.eq_8,B5.eq_9,B5.eq_10,B5.eq_11,B5.eq_12,V.plain.eq_1,V.plain.eq_2,V2.plain.eq_1,V2.plain.eq_2,S.plain.eq_1,S.plain.eq_2,S0.plain.eq_1,S0.plain.eq_2,S0.plain.eq_3,S0.plain.eq_4,V.val.eq_1,V.val.eq_2,V2.val.eq_1,V2.val.eq_2,S.val.eq_1,S.val.eq_2,S0.val.eq_1,S0.val.eq_2,S0.val.eq_3,S0.val.eq_4,bV.eq_1,iV.eq_1,List.all_cons,List.all_nil,Bool.and_true,Bool.and_self,d2p,d1X,J8,List.map_cons,List.map_nil,true_and,Bool.not_eq_true',Bool.not_eq_false',Bool.not_not,Bool.and_eq_true,d7u,d3g,d2j,d1k,p6.eq_1,p6.eq_2,p6.eq_3,p6.eq_4,p6.eq_5,p6.eq_6,p6.eq_7,j7,a9h,D4,i8.eq_1,i8.eq_2,beq_self_eq_true,Bool.false_eq_true,if_true,if_false,Nat.sub_self,Nat.lt_irrefl⟩
def g9(x y:Int):Bool:=decide (-1000000≤x∧x≤1000000∧ -1000000≤y∧y≤1000000)
theorem b4K{ρ:Env}(h:ρ.has I0):CtOk Tryz.prog ρ ct0:= .cons (b4w (fun l=>by rw[h.2.1];rfl)) .nil
theorem c7p:k8 Tryz.prog 54 [pt] (fun ds=> .bool (g9 (c9 ds 0) (c9 ds 1))):=by
 refine GivesIf.all (i7 I0 (by kernel_rfl) (fun ρ h=>b4K h) (by kernel_rfl) c3m b7G (by decide) (fun W vals ds _ _=> ?_))
 simp only[b2m,g8,Nat.reduceBEq,Nat.reduceLT,Nat.reduceSub]
 refine⟨fun h=>congrArg Value.bool ?_,fun h=>congrArg Value.bool ?_⟩
 ·rw[Bool.eq_iff_iff,x7]
  simp only[p6,g9,decide_eq_true_eq]
  omega
 ·rw[Bool.eq_iff_iff]
  simp only[g9,decide_eq_true_eq,Bool.false_eq_true,false_iff]
  omega
def f7(ax ay bx by' cx cy:Int):Int:=(bx-ax)*(cy-ay)-(by'-ay)*(cx-ax)
def J2(n:Int):Int:=if n<0 then -1 else if n>0 then 1 else 0
def A5(ax ay bx by' cx cy:Int):Int:=J2 (f7 ax ay bx by' cx cy)
theorem f8(n:Int)(h1: -9223372036854775808≤n)(h2:n<9223372036854775808):IntKind.i64.wrap n=n:=IntWalk.i64_in _ (by omega)
theorem N7{a b A B:Int}(ha: -A≤a)(ha':a≤A)(hb: -B≤b)(hb':b≤B): -(A*B)≤a*b∧a*b≤A*B:=by
 have hA:0≤A:=by omega
 have hB:0≤B:=by omega
 have h1:0≤(A-a)*(B+b):=Int.mul_nonneg (by omega) (by omega)
 have h2:0≤(A+a)*(B-b):=Int.mul_nonneg (by omega) (by omega)
 have h3:0≤(A-a)*(B-b):=Int.mul_nonneg (by omega) (by omega)
 have h4:0≤(A+a)*(B+b):=Int.mul_nonneg (by omega) (by omega)
 simp only[Int.sub_mul,Int.add_mul,Int.mul_sub,Int.mul_add] at h1 h2 h3 h4
 omega
theorem m6{a b:Int}(ha: -1000000≤a∧a≤1000000)(hb: -1000000≤b∧b≤1000000):IntKind.i64.wrap (a-b)=a-b:=f8 _ (by omega) (by omega)
theorem n9{a b c d:Int}(ha: -1000000≤a∧a≤1000000)(hb: -1000000≤b∧b≤1000000)(hc: -1000000≤c∧c≤1000000)(hd: -1000000≤d∧d≤1000000):
 IntKind.i64.wrap ((a-b)*(c-d))=(a-b)*(c-d)∧ -4000000000000≤(a-b)*(c-d)∧(a-b)*(c-d)≤4000000000000:=by
 have:=N7 (a:=a-b) (b:=c-d) (A:=2000000) (B:=2000000) (by omega) (by omega) (by omega) (by omega)
 exact⟨f8 _ (by omega) (by omega),by omega,by omega⟩
theorem L9{a b c d:Int}(ha: -1000000≤a∧a≤1000000)(hb: -1000000≤b∧b≤1000000)(hc: -1000000≤c∧c≤1000000)(hd: -1000000≤d∧d≤1000000):
 IntKind.i64.wrap ((a-b)*(c-d))=(a-b)*(c-d):=(n9 ha hb hc hd).1
theorem M8{a b c d e f g h:Int}(ha: -1000000≤a∧a≤1000000)(hb: -1000000≤b∧b≤1000000)(hc: -1000000≤c∧c≤1000000)(hd: -1000000≤d∧d≤1000000)
 (he: -1000000≤e∧e≤1000000) (hf: -1000000≤f∧f≤1000000) (hg: -1000000≤g∧g≤1000000) (hh: -1000000≤h∧h≤1000000):
 IntKind.i64.wrap ((a-b)*(c-d)+(e-f)*(g-h))=(a-b)*(c-d)+(e-f)*(g-h):=by
 have:=n9 ha hb hc hd
 have:=n9 he hf hg hh
 exact f8 _ (by omega) (by omega)
theorem Y1{a b c d e f g h:Int}(ha: -1000000≤a∧a≤1000000)(hb: -1000000≤b∧b≤1000000)(hc: -1000000≤c∧c≤1000000)(hd: -1000000≤d∧d≤1000000)
 (he: -1000000≤e∧e≤1000000) (hf: -1000000≤f∧f≤1000000) (hg: -1000000≤g∧g≤1000000) (hh: -1000000≤h∧h≤1000000):
 IntKind.i64.wrap ((a-b)*(c-d)-(e-f)*(g-h))=(a-b)*(c-d)-(e-f)*(g-h)∧IntKind.i64.wrap (0-((a-b)*(c-d)-(e-f)*(g-h)))=0-((a-b)*(c-d)-(e-f)*(g-h)):=by
 have:=n9 ha hb hc hd
 have:=n9 he hf hg hh
 exact⟨f8 _ (by omega) (by omega),f8 _ (by omega) (by omega)⟩
theorem b6q{d:Int}(hd:0≤d∧d≤3000000):IntKind.i64.wrap (d*d)=d*d∧0≤d*d∧d*d≤9000000000000:=by
 have:=N7 (a:=d) (b:=d) (A:=3000000) (B:=3000000) (by omega) (by omega) (by omega) (by omega)
 exact⟨f8 _ (by omega) (by omega),Int.mul_nonneg hd.1 hd.1,by omega⟩
theorem J0(a:Int):0≤a*a:=by
 rcases Int.le_total 0 a with h | h
 ·exact Int.mul_nonneg h h
 ·have e:a*a=(-a)*(-a):=by rw[Int.neg_mul_neg]
  rw[e]
  exact Int.mul_nonneg (by omega) (by omega)
def T0(ax ay bx by' cx cy:Int):Int:=(bx-ax)*(cx-ax)+(by'-ay)*(cy-ay)
def p7(ax ay bx by':Int):Int:=(bx-ax)*(bx-ax)+(by'-ay)*(by'-ay)
def B8(px py ax ay bx by' d:Int):Bool:=
 if T0 ax ay bx by' px py≤0 then decide (p7 ax ay px py≤d*d)
 else if p7 ax ay bx by'≤T0 ax ay bx by' px py then decide (p7 bx by' px py≤d*d)
 else decide (f7 ax ay bx by' px py*f7 ax ay bx by' px py≤d*d*p7 ax ay bx by')
def six(ds:List D):Prop:=(-1000000≤c9 ds 0∧c9 ds 0≤1000000)∧(-1000000≤c9 ds 1∧c9 ds 1≤1000000)∧(-1000000≤c9 ds 2∧c9 ds 2≤1000000)∧(-1000000≤c9 ds 3∧c9 ds 3≤1000000)∧(-1000000≤c9 ds 4∧c9 ds 4≤1000000)∧(-1000000≤c9 ds 5∧c9 ds 5≤1000000)
theorem c6A:GivesIf Tryz.prog 153 [pt,pt,pt] six (fun ds=> .int .i64 (A5 (c9 ds 0) (c9 ds 1) (c9 ds 2) (c9 ds 3) (c9 ds 4) (c9 ds 5))):=by
 refine i7 I0 (by kernel_rfl) (fun ρ h=>b4K h) (by kernel_rfl) c3j b8L (by decide) (fun W vals ds _ hok=> ?_)
 obtain⟨h0,h1,h2,h3,h4,h5⟩:=hok
 simp only[b1X,g8,Nat.reduceBEq,Nat.reduceLT,Nat.reduceSub]
 rw[m6 h2 h0,m6 h5 h1,m6 h3 h1,m6 h4 h0,(n9 h2 h0 h5 h1).1,(n9 h3 h1 h4 h0).1,f8 _ (by have:=n9 h2 h0 h5 h1;have:=n9 h3 h1 h4 h0;omega) (by have:=n9 h2 h0 h5 h1;have:=n9 h3 h1 h4 h0;omega)]
 refine⟨fun h=> ?_,fun h=>⟨fun h'=> ?_,fun h'=> ?_⟩⟩
 all_goals
  simp only[A5,J2,f7]
  congr 1
  (repeat' split)<;>omega
theorem c1y(c:Int):max c (0-c)*max c (0-c)=c*c:=by
 rcases Int.le_total 0 c with h | h
 ·rw[show max c (0-c)=c by omega]
 ·rw[show max c (0-c)= -c by omega,Int.neg_mul_neg]
theorem d4K(a b c d:Int):I0.fb 0 [.i a,.i b,.i c,.i d]=decide (a*b≤c*d):=rfl
theorem d5X:GivesIf Tryz.prog 198 [pt,pt,pt,it] (fun ds=>six ds∧0≤c9 ds 6∧c9 ds 6≤3000000) (fun ds=> .bool (B8 (c9 ds 0) (c9 ds 1) (c9 ds 2) (c9 ds 3) (c9 ds 4) (c9 ds 5) (c9 ds 6))):=by
 refine i7 I0 (by kernel_rfl) (fun ρ h=>b4K h) (by kernel_rfl) c1K b8e (by decide) (fun W vals ds _ hok=> ?_)
 obtain⟨⟨h0,h1,h2,h3,h4,h5⟩,h6⟩:=hok
 simp only[b0q,g8,Nat.reduceBEq,Nat.reduceLT,Nat.reduceSub]
 have c0:=b6q h6
 have d1:=n9 h0 h2 h0 h2
 have d2:=n9 h1 h3 h1 h3
 have d3:=n9 h0 h4 h0 h4
 have d4:=n9 h1 h5 h1 h5
 have d5:=n9 h4 h2 h4 h2
 have d6:=n9 h5 h3 h5 h3
 have d7:=n9 h4 h2 h1 h3
 have d8:=n9 h5 h3 h0 h2
 have n1:=J0 (c9 ds 0-c9 ds 2)
 have n2:=J0 (c9 ds 1-c9 ds 3)
 have n3:=J0 (c9 ds 0-c9 ds 4)
 have n4:=J0 (c9 ds 1-c9 ds 5)
 have n5:=J0 (c9 ds 4-c9 ds 2)
 have n6:=J0 (c9 ds 5-c9 ds 3)
 simp only[m6 h4 h2,m6 h0 h2,m6 h5 h3,m6 h1 h3,m6 h0 h4,m6 h1 h5,L9 h4 h2 h0 h2,L9 h5 h3 h1 h3,d1.1,d2.1,d3.1,d4.1,d5.1,d6.1,d7.1,d8.1,M8 h4 h2 h0 h2 h5 h3 h1 h3,
  M8 h0 h2 h0 h2 h1 h3 h1 h3,M8 h0 h4 h0 h4 h1 h5 h1 h5,M8 h4 h2 h4 h2 h5 h3 h5 h3,(Y1 h4 h2 h1 h3 h5 h3 h0 h2).1,(Y1 h4 h2 h1 h3 h5 h3 h0 h2).2,c0.1,c1y,
  show(f0 I0 W ds).fb=I0.fb from rfl,d4K,Int.mul_one]
 refine⟨fun h=>⟨?_,?_,?_,?_,?_⟩,fun h=>⟨fun h'=>⟨?_,?_,?_,?_,?_⟩,fun h'=>⟨?_,?_,?_,?_,?_,?_,?_,?_,?_⟩⟩⟩
 case refine_5=>unfold B8 T0 p7;rw[if_pos h]
 case refine_10=>unfold B8 T0 p7;rw[if_neg h,if_pos h']
 case refine_19=>unfold B8 T0 p7 f7;rw[if_neg h,if_neg h']
 all_goals omega
def s8(ds:List D):Bool:=g9 (c9 ds 0) (c9 ds 1)&&g9 (c9 ds 2) (c9 ds 3)&&g9 (c9 ds 4) (c9 ds 5)
def H5(ds:List D):Int:=A5 (c9 ds 0) (c9 ds 1) (c9 ds 2) (c9 ds 3) (c9 ds 4) (c9 ds 5)
def N1(ds:List D):Bool:=B8 (c9 ds 0) (c9 ds 1) (c9 ds 2) (c9 ds 3) (c9 ds 4) (c9 ds 5) (c9 ds 6)
def s9(ds:List D):Bool:=g9 (c9 ds 0) (c9 ds 1)
def I1:Interp:= { fi:=fun n l=>match n with | 0=>H5 l | _=>0,fb:=fun n l=>match n with | 0=>b3W l | 1=>s8 l | 2=>N1 l | 3=>s9 l | _=>false,fd:=fun _ _=>[] }
def d6e(al:AL):T V:= .ob (.tru (.fn 1 al)) (.ret (iV .i64 (.fn 0 al)))
def b5R(al:AL):T V:=match al with
 | .i a (.i b (.i c (.i d (.i e (.i f (.i r .nil))))))=>T.obs [.tru (.fn 1 (.i a (.i b (.i c (.i d (.i e (.i f .nil))))))),.tru (.cmpS .leq (.lit 0) r),.tru (.cmpS .leq r (.lit 3000000))] (.ret (bV (.fn 2 al)))
 | _=> .stuck "near"
def c5Y:=o7 [pt,pt,pt] d6e
def a9u:=o7 [pt,pt,pt,it] b5R
def c5I:=o7 [pt] fun al=> .ret (bV (.fn 3 al))
theorem t9{x y:Int}:g9 x y=true↔(-1000000≤x∧x≤1000000)∧ -1000000≤y∧y≤1000000:=by simp only[g9,decide_eq_true_eq];omega
theorem a3O{ds:List D}(h:s8 ds=true):six ds:=by
 simp only[s8,Bool.and_eq_true,t9] at h
 exact⟨h.1.1.1,h.1.1.2,h.1.2.1,h.1.2.2,h.2.1,h.2.2⟩
theorem c5o{ρ:Env}(h1:∀l,ρ.fb 1 l=s8 l)(h0:∀l,ρ.fi 0 l=H5 l):i9 Tryz.prog ρ 153 c5Y:=by
 refine A0 c6A (fun al v hv=> ?_)
 obtain⟨ho,hv⟩:=hv
 obtain rfl:=g7 hv
 have ho:ρ.fb 1 (al.ev ρ)=true:=by simpa only[Ob.ok,B.ev] using ho
 rw[h1] at ho
 refine⟨rfl,a3O ho,?_⟩
 simp only[iV,V.s0,V.val,V2.val,S.val,S0.val,E.ev,h0,H5]
theorem c6k{ρ:Env}(h1:∀l,ρ.fb 1 l=s8 l)(h2:∀l,ρ.fb 2 l=N1 l):i9 Tryz.prog ρ 198 a9u:=by
 refine A0 d5X (fun al v hv=> ?_)
 unfold b5R at hv
 split at hv
 ·rename_i a b c d e f r
  obtain⟨ho,hv⟩:=T.res_obs hv
  obtain rfl:=g7 hv
  have o1:=ho _ (List.mem_cons_self ..)
  have o2:=ho _ (List.mem_cons_of_mem _ (List.mem_cons_self ..))
  have o3:=ho _ (List.mem_cons_of_mem _ (List.mem_cons_of_mem _ (List.mem_cons_self ..)))
  simp only[Ob.ok,B.cmpS_ev,x7,p6,E.ev,B.ev,AL.ev,h1] at o1 o2 o3
  have q1:=a3O o1
  refine⟨rfl,⟨?_,?_,?_⟩,?_⟩
  ·simpa [six,c9,AL.ev] using q1
  ·simpa [c9,AL.ev,D.int] using o2
  ·simpa [c9,AL.ev,D.int] using o3
  ·simp only[bV,V.s0,V.val,V2.val,S.val,S0.val,B.ev,h2]
   rfl
 ·exact hv.elim
theorem c6S{ρ:Env}(h:∀l,ρ.fb 3 l=s9 l):i9 Tryz.prog ρ 54 c5I:=
 k5 c7p (fun _=>rfl) (fun al=>by simp only[bV,V.s0,V.val,V2.val,S.val,S0.val,B.ev,h,s9])
def ct1:Ct:=[(200,c3x),(153,c5Y),(198,a9u),(54,c5I)]
def lt1:Lt:=Lt.of [(152,0)]
theorem a6r{ρ:Env}(h:ρ.has I1):CtOk Tryz.prog ρ ct1:=
 .cons (b4w (fun l=>by rw[h.2.1];rfl))<| .cons (c5o (fun l=>by rw[h.2.1];rfl) (fun l=>by rw[h.1];rfl))<| .cons (c6k (fun l=>by rw[h.2.1];rfl) (fun l=>by rw[h.2.1];rfl))<| .cons (c6S (fun l=>by rw[h.2.1];rfl)) .nil
def b4O:TT j6:=
(.ite (.not (.fn 3 (.i (.var 0) (.i (.var 1) .nil))))
 (.ret ((.tup [(.one (.z (.int .i64 (.lit 0)))),(.one (.z (.int .i64 (.lit 1))))]),[],5))
 (.ite (.not (.fn 3 (.i (.var 2) (.i (.var 3) .nil))))
 (.ret ((.tup [(.one (.z (.int .i64 (.lit 0)))),(.one (.z (.int .i64 (.lit 1))))]),[],6))
 (.ite (.not (.fn 3 (.i (.var 4) (.i (.var 5) .nil))))
 (.ret ((.tup [(.one (.z (.int .i64 (.lit 0)))),(.one (.z (.int .i64 (.lit 1))))]),[],7))
 (.ob (.tru (.fn 1 (.i (.var 0) (.i (.var 1) (.i (.var 2) (.i (.var 3) (.i (.var 4) (.i (.var 5) .nil))))))))
 (.ret ((.tup [(.one (.z (.int .i64 (.fn 0 (.i (.var 0) (.i (.var 1) (.i (.var 2) (.i (.var 3) (.i (.var 4) (.i (.var 5) .nil)))))))))),(.one (.z (.int .i64 (.lit 0))))]),[],7))))))
set_option maxRecDepth 100000 in
theorem c4w:T.norm 0 (call Tryz.prog ct1 lt1 100 142 (i6 0 [pt,pt,pt]) [] 0) TT.ret=b4O:=by kernel_rfl
theorem c2e:b4O.low 1000=true:=by kernel_rfl
def c2n:TT j6:=
(.ob (.tru (.fn 1 (.i (.var 2) (.i (.var 3) (.i (.var 4) (.i (.var 5) (.i (.var 0) (.i (.var 1) .nil))))))))
(.ite (.cmp .eql (.fn 0 (.i (.var 2) (.i (.var 3) (.i (.var 4) (.i (.var 5) (.i (.var 0) (.i (.var 1) .nil))))))) (.lit 0))
 (.ite (.cmp .leq (.mn (.var 2) (.var 4)) (.var 0))
 (.ite (.cmp .leq (.var 0) (.mx (.var 2) (.var 4)))
 (.ite (.cmp .leq (.mn (.var 3) (.var 5)) (.var 1))
 (.ret ((.v (.one (.z (.bool (.cmp .leq (.var 1) (.mx (.var 3) (.var 5))))))),[],3))
 (.ret ((.v (.one (.z (.bool (.lit false))))),[],3)))
 (.ret ((.v (.one (.z (.bool (.lit false))))),[],3)))
 (.ret ((.v (.one (.z (.bool (.lit false))))),[],3)))
 (.ret ((.v (.one (.z (.bool (.lit false))))),[],3))))
set_option maxRecDepth 100000 in
theorem c7B:T.norm 0 (call Tryz.prog ct1 lt1 100 163 (i6 0 [pt,pt,pt]) [] 0) TT.ret=c2n:=by kernel_rfl
theorem c6B:c2n.low 1000=true:=by kernel_rfl
def b6M:TT j6:=
(.ite (.not (.fn 3 (.i (.var 0) (.i (.var 1) .nil))))
 (.ret ((.tup [(.one (.z (.bool (.lit false)))),(.one (.z (.int .i64 (.lit 1))))]),[],5))
 (.ite (.not (.fn 3 (.i (.var 2) (.i (.var 3) .nil))))
 (.ret ((.tup [(.one (.z (.bool (.lit false)))),(.one (.z (.int .i64 (.lit 1))))]),[],6))
 (.ite (.not (.fn 3 (.i (.var 4) (.i (.var 5) .nil))))
 (.ret ((.tup [(.one (.z (.bool (.lit false)))),(.one (.z (.int .i64 (.lit 1))))]),[],7))
 (.ite (.cmp .geq (.var 6) (.lit 0))
 (.ite (.not (.cmp .leq (.var 6) (.lit 3000000)))
 (.ret ((.tup [(.one (.z (.bool (.lit false)))),(.one (.z (.int .i64 (.lit 1))))]),[],7))
 (.ob (.tru (.fn 1 (.i (.var 0) (.i (.var 1) (.i (.var 2) (.i (.var 3) (.i (.var 4) (.i (.var 5) .nil))))))))
 (.ob (.tru (.cmp .leq (.lit 0) (.var 6)))
 (.ob (.tru (.cmp .leq (.var 6) (.lit 3000000)))
 (.ret ((.tup [(.one (.z (.bool (.fn 2 (.i (.var 0) (.i (.var 1) (.i (.var 2) (.i (.var 3) (.i (.var 4) (.i (.var 5) (.i (.var 6) .nil))))))))))),(.one (.z (.int .i64 (.lit 0))))]),[],7))))))
 (.ret ((.tup [(.one (.z (.bool (.lit false)))),(.one (.z (.int .i64 (.lit 1))))]),[],7))))))
set_option maxRecDepth 100000 in
theorem c4q:T.norm 0 (call Tryz.prog ct1 lt1 100 193 (i6 0 [pt,pt,pt,it]) [] 0) TT.ret=b6M:=by kernel_rfl
theorem c2o:b6M.low 1000=true:=by kernel_rfl
theorem a9v(W:World)(ds l:List D):(f0 I1 W ds).fb 3 l=s9 l:=rfl
theorem c1W(W:World)(ds l:List D):(f0 I1 W ds).fb 1 l=s8 l:=rfl
theorem d6r(W:World)(ds l:List D):(f0 I1 W ds).fb 2 l=N1 l:=rfl
theorem d0l(W:World)(ds l:List D):(f0 I1 W ds).fi 0 l=H5 l:=rfl
theorem U8(a b:Int):s9 [.i a,.i b]=g9 a b:=rfl
theorem U1(a b c d e f:Int):s8 [.i a,.i b,.i c,.i d,.i e,.i f]=(g9 a b&&g9 c d&&g9 e f):=rfl
theorem a2o(a b c d e f:Int):H5 [.i a,.i b,.i c,.i d,.i e,.i f]=A5 a b c d e f:=rfl
theorem c8B(a b c d e f r:Int):N1 [.i a,.i b,.i c,.i d,.i e,.i f,.i r]=B8 a b c d e f r:=rfl
def c3b(ds:List D):Value:=if s8 ds then .tuple #[.int .i64 (H5 ds),.int .i64 0] else .tuple #[.int .i64 0,.int .i64 1]
theorem d6v:k8 Tryz.prog 142 [pt,pt,pt] c3b:=by
 refine GivesIf.all (i7 I1 (by kernel_rfl) (fun ρ h=>a6r h) (by kernel_rfl) c4w c2e (by decide) (fun W vals ds _ _=> ?_))
 simp only[b4O,g8,Nat.reduceBEq,Nat.reduceLT,Nat.reduceSub,a9v,c1W,d0l,U8,U1,a2o]
 simp only[c3b,s8,H5]
 refine⟨fun h=> ?_,fun h=>⟨fun h'=> ?_,fun h'=>⟨fun h''=> ?_,fun h''=> ?_⟩⟩⟩<;>simp [*]
def D5(px py ax ay bx by':Int):Bool:=decide (A5 ax ay bx by' px py=0∧min ax bx≤px∧px≤max ax bx∧min ay by'≤py∧py≤max ay by')
def onL(ds:List D):Bool:=D5 (c9 ds 0) (c9 ds 1) (c9 ds 2) (c9 ds 3) (c9 ds 4) (c9 ds 5)
theorem d9h:GivesIf Tryz.prog 163 [pt,pt,pt] (fun ds=>s8 ds=true) (fun ds=> .bool (onL ds)):=by
 refine i7 I1 (by kernel_rfl) (fun ρ h=>a6r h) (by kernel_rfl) c7B c6B (by decide) (fun W vals ds _ hok=> ?_)
 simp only[s8,Bool.and_eq_true] at hok
 simp only[c2n,g8,Nat.reduceBEq,Nat.reduceLT,Nat.reduceSub,a9v,c1W,d0l,U1,a2o]
 simp only[onL,D5,hok,and_self,Value.bool.injEq,true_and]
 refine⟨fun h=>⟨fun h1=>⟨fun h2=>⟨fun h3=> ?_,fun h3=> ?_⟩,fun h2=> ?_⟩,fun h1=> ?_⟩,fun h=> ?_⟩
 all_goals first
  | (rw[Bool.eq_iff_iff,x7];simp only[p6,decide_eq_true_eq];omega)
  | (rw[Bool.eq_iff_iff];simp only[decide_eq_true_eq,Bool.false_eq_true,false_iff];omega)
def b0X(ok:Bool)(b:Bool):Value:= .tuple #[.bool (ok&&b),.int .i64 (if ok then 0 else 1)]
def A8(d:Int):Bool:=decide (0≤d∧d≤3000000)
def d0y(ds:List D):Value:=b0X (s8 ds&&A8 (c9 ds 6)) (N1 ds)
theorem d6Z:k8 Tryz.prog 193 [pt,pt,pt,it] d0y:=by
 refine GivesIf.all (i7 I1 (by kernel_rfl) (fun ρ h=>a6r h) (by kernel_rfl) c4q c2o (by decide) (fun W vals ds _ _=> ?_))
 simp only[b6M,g8,Nat.reduceBEq,Nat.reduceLT,Nat.reduceSub,a9v,c1W,d6r,U8,U1,c8B]
 simp only[d0y,b0X,s8,N1,A8]
 refine⟨fun h=> ?_,fun h=>⟨fun h'=> ?_,fun h'=>⟨fun h''=> ?_,fun h''=>⟨fun h1=>⟨fun h2=> ?_,fun h2=>⟨?_,?_,?_,?_⟩⟩,fun h1=> ?_⟩⟩⟩⟩
 all_goals first | omega | (simp [*];done) | (simp [*];omega)
def d0n:Nat→Int→Int→Int
 | 0,r,_=>r
 | k+1,r,n=>d0n k (if (r+((2^k:Nat):Int))*(r+((2^k:Nat):Int))≤n then r+((2^k:Nat):Int) else r) n
def d0D(n:Int):Int:=d0n 23 0 n
def a6F(ax ay bx by':Int):Int:=d0D (p7 ax ay bx by')
def d3Z(ax ay bx by':Int):Int:=if a6F ax ay bx by'*a6F ax ay bx by'=p7 ax ay bx by' then a6F ax ay bx by' else a6F ax ay bx by'+1
def c3l(ds:List D):Bool:=g9 (c9 ds 0) (c9 ds 1)&&g9 (c9 ds 2) (c9 ds 3)
def b7A(ds:List D):Int:=if c3l ds then a6F (c9 ds 0) (c9 ds 1) (c9 ds 2) (c9 ds 3) else 0
def b6z(ds:List D):Int:=if c3l ds then d3Z (c9 ds 0) (c9 ds 1) (c9 ds 2) (c9 ds 3) else 0
def c4h(ds:List D):Int:=if c3l ds then 0 else 1
def I2:Interp:= { fi:=fun n l=>match n with | 10=>b7A l | 11=>b6z l | 12=>c4h l | _=>0,fb:=fun n l=>match n with | 3=>s9 l | _=>false,fd:=fun _ _=>[] }
def d9e(r:Rows)(i:Int):Bool:=g9 (lg r i 0) (lg r i 1)&&g9 (lg r i 2) (lg r i 3)&&decide (¬(lg r i 0=lg r i 2∧lg r i 1=lg r i 3)∧1≤lg r i 4∧lg r i 4≤lg r i 5∧lg r i 5≤2000)
def b6B(r:Rows):Nat→Nat→Int→Int→Bool
 | 0,_,_,_=>true
 | f+1,i,x,y=>d9e r i&&decide (lg r i 0=x∧lg r i 1=y)&&b6B r f (i+1) (lg r i 2) (lg r i 3)
def a9y(t:Int):Bool:=decide (0≤t∧t≤10000000)
def a7T(lo hi off:Int)(r:Rows):Bool:=a9y lo&&a9y hi&&decide (lo≤hi∧0≤off∧off≤100000∧1≤r.length∧r.length≤40)&&b6B r r.length 0 (lg r 0 0) (lg r 0 1)
def d8z(ds:List D):Bool:=a7T (c9 ds 0) (c9 ds 1) (c9 ds 2) (d9 ds 3)
def dl(r:Rows)(i:Int):List D:=[.i (lg r i 0),.i (lg r i 1),.i (lg r i 2),.i (lg r i 3)]
def d7v(r:Rows)(i:Int):Int:=(b7A (dl r i)).tdiv (lg r i 5)
def d6k(r:Rows)(i:Int):Int:=(b6z (dl r i)+lg r i 4-1).tdiv (lg r i 4)
def tLo(r:Rows)(lo:Int):Nat→Int | 0=>lo | k+1=>tLo r lo k+d7v r k
def tHi(r:Rows)(hi:Int):Nat→Int | 0=>hi | k+1=>tHi r hi k+d6k r k
def c9X(r:Rows)(hi t:Int):Nat→Nat→Int×Int
 | 0,k=>(k,0)
 | f+1,k=>if 10000000<tHi r hi (k+1) then(0,3) else if t≤tHi r hi (k+1) then(k,0) else c9X r hi t f (k+1)
def d0u(ds:List D):Int×Int:=if a7T (c9 ds 0) (c9 ds 1) (c9 ds 2) (d9 ds 3)∧a9y (c9 ds 4) then c9X (d9 ds 3) (c9 ds 1) (c9 ds 4) (d9 ds 3).length 0 else(0,1)
end Go.Proofs.YtldbejmgalhdaaaGreat
