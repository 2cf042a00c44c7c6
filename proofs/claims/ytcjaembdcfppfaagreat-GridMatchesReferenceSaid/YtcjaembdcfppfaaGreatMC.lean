/- MC, merged: Ba, Bm, Ca, TCb, Cb, Cc0, TCc, Cc, Cd, Ce0, TCe, Ce, Cf0, TCf, Cf, Cg0, TCg, Cg, TCh, Ch, TCi, Ci, TCj, Cj, TCk, Ck, Cl, TCm, Cm, TCn, Cn. -/
import Derived.Test.YtcjaembdcfppfaaGreatProg
import Derived.WalkKit
import Derived.WalkSpells
import Derived.WalkLawsBesides
import Derived.Handy
import Derived.Lib.Hide
import Derived.Deep.RegionHeld3
import Derived.Shelf.Bits.Mul64
import Derived.Test.YtcjaembdcfppfaaGreatMK
set_option linter.unusedSimpArgs false
set_option linter.unusedVariables false
namespace Go.Proofs.YtcjaembdcfppfaaGreat
open Go.RowKit
theorem b4q{P:Program}(w:World)(ts:Array TypeId)(t:TypeId)(k k':IntKind)(x y:Int):(Builtin.max_ ts t #[.int k x,.int k' y]).run P w= .ok (.int k (max x y)) w:=by
 rw[run_max_int2];congr 2;split<;>omega
theorem b3H{P:Program}(w:World)(ts:Array TypeId)(t:TypeId)(k k':IntKind)(x y:Int):(Builtin.min_ ts t #[.int k x,.int k' y]).run P w= .ok (.int k (min x y)) w:=by
 rw[run_min_int2];congr 2;split<;>omega
attribute [local go_sem high] b4q b3H
def Ret(w:World)(v:Value)(e:Ending)(w':World):Prop:=e= .returned v∧Below w.heap.size w w'
theorem rb{a b:Bool}(h:(a=true)↔(b=true)):Ending.returned (.bool a)= .returned (.bool b):=by rw[Bool.eq_iff_iff.2 h]
end Go.Proofs.YtcjaembdcfppfaaGreat
namespace Go.Proofs.YtcjaembdcfppfaaGreat
open Go.RowKit
attribute [local go_sem high] b4q b3H
set_option maxHeartbeats 1000000 in
theorem a5Z(x y:Nat)(hx:x<18446744073709551616)(hy:y<18446744073709551616)(w:World):
 Calls Tryz.prog 91 #[.int .u64 x,.int .u64 y] w (Ret w (.tuple #[.int .u64 ((x*y/18446744073709551616:Nat):Int),.int .u64 ((x*y % 18446744073709551616:Nat):Int)])):=by
 obtain⟨bd,bt,bw,hhi⟩:=Lib.mul64_hi x y hx hy
 have ba:=Lib.half_mul_le (a:=x/4294967296) (b:=y/4294967296) (by omega) (by omega)
 have bb:=Lib.half_mul_le (a:=x/4294967296) (b:=y % 4294967296) (by omega) (by omega)
 have bc:=Lib.half_mul_le (a:=x % 4294967296) (b:=y/4294967296) (by omega) (by omega)
 have ba':x/4294967296*(y/4294967296)<18446744073709551616:=by omega
 have bb':x/4294967296*(y % 4294967296)<18446744073709551616:=by omega
 have bc':x % 4294967296*(y/4294967296)<18446744073709551616:=by omega
 have bh1:x/4294967296*(y/4294967296)+(x/4294967296*(y % 4294967296)+x % 4294967296*(y % 4294967296)/4294967296)/4294967296<18446744073709551616:=by omega
 have bh:x/4294967296*(y/4294967296)+(x/4294967296*(y % 4294967296)+x % 4294967296*(y % 4294967296)/4294967296)/4294967296+((x/4294967296*(y % 4294967296)+x % 4294967296*(y % 4294967296)/4294967296) % 4294967296+x % 4294967296*(y/4294967296))/4294967296<18446744073709551616:=by omega
 go_enter Tryz.func91,Tryz.ntmps91
 go_wp2
 simp only[Mul64.maskN x hx,Mul64.maskN y hy,Mul64.divN,Mul64.mulN,Mul64.addN,Mul64.wrapN _ bd,Mul64.wrapN _ bb',Mul64.wrapN _ bt,Mul64.maskN _ bt,Mul64.wrapN _ bc',Mul64.wrapN _ bw,Mul64.wrapN _ ba',Mul64.wrapN _ bh1,Mul64.wrapN _ bh,Mul64.wrapM (x*y)]
 rw[hhi]
 go_ret2
 exact⟨rfl,by(repeat' (first | (with_reducible exact Below.refl _ _) | (with_reducible assumption) | (with_reducible refine Below.alloc ?_ ?_ _) | (with_reducible refine Below.setCell ?_ ?_ _) | (with_reducible refine Below.drew ?_) | (with_reducible refine Below.trans ?_ (Below.mono (by assumption) ?_)) | omega | (dsimp only;omega) | ((repeat (first | rw[World.size_alloc] | rw[World.size_setCell] | rw[World.size_drew]));(try dsimp only);omega)))⟩
theorem c4C(a b c d:Nat):(decide (a*b/18446744073709551616<c*d/18446744073709551616)||(decide (a*b/18446744073709551616=c*d/18446744073709551616)&&decide (a*b % 18446744073709551616≤c*d % 18446744073709551616)))=decide (a*b≤c*d):=by
 rw[Bool.eq_iff_iff]
 simp only[Bool.or_eq_true,Bool.and_eq_true,decide_eq_true_eq]
 omega
set_option maxHeartbeats 1000000 in
theorem c6j(a b c d:Int)(w:World)(ha:0≤a)(hb:0≤b)(hc:0≤c)(hd:0≤d)(ha':a<9223372036854775808)(hb':b<9223372036854775808)(hc':c<9223372036854775808)(hd':d<9223372036854775808):
 Calls Tryz.prog 172 #[.int .i64 a,.int .i64 b,.int .i64 c,.int .i64 d] w (Ret w (.bool (decide (a*b≤c*d)))):=by
 obtain⟨a,rfl⟩:=Int.eq_ofNat_of_zero_le ha
 obtain⟨b,rfl⟩:=Int.eq_ofNat_of_zero_le hb
 obtain⟨c,rfl⟩:=Int.eq_ofNat_of_zero_le hc
 obtain⟨d,rfl⟩:=Int.eq_ofNat_of_zero_le hd
 have HR:Hid (decide ((a:Int)*b≤(c:Int)*d)=(decide (a*b/18446744073709551616<c*d/18446744073709551616)||(decide (a*b/18446744073709551616=c*d/18446744073709551616)&&decide (a*b % 18446744073709551616≤c*d % 18446744073709551616)))):=by
  show _=_
  rw[c4C,←Int.natCast_mul,←Int.natCast_mul,Bool.eq_iff_iff]
  simp only[decide_eq_true_eq]
  omega
 generalize hx1:a*b/18446744073709551616=x1 at HR
 generalize hx2:a*b % 18446744073709551616=x2 at HR
 generalize hy1:c*d/18446744073709551616=y1 at HR
 generalize hy2:c*d % 18446744073709551616=y2 at HR
 have h1:∀W,Calls Tryz.prog 91 #[.int .u64 a,.int .u64 b] W (Ret W (.tuple #[.int .u64 (x1:Int),.int .u64 (x2:Int)])):=fun W=>by
  have:=a5Z a b (by omega) (by omega) W
  rwa [hx1,hx2] at this
 have h2:∀W,Calls Tryz.prog 91 #[.int .u64 c,.int .u64 d] W (Ret W (.tuple #[.int .u64 (y1:Int),.int .u64 (y2:Int)])):=fun W=>by
  have:=a5Z c d (by omega) (by omega) W
  rwa [hy1,hy2] at this
 have H1:=Lib.hid h1
 have H2:=Lib.hid h2
 have e1:=Mul64.wrapN a (by omega)
 have e2:=Mul64.wrapN b (by omega)
 have e3:=Mul64.wrapN c (by omega)
 have e4:=Mul64.wrapN d (by omega)
 clear h1 h2 hx1 hx2 hy1 hy2 ha hb hc hd ha' hb' hc' hd'
 go_enter Tryz.func172,Tryz.ntmps172
 go_wp2_with fail
 refine(H1.out _).mono ?_
 rintro e w1 ⟨rfl,hb1⟩
 have hz1:=hb1.size
 go_wp2_with fail
 refine(H2.out _).mono ?_
 rintro e w2 ⟨rfl,hb2⟩
 have hz2:=hb2.size
 go_wp2
 all_goals
  go_ret
  exact⟨rb (by rw[HR.out];simp [*];try omega),by(repeat' (first | (with_reducible exact Below.refl _ _) | (with_reducible assumption) | (with_reducible refine Below.alloc ?_ ?_ _) | (with_reducible refine Below.setCell ?_ ?_ _) | (with_reducible refine Below.drew ?_) | (with_reducible refine Below.trans ?_ (Below.mono (by assumption) ?_)) | omega | (dsimp only;omega) | ((repeat (first | rw[World.size_alloc] | rw[World.size_setCell] | rw[World.size_drew]));(try dsimp only);omega)))⟩
end Go.Proofs.YtcjaembdcfppfaaGreat
namespace Go.Proofs.YtcjaembdcfppfaaGreat
open Go.RowKit
def i4:List Sh:=[.one (.int .i64),.one (.int .i64),.one (.int .i64),.one (.int .i64)]
def nn(e:E):List Ob:=[.tru (.cmpS .leq (.lit 0) e),.tru (.cmpS .lss e (.lit 9223372036854775808))]
def c8b(al:AL):T V:=match al with
 | .i a (.i b (.i c (.i d .nil)))=>T.obs (nn a++nn b++nn c++nn d) (.ret (bV (match a,b,c,d with | .lit x,.lit y,.lit z,.lit u=> .lit (decide (x*y≤z*u)) | _,_,_,_=> .fn 0 al)))
 | _=> .stuck "most"
def b8M:=u7 i4 c8b
def ct0:Ct:=[(172,b8M)]
def pt:Sh:= .agg [.int .i64,.int .i64]
def it:Sh:= .one (.int .i64)
def b0y:TT j4:=
(.ite (.cmp .leq (.mx (.var 0) (.var 1)) (.lit 1000000))
 (.ret ((.v (.one (.z (.bool (.cmp .geq (.mn (.var 0) (.var 1)) (.lit (-1000000))))))),[],1))
 (.ret ((.v (.one (.z (.bool (.lit false))))),[],1)))
set_option maxRecDepth 100000 in
theorem b8n:T.norm 0 (call Tryz.prog ct0 (Lt.of []) 100 53 (g7 0 [pt]) [] 0) TT.ret=b0y:=by kernel_rfl
theorem b5A:b0y.low 1000=true:=by kernel_rfl
def a9M:TT j4:=
(.ite (.cmp .lss (.ar .sub .i64 (.ar .mul .i64 (.ar .sub .i64 (.var 2) (.var 0)) (.ar .sub .i64 (.var 5) (.var 1))) (.ar .mul .i64 (.ar .sub .i64 (.var 3) (.var 1)) (.ar .sub .i64 (.var 4) (.var 0)))) (.lit 0))
 (.ret ((.v (.one (.z (.int .i64 (.lit (-1)))))),[],11))
 (.ite (.cmp .gtr (.ar .sub .i64 (.ar .mul .i64 (.ar .sub .i64 (.var 2) (.var 0)) (.ar .sub .i64 (.var 5) (.var 1))) (.ar .mul .i64 (.ar .sub .i64 (.var 3) (.var 1)) (.ar .sub .i64 (.var 4) (.var 0)))) (.lit 0))
 (.ret ((.v (.one (.z (.int .i64 (.lit 1))))),[],11))
 (.ret ((.v (.one (.z (.int .i64 (.lit 0))))),[],11))))
set_option maxRecDepth 100000 in
theorem b7R:T.norm 0 (call Tryz.prog ct0 (Lt.of []) 100 130 (g7 0 [pt,pt,pt]) [] 0) TT.ret=a9M:=by kernel_rfl
theorem b5S:a9M.low 1000=true:=by kernel_rfl
def a9W:TT j4:=
(.ite (.cmp .leq (.ar .add .i64 (.ar .mul .i64 (.ar .sub .i64 (.var 4) (.var 2)) (.ar .sub .i64 (.var 0) (.var 2))) (.ar .mul .i64 (.ar .sub .i64 (.var 5) (.var 3)) (.ar .sub .i64 (.var 1) (.var 3)))) (.lit 0))
 (.ob (.tru (.cmp .leq (.lit 0) (.ar .add .i64 (.ar .mul .i64 (.ar .sub .i64 (.var 0) (.var 2)) (.ar .sub .i64 (.var 0) (.var 2))) (.ar .mul .i64 (.ar .sub .i64 (.var 1) (.var 3)) (.ar .sub .i64 (.var 1) (.var 3))))))
 (.ob (.tru (.cmp .lss (.ar .add .i64 (.ar .mul .i64 (.ar .sub .i64 (.var 0) (.var 2)) (.ar .sub .i64 (.var 0) (.var 2))) (.ar .mul .i64 (.ar .sub .i64 (.var 1) (.var 3)) (.ar .sub .i64 (.var 1) (.var 3)))) (.lit 9223372036854775808)))
 (.ob (.tru (.lit true))
 (.ob (.tru (.lit true))
 (.ob (.tru (.cmp .leq (.lit 0) (.ar .mul .i64 (.var 6) (.var 6))))
 (.ob (.tru (.cmp .lss (.ar .mul .i64 (.var 6) (.var 6)) (.lit 9223372036854775808)))
 (.ob (.tru (.lit true))
 (.ob (.tru (.lit true))
 (.ret ((.v (.one (.z (.bool (.fn 0 (.i (.ar .add .i64 (.ar .mul .i64 (.ar .sub .i64 (.var 0) (.var 2)) (.ar .sub .i64 (.var 0) (.var 2))) (.ar .mul .i64 (.ar .sub .i64 (.var 1) (.var 3)) (.ar .sub .i64 (.var 1) (.var 3)))) (.i (.lit 1) (.i (.ar .mul .i64 (.var 6) (.var 6)) (.i (.lit 1) .nil))))))))),[],20))))))))))
 (.ite (.cmp .geq (.ar .add .i64 (.ar .mul .i64 (.ar .sub .i64 (.var 4) (.var 2)) (.ar .sub .i64 (.var 0) (.var 2))) (.ar .mul .i64 (.ar .sub .i64 (.var 5) (.var 3)) (.ar .sub .i64 (.var 1) (.var 3)))) (.ar .add .i64 (.ar .mul .i64 (.ar .sub .i64 (.var 4) (.var 2)) (.ar .sub .i64 (.var 4) (.var 2))) (.ar .mul .i64 (.ar .sub .i64 (.var 5) (.var 3)) (.ar .sub .i64 (.var 5) (.var 3)))))
 (.ob (.tru (.cmp .leq (.lit 0) (.ar .add .i64 (.ar .mul .i64 (.ar .sub .i64 (.var 0) (.var 4)) (.ar .sub .i64 (.var 0) (.var 4))) (.ar .mul .i64 (.ar .sub .i64 (.var 1) (.var 5)) (.ar .sub .i64 (.var 1) (.var 5))))))
 (.ob (.tru (.cmp .lss (.ar .add .i64 (.ar .mul .i64 (.ar .sub .i64 (.var 0) (.var 4)) (.ar .sub .i64 (.var 0) (.var 4))) (.ar .mul .i64 (.ar .sub .i64 (.var 1) (.var 5)) (.ar .sub .i64 (.var 1) (.var 5)))) (.lit 9223372036854775808)))
 (.ob (.tru (.lit true))
 (.ob (.tru (.lit true))
 (.ob (.tru (.cmp .leq (.lit 0) (.ar .mul .i64 (.var 6) (.var 6))))
 (.ob (.tru (.cmp .lss (.ar .mul .i64 (.var 6) (.var 6)) (.lit 9223372036854775808)))
 (.ob (.tru (.lit true))
 (.ob (.tru (.lit true))
 (.ret ((.v (.one (.z (.bool (.fn 0 (.i (.ar .add .i64 (.ar .mul .i64 (.ar .sub .i64 (.var 0) (.var 4)) (.ar .sub .i64 (.var 0) (.var 4))) (.ar .mul .i64 (.ar .sub .i64 (.var 1) (.var 5)) (.ar .sub .i64 (.var 1) (.var 5)))) (.i (.lit 1) (.i (.ar .mul .i64 (.var 6) (.var 6)) (.i (.lit 1) .nil))))))))),[],24))))))))))
 (.ob (.tru (.cmp .leq (.lit 0) (.mx (.ar .sub .i64 (.ar .mul .i64 (.ar .sub .i64 (.var 4) (.var 2)) (.ar .sub .i64 (.var 1) (.var 3))) (.ar .mul .i64 (.ar .sub .i64 (.var 5) (.var 3)) (.ar .sub .i64 (.var 0) (.var 2)))) (.ar .sub .i64 (.lit 0) (.ar .sub .i64 (.ar .mul .i64 (.ar .sub .i64 (.var 4) (.var 2)) (.ar .sub .i64 (.var 1) (.var 3))) (.ar .mul .i64 (.ar .sub .i64 (.var 5) (.var 3)) (.ar .sub .i64 (.var 0) (.var 2))))))))
 (.ob (.tru (.cmp .lss (.mx (.ar .sub .i64 (.ar .mul .i64 (.ar .sub .i64 (.var 4) (.var 2)) (.ar .sub .i64 (.var 1) (.var 3))) (.ar .mul .i64 (.ar .sub .i64 (.var 5) (.var 3)) (.ar .sub .i64 (.var 0) (.var 2)))) (.ar .sub .i64 (.lit 0) (.ar .sub .i64 (.ar .mul .i64 (.ar .sub .i64 (.var 4) (.var 2)) (.ar .sub .i64 (.var 1) (.var 3))) (.ar .mul .i64 (.ar .sub .i64 (.var 5) (.var 3)) (.ar .sub .i64 (.var 0) (.var 2)))))) (.lit 9223372036854775808)))
 (.ob (.tru (.cmp .leq (.lit 0) (.mx (.ar .sub .i64 (.ar .mul .i64 (.ar .sub .i64 (.var 4) (.var 2)) (.ar .sub .i64 (.var 1) (.var 3))) (.ar .mul .i64 (.ar .sub .i64 (.var 5) (.var 3)) (.ar .sub .i64 (.var 0) (.var 2)))) (.ar .sub .i64 (.lit 0) (.ar .sub .i64 (.ar .mul .i64 (.ar .sub .i64 (.var 4) (.var 2)) (.ar .sub .i64 (.var 1) (.var 3))) (.ar .mul .i64 (.ar .sub .i64 (.var 5) (.var 3)) (.ar .sub .i64 (.var 0) (.var 2))))))))
 (.ob (.tru (.cmp .lss (.mx (.ar .sub .i64 (.ar .mul .i64 (.ar .sub .i64 (.var 4) (.var 2)) (.ar .sub .i64 (.var 1) (.var 3))) (.ar .mul .i64 (.ar .sub .i64 (.var 5) (.var 3)) (.ar .sub .i64 (.var 0) (.var 2)))) (.ar .sub .i64 (.lit 0) (.ar .sub .i64 (.ar .mul .i64 (.ar .sub .i64 (.var 4) (.var 2)) (.ar .sub .i64 (.var 1) (.var 3))) (.ar .mul .i64 (.ar .sub .i64 (.var 5) (.var 3)) (.ar .sub .i64 (.var 0) (.var 2)))))) (.lit 9223372036854775808)))
 (.ob (.tru (.cmp .leq (.lit 0) (.ar .mul .i64 (.var 6) (.var 6))))
 (.ob (.tru (.cmp .lss (.ar .mul .i64 (.var 6) (.var 6)) (.lit 9223372036854775808)))
 (.ob (.tru (.cmp .leq (.lit 0) (.ar .add .i64 (.ar .mul .i64 (.ar .sub .i64 (.var 4) (.var 2)) (.ar .sub .i64 (.var 4) (.var 2))) (.ar .mul .i64 (.ar .sub .i64 (.var 5) (.var 3)) (.ar .sub .i64 (.var 5) (.var 3))))))
 (.ob (.tru (.cmp .lss (.ar .add .i64 (.ar .mul .i64 (.ar .sub .i64 (.var 4) (.var 2)) (.ar .sub .i64 (.var 4) (.var 2))) (.ar .mul .i64 (.ar .sub .i64 (.var 5) (.var 3)) (.ar .sub .i64 (.var 5) (.var 3)))) (.lit 9223372036854775808)))
 (.ret ((.v (.one (.z (.bool (.fn 0 (.i (.mx (.ar .sub .i64 (.ar .mul .i64 (.ar .sub .i64 (.var 4) (.var 2)) (.ar .sub .i64 (.var 1) (.var 3))) (.ar .mul .i64 (.ar .sub .i64 (.var 5) (.var 3)) (.ar .sub .i64 (.var 0) (.var 2)))) (.ar .sub .i64 (.lit 0) (.ar .sub .i64 (.ar .mul .i64 (.ar .sub .i64 (.var 4) (.var 2)) (.ar .sub .i64 (.var 1) (.var 3))) (.ar .mul .i64 (.ar .sub .i64 (.var 5) (.var 3)) (.ar .sub .i64 (.var 0) (.var 2)))))) (.i (.mx (.ar .sub .i64 (.ar .mul .i64 (.ar .sub .i64 (.var 4) (.var 2)) (.ar .sub .i64 (.var 1) (.var 3))) (.ar .mul .i64 (.ar .sub .i64 (.var 5) (.var 3)) (.ar .sub .i64 (.var 0) (.var 2)))) (.ar .sub .i64 (.lit 0) (.ar .sub .i64 (.ar .mul .i64 (.ar .sub .i64 (.var 4) (.var 2)) (.ar .sub .i64 (.var 1) (.var 3))) (.ar .mul .i64 (.ar .sub .i64 (.var 5) (.var 3)) (.ar .sub .i64 (.var 0) (.var 2)))))) (.i (.ar .mul .i64 (.var 6) (.var 6)) (.i (.ar .add .i64 (.ar .mul .i64 (.ar .sub .i64 (.var 4) (.var 2)) (.ar .sub .i64 (.var 4) (.var 2))) (.ar .mul .i64 (.ar .sub .i64 (.var 5) (.var 3)) (.ar .sub .i64 (.var 5) (.var 3)))) .nil))))))))),[],20))))))))))))
set_option maxRecDepth 100000 in
theorem b9U:T.norm 0 (call Tryz.prog ct0 (Lt.of []) 100 170 (g7 0 [pt,pt,pt,it]) [] 0) TT.ret=a9W:=by kernel_rfl
theorem b5F:a9W.low 1000=true:=by kernel_rfl
def a7(ds:List D)(k:Nat):Int:=(ds.getD k (.i 0)).int
def bAt(ds:List D)(k:Nat):Bool:=(ds.getD k (.i 0)).bool
def b9(ds:List D)(k:Nat):Rows:=(ds.getD k (.i 0)).rows
theorem w6(I:Interp)(W:World)(ds:List D)(k:Nat):(a9 I W ds).i k=a7 ds k:=rfl
theorem d0c(I:Interp)(W:World)(ds:List D)(k:Nat):(a9 I W ds).b k=bAt ds k:=rfl
theorem Z9(I:Interp)(W:World)(ds:List D)(k:Nat):(a9 I W ds).d k=b9 ds k:=rfl
theorem d4I(a b:Bool):((a&&b)=false)=¬(a=true∧b=true):=by cases a<;>cases b<;>simp
def lg(r:Rows)(i:Int)(j:Nat):Int:=(u9 r i j).int
def lb(r:Rows)(i:Int)(j:Nat):Bool:=(u9 r i j).bool
def lr(r:Rows)(i:Int)(j:Nat):Rows:=(u9 r i j).rows
theorem c8m(r:Rows)(i:Int)(j:Nat):(u9 r i j).int=lg r i j:=rfl
theorem c9Z(r:Rows)(i:Int)(j:Nat):(u9 r i j).bool=lb r i j:=rfl
theorem c8d(r:Rows)(i:Int)(j:Nat):(u9 r i j).rows=lr r i j:=rfl
def j8(o:BinOp)(a b:Int):Prop:=
 match o with
 | .eql=>a=b | .neq=>a≠b | .lss=>a<b | .leq=>a≤b | .gtr=>b<a | .geq=>b≤a | _=>False
theorem n8(o:BinOp)(a b:Int):(B6 o a b=true)=j8 o a b:=by cases o<;>simp [B6,j8]
theorem a2w(o:BinOp)(a b:Int):(B6 o a b=false)=¬j8 o a b:=by cases o<;>simp [B6,j8]
def b1H:List D→Bool
 | [.i a,.i b,.i c,.i d]=>decide (a*b≤c*d)
 | _=>false
def I0:Interp:= { fi:=fun _ _=>0,fb:=fun n l=>match n with | 0=>b1H l | _=>false,fd:=fun _ _=>[] }
theorem d4x:GivesIf Tryz.prog 172 i4 (fun ds=>(0≤a7 ds 0∧a7 ds 0<9223372036854775808)∧(0≤a7 ds 1∧a7 ds 1<9223372036854775808)∧(0≤a7 ds 2∧a7 ds 2<9223372036854775808)∧(0≤a7 ds 3∧a7 ds 3<9223372036854775808))
 (fun ds=> .bool (decide (a7 ds 0*a7 ds 1≤a7 ds 2*a7 ds 3))):=by
 intro W vals ds hr hok
 obtain⟨v0,vs0,d0,ds0,rfl,rfl,⟨e0,rfl,h0⟩,hr⟩:=hr
 obtain⟨v1,vs1,d1,ds1,rfl,rfl,⟨e1,rfl,h1⟩,hr⟩:=hr
 obtain⟨v2,vs2,d2,ds2,rfl,rfl,⟨e2,rfl,h2⟩,hr⟩:=hr
 obtain⟨v3,vs3,d3,ds3,rfl,rfl,⟨e3,rfl,h3⟩,rfl,rfl⟩:=hr
 unfold CK.rep at h0 h1 h2 h3
 obtain⟨a,rfl,rfl⟩:=h0
 obtain⟨b,rfl,rfl⟩:=h1
 obtain⟨c,rfl,rfl⟩:=h2
 obtain⟨d,rfl,rfl⟩:=h3
 obtain⟨⟨q1,q2⟩,⟨q3,q4⟩,⟨q5,q6⟩,q7,q8⟩:=hok
 exact c6j a b c d W q1 q3 q5 q7 q2 q4 q6 q8
theorem b1V{ρ:Env}{e:E}(h:∀o∈nn e,o.ok ρ):0≤e.ev ρ∧e.ev ρ<9223372036854775808:=by
 have h1:=h _ (List.mem_cons_self ..)
 have h2:=h _ (List.mem_cons_of_mem _ (List.mem_cons_self ..))
 simp only[Ob.ok,B.cmpS_ev,n8,j8,E.ev] at h1 h2
 exact⟨h1,h2⟩
theorem b3A{ρ:Env}(h:∀l,ρ.fb 0 l=b1H l):i9 Tryz.prog ρ 172 b8M:=by
 refine C7 d4x (fun al v hv=> ?_)
 unfold c8b at hv
 split at hv
 ·rename_i a b c d
  obtain⟨ho,hv⟩:=T.res_obs hv
  obtain rfl:=c9 hv
  have n1:=b1V (fun o q=>ho o (by simp only[List.mem_append];exact .inl (.inl (.inl q))))
  have n2:=b1V (fun o q=>ho o (by simp only[List.mem_append];exact .inl (.inl (.inr q))))
  have n3:=b1V (fun o q=>ho o (by simp only[List.mem_append];exact .inl (.inr q)))
  have n4:=b1V (fun o q=>ho o (by simp only[List.mem_append];exact .inr q))
  refine⟨rfl,⟨n1,n2,n3,n4⟩,?_⟩
  split
  ·rfl
  ·show Value.bool (ρ.fb 0 _)=_
   rw[h]
   simp only[AL.ev]
   rfl
 ·exact hv.elim
theorem g9:
(∀ {p:Type} {q:Env→p→Prop} {r:Nat→LV→Prop} {t:Env} {u:p},TT.sat (TT.ret u) t q r=q t u)∧
(∀ {p:Type} {q:Env→p→Prop} {r:Nat→LV→Prop} {t:Env} {u:B} {w y:TT p},TT.sat (TT.ite u w y) t q r=((B.ev t u=true→TT.sat w t q r)∧(B.ev t u=false→TT.sat y t q r)))∧
(∀ {p:Type} {q:Env→p→Prop} {r:Nat→LV→Prop} {t:Env} {u:Ob} {w:TT p},TT.sat (TT.ob u w) t q r=(Ob.ok t u∧TT.sat w t q r))∧
(∀ {p:Type} {q:Env→p→Prop} {r:Nat→LV→Prop} {t:Env} {u:Nat} {w:Asg},TT.sat (TT.next u w) t q r=r u (Asg.val t w))∧
(∀ {p:Type} {q:Env→p→Prop} {r:Nat→LV→Prop} {t:Env} {u:String},TT.sat (TT.stuck u) t q r=False)∧
(∀ {p:Env} (q:Nat) (r:LV) (t:Nat),(Env.put p q r).i t=if t<q then p.i t else r.i (t-q))∧
(∀ {p:Env} (q:Nat) (r:LV) (t:Nat),(Env.put p q r).b t=if t<q then p.b t else r.b (t-q))∧
(∀ {p:Env} (q:Nat) (r:LV) (t:Nat),(Env.put p q r).d t=if t<q then p.d t else r.d (t-q))∧
(∀ {p:Env} (q:Nat) (r:LV),(Env.put p q r).fi=p.fi)∧
(∀ {p:Env} (q:Nat) (r:LV),(Env.put p q r).fb=p.fb)∧
(∀ {p:Env} (q:Nat) (r:LV),(Env.put p q r).fd=p.fd)∧
(∀(p:Env) (q:B),Ob.ok p (Ob.tru q)=(B.ev p q=true))∧
(∀(p:Env) (q:Bool),B.ev p (B.lit q)=q)∧
(∀(p:Env) (q:Nat),B.ev p (B.var q)=p.b q)∧
(∀(p:Env) (q:BinOp) (r t:E),B.ev p (B.cmp q r t)=B6 q (E.ev p r) (E.ev p t))∧
(∀(p:Env) (q:B),B.ev p (B.not q)= !B.ev p q)∧
(∀(p:Env) (q r:B),B.ev p (B.eqb q r)=(B.ev p q == B.ev p r))∧
(∀(p:Env) (q r:B),B.ev p (B.and q r)=(B.ev p q&&B.ev p r))∧
(∀(p:Env) (q:Nat) (r:AL),B.ev p (B.fn q r)=p.fb q (AL.ev p r))∧
(∀(p:Env) (q:X) (r:E) (t:Nat),B.ev p (B.rd q r t)=D.bool (u9 (X.ev p q) (E.ev p r) t))∧
(∀(p:Env) (q:Int),E.ev p (E.lit q)=q)∧
(∀(p:Env) (q:Nat),E.ev p (E.var q)=p.i q)∧
(∀(p:Env) (q:BinOp) (r:IntKind) (t u:E),E.ev p (E.ar q r t u)=y9 q r (E.ev p t) (E.ev p u))∧
(∀(p:Env) (q:IntKind) (r:E),E.ev p (E.wr q r)=IntKind.wrap q (E.ev p r))∧
(∀(p:Env) (q r:E),E.ev p (E.mx q r)=max (E.ev p q) (E.ev p r))∧
(∀(p:Env) (q r:E),E.ev p (E.mn q r)=min (E.ev p q) (E.ev p r))∧
(∀(p:Env) (q:Nat) (r:AL),E.ev p (E.fn q r)=p.fi q (AL.ev p r))∧
(∀(p:Env) (q:X),E.ev p (E.len q)=(↑(List.length (X.ev p q)):Int))∧
(∀(p:Env) (q:X) (r:E) (t:Nat),E.ev p (E.rd q r t)=D.int (u9 (X.ev p q) (E.ev p r) t))∧
(∀(p:Env) (q r:E),E.ev p (E.plus q r)=E.ev p q+E.ev p r)∧
(∀(p:Env) (q:Nat),X.ev p (X.var q)=p.d q)∧
(∀(p:Env),X.ev p X.nil=[])∧
(∀(p:Env) (q:X) (r:E) (t:Nat),X.ev p (X.rd q r t)=D.rows (u9 (X.ev p q) (E.ev p r) t))∧
(∀(p:Env) (q:X) (r t:E),X.ev p (X.sub q r t)=o7 (X.ev p q) (E.ev p r) (E.ev p t))∧
(∀(p:Env) (q r:X),X.ev p (X.app q r)=X.ev p q++X.ev p r)∧
(∀(p:Env) (q:AL),X.ev p (X.row q)=[AL.ev p q])∧
(∀(p:Env) (q:X) (r:E) (t:Nat) (u:AL),X.ev p (X.upd q r t u)=a1t (X.ev p q) (E.ev p r) t (AL.ev p u))∧
(∀(p:Env) (q:Nat) (r:AL),X.ev p (X.fn q r)=p.fd q (AL.ev p r))∧
(∀(p:Env) (q:E) (r:AL),X.ev p (X.rep q r)=List.replicate (Int.toNat (E.ev p q)) (AL.ev p r))∧
(∀(p:Env),AL.ev p AL.nil=[])∧
(∀(p:Env) (q:E) (r:AL),AL.ev p (AL.i q r)=D.i (E.ev p q)::AL.ev p r)∧
(∀(p:Env) (q:B) (r:AL),AL.ev p (AL.b q r)=D.b (B.ev p q)::AL.ev p r)∧
(∀(p:Env) (q:X) (r:AL),AL.ev p (AL.x q r)=D.l (X.ev p q)::AL.ev p r)∧
(∀(p:BinOp) (q r:Int),(B6 p q r=true)=j8 p q r)∧
(∀(p:BinOp) (q r:Int),(B6 p q r=false)=¬j8 p q r)∧
(∀(p:IntKind) (q r:Int),y9 BinOp.add p q r=IntKind.wrap p (q+r))∧
(∀(p:IntKind) (q r:Int),y9 BinOp.sub p q r=IntKind.wrap p (q-r))∧
(∀(p:IntKind) (q r:Int),y9 BinOp.mul p q r=IntKind.wrap p (q*r))∧
(∀(p:IntKind) (q r:Int),y9 BinOp.quo p q r=IntKind.wrap p (Int.tdiv q r))∧
(∀(p:IntKind) (q r:Int),y9 BinOp.rem p q r=Int.tmod q r)∧
(∀(p:IntKind) (q r:Int),y9 BinOp.shr p q r=Int.fdiv q (2^min (Int.toNat r) (IntKind.bits p)))∧
(∀(p:IntKind) (q r:Int),y9 BinOp.shl p q r=IntKind.wrap p (q*2^min (Int.toNat r) (IntKind.bits p)))∧
(∀(p:IntKind) (q r:Int),y9 BinOp.and p q r=M9 BinOp.and p q r)∧
(∀(p:IntKind) (q r:Int),y9 BinOp.or p q r=M9 BinOp.or p q r)∧
(∀(p:IntKind) (q r:Int),y9 BinOp.xor p q r=M9 BinOp.xor p q r)∧
(∀(p:IntKind) (q r:Int),y9 BinOp.andNot p q r=M9 BinOp.andNot p q r)∧
(∀(p:BinOp) (q:IntKind) (r t:Int),(p=BinOp.add→False)→(p=BinOp.sub→False)→(p=BinOp.mul→False)→(p=BinOp.quo→False)→(p=BinOp.rem→False)→(p=BinOp.shr→False)→(p=BinOp.shl→False)→(p=BinOp.and→False)→(p=BinOp.or→False)→(p=BinOp.xor→False)→(p=BinOp.andNot→False)→y9 p q r t=0)∧
(∀(p:V2),V.plain (V.v p)=V2.plain p)∧
(∀(p:List V2),V.plain (V.tup p)=List.all p V2.plain)∧
(∀(p:S),V2.plain (V2.one p)=S.plain p)∧
(∀(p:List S),V2.plain (V2.agg p)=List.all p S.plain)∧
(∀(p:S0),S.plain (S.z p)=S0.plain p)∧
(∀(p:S),(∀(s:S0),p=S.z s→False)→S.plain p=false)∧
(∀(p:B),S0.plain (S0.bool p)=true)∧
(∀(p:IntKind) (q:E),S0.plain (S0.int p q)=true)∧
(∀(p:Value),S0.plain (S0.const p)=true)∧
(∀(p:S0),(∀(b:B),p=S0.bool b→False)→(∀(k:IntKind) (e:E),p=S0.int k e→False)→(∀(v:Value),p=S0.const v→False)→S0.plain p=false)∧
(∀(p:Env) (q:V2),V.val p (V.v q)=V2.val p q)∧
(∀(p:Env) (q:List V2),V.val p (V.tup q)=Value.tuple (List.toArray (List.map (V2.val p) q)))∧
(∀(p:Env) (q:S),V2.val p (V2.one q)=S.val p q)∧
(∀(p:Env) (q:List S),V2.val p (V2.agg q)=Value.agg (List.toArray (List.map (S.val p) q)))∧
(∀(p:Env) (q:S0),S.val p (S.z q)=S0.val p q)∧
(∀(p:Env) (q:S),(∀(s:S0),q=S.z s→False)→S.val p q=undef)∧
(∀(p:Env) (q:B),S0.val p (S0.bool q)=Value.bool (B.ev p q))∧
(∀(p:Env) (q:IntKind) (r:E),S0.val p (S0.int q r)=Value.int q (E.ev p r))∧
(∀(p:Env) (q:Value),S0.val p (S0.const q)=q)∧
(∀(p:Env) (q:S0),(∀(b:B),q=S0.bool b→False)→(∀(k:IntKind) (e:E),q=S0.int k e→False)→(∀(v:Value),q=S0.const v→False)→S0.val p q=undef)∧
(∀(p:B),bV p=V.s0 (S0.bool p))∧
(∀(p:IntKind) (q:E),iV p q=V.s0 (S0.int p q))∧
(∀ {p:Type} {q:p} {r:List p} {t:p→Bool},List.all (q::r) t=(t q&&List.all r t))∧
(∀ {p:Type} {q:p→Bool},List.all [] q=true)∧
(∀(p:Bool),(p&&true)=p)∧
(∀(p:Bool),(p&&p)=p)∧
(∀(p:Interp) (q:World) (r:List D) (t:Nat),(a9 p q r).i t=a7 r t)∧
(∀(p:Interp) (q:World) (r:List D) (t:Nat),(a9 p q r).b t=bAt r t)∧
(∀(p:Interp) (q:World) (r:List D) (t:Nat),(a9 p q r).d t=b9 r t)∧
(∀ {p q:Type} {r:p→q} {t:p} {u:List p},List.map r (t::u)=r t::List.map r u)∧
(∀ {p q:Type} {r:p→q},List.map r []=[])∧
(∀(p:Prop),(True∧p)=p)∧
(∀(p:Bool),((!p)=true)=(p=false))∧
(∀(p:Bool),((!p)=false)=(p=true))∧
(∀(p:Bool),(!!p)=p)∧
(∀(p q:Bool),((p&&q)=true)=(p=true∧q=true))∧
(∀(p q:Bool),((p&&q)=false)=¬(p=true∧q=true))∧
(∀(p:Proofs.YtcjaembdcfppfaaGreat.Rows) (q:Int) (r:Nat),D.int (u9 p q r)=lg p q r)∧
(∀(p:Proofs.YtcjaembdcfppfaaGreat.Rows) (q:Int) (r:Nat),D.bool (u9 p q r)=lb p q r)∧
(∀(p:Proofs.YtcjaembdcfppfaaGreat.Rows) (q:Int) (r:Nat),D.rows (u9 p q r)=lr p q r)∧
(∀(p q:Int),j8 BinOp.eql p q=(p=q))∧
(∀(p q:Int),j8 BinOp.neq p q=(p≠q))∧
(∀(p q:Int),j8 BinOp.lss p q=(p<q))∧
(∀(p q:Int),j8 BinOp.leq p q=(p≤q))∧
(∀(p q:Int),j8 BinOp.gtr p q=(q<p))∧
(∀(p q:Int),j8 BinOp.geq p q=(q≤p))∧
(∀(p:BinOp) (q r:Int),(p=BinOp.eql→False)→(p=BinOp.neq→False)→(p=BinOp.lss→False)→(p=BinOp.leq→False)→(p=BinOp.gtr→False)→(p=BinOp.geq→False)→j8 p q r=False)∧
(∀ {p:Env} (q:Asg) (r:Nat),(Asg.val p q).i r=match i8 q.i r with | some e=>E.ev p e | none=>0)∧
(∀ {p:Env} (q:Asg) (r:Nat),(Asg.val p q).b r=match i8 q.b r with | some e=>B.ev p e | none=>false)∧
(∀ {p:Env} (q:Asg) (r:Nat),(Asg.val p q).d r=match i8 q.d r with | some e=>X.ev p e | none=>[])∧
(∀ {p:Type} (q:Nat),i8 ([]:List (Nat×p)) q=none)∧
(∀ {p:Type} (q r:Nat) (t:p) (u:List (Nat×p)),i8 ((r,t)::u) q=if (r == q)=true then some t else i8 u q)∧
(∀ {p:Type} [q:BEq p] [r:ReflBEq p] (t:p),(t == t)=true)∧
((false=true)=False)∧
(∀ {p:Type} {q:Decidable True} (r t:p),(if True then r else t)=r)∧
(∀ {p:Type} {q:Decidable False} (r t:p),(if False then r else t)=t)∧
(∀(p:Nat),p-p=0)∧
(∀(p:Nat),¬p<p):=
⟨TT.sat_ret,TT.sat_ite,TT.sat_ob,TT.sat_next,TT.sat_stuck,F6,d3S,x7,d3r,d0H,d0N,Ob.ok.eq_1,B.ev.eq_1,B.ev.eq_2,B.ev.eq_3,B.ev.eq_4,B.ev.eq_5,B.ev.eq_6,B.ev.eq_7,B.ev.eq_8,E.ev.eq_1,E.ev.eq_2,E.ev.eq_3,E.ev.eq_4,E.ev.eq_5,E.ev.eq_6,E.ev.eq_7,E.ev.eq_8,E.ev.eq_9,E.ev.eq_10,X.ev.eq_1,X.ev.eq_2,X.ev.eq_3,X.ev.eq_4,X.ev.eq_5,X.ev.eq_6,X.ev.eq_7,X.ev.eq_8,X.ev.eq_9,AL.ev.eq_1,AL.ev.eq_2,AL.ev.eq_3,AL.ev.eq_4,n8,a2w,y9.eq_1,y9.eq_2,y9.eq_3,y9.eq_4,y9.eq_5,y9.eq_6,y9.eq_7,y9.eq_8,y9.eq_9,y9.eq_10,y9.eq_11,y9.eq_12,V.plain.eq_1,V.plain.eq_2,V2.plain.eq_1,V2.plain.eq_2,S.plain.eq_1,S.plain.eq_2,S0.plain.eq_1,S0.plain.eq_2,S0.plain.eq_3,S0.plain.eq_4,V.val.eq_1,V.val.eq_2,V2.val.eq_1,V2.val.eq_2,S.val.eq_1,S.val.eq_2,S0.val.eq_1,S0.val.eq_2,S0.val.eq_3,S0.val.eq_4,bV.eq_1,iV.eq_1,List.all_cons,List.all_nil,Bool.and_true,Bool.and_self,w6,d0c,Z9,List.map_cons,List.map_nil,true_and,Bool.not_eq_true',Bool.not_eq_false',Bool.not_not,Bool.and_eq_true,d4I,c8m,c9Z,c8d,j8.eq_1,j8.eq_2,j8.eq_3,j8.eq_4,j8.eq_5,j8.eq_6,j8.eq_7,j5,a6e,D4,i8.eq_1,i8.eq_2,beq_self_eq_true,Bool.false_eq_true,if_true,if_false,Nat.sub_self,Nat.lt_irrefl⟩
def f9(x y:Int):Bool:=decide (-1000000≤x∧x≤1000000∧ -1000000≤y∧y≤1000000)
theorem b2p{ρ:Env}(h:ρ.has I0):CtOk Tryz.prog ρ ct0:= .cons (b3A (fun l=>by rw[h.2.1];rfl)) .nil
theorem c1V:m8 Tryz.prog 53 [pt] (fun ds=> .bool (f9 (a7 ds 0) (a7 ds 1))):=by
 refine GivesIf.all (i7 I0 (by kernel_rfl) (fun ρ h=>b2p h) (by kernel_rfl) b8n b5A (by decide) (fun W vals ds _ _=> ?_))
 simp only[b0y,g9,Nat.reduceBEq,Nat.reduceLT,Nat.reduceSub]
 refine⟨fun h=>congrArg Value.bool ?_,fun h=>congrArg Value.bool ?_⟩
 ·rw[Bool.eq_iff_iff,n8]
  simp only[j8,f9,decide_eq_true_eq]
  omega
 ·rw[Bool.eq_iff_iff]
  simp only[f9,decide_eq_true_eq,Bool.false_eq_true,false_iff]
  omega
def a8(ax ay bx by' cx cy:Int):Int:=(bx-ax)*(cy-ay)-(by'-ay)*(cx-ax)
def J9(n:Int):Int:=if n<0 then -1 else if n>0 then 1 else 0
def z6(ax ay bx by' cx cy:Int):Int:=J9 (a8 ax ay bx by' cx cy)
theorem b8(n:Int)(h1: -9223372036854775808≤n)(h2:n<9223372036854775808):IntKind.i64.wrap n=n:=IntWalk.i64_in _ (by omega)
theorem N8{a b A B:Int}(ha: -A≤a)(ha':a≤A)(hb: -B≤b)(hb':b≤B): -(A*B)≤a*b∧a*b≤A*B:=by
 have hA:0≤A:=by omega
 have hB:0≤B:=by omega
 have h1:0≤(A-a)*(B+b):=Int.mul_nonneg (by omega) (by omega)
 have h2:0≤(A+a)*(B-b):=Int.mul_nonneg (by omega) (by omega)
 have h3:0≤(A-a)*(B-b):=Int.mul_nonneg (by omega) (by omega)
 have h4:0≤(A+a)*(B+b):=Int.mul_nonneg (by omega) (by omega)
 simp only[Int.sub_mul,Int.add_mul,Int.mul_sub,Int.mul_add] at h1 h2 h3 h4
 omega
theorem o0{a b:Int}(ha: -1000000≤a∧a≤1000000)(hb: -1000000≤b∧b≤1000000):IntKind.i64.wrap (a-b)=a-b:=b8 _ (by omega) (by omega)
theorem o6{a b c d:Int}(ha: -1000000≤a∧a≤1000000)(hb: -1000000≤b∧b≤1000000)(hc: -1000000≤c∧c≤1000000)(hd: -1000000≤d∧d≤1000000):
 IntKind.i64.wrap ((a-b)*(c-d))=(a-b)*(c-d)∧ -4000000000000≤(a-b)*(c-d)∧(a-b)*(c-d)≤4000000000000:=by
 have:=N8 (a:=a-b) (b:=c-d) (A:=2000000) (B:=2000000) (by omega) (by omega) (by omega) (by omega)
 exact⟨b8 _ (by omega) (by omega),by omega,by omega⟩
theorem G6{a b c d:Int}(ha: -1000000≤a∧a≤1000000)(hb: -1000000≤b∧b≤1000000)(hc: -1000000≤c∧c≤1000000)(hd: -1000000≤d∧d≤1000000):
 IntKind.i64.wrap ((a-b)*(c-d))=(a-b)*(c-d):=(o6 ha hb hc hd).1
theorem L5{a b c d e f g h:Int}(ha: -1000000≤a∧a≤1000000)(hb: -1000000≤b∧b≤1000000)(hc: -1000000≤c∧c≤1000000)(hd: -1000000≤d∧d≤1000000)
 (he: -1000000≤e∧e≤1000000) (hf: -1000000≤f∧f≤1000000) (hg: -1000000≤g∧g≤1000000) (hh: -1000000≤h∧h≤1000000):
 IntKind.i64.wrap ((a-b)*(c-d)+(e-f)*(g-h))=(a-b)*(c-d)+(e-f)*(g-h):=by
 have:=o6 ha hb hc hd
 have:=o6 he hf hg hh
 exact b8 _ (by omega) (by omega)
theorem T1{a b c d e f g h:Int}(ha: -1000000≤a∧a≤1000000)(hb: -1000000≤b∧b≤1000000)(hc: -1000000≤c∧c≤1000000)(hd: -1000000≤d∧d≤1000000)
 (he: -1000000≤e∧e≤1000000) (hf: -1000000≤f∧f≤1000000) (hg: -1000000≤g∧g≤1000000) (hh: -1000000≤h∧h≤1000000):
 IntKind.i64.wrap ((a-b)*(c-d)-(e-f)*(g-h))=(a-b)*(c-d)-(e-f)*(g-h)∧IntKind.i64.wrap (0-((a-b)*(c-d)-(e-f)*(g-h)))=0-((a-b)*(c-d)-(e-f)*(g-h)):=by
 have:=o6 ha hb hc hd
 have:=o6 he hf hg hh
 exact⟨b8 _ (by omega) (by omega),b8 _ (by omega) (by omega)⟩
theorem b9L{d:Int}(hd:0≤d∧d≤3000000):IntKind.i64.wrap (d*d)=d*d∧0≤d*d∧d*d≤9000000000000:=by
 have:=N8 (a:=d) (b:=d) (A:=3000000) (B:=3000000) (by omega) (by omega) (by omega) (by omega)
 exact⟨b8 _ (by omega) (by omega),Int.mul_nonneg hd.1 hd.1,by omega⟩
theorem D3(a:Int):0≤a*a:=by
 rcases Int.le_total 0 a with h | h
 ·exact Int.mul_nonneg h h
 ·have e:a*a=(-a)*(-a):=by rw[Int.neg_mul_neg]
  rw[e]
  exact Int.mul_nonneg (by omega) (by omega)
def F7(ax ay bx by' cx cy:Int):Int:=(bx-ax)*(cx-ax)+(by'-ay)*(cy-ay)
def l9(ax ay bx by':Int):Int:=(bx-ax)*(bx-ax)+(by'-ay)*(by'-ay)
def A9(px py ax ay bx by' d:Int):Bool:=
 if F7 ax ay bx by' px py≤0 then decide (l9 ax ay px py≤d*d)
 else if l9 ax ay bx by'≤F7 ax ay bx by' px py then decide (l9 bx by' px py≤d*d)
 else decide (a8 ax ay bx by' px py*a8 ax ay bx by' px py≤d*d*l9 ax ay bx by')
def six(ds:List D):Prop:=(-1000000≤a7 ds 0∧a7 ds 0≤1000000)∧(-1000000≤a7 ds 1∧a7 ds 1≤1000000)∧(-1000000≤a7 ds 2∧a7 ds 2≤1000000)∧(-1000000≤a7 ds 3∧a7 ds 3≤1000000)∧(-1000000≤a7 ds 4∧a7 ds 4≤1000000)∧(-1000000≤a7 ds 5∧a7 ds 5≤1000000)
theorem c2z:GivesIf Tryz.prog 130 [pt,pt,pt] six (fun ds=> .int .i64 (z6 (a7 ds 0) (a7 ds 1) (a7 ds 2) (a7 ds 3) (a7 ds 4) (a7 ds 5))):=by
 refine i7 I0 (by kernel_rfl) (fun ρ h=>b2p h) (by kernel_rfl) b7R b5S (by decide) (fun W vals ds _ hok=> ?_)
 obtain⟨h0,h1,h2,h3,h4,h5⟩:=hok
 simp only[a9M,g9,Nat.reduceBEq,Nat.reduceLT,Nat.reduceSub]
 rw[o0 h2 h0,o0 h5 h1,o0 h3 h1,o0 h4 h0,(o6 h2 h0 h5 h1).1,(o6 h3 h1 h4 h0).1,b8 _ (by have:=o6 h2 h0 h5 h1;have:=o6 h3 h1 h4 h0;omega) (by have:=o6 h2 h0 h5 h1;have:=o6 h3 h1 h4 h0;omega)]
 refine⟨fun h=> ?_,fun h=>⟨fun h'=> ?_,fun h'=> ?_⟩⟩
 all_goals
  simp only[z6,J9,a8]
  congr 1
  (repeat' split)<;>omega
theorem b1P(c:Int):max c (0-c)*max c (0-c)=c*c:=by
 rcases Int.le_total 0 c with h | h
 ·rw[show max c (0-c)=c by omega]
 ·rw[show max c (0-c)= -c by omega,Int.neg_mul_neg]
theorem d2C(a b c d:Int):I0.fb 0 [.i a,.i b,.i c,.i d]=decide (a*b≤c*d):=rfl
theorem d2K:GivesIf Tryz.prog 170 [pt,pt,pt,it] (fun ds=>six ds∧0≤a7 ds 6∧a7 ds 6≤3000000) (fun ds=> .bool (A9 (a7 ds 0) (a7 ds 1) (a7 ds 2) (a7 ds 3) (a7 ds 4) (a7 ds 5) (a7 ds 6))):=by
 refine i7 I0 (by kernel_rfl) (fun ρ h=>b2p h) (by kernel_rfl) b9U b5F (by decide) (fun W vals ds _ hok=> ?_)
 obtain⟨⟨h0,h1,h2,h3,h4,h5⟩,h6⟩:=hok
 simp only[a9W,g9,Nat.reduceBEq,Nat.reduceLT,Nat.reduceSub]
 have c0:=b9L h6
 have d1:=o6 h0 h2 h0 h2
 have d2:=o6 h1 h3 h1 h3
 have d3:=o6 h0 h4 h0 h4
 have d4:=o6 h1 h5 h1 h5
 have d5:=o6 h4 h2 h4 h2
 have d6:=o6 h5 h3 h5 h3
 have d7:=o6 h4 h2 h1 h3
 have d8:=o6 h5 h3 h0 h2
 have n1:=D3 (a7 ds 0-a7 ds 2)
 have n2:=D3 (a7 ds 1-a7 ds 3)
 have n3:=D3 (a7 ds 0-a7 ds 4)
 have n4:=D3 (a7 ds 1-a7 ds 5)
 have n5:=D3 (a7 ds 4-a7 ds 2)
 have n6:=D3 (a7 ds 5-a7 ds 3)
 simp only[o0 h4 h2,o0 h0 h2,o0 h5 h3,o0 h1 h3,o0 h0 h4,o0 h1 h5,G6 h4 h2 h0 h2,G6 h5 h3 h1 h3,d1.1,d2.1,d3.1,d4.1,d5.1,d6.1,d7.1,d8.1,L5 h4 h2 h0 h2 h5 h3 h1 h3,
  L5 h0 h2 h0 h2 h1 h3 h1 h3,L5 h0 h4 h0 h4 h1 h5 h1 h5,L5 h4 h2 h4 h2 h5 h3 h5 h3,(T1 h4 h2 h1 h3 h5 h3 h0 h2).1,(T1 h4 h2 h1 h3 h5 h3 h0 h2).2,c0.1,b1P,
  show(a9 I0 W ds).fb=I0.fb from rfl,d2C,Int.mul_one]
 refine⟨fun h=>⟨?_,?_,?_,?_,?_⟩,fun h=>⟨fun h'=>⟨?_,?_,?_,?_,?_⟩,fun h'=>⟨?_,?_,?_,?_,?_,?_,?_,?_,?_⟩⟩⟩
 case refine_5=>unfold A9 F7 l9;rw[if_pos h]
 case refine_10=>unfold A9 F7 l9;rw[if_neg h,if_pos h']
 case refine_19=>unfold A9 F7 l9 a8;rw[if_neg h,if_neg h']
 all_goals omega
def u0(ds:List D):Bool:=f9 (a7 ds 0) (a7 ds 1)&&f9 (a7 ds 2) (a7 ds 3)&&f9 (a7 ds 4) (a7 ds 5)
def J2(ds:List D):Int:=z6 (a7 ds 0) (a7 ds 1) (a7 ds 2) (a7 ds 3) (a7 ds 4) (a7 ds 5)
def J1(ds:List D):Bool:=A9 (a7 ds 0) (a7 ds 1) (a7 ds 2) (a7 ds 3) (a7 ds 4) (a7 ds 5) (a7 ds 6)
def w7(ds:List D):Bool:=f9 (a7 ds 0) (a7 ds 1)
def I1:Interp:= { fi:=fun n l=>match n with | 0=>J2 l | _=>0,fb:=fun n l=>match n with | 0=>b1H l | 1=>u0 l | 2=>J1 l | 3=>w7 l | _=>false,fd:=fun _ _=>[] }
def d1V(al:AL):T V:= .ob (.tru (.fn 1 al)) (.ret (iV .i64 (.fn 0 al)))
def b2l(al:AL):T V:=match al with
 | .i a (.i b (.i c (.i d (.i e (.i f (.i r .nil))))))=>T.obs [.tru (.fn 1 (.i a (.i b (.i c (.i d (.i e (.i f .nil))))))),.tru (.cmpS .leq (.lit 0) r),.tru (.cmpS .leq r (.lit 3000000))] (.ret (bV (.fn 2 al)))
 | _=> .stuck "near"
def c1d:=u7 [pt,pt,pt] d1V
def a8F:=u7 [pt,pt,pt,it] b2l
def c1o:=u7 [pt] fun al=> .ret (bV (.fn 3 al))
theorem z0{x y:Int}:f9 x y=true↔(-1000000≤x∧x≤1000000)∧ -1000000≤y∧y≤1000000:=by simp only[f9,decide_eq_true_eq];omega
theorem a1U{ds:List D}(h:u0 ds=true):six ds:=by
 simp only[u0,Bool.and_eq_true,z0] at h
 exact⟨h.1.1.1,h.1.1.2,h.1.2.1,h.1.2.2,h.2.1,h.2.2⟩
theorem c1A{ρ:Env}(h1:∀l,ρ.fb 1 l=u0 l)(h0:∀l,ρ.fi 0 l=J2 l):i9 Tryz.prog ρ 130 c1d:=by
 refine C7 c2z (fun al v hv=> ?_)
 obtain⟨ho,hv⟩:=hv
 obtain rfl:=c9 hv
 have ho:ρ.fb 1 (al.ev ρ)=true:=by simpa only[Ob.ok,B.ev] using ho
 rw[h1] at ho
 refine⟨rfl,a1U ho,?_⟩
 simp only[iV,V.s0,V.val,V2.val,S.val,S0.val,E.ev,h0,J2]
theorem c2R{ρ:Env}(h1:∀l,ρ.fb 1 l=u0 l)(h2:∀l,ρ.fb 2 l=J1 l):i9 Tryz.prog ρ 170 a8F:=by
 refine C7 d2K (fun al v hv=> ?_)
 unfold b2l at hv
 split at hv
 ·rename_i a b c d e f r
  obtain⟨ho,hv⟩:=T.res_obs hv
  obtain rfl:=c9 hv
  have o1:=ho _ (List.mem_cons_self ..)
  have o2:=ho _ (List.mem_cons_of_mem _ (List.mem_cons_self ..))
  have o3:=ho _ (List.mem_cons_of_mem _ (List.mem_cons_of_mem _ (List.mem_cons_self ..)))
  simp only[Ob.ok,B.cmpS_ev,n8,j8,E.ev,B.ev,AL.ev,h1] at o1 o2 o3
  have q1:=a1U o1
  refine⟨rfl,⟨?_,?_,?_⟩,?_⟩
  ·simpa [six,a7,AL.ev] using q1
  ·simpa [a7,AL.ev,D.int] using o2
  ·simpa [a7,AL.ev,D.int] using o3
  ·simp only[bV,V.s0,V.val,V2.val,S.val,S0.val,B.ev,h2]
   rfl
 ·exact hv.elim
theorem c2U{ρ:Env}(h:∀l,ρ.fb 3 l=w7 l):i9 Tryz.prog ρ 53 c1o:=
 j7 c1V (fun _=>rfl) (fun al=>by simp only[bV,V.s0,V.val,V2.val,S.val,S0.val,B.ev,h,w7])
def ct1:Ct:=[(172,b8M),(130,c1d),(170,a8F),(53,c1o)]
def lt1:Lt:=Lt.of [(129,0)]
theorem a9a{ρ:Env}(h:ρ.has I1):CtOk Tryz.prog ρ ct1:=
 .cons (b3A (fun l=>by rw[h.2.1];rfl))<| .cons (c1A (fun l=>by rw[h.2.1];rfl) (fun l=>by rw[h.1];rfl))<| .cons (c2R (fun l=>by rw[h.2.1];rfl) (fun l=>by rw[h.2.1];rfl))<| .cons (c2U (fun l=>by rw[h.2.1];rfl)) .nil
def b4b:TT j4:=
(.ite (.not (.fn 3 (.i (.var 0) (.i (.var 1) .nil))))
 (.ret ((.tup [(.one (.z (.int .i64 (.lit 0)))),(.one (.z (.int .i64 (.lit 1))))]),[],5))
 (.ite (.not (.fn 3 (.i (.var 2) (.i (.var 3) .nil))))
 (.ret ((.tup [(.one (.z (.int .i64 (.lit 0)))),(.one (.z (.int .i64 (.lit 1))))]),[],6))
 (.ite (.not (.fn 3 (.i (.var 4) (.i (.var 5) .nil))))
 (.ret ((.tup [(.one (.z (.int .i64 (.lit 0)))),(.one (.z (.int .i64 (.lit 1))))]),[],7))
 (.ob (.tru (.fn 1 (.i (.var 0) (.i (.var 1) (.i (.var 2) (.i (.var 3) (.i (.var 4) (.i (.var 5) .nil))))))))
 (.ret ((.tup [(.one (.z (.int .i64 (.fn 0 (.i (.var 0) (.i (.var 1) (.i (.var 2) (.i (.var 3) (.i (.var 4) (.i (.var 5) .nil)))))))))),(.one (.z (.int .i64 (.lit 0))))]),[],7))))))
set_option maxRecDepth 100000 in
theorem c1C:T.norm 0 (call Tryz.prog ct1 lt1 100 120 (g7 0 [pt,pt,pt]) [] 0) TT.ret=b4b:=by kernel_rfl
theorem b8O:b4b.low 1000=true:=by kernel_rfl
def b9s:TT j4:=
(.ob (.tru (.fn 1 (.i (.var 2) (.i (.var 3) (.i (.var 4) (.i (.var 5) (.i (.var 0) (.i (.var 1) .nil))))))))
(.ite (.cmp .eql (.fn 0 (.i (.var 2) (.i (.var 3) (.i (.var 4) (.i (.var 5) (.i (.var 0) (.i (.var 1) .nil))))))) (.lit 0))
 (.ite (.cmp .leq (.mn (.var 2) (.var 4)) (.var 0))
 (.ite (.cmp .leq (.var 0) (.mx (.var 2) (.var 4)))
 (.ite (.cmp .leq (.mn (.var 3) (.var 5)) (.var 1))
 (.ret ((.v (.one (.z (.bool (.cmp .leq (.var 1) (.mx (.var 3) (.var 5))))))),[],3))
 (.ret ((.v (.one (.z (.bool (.lit false))))),[],3)))
 (.ret ((.v (.one (.z (.bool (.lit false))))),[],3)))
 (.ret ((.v (.one (.z (.bool (.lit false))))),[],3)))
 (.ret ((.v (.one (.z (.bool (.lit false))))),[],3))))
set_option maxRecDepth 100000 in
theorem c4Y:T.norm 0 (call Tryz.prog ct1 lt1 100 137 (g7 0 [pt,pt,pt]) [] 0) TT.ret=b9s:=by kernel_rfl
theorem c2f:b9s.low 1000=true:=by kernel_rfl
def b3P:TT j4:=
(.ite (.not (.fn 3 (.i (.var 0) (.i (.var 1) .nil))))
 (.ret ((.tup [(.one (.z (.bool (.lit false)))),(.one (.z (.int .i64 (.lit 1))))]),[],5))
 (.ite (.not (.fn 3 (.i (.var 2) (.i (.var 3) .nil))))
 (.ret ((.tup [(.one (.z (.bool (.lit false)))),(.one (.z (.int .i64 (.lit 1))))]),[],6))
 (.ite (.not (.fn 3 (.i (.var 4) (.i (.var 5) .nil))))
 (.ret ((.tup [(.one (.z (.bool (.lit false)))),(.one (.z (.int .i64 (.lit 1))))]),[],7))
 (.ite (.cmp .geq (.var 6) (.lit 0))
 (.ite (.not (.cmp .leq (.var 6) (.lit 3000000)))
 (.ret ((.tup [(.one (.z (.bool (.lit false)))),(.one (.z (.int .i64 (.lit 1))))]),[],7))
 (.ob (.tru (.fn 1 (.i (.var 0) (.i (.var 1) (.i (.var 2) (.i (.var 3) (.i (.var 4) (.i (.var 5) .nil))))))))
 (.ob (.tru (.cmp .leq (.lit 0) (.var 6)))
 (.ob (.tru (.cmp .leq (.var 6) (.lit 3000000)))
 (.ret ((.tup [(.one (.z (.bool (.fn 2 (.i (.var 0) (.i (.var 1) (.i (.var 2) (.i (.var 3) (.i (.var 4) (.i (.var 5) (.i (.var 6) .nil))))))))))),(.one (.z (.int .i64 (.lit 0))))]),[],7))))))
 (.ret ((.tup [(.one (.z (.bool (.lit false)))),(.one (.z (.int .i64 (.lit 1))))]),[],7))))))
set_option maxRecDepth 100000 in
theorem c3I:T.norm 0 (call Tryz.prog ct1 lt1 100 166 (g7 0 [pt,pt,pt,it]) [] 0) TT.ret=b3P:=by kernel_rfl
theorem b8A:b3P.low 1000=true:=by kernel_rfl
theorem b1K(W:World)(ds l:List D):(a9 I1 W ds).fb 3 l=w7 l:=rfl
theorem b7C(W:World)(ds l:List D):(a9 I1 W ds).fb 1 l=u0 l:=rfl
theorem d4f(W:World)(ds l:List D):(a9 I1 W ds).fb 2 l=J1 l:=rfl
theorem c6w(W:World)(ds l:List D):(a9 I1 W ds).fi 0 l=J2 l:=rfl
theorem a0j(a b:Int):w7 [.i a,.i b]=f9 a b:=rfl
theorem R7(a b c d e f:Int):u0 [.i a,.i b,.i c,.i d,.i e,.i f]=(f9 a b&&f9 c d&&f9 e f):=rfl
theorem a2i(a b c d e f:Int):J2 [.i a,.i b,.i c,.i d,.i e,.i f]=z6 a b c d e f:=rfl
theorem b4G(a b c d e f r:Int):J1 [.i a,.i b,.i c,.i d,.i e,.i f,.i r]=A9 a b c d e f r:=rfl
def b1O(ds:List D):Value:=if u0 ds then .tuple #[.int .i64 (J2 ds),.int .i64 0] else .tuple #[.int .i64 0,.int .i64 1]
theorem c7s:m8 Tryz.prog 120 [pt,pt,pt] b1O:=by
 refine GivesIf.all (i7 I1 (by kernel_rfl) (fun ρ h=>a9a h) (by kernel_rfl) c1C b8O (by decide) (fun W vals ds _ _=> ?_))
 simp only[b4b,g9,Nat.reduceBEq,Nat.reduceLT,Nat.reduceSub,b1K,b7C,c6w,a0j,R7,a2i]
 simp only[b1O,u0,J2]
 refine⟨fun h=> ?_,fun h=>⟨fun h'=> ?_,fun h'=>⟨fun h''=> ?_,fun h''=> ?_⟩⟩⟩<;>simp [*]
def A7(px py ax ay bx by':Int):Bool:=decide (z6 ax ay bx by' px py=0∧min ax bx≤px∧px≤max ax bx∧min ay by'≤py∧py≤max ay by')
def onL(ds:List D):Bool:=A7 (a7 ds 0) (a7 ds 1) (a7 ds 2) (a7 ds 3) (a7 ds 4) (a7 ds 5)
theorem d6w:GivesIf Tryz.prog 137 [pt,pt,pt] (fun ds=>u0 ds=true) (fun ds=> .bool (onL ds)):=by
 refine i7 I1 (by kernel_rfl) (fun ρ h=>a9a h) (by kernel_rfl) c4Y c2f (by decide) (fun W vals ds _ hok=> ?_)
 simp only[u0,Bool.and_eq_true] at hok
 simp only[b9s,g9,Nat.reduceBEq,Nat.reduceLT,Nat.reduceSub,b1K,b7C,c6w,R7,a2i]
 simp only[onL,A7,hok,and_self,Value.bool.injEq,true_and]
 refine⟨fun h=>⟨fun h1=>⟨fun h2=>⟨fun h3=> ?_,fun h3=> ?_⟩,fun h2=> ?_⟩,fun h1=> ?_⟩,fun h=> ?_⟩
 all_goals first
  | (rw[Bool.eq_iff_iff,n8];simp only[j8,decide_eq_true_eq];omega)
  | (rw[Bool.eq_iff_iff];simp only[decide_eq_true_eq,Bool.false_eq_true,false_iff];omega)
def a9S(ok:Bool)(b:Bool):Value:= .tuple #[.bool (ok&&b),.int .i64 (if ok then 0 else 1)]
def A5(d:Int):Bool:=decide (0≤d∧d≤3000000)
def c7N(ds:List D):Value:=a9S (u0 ds&&A5 (a7 ds 6)) (J1 ds)
theorem d4E:m8 Tryz.prog 166 [pt,pt,pt,it] c7N:=by
 refine GivesIf.all (i7 I1 (by kernel_rfl) (fun ρ h=>a9a h) (by kernel_rfl) c3I b8A (by decide) (fun W vals ds _ _=> ?_))
 simp only[b3P,g9,Nat.reduceBEq,Nat.reduceLT,Nat.reduceSub,b1K,b7C,d4f,a0j,R7,b4G]
 simp only[c7N,a9S,u0,J1,A5]
 refine⟨fun h=> ?_,fun h=>⟨fun h'=> ?_,fun h'=>⟨fun h''=> ?_,fun h''=>⟨fun h1=>⟨fun h2=> ?_,fun h2=>⟨?_,?_,?_,?_⟩⟩,fun h1=> ?_⟩⟩⟩⟩
 all_goals first | omega | (simp [*];done) | (simp [*];omega)
def c6T:Nat→Int→Int→Int
 | 0,r,_=>r
 | k+1,r,n=>c6T k (if (r+((2^k:Nat):Int))*(r+((2^k:Nat):Int))≤n then r+((2^k:Nat):Int) else r) n
def c7v(n:Int):Int:=c6T 23 0 n
def a5i(ax ay bx by':Int):Int:=c7v (l9 ax ay bx by')
def d2t(ax ay bx by':Int):Int:=if a5i ax ay bx by'*a5i ax ay bx by'=l9 ax ay bx by' then a5i ax ay bx by' else a5i ax ay bx by'+1
def b8f(ds:List D):Bool:=f9 (a7 ds 0) (a7 ds 1)&&f9 (a7 ds 2) (a7 ds 3)
def a8Z(ds:List D):Int:=if b8f ds then a5i (a7 ds 0) (a7 ds 1) (a7 ds 2) (a7 ds 3) else 0
def a8B(ds:List D):Int:=if b8f ds then d2t (a7 ds 0) (a7 ds 1) (a7 ds 2) (a7 ds 3) else 0
def b2m(ds:List D):Int:=if b8f ds then 0 else 1
def I2:Interp:= { fi:=fun n l=>match n with | 10=>a8Z l | 11=>a8B l | 12=>b2m l | _=>0,fb:=fun n l=>match n with | 3=>w7 l | _=>false,fd:=fun _ _=>[] }
def d5H(r:Rows)(i:Int):Bool:=f9 (lg r i 0) (lg r i 1)&&f9 (lg r i 2) (lg r i 3)&&decide (¬(lg r i 0=lg r i 2∧lg r i 1=lg r i 3)∧1≤lg r i 4∧lg r i 4≤lg r i 5∧lg r i 5≤2000)
def b4x(r:Rows):Nat→Nat→Int→Int→Bool
 | 0,_,_,_=>true
 | f+1,i,x,y=>d5H r i&&decide (lg r i 0=x∧lg r i 1=y)&&b4x r f (i+1) (lg r i 2) (lg r i 3)
def a8r(t:Int):Bool:=decide (0≤t∧t≤10000000)
def a7j(lo hi off:Int)(r:Rows):Bool:=a8r lo&&a8r hi&&decide (lo≤hi∧0≤off∧off≤100000∧1≤r.length∧r.length≤40)&&b4x r r.length 0 (lg r 0 0) (lg r 0 1)
def d0E(ds:List D):Bool:=a7j (a7 ds 0) (a7 ds 1) (a7 ds 2) (b9 ds 3)
def dl(r:Rows)(i:Int):List D:=[.i (lg r i 0),.i (lg r i 1),.i (lg r i 2),.i (lg r i 3)]
def d4j(r:Rows)(i:Int):Int:=(a8Z (dl r i)).tdiv (lg r i 5)
def d4v(r:Rows)(i:Int):Int:=(a8B (dl r i)+lg r i 4-1).tdiv (lg r i 4)
def tLo(r:Rows)(lo:Int):Nat→Int | 0=>lo | k+1=>tLo r lo k+d4j r k
def tHi(r:Rows)(hi:Int):Nat→Int | 0=>hi | k+1=>tHi r hi k+d4v r k
def I3:Interp:= { fi:=fun n l=>match n with | 10=>a8Z l | 11=>a8B l | 12=>b2m l | _=>0,fb:=fun n l=>match n with | 3=>w7 l | 20=>d0E l | _=>false,fd:=fun _ _=>[] }
def c6L(r:Rows)(hi t:Int):Nat→Nat→Int×Int
 | 0,k=>(k,0)
 | f+1,k=>if 10000000<tHi r hi (k+1) then(0,3) else if t≤tHi r hi (k+1) then(k,0) else c6L r hi t f (k+1)
def c6E(ds:List D):Int×Int:=if a7j (a7 ds 0) (a7 ds 1) (a7 ds 2) (b9 ds 3)∧a8r (a7 ds 4) then c6L (b9 ds 3) (a7 ds 1) (a7 ds 4) (b9 ds 3).length 0 else(0,1)
mutual
def X0:X→Option Rows
 | .nil=>some []
 | .row l=>match a0f l with | some a=>some [a] | none=>none
 | .app x y=>match X0 x,X0 y with | some a,some b=>some (a++b) | _,_=>none
 | .sub x (.lit m) (.lit n)=>match X0 x with | some a=>some (o7 a m n) | none=>none
 | .upd x (.lit m) j l=>match X0 x,a0f l with | some a,some b=>some (a1t a m j b) | _,_=>none
 | .rep (.lit n) l=>match a0f l with | some b=>some (List.replicate n.toNat b) | none=>none
 | _=>none
def a0f:AL→Option (List D)
 | .nil=>some []
 | .i (.lit n) r=>match a0f r with | some l=>some (.i n::l) | none=>none
 | .b (.lit b) r=>match a0f r with | some l=>some (.b b::l) | none=>none
 | .x x r=>match X0 x,a0f r with | some a,some l=>some (.l a::l) | _,_=>none
 | _=>none
end
mutual
theorem a3x(ρ:Env):∀(x:X) (r:Rows),X0 x=some r→x.ev ρ=r
 | .nil,r,h=>by simp only[X0,Option.some.injEq] at h;subst h;simp [X.ev]
 | .row l,r,h=>by
   simp only[X0] at h
   split at h
   ·rename_i a ha
    simp only[Option.some.injEq] at h;subst h
    simp only[X.ev,V8 ρ l a ha]
   ·cases h
 | .app x y,r,h=>by
   simp only[X0] at h
   split at h
   ·rename_i a b ha hb
    simp only[Option.some.injEq] at h;subst h
    simp only[X.ev,a3x ρ x a ha,a3x ρ y b hb]
   ·cases h
 | .var _,r,h=>by simp [X0] at h
 | .rd _ _ _,r,h=>by simp [X0] at h
 | .sub x lo hi,r,h=>by
   cases lo<;>(try (simp only[X0,reduceCtorEq] at h;done))
   cases hi<;>simp only[X0,reduceCtorEq] at h
   split at h
   ·rename_i a ha
    simp only[Option.some.injEq] at h;subst h
    simp only[X.ev,E.ev,a3x ρ x a ha]
   ·cases h
 | .upd x i j l,r,h=>by
   cases i<;>simp only[X0,reduceCtorEq] at h
   split at h
   ·rename_i a b ha hb
    simp only[Option.some.injEq] at h;subst h
    simp only[X.ev,E.ev,a3x ρ x a ha,V8 ρ l b hb]
   ·cases h
 | .fn _ _,r,h=>by simp [X0] at h
 | .rep n l,r,h=>by
   cases n<;>simp only[X0,reduceCtorEq] at h
   split at h
   ·rename_i b hb
    simp only[Option.some.injEq] at h;subst h
    simp only[X.ev,E.ev,V8 ρ l b hb]
   ·cases h
theorem V8(ρ:Env):∀(a:AL) (l:List D),a0f a=some l→a.ev ρ=l
 | .nil,l,h=>by simp only[a0f,Option.some.injEq] at h;subst h;simp [AL.ev]
 | .i e r,l,h=>by
   cases e<;>simp only[a0f,reduceCtorEq] at h
   split at h
   ·rename_i m hm
    simp only[Option.some.injEq] at h;subst h
    simp only[AL.ev,E.ev,V8 ρ r m hm]
   ·cases h
 | .b e r,l,h=>by
   cases e<;>simp only[a0f,reduceCtorEq] at h
   split at h
   ·rename_i m hm
    simp only[Option.some.injEq] at h;subst h
    simp only[AL.ev,B.ev,V8 ρ r m hm]
   ·cases h
 | .x x r,l,h=>by
   simp only[a0f] at h
   split at h
   ·rename_i a m ha hm
    simp only[Option.some.injEq] at h;subst h
    simp only[AL.ev,a3x ρ x a ha,V8 ρ r m hm]
   ·cases h
end
def bF(s:Nat)(f:List D→Bool)(al:AL):B:=match a0f al with | some l=> .lit (f l) | none=> .fn s al
def iF(s:Nat)(f:List D→Int)(al:AL):E:=match a0f al with | some l=> .lit (f l) | none=> .fn s al
theorem m9{ρ:Env}{s:Nat}{f:List D→Bool}(h:∀l,ρ.fb s l=f l)(al:AL):(bF s f al).ev ρ=f (al.ev ρ):=by
 unfold bF
 split
 ·rename_i l hl;simp only[B.ev,V8 ρ al l hl]
 ·simp only[B.ev,h]
theorem k8{ρ:Env}{s:Nat}{f:List D→Int}(h:∀l,ρ.fi s l=f l)(al:AL):(iF s f al).ev ρ=f (al.ev ρ):=by
 unfold iF
 split
 ·rename_i l hl;simp only[E.ev,V8 ρ al l hl]
 ·simp only[E.ev,h]
def T7(s:Nat)(f:List D→Bool)(al:AL):S:= .z (.bool (bF s f al))
def w9(s:Nat)(f:List D→Int)(al:AL):S:= .z (.int .i64 (iF s f al))
def b2T:Interp:= { fi:=fun n l=>match n with | 0=>J2 l | _=>0,fb:=fun n l=>match n with | 1=>u0 l | 3=>w7 l | 4=>onL l | _=>false,fd:=fun _ _=>[] }
def a5W:=u7 [pt,pt,pt] fun al=> .ob (.tru (bF 1 u0 al)) (.ret (iV .i64 (iF 0 J2 al)))
def a9f:=u7 [pt,pt,pt] fun al=> .ob (.tru (bF 1 u0 al)) (.ret (bV (bF 4 onL al)))
theorem c0Q{ρ:Env}(h1:∀l,ρ.fb 1 l=u0 l)(h0:∀l,ρ.fi 0 l=J2 l):i9 Tryz.prog ρ 130 a5W:=by
 refine C7 c2z (fun al v hv=> ?_)
 obtain⟨ho,hv⟩:=hv
 obtain rfl:=c9 hv
 have ho:(bF 1 u0 al).ev ρ=true:=ho
 rw[m9 h1] at ho
 refine⟨rfl,a1U ho,?_⟩
 simp only[iV,V.s0,V.val,V2.val,S.val,S0.val,k8 h0,J2]
theorem b7g{ρ:Env}(h1:∀l,ρ.fb 1 l=u0 l)(h4:∀l,ρ.fb 4 l=onL l):i9 Tryz.prog ρ 137 a9f:=by
 refine C7 d6w (fun al v hv=> ?_)
 obtain⟨ho,hv⟩:=hv
 obtain rfl:=c9 hv
 have ho:(bF 1 u0 al).ev ρ=true:=ho
 rw[m9 h1] at ho
 refine⟨rfl,ho,?_⟩
 simp only[bV,V.s0,V.val,V2.val,S.val,S0.val,m9 h4]
def ctM:Ct:=[(130,a5W),(137,a9f)]
theorem d2d{ρ:Env}(h:ρ.has b2T):CtOk Tryz.prog ρ ctM:=
 .cons (c0Q (fun l=>by rw[h.2.1];rfl) (fun l=>by rw[h.1];rfl))<| .cons (b7g (fun l=>by rw[h.2.1];rfl) (fun l=>by rw[h.2.1];rfl)) .nil
def a9g:TT j4:=
(.ob (.tru (.fn 1 (.i (.var 0) (.i (.var 1) (.i (.var 2) (.i (.var 3) (.i (.var 4) (.i (.var 5) .nil))))))))
(.ob (.tru (.fn 1 (.i (.var 0) (.i (.var 1) (.i (.var 2) (.i (.var 3) (.i (.var 6) (.i (.var 7) .nil))))))))
(.ite (.cmp .lss (.ar .mul .i64 (.fn 0 (.i (.var 0) (.i (.var 1) (.i (.var 2) (.i (.var 3) (.i (.var 4) (.i (.var 5) .nil))))))) (.fn 0 (.i (.var 0) (.i (.var 1) (.i (.var 2) (.i (.var 3) (.i (.var 6) (.i (.var 7) .nil)))))))) (.lit 0))
 (.ob (.tru (.fn 1 (.i (.var 4) (.i (.var 5) (.i (.var 6) (.i (.var 7) (.i (.var 0) (.i (.var 1) .nil))))))))
 (.ob (.tru (.fn 1 (.i (.var 4) (.i (.var 5) (.i (.var 6) (.i (.var 7) (.i (.var 2) (.i (.var 3) .nil))))))))
 (.ite (.cmp .lss (.ar .mul .i64 (.fn 0 (.i (.var 4) (.i (.var 5) (.i (.var 6) (.i (.var 7) (.i (.var 0) (.i (.var 1) .nil))))))) (.fn 0 (.i (.var 4) (.i (.var 5) (.i (.var 6) (.i (.var 7) (.i (.var 2) (.i (.var 3) .nil)))))))) (.lit 0))
 (.ret ((.v (.one (.z (.bool (.lit true))))),[],4))
 (.ob (.tru (.fn 1 (.i (.var 0) (.i (.var 1) (.i (.var 4) (.i (.var 5) (.i (.var 6) (.i (.var 7) .nil))))))))
 (.ite (.fn 4 (.i (.var 0) (.i (.var 1) (.i (.var 4) (.i (.var 5) (.i (.var 6) (.i (.var 7) .nil)))))))
 (.ret ((.v (.one (.z (.bool (.lit true))))),[],4))
 (.ob (.tru (.fn 1 (.i (.var 2) (.i (.var 3) (.i (.var 4) (.i (.var 5) (.i (.var 6) (.i (.var 7) .nil))))))))
 (.ite (.fn 4 (.i (.var 2) (.i (.var 3) (.i (.var 4) (.i (.var 5) (.i (.var 6) (.i (.var 7) .nil)))))))
 (.ret ((.v (.one (.z (.bool (.lit true))))),[],4))
 (.ob (.tru (.fn 1 (.i (.var 4) (.i (.var 5) (.i (.var 0) (.i (.var 1) (.i (.var 2) (.i (.var 3) .nil))))))))
 (.ite (.fn 4 (.i (.var 4) (.i (.var 5) (.i (.var 0) (.i (.var 1) (.i (.var 2) (.i (.var 3) .nil)))))))
 (.ret ((.v (.one (.z (.bool (.lit true))))),[],4))
 (.ob (.tru (.fn 1 (.i (.var 6) (.i (.var 7) (.i (.var 0) (.i (.var 1) (.i (.var 2) (.i (.var 3) .nil))))))))
 (.ret ((.v (.one (.z (.bool (.fn 4 (.i (.var 6) (.i (.var 7) (.i (.var 0) (.i (.var 1) (.i (.var 2) (.i (.var 3) .nil))))))))))),[],4))))))))))))
 (.ob (.tru (.fn 1 (.i (.var 0) (.i (.var 1) (.i (.var 4) (.i (.var 5) (.i (.var 6) (.i (.var 7) .nil))))))))
 (.ite (.fn 4 (.i (.var 0) (.i (.var 1) (.i (.var 4) (.i (.var 5) (.i (.var 6) (.i (.var 7) .nil)))))))
 (.ret ((.v (.one (.z (.bool (.lit true))))),[],4))
 (.ob (.tru (.fn 1 (.i (.var 2) (.i (.var 3) (.i (.var 4) (.i (.var 5) (.i (.var 6) (.i (.var 7) .nil))))))))
 (.ite (.fn 4 (.i (.var 2) (.i (.var 3) (.i (.var 4) (.i (.var 5) (.i (.var 6) (.i (.var 7) .nil)))))))
 (.ret ((.v (.one (.z (.bool (.lit true))))),[],4))
 (.ob (.tru (.fn 1 (.i (.var 4) (.i (.var 5) (.i (.var 0) (.i (.var 1) (.i (.var 2) (.i (.var 3) .nil))))))))
 (.ite (.fn 4 (.i (.var 4) (.i (.var 5) (.i (.var 0) (.i (.var 1) (.i (.var 2) (.i (.var 3) .nil)))))))
 (.ret ((.v (.one (.z (.bool (.lit true))))),[],4))
 (.ob (.tru (.fn 1 (.i (.var 6) (.i (.var 7) (.i (.var 0) (.i (.var 1) (.i (.var 2) (.i (.var 3) .nil))))))))
 (.ret ((.v (.one (.z (.bool (.fn 4 (.i (.var 6) (.i (.var 7) (.i (.var 0) (.i (.var 1) (.i (.var 2) (.i (.var 3) .nil))))))))))),[],4))))))))))))
set_option maxRecDepth 100000 in
theorem b9j:T.norm 0 (call Tryz.prog ctM (Lt.of []) 100 132 (g7 0 [pt,pt,pt,pt]) [] 0) TT.ret=a9g:=by kernel_rfl
theorem b6a:a9g.low 1000=true:=by kernel_rfl
def n9(ax ay bx by' cx cy dx dy:Int):Bool:=
 decide (z6 ax ay bx by' cx cy*z6 ax ay bx by' dx dy<0∧z6 cx cy dx dy ax ay*z6 cx cy dx dy bx by'<0)||
 (A7 ax ay cx cy dx dy||(A7 bx by' cx cy dx dy||(A7 cx cy ax ay bx by'||A7 dx dy ax ay bx by')))
def G8(ds:List D):Bool:=n9 (a7 ds 0) (a7 ds 1) (a7 ds 2) (a7 ds 3) (a7 ds 4) (a7 ds 5) (a7 ds 6) (a7 ds 7)
def D9(ds:List D):Bool:=f9 (a7 ds 0) (a7 ds 1)&&(f9 (a7 ds 2) (a7 ds 3)&&(f9 (a7 ds 4) (a7 ds 5)&&f9 (a7 ds 6) (a7 ds 7)))
theorem a9c(n:Int): -1≤J9 n∧J9 n≤1:=by unfold J9;split<;>(try split)<;>omega
theorem a8m(a b c d e f:Int):onL [.i a,.i b,.i c,.i d,.i e,.i f]=A7 a b c d e f:=rfl
theorem d2s(W:World)(ds l:List D):(a9 b2T W ds).fb 1 l=u0 l:=rfl
theorem d1F(W:World)(ds l:List D):(a9 b2T W ds).fb 4 l=onL l:=rfl
theorem d0z(W:World)(ds l:List D):(a9 b2T W ds).fi 0 l=J2 l:=rfl
theorem d4P(a b:Int):IntKind.i64.wrap (J9 a*J9 b)=J9 a*J9 b:=by
 have h1:=a9c a
 have h2:=a9c b
 have:=N8 (a:=J9 a) (b:=J9 b) (A:=1) (B:=1) (by omega) (by omega) (by omega) (by omega)
 exact b8 _ (by omega) (by omega)
theorem d0Q(a b c d e f a' b' c' d' e' f':Int):IntKind.i64.wrap (z6 a b c d e f*z6 a' b' c' d' e' f')=z6 a b c d e f*z6 a' b' c' d' e' f':=d4P _ _
theorem d2j:GivesIf Tryz.prog 132 [pt,pt,pt,pt] (fun ds=>D9 ds=true) (fun ds=> .bool (G8 ds)):=by
 refine i7 b2T (by kernel_rfl) (fun ρ h=>d2d h) (by kernel_rfl) b9j b6a (by decide) (fun W vals ds _ hok=> ?_)
 simp only[D9,Bool.and_eq_true] at hok
 obtain⟨p1,p2,p3,p4⟩:=hok
 simp only[a9g,g9,Nat.reduceBEq,Nat.reduceLT,Nat.reduceSub,d2s,d1F,d0z,R7,a2i,a8m]
 simp only[p1,p2,p3,p4,and_self,true_and,d0Q]
 simp only[G8,n9]
 generalize A7 (a7 ds 0) (a7 ds 1) (a7 ds 4) (a7 ds 5) (a7 ds 6) (a7 ds 7)=o1
 generalize A7 (a7 ds 2) (a7 ds 3) (a7 ds 4) (a7 ds 5) (a7 ds 6) (a7 ds 7)=o2
 generalize A7 (a7 ds 4) (a7 ds 5) (a7 ds 0) (a7 ds 1) (a7 ds 2) (a7 ds 3)=o3
 generalize A7 (a7 ds 6) (a7 ds 7) (a7 ds 0) (a7 ds 1) (a7 ds 2) (a7 ds 3)=o4
 refine⟨fun h=>⟨fun h'=> ?_,fun h'=> ?_⟩,fun h=> ?_⟩
 ·rw[decide_eq_true ⟨h,h'⟩];rfl
 ·rw[decide_eq_false (fun q=>h' q.2)]
  cases o1<;>cases o2<;>cases o3<;>cases o4<;>simp
 ·rw[decide_eq_false (fun q=>h q.1)]
  cases o1<;>cases o2<;>cases o3<;>cases o4<;>simp
def I4:Interp:= { fi:=fun _ _=>0,fb:=fun n l=>match n with | 1=>u0 l | 2=>J1 l | 3=>w7 l | 5=>D9 l | 6=>G8 l | _=>false,fd:=fun _ _=>[] }
def c1Q:=u7 [pt,pt,pt,pt] fun al=> .ob (.tru (bF 5 D9 al)) (.ret (bV (bF 6 G8 al)))
def a1M:=u7 [pt] fun al=> .ret (bV (bF 3 w7 al))
theorem c3o{ρ:Env}(h5:∀l,ρ.fb 5 l=D9 l)(h6:∀l,ρ.fb 6 l=G8 l):i9 Tryz.prog ρ 132 c1Q:=by
 refine C7 d2j (fun al v hv=> ?_)
 obtain⟨ho,hv⟩:=hv
 obtain rfl:=c9 hv
 have ho:(bF 5 D9 al).ev ρ=true:=ho
 rw[m9 h5] at ho
 refine⟨rfl,ho,?_⟩
 simp only[bV,V.s0,V.val,V2.val,S.val,S0.val,m9 h6]
theorem a4o{ρ:Env}(h:∀l,ρ.fb 3 l=w7 l):i9 Tryz.prog ρ 53 a1M:=
 j7 c1V (fun _=>rfl) (fun al=>by simp only[bV,V.s0,V.val,V2.val,S.val,S0.val,m9 h,w7])
def d1Y(ax ay bx by' cx cy dx dy r:Int):Bool:=
 n9 ax ay bx by' cx cy dx dy||(A9 ax ay cx cy dx dy r||(A9 bx by' cx cy dx dy r||(A9 cx cy ax ay bx by' r||A9 dx dy ax ay bx by' r)))
def d0K(ds:List D):Bool:=d1Y (a7 ds 0) (a7 ds 1) (a7 ds 2) (a7 ds 3) (a7 ds 4) (a7 ds 5) (a7 ds 6) (a7 ds 7) (a7 ds 8)
theorem S2(a b c d e f g h:Int):D9 [.i a,.i b,.i c,.i d,.i e,.i f,.i g,.i h]=(f9 a b&&(f9 c d&&(f9 e f&&f9 g h))):=rfl
theorem W5(a b c d e f g h:Int):G8 [.i a,.i b,.i c,.i d,.i e,.i f,.i g,.i h]=n9 a b c d e f g h:=by
 unfold G8 a7;simp only[List.getD_cons_zero,List.getD_cons_succ,D.int]
def b6D(ds:List D):Bool:=D9 ds&&A5 (a7 ds 8)
def a3I(ds:List D):Bool:=u0 ds&&A5 (a7 ds 6)
def P7(ds:List D):Bool:=a3I ds&&J1 ds
def X9(ds:List D):Int:=if a3I ds then 0 else 1
def a3j(ds:List D):Bool:=b6D ds&&d0K ds
def d1l(ds:List D):Int:=if b6D ds then 0 else 1
def G3(ds:List D):Int:=if u0 ds then J2 ds else 0
def a2t(ds:List D):Int:=if u0 ds then 0 else 1
def d3v(ds:List D):Bool:=a7j (a7 ds 0) (a7 ds 1) (a7 ds 2) (b9 ds 3)&&decide (0≤a7 ds 4∧a7 ds 4≤(b9 ds 3).length)
def c4b(ds:List D):Bool:=d3v ds&& !decide (10000000<tHi (b9 ds 3) (a7 ds 1) (a7 ds 4).toNat)
def d6o(ds:List D):Int:=if c4b ds then tLo (b9 ds 3) (a7 ds 0) (a7 ds 4).toNat else 0
def d6t(ds:List D):Int:=if c4b ds then tHi (b9 ds 3) (a7 ds 1) (a7 ds 4).toNat else 0
def d5Q(ds:List D):Int:=if d3v ds then(if c4b ds then 0 else 3) else 1
def d3t(ds:List D):Bool:=a7j (a7 ds 0) (a7 ds 1) (a7 ds 2) (b9 ds 3)&&decide (0≤a7 ds 4∧a7 ds 4<(b9 ds 3).length)
def c5G(ds:List D):Bool:=d3t ds&& !decide (10000000<tHi (b9 ds 3) (a7 ds 1) ((a7 ds 4).toNat+1))
def d2M(ds:List D):Int:=if c5G ds then tLo (b9 ds 3) (a7 ds 0) (a7 ds 4).toNat else 0
def d3j(ds:List D):Int:=if c5G ds then tHi (b9 ds 3) (a7 ds 1) ((a7 ds 4).toNat+1) else 0
def c5O(ds:List D):Int:=if d3t ds then(if c5G ds then 0 else 3) else 1
def d4y(ds:List D):Int:=(c6E ds).1
def d3I(ds:List D):Int:=(c6E ds).2
def K:Interp where
 fi n l:=match n with | 0=>J2 l | 10=>a8Z l | 11=>a8B l | 12=>b2m l | 13=>X9 l | 14=>d1l l | 15=>G3 l | 16=>a2t l | 21=>d6o l | 22=>d6t l | 23=>d5Q l | 24=>d2M l | 25=>d3j l | 26=>c5O l | 27=>d4y l | 28=>d3I l | _=>0
 fb n l:=match n with | 0=>b1H l | 1=>u0 l | 2=>J1 l | 3=>w7 l | 4=>onL l | 5=>D9 l | 6=>G8 l | 7=>P7 l | 8=>a3j l | 20=>d0E l | _=>false
 fd _ _:=[]
def b2A:=u7 [pt,pt,pt,it] fun al=> .ret (.tup [.one (T7 7 P7 al),.one (w9 13 X9 al)])
def a7O:=u7 [pt,pt,pt] fun al=> .ret (.tup [.one (w9 15 G3 al),.one (w9 16 a2t al)])
def Sees(ρ:Env)(I:Interp)(c:Nat):Prop:=∀n l,n<c→ρ.fi n l=I.fi n l∧ρ.fb n l=I.fb n l
theorem Sees.of{ρ:Env}{I:Interp}(h:ρ.has I)(c:Nat):Sees ρ I c:=fun n l _=>by rw[h.1,h.2.1];exact⟨rfl,rfl⟩
theorem Sees.trans{ρ:Env}{I J:Interp}{c d:Nat}(h:Sees ρ I c)(hd:d≤c)(hj:∀n l,n<d→I.fi n l=J.fi n l∧I.fb n l=J.fb n l):Sees ρ J d:=
 fun n l hn=>⟨(h n l (Nat.lt_of_lt_of_le hn hd)).1.trans (hj n l hn).1,(h n l (Nat.lt_of_lt_of_le hn hd)).2.trans (hj n l hn).2⟩
section
variable {ρ:Env} (h:Sees ρ K 30)
include h
theorem b1s:i9 Tryz.prog ρ 166 b2A:=
 j7 d4E (fun _=>rfl) (fun al=>by
  simp only[V.val,V2.val,S.val,S0.val,w9,T7,List.map_cons,List.map_nil,m9 (s:=7) (f:=P7) (fun l=>by rw[(h 7 l (by decide)).2];simp only[K]),k8 (s:=13) (f:=X9) (fun l=>by rw[(h 13 l (by decide)).1];simp only[K])];rfl)
theorem c2c:i9 Tryz.prog ρ 120 a7O:=
 j7 c7s (fun _=>rfl) (fun al=>by
  simp only[V.val,V2.val,S.val,S0.val,w9,T7,List.map_cons,List.map_nil,k8 (s:=15) (f:=G3) (fun l=>by rw[(h 15 l (by decide)).1];simp only[K]),k8 (s:=16) (f:=a2t) (fun l=>by rw[(h 16 l (by decide)).1];simp only[K]),b1O,G3,a2t]
  split<;>rfl)
theorem b8V:i9 Tryz.prog ρ 53 a1M:=a4o (fun l=>by rw[(h 3 l (by decide)).2];simp only[K])
end
def d2J:Ct:=[(53,a1M),(166,b2A),(120,a7O)]
theorem c8G{ρ:Env}(h:Sees ρ K 30):CtOk Tryz.prog ρ d2J:= .cons (b8V h)<| .cons (b1s h)<| .cons (c2c h) .nil
def ctH:Ct:=d2J
theorem d1x{ρ:Env}(h:Sees ρ K 30):CtOk Tryz.prog ρ ctH:=(c8G h)
end Go.Proofs.YtcjaembdcfppfaaGreat
namespace Go.Proofs.YtcjaembdcfppfaaGreat
open Go.RowKit
def sp:Sh:= .agg [.int .i64,.int .i64]
def bx:Sh:= .agg [.int .i64,.int .i64,.int .i64,.int .i64]
def c0o:TT j4:=
(.ite (.cmp .leq (.lit (-1000000000000)) (.var 0))
 (.ite (.cmp .leq (.var 0) (.var 1))
 (.ret ((.v (.one (.z (.bool (.cmp .leq (.var 1) (.lit 1000000000000)))))),[],1))
 (.ret ((.v (.one (.z (.bool (.lit false))))),[],1)))
 (.ret ((.v (.one (.z (.bool (.lit false))))),[],1)))
set_option maxRecDepth 100000 in
theorem c3Z:T.norm 0 (call Tryz.prog [] (Lt.of []) 100 93 (g7 0 [sp]) [] 0) TT.ret=c0o:=by kernel_rfl
theorem c2T:c0o.low 1000=true:=by kernel_rfl
def a0M(a b:Int):Bool:=decide (-1000000000000≤a∧a≤b∧b≤1000000000000)
def P9(ds:List D):Bool:=a0M (a7 ds 0) (a7 ds 1)
theorem d5W:m8 Tryz.prog 93 [sp] (fun ds=> .bool (P9 ds)):=by
 refine GivesIf.all (i7 I0 (by kernel_rfl) (fun ρ _=>CtOk.nil) (by kernel_rfl) c3Z c2T (by decide) (fun W vals ds _ _=> ?_))
 simp only[c0o,g9,Nat.reduceBEq,Nat.reduceLT,Nat.reduceSub,P9]
 refine⟨fun h1=>⟨fun h2=>congrArg Value.bool ?_,fun h2=>congrArg Value.bool ?_⟩,fun h1=>congrArg Value.bool ?_⟩
 all_goals (rw[Bool.eq_iff_iff];simp only[a0M,n8,j8,decide_eq_true_eq,Bool.false_eq_true,false_iff];omega)
def KS:Interp:= { fi:=fun _ _=>0,fb:=fun n l=>match n with | 30=>P9 l | _=>false,fd:=fun _ _=>[] }
def b2g:=u7 [sp] fun al=> .ret (bV (bF 30 P9 al))
theorem a9l{ρ:Env}(h:∀l,ρ.fb 30 l=P9 l):i9 Tryz.prog ρ 93 b2g:=
 j7 d5W (fun _=>rfl) (fun al=>by simp only[bV,V.s0,V.val,V2.val,S.val,S0.val,m9 h])
def ctS:Ct:=[(93,b2g)]
theorem d0u{ρ:Env}(h:ρ.has KS):CtOk Tryz.prog ρ ctS:= .cons (a9l (fun l=>by rw[h.2.1];simp only[KS])) .nil
def b3k:TT j4:=
(.ite (.not (.fn 30 (.i (.var 0) (.i (.var 1) .nil))))
 (.ite (.not (.fn 30 (.i (.var 2) (.i (.var 3) .nil))))
 (.ret ((.v (.one (.z (.bool (.lit false))))),[],14))
 (.ret ((.v (.one (.z (.bool (.lit false))))),[],14)))
 (.ite (.not (.fn 30 (.i (.var 2) (.i (.var 3) .nil))))
 (.ret ((.v (.one (.z (.bool (.lit false))))),[],14))
 (.ite (.and (.cmp .eql (.mn (.var 0) (.lit (-1000000))) (.lit (-1000000))) (.cmp .eql (.mx (.var 1) (.lit 1000000)) (.lit 1000000)))
 (.ret ((.v (.one (.z (.bool (.and (.cmp .eql (.mn (.var 2) (.lit (-1000000))) (.lit (-1000000))) (.cmp .eql (.mx (.var 3) (.lit 1000000)) (.lit 1000000))))))),[],14))
 (.ret ((.v (.one (.z (.bool (.lit false))))),[],14)))))
set_option maxRecDepth 100000 in
theorem c0z:T.norm 0 (call Tryz.prog ctS (Lt.of []) 100 40 (g7 0 [bx]) [] 0) TT.ret=b3k:=by kernel_rfl
theorem b9f:b3k.low 1000=true:=by kernel_rfl
def o8(a b c d:Int):Bool:=decide ((-1000000≤a∧a≤b∧b≤1000000)∧ -1000000≤c∧c≤d∧d≤1000000)
def S4(ds:List D):Bool:=o8 (a7 ds 0) (a7 ds 1) (a7 ds 2) (a7 ds 3)
theorem d5E(W:World)(ds l:List D):(a9 KS W ds).fb 30 l=P9 l:=by simp only[a9,KS]
theorem a2h(a b:Int):P9 [.i a,.i b]=a0M a b:=rfl
theorem b0e(a b:Int):(a0M a b=true)=(-1000000000000≤a∧a≤b∧b≤1000000000000):=by simp [a0M]
theorem c9P(a b:Int):(a0M a b=false)=¬(-1000000000000≤a∧a≤b∧b≤1000000000000):=by simp [a0M]
theorem d5b:m8 Tryz.prog 40 [bx] (fun ds=> .bool (S4 ds)):=by
 refine GivesIf.all (i7 KS (by kernel_rfl) (fun ρ h=>d0u h) (by kernel_rfl) c0z b9f (by decide) (fun W vals ds _ _=> ?_))
 simp only[b3k,g9,Nat.reduceBEq,Nat.reduceLT,Nat.reduceSub,d5E,a2h,S4,b0e,c9P]
 repeat' first
  | refine And.intro ?_ ?_
  | (intro h;skip)
 all_goals
  refine congrArg Value.bool ?_
  rw[Bool.eq_iff_iff]
  simp only[o8,n8,j8,decide_eq_true_eq,Bool.false_eq_true,false_iff,Bool.and_eq_true]
  omega
def KS2:Interp:= { fi:=fun _ _=>0,fb:=fun n l=>match n with | 30=>P9 l | 31=>S4 l | _=>false,fd:=fun _ _=>[] }
def a8l:=u7 [bx] fun al=> .ret (bV (bF 31 S4 al))
theorem b4v{ρ:Env}(h:∀l,ρ.fb 31 l=S4 l):i9 Tryz.prog ρ 40 a8l:=
 j7 d5b (fun _=>rfl) (fun al=>by simp only[bV,V.s0,V.val,V2.val,S.val,S0.val,m9 h])
def c6r:Ct:=[(93,b2g),(40,a8l)]
theorem b7b{ρ:Env}(h:ρ.has KS2):CtOk Tryz.prog ρ c6r:= .cons (a9l (fun l=>by rw[h.2.1];simp only[KS2]))<| .cons (b4v (fun l=>by rw[h.2.1];simp only[KS2])) .nil
def b2H:TT j4:=
(.ite (.not (.fn 31 (.i (.var 0) (.i (.var 1) (.i (.var 2) (.i (.var 3) .nil))))))
 (.ret ((.tup [(.agg [(.z (.int .i64 (.lit 0))),(.z (.int .i64 (.lit 0))),(.z (.int .i64 (.lit 0))),(.z (.int .i64 (.lit 0)))]),(.one (.z (.int .i64 (.lit 1))))]),[],6))
 (.ite (.not (.fn 31 (.i (.var 4) (.i (.var 5) (.i (.var 6) (.i (.var 7) .nil))))))
 (.ret ((.tup [(.agg [(.z (.int .i64 (.lit 0))),(.z (.int .i64 (.lit 0))),(.z (.int .i64 (.lit 0))),(.z (.int .i64 (.lit 0)))]),(.one (.z (.int .i64 (.lit 1))))]),[],6))
 (.ite (.not (.fn 30 (.i (.var 0) (.i (.var 1) .nil))))
 (.ite (.not (.fn 30 (.i (.var 2) (.i (.var 3) .nil))))
 (.ret ((.tup [(.agg [(.z (.int .i64 (.lit 0))),(.z (.int .i64 (.lit 0))),(.z (.int .i64 (.lit 0))),(.z (.int .i64 (.lit 0)))]),(.one (.z (.int .i64 (.lit 1))))]),[],14))
 (.ite (.not (.fn 30 (.i (.var 6) (.i (.var 7) .nil))))
 (.ret ((.tup [(.agg [(.z (.int .i64 (.lit 0))),(.z (.int .i64 (.lit 0))),(.z (.int .i64 (.lit 0))),(.z (.int .i64 (.lit 0)))]),(.one (.z (.int .i64 (.lit 1))))]),[],14))
 (.ret ((.tup [(.agg [(.z (.int .i64 (.lit 0))),(.z (.int .i64 (.lit 0))),(.z (.int .i64 (.lit 0))),(.z (.int .i64 (.lit 0)))]),(.one (.z (.int .i64 (.lit 1))))]),[],14))))
 (.ite (.not (.fn 30 (.i (.var 4) (.i (.var 5) .nil))))
 (.ite (.not (.fn 30 (.i (.var 2) (.i (.var 3) .nil))))
 (.ret ((.tup [(.agg [(.z (.int .i64 (.lit 0))),(.z (.int .i64 (.lit 0))),(.z (.int .i64 (.lit 0))),(.z (.int .i64 (.lit 0)))]),(.one (.z (.int .i64 (.lit 1))))]),[],14))
 (.ite (.not (.fn 30 (.i (.var 6) (.i (.var 7) .nil))))
 (.ret ((.tup [(.agg [(.z (.int .i64 (.lit 0))),(.z (.int .i64 (.lit 0))),(.z (.int .i64 (.lit 0))),(.z (.int .i64 (.lit 0)))]),(.one (.z (.int .i64 (.lit 1))))]),[],14))
 (.ret ((.tup [(.agg [(.z (.int .i64 (.lit 0))),(.z (.int .i64 (.lit 0))),(.z (.int .i64 (.lit 0))),(.z (.int .i64 (.lit 0)))]),(.one (.z (.int .i64 (.lit 1))))]),[],14))))
 (.ite (.not (.fn 30 (.i (.var 2) (.i (.var 3) .nil))))
 (.ret ((.tup [(.agg [(.z (.int .i64 (.lit 0))),(.z (.int .i64 (.lit 0))),(.z (.int .i64 (.lit 0))),(.z (.int .i64 (.lit 0)))]),(.one (.z (.int .i64 (.lit 1))))]),[],14))
 (.ite (.not (.fn 30 (.i (.var 6) (.i (.var 7) .nil))))
 (.ret ((.tup [(.agg [(.z (.int .i64 (.lit 0))),(.z (.int .i64 (.lit 0))),(.z (.int .i64 (.lit 0))),(.z (.int .i64 (.lit 0)))]),(.one (.z (.int .i64 (.lit 1))))]),[],14))
 (.ret ((.tup [(.agg [(.z (.int .i64 (.mn (.var 0) (.var 4)))),(.z (.int .i64 (.mx (.var 1) (.var 5)))),(.z (.int .i64 (.mn (.var 2) (.var 6)))),(.z (.int .i64 (.mx (.var 3) (.var 7))))]),(.one (.z (.int .i64 (.lit 0))))]),[],14))))))))
set_option maxRecDepth 100000 in
theorem c1K:T.norm 0 (call Tryz.prog c6r (Lt.of []) 100 66 (g7 0 [bx,bx]) [] 0) TT.ret=b2H:=by kernel_rfl
theorem b7Z:b2H.low 1000=true:=by kernel_rfl
def b0f:TT j4:=
(.ite (.not (.fn 31 (.i (.var 0) (.i (.var 1) (.i (.var 2) (.i (.var 3) .nil))))))
 (.ret ((.tup [(.agg [(.z (.int .i64 (.lit 0))),(.z (.int .i64 (.lit 0))),(.z (.int .i64 (.lit 0))),(.z (.int .i64 (.lit 0)))]),(.one (.z (.int .i64 (.lit 1))))]),[],6))
 (.ite (.not (.fn 31 (.i (.var 4) (.i (.var 5) (.i (.var 6) (.i (.var 7) .nil))))))
 (.ret ((.tup [(.agg [(.z (.int .i64 (.lit 0))),(.z (.int .i64 (.lit 0))),(.z (.int .i64 (.lit 0))),(.z (.int .i64 (.lit 0)))]),(.one (.z (.int .i64 (.lit 1))))]),[],6))
 (.ite (.not (.fn 30 (.i (.var 0) (.i (.var 1) .nil))))
 (.ite (.not (.fn 30 (.i (.var 2) (.i (.var 3) .nil))))
 (.ret ((.tup [(.agg [(.z (.int .i64 (.lit 0))),(.z (.int .i64 (.lit 0))),(.z (.int .i64 (.lit 0))),(.z (.int .i64 (.lit 0)))]),(.one (.z (.int .i64 (.lit 1))))]),[],14))
 (.ite (.not (.fn 30 (.i (.var 6) (.i (.var 7) .nil))))
 (.ret ((.tup [(.agg [(.z (.int .i64 (.lit 0))),(.z (.int .i64 (.lit 0))),(.z (.int .i64 (.lit 0))),(.z (.int .i64 (.lit 0)))]),(.one (.z (.int .i64 (.lit 1))))]),[],14))
 (.ite (.cmp .lss (.mn (.var 3) (.var 7)) (.mx (.var 2) (.var 6)))
 (.ret ((.tup [(.agg [(.z (.int .i64 (.lit 0))),(.z (.int .i64 (.lit 0))),(.z (.int .i64 (.lit 0))),(.z (.int .i64 (.lit 0)))]),(.one (.z (.int .i64 (.lit 4))))]),[],15))
 (.ret ((.tup [(.agg [(.z (.int .i64 (.lit 0))),(.z (.int .i64 (.lit 0))),(.z (.int .i64 (.lit 0))),(.z (.int .i64 (.lit 0)))]),(.one (.z (.int .i64 (.lit 1))))]),[],15)))))
 (.ite (.not (.fn 30 (.i (.var 4) (.i (.var 5) .nil))))
 (.ite (.not (.fn 30 (.i (.var 2) (.i (.var 3) .nil))))
 (.ret ((.tup [(.agg [(.z (.int .i64 (.lit 0))),(.z (.int .i64 (.lit 0))),(.z (.int .i64 (.lit 0))),(.z (.int .i64 (.lit 0)))]),(.one (.z (.int .i64 (.lit 1))))]),[],14))
 (.ite (.not (.fn 30 (.i (.var 6) (.i (.var 7) .nil))))
 (.ret ((.tup [(.agg [(.z (.int .i64 (.lit 0))),(.z (.int .i64 (.lit 0))),(.z (.int .i64 (.lit 0))),(.z (.int .i64 (.lit 0)))]),(.one (.z (.int .i64 (.lit 1))))]),[],14))
 (.ite (.cmp .lss (.mn (.var 3) (.var 7)) (.mx (.var 2) (.var 6)))
 (.ret ((.tup [(.agg [(.z (.int .i64 (.lit 0))),(.z (.int .i64 (.lit 0))),(.z (.int .i64 (.lit 0))),(.z (.int .i64 (.lit 0)))]),(.one (.z (.int .i64 (.lit 4))))]),[],15))
 (.ret ((.tup [(.agg [(.z (.int .i64 (.lit 0))),(.z (.int .i64 (.lit 0))),(.z (.int .i64 (.lit 0))),(.z (.int .i64 (.lit 0)))]),(.one (.z (.int .i64 (.lit 1))))]),[],15)))))
 (.ite (.cmp .lss (.mn (.var 1) (.var 5)) (.mx (.var 0) (.var 4)))
 (.ite (.not (.fn 30 (.i (.var 2) (.i (.var 3) .nil))))
 (.ret ((.tup [(.agg [(.z (.int .i64 (.lit 0))),(.z (.int .i64 (.lit 0))),(.z (.int .i64 (.lit 0))),(.z (.int .i64 (.lit 0)))]),(.one (.z (.int .i64 (.lit 4))))]),[],15))
 (.ite (.not (.fn 30 (.i (.var 6) (.i (.var 7) .nil))))
 (.ret ((.tup [(.agg [(.z (.int .i64 (.lit 0))),(.z (.int .i64 (.lit 0))),(.z (.int .i64 (.lit 0))),(.z (.int .i64 (.lit 0)))]),(.one (.z (.int .i64 (.lit 4))))]),[],15))
 (.ite (.cmp .lss (.mn (.var 3) (.var 7)) (.mx (.var 2) (.var 6)))
 (.ret ((.tup [(.agg [(.z (.int .i64 (.lit 0))),(.z (.int .i64 (.lit 0))),(.z (.int .i64 (.lit 0))),(.z (.int .i64 (.lit 0)))]),(.one (.z (.int .i64 (.lit 4))))]),[],16))
 (.ret ((.tup [(.agg [(.z (.int .i64 (.lit 0))),(.z (.int .i64 (.lit 0))),(.z (.int .i64 (.lit 0))),(.z (.int .i64 (.lit 0)))]),(.one (.z (.int .i64 (.lit 4))))]),[],16)))))
 (.ite (.not (.fn 30 (.i (.var 2) (.i (.var 3) .nil))))
 (.ret ((.tup [(.agg [(.z (.int .i64 (.lit 0))),(.z (.int .i64 (.lit 0))),(.z (.int .i64 (.lit 0))),(.z (.int .i64 (.lit 0)))]),(.one (.z (.int .i64 (.lit 1))))]),[],15))
 (.ite (.not (.fn 30 (.i (.var 6) (.i (.var 7) .nil))))
 (.ret ((.tup [(.agg [(.z (.int .i64 (.lit 0))),(.z (.int .i64 (.lit 0))),(.z (.int .i64 (.lit 0))),(.z (.int .i64 (.lit 0)))]),(.one (.z (.int .i64 (.lit 1))))]),[],15))
 (.ite (.cmp .lss (.mn (.var 3) (.var 7)) (.mx (.var 2) (.var 6)))
 (.ret ((.tup [(.agg [(.z (.int .i64 (.lit 0))),(.z (.int .i64 (.lit 0))),(.z (.int .i64 (.lit 0))),(.z (.int .i64 (.lit 0)))]),(.one (.z (.int .i64 (.lit 4))))]),[],16))
 (.ret ((.tup [(.agg [(.z (.int .i64 (.mx (.var 0) (.var 4)))),(.z (.int .i64 (.mn (.var 1) (.var 5)))),(.z (.int .i64 (.mx (.var 2) (.var 6)))),(.z (.int .i64 (.mn (.var 3) (.var 7))))]),(.one (.z (.int .i64 (.lit 0))))]),[],16))))))))))
set_option maxRecDepth 100000 in
theorem c0b:T.norm 0 (call Tryz.prog c6r (Lt.of []) 100 42 (g7 0 [bx,bx]) [] 0) TT.ret=b0f:=by kernel_rfl
theorem b5h:b0f.low 1000=true:=by kernel_rfl
def J5(a b c d e:Int):Value:= .tuple #[.agg #[.int .i64 a,.int .i64 b,.int .i64 c,.int .i64 d],.int .i64 e]
def G5(ds:List D):Bool:=o8 (a7 ds 0) (a7 ds 1) (a7 ds 2) (a7 ds 3)&&o8 (a7 ds 4) (a7 ds 5) (a7 ds 6) (a7 ds 7)
theorem d2q(a b c d:Int):(o8 a b c d=true)=((-1000000≤a∧a≤b∧b≤1000000)∧ -1000000≤c∧c≤d∧d≤1000000):=by simp [o8]
theorem c7U(W:World)(ds l:List D):(a9 KS2 W ds).fb 30 l=P9 l:=by simp only[a9,KS2]
theorem c6J(W:World)(ds l:List D):(a9 KS2 W ds).fb 31 l=S4 l:=by simp only[a9,KS2]
theorem a4s(a b c d:Int):S4 [.i a,.i b,.i c,.i d]=o8 a b c d:=rfl
theorem P3{a b c d:Int}(h:o8 a b c d=true):a0M a b=true∧a0M c d=true:=by
 rw[d2q] at h;rw[b0e,b0e];omega
def a3A(ds:List D):Value:=if G5 ds then J5 (min (a7 ds 0) (a7 ds 4)) (max (a7 ds 1) (a7 ds 5)) (min (a7 ds 2) (a7 ds 6)) (max (a7 ds 3) (a7 ds 7)) 0 else J5 0 0 0 0 1
theorem d4p:m8 Tryz.prog 66 [bx,bx] a3A:=by
 refine GivesIf.all (i7 KS2 (by kernel_rfl) (fun ρ h=>b7b h) (by kernel_rfl) c1K b7Z (by decide) (fun W vals ds _ _=> ?_))
 simp only[b2H,g9,Nat.reduceBEq,Nat.reduceLT,Nat.reduceSub,c7U,c6J,a2h,a4s]
 cases h1:o8 (a7 ds 0) (a7 ds 1) (a7 ds 2) (a7 ds 3)
 ·simp [a3A,G5,h1,J5]
 ·cases h2:o8 (a7 ds 4) (a7 ds 5) (a7 ds 6) (a7 ds 7)
  ·simp [a3A,G5,h1,h2,J5]
  ·simp [a3A,G5,h1,h2,J5,P3 h1,P3 h2]
def Q9(ds:List D):Bool:=decide (max (a7 ds 0) (a7 ds 4)≤min (a7 ds 1) (a7 ds 5)∧max (a7 ds 2) (a7 ds 6)≤min (a7 ds 3) (a7 ds 7))
def R4(ds:List D):Value:=if G5 ds then(if Q9 ds then J5 (max (a7 ds 0) (a7 ds 4)) (min (a7 ds 1) (a7 ds 5)) (max (a7 ds 2) (a7 ds 6)) (min (a7 ds 3) (a7 ds 7)) 0 else J5 0 0 0 0 4) else J5 0 0 0 0 1
theorem d2w:m8 Tryz.prog 42 [bx,bx] R4:=by
 refine GivesIf.all (i7 KS2 (by kernel_rfl) (fun ρ h=>b7b h) (by kernel_rfl) c0b b5h (by decide) (fun W vals ds _ _=> ?_))
 simp only[b0f,g9,Nat.reduceBEq,Nat.reduceLT,Nat.reduceSub,c7U,c6J,a2h,a4s]
 cases h1:o8 (a7 ds 0) (a7 ds 1) (a7 ds 2) (a7 ds 3)
 ·simp [R4,G5,h1,J5]
 ·cases h2:o8 (a7 ds 4) (a7 ds 5) (a7 ds 6) (a7 ds 7)
  ·simp [R4,G5,h1,h2,J5]
  ·rw[show R4 ds=if Q9 ds=true then J5 (max (a7 ds 0) (a7 ds 4)) (min (a7 ds 1) (a7 ds 5)) (max (a7 ds 2) (a7 ds 6)) (min (a7 ds 3) (a7 ds 7)) 0 else J5 0 0 0 0 4 from by simp [R4,G5,h1,h2]]
   cases h:Q9 ds<;>simp only[Q9,decide_eq_true_eq,decide_eq_false_iff_not] at h<;>simp only[P3 h1,P3 h2,reduceCtorEq,if_true,if_false,false_implies,forall_const,true_and,and_true,J5,j8,Bool.false_eq_true]
   ·refine⟨fun a=> ?_,fun a=>⟨fun b=> ?_,fun b=> ?_⟩⟩<;>first | (exfalso;omega) | simp
   ·refine⟨fun a=> ?_,fun a=>⟨fun b=> ?_,fun b=> ?_⟩⟩<;>first | (exfalso;omega) | simp
def a5P(ds:List D):Int:=if G5 ds then min (a7 ds 0) (a7 ds 4) else 0
def a5B(ds:List D):Int:=if G5 ds then max (a7 ds 1) (a7 ds 5) else 0
def a5r(ds:List D):Int:=if G5 ds then min (a7 ds 2) (a7 ds 6) else 0
def a5e(ds:List D):Int:=if G5 ds then max (a7 ds 3) (a7 ds 7) else 0
def M2(ds:List D):Int:=if G5 ds then 0 else 1
def a6l(ds:List D):Bool:=G5 ds&&Q9 ds
def a6j(ds:List D):Int:=if a6l ds then max (a7 ds 0) (a7 ds 4) else 0
def a3d(ds:List D):Int:=if a6l ds then min (a7 ds 1) (a7 ds 5) else 0
def a6g(ds:List D):Int:=if a6l ds then max (a7 ds 2) (a7 ds 6) else 0
def a6r(ds:List D):Int:=if a6l ds then min (a7 ds 3) (a7 ds 7) else 0
def a0J(ds:List D):Int:=if a6l ds then 0 else if G5 ds then 4 else 1
def c7p(ds:List D):Bool:=o8 (a7 ds 0) (a7 ds 1) (a7 ds 2) (a7 ds 3)&&decide (0≤a7 ds 4∧a7 ds 4≤3000000)
def a7Z(ds:List D):Bool:=c7p ds&&o8 (a7 ds 0-a7 ds 4) (a7 ds 1+a7 ds 4) (a7 ds 2-a7 ds 4) (a7 ds 3+a7 ds 4)
def c7c(ds:List D):Int:=if a7Z ds then a7 ds 0-a7 ds 4 else 0
def c7S(ds:List D):Int:=if a7Z ds then a7 ds 1+a7 ds 4 else 0
def c7x(ds:List D):Int:=if a7Z ds then a7 ds 2-a7 ds 4 else 0
def c7F(ds:List D):Int:=if a7Z ds then a7 ds 3+a7 ds 4 else 0
def c7r(ds:List D):Int:=if a7Z ds then 0 else if c7p ds then 3 else 1
theorem c3U(ds:List D):a3A ds=J5 (a5P ds) (a5B ds) (a5r ds) (a5e ds) (M2 ds):=by
 unfold a3A a5P a5B a5r a5e M2;split<;>rfl
theorem b3Q(ds:List D):R4 ds=J5 (a6j ds) (a3d ds) (a6g ds) (a6r ds) (a0J ds):=by
 unfold R4 a6j a3d a6g a6r a0J a6l;cases G5 ds<;>cases Q9 ds<;>rfl
def K5:Interp where
 fi n l:=match n with | 32=>a5P l | 33=>a5B l | 34=>a5r l | 35=>a5e l | 36=>M2 l | 37=>a6j l | 38=>a3d l | 39=>a6g l | 40=>a6r l | 41=>a0J l | 42=>c7c l | 43=>c7S l | 44=>c7x l | 45=>c7F l | 46=>c7r l | n=>K.fi n l
 fb n l:=match n with | 30=>P9 l | 31=>S4 l | n=>K.fb n l
 fd _ _:=[]
def bx5(a b c d e:S):V:= .tup [.agg [a,b,c,d],.one e]
def c7q:=u7 [bx,bx] fun al=> .ret (bx5 (w9 32 a5P al) (w9 33 a5B al) (w9 34 a5r al) (w9 35 a5e al) (w9 36 M2 al))
def a4V:=u7 [bx,bx] fun al=> .ret (bx5 (w9 37 a6j al) (w9 38 a3d al) (w9 39 a6g al) (w9 40 a6r al) (w9 41 a0J al))
section
variable {ρ:Env} (h:Sees ρ K5 50)
include h
theorem d6e:Sees ρ K 30:=h.trans (by decide) fun n l hn=>by
 constructor
 ·simp only[K5]
  split<;>first | omega | rfl
 ·simp only[K5]
  split<;>first | omega | rfl
theorem c4Q:i9 Tryz.prog ρ 66 c7q:=
 j7 d4p (fun _=>rfl) (fun al=>by
  simp only[bx5,V.val,V2.val,S.val,S0.val,w9,List.map_cons,List.map_nil,k8 (s:=32) (f:=a5P) (fun l=>by rw[(h 32 l (by decide)).1];simp only[K5]),k8 (s:=33) (f:=a5B) (fun l=>by rw[(h 33 l (by decide)).1];simp only[K5]),k8 (s:=34) (f:=a5r) (fun l=>by rw[(h 34 l (by decide)).1];simp only[K5]),k8 (s:=35) (f:=a5e) (fun l=>by rw[(h 35 l (by decide)).1];simp only[K5]),k8 (s:=36) (f:=M2) (fun l=>by rw[(h 36 l (by decide)).1];simp only[K5])];rw[c3U];rfl)
theorem b1u:i9 Tryz.prog ρ 42 a4V:=
 j7 d2w (fun _=>rfl) (fun al=>by
  simp only[bx5,V.val,V2.val,S.val,S0.val,w9,List.map_cons,List.map_nil,k8 (s:=37) (f:=a6j) (fun l=>by rw[(h 37 l (by decide)).1];simp only[K5]),k8 (s:=38) (f:=a3d) (fun l=>by rw[(h 38 l (by decide)).1];simp only[K5]),k8 (s:=39) (f:=a6g) (fun l=>by rw[(h 39 l (by decide)).1];simp only[K5]),k8 (s:=40) (f:=a6r) (fun l=>by rw[(h 40 l (by decide)).1];simp only[K5]),k8 (s:=41) (f:=a0J) (fun l=>by rw[(h 41 l (by decide)).1];simp only[K5])];rw[b3Q];rfl)
theorem c5E:i9 Tryz.prog ρ 93 b2g:=a9l (fun l=>by rw[(h 30 l (by decide)).2];simp only[K5])
theorem b0C:i9 Tryz.prog ρ 40 a8l:=b4v (fun l=>by rw[(h 31 l (by decide)).2];simp only[K5])
end
def ct5:Ct:=(93,b2g)::(40,a8l)::(66,c7q)::(42,a4V)::ctH
theorem d3u{ρ:Env}(h:Sees ρ K5 50):CtOk Tryz.prog ρ ct5:= .cons (c5E h)<| .cons (b0C h)<| .cons (c4Q h)<| .cons (b1u h)<|(d1x (d6e h))
end Go.Proofs.YtcjaembdcfppfaaGreat
namespace Go.Proofs.YtcjaembdcfppfaaGreat
open Go.RowKit
def a7b:TT j4:=
(.ite (.cmp .eql (.fn 36 (.i (.var 0) (.i (.var 1) (.i (.var 2) (.i (.var 3) (.i (.var 4) (.i (.var 5) (.i (.var 6) (.i (.var 7) .nil))))))))) (.lit 0))
 (.ret ((.tup [(.one (.z (.bool (.and (.and (.cmp .eql (.fn 32 (.i (.var 0) (.i (.var 1) (.i (.var 2) (.i (.var 3) (.i (.var 4) (.i (.var 5) (.i (.var 6) (.i (.var 7) .nil))))))))) (.var 4)) (.cmp .eql (.fn 33 (.i (.var 0) (.i (.var 1) (.i (.var 2) (.i (.var 3) (.i (.var 4) (.i (.var 5) (.i (.var 6) (.i (.var 7) .nil))))))))) (.var 5))) (.and (.cmp .eql (.fn 34 (.i (.var 0) (.i (.var 1) (.i (.var 2) (.i (.var 3) (.i (.var 4) (.i (.var 5) (.i (.var 6) (.i (.var 7) .nil))))))))) (.var 6)) (.cmp .eql (.fn 35 (.i (.var 0) (.i (.var 1) (.i (.var 2) (.i (.var 3) (.i (.var 4) (.i (.var 5) (.i (.var 6) (.i (.var 7) .nil))))))))) (.var 7))))))),(.one (.z (.int .i64 (.fn 36 (.i (.var 0) (.i (.var 1) (.i (.var 2) (.i (.var 3) (.i (.var 4) (.i (.var 5) (.i (.var 6) (.i (.var 7) .nil))))))))))))]),[],3))
 (.ret ((.tup [(.one (.z (.bool (.lit false)))),(.one (.z (.int .i64 (.fn 36 (.i (.var 0) (.i (.var 1) (.i (.var 2) (.i (.var 3) (.i (.var 4) (.i (.var 5) (.i (.var 6) (.i (.var 7) .nil))))))))))))]),[],3)))
set_option maxRecDepth 100000 in
theorem b5L:T.norm 0 (call Tryz.prog ct5 (Lt.of []) 100 41 (g7 0 [bx,bx]) [] 0) TT.ret=a7b:=by kernel_rfl
theorem b2J:a7b.low 1000=true:=by kernel_rfl
section
variable (W:World) (ds l:List D)
theorem d3C:(a9 K5 W ds).fi 32 l=a5P l:=by simp only[a9,K5]
theorem d3V:(a9 K5 W ds).fi 33 l=a5B l:=by simp only[a9,K5]
theorem d3Q:(a9 K5 W ds).fi 34 l=a5r l:=by simp only[a9,K5]
theorem d4u:(a9 K5 W ds).fi 35 l=a5e l:=by simp only[a9,K5]
theorem d4V:(a9 K5 W ds).fi 36 l=M2 l:=by simp only[a9,K5]
end
def H6(ds:List D):Bool:=G5 ds&&decide (a7 ds 4≤a7 ds 0∧a7 ds 1≤a7 ds 5∧a7 ds 6≤a7 ds 2∧a7 ds 3≤a7 ds 7)
def Y7(ds:List D):Value:= .tuple #[.bool (H6 ds),.int .i64 (M2 ds)]
def a5X(a b c d e f g h:Int):List D:=[.i a,.i b,.i c,.i d,.i e,.i f,.i g,.i h]
theorem c8l(a b c d e f g h:Int)(hb:(o8 a b c d&&o8 e f g h)=true):a5P (a5X a b c d e f g h)=min a e∧a5B (a5X a b c d e f g h)=max b f∧a5r (a5X a b c d e f g h)=min c g∧a5e (a5X a b c d e f g h)=max d h∧M2 (a5X a b c d e f g h)=0:=by
 have:G5 (a5X a b c d e f g h)=true:=hb
 unfold a5P a5B a5r a5e M2
 rw[if_pos this,if_pos this,if_pos this,if_pos this,if_pos this]
 exact⟨rfl,rfl,rfl,rfl,rfl⟩
theorem d2n(a b c d e f g h:Int):[D.i a,.i b,.i c,.i d,.i e,.i f,.i g,.i h]=a5X a b c d e f g h:=rfl
theorem c5M(ds:List D):M2 (a5X (a7 ds 0) (a7 ds 1) (a7 ds 2) (a7 ds 3) (a7 ds 4) (a7 ds 5) (a7 ds 6) (a7 ds 7))=M2 ds:=rfl
theorem c8o:m8 Tryz.prog 41 [bx,bx] Y7:=by
 refine GivesIf.all (i7 K5 (by kernel_rfl) (fun ρ h=>d3u (Sees.of h 50)) (by kernel_rfl) b5L b2J (by decide) (fun W vals ds _ _=> ?_))
 simp only[a7b,g9,Nat.reduceBEq,Nat.reduceLT,Nat.reduceSub,d3C,d3V,d3Q,d4u,d4V,d2n,c5M]
 unfold Y7 H6
 cases h:G5 ds
 ·have:M2 ds=1:=by unfold M2;rw[h];rfl
  rw[this]
  exact⟨fun q=>by simp [j8] at q,fun _=>rfl⟩
 ·have h0:M2 ds=0:=by unfold M2;rw[h];rfl
  obtain⟨e1,e2,e3,e4,_⟩:=c8l (a7 ds 0) (a7 ds 1) (a7 ds 2) (a7 ds 3) (a7 ds 4) (a7 ds 5) (a7 ds 6) (a7 ds 7) h
  rw[h0,e1,e2,e3,e4]
  refine⟨fun _=> ?_,fun q=>by simp [j8] at q⟩
  refine congrArg (fun b=>Value.tuple #[Value.bool b,Value.int .i64 0]) ?_
  rw[Bool.eq_iff_iff]
  simp only[Bool.and_eq_true,n8,j8,decide_eq_true_eq,Bool.true_and]
  omega
def a6z:=u7 [bx,bx] fun al=> .ret (.tup [.one (T7 51 H6 al),.one (w9 36 M2 al)])
def a8L(ds:List D):Bool:=a7j (a7 ds 0) (a7 ds 1) (a7 ds 2) (b9 ds 3)&&decide (0≤a7 ds 4∧a7 ds 4<(b9 ds 3).length)
def a8A(ds:List D):List D:=[.i (min (lg (b9 ds 3) (a7 ds 4) 0) (lg (b9 ds 3) (a7 ds 4) 2)),.i (max (lg (b9 ds 3) (a7 ds 4) 0) (lg (b9 ds 3) (a7 ds 4) 2)),.i (min (lg (b9 ds 3) (a7 ds 4) 1) (lg (b9 ds 3) (a7 ds 4) 3)),.i (max (lg (b9 ds 3) (a7 ds 4) 1) (lg (b9 ds 3) (a7 ds 4) 3)),.i (a7 ds 2)]
def d2h(ds:List D):Bool:=f9 (a7 ds 6) (a7 ds 7)&&a8r (a7 ds 5)&&decide (c5O ds=0)&&P7 [.i (a7 ds 6),.i (a7 ds 7),.i (lg (b9 ds 3) (a7 ds 4) 0),.i (lg (b9 ds 3) (a7 ds 4) 1),.i (lg (b9 ds 3) (a7 ds 4) 2),.i (lg (b9 ds 3) (a7 ds 4) 3),.i (a7 ds 2)]&&decide (d2M ds≤a7 ds 5∧a7 ds 5≤d3j ds)
def d3w(ds:List D):Int:=if f9 (a7 ds 6) (a7 ds 7)&&a8r (a7 ds 5) then c5O ds else 1
def d4l(ds:List D):Int:=if a8L ds then c7c (a8A ds) else 0
def d4N(ds:List D):Int:=if a8L ds then c7S (a8A ds) else 0
def d5a(ds:List D):Int:=if a8L ds then c7x (a8A ds) else 0
def d3W(ds:List D):Int:=if a8L ds then c7F (a8A ds) else 0
def d4C(ds:List D):Int:=if a8L ds then c7r (a8A ds) else 1
def K6:Interp where
 fi n l:=match n with | 53=>d3w l | 54=>d4l l | 55=>d4N l | 56=>d5a l | 57=>d3W l | 58=>d4C l | n=>K5.fi n l
 fb n l:=match n with | 51=>H6 l | 52=>d2h l | n=>K5.fb n l
 fd _ _:=[]
section
variable {ρ:Env} (h:Sees ρ K6 60)
include h
theorem b7Q:Sees ρ K5 50:=h.trans (by decide) fun n l hn=>by
 constructor
 ·simp only[K6]
  split<;>first | omega | rfl
 ·simp only[K6]
  split<;>first | omega | rfl
theorem b8p:i9 Tryz.prog ρ 41 a6z:=
 j7 c8o (fun _=>rfl) (fun al=>by
  simp only[V.val,V2.val,S.val,S0.val,w9,T7,List.map_cons,List.map_nil,m9 (s:=51) (f:=H6) (fun l=>by rw[(h 51 l (by decide)).2];simp only[K6]),k8 (s:=36) (f:=M2) (fun l=>by rw[(h 36 l (by decide)).1];simp only[K6,K5])];rfl)
end
end Go.Proofs.YtcjaembdcfppfaaGreat
namespace Go.Proofs.YtcjaembdcfppfaaGreat
open Go.RowKit
section
variable (W:World) (ds l:List D)
end
def d0L(r:Rows)(i a b c d off:Int):Bool:=
 H6 [.i (lg r i 0),.i (lg r i 0),.i (lg r i 1),.i (lg r i 1),.i a,.i b,.i c,.i d]||(a3j [.i (lg r i 0),.i (lg r i 1),.i (lg r i 2),.i (lg r i 3),.i a,.i d,.i a,.i c,.i off]||(a3j [.i (lg r i 0),.i (lg r i 1),.i (lg r i 2),.i (lg r i 3),.i a,.i c,.i b,.i c,.i off]||(a3j [.i (lg r i 0),.i (lg r i 1),.i (lg r i 2),.i (lg r i 3),.i b,.i c,.i b,.i d,.i off]||a3j [.i (lg r i 0),.i (lg r i 1),.i (lg r i 2),.i (lg r i 3),.i b,.i d,.i a,.i d,.i off])))
def b6k(r:Rows)(a b c d off:Int):Nat→Nat→Bool
 | 0,_=>false
 | f+1,j=>d0L r j a b c d off||b6k r a b c d off f (j+1)
def d1M(ds:List D):Bool:=a7j (a7 ds 0) (a7 ds 1) (a7 ds 2) (b9 ds 3)&&o8 (a7 ds 4) (a7 ds 5) (a7 ds 6) (a7 ds 7)&&decide (0≤a7 ds 8∧a7 ds 8≤(b9 ds 3).length)
def d6A(ds:List D):Bool:=d1M ds&&b6k (b9 ds 3) (a7 ds 4) (a7 ds 5) (a7 ds 6) (a7 ds 7) (a7 ds 2) ((b9 ds 3).length-(a7 ds 8).toNat) (a7 ds 8).toNat
def d6c(ds:List D):Int:=if d1M ds then 0 else 1
def K7:Interp where
 fi n l:=match n with | 60=>d6c l | n=>K6.fi n l
 fb n l:=match n with | 60=>d6A l | n=>K6.fb n l
 fd _ _:=[]
section
variable {ρ:Env} (h:Sees ρ K7 61)
include h
theorem d3G:Sees ρ K6 60:=h.trans (by decide) fun n l hn=>by
 constructor
 ·simp only[K7]
  split<;>first | omega | rfl
 ·simp only[K7]
  split<;>first | omega | rfl
end
end Go.Proofs.YtcjaembdcfppfaaGreat
