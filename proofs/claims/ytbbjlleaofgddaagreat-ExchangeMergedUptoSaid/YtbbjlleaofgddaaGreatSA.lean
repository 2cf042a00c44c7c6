/- SA, merged: S1, S2, S3. -/
import Derived.Test.YtbbjlleaofgddaaGreatMA
set_option linter.unusedSimpArgs false
set_option linter.unusedVariables false
namespace Go.Proofs.YtbbjlleaofgddaaGreat
namespace Srt
variable {α:Type}
def swp(r:List α)(i j:Nat):List α:=match r[i]?,r[j]? with | some x,some y=>(r.set i y).set j x | _,_=>r
theorem swp_len(r:List α)(i j:Nat):(swp r i j).length=r.length:=by unfold swp;split<;>simp
theorem O0{r:List α}{i j:Nat}(hi:i<r.length)(hj:j<r.length)(k:Nat):(swp r i j)[k]? = if k=j then r[i]? else if k=i then r[j]? else r[k]? := by
 unfold swp
 rw[List.getElem?_eq_getElem hi,List.getElem?_eq_getElem hj]
 simp only[List.getElem?_set,List.length_set]
 repeat' split
 all_goals first | omega | rfl | (exfalso;omega) | (congr 1;omega)
def swT(r:List α)(a b:Nat):Nat→List α
 | 0=>r
 | n+1=>swp (swT r a b n) (a+n) (b+n)
theorem swT_len(r:List α)(a b:Nat):∀n,(swT r a b n).length=r.length
 | 0=>rfl
 | n+1=>by rw[swT,swp_len,swT_len r a b n]
theorem a2F{r:List α}{a b:Nat}:∀ {n:Nat},a+n≤b→b+n≤r.length→∀k,(swT r a b n)[k]? = if a≤k∧k<a+n then r[k-a+b]? else if b≤k∧k<b+n then r[k-b+a]? else r[k]?
 | 0,_,_,k=>by
   rw[if_neg (by omega),if_neg (by omega)];rfl
 | n+1,h1,h2,k=>by
   have ih:=a2F (r:=r) (a:=a) (b:=b) (n:=n) (by omega) (by omega)
   have hl:=swT_len r a b n
   rw[swT,O0 (by omega) (by omega),ih k,ih (a+n),ih (b+n)]
   repeat' split
   all_goals first | omega | rfl | (exfalso;omega) | (congr 1;omega)
def K1(r:List α)(a m b k:Nat):Option α:=if a≤k∧k<a+(b-m) then r[k-a+m]? else if a+(b-m)≤k∧k<b then r[k-(b-m)]? else r[k]?
def rotN:Nat→List α→Nat→Nat→Nat→List α
 | 0,r,_,_,_=>r
 | f+1,r,m,i,j=>if i=j then swT r (m-i) m i else if j<i then rotN f (swT r (m-i) m j) m (i-j) j else rotN f (swT r (m-i) (m+j-i) i) m i (j-i)
theorem a3h:∀(f:Nat) (r:List α) (m i j:Nat),(rotN f r m i j).length=r.length
 | 0,r,m,i,j=>rfl
 | f+1,r,m,i,j=>by
   rw[rotN]
   split
   ·exact swT_len ..
   ·split
    ·rw[a3h f,swT_len]
    ·rw[a3h f,swT_len]
theorem a3e:∀(f:Nat) (r:List α) (m i j:Nat),i+j≤f→0<i→0<j→i≤m→m+j≤r.length→∀k,(rotN f r m i j)[k]? = K1 r (m-i) m (m+j) k
 | 0,r,m,i,j,h,h1,h2,h3,h4,k=>by omega
 | f+1,r,m,i,j,h,h1,h2,h3,h4,k=>by
   rw[rotN]
   split
   ·rename_i e
    subst e
    rw[a2F (by omega) (by omega)]
    unfold K1
    repeat' split
    all_goals first | omega | rfl | (exfalso;omega) | (congr 1;omega)
   ·rename_i hne
    split
    ·rename_i hlt
     rw[a3e f _ m (i-j) j (by omega) (by omega) (by omega) (by omega) (by rw[swT_len];omega) k]
     unfold K1
     simp only[a2F (r:=r) (a:=m-i) (b:=m) (n:=j) (by omega) (by omega)]
     repeat' split
     all_goals first | omega | rfl | (congr 1;omega)
    ·rename_i hlt
     rw[a3e f _ m i (j-i) (by omega) (by omega) (by omega) (by omega) (by rw[swT_len];omega) k]
     unfold K1
     simp only[a2F (r:=r) (a:=m-i) (b:=m+j-i) (n:=i) (by omega) (by omega)]
     repeat' split
     all_goals first | omega | rfl | (congr 1;omega)
def rotS(r:List α)(a m b:Nat):List α:=rotN (b-a) r m (m-a) (b-m)
theorem rotS_len(r:List α)(a m b:Nat):(rotS r a m b).length=r.length:=a3h ..
theorem a0W{r:List α}{a m b:Nat}(h1:a<m)(h2:m<b)(h3:b≤r.length)(k:Nat):(rotS r a m b)[k]? = K1 r a m b k:=by
 unfold rotS
 rw[a3e _ _ _ _ _ (by omega) (by omega) (by omega) (by omega) (by omega)]
 rw[show m-(m-a)=a by omega,show m+(b-m)=b by omega]
end Srt
end Go.Proofs.YtbbjlleaofgddaaGreat
namespace Go.Proofs.YtbbjlleaofgddaaGreat
namespace Srt
variable {α:Type}
structure Ord (lt:α→α→Bool):Prop where
 asym:∀a b,lt a b=true→lt b a=false
 tr:∀a b c,lt b a=false→lt c b=false→lt c a=false
def In(r:List α)(a b:Nat)(x:α):Prop:=∃k,a≤k∧k<b∧r[k]? = some x
structure Same (r r':List α) (a b:Nat):Prop where
 len:r'.length=r.length
 out:∀k,k<a∨b≤k→r'[k]? = r[k]?
 mem:∀x,In r' a b x↔In r a b x
theorem Same.refl(r:List α)(a b:Nat):Same r r a b:=⟨rfl,fun _ _=>rfl,fun _=>Iff.rfl⟩
theorem Same.trans{r s t:List α}{a b:Nat}(h:Same r s a b)(g:Same s t a b):Same r t a b:=⟨g.len.trans h.len,fun k hk=>(g.out k hk).trans (h.out k hk),fun x=>(g.mem x).trans (h.mem x)⟩
theorem Same.wide{r s:List α}{a b a' b':Nat}(h:Same r s a b)(h1:a'≤a)(h2:b≤b'):Same r s a' b':=by
 refine⟨h.len,fun k hk=>h.out k (by omega),fun x=>⟨fun⟨k,k1,k2,k3⟩=> ?_,fun⟨k,k1,k2,k3⟩=> ?_⟩⟩
 ·by_cases c:a≤k∧k<b
  ·obtain⟨j,j1,j2,j3⟩:=(h.mem x).1 ⟨k,c.1,c.2,k3⟩
   exact⟨j,by omega,by omega,j3⟩
  ·rw[h.out k (by omega)] at k3
   exact⟨k,k1,k2,k3⟩
 ·by_cases c:a≤k∧k<b
  ·obtain⟨j,j1,j2,j3⟩:=(h.mem x).2 ⟨k,c.1,c.2,k3⟩
   exact⟨j,by omega,by omega,j3⟩
  ·rw[←h.out k (by omega)] at k3
   exact⟨k,k1,k2,k3⟩
theorem a2C{r r':List α}{a b:Nat}(hl:r'.length=r.length)(f g:Nat→Nat)(hf:∀k,a≤k→k<b→(a≤f k∧f k<b)∧r'[k]? = r[f k]?)(hg:∀k,a≤k→k<b→(a≤g k∧g k<b)∧r[k]? = r'[g k]?)(ho:∀k,k<a∨b≤k→r'[k]? = r[k]?):Same r r' a b:=
 ⟨hl,ho,fun x=>⟨fun⟨k,k1,k2,k3⟩=>⟨f k,(hf k k1 k2).1.1,(hf k k1 k2).1.2,by rw[←(hf k k1 k2).2];exact k3⟩,fun⟨k,k1,k2,k3⟩=>⟨g k,(hg k k1 k2).1.1,(hg k k1 k2).1.2,by rw[←(hg k k1 k2).2];exact k3⟩⟩⟩
theorem b7j{r:List α}{i j a b:Nat}(hi:i<r.length)(hj:j<r.length)(h1:a≤i∧i<b)(h2:a≤j∧j<b):Same r (swp r i j) a b:=by
 refine a2C (swp_len ..) (fun k=>if k=j then i else if k=i then j else k) (fun k=>if k=j then i else if k=i then j else k) (fun k k1 k2=> ?_) (fun k k1 k2=> ?_) (fun k hk=> ?_)
 ·rw[O0 hi hj];repeat' split
  all_goals exact⟨by omega,rfl⟩
 ·rw[O0 hi hj]
  repeat' split
  all_goals first | omega | exact⟨by omega,rfl⟩ | exact⟨by omega,by congr 1<;>omega⟩
 ·rw[O0 hi hj,if_neg (by omega),if_neg (by omega)]
theorem b4F{r:List α}{a m b:Nat}(h1:a<m)(h2:m<b)(h3:b≤r.length):Same r (rotS r a m b) a b:=by
 refine a2C (rotS_len ..) (fun k=>if k<a+(b-m) then k-a+m else k-(b-m)) (fun k=>if m≤k then k-m+a else k+(b-m)) (fun k k1 k2=> ?_) (fun k k1 k2=> ?_) (fun k hk=> ?_)
 ·rw[a0W h1 h2 h3];unfold K1
  repeat' split
  all_goals first | omega | exact⟨by omega,rfl⟩
 ·rw[a0W h1 h2 h3];unfold K1
  repeat' split
  all_goals first | omega | exact⟨by omega,by congr 1<;>omega⟩
 ·rw[a0W h1 h2 h3];unfold K1
  rw[if_neg (by omega),if_neg (by omega)]
variable (lt:α→α→Bool)
def lts(r:List α)(i j:Nat):Bool:=match r[i]?,r[j]? with | some x,some y=>lt x y | _,_=>false
def Sorted(r:List α)(a b:Nat):Prop:=∀i j x y,a≤i→i<j→j<b→r[i]? = some x→r[j]? = some y→lt y x=false
def bubN:Nat→List α→Nat→List α
 | 0,r,_=>r
 | f+1,r,a=>if lts lt r (a+f+1) (a+f)=true then bubN f (swp r (a+f+1) (a+f)) a else r
def insK(r:List α)(a:Nat):Nat→List α
 | 0=>r
 | n+1=>bubN lt (n+1) (insK r a n) a
variable {lt}
theorem lts_of{r:List α}{i j:Nat}{x y:α}(h1:r[i]? = some x)(h2:r[j]? = some y):lts lt r i j=lt x y:=by unfold lts;rw[h1,h2]
theorem s9{r:List α}{k:Nat}(h:k<r.length):∃x,r[k]? = some x:=⟨r[k],List.getElem?_eq_getElem h⟩
theorem b0P(O:Ord lt):∀(f:Nat) (r:List α) (a e:Nat),a+f<e→e≤r.length→(∀i j x y,a≤i→i<j→j<e→i≠a+f→j≠a+f→r[i]? = some x→r[j]? = some y→lt y x=false)→(∀k x y,a+f<k→k<e→r[a+f]? = some x→r[k]? = some y→lt y x=false)→
 Sorted lt (bubN lt f r a) a e∧Same r (bubN lt f r a) a e
 | 0,r,a,e,h1,h2,H1,H2=>by
   rw[bubN]
   refine⟨fun i j x y i1 i2 i3 gx gy=> ?_,Same.refl ..⟩
   by_cases c:i=a+0
   ·subst c;exact H2 j x y (by omega) i3 gx gy
   ·exact H1 i j x y i1 i2 i3 c (by omega) gx gy
 | f+1,r,a,e,h1,h2,H1,H2=>by
   obtain⟨p,hp⟩:=s9 (r:=r) (k:=a+f+1) (by omega)
   obtain⟨q,hq⟩:=s9 (r:=r) (k:=a+f) (by omega)
   rw[bubN,lts_of hp hq]
   split
   ·rename_i hlt
    have sg:=fun k=>O0 (r:=r) (i:=a+f+1) (j:=a+f) (by omega) (by omega) k
    have ss:=b7j (r:=r) (i:=a+f+1) (j:=a+f) (a:=a) (b:=e) (by omega) (by omega) (by omega) (by omega)
    have A1:∀i j x y,a≤i→i<j→j<e→i≠a+f→j≠a+f→(swp r (a+f+1) (a+f))[i]? = some x→(swp r (a+f+1) (a+f))[j]? = some y→lt y x=false:=fun i j x y i1 i2 i3 n1 n2 gx gy=>by
     rw[sg,if_neg n1] at gx
     rw[sg,if_neg n2] at gy
     by_cases c1:i=a+f+1
     ·rw[if_pos c1] at gx
      rw[if_neg (by omega)] at gy
      exact H1 (a+f) j x y (by omega) (by omega) i3 (by omega) (by omega) gx gy
     ·rw[if_neg c1] at gx
      by_cases c2:j=a+f+1
      ·rw[if_pos c2] at gy
       exact H1 i (a+f) x y i1 (by omega) (by omega) (by omega) (by omega) gx gy
      ·rw[if_neg c2] at gy
       exact H1 i j x y i1 i2 i3 (by omega) (by omega) gx gy
    have A2:∀k x y,a+f<k→k<e→(swp r (a+f+1) (a+f))[a+f]? = some x→(swp r (a+f+1) (a+f))[k]? = some y→lt y x=false:=fun k x y k1 k2 gx gy=>by
     rw[sg,if_pos rfl,hp] at gx
     obtain rfl:=Option.some.inj gx
     rw[sg,if_neg (by omega)] at gy
     by_cases c:k=a+f+1
     ·rw[if_pos c,hq] at gy
      obtain rfl:=Option.some.inj gy
      exact O.asym _ _ hlt
     ·rw[if_neg c] at gy
      exact H2 k p y (by omega) k2 hp gy
    obtain⟨g1,g2⟩:=b0P O f (swp r (a+f+1) (a+f)) a e (by omega) (by rw[swp_len];exact h2) A1 A2
    exact⟨g1,ss.trans g2⟩
   ·rename_i hlt
    have hlt:lt p q=false:=by simpa using hlt
    refine⟨fun i j x y i1 i2 i3 gx gy=> ?_,Same.refl ..⟩
    by_cases c1:i=a+(f+1)
    ·subst c1;exact H2 j x y i2 i3 gx gy
    ·by_cases c2:j=a+(f+1)
     ·subst c2
      have hp:r[a+(f+1)]? = some p:=hp
      rw[hp] at gy
      obtain rfl:=Option.some.inj gy
      by_cases c3:i=a+f
      ·subst c3;rw[hq] at gx;obtain rfl:=Option.some.inj gx;exact hlt
      ·exact O.tr x q p (H1 i (a+f) x q i1 (by omega) (by omega) c1 (by omega) gx hq) hlt
     ·exact H1 i j x y i1 i2 i3 c1 c2 gx gy
theorem a2x(O:Ord lt)(r:List α)(a:Nat):∀n,a+n<r.length→Sorted lt (insK lt r a n) a (a+n+1)∧Same r (insK lt r a n) a (a+n+1)
 | 0,h=>⟨fun i j x y i1 i2 i3=>by omega,Same.refl ..⟩
 | n+1,h=>by
   obtain⟨h1,h2⟩:=a2x O r a n (by omega)
   rw[insK]
   obtain⟨g1,g2⟩:=b0P O (n+1) (insK lt r a n) a (a+(n+1)+1) (by omega) (by rw[h2.len];omega) (fun i j x y i1 i2 i3 n1 n2=>h1 i j x y i1 i2 (by omega)) (fun k x y k1 k2=>by omega)
   exact⟨g1,(h2.wide (by omega) (by omega)).trans g2⟩
theorem b7k(f:Nat):∀(r:List α) (a:Nat),(bubN lt f r a).length=r.length:=by
 induction f with
 | zero=>intro r a;rfl
 | succ f ih=>intro r a;rw[bubN];split;·rw[ih,swp_len]
              ·rfl
theorem insK_len(r:List α)(a:Nat):∀n,(insK lt r a n).length=r.length
 | 0=>rfl
 | n+1=>by rw[insK,b7k,insK_len r a n]
def bsN(p:Nat→Bool):Nat→Nat→Nat→Nat
 | 0,i,_=>i
 | f+1,i,j=>if i<j then(if p ((i+j)/2)=true then bsN p f ((i+j)/2+1) j else bsN p f i ((i+j)/2)) else i
theorem a1M{p:Nat→Bool}{lo hi:Nat}(hp:∀c d,lo≤c→c<d→d<hi→p d=true→p c=true):∀(f i j:Nat),lo≤i→i≤j→j≤hi→j-i≤f→(∀c,lo≤c→c<i→p c=true)→(∀c,j≤c→c<hi→p c=false)→
 (i≤bsN p f i j∧bsN p f i j≤j)∧(∀c,lo≤c→c<bsN p f i j→p c=true)∧∀c,bsN p f i j≤c→c<hi→p c=false
 | 0,i,j,h1,h2,h3,h4,H1,H2=>by
   obtain rfl:i=j:=by omega
   rw[bsN];exact⟨⟨Nat.le_refl _,Nat.le_refl _⟩,H1,H2⟩
 | f+1,i,j,h1,h2,h3,h4,H1,H2=>by
   rw[bsN]
   split
   ·rename_i hij
    split
    ·rename_i hm
     obtain⟨⟨g1,g2⟩,g3,g4⟩:=a1M hp f ((i+j)/2+1) j (by omega) (by omega) h3 (by omega) (fun c c1 c2=>by
      by_cases e:c=(i+j)/2
      ·rw[e];exact hm
      ·exact hp c _ c1 (by omega) (by omega) hm) H2
     exact⟨⟨by omega,g2⟩,g3,g4⟩
    ·rename_i hm
     obtain⟨⟨g1,g2⟩,g3,g4⟩:=a1M hp f i ((i+j)/2) h1 (by omega) (by omega) (by omega) H1 (fun c c1 c2=>by
      by_cases e:c=(i+j)/2
      ·rw[e];simpa using hm
      ·cases q:p c with
       | false=>rfl
       | true=>exact absurd (hp ((i+j)/2) c (by omega) (by omega) c2 q) hm)
     exact⟨⟨g1,by omega⟩,g3,g4⟩
   ·obtain rfl:i=j:=by omega
    exact⟨⟨Nat.le_refl _,Nat.le_refl _⟩,H1,H2⟩
def shU(r:List α)(a:Nat):Nat→List α
 | 0=>r
 | n+1=>swp (shU r a n) (a+n) (a+n+1)
theorem shU_len(r:List α)(a:Nat):∀n,(shU r a n).length=r.length
 | 0=>rfl
 | n+1=>by rw[shU,swp_len,shU_len r a n]
theorem b0Q{r:List α}{a:Nat}:∀ {n:Nat},a+n<r.length→∀k,(shU r a n)[k]? = if a≤k∧k<a+n then r[k+1]? else if k=a+n then r[a]? else r[k]?
 | 0,h,k=>by
   rw[shU]
   repeat' split
   all_goals first | omega | rfl | (congr 1<;>omega)
 | n+1,h,k=>by
   have ih:=b0Q (r:=r) (a:=a) (n:=n) (by omega)
   rw[shU,O0 (by rw[shU_len];omega) (by rw[shU_len];omega),ih k,ih (a+n),ih (a+n+1)]
   repeat' split
   all_goals first | omega | rfl | (congr 1<;>omega)
def shD(r:List α)(m:Nat):Nat→List α
 | 0=>r
 | n+1=>swp (shD r m n) (m-n) (m-n-1)
theorem shD_len(r:List α)(m:Nat):∀n,(shD r m n).length=r.length
 | 0=>rfl
 | n+1=>by rw[shD,swp_len,shD_len r m n]
theorem b1p{r:List α}{m:Nat}(hm:m<r.length):∀ {n:Nat},n≤m→∀k,(shD r m n)[k]? = if k=m-n then r[m]? else if m-n<k∧k≤m then r[k-1]? else r[k]?
 | 0,h,k=>by
   rw[shD]
   repeat' split
   all_goals first | omega | rfl | (congr 1<;>omega)
 | n+1,h,k=>by
   have ih:=b1p hm (n:=n) (by omega)
   rw[shD,O0 (by rw[shD_len];omega) (by rw[shD_len];omega),ih k,ih (m-n),ih (m-n-1)]
   repeat' split
   all_goals first | omega | rfl | (congr 1<;>omega)
end Srt
end Go.Proofs.YtbbjlleaofgddaaGreat
namespace Go.Proofs.YtbbjlleaofgddaaGreat
namespace Srt
variable {α:Type} (lt:α→α→Bool)
def upTo(r:List α)(a m b:Nat):Nat:=bsN (fun h=>lts lt r h a) (b-m) m b
def dnTo(r:List α)(a m:Nat):Nat:=bsN (fun h=> !lts lt r m h) (m-a) a m
def cutS(r:List α)(a m b:Nat):Nat:=
 if (a+b)/2<m then bsN (fun c=> !lts lt r ((a+b)/2+m-1-c) c) b ((a+b)/2+m-b) ((a+b)/2) else bsN (fun c=> !lts lt r ((a+b)/2+m-1-c) c) b a m
def rotIf(r:List α)(s m e:Nat):List α:=if s<m∧m<e then rotS r s m e else r
def symN:Nat→List α→Nat→Nat→Nat→List α
 | 0,r,_,_,_=>r
 | f+1,r,a,m,b=>
   if m-a=1 then shU r a (upTo lt r a m b-1-a) else if b-m=1 then shD r m (m-dnTo lt r a m) else
    (if (a+b)/2<(a+b)/2+m-cutS lt r a m b∧(a+b)/2+m-cutS lt r a m b<b then
     symN f (if a<cutS lt r a m b∧cutS lt r a m b<(a+b)/2 then symN f (rotIf r (cutS lt r a m b) m ((a+b)/2+m-cutS lt r a m b)) a (cutS lt r a m b) ((a+b)/2) else rotIf r (cutS lt r a m b) m ((a+b)/2+m-cutS lt r a m b)) ((a+b)/2) ((a+b)/2+m-cutS lt r a m b) b
    else if a<cutS lt r a m b∧cutS lt r a m b<(a+b)/2 then symN f (rotIf r (cutS lt r a m b) m ((a+b)/2+m-cutS lt r a m b)) a (cutS lt r a m b) ((a+b)/2) else rotIf r (cutS lt r a m b) m ((a+b)/2+m-cutS lt r a m b))
variable {lt}
theorem Sorted.sub{r:List α}{a b a' b':Nat}(h:Sorted lt r a b)(h1:a≤a')(h2:b'≤b):Sorted lt r a' b':=fun i j x y i1 i2 i3=>h i j x y (by omega) i2 (by omega)
theorem Sorted.cong{r s:List α}{a b:Nat}(h:Sorted lt r a b)(e:∀k,a≤k→k<b→s[k]? = r[k]?):Sorted lt s a b:=fun i j x y i1 i2 i3 gx gy=>h i j x y i1 i2 i3 (by rw[←e i i1 (by omega)];exact gx) (by rw[←e j (by omega) i3];exact gy)
theorem b5t{r:List α}{s m e:Nat}(h1:s≤m)(h2:m≤e)(h3:e≤r.length)(k:Nat):(rotIf r s m e)[k]? = K1 r s m e k:=by
 unfold rotIf
 split
 ·rename_i h;exact a0W h.1 h.2 h3 k
 ·rename_i h
  unfold K1
  repeat' split
  all_goals first | omega | rfl | (congr 1<;>omega)
theorem b3d{r:List α}{s m e:Nat}(h3:e≤r.length):Same r (rotIf r s m e) s e:=by
 unfold rotIf
 split
 ·rename_i h;exact b4F h.1 h.2 h3
 ·exact Same.refl ..
theorem a2E(O:Ord lt)(x:α):lt x x=false:=by
 cases h:lt x x with
 | false=>rfl
 | true=>have:=O.asym x x h;rw[h] at this;cases this
theorem c4L(O:Ord lt){r:List α}{a b:Nat}(h:a+1<b)(hb:b≤r.length)(hs:Sorted lt r (a+1) b):Sorted lt (shU r a (upTo lt r a (a+1) b-1-a)) a b∧Same r (shU r a (upTo lt r a (a+1) b-1-a)) a b:=by
 obtain⟨p,hp⟩:=s9 (r:=r) (k:=a) (by omega)
 have mono:∀c d,a+1≤c→c<d→d<b→lts lt r d a=true→lts lt r c a=true:=fun c d c1 c2 c3 q=>by
  obtain⟨x,hx⟩:=s9 (r:=r) (k:=c) (by omega)
  obtain⟨y,hy⟩:=s9 (r:=r) (k:=d) (by omega)
  rw[lts_of hy hp] at q
  rw[lts_of hx hp]
  cases e:lt x p with
  | true=>rfl
  | false=>have:=O.tr p x y e (hs c d x y c1 c2 c3 hx hy);rw[this] at q;cases q
 obtain⟨⟨g1,g2⟩,g3,g4⟩:=a1M (p:=fun h=>lts lt r h a) (lo:=a+1) (hi:=b) mono (b-(a+1)) (a+1) b (by omega) (by omega) (by omega) (by omega) (fun c c1 c2=>by omega) (fun c c1 c2=>by omega)
 have g1:a+1≤upTo lt r a (a+1) b:=g1
 have g2:upTo lt r a (a+1) b≤b:=g2
 have g3:∀c,a+1≤c→c<upTo lt r a (a+1) b→lts lt r c a=true:=g3
 have g4:∀c,upTo lt r a (a+1) b≤c→c<b→lts lt r c a=false:=g4
 generalize upTo lt r a (a+1) b=s at*
 have sg:=fun k=>b0Q (r:=r) (a:=a) (n:=s-1-a) (by omega) k
 refine⟨fun i j x y i1 i2 i3 gx gy=> ?_,a2C (shU_len ..) (fun k=>if k<s-1 then k+1 else if k=s-1 then a else k) (fun k=>if k=a then s-1 else if k<s then k-1 else k) (fun k k1 k2=> ?_) (fun k k1 k2=> ?_) (fun k hk=> ?_)⟩
 ·rw[sg] at gx gy
  by_cases c1:j<s-1
  ·rw[if_pos (by omega)] at gx gy
   exact hs _ _ x y (by omega) (by omega) (by omega) gx gy
  ·rw[if_neg (by omega)] at gy
   by_cases c2:j=s-1
   ·rw[if_pos (by omega),hp] at gy
    obtain rfl:=Option.some.inj gy
    rw[if_pos (by omega)] at gx
    have:=g3 (i+1) (by omega) (by omega)
    rw[lts_of gx hp] at this
    exact O.asym _ _ this
   ·rw[if_neg (by omega)] at gy
    by_cases c3:i<s-1
    ·rw[if_pos (by omega)] at gx
     exact hs (i+1) j x y (by omega) (by omega) i3 gx gy
    ·rw[if_neg (by omega)] at gx
     by_cases c4:i=s-1
     ·rw[if_pos (by omega),hp] at gx
      obtain rfl:=Option.some.inj gx
      have:=g4 j (by omega) i3
      rw[lts_of gy hp] at this
      exact this
     ·rw[if_neg (by omega)] at gx
      exact hs i j x y (by omega) i2 i3 gx gy
 ·rw[sg]
  repeat' split
  all_goals first | omega | exact⟨by omega,rfl⟩
 ·rw[sg]
  repeat' split
  all_goals first | omega | exact⟨by omega,by congr 1<;>omega⟩
 ·rw[sg,if_neg (by omega),if_neg (by omega)]
theorem c4m(O:Ord lt){r:List α}{a m:Nat}(h:a<m)(hb:m<r.length)(hs:Sorted lt r a m):Sorted lt (shD r m (m-dnTo lt r a m)) a (m+1)∧Same r (shD r m (m-dnTo lt r a m)) a (m+1):=by
 obtain⟨p,hp⟩:=s9 (r:=r) (k:=m) hb
 have mono:∀c d,a≤c→c<d→d<m→(!lts lt r m d)=true→(!lts lt r m c)=true:=fun c d c1 c2 c3 q=>by
  obtain⟨x,hx⟩:=s9 (r:=r) (k:=c) (by omega)
  obtain⟨y,hy⟩:=s9 (r:=r) (k:=d) (by omega)
  rw[lts_of hp hy,Bool.not_eq_true'] at q
  rw[lts_of hp hx,Bool.not_eq_true']
  exact O.tr x y p (hs c d x y c1 c2 c3 hx hy) q
 obtain⟨⟨g1,g2⟩,g3,g4⟩:=a1M (p:=fun h=> !lts lt r m h) (lo:=a) (hi:=m) mono (m-a) a m (by omega) (by omega) (by omega) (by omega) (fun c c1 c2=>by omega) (fun c c1 c2=>by omega)
 have g1:a≤dnTo lt r a m:=g1
 have g2:dnTo lt r a m≤m:=g2
 have g3:∀c,a≤c→c<dnTo lt r a m→(!lts lt r m c)=true:=g3
 have g4:∀c,dnTo lt r a m≤c→c<m→(!lts lt r m c)=false:=g4
 generalize dnTo lt r a m=s at*
 have sg:=fun k=>b1p (r:=r) (m:=m) hb (n:=m-s) (by omega) k
 refine⟨fun i j x y i1 i2 i3 gx gy=> ?_,a2C (shD_len ..) (fun k=>if k=s then m else if s<k then k-1 else k) (fun k=>if k=m then s else if s≤k then k+1 else k) (fun k k1 k2=> ?_) (fun k k1 k2=> ?_) (fun k hk=> ?_)⟩
 ·rw[sg] at gx gy
  by_cases c1:i<s
  ·rw[if_neg (by omega),if_neg (by omega)] at gx
   by_cases c2:j=s
   ·rw[if_pos (by omega),hp] at gy
    obtain rfl:=Option.some.inj gy
    have:=g3 i i1 c1
    rw[lts_of hp gx,Bool.not_eq_true'] at this
    exact this
   ·rw[if_neg (by omega)] at gy
    by_cases c3:j<s
    ·rw[if_neg (by omega)] at gy
     exact hs i j x y i1 i2 (by omega) gx gy
    ·rw[if_pos (by omega)] at gy
     exact hs i (j-1) x y i1 (by omega) (by omega) gx gy
  ·by_cases c2:i=s
   ·rw[if_pos (by omega),hp] at gx
    obtain rfl:=Option.some.inj gx
    rw[if_neg (by omega),if_pos (by omega)] at gy
    have:=g4 (j-1) (by omega) (by omega)
    rw[lts_of hp gy,Bool.not_eq_false'] at this
    exact O.asym _ _ this
   ·rw[if_neg (by omega),if_pos (by omega)] at gx
    rw[if_neg (by omega),if_pos (by omega)] at gy
    exact hs (i-1) (j-1) x y (by omega) (by omega) (by omega) gx gy
 ·rw[sg]
  repeat' split
  all_goals first | omega | exact⟨by omega,rfl⟩
 ·rw[sg]
  repeat' split
  all_goals first | omega | exact⟨by omega,by congr 1<;>omega⟩
 ·rw[sg,if_neg (by omega),if_neg (by omega)]
theorem c1H(O:Ord lt){r:List α}{a m b:Nat}(h1:a+1<m)(h2:m+1<b)(hb:b≤r.length)(s1:Sorted lt r a m)(s2:Sorted lt r m b):
 (a≤cutS lt r a m b∧cutS lt r a m b≤m∧cutS lt r a m b≤(a+b)/2)∧(m≤(a+b)/2+m-cutS lt r a m b∧(a+b)/2+m-cutS lt r a m b≤b)∧
 (∀c x y,a≤c→c<cutS lt r a m b→r[c]? = some x→r[(a+b)/2+m-1-c]? = some y→(a+b)/2+m-1-c<b→lt y x=false)∧
 ∀c x y,cutS lt r a m b≤c→c<m→c<(a+b)/2→r[c]? = some x→r[(a+b)/2+m-1-c]? = some y→m≤(a+b)/2+m-1-c→lt y x=true:=by
 have mono:∀lo hi,a≤lo→hi≤m→hi≤(a+b)/2→(a+b)/2+m-b≤lo→∀c d,lo≤c→c<d→d<hi→(!lts lt r ((a+b)/2+m-1-d) d)=true→(!lts lt r ((a+b)/2+m-1-c) c)=true:=fun lo hi l1 l2 l3 l4 c d c1 c2 c3 q=>by
  obtain⟨x,hx⟩:=s9 (r:=r) (k:=c) (by omega)
  obtain⟨y,hy⟩:=s9 (r:=r) (k:=d) (by omega)
  obtain⟨z,hz⟩:=s9 (r:=r) (k:=(a+b)/2+m-1-d) (by omega)
  obtain⟨w,hw⟩:=s9 (r:=r) (k:=(a+b)/2+m-1-c) (by omega)
  rw[lts_of hz hy,Bool.not_eq_true'] at q
  rw[lts_of hw hx,Bool.not_eq_true']
  have e1:=s1 c d x y (by omega) c2 (by omega) hx hy
  have e2:=s2 ((a+b)/2+m-1-d) ((a+b)/2+m-1-c) z w (by omega) (by omega) (by omega) hz hw
  exact O.tr x z w (O.tr x y z e1 q) e2
 have fin:∀lo hi,a≤lo→lo≤hi→hi≤m→hi≤(a+b)/2→(a+b)/2+m-b≤lo→(∀c,a≤c→c<lo→b≤(a+b)/2+m-1-c)→(∀c,hi≤c→c<m→¬c<(a+b)/2)→∀s,s=bsN (fun c=> !lts lt r ((a+b)/2+m-1-c) c) b lo hi→
  (a≤s∧s≤m∧s≤(a+b)/2)∧(m≤(a+b)/2+m-s∧(a+b)/2+m-s≤b)∧(∀c x y,a≤c→c<s→r[c]? = some x→r[(a+b)/2+m-1-c]? = some y→(a+b)/2+m-1-c<b→lt y x=false)∧∀c x y,s≤c→c<m→c<(a+b)/2→r[c]? = some x→r[(a+b)/2+m-1-c]? = some y→m≤(a+b)/2+m-1-c→lt y x=true:=fun lo hi l1 l0 l2 l3 l4 l5 l6 s hs=>by
  obtain⟨⟨g1,g2⟩,g3,g4⟩:=a1M (p:=fun c=> !lts lt r ((a+b)/2+m-1-c) c) (lo:=lo) (hi:=hi) (mono lo hi l1 l2 l3 l4) b lo hi (by omega) l0 (by omega) (by omega) (fun c c1 c2=>by omega) (fun c c1 c2=>by omega)
  rw[←hs] at g1 g2
  have g3:∀c,lo≤c→c<s→(!lts lt r ((a+b)/2+m-1-c) c)=true:=fun c c1 c2=>g3 c c1 (by rw[←hs];exact c2)
  have g4:∀c,s≤c→c<hi→(!lts lt r ((a+b)/2+m-1-c) c)=false:=fun c c1 c2=>g4 c (by rw[←hs];exact c1) c2
  refine⟨by omega,by omega,fun c x y c1 c2 gx gy c3=> ?_,fun c x y c1 c2 c3 gx gy c4=> ?_⟩
  ·have:=g3 c (by have:=l5 c c1;omega) c2
   rw[lts_of gy gx,Bool.not_eq_true'] at this
   exact this
  ·have:=g4 c c1 (by have:=l6 c;omega)
   rw[lts_of gy gx,Bool.not_eq_false'] at this
   exact this
 unfold cutS
 split
 ·exact fin ((a+b)/2+m-b) ((a+b)/2) (by omega) (by omega) (by omega) (by omega) (by omega) (fun c c1 c2=>by omega) (fun c c1 c2=>by omega) _ rfl
 ·exact fin a m (by omega) (by omega) (by omega) (by omega) (by omega) (fun c c1 c2=>by omega) (fun c c1 c2=>by omega) _ rfl
theorem Sorted.join{r:List α}{a k b:Nat}(h1:Sorted lt r a k)(h2:Sorted lt r k b)(h3:∀x y,In r a k x→In r k b y→lt y x=false):Sorted lt r a b:=fun i j x y i1 i2 i3 gx gy=>by
 by_cases c1:j<k
 ·exact h1 i j x y i1 i2 c1 gx gy
 ·by_cases c2:k≤i
  ·exact h2 i j x y c2 i2 i3 gx gy
  ·exact h3 x y ⟨i,i1,by omega,gx⟩ ⟨j,by omega,i3,gy⟩
theorem symN_len:∀(f:Nat) (r:List α) (a m b:Nat),(symN lt f r a m b).length=r.length
 | 0,r,a,m,b=>rfl
 | f+1,r,a,m,b=>by
   have hr:∀s e,(rotIf r s m e).length=r.length:=fun s e=>by
    unfold rotIf
    split
    ·exact rotS_len ..
    ·rfl
   rw[symN]
   repeat' split
   all_goals simp only[symN_len f,hr,shU_len,shD_len]
theorem a5f(O:Ord lt):∀(f:Nat) (r:List α) (a m b:Nat),a<m→m<b→b≤r.length→b-a≤f→Sorted lt r a m→Sorted lt r m b→Sorted lt (symN lt f r a m b) a b∧Same r (symN lt f r a m b) a b
 | 0,r,a,m,b,h1,h2,h3,h4,s1,s2=>by omega
 | f+1,r,a,m,b,h1,h2,h3,h4,s1,s2=>by
   rw[symN]
   split
   ·rename_i e
    obtain rfl:m=a+1:=by omega
    exact c4L O h2 h3 s2
   ·rename_i e
    split
    ·rename_i e2
     obtain rfl:b=m+1:=by omega
     exact c4m O h1 (by omega) s1
    ·rename_i e2
     obtain⟨⟨c1,c2,c3⟩,⟨c4,c5⟩,c6,c7⟩:=c1H O (a:=a) (m:=m) (b:=b) (by omega) (by omega) h3 s1 s2
     generalize cutS lt r a m b=s at*
     have hmid:a<(a+b)/2∧(a+b)/2<b:=by omega
     generalize hM:(a+b)/2=mid at*
     generalize hE:mid+m-s=e0 at*
     have hrg:=fun k=>b5t (r:=r) (s:=s) (m:=m) (e:=e0) c2 c4 (by omega) k
     have hrs:=b3d (r:=r) (s:=s) (m:=m) (e:=e0) (by omega)
     have hrl:=hrs.len
     have p1:∀k,k<s→(rotIf r s m e0)[k]? = r[k]? := fun k hk=>by
      rw[hrg];unfold K1;rw[if_neg (by omega),if_neg (by omega)]
     have p2:∀k,s≤k→k<mid→(rotIf r s m e0)[k]? = r[k-s+m]? := fun k k1 k2=>by
      rw[hrg];unfold K1;rw[if_pos (by omega)]
     have p3:∀k,mid≤k→k<e0→(rotIf r s m e0)[k]? = r[k-mid+s]? := fun k k1 k2=>by
      rw[hrg];unfold K1;rw[if_neg (by omega),if_pos (by omega)];congr 1;omega
     have p4:∀k,e0≤k→(rotIf r s m e0)[k]? = r[k]? := fun k hk=>by
      rw[hrg];unfold K1;rw[if_neg (by omega),if_neg (by omega)]
     generalize rotIf r s m e0=r1 at*
     have low:∀x y,In r1 a mid x→In r1 mid b y→lt y x=false:=by
      rintro x y ⟨i,i1,i2,gx⟩ ⟨j,j1,j2,gy⟩
      by_cases d1:i<s
      ·rw[p1 i d1] at gx
       by_cases d2:j<e0
       ·rw[p3 j j1 d2] at gy
        exact s1 i (j-mid+s) x y i1 (by omega) (by omega) gx gy
       ·rw[p4 j (by omega)] at gy
        obtain⟨u,hu⟩:=s9 (r:=r) (k:=s-1) (by omega)
        obtain⟨w,hw⟩:=s9 (r:=r) (k:=mid+m-1-(s-1)) (by omega)
        have q:=c6 (s-1) u w (by omega) (by omega) hu hw (by omega)
        have q1:lt u x=false:=by
         by_cases z:i=s-1
         ·subst z;rw[hu] at gx;obtain rfl:=Option.some.inj gx;exact a2E O _
         ·exact s1 i (s-1) x u i1 (by omega) (by omega) gx hu
        have q2:lt y w=false:=by
         by_cases z:j=mid+m-1-(s-1)
         ·subst z;rw[hw] at gy;obtain rfl:=Option.some.inj gy;exact a2E O _
         ·exact s2 (mid+m-1-(s-1)) j w y (by omega) (by omega) j2 hw gy
        exact O.tr x w y (O.tr x u w q1 q) q2
      ·rw[p2 i (by omega) i2] at gx
       by_cases d2:j<e0
       ·rw[p3 j j1 d2] at gy
        obtain⟨u,hu⟩:=s9 (r:=r) (k:=s) (by omega)
        obtain⟨w,hw⟩:=s9 (r:=r) (k:=mid+m-1-s) (by omega)
        have q:=O.asym _ _ (c7 s u w (by omega) (by omega) (by omega) hu hw (by omega))
        have q1:lt w x=false:=by
         by_cases z:i-s+m=mid+m-1-s
         ·rw[z,hw] at gx;obtain rfl:=Option.some.inj gx;exact a2E O _
         ·exact s2 (i-s+m) (mid+m-1-s) x w (by omega) (by omega) (by omega) gx hw
        have q2:lt y u=false:=by
         by_cases z:j-mid+s=s
         ·rw[z,hu] at gy;obtain rfl:=Option.some.inj gy;exact a2E O _
         ·exact s1 s (j-mid+s) u y (by omega) (by omega) (by omega) hu gy
        exact O.tr x u y (O.tr x w u q1 q) q2
       ·rw[p4 j (by omega)] at gy
        exact s2 (i-s+m) j x y (by omega) (by omega) j2 gx gy
     have t1:Sorted lt r1 a s:=(s1.sub (Nat.le_refl _) c2).cong fun k k1 k2=>p1 k k2
     have t2:Sorted lt r1 s mid:=fun i j x y i1 i2 i3 gx gy=>by
      rw[p2 i i1 (by omega)] at gx;rw[p2 j (by omega) i3] at gy
      exact s2 _ _ x y (by omega) (by omega) (by omega) gx gy
     have t3:Sorted lt r1 mid e0:=fun i j x y i1 i2 i3 gx gy=>by
      rw[p3 i i1 (by omega)] at gx;rw[p3 j (by omega) i3] at gy
      exact s1 _ _ x y (by omega) (by omega) (by omega) gx gy
     have t4:Sorted lt r1 e0 b:=(s2.sub c4 (Nat.le_refl _)).cong fun k k1 k2=>p4 k k1
     have hw1:=hrs.wide (a':=a) (b':=b) c1 c5
     obtain⟨r2,hr2,u1,u2⟩:∃r2,r2=(if a<s∧s<mid then symN lt f r1 a s mid else r1)∧Sorted lt r2 a mid∧Same r1 r2 a mid:=by
      refine⟨_,rfl,?_⟩
      split
      ·rename_i hc
       exact a5f O f r1 a s mid hc.1 hc.2 (by omega) (by omega) t1 t2
      ·rename_i hc
       refine⟨?_,Same.refl ..⟩
       by_cases z:s=a
       ·subst z;exact t2
       ·obtain rfl:s=mid:=by omega
        exact t1
     rw[←hr2]
     have v3:∀k,mid≤k→r2[k]? = r1[k]? := fun k hk=>u2.out k (by omega)
     have t3':Sorted lt r2 mid e0:=t3.cong fun k k1 k2=>v3 k k1
     have t4':Sorted lt r2 e0 b:=t4.cong fun k k1 k2=>v3 k (by omega)
     have inB:∀y,In r2 mid b y→In r1 mid b y:=fun y ⟨k,k1,k2,k3⟩=>⟨k,k1,k2,by rw[←v3 k k1];exact k3⟩
     have w2:=hw1.trans (u2.wide (a':=a) (b':=b) (Nat.le_refl _) (by omega))
     split
     ·rename_i hc
      obtain⟨x1,x2⟩:=a5f O f r2 mid e0 b hc.1 hc.2 (by rw[u2.len];omega) (by omega) t3' t4'
      refine⟨Sorted.join (k:=mid) (u1.cong fun k k1 k2=>x2.out k (by omega)) x1 fun x y hx hy=>low x y ?_ (inB y ((x2.mem y).1 hy)),w2.trans (x2.wide (by omega) (Nat.le_refl _))⟩
      obtain⟨k,k1,k2,k3⟩:=hx
      rw[x2.out k (by omega)] at k3
      exact(u2.mem x).1 ⟨k,k1,k2,k3⟩
     ·rename_i hc
      refine⟨Sorted.join (k:=mid) u1 ?_ fun x y hx hy=>low x y ((u2.mem x).1 hx) (inB y hy),w2⟩
      by_cases z:e0=mid
      ·rw[z] at t4';exact t4'
      ·have:e0=b:=by omega
       rw[this] at t3';exact t3'
theorem b6r(r:List α)(a:Nat):insK lt r a 0=r:=rfl
def sortS(lt:α→α→Bool)(r:List α):List α:=
 if r.length<20 then insK lt r 0 (r.length-1) else if 20<r.length then symN lt r.length (insK lt (insK lt r 0 19) 20 (r.length-21)) 0 20 r.length else insK lt (insK lt r 0 19) 20 (r.length-21)
theorem a7B(O:Ord lt){r:List α}(h:r.length<40):Sorted lt (sortS lt r) 0 r.length∧Same r (sortS lt r) 0 r.length:=by
 unfold sortS
 split
 ·by_cases z:r.length=0
  ·obtain rfl:=List.eq_nil_of_length_eq_zero z
   exact⟨fun i j x y i1 i2 i3=>by simp at i3,Same.refl ..⟩
  ·obtain⟨h1,h2⟩:=a2x O r 0 (r.length-1) (by omega)
   rw[show 0+(r.length-1)+1=r.length by omega] at h1 h2
   exact⟨h1,h2⟩
 ·obtain⟨h1,h2⟩:=a2x O r 0 19 (by omega)
  have h2':=h2.wide (a':=0) (b':=r.length) (by omega) (by omega)
  split
  ·obtain⟨g1,g2⟩:=a2x O (insK lt r 0 19) 20 (r.length-21) (by rw[insK_len];omega)
   rw[show 20+(r.length-21)+1=r.length by omega] at g1 g2
   obtain⟨x1,x2⟩:=a5f O r.length (insK lt (insK lt r 0 19) 20 (r.length-21)) 0 20 r.length (by omega) (by omega) (by rw[insK_len,insK_len];omega) (by omega) (h1.cong fun k k1 k2=>g2.out k (by omega)) g1
   exact⟨x1,(h2'.trans (g2.wide (by omega) (by omega))).trans x2⟩
  ·have e:r.length=20:=by omega
   have e2:r.length-21=0:=by omega
   rw[e2,b6r]
   rw[e] at h2' ⊢
   exact⟨h1,h2'⟩
theorem sortS_len(r:List α):(sortS lt r).length=r.length:=by
 unfold sortS
 repeat' split
 all_goals simp only[symN_len,insK_len]
end Srt
end Go.Proofs.YtbbjlleaofgddaaGreat
