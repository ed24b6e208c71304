/-
  What the functions swarfref03.zero, swarfref03.FromRat, swarfref03.reduced, swarfref03.Make, swarfref03.square, swarfref03.norm, swarfref03.Sign, swarfref03.common, swarfref03.Add, swarfref03.Mul, swarfref03.Square, swarfref03.AddRat answer, each out of its text by the abstract run.
  What the functions swarfref07.zero, swarfref07.At, swarfref07.Vec, swarfref07.reduced, swarfref07.Make, swarfref07.coordinate, swarfref07.X, swarfref07.Y, swarfref07.Translate, swarfref07.Back, swarfref07.SameVec, swarfref07.Square, swarfref07.At2, swarfref07.Of answer, each out of its text by the abstract run.
  Numbers that sequences of fractions come near: their signs, and square roots.
  Intervals that contain what a sequence comes near; the signs that they decide.
  The distance of a point from a segment, and the height that a tool sweeps.
  Validity of lines and circles, with any fields.
  Leaves of the runs of material, distances and signs.
  What the functions rational.side, rational.Sqrt, root.zero, root.FromRat, root.reduced, root.Make, distance.over, distance.add, distance.sub, distance.mul, distance.way, distance.dot, distance.cross, swarfref02.Over, swarfref12.add, swarfref12.sub, swarfref12.mul, swarfref12.Way, swarfref12.Dot, swarfref12.Cross answer, each out of its text by the abstract run.
  What the functions distance.crossing, distance.toSegment, distance.Segments answer, each out of its text by the abstract run.
  What the functions swarfref12.cross, swarfref12.toSegment, swarfref12.Segments answer, each out of its text by the abstract run.
  What the functions material.num, material.add, material.sub, material.mul, material.way, material.dot, material.vec, material.square, material.Cut).level, material.Cut).over, material.Swept, swarfref52.whole, swarfref52.Vec, swarfref52.near, swarfref52.Swept answer, each out of its text by the abstract run.
  What the functions swarfref05.two, swarfref05.Sign, swarfref05.Sub, swarfref05.Cmp, swarfref05.Equal, swarfref05.CmpRat, swarfref03.Valid, swarfref03.Int answer, each out of its text by the abstract run.
  A cut that is dominated removes nothing that the other one does not remove.
  The order of roots, as the program finds it.
  Conditions: none.
-/
import Derived.Test.YtbbfmlhkgceabaaGreatM11
set_option linter.all false
namespace Go.Proofs.YtbbfmlhkgceabaaGreat
open Go Go.RowKit Go.Sw
set_option linter.unusedVariables false
set_option maxRecDepth 100000
set_option maxHeartbeats 8000000
instance t_zero : DenI Tryz.prog 92 [] (True) (R 0):=⟨λhp=>by
 refine den_of (τ:=tab) tab_ok mixed_ Tryz.func92 rfl (by kernel_rfl) (by kernel_rfl) (by kernel_rfl) ?_
 all_goals (repeat' ((try (conv=>whnf));first
  |refine call_0 ?_
  |refine call_i ?_ ?_
  |refine call_c ?_ (λ_=>?_) (λ_=>?_)
  |(with_reducible refine onB_t ?_)
  |(with_reducible refine onB_f ?_)
  |(with_reducible refine onB_d (λ_=>?_) (λ_=>?_))
  |(with_reducible refine onB_n (λ_=>?_) (λ_=>?_))
  |refine OnB.mk (λ_=>?_) (λ_=>?_)
  |refine obl_i ?_ ?_
  |refine Drw.mk (by kernel_rfl) ?_
  |refine mks_i ?_ ?_
  |refine slp_i ?_ ?_
  |(with_reducible refine elem_u ?_ ?_)
  |(with_reducible refine elem_0 ?_)
  |(with_reducible refine elem_1 ?_)
  |refine Ends.mk ?_))
 all_goals (try refine Pr.mk ?_)
 all_goals (try simp only [nrm_] at *)
 all_goals first
  |rfl
  |(simp only [redB,redC,mkA,mkB,mkC,cooC,ptC, *,true_or,or_true,if_true,if_false,or_self,and_self,and_true,true_and,and_false,false_and,not_true,not_false_iff,Bool.false_eq_true,decide_true,decide_false,Bool.or_true,Bool.true_or,Bool.or_false,Bool.false_or];rfl)
  |((repeat' apply And.intro)<;>first|assumption|exact rzb (by omega)|exact szb (by omega)|exact Int.mul_ne_zero (den_ne _) (den_ne _))
  |(exfalso;simp_all;done)
  |(exfalso;grind)
  |omega
  |((repeat' apply And.intro)<;>first|assumption|exact rzb (by omega)|exact szb (by omega)|exact Int.mul_ne_zero (den_ne _) (den_ne _))
  |skip⟩
instance t_from(a:Rat):DenI Tryz.prog 47 [R a] (rz a≤4000000) (Q3 a 0 0):=⟨λhp=>by
 have i_a:RzB a 4000000:=⟨hp⟩
 all_goals refine den_of (τ:=tab) tab_ok mixed_ Tryz.func47 rfl (by kernel_rfl) (by kernel_rfl) (by kernel_rfl) ?_
 all_goals (repeat' ((try (conv=>whnf));first
  |refine call_0 ?_
  |refine call_i ?_ ?_
  |refine call_c ?_ (λ_=>?_) (λ_=>?_)
  |(with_reducible refine onB_t ?_)
  |(with_reducible refine onB_f ?_)
  |(with_reducible refine onB_d (λ_=>?_) (λ_=>?_))
  |(with_reducible refine onB_n (λ_=>?_) (λ_=>?_))
  |refine OnB.mk (λ_=>?_) (λ_=>?_)
  |refine obl_i ?_ ?_
  |refine Drw.mk (by kernel_rfl) ?_
  |refine mks_i ?_ ?_
  |refine slp_i ?_ ?_
  |(with_reducible refine elem_u ?_ ?_)
  |(with_reducible refine elem_0 ?_)
  |(with_reducible refine elem_1 ?_)
  |refine Ends.mk ?_))
 all_goals (try refine Pr.mk ?_)
 all_goals (try simp only [nrm_] at *)
 all_goals first
  |rfl
  |(simp only [redB,redC,mkA,mkB,mkC,cooC,ptC, *,true_or,or_true,if_true,if_false,or_self,and_self,and_true,true_and,and_false,false_and,not_true,not_false_iff,Bool.false_eq_true,decide_true,decide_false,Bool.or_true,Bool.true_or,Bool.or_false,Bool.false_or];rfl)
  |((repeat' apply And.intro)<;>first|assumption|exact rzb (by omega)|exact szb (by omega)|exact Int.mul_ne_zero (den_ne _) (den_ne _))
  |(exfalso;simp_all;done)
  |(exfalso;grind)
  |omega
  |((repeat' apply And.intro)<;>first|assumption|exact rzb (by omega)|exact szb (by omega)|exact Int.mul_ne_zero (den_ne _) (den_ne _))
  |skip⟩
instance t_red(a b c:Rat):DenI Tryz.prog 50 [R a,R b,R c] (rz a≤4000000∧rz b≤4000000∧rz c≤4000000) (Q3 (a) (redB b c) (redC b c)):=⟨λhp=>by
 have i_a:RzB a 4000000:=⟨hp.1⟩
 have i_b:RzB b 4000000:=⟨hp.2.1⟩
 have i_c:RzB c 4000000:=⟨hp.2.2⟩
 all_goals refine den_of (τ:=tab) tab_ok mixed_ Tryz.func50 rfl (by kernel_rfl) (by kernel_rfl) (by kernel_rfl) ?_
 all_goals (repeat' ((try (conv=>whnf));first
  |refine call_0 ?_
  |refine call_i ?_ ?_
  |refine call_c ?_ (λ_=>?_) (λ_=>?_)
  |(with_reducible refine onB_t ?_)
  |(with_reducible refine onB_f ?_)
  |(with_reducible refine onB_d (λ_=>?_) (λ_=>?_))
  |(with_reducible refine onB_n (λ_=>?_) (λ_=>?_))
  |refine OnB.mk (λ_=>?_) (λ_=>?_)
  |refine obl_i ?_ ?_
  |refine Drw.mk (by kernel_rfl) ?_
  |refine mks_i ?_ ?_
  |refine slp_i ?_ ?_
  |(with_reducible refine elem_u ?_ ?_)
  |(with_reducible refine elem_0 ?_)
  |(with_reducible refine elem_1 ?_)
  |refine Ends.mk ?_))
 all_goals (try refine Pr.mk ?_)
 all_goals (try simp only [nrm_] at *)
 all_goals first
  |rfl
  |(simp only [redB,redC,mkA,mkB,mkC,cooC,ptC, *,true_or,or_true,if_true,if_false,or_self,and_self,and_true,true_and,and_false,false_and,not_true,not_false_iff,Bool.false_eq_true,decide_true,decide_false,Bool.or_true,Bool.true_or,Bool.or_false,Bool.false_or];rfl)
  |((repeat' apply And.intro)<;>first|assumption|exact rzb (by omega)|exact szb (by omega)|exact Int.mul_ne_zero (den_ne _) (den_ne _))
  |(exfalso;simp_all;done)
  |(exfalso;grind)
  |omega
  |((repeat' apply And.intro)<;>first|assumption|exact rzb (by omega)|exact szb (by omega)|exact Int.mul_ne_zero (den_ne _) (den_ne _))
  |skip⟩
instance t_make(a b c:Rat):DenI Tryz.prog 16 [R a,R b,R c] (rz a≤100000∧rz b≤100000∧rz c≤100000∧0≤c) (.tup [Q3 (mkA a b c) (mkB b c) (mkC b c),.int .i64 0]):=⟨λhp=>by
 have i_a:RzB a 100000:=⟨hp.1⟩
 have i_b:RzB b 100000:=⟨hp.2.1⟩
 have i_c:RzB c 100000:=⟨hp.2.2.1⟩
 have hpre:=hp.2.2.2
 all_goals refine den_of (τ:=tab) tab_ok mixed_ Tryz.func16 rfl (by kernel_rfl) (by kernel_rfl) (by kernel_rfl) ?_
 all_goals (repeat' ((try (conv=>whnf));first
  |refine call_0 ?_
  |refine call_i ?_ ?_
  |refine call_c ?_ (λ_=>?_) (λ_=>?_)
  |(with_reducible refine onB_t ?_)
  |(with_reducible refine onB_f ?_)
  |(with_reducible refine onB_d (λ_=>?_) (λ_=>?_))
  |(with_reducible refine onB_n (λ_=>?_) (λ_=>?_))
  |refine OnB.mk (λ_=>?_) (λ_=>?_)
  |refine obl_i ?_ ?_
  |refine Drw.mk (by kernel_rfl) ?_
  |refine mks_i ?_ ?_
  |refine slp_i ?_ ?_
  |(with_reducible refine elem_u ?_ ?_)
  |(with_reducible refine elem_0 ?_)
  |(with_reducible refine elem_1 ?_)
  |refine Ends.mk ?_))
 all_goals (try refine Pr.mk ?_)
 all_goals (try simp only [nrm_] at *)
 all_goals first
  |rfl
  |(simp only [redB,redC,mkA,mkB,mkC,cooC,ptC, *,true_or,or_true,if_true,if_false,or_self,and_self,and_true,true_and,and_false,false_and,not_true,not_false_iff,Bool.false_eq_true,decide_true,decide_false,Bool.or_true,Bool.true_or,Bool.or_false,Bool.false_or];rfl)
  |((repeat' apply And.intro)<;>first|assumption|exact rzb (by omega)|exact szb (by omega)|exact Int.mul_ne_zero (den_ne _) (den_ne _))
  |(exfalso;simp_all;done)
  |(exfalso;grind)
  |omega
  |((repeat' apply And.intro)<;>first|assumption|exact rzb (by omega)|exact szb (by omega)|exact Int.mul_ne_zero (den_ne _) (den_ne _))
  |skip⟩
end Go.Proofs.YtbbfmlhkgceabaaGreat
namespace Go.Sw
open Go
set_option linter.unusedVariables false
def Cau(f:Nat→Rat):Prop:=∀d:Rat,0<d→∃N,∀m n,N≤m→N≤n→f m<f n+d
def PosS(f:Nat→Rat):Prop:=∃d:Rat,0<d∧∃N,∀n,N≤n→d<f n
def NulS(f:Nat→Rat):Prop:=∀d:Rat,0<d→∃N,∀n,N≤n→-d<f n∧f n<d
def Bnd(f:Nat→Rat):Prop:=∃B:Rat,0<B∧∃N,∀n,N≤n→-B<f n∧f n<B
def SgS(f:Nat→Rat)(n:Int):Prop:=(n=1∧PosS f)∨(n = -1∧PosS λk=>-f k)∨(n=0∧NulS f)
theorem mul_bnd{x y B e:Rat}(h1 : -B<x)(h2:x<B)(h3 : -e<y)(h4:y<e):x*y<B*e:=by
 have p1:=Rat.mul_pos (show 0<B-x by grind) (show 0<e+y by grind)
 have p2:=Rat.mul_pos (show 0<B+x by grind) (show 0<e-y by grind)
 grind
theorem mul_bnd'{x y B e:Rat}(h1 : -B<x)(h2:x<B)(h3 : -e<y)(h4:y<e):-(B*e)<x*y:=by
 have:=mul_bnd (x:=-x) (y:=y) (B:=B) (e:=e) (by grind) (by grind) h3 h4
 grind
theorem div_pos'{a b:Rat}(h1:0<a)(h2:0<b):0<a / b:=by
 have hb:b≠0:=by grind
 rcases Rat.le_total (a:=a / b) (b:=0) with h|h
 ·have p:=Rat.mul_nonneg (show 0≤-(a / b) by grind) (show 0≤b by grind)
  have e:a / b*b=a:=by grind
  grind
 ·by_cases e:a / b=0
  ·have e':a / b*b=a:=by grind
   rw [e] at e';grind
  ·grind
theorem NulS.add{f g:Nat→Rat}(h:NulS f)(k:NulS g):NulS λn=>f n+g n:=λd hd=>by
 obtain ⟨N,hN⟩:=h (d*(1 / 2)) (by grind)
 obtain ⟨M,hM⟩:=k (d*(1 / 2)) (by grind)
 refine ⟨N+M,λn hn=>?_⟩
 have a:=hN n (by omega)
 have b:=hM n (by omega)
 constructor<;>grind
theorem NulS.neg{f:Nat→Rat}(h:NulS f):NulS λn=>-f n:=λd hd=>by
 obtain ⟨N,hN⟩:=h d hd
 exact ⟨N,λn hn=>by have:=hN n hn;constructor<;>grind⟩
theorem NulS.sub{f g:Nat→Rat}(h:NulS f)(k:NulS g):NulS λn=>f n-g n:=λd hd=>by
 obtain ⟨N,hN⟩:=h.add k.neg d hd
 exact ⟨N,λn hn=>by have:=hN n hn;simp only at this;constructor<;>grind⟩
theorem NulS.mul{f g:Nat→Rat}(h:NulS f)(k:Bnd g):NulS λn=>f n*g n:=λd hd=>by
 obtain ⟨B,hB,M,hM⟩:=k
 obtain ⟨N,hN⟩:=h (d / B) (div_pos' hd hB)
 refine ⟨N+M,λn hn=>?_⟩
 have a:=hN n (by omega)
 have b:=hM n (by omega)
 have e:d / B*B=d:=by have:B≠0:=(by grind);grind
 have p1:=mul_bnd a.1 a.2 b.1 b.2
 have p2:=mul_bnd' a.1 a.2 b.1 b.2
 rw [e] at p1 p2
 exact ⟨p2,p1⟩
theorem NulS.zero:NulS λ_=>0:=λd hd=>⟨0,λn _=>by constructor<;>grind⟩
theorem NulS.cg{f g:Nat→Rat}(h:NulS f)(e:∀n,f n=g n):NulS g:=by rwa [funext e] at h
theorem Cau.bnd{f:Nat→Rat}(h:Cau f):Bnd f:=by
 obtain ⟨N,hN⟩:=h 1 (by grind)
 rcases Rat.le_total (a:=0) (b:=f N) with h0|h0
 ·refine ⟨f N+1,by grind,N,λn hn=>?_⟩
  have a:=hN n N hn (Nat.le_refl _)
  have b:=hN N n (Nat.le_refl _) hn
  constructor<;>grind
 ·refine ⟨-f N+1,by grind,N,λn hn=>?_⟩
  have a:=hN n N hn (Nat.le_refl _)
  have b:=hN N n (Nat.le_refl _) hn
  constructor<;>grind
theorem Cau.const(q:Rat):Cau λ_=>q:=λd hd=>⟨0,λm n _ _=>by grind⟩
theorem Cau.add{f g:Nat→Rat}(h:Cau f)(k:Cau g):Cau λn=>f n+g n:=λd hd=>by
 obtain ⟨N,hN⟩:=h (d*(1 / 2)) (by grind)
 obtain ⟨M,hM⟩:=k (d*(1 / 2)) (by grind)
 refine ⟨N+M,λm n hm hn=>?_⟩
 have a:=hN m n (by omega) (by omega)
 have b:=hM m n (by omega) (by omega)
 grind
theorem Cau.neg{f:Nat→Rat}(h:Cau f):Cau λn=>-f n:=λd hd=>by
 obtain ⟨N,hN⟩:=h d hd
 exact ⟨N,λm n hm hn=>by have:=hN n m hn hm;grind⟩
theorem Cau.sub{f g:Nat→Rat}(h:Cau f)(k:Cau g):Cau λn=>f n-g n:=λd hd=>by
 obtain ⟨N,hN⟩:=h.add k.neg d hd
 exact ⟨N,λm n hm hn=>by have:=hN m n hm hn;simp only at this;grind⟩
theorem Cau.mul{f g:Nat→Rat}(h:Cau f)(k:Cau g):Cau λn=>f n*g n:=λd hd=>by
 obtain ⟨B,hB,M1,h1⟩:=h.bnd
 obtain ⟨D,hD,M2,h2⟩:=k.bnd
 obtain ⟨N1,k1⟩:=h (d*(1 / 2) / D) (div_pos' (by grind) hD)
 obtain ⟨N2,k2⟩:=k (d*(1 / 2) / B) (div_pos' (by grind) hB)
 refine ⟨M1+M2+N1+N2,λm n hm hn=>?_⟩
 have a1:=h1 m (by omega)
 have a2:=h2 n (by omega)
 have b1:=k1 m n (by omega) (by omega)
 have b2:=k1 n m (by omega) (by omega)
 have c1:=k2 m n (by omega) (by omega)
 have c2:=k2 n m (by omega) (by omega)
 have e1:D*(d*(1 / 2) / D)=d*(1 / 2):=by have:D≠0:=(by grind);grind
 have e2:B*(d*(1 / 2) / B)=d*(1 / 2):=by have:B≠0:=(by grind);grind
 have p1:=mul_bnd (x:=f m) (y:=g m-g n) (e:=d*(1 / 2) / B) a1.1 a1.2 (by grind) (by grind)
 have p2:=mul_bnd (x:=g n) (y:=f m-f n) (e:=d*(1 / 2) / D) a2.1 a2.2 (by grind) (by grind)
 rw [e2] at p1
 rw [e1] at p2
 grind
theorem PosS.add{f g:Nat→Rat}(h:PosS f)(k:PosS g):PosS λn=>f n+g n:=by
 obtain ⟨d,hd,N,hN⟩:=h
 obtain ⟨e,he,M,hM⟩:=k
 exact ⟨d,hd,N+M,λn hn=>by have:=hN n (by omega);have:=hM n (by omega);grind⟩
theorem PosS.nul{f g:Nat→Rat}(h:PosS f)(k:NulS g):PosS λn=>f n+g n:=by
 obtain ⟨d,hd,N,hN⟩:=h
 obtain ⟨M,hM⟩:=k (d*(1 / 2)) (by grind)
 exact ⟨d*(1 / 2),by grind,N+M,λn hn=>by have:=hN n (by omega);have:=hM n (by omega);grind⟩
theorem PosS.mul{f g:Nat→Rat}(h:PosS f)(k:PosS g):PosS λn=>f n*g n:=by
 obtain ⟨d,hd,N,hN⟩:=h
 obtain ⟨e,he,M,hM⟩:=k
 refine ⟨d*e,Rat.mul_pos hd he,N+M,λn hn=>?_⟩
 have a:=hN n (by omega)
 have b:=hM n (by omega)
 have p1:=Rat.mul_pos (show 0<f n-d by grind) (show 0<g n by grind)
 have p2:=Rat.mul_pos hd (show 0<g n-e by grind)
 grind
theorem PosS.cg{f g:Nat→Rat}(h:PosS f)(e:∀n,f n=g n):PosS g:=by rwa [funext e] at h
theorem PosS.not{f:Nat→Rat}(h:PosS f)(k:PosS λn=>-f n):False:=by
 obtain ⟨d,hd,N,hN⟩:=h
 obtain ⟨e,he,M,hM⟩:=k
 have:=hN (N+M) (by omega)
 have:=hM (N+M) (by omega)
 grind
theorem PosS.nn{f:Nat→Rat}(h:PosS f)(k:NulS f):False:=by
 obtain ⟨d,hd,N,hN⟩:=h
 obtain ⟨M,hM⟩:=k d hd
 have:=hN (N+M) (by omega)
 have:=hM (N+M) (by omega)
 grind
namespace SgS
theorem ex{f:Nat→Rat}(h:Cau f):∃n,SgS f n:=by
 by_cases h1:PosS f
 ·exact ⟨1,.inl ⟨rfl,h1⟩⟩
 ·by_cases h2:PosS λn=>-f n
  ·exact ⟨-1,.inr (.inl ⟨rfl,h2⟩)⟩
  ·refine ⟨0,.inr (.inr ⟨rfl,λd hd=>?_⟩)⟩
   obtain ⟨N,hN⟩:=h (d*(1 / 2)) (by grind)
   have a1:∃m,N≤m∧f m≤d*(1 / 2):=Classical.byContradiction λhc=>h1 ⟨d*(1 / 2),by grind,N,λn hn=>by
    rcases Rat.le_total (a:=f n) (b:=d*(1 / 2)) with h|h
    ·exact absurd ⟨n,hn,h⟩ hc
    ·by_cases e:f n=d*(1 / 2)
     ·exact absurd ⟨n,hn,by grind⟩ hc
     ·grind⟩
   have a2:∃m,N≤m∧-f m≤d*(1 / 2):=Classical.byContradiction λhc=>h2 ⟨d*(1 / 2),by grind,N,λn hn=>by
    rcases Rat.le_total (a:=-f n) (b:=d*(1 / 2)) with h|h
    ·exact absurd ⟨n,hn,h⟩ hc
    ·by_cases e : -f n=d*(1 / 2)
     ·exact absurd ⟨n,hn,by grind⟩ hc
     ·grind⟩
   obtain ⟨m1,g1,k1⟩:=a1
   obtain ⟨m2,g2,k2⟩:=a2
   refine ⟨N,λn hn=>?_⟩
   have b1:=hN n m1 hn g1
   have b2:=hN m2 n g2 hn
   constructor<;>grind
theorem uniq{f:Nat→Rat}{m n:Int}(h:SgS f m)(k:SgS f n):m=n:=by
 rcases h with ⟨rfl,h⟩|⟨rfl,h⟩|⟨rfl,h⟩<;>rcases k with ⟨rfl,k⟩|⟨rfl,k⟩|⟨rfl,k⟩<;>first
  |rfl
  |exact (h.not k).elim
  |exact (k.not h).elim
  |exact (h.nn k).elim
  |exact (k.nn h).elim
  |exact (h.nn k.neg).elim
  |exact (k.nn h.neg).elim
theorem cg{f g:Nat→Rat}{n:Int}(h:SgS f n)(e:∀k,f k=g k):SgS g n:=by rwa [funext e] at h
theorem pos{f:Nat→Rat}(h:SgS f 1):PosS f:=by
 rcases h with ⟨e,h⟩|⟨e,h⟩|⟨e,h⟩
 ·exact h
 ·exact absurd e (by decide)
 ·exact absurd e (by decide)
theorem npos{f:Nat→Rat}(h:SgS f (-1)):PosS λn=>-f n:=by
 rcases h with ⟨e,h⟩|⟨e,h⟩|⟨e,h⟩
 ·exact absurd e (by decide)
 ·exact h
 ·exact absurd e (by decide)
theorem nul{f:Nat→Rat}(h:SgS f 0):NulS f:=by
 rcases h with ⟨e,h⟩|⟨e,h⟩|⟨e,h⟩
 ·exact absurd e (by decide)
 ·exact absurd e (by decide)
 ·exact h
theorem of_pos{f:Nat→Rat}(h:PosS f):SgS f 1:=.inl ⟨rfl,h⟩
theorem of_npos{f:Nat→Rat}(h:PosS λn=>-f n):SgS f (-1):=.inr (.inl ⟨rfl,h⟩)
theorem of_nul{f:Nat→Rat}(h:NulS f):SgS f 0:=.inr (.inr ⟨rfl,h⟩)
theorem lim{f:Nat→Rat}{n:Int}(h:SgS f n):n=1∨n = -1∨n=0:=by
 rcases h with ⟨e,h⟩|⟨e,h⟩|⟨e,h⟩<;>simp [e]
theorem neg{f:Nat→Rat}{n:Int}(h:SgS f n):SgS (λk=>-f k) (-n):=by
 rcases h with ⟨rfl,h⟩|⟨rfl,h⟩|⟨rfl,h⟩
 ·exact .inr (.inl ⟨rfl,h.cg λn=>by grind⟩)
 ·exact .inl ⟨rfl,h⟩
 ·exact .inr (.inr ⟨rfl,h.neg⟩)
theorem nadd{f g:Nat→Rat}{n:Int}(h:SgS f n)(k:NulS g):SgS (λk=>f k+g k) n:=by
 rcases h with ⟨rfl,h⟩|⟨rfl,h⟩|⟨rfl,h⟩
 ·exact .inl ⟨rfl,h.nul k⟩
 ·exact .inr (.inl ⟨rfl,(h.nul k.neg).cg λn=>by grind⟩)
 ·exact .inr (.inr ⟨rfl,h.add k⟩)
theorem near{f g:Nat→Rat}{n:Int}(h:SgS f n)(k:NulS λi=>g i-f i):SgS g n:=(h.nadd k).cg λn=>by grind
theorem same{f g:Nat→Rat}{n:Int}(h:SgS f n)(k:SgS g n):SgS (λk=>f k+g k) n:=by
 rcases h with ⟨rfl,h⟩|⟨rfl,h⟩|⟨rfl,h⟩
 ·exact .inl ⟨rfl,h.add k.pos⟩
 ·exact .inr (.inl ⟨rfl,(h.add k.npos).cg λn=>by grind⟩)
 ·exact .inr (.inr ⟨rfl,h.add k.nul⟩)
theorem mul{f g:Nat→Rat}{m n:Int}(hf:Cau f)(hg:Cau g)(h:SgS f m)(k:SgS g n):SgS (λk=>f k*g k) (m*n):=by
 rcases h with ⟨rfl,h⟩|⟨rfl,h⟩|⟨rfl,h⟩
 ·rw [Int.one_mul]
  rcases k with ⟨rfl,k⟩|⟨rfl,k⟩|⟨rfl,k⟩
  ·exact .inl ⟨rfl,h.mul k⟩
  ·exact .inr (.inl ⟨rfl,(h.mul k).cg λn=>by grind⟩)
  ·exact .inr (.inr ⟨rfl,(k.mul hf.bnd).cg λn=>by grind⟩)
 ·rcases k with ⟨rfl,k⟩|⟨rfl,k⟩|⟨rfl,k⟩
  ·exact .inr (.inl ⟨rfl,(h.mul k).cg λn=>by grind⟩)
  ·exact .inl ⟨rfl,(h.mul k).cg λn=>by grind⟩
  ·exact .inr (.inr ⟨rfl,(k.mul hf.bnd).cg λn=>by grind⟩)
 ·rw [Int.zero_mul]
  exact .inr (.inr ⟨rfl,h.mul hg.bnd⟩)
theorem const(q:Rat):SgS (λ_=>q) (sgnR q):=by
 rcases sgn_cases q with ⟨a,e⟩|⟨a,e⟩|⟨a,e⟩<;>rw [e]
 ·exact .inr (.inl ⟨rfl,⟨-q*(1 / 2),by grind,0,λn _=>by grind⟩⟩)
 ·subst a;exact .inr (.inr ⟨rfl,NulS.zero⟩)
 ·exact .inl ⟨rfl,⟨q*(1 / 2),by grind,0,λn _=>by grind⟩⟩
end SgS
def epsS(n:Nat):Rat:=1 / ((n:Rat)+1)
theorem cast_nn(n:Nat):(0:Rat)≤(n:Rat):=Rat.intCast_le_intCast.2 (show (0:Int)≤(n:Int) by omega)
theorem eps_pos(n:Nat):0<epsS n:=div_pos' (by grind) (by have:=cast_nn n;grind)
theorem eps_mul(n:Nat):epsS n*((n:Rat)+1)=1:=by
 have h:(n:Rat)+1≠0:=by have:=cast_nn n;grind
 unfold epsS;grind
theorem eps_nul:NulS epsS:=λd hd=>by
 refine ⟨d.den,λn hn=>⟨by have:=eps_pos n;grind, ?_⟩⟩
 have h1:=num_den d
 have h2:(1:Rat)≤(d.num:Rat):=Rat.intCast_le_intCast.2 (show (1:Int)≤d.num by have:=(num_gt0 d).2 hd;omega)
 have h3:((d.den:Int):Rat)≤(n:Rat):=Rat.intCast_le_intCast.2 (show (d.den:Int)≤(n:Int) by omega)
 have h4:=Rat.mul_nonneg (show 0≤d by grind) (show 0≤(n:Rat)-((d.den:Int):Rat) by grind)
 have h5:=eps_mul n
 have h6:=eps_pos n
 rcases Rat.le_total (a:=d) (b:=epsS n) with h|h
 ·have h7:=Rat.mul_nonneg (show 0≤epsS n-d by grind) (show 0≤(n:Rat)+1 by have:=cast_nn n;grind)
  grind
 ·by_cases e:epsS n=d
  ·rw [e] at h5;grind
  ·grind
def rtS(c:Rat)(n:Nat):Rat:=((isq (c*(((n:Rat)+1)*((n:Rat)+1))).floor.toNat:Nat):Rat)*epsS n
theorem rts_ok{c:Rat}(hc:0≤c)(n:Nat):0≤rtS c n∧rtS c n*rtS c n≤c∧c<(rtS c n+epsS n)*(rtS c n+epsS n):=by
 have hn:=cast_nn n
 have he:=eps_pos n
 have hm:=eps_mul n
 generalize hx:c*(((n:Rat)+1)*((n:Rat)+1))=x
 have hx0:0≤x:=by rw [← hx];exact Rat.mul_nonneg hc (Rat.mul_nonneg (by grind) (by grind))
 have f1:=Rat.floor_le (a:=x)
 have f2:=Rat.lt_floor_add_one (a:=x)
 have f0:0≤x.floor:=Rat.le_floor_iff.2 (by simpa using hx0)
 obtain ⟨i1,i2⟩:=isq_ok x.floor.toNat
 unfold rtS
 rw [hx]
 generalize isq x.floor.toNat=k at *
 have j1:(k:Rat)*(k:Rat)≤x:=by
  have:((k*k:Nat):Int)≤x.floor:=by omega
  have:=Rat.intCast_le_intCast.2 this
  have e:(((k*k:Nat):Int):Rat)=(k:Rat)*(k:Rat):=by simp [Rat.natCast_mul,Rat.intCast_natCast]
  rw [e] at this
  exact Rat.le_trans this f1
 have j2:x<((k:Rat)+1)*((k:Rat)+1):=by
  have:x.floor+1≤(((k+1)*(k+1):Nat):Int):=by omega
  have:=Rat.intCast_le_intCast.2 this
  have e:((((k+1)*(k+1):Nat):Int):Rat)=((k:Rat)+1)*((k:Rat)+1):=by simp [Rat.natCast_mul,Rat.natCast_add,Rat.intCast_natCast]
  rw [e] at this
  have e2:((x.floor+1:Int):Rat)=(x.floor:Rat)+1:=by rw [Rat.intCast_add];rfl
  grind
 have hk:=cast_nn k
 have ee:=Rat.mul_pos he he
 have q1:c=x*(epsS n*epsS n):=by rw [← hx];grind
 refine ⟨Rat.mul_nonneg hk (by grind), ?_, ?_⟩
 ·have:=Rat.mul_nonneg (show 0≤x-(k:Rat)*(k:Rat) by grind) (show 0≤epsS n*epsS n by grind)
  rw [q1];grind
 ·have:=Rat.mul_pos (show 0<((k:Rat)+1)*((k:Rat)+1)-x by grind) ee
  rw [q1];grind
theorem lt_of_sq{x y:Rat}(hy:0≤y)(h:x*x<y*y):x<y:=by
 rcases Rat.le_total (a:=y) (b:=x) with k|k
 ·have p1:=Rat.mul_nonneg (show 0≤x-y by grind) hy
  have p2:=Rat.mul_nonneg (show 0≤x-y by grind) (show 0≤x by grind)
  grind
 ·by_cases e:x=y
  ·subst e;grind
  ·grind
theorem rts_cau{c:Rat}(hc:0≤c):Cau (rtS c):=λd hd=>by
 obtain ⟨N,hN⟩:=eps_nul d hd
 refine ⟨N,λm n hm hn=>?_⟩
 obtain ⟨a1,a2,a3⟩:=rts_ok hc m
 obtain ⟨b1,b2,b3⟩:=rts_ok hc n
 have:=lt_of_sq (x:=rtS c m) (y:=rtS c n+epsS n) (by have:=eps_pos n;grind) (by grind)
 have:=(hN n hn).2
 grind
theorem rts_sq{c:Rat}(hc:0≤c):NulS λn=>rtS c n*rtS c n-c:=by
 have k:NulS λn=>epsS n*(rtS c n+rtS c n+epsS n):=eps_nul.mul (((rts_cau hc).add (rts_cau hc)).add (f:=λn=>rtS c n+rtS c n) (g:=epsS) (λd hd=>by
  obtain ⟨N,hN⟩:=eps_nul d hd
  exact ⟨N,λm n hm hn=>by have:=(hN m hm).2;have:=eps_pos n;grind⟩)).bnd
 intro d hd
 obtain ⟨N,hN⟩:=k d hd
 refine ⟨N,λn hn=>?_⟩
 obtain ⟨a1,a2,a3⟩:=rts_ok hc n
 have:=hN n hn
 simp only at this
 constructor<;>grind
theorem rts_sg{c:Rat}(hc:0≤c):SgS (rtS c) (sgnR c):=by
 obtain ⟨n,hn⟩:=SgS.ex (rts_cau hc)
 have h1:SgS (λ_=>c) (n*n):=(hn.mul (rts_cau hc) (rts_cau hc) hn).near ((rts_sq hc).neg.cg λk=>by grind)
 have h2:=h1.uniq (SgS.const c)
 have h3:n≠-1:=by
  rintro rfl
  obtain ⟨d,hd,N,hN⟩:=hn.npos
  have:=hN N (Nat.le_refl _)
  have:=(rts_ok hc N).1
  grind
 rcases hn.lim with rfl|rfl|rfl
 ·rw [← h2];exact hn
 ·exact absurd rfl h3
 ·rw [← h2];exact hn
theorem root_step{F G:Nat→Rat}{x y z:Int}{c:Rat}(hF:Cau F)(hG:Cau G)(hc:0≤c)(h1:SgS F x)(h2:SgS G y)(h3:SgS (λn=>F n*F n-c*(G n*G n)) z):
 SgS (λn=>F n+G n*rtS c n) (if x=y*sgnR c∨y*sgnR c=0 then x else if x=0 then y*sgnR c else x*z):=by
 have hr:=rts_cau hc
 have hy:=h2.mul hG hr (rts_sg hc)
 generalize y*sgnR c=t at *
 split
 ·rename_i h
  rcases h with rfl|rfl
  ·exact h1.same hy
  ·exact h1.nadd hy.nul
 ·rename_i h
  split
  ·rename_i h0
   subst h0
   exact (hy.nadd h1.nul).cg λn=>by grind
  ·rename_i h0
   have hv:Cau λn=>F n+G n*rtS c n:=hF.add (hG.mul hr)
   have hw:Cau λn=>F n-G n*rtS c n:=hF.sub (hG.mul hr)
   have ht:t = -x:=by
    rcases h1.lim with rfl|rfl|rfl<;>rcases hy.lim with rfl|rfl|rfl<;>first|rfl|(exfalso;revert h h0;decide)
   subst ht
   have kw:SgS (λn=>F n-G n*rtS c n) x:=by
    have:=h1.same (g:=λn=>-(G n*rtS c n)) (by have:=hy.neg;rwa [Int.neg_neg] at this)
    exact this.cg λn=>by grind
   obtain ⟨n,hn⟩:=SgS.ex hv
   have p:=hn.mul hv hw kw
   have q:SgS (λk=>F k*F k-c*(G k*G k)) (n*x):=p.near (((rts_sq hc).mul (hG.mul hG).bnd).cg λk=>by grind)
   have e:=q.uniq h3
   have:n=x*z:=by rw [← e];rcases h1.lim with rfl|rfl|rfl<;>rcases hn.lim with rfl|rfl|rfl<;>first|rfl|(exfalso;exact h0 rfl)
   rw [← this];exact hn
theorem sg_exI{A B C:Rat}(hC:0≤C):SgS (λn=>A+B*rtS C n) (exI A B C):=by
 have h:=root_step (Cau.const A) (Cau.const B) hC (SgS.const A) (SgS.const B) (SgS.const _)
 have e:(if sgnR A=sgnR B*sgnR C∨sgnR B*sgnR C=0 then sgnR A else if sgnR A=0 then sgnR B*sgnR C else sgnR A*sgnR (A*A-C*(B*B)))=exI A B C:=by
  unfold exI
  have:sgnR (A*A-C*(B*B))=cmpR (A*A) (B*B*C):=by
   rcases sgn_cases (A*A-C*(B*B)) with ⟨a,e⟩|⟨a,e⟩|⟨a,e⟩<;>rw [e]
   ·rw [cmpR_m (by grind)]
   ·rw [cmpR_z (by grind)]
   ·rw [cmpR_1 (by grind)]
  rw [this]
 rw [← e];exact h
def sg4(A B C D M N:Rat):Int :=
 if exI A B M=exI C D M*sgnR N∨exI C D M*sgnR N=0 then exI A B M
 else if exI A B M=0 then exI C D M*sgnR N
 else exI A B M*exI (A*A+B*B*M-N*(C*C+D*D*M)) (A*B-N*(C*D)+(A*B-N*(C*D))) M
def v2(A B M:Rat)(n:Nat):Rat:=A+B*rtS M n
def v4(A B C D M N:Rat)(n:Nat):Rat:=v2 A B M n+v2 C D M n*rtS N n
theorem v2_cau{A B M:Rat}(hM:0≤M):Cau (v2 A B M):=(Cau.const A).add ((Cau.const B).mul (rts_cau hM))
theorem v2_sg{A B M:Rat}(hM:0≤M):SgS (v2 A B M) (exI A B M):=sg_exI hM
theorem v4_sg{A B C D M N:Rat}(hM:0≤M)(hN:0≤N):SgS (v4 A B C D M N) (sg4 A B C D M N):=by
 refine root_step (v2_cau hM) (v2_cau hM) hN (v2_sg hM) (v2_sg hM) ?_
 refine (sg_exI (A:=A*A+B*B*M-N*(C*C+D*D*M)) (B:=A*B-N*(C*D)+(A*B-N*(C*D))) hM).near ?_
 exact ((rts_sq hM).mul (Cau.const (B*B-N*(D*D))).bnd).cg λn=>by unfold v2;grind
theorem Bnd.nul{f:Nat→Rat}(h:NulS f):Bnd f:=by
 obtain ⟨N,hN⟩:=h 1 (by grind)
 exact ⟨1,by grind,N,hN⟩
theorem Bnd.add{f g:Nat→Rat}(h:Bnd f)(k:Bnd g):Bnd λn=>f n+g n:=by
 obtain ⟨B,hB,N,hN⟩:=h
 obtain ⟨D,hD,M,hM⟩:=k
 refine ⟨B+D,by grind,N+M,λn hn=>?_⟩
 have:=hN n (by omega)
 have:=hM n (by omega)
 constructor<;>grind
theorem Bnd.cg{f g:Nat→Rat}(h:Bnd f)(e:∀n,f n=g n):Bnd g:=by rwa [funext e] at h
def ConS(p:Int × Int)(f:Nat→Rat):Prop:=∃g:Nat→Rat,NulS (λn=>g n-f n)∧∀n,con p (g n)
theorem ConS.const{p:Int × Int}{q:Rat}(h:con p q):ConS p λ_=>q:=⟨λ_=>q,NulS.zero.cg λn=>by grind,λ_=>h⟩
theorem ConS.cg{p:Int × Int}{f g:Nat→Rat}(h:ConS p f)(e:∀n,f n=g n):ConS p g:=by rwa [funext e] at h
theorem ConS.add{x y p:Int × Int}{f g:Nat→Rat}(e:addI x y=some p)(h:ConS x f)(k:ConS y g):ConS p λn=>f n+g n:=by
 obtain ⟨u,hu,cu⟩:=h
 obtain ⟨v,hv,cv⟩:=k
 exact ⟨λn=>u n+v n,(hu.add hv).cg λn=>by grind,λn=>con_add e (cu n) (cv n)⟩
theorem ConS.mul{x y p:Int × Int}{f g:Nat→Rat}(e:mulI x y=some p)(hf:Cau f)(hg:Cau g)(h:ConS x f)(k:ConS y g):ConS p λn=>f n*g n:=by
 obtain ⟨u,hu,cu⟩:=h
 obtain ⟨v,hv,cv⟩:=k
 have bv:Bnd v:=(hg.bnd.add (Bnd.nul hv)).cg λn=>by grind
 exact ⟨λn=>u n*v n,((hu.mul bv).add (hv.mul hf.bnd)).cg λn=>by grind,λn=>con_mul e (cu n) (cv n)⟩
theorem ConS.rt{x p:Int × Int}{c:Rat}(e:sqrtI x=some p)(hx:con x c)(h0:0≤c):ConS p (rtS c):=by
 obtain ⟨k1,k2,k3,k4⟩:=con_sqrt e hx h0
 have j1:=Rat.intCast_le_intCast.2 k3
 have j2:=Rat.intCast_le_intCast.2 k4
 have z0:((0:Int):Rat)=0:=rfl
 rw [z0] at j1
 obtain ⟨s,hs⟩:∃s:Rat,s*65536=(p.1:Rat):=⟨(p.1:Rat)*(1 / 65536),by grind⟩
 obtain ⟨t,ht⟩:∃t:Rat,t*65536=(p.2:Rat):=⟨(p.2:Rat)*(1 / 65536),by grind⟩
 rw [← hs] at k1 j1 j2
 rw [← ht] at k2 j2
 have a1:s*s≤c:=by grind
 have a2:c≤t*t:=by grind
 have s0:0≤s:=by grind
 have t0:0≤t:=by grind
 have hi:∀n,rtS c n≤t:=λn=>by
  obtain ⟨b1,b2,b3⟩:=rts_ok h0 n
  rcases Rat.le_total (a:=rtS c n) (b:=t) with h|h
  ·exact h
  ·by_cases q:rtS c n=t
   ·grind
   ·have:=sq_lt t0 (show t<rtS c n by grind)
    grind
 have lo:∀n,s<rtS c n+epsS n:=λn=>by
  obtain ⟨b1,b2,b3⟩:=rts_ok h0 n
  exact lt_of_sq (by have:=eps_pos n;grind) (by grind)
 refine ⟨λn=>if rtS c n<s then s else rtS c n,λd hd=>?_,λn=>?_⟩
 ·obtain ⟨N,hN⟩:=eps_nul d hd
  refine ⟨N,λn hn=>?_⟩
  have:=hN n hn
  have:=lo n
  by_cases hl:rtS c n<s
  ·simp only [if_pos hl];constructor<;>grind
  ·simp only [if_neg hl];constructor<;>grind
 ·have:=hi n
  unfold con
  by_cases hl:rtS c n<s
  ·simp only [if_pos hl];constructor<;>grind
  ·simp only [if_neg hl];constructor<;>grind
theorem ConS.sg{p:Int × Int}{f:Nat→Rat}{n:Int}(h:sgIv p.1 p.2=(n,true))(k:ConS p f):SgS f n:=by
 obtain ⟨g,hg,cg⟩:=k
 have z:((0:Int):Rat)=0:=rfl
 have key:SgS g n:=by
  unfold sgIv at h
  split at h
  ·rename_i hl
   injection h with h3 h4
   subst h3
   have:=Rat.intCast_lt_intCast.2 hl
   rw [z] at this
   refine .of_pos ⟨(p.1:Rat)*(1 / 131072),by grind,0,λn _=>?_⟩
   have:=(cg n).1
   grind
  ·split at h
   ·rename_i hl
    injection h with h3 h4
    subst h3
    have:=Rat.intCast_lt_intCast.2 hl
    rw [z] at this
    refine .of_npos ⟨-(p.2:Rat)*(1 / 131072),by grind,0,λn _=>?_⟩
    have:=(cg n).2
    grind
   ·injection h with h3 h4
    subst h3
    have hz:=of_decide_eq_true h4
    refine .of_nul λd hd=>⟨0,λn _=>?_⟩
    obtain ⟨a,b⟩:=cg n
    rw [hz.1,z] at a
    rw [hz.2,z] at b
    constructor<;>grind
 exact key.near (hg.neg.cg λn=>by grind)
theorem ConS.root{a b c:Rat}{p:Int × Int}(h0:0≤c)(e:rootI a b c=some p):ConS p (v2 a b c):=by
 unfold rootI at e
 cases ha:fromR a with
 |none=>rw [ha] at e;cases e
 |some x =>
  rw [ha] at e
  simp only at e
  by_cases hb:b=0
  ·rw [if_pos hb] at e
   injection e with e
   subst e
   exact (ConS.const (con_from ha)).cg λn=>by unfold v2;rw [hb];grind
  ·rw [if_neg hb] at e
   cases hy:fromR b with
   |none=>rw [hy] at e;cases e
   |some y =>
    cases hz:fromR c with
    |none=>rw [hy,hz] at e;cases e
    |some z =>
     rw [hy,hz] at e
     simp only at e
     split at e
     ·cases e
     ·cases hw:sqrtI z with
      |none=>rw [hw] at e;cases e
      |some w =>
       rw [hw] at e
       simp only at e
       cases hp:mulI y w with
       |none=>rw [hp] at e;cases e
       |some m =>
        rw [hp] at e
        simp only at e
        exact ConS.add e (ConS.const (con_from ha)) (ConS.mul hp (Cau.const b) (rts_cau h0) (ConS.const (con_from hy)) (ConS.rt hw (con_from hz) h0))
theorem ConS.lt{p q:Int × Int}{f g:Nat→Rat}(h:ConS p f)(k:ConS q g)(hl:p.2<q.1):SgS (λn=>f n-g n) (-1):=by
 obtain ⟨u,hu,cu⟩:=h
 obtain ⟨v,hv,cv⟩:=k
 have:=Rat.intCast_lt_intCast.2 hl
 have key:SgS (λn=>u n-v n) (-1):=.of_npos ⟨((q.1:Rat)-(p.2:Rat))*(1 / 131072),by grind,0,λn _=>by
  have:=(cu n).2
  have:=(cv n).1
  grind⟩
 exact key.near ((hv.sub hu).cg λn=>by grind)
def m4I(M N:Rat):Option ((Int × Int) × (Int × Int)) :=
 match fromR M,fromR N with
 |some x,some y=>(match sqrtI x,sqrtI y with|some m,some n=>some (m,n)|_,_=>none)
 |_,_=>none
def mI(q:Rat)(m:Int × Int):Option (Int × Int):=match fromR q with|some x=>mulI x m|none=>none
def quick4(A B C D M N:Rat):Option (Int × Int) :=
 match m4I M N with
 |some (m,n)=>(match mI B m,mI C n,mulI m n with
  |some b,some c,some k=>(match mI D k,fromR A with
   |some d,some a=>(match addI a b,addI c d with
    |some x,some y=>addI x y
    |_,_=>none)
   |_,_=>none)
  |_,_,_=>none)
 |none=>none
theorem mI_con{q:Rat}{m p:Int × Int}{f:Nat→Rat}(hf:Cau f)(e:mI q m=some p)(k:ConS m f):ConS p λn=>q*f n:=by
 unfold mI at e
 cases h:fromR q with
 |none=>rw [h] at e;cases e
 |some x=>rw [h] at e;exact ConS.mul e (Cau.const q) hf (ConS.const (con_from h)) k
theorem quick4_con{A B C D M N:Rat}{p:Int × Int}(hM:0≤M)(hN:0≤N)(e:quick4 A B C D M N=some p):ConS p (v4 A B C D M N):=by
 unfold quick4 m4I at e
 have cM:=rts_cau hM
 have cN:=rts_cau hN
 cases h1:fromR M with
 |none=>rw [h1] at e;cases e
 |some x =>
 cases h2:fromR N with
 |none=>rw [h1,h2] at e;cases e
 |some y =>
 rw [h1,h2] at e
 simp only at e
 cases h3:sqrtI x with
 |none=>rw [h3] at e;cases e
 |some m =>
 cases h4:sqrtI y with
 |none=>rw [h3,h4] at e;cases e
 |some n =>
 rw [h3,h4] at e
 simp only at e
 have r1:=ConS.rt h3 (con_from h1) hM
 have r2:=ConS.rt h4 (con_from h2) hN
 cases h5:mI B m with
 |none=>rw [h5] at e;cases e
 |some b =>
 cases h6:mI C n with
 |none=>rw [h5,h6] at e;cases e
 |some c =>
 cases h7:mulI m n with
 |none=>rw [h5,h6,h7] at e;cases e
 |some k =>
 rw [h5,h6,h7] at e
 simp only at e
 cases h8:mI D k with
 |none=>rw [h8] at e;cases e
 |some d =>
 cases h9:fromR A with
 |none=>rw [h8,h9] at e;cases e
 |some a =>
 rw [h8,h9] at e
 simp only at e
 cases h10:addI a b with
 |none=>rw [h10] at e;cases e
 |some u =>
 cases h11:addI c d with
 |none=>rw [h10,h11] at e;cases e
 |some v =>
 rw [h10,h11] at e
 simp only at e
 have q1:=ConS.add h10 (ConS.const (con_from h9)) (mI_con cM h5 r1)
 have q2:=ConS.add h11 (mI_con cN h6 r2) (mI_con (cM.mul cN) h8 (ConS.mul h7 cM cN r1 r2))
 exact (ConS.add e q1 q2).cg λn=>by unfold v4 v2;grind
theorem quick4_sg{A B C D M N:Rat}{p:Int × Int}{n:Int}(hM:0≤M)(hN:0≤N)(e:quick4 A B C D M N=some p)(h:sgIv p.1 p.2=(n,true)):sg4 A B C D M N=n :=
 (v4_sg hM hN).uniq ((quick4_con hM hN e).sg h)
def cmp4(a b c d e f:Rat):Int:=sg4 (a-d) b (-e) 0 c f
theorem cmp4_sg{a b c d e f:Rat}(hc:0≤c)(hf:0≤f):SgS (λn=>v2 a b c n-v2 d e f n) (cmp4 a b c d e f) :=
 (v4_sg hc hf).cg λn=>by unfold v4 v2;grind
theorem cmp4_apart{a b c d e f:Rat}{p q:Int × Int}(hc:0≤c)(hf:0≤f)(h1:rootI a b c=some p)(h2:rootI d e f=some q)(hl:p.2<q.1):cmp4 a b c d e f = -1 :=
 (cmp4_sg hc hf).uniq (ConS.lt (ConS.root hc h1) (ConS.root hf h2) hl)
theorem cmp4_neg{a b c d e f:Rat}(hc:0≤c)(hf:0≤f):cmp4 d e f a b c = -cmp4 a b c d e f :=
 (cmp4_sg hf hc).uniq ((cmp4_sg hc hf).neg.cg λn=>by grind)
theorem cmp4_apart'{a b c d e f:Rat}{p q:Int × Int}(hc:0≤c)(hf:0≤f)(h1:rootI a b c=some p)(h2:rootI d e f=some q)(hl:q.2<p.1):cmp4 a b c d e f=1:=by
 have:=cmp4_apart hf hc h2 h1 hl
 rw [cmp4_neg hc hf] at this
 omega
theorem cmp4_one{a b c d e:Rat}(hc:0≤c):cmp4 a b c d e c=exI (a-d) (b-e) c :=
 (cmp4_sg hc hc).uniq ((v2_sg hc).cg λn=>by unfold v2;grind)
theorem cmpR_sub(a d:Rat):sgnR (a-d)=cmpR a d:=by
 rcases sgn_cases (a-d) with ⟨h,e⟩|⟨h,e⟩|⟨h,e⟩<;>rw [e]
 ·rw [cmpR_m (by grind)]
 ·rw [cmpR_z (by grind)]
 ·rw [cmpR_1 (by grind)]
theorem cmp4_rat{a c d f:Rat}(hc:0≤c)(hf:0≤f):cmp4 a 0 c d 0 f=cmpR a d:=by
 rw [← cmpR_sub]
 exact (cmp4_sg hc hf).uniq ((SgS.const (a-d)).cg λn=>by unfold v2;grind)
def segD(a b c d x y:Rat):Rat :=
 if (c-a)*(x-a)+(d-b)*(y-b)≤0 then (x-a)*(x-a)+(y-b)*(y-b)
 else if (c-a)*(c-a)+(d-b)*(d-b)≤(c-a)*(x-a)+(d-b)*(y-b) then (x-c)*(x-c)+(y-d)*(y-d)
 else ((c-a)*(y-b)-(d-b)*(x-a))*((c-a)*(y-b)-(d-b)*(x-a)) / ((c-a)*(c-a)+(d-b)*(d-b))
def swD(hx hy lx ly:Rat):Rat:=(lx-hx)*(lx-hx)+(ly-hy)*(ly-hy)
def swS(hx hy:Rat)(hz lz:Int)(lx ly:Rat):Rat:=((lz-hz:Int):Rat) / swD hx hy lx ly
def swPd(hx hy lx ly x y:Rat):Rat:=(hx-x)*(lx-hx)+(hy-y)*(ly-hy)
def swI(hx hy lx ly r x y:Rat):Rat:=swPd hx hy lx ly x y*swPd hx hy lx ly x y-swD hx hy lx ly*((hx-x)*(hx-x)+(hy-y)*(hy-y)-r*r)
structure Rt where
 a:Rat
 b:Rat
 c:Rat
def swP(hx hy:Rat)(hz:Int)(lx ly:Rat)(lz:Int)(r x y:Rat):Rt :=
 if hz=lz∨(lx-x)*(lx-x)+(ly-y)*(ly-y)≤r*r then ⟨(lz:Rat),0,0⟩
 else ⟨mkA ((hz:Rat)-swS hx hy hz lz lx ly*swPd hx hy lx ly x y) (swS hx hy hz lz lx ly) (swI hx hy lx ly r x y),
  mkB (swS hx hy hz lz lx ly) (swI hx hy lx ly r x y),mkC (swS hx hy hz lz lx ly) (swI hx hy lx ly r x y)⟩
def swR(fx fy:Rat)(fz:Int)(tx ty:Rat)(tz:Int)(r x y:Rat):Rt :=
 if fz<tz then swP tx ty tz fx fy fz r x y else swP fx fy fz tx ty tz r x y
def swOn(fx fy tx ty:Rat)(r:Int)(x y:Rat):Prop:=0≤r∧segD fx fy tx ty x y≤(r:Rat)*(r:Rat)
def okQ(b c:Rat):Bool:=if b=0∨c=0 then decide (b=0) && decide (c=0) else decide (0<c) && !isSqR c
theorem okQ_mk{b c:Rat}(h:0≤c):okQ (mkB b c) (mkC b c)=true:=by
 unfold mkB mkC
 cases hs:isSqR c with
 |true=>simp [okQ]
 |false =>
  simp only [Bool.false_eq_true,if_false,redB_of hs,redC_of hs]
  have hc:=nsq_ne hs
  by_cases hb:b=0
  ·simp [okQ,hb]
  ·unfold okQ
   rw [if_neg hb,if_neg (by rintro (h|h);exact hb h;exact hc h),decide_eq_true (show 0<c by grind),hs];rfl
theorem okQ_nn{b c:Rat}(h:okQ b c=true):0≤c:=by
 unfold okQ at h
 split at h
 ·simp at h;grind
 ·simp at h;grind
end Go.Sw
namespace Go.Sw
open Go
set_option linter.unusedVariables false
@[reducible] def Q6(a b c d e f:Rat):AV:=.agg [zs a.num,zl a.num,zs a.den,zl a.den,zs b.num,zl b.num,zs b.den,zl b.den,zs c.num,zl c.num,zs c.den,zl c.den,zs d.num,zl d.num,zs d.den,zl d.den,zs e.num,zl e.num,zs e.den,zl e.den,zs f.num,zl f.num,zs f.den,zl f.den]
theorem w_xs(a b c d:Rat):IntKind.i64.wrap (exI a b c*sgnR d)=exI a b c*sgnR d:=by
 have:=one_mul_lim (exI_lim a b c) (sgnR_lim d)
 exact wi64 (by omega) (by omega)
theorem w_xx(a b c d e f:Rat):IntKind.i64.wrap (exI a b c*exI d e f)=exI a b c*exI d e f:=by
 have:=one_mul_lim (exI_lim a b c) (exI_lim d e f)
 exact wi64 (by omega) (by omega)
section
variable {a b c d m n x y:Rat}
theorem tw_1(h:a=0):packA [AV.c (Cell.v (.int .i64 (sgnR b*sgnR c)))]=AV.int .i64 (exI a b c):=iE (by
 unfold exI
 rw [sgnR_eq0.2 h]
 split
 ·rename_i h;rcases h with h|h<;>omega
 ·simp)
theorem tw_2(h:¬a=0)(h2:sgnR b*sgnR c=0):packA [AV.c (Cell.v (.int .i64 (sgnR a)))]=AV.int .i64 (exI a b c):=iE (by unfold exI;rw [if_pos (.inr h2)])
theorem tw_3(h:¬a=0)(h2:sgnR a=sgnR b*sgnR c):packA [AV.c (Cell.v (.int .i64 (sgnR a)))]=AV.int .i64 (exI a b c):=iE (by unfold exI;rw [if_pos (.inl h2)])
theorem tw_4(h:¬a=0)(h2:¬sgnR b*sgnR c=0)(h3:¬sgnR a=sgnR b*sgnR c):packA [AV.c (Cell.v (.int .i64 (sgnR a*cmpR (a*a) (b*b*c))))]=AV.int .i64 (exI a b c):=iE (by
 unfold exI;rw [if_neg (by rintro (h|h);exact h3 h;exact h2 h),if_neg (λe=>h (sgnR_eq0.1 e))])
theorem s4_1(h:exI a b m=0):packA [AV.c (Cell.v (.int .i64 (exI c d m*sgnR n)))]=AV.int .i64 (sg4 a b c d m n):=iE (by
 unfold sg4
 rw [h]
 split
 ·rename_i h;rcases h with h|h<;>omega
 ·simp)
theorem s4_2(h:¬exI a b m=0)(h2:exI c d m*sgnR n=0):packA [AV.c (Cell.v (.int .i64 (exI a b m)))]=AV.int .i64 (sg4 a b c d m n):=iE (by unfold sg4;rw [if_pos (.inr h2)])
theorem s4_3(h:¬exI a b m=0)(h2:exI a b m=exI c d m*sgnR n):packA [AV.c (Cell.v (.int .i64 (exI a b m)))]=AV.int .i64 (sg4 a b c d m n):=iE (by unfold sg4;rw [if_pos (.inl h2)])
theorem s4_4(h:¬exI a b m=0)(h2:¬exI c d m*sgnR n=0)(h3:¬exI a b m=exI c d m*sgnR n):
 packA [AV.c (Cell.v (.int .i64 (exI a b m*exI (a*a+b*b*m-n*(c*c+d*d*m)) (a*b-n*(c*d)+(a*b-n*(c*d))) m)))]=AV.int .i64 (sg4 a b c d m n):=iE (by
 unfold sg4;rw [if_neg (by rintro (h|h);exact h3 h;exact h2 h),if_neg h])
theorem sqA_1{q:AV}(k1:isSq a.num=true)(k2:isSq a.den=true)(e:isSqR a=true→q=AV.tup [R (sqR a),AV.bool true]):
 packA [AV.agg [zs (if a.num<0 then 0 else (isq a.num.natAbs:Nat)),zl (if a.num<0 then 0 else (isq a.num.natAbs:Nat)),zs (if (a.den:Int)<0 then 0 else (isq (a.den:Int).natAbs:Nat)),zl (if (a.den:Int)<0 then 0 else (isq (a.den:Int).natAbs:Nat))],AV.c (Cell.v (.bool true))]=q :=
 sqrt_1 (by rw [k1];rfl) (by rw [k2];rfl) e
theorem sqA_0{q r:AV}(k1:isSq a.num=false)(e:¬isSqR a=true→q=r):r=q:=(e (sqrt_0 (.inl (by rw [k1];rfl)))).symm
theorem sqA_2{q r:AV}(k1:isSq a.den=false)(e:¬isSqR a=true→q=r):r=q:=(e (sqrt_0 (.inr (by rw [k1];rfl)))).symm
end
section
variable {fx fy tx ty x y:Rat} {r fz tz:Int}
end
section
variable {fx fy tx ty x y:Rat} {r fz tz:Int}
end
end Go.Sw
namespace Go.Proofs.YtbbfmlhkgceabaaGreat
open Go Go.RowKit Go.Sw
set_option linter.unusedVariables false
set_option maxRecDepth 100000
set_option maxHeartbeats 8000000
set_option synthInstance.maxSize 4000
set_option synthInstance.maxHeartbeats 400000
instance m_side(a:Int):DenI Tryz.prog 322 [Z a] (sz a≤10000000) (.tup [Z (if a<0 then 0 else (isq a.natAbs:Nat)),.bool (isSq a)]):=⟨λhp=>by
 have i_a:SzB a 10000000:=⟨hp⟩
 all_goals refine den_of (τ:=tab) tab_ok mixed_ Tryz.func322 rfl (by kernel_rfl) (by kernel_rfl) (by kernel_rfl) ?_
 all_goals (repeat' ((try (conv=>whnf));first
  |refine call_0 ?_
  |refine call_i ?_ ?_
  |refine call_c ?_ (λ_=>?_) (λ_=>?_)
  |(with_reducible refine onB_t ?_)
  |(with_reducible refine onB_f ?_)
  |(with_reducible refine onB_d (λ_=>?_) (λ_=>?_))
  |(with_reducible refine onB_n (λ_=>?_) (λ_=>?_))
  |refine OnB.mk (λ_=>?_) (λ_=>?_)
  |refine obl_i ?_ ?_
  |refine Drw.mk (by kernel_rfl) ?_
  |refine mks_i ?_ ?_
  |refine slp_i ?_ ?_
  |(with_reducible refine elem_u ?_ ?_)
  |(with_reducible refine elem_0 ?_)
  |(with_reducible refine elem_1 ?_)
  |refine Ends.mk ?_))
 all_goals (try refine Pr.mk ?_)
 all_goals (try simp only [nrm_] at *)
 all_goals first
  |with_reducible exact perf_1 (by assumption)
  |with_reducible exact perf_2 (by assumption)
  |((repeat' apply And.intro)<;>first|assumption|exact rzb (by omega)|exact szb (by omega)|exact Int.mul_ne_zero (den_ne _) (den_ne _))
  |skip⟩
instance m_sqrt(a:Rat):DenC Tryz.prog 280 [R a] (rz a≤1000000) (isSqR a=true) (.tup [R (sqR a),.bool true]) (.tup [ZR,.bool false]):=⟨denC λhp q e1 e2=>by
 have i_a:RzB a 1000000:=⟨hp⟩
 all_goals refine den_of (τ:=tab) tab_ok mixed_ Tryz.func280 rfl (by kernel_rfl) (by kernel_rfl) (by kernel_rfl) ?_
 all_goals (repeat' ((try (conv=>whnf));first
  |refine call_0 ?_
  |refine call_i ?_ ?_
  |refine call_c ?_ (λ_=>?_) (λ_=>?_)
  |(with_reducible refine onB_t ?_)
  |(with_reducible refine onB_f ?_)
  |(with_reducible refine onB_d (λ_=>?_) (λ_=>?_))
  |(with_reducible refine onB_n (λ_=>?_) (λ_=>?_))
  |refine OnB.mk (λ_=>?_) (λ_=>?_)
  |refine obl_i ?_ ?_
  |refine Drw.mk (by kernel_rfl) ?_
  |refine mks_i ?_ ?_
  |refine slp_i ?_ ?_
  |(with_reducible refine elem_u ?_ ?_)
  |(with_reducible refine elem_0 ?_)
  |(with_reducible refine elem_1 ?_)
  |refine Ends.mk ?_))
 all_goals (try refine Pr.mk ?_)
 all_goals (try simp only [nrm_] at *)
 all_goals first
  |with_reducible exact sqA_1 (by assumption) (by assumption) e1
  |(refine (Eq.trans ?_ (sqA_0 (by assumption) e2));rfl)
  |(refine (Eq.trans ?_ (sqA_2 (by assumption) e2));rfl)
  |((repeat' apply And.intro)<;>first|assumption|exact rzb (by omega)|exact szb (by omega)|exact Int.mul_ne_zero (den_ne _) (den_ne _))
  |skip⟩
instance m_zero : DenI Tryz.prog 59 [] (True) (R 0):=⟨λhp=>by
 refine den_of (τ:=tab) tab_ok mixed_ Tryz.func59 rfl (by kernel_rfl) (by kernel_rfl) (by kernel_rfl) ?_
 all_goals (repeat' ((try (conv=>whnf));first
  |refine call_0 ?_
  |refine call_i ?_ ?_
  |refine call_c ?_ (λ_=>?_) (λ_=>?_)
  |(with_reducible refine onB_t ?_)
  |(with_reducible refine onB_f ?_)
  |(with_reducible refine onB_d (λ_=>?_) (λ_=>?_))
  |(with_reducible refine onB_n (λ_=>?_) (λ_=>?_))
  |refine OnB.mk (λ_=>?_) (λ_=>?_)
  |refine obl_i ?_ ?_
  |refine Drw.mk (by kernel_rfl) ?_
  |refine mks_i ?_ ?_
  |refine slp_i ?_ ?_
  |(with_reducible refine elem_u ?_ ?_)
  |(with_reducible refine elem_0 ?_)
  |(with_reducible refine elem_1 ?_)
  |refine Ends.mk ?_))
 all_goals (try refine Pr.mk ?_)
 all_goals (try simp only [nrm_] at *)
 all_goals first
  |rfl
  |(simp only [redB,redC,mkA,mkB,mkC,cooC,ptC, *,true_or,or_true,if_true,if_false,or_self,and_self,and_true,true_and,and_false,false_and,not_true,not_false_iff,Bool.false_eq_true,decide_true,decide_false,Bool.or_true,Bool.true_or,Bool.or_false,Bool.false_or];rfl)
  |((repeat' apply And.intro)<;>first|assumption|exact rzb (by omega)|exact szb (by omega)|exact Int.mul_ne_zero (den_ne _) (den_ne _))
  |(exfalso;simp_all;done)
  |(exfalso;grind)
  |omega
  |((repeat' apply And.intro)<;>first|assumption|exact rzb (by omega)|exact szb (by omega)|exact Int.mul_ne_zero (den_ne _) (den_ne _))
  |skip⟩
instance m_red(a b c:Rat):DenI Tryz.prog 25 [R a,R b,R c] (rz a≤4000000∧rz b≤4000000∧rz c≤4000000) (Q3 a b (cooC b c)):=⟨λhp=>by
 have i_a:RzB a 4000000:=⟨hp.1⟩
 have i_b:RzB b 4000000:=⟨hp.2.1⟩
 have i_c:RzB c 4000000:=⟨hp.2.2⟩
 all_goals refine den_of (τ:=tab) tab_ok mixed_ Tryz.func25 rfl (by kernel_rfl) (by kernel_rfl) (by kernel_rfl) ?_
 all_goals (repeat' ((try (conv=>whnf));first
  |refine call_0 ?_
  |refine call_i ?_ ?_
  |refine call_c ?_ (λ_=>?_) (λ_=>?_)
  |(with_reducible refine onB_t ?_)
  |(with_reducible refine onB_f ?_)
  |(with_reducible refine onB_d (λ_=>?_) (λ_=>?_))
  |(with_reducible refine onB_n (λ_=>?_) (λ_=>?_))
  |refine OnB.mk (λ_=>?_) (λ_=>?_)
  |refine obl_i ?_ ?_
  |refine Drw.mk (by kernel_rfl) ?_
  |refine mks_i ?_ ?_
  |refine slp_i ?_ ?_
  |(with_reducible refine elem_u ?_ ?_)
  |(with_reducible refine elem_0 ?_)
  |(with_reducible refine elem_1 ?_)
  |refine Ends.mk ?_))
 all_goals (try refine Pr.mk ?_)
 all_goals (try simp only [nrm_] at *)
 all_goals first
  |rfl
  |(simp only [redB,redC,mkA,mkB,mkC,cooC,ptC, *,true_or,or_true,if_true,if_false,or_self,and_self,and_true,true_and,and_false,false_and,not_true,not_false_iff,Bool.false_eq_true,decide_true,decide_false,Bool.or_true,Bool.true_or,Bool.or_false,Bool.false_or];rfl)
  |((repeat' apply And.intro)<;>first|assumption|exact rzb (by omega)|exact szb (by omega)|exact Int.mul_ne_zero (den_ne _) (den_ne _))
  |(exfalso;simp_all;done)
  |(exfalso;grind)
  |omega
  |((repeat' apply And.intro)<;>first|assumption|exact rzb (by omega)|exact szb (by omega)|exact Int.mul_ne_zero (den_ne _) (den_ne _))
  |skip⟩
instance x_two(a b c:Rat):DenI Tryz.prog 328 [R a,R b,R c] (rz a≤4000000∧rz b≤4000000∧rz c≤4000000) (.int .i64 (exI a b c)):=⟨λhp=>by
 have i_a:RzB a 4000000:=⟨hp.1⟩
 have i_b:RzB b 4000000:=⟨hp.2.1⟩
 have i_c:RzB c 4000000:=⟨hp.2.2⟩
 all_goals refine den_of (τ:=tab) tab_ok mixed_ Tryz.func328 rfl (by kernel_rfl) (by kernel_rfl) (by kernel_rfl) ?_
 all_goals (repeat' ((try (conv=>whnf));first
  |refine call_0 ?_
  |refine call_i ?_ ?_
  |refine call_c ?_ (λ_=>?_) (λ_=>?_)
  |(with_reducible refine onB_t ?_)
  |(with_reducible refine onB_f ?_)
  |(with_reducible refine onB_d (λ_=>?_) (λ_=>?_))
  |(with_reducible refine onB_n (λ_=>?_) (λ_=>?_))
  |refine OnB.mk (λ_=>?_) (λ_=>?_)
  |refine obl_i ?_ ?_
  |refine Drw.mk (by kernel_rfl) ?_
  |refine mks_i ?_ ?_
  |refine slp_i ?_ ?_
  |(with_reducible refine elem_u ?_ ?_)
  |(with_reducible refine elem_0 ?_)
  |(with_reducible refine elem_1 ?_)
  |refine Ends.mk ?_))
 all_goals (try refine Pr.mk ?_)
 all_goals (try simp only [nrm_] at *)
 all_goals (try simp only [w_ss,w_sc,w_xs,w_xx] at *)
 all_goals first
  |contradiction
  |with_reducible exact tw_1 (by assumption)
  |with_reducible exact tw_2 (by assumption) (by assumption)
  |with_reducible exact tw_3 (by assumption) (by assumption)
  |with_reducible exact tw_4 (by assumption) (by assumption) (by assumption)
  |((repeat' apply And.intro)<;>first|assumption|exact rzb (by omega)|exact szb (by omega)|exact Int.mul_ne_zero (den_ne _) (den_ne _))
  |skip⟩
instance x_sign(a b c d m n:Rat):DenI Tryz.prog 285 [Q6 a b c d m n] (rz a≤80010∧rz b≤80010∧rz c≤80010∧rz d≤80010∧rz m≤80010∧rz n≤80010∧0≤m∧0≤n) (.int .i64 (sg4 a b c d m n)):=⟨λhp=>by
 have i_a:RzB a 80010:=⟨hp.1⟩
 have i_b:RzB b 80010:=⟨hp.2.1⟩
 have i_c:RzB c 80010:=⟨hp.2.2.1⟩
 have i_d:RzB d 80010:=⟨hp.2.2.2.1⟩
 have i_m:RzB m 80010:=⟨hp.2.2.2.2.1⟩
 have i_n:RzB n 80010:=⟨hp.2.2.2.2.2.1⟩
 have hpre:=hp.2.2.2.2.2.2
 all_goals refine den_of (τ:=tab) tab_ok mixed_ Tryz.func285 rfl (by kernel_rfl) (by kernel_rfl) (by kernel_rfl) ?_
 all_goals (repeat' ((try (conv=>whnf));first
  |refine call_0 ?_
  |refine call_i ?_ ?_
  |refine call_c ?_ (λ_=>?_) (λ_=>?_)
  |(with_reducible refine onB_t ?_)
  |(with_reducible refine onB_f ?_)
  |(with_reducible refine onB_d (λ_=>?_) (λ_=>?_))
  |(with_reducible refine onB_n (λ_=>?_) (λ_=>?_))
  |refine OnB.mk (λ_=>?_) (λ_=>?_)
  |refine obl_i ?_ ?_
  |refine Drw.mk (by kernel_rfl) ?_
  |refine mks_i ?_ ?_
  |refine slp_i ?_ ?_
  |(with_reducible refine elem_u ?_ ?_)
  |(with_reducible refine elem_0 ?_)
  |(with_reducible refine elem_1 ?_)
  |refine Ends.mk ?_))
 all_goals (try refine Pr.mk ?_)
 all_goals (try simp only [nrm_] at *)
 all_goals (try simp only [w_ss,w_sc,w_xs,w_xx] at *)
 all_goals first
  |contradiction
  |(exfalso;grind)
  |with_reducible exact s4_1 (by assumption)
  |with_reducible exact s4_2 (by assumption) (by assumption)
  |with_reducible exact s4_3 (by assumption) (by assumption)
  |with_reducible exact s4_4 (by assumption) (by assumption) (by assumption)
  |((repeat' apply And.intro)<;>first|assumption|exact rzb (by omega)|exact szb (by omega)|exact Int.mul_ne_zero (den_ne _) (den_ne _))
  |skip⟩
instance x_sub(a b c d e f:Rat):DenI Tryz.prog 286 [Q3 a b c,Q3 d e f] (rz a≤80000∧rz b≤80000∧rz c≤80000∧rz d≤80000∧rz e≤80000∧rz f≤80000) (Q6 (a-d) b (-e) 0 c f):=⟨λhp=>by
 have i_a:RzB a 80000:=⟨hp.1⟩
 have i_b:RzB b 80000:=⟨hp.2.1⟩
 have i_c:RzB c 80000:=⟨hp.2.2.1⟩
 have i_d:RzB d 80000:=⟨hp.2.2.2.1⟩
 have i_e:RzB e 80000:=⟨hp.2.2.2.2.1⟩
 have i_f:RzB f 80000:=⟨hp.2.2.2.2.2⟩
 all_goals refine den_of (τ:=tab) tab_ok mixed_ Tryz.func286 rfl (by kernel_rfl) (by kernel_rfl) (by kernel_rfl) ?_
 all_goals (repeat' ((try (conv=>whnf));first
  |refine call_0 ?_
  |refine call_i ?_ ?_
  |refine call_c ?_ (λ_=>?_) (λ_=>?_)
  |(with_reducible refine onB_t ?_)
  |(with_reducible refine onB_f ?_)
  |(with_reducible refine onB_d (λ_=>?_) (λ_=>?_))
  |(with_reducible refine onB_n (λ_=>?_) (λ_=>?_))
  |refine OnB.mk (λ_=>?_) (λ_=>?_)
  |refine obl_i ?_ ?_
  |refine Drw.mk (by kernel_rfl) ?_
  |refine mks_i ?_ ?_
  |refine slp_i ?_ ?_
  |(with_reducible refine elem_u ?_ ?_)
  |(with_reducible refine elem_0 ?_)
  |(with_reducible refine elem_1 ?_)
  |refine Ends.mk ?_))
 all_goals (try refine Pr.mk ?_)
 all_goals (try simp only [nrm_] at *)
 all_goals first
  |rfl
  |(simp only [redB,redC,mkA,mkB,mkC,cooC,ptC, *,true_or,or_true,if_true,if_false,or_self,and_self,and_true,true_and,and_false,false_and,not_true,not_false_iff,Bool.false_eq_true,decide_true,decide_false,Bool.or_true,Bool.true_or,Bool.or_false,Bool.false_or];rfl)
  |((repeat' apply And.intro)<;>first|assumption|exact rzb (by omega)|exact szb (by omega)|exact Int.mul_ne_zero (den_ne _) (den_ne _))
  |(exfalso;simp_all;done)
  |(exfalso;grind)
  |omega
  |((repeat' apply And.intro)<;>first|assumption|exact rzb (by omega)|exact szb (by omega)|exact Int.mul_ne_zero (den_ne _) (den_ne _))
  |skip⟩
instance x_cmp(a b c d e f:Rat):DenI Tryz.prog 241 [Q3 a b c,Q3 d e f] (rz a≤20000∧rz b≤20000∧rz c≤20000∧rz d≤20000∧rz e≤20000∧rz f≤20000∧0≤c∧0≤f) (.int .i64 (cmp4 a b c d e f)):=⟨λhp=>by
 have i_a:RzB a 20000:=⟨hp.1⟩
 have i_b:RzB b 20000:=⟨hp.2.1⟩
 have i_c:RzB c 20000:=⟨hp.2.2.1⟩
 have i_d:RzB d 20000:=⟨hp.2.2.2.1⟩
 have i_e:RzB e 20000:=⟨hp.2.2.2.2.1⟩
 have i_f:RzB f 20000:=⟨hp.2.2.2.2.2.1⟩
 have hpre:=hp.2.2.2.2.2.2
 all_goals refine den_of (τ:=tab) tab_ok mixed_ Tryz.func241 rfl (by kernel_rfl) (by kernel_rfl) (by kernel_rfl) ?_
 all_goals (repeat' ((try (conv=>whnf));first
  |refine call_0 ?_
  |refine call_i ?_ ?_
  |refine call_c ?_ (λ_=>?_) (λ_=>?_)
  |(with_reducible refine onB_t ?_)
  |(with_reducible refine onB_f ?_)
  |(with_reducible refine onB_d (λ_=>?_) (λ_=>?_))
  |(with_reducible refine onB_n (λ_=>?_) (λ_=>?_))
  |refine OnB.mk (λ_=>?_) (λ_=>?_)
  |refine obl_i ?_ ?_
  |refine Drw.mk (by kernel_rfl) ?_
  |refine mks_i ?_ ?_
  |refine slp_i ?_ ?_
  |(with_reducible refine elem_u ?_ ?_)
  |(with_reducible refine elem_0 ?_)
  |(with_reducible refine elem_1 ?_)
  |refine Ends.mk ?_))
 all_goals (try refine Pr.mk ?_)
 all_goals (try simp only [nrm_] at *)
 all_goals first
  |rfl
  |exact ⟨rzb (by omega),rzb (by omega),rzb (by omega),rzb (by omega),rzb (by omega),rzb (by omega),hpre⟩
  |((repeat' apply And.intro)<;>first|assumption|exact rzb (by omega)|exact szb (by omega)|exact Int.mul_ne_zero (den_ne _) (den_ne _))
  |skip⟩
end Go.Proofs.YtbbfmlhkgceabaaGreat
namespace Go.Sw
open Go
set_option linter.unusedVariables false
section
variable {cf cg ct cu bf bg bt bu x y:Rat} {cfz ctz cr bfz btz br:Int}
end
end Go.Sw
namespace Go.Sw
open Go
set_option linter.unusedVariables false
section
variable {a b c d m n e f:Rat}
theorem rs_1(h:exI c d m*sgnR n=0):packA [AV.c (Cell.v (.int .i64 (exI a b m)))]=AV.int .i64 (sg4 a b c d m n):=iE (by unfold sg4;rw [if_pos (.inr h)])
theorem rs_2(h:exI a b m=exI c d m*sgnR n):packA [AV.c (Cell.v (.int .i64 (exI a b m)))]=AV.int .i64 (sg4 a b c d m n):=iE (by unfold sg4;rw [if_pos (.inl h)])
theorem rs_3(h1:¬exI c d m*sgnR n=0)(h2:¬exI a b m=exI c d m*sgnR n)(h3:exI a b m=0):packA [AV.c (Cell.v (.int .i64 (exI c d m*sgnR n)))]=AV.int .i64 (sg4 a b c d m n):=iE (by
 unfold sg4;rw [if_neg (by rintro (h|h);exact h2 h;exact h1 h),if_pos h3])
theorem rs_4(h1:¬exI c d m*sgnR n=0)(h2:¬exI a b m=exI c d m*sgnR n)(h3:¬exI a b m=0):
 packA [AV.c (Cell.v (.int .i64 (exI a b m*exI (a*a+m*(b*b)-n*(c*c+m*(d*d))) (a*b-n*(c*d)+(a*b-n*(c*d))) m)))]=AV.int .i64 (sg4 a b c d m n):=iE (by
 unfold sg4;rw [if_neg (by rintro (h|h);exact h2 h;exact h1 h),if_neg h3]
 have e1:a*a+m*(b*b)-n*(c*c+m*(d*d))=a*a+b*b*m-n*(c*c+d*d*m):=by grind
 rw [e1])
end
def quickA(A B C D M N:Rat):Int × Bool:=match quick4 A B C D M N with|some p=>sgIv p.1 p.2|none=>(0,false)
theorem quickA_sg{A B C D M N:Rat}(hM:0≤M)(hN:0≤N)(h:(quickA A B C D M N).2=true):(quickA A B C D M N).1=sg4 A B C D M N:=by
 unfold quickA at *
 cases hq:quick4 A B C D M N with
 |none=>rw [hq] at h;cases h
 |some p =>
  rw [hq] at h
  simp only at *
  exact (quick4_sg hM hN hq (Prod.ext rfl h)).symm
theorem iv1{x:Int × Int}(h:ivB x):x.1≤x.2∧-2305843009213693952≤x.1∧x.1≤2305843009213693952∧-2305843009213693952≤x.2∧x.2≤2305843009213693952:=by unfold ivB at h;omega
theorem iv2{x y:Int × Int}(h:ivB x)(k:ivB y):-2305843009213693952≤x.1∧x.1≤2305843009213693952∧-2305843009213693952≤x.2∧x.2≤2305843009213693952∧-2305843009213693952≤y.1∧y.1≤2305843009213693952∧-2305843009213693952≤y.2∧y.2≤2305843009213693952:=by unfold ivB at h k;omega
@[reducible] def gF(q:Rat):Int × Int:=(fromR q).getD (0,0)
@[reducible] def gS(q:Rat):Int × Int:=(sqrtI (gF q)).getD (0,0)
@[reducible] def gM(q m:Rat):Int × Int:=(mulI (gF q) (gS m)).getD (0,0)
@[reducible] def gK(m n:Rat):Int × Int:=(mulI (gS m) (gS n)).getD (0,0)
@[reducible] def gD(d m n:Rat):Int × Int:=(mulI (gF d) (gK m n)).getD (0,0)
@[reducible] def gA(a b m:Rat):Int × Int:=(addI (gF a) (gM b m)).getD (0,0)
@[reducible] def gB(c d m n:Rat):Int × Int:=(addI (gM c n) (gD d m n)).getD (0,0)
structure Qk (a b c d m n:Rat):Prop where
 h1:(fromR m).isSome=true
 h2:(sqrtI (gF m)).isSome=true
 h3:(fromR n).isSome=true
 h4:(sqrtI (gF n)).isSome=true
 h5:(fromR b).isSome=true
 h6:(mulI (gF b) (gS m)).isSome=true
 h7:(fromR c).isSome=true
 h8:(mulI (gF c) (gS n)).isSome=true
 h9:(fromR d).isSome=true
 h10:(mulI (gS m) (gS n)).isSome=true
 h11:(mulI (gF d) (gK m n)).isSome=true
 h12:(fromR a).isSome=true
 h13:(addI (gF a) (gM b m)).isSome=true
 h14:(addI (gM c n) (gD d m n)).isSome=true
 h15:(addI (gA a b m) (gB c d m n)).isSome=true
theorem isSome_get{o:Option (Int × Int)}(h:o.isSome=true):o=some (o.getD (0,0)):=by cases o with|none=>cases h|some x=>rfl
theorem quickA_y{a b c d m n:Rat}(h:Qk a b c d m n):quickA a b c d m n=sgIv ((addI (gA a b m) (gB c d m n)).getD (0,0)).1 ((addI (gA a b m) (gB c d m n)).getD (0,0)).2:=by
 have e1:=isSome_get h.h1;have e2:=isSome_get h.h2;have e3:=isSome_get h.h3;have e4:=isSome_get h.h4;have e5:=isSome_get h.h5
 have e6:=isSome_get h.h6;have e7:=isSome_get h.h7;have e8:=isSome_get h.h8;have e9:=isSome_get h.h9;have e10:=isSome_get h.h10
 have e11:=isSome_get h.h11;have e12:=isSome_get h.h12;have e13:=isSome_get h.h13;have e14:=isSome_get h.h14;have e15:=isSome_get h.h15
 unfold quickA quick4 m4I mI
 rw [e1,e3]
 simp only
 rw [e2,e4]
 simp only
 rw [e5,e7]
 simp only
 rw [e6,e8,e10]
 simp only
 rw [e9]
 simp only
 rw [e11,e12]
 simp only
 rw [e13,e14]
 simp only
 rw [e15]
 rfl
theorem quickA_n{a b c d m n:Rat}(h:¬Qk a b c d m n):quickA a b c d m n=(0,false):=by
 have key:∀p,quick4 a b c d m n=some p→Qk a b c d m n:=by
  intro p e
  unfold quick4 m4I mI at e
  cases h1:fromR m with
  |none=>rw [h1] at e;cases e
  |some x1 =>
  cases h3:fromR n with
  |none=>rw [h1,h3] at e;cases e
  |some x3 =>
  rw [h1,h3] at e;simp only at e
  cases h2:sqrtI x1 with
  |none=>rw [h2] at e;cases e
  |some x2 =>
  cases h4:sqrtI x3 with
  |none=>rw [h2,h4] at e;cases e
  |some x4 =>
  rw [h2,h4] at e;simp only at e
  cases h5:fromR b with
  |none=>rw [h5] at e;cases e
  |some x5 =>
  rw [h5] at e;simp only at e
  cases h6:mulI x5 x2 with
  |none=>rw [h6] at e;cases e
  |some x6 =>
  rw [h6] at e
  cases h7:fromR c with
  |none=>rw [h7] at e;cases e
  |some x7 =>
  rw [h7] at e;simp only at e
  cases h8:mulI x7 x4 with
  |none=>rw [h8] at e;cases e
  |some x8 =>
  rw [h8] at e
  cases h10:mulI x2 x4 with
  |none=>rw [h10] at e;cases e
  |some x10 =>
  rw [h10] at e;simp only at e
  cases h9:fromR d with
  |none=>rw [h9] at e;cases e
  |some x9 =>
  rw [h9] at e;simp only at e
  cases h11:mulI x9 x10 with
  |none=>rw [h11] at e;cases e
  |some x11 =>
  rw [h11] at e
  cases h12:fromR a with
  |none=>rw [h12] at e;cases e
  |some x12 =>
  rw [h12] at e;simp only at e
  cases h13:addI x12 x6 with
  |none=>rw [h13] at e;cases e
  |some x13 =>
  rw [h13] at e
  cases h14:addI x8 x11 with
  |none=>rw [h14] at e;cases e
  |some x14 =>
  rw [h14] at e;simp only at e
  have f1:gF m=x1:=by unfold gF;rw [h1];rfl
  have f2:gS m=x2:=by unfold gS;rw [f1,h2];rfl
  have f3:gF n=x3:=by unfold gF;rw [h3];rfl
  have f4:gS n=x4:=by unfold gS;rw [f3,h4];rfl
  have f5:gF b=x5:=by unfold gF;rw [h5];rfl
  have f6:gM b m=x6:=by unfold gM;rw [f5,f2,h6];rfl
  have f7:gF c=x7:=by unfold gF;rw [h7];rfl
  have f8:gM c n=x8:=by unfold gM;rw [f7,f4,h8];rfl
  have f9:gF d=x9:=by unfold gF;rw [h9];rfl
  have f10:gK m n=x10:=by unfold gK;rw [f2,f4,h10];rfl
  have f11:gD d m n=x11:=by unfold gD;rw [f9,f10,h11];rfl
  have f12:gF a=x12:=by unfold gF;rw [h12];rfl
  have f13:gA a b m=x13:=by unfold gA;rw [f12,f6,h13];rfl
  have f14:gB c d m n=x14:=by unfold gB;rw [f8,f11,h14];rfl
  exact ⟨by rw [h1];rfl,by rw [f1,h2];rfl,by rw [h3];rfl,by rw [f3,h4];rfl,by rw [h5];rfl,by rw [f5,f2,h6];rfl,by rw [h7];rfl,by rw [f7,f4,h8];rfl,by rw [h9];rfl,by rw [f2,f4,h10];rfl,by rw [f9,f10,h11];rfl,by rw [h12];rfl,by rw [f12,f6,h13];rfl,by rw [f8,f11,h14];rfl,by rw [f13,f14,e];rfl⟩
 unfold quickA
 cases hq:quick4 a b c d m n with
 |none=>rfl
 |some p=>exact absurd (key p hq) h
def apartI(p q:Option (Int × Int)):Int × Bool :=
 match p,q with
 |some x,some y=>if x.2<y.1 then (-1,true) else if x.1 > y.2 then (1,true) else (0,false)
 |_,_=>(0,false)
theorem apartI_cmp{a b c d e f:Rat}(hc:0≤c)(hf:0≤f)(h:(apartI (rootI a b c) (rootI d e f)).2=true):(apartI (rootI a b c) (rootI d e f)).1=cmp4 a b c d e f:=by
 cases h1:rootI a b c with
 |none=>rw [h1] at h;simp [apartI] at h
 |some x =>
  cases h2:rootI d e f with
  |none=>rw [h1,h2] at h;simp [apartI] at h
  |some y =>
   rw [h1,h2] at h
   unfold apartI at *
   simp only at *
   split
   ·rename_i hl;exact (cmp4_apart hc hf h1 h2 hl).symm
   ·split
    ·rename_i hl;exact (cmp4_apart' hc hf h1 h2 hl).symm
    ·rename_i k1 k2;rw [if_neg k1,if_neg k2] at h;cases h
end Go.Sw
